-- by wip/tool/mine.py of this repo (the kit's printer with given contracts)
import Derived.Test.YtmmonhgfnmeieaaGreatDoorTenF
namespace Go.Proofs.YtmmonhgfnmeieaaGreatDoor.PP
open Go.RowKit Go.ZPWords Go.ZPLast Go.ZPMore
attribute [local go_sem] max2_int min2_int max_two min_two max_three min_three max_four min_four   -- for this text's walks alone
set_option linter.unusedVariables false
set_option linter.unusedSimpArgs false
set_option maxHeartbeats 8000000
set_option maxRecDepth 100000
def errW : Option Int → Value
 | none => .nilIface
 | some c => .iface 0 (.int .i64 c)
theorem errW_none : errW none = .nilIface := rfl
theorem errW_some (c : Int) : errW (some c) = .iface 0 (.int .i64 c) := rfl
/-! ### tensor_Right: function 29 -/
open Classical in
noncomputable def tensor_Right.f (d0 : List Int) (a0 : List ByteArray) : Option Bool := if Ten.Sm d0 a0 then some (Ten.tRight ⟨d0, a0⟩) else none
theorem tensor_Right.calls (i0 : Option Addr) (k0 : Nat) (d0 : List Int) (m0 : Option Addr) (n0 : Nat) (a0 : List ByteArray) (r : Bool) (w : World) (hG : Err.Gs w) (o0 : Kd.C (Kd.int .i64) w i0 d0.length d0) (p0 : d0.length ≤ k0) (q0 : Kd.C Kd.string w m0 a0.length a0) (t0 : a0.length ≤ n0) (h : tensor_Right.f d0 a0 = some r) :
  Calls Tryz.prog 29 #[.agg #[.slice i0 d0.length k0, .slice m0 a0.length n0]] w fun e w' => e = .returned (.bool r) ∧ Below w.heap.size w w' := by
 unfold tensor_Right.f at h;split at h
 · rename_i hl;injection h with h;subst h;exact Ten.tright_calls i0 k0 m0 n0 ⟨d0, a0⟩ w hG o0 p0 q0 hl.1 hl.2.1 hl.big
 cases h
theorem tensor_Right.of (s : List Int) (d : List ByteArray) (h : Ten.Sm s d) : tensor_Right.f s d = some (Ten.tRight ⟨s, d⟩) := by rw [tensor_Right.f, if_pos h]
/-! ### shape_Right: function 30 -/
noncomputable def shape_Right.f (l0 : List Int) : Option Bool := if l0.length ≤ 1000 then some (Ten.shOk l0) else none
theorem shape_Right.calls (A0 : Option Addr) (c0 : Nat) (l0 : List Int) (r : Bool) (w : World) (hr0 : Kd.C (Kd.int .i64) w A0 l0.length l0) (hc0 : l0.length ≤ c0) (h : shape_Right.f l0 = some r) :
  Calls Tryz.prog 30 #[.slice A0 l0.length c0] w fun e w' => e = .returned (.bool r) ∧ Below w.heap.size w w' := by
 unfold shape_Right.f at h;split at h
 · rename_i hl;injection h with h;subst h;exact (Ten.shRight_q A0 c0 l0 w hr0 hc0 hl).mono fun e w' hh => ⟨hh.1, hh.2.below⟩
 cases h
theorem shape_Right.of (s : List Int) (h : s.length ≤ 1000) : shape_Right.f s = some (Ten.shOk s) := by rw [shape_Right.f, if_pos h]
/-! ### tensor_Fill: function 45 -/
open Classical in
noncomputable def tensor_Fill.f (l0 : List Int) (a1 : ByteArray) : Option (List Int × List ByteArray × Int) := if l0.length ≤ 1000 ∧ a1.size ≤ 40000000000 then some ((Ten.tFill l0 a1).1.s, (Ten.tFill l0 a1).1.d, (Ten.tFill l0 a1).2) else none
theorem tensor_Fill.calls (A0 : Option Addr) (c0 : Nat) (l0 : List Int) (a1 : ByteArray) (r1 : List Int) (r2 : List ByteArray) (r3 : Int) (w : World) (hG : Err.Gs w) (hr0 : Kd.C (Kd.int .i64) w A0 l0.length l0) (hc0 : l0.length ≤ c0) (h : tensor_Fill.f l0 a1 = some (r1, r2, r3)) :
  Calls Tryz.prog 45 #[.slice A0 l0.length c0, .string a1] w fun e w' => ∃ v0_ v1_ : Value, e = .returned (.tuple #[.agg #[v0_, v1_], .int .i64 r3]) ∧ Kd.R (Kd.int .i64) 3 w' w.heap.size (fun _ => True) v0_ r1 ∧ Kd.R Kd.string 9 w' w.heap.size (fun _ => True) v1_ r2 ∧ Below w.heap.size w w' := by
 unfold tensor_Fill.f at h;split at h
 · rename_i hl;injection h with h;injection h with h1 h2;injection h2 with h2 h3;subst h1 h2 h3;exact Ten.fill_calls A0 c0 l0 a1 w hG hr0 hc0 hl.1 hl.2
 cases h
theorem tensor_Fill.of (s : List Int) (k : ByteArray) (h : s.length ≤ 1000) (hk : k.size ≤ 40000000000) : tensor_Fill.f s k = some ((Ten.tFill s k).1.s, (Ten.tFill s k).1.d, (Ten.tFill s k).2) := by rw [tensor_Fill.f, if_pos ⟨h, hk⟩]
/-! ### array_Spread: function 24 -/
noncomputable def array_Spread.j0 : Nat → List Int → Bool → List Int → List ByteArray → Option (List Int × List ByteArray × Int)
 | 0, _, _, _, _ => none
 | k + 1, x1, x6, w0, r0 => if x6 = true then (some (([] : List Int), ([] : List ByteArray), 1)) else (if (w0.length : Int) = 0 then (if 0 < (r0.length : Int) then ((tensor_Fill.f x1 (rdOf ByteArray.empty r0 0)).bind fun u0 => (some (u0.1, u0.2.1, u0.2.2))) else (none)) else (some (([] : List Int), ([] : List ByteArray), 4)))
noncomputable def array_Spread.f (k : Nat) (d0 : List Int) (a0 : List ByteArray) (l1 : List Int) : Option (List Int × List ByteArray × Int) := (tensor_Right.f d0 a0).bind fun j1 => (if j1 = true then ((shape_Right.f l1).bind fun x0 => (array_Spread.j0 k l1 (!x0) d0 a0)) else (array_Spread.j0 k l1 true d0 a0))
theorem array_Spread.calls (k : Nat) (i0 : Option Addr) (k0 : Nat) (d0 : List Int) (m0 : Option Addr) (n0 : Nat) (a0 : List ByteArray) (A1 : Option Addr) (c1 : Nat) (l1 : List Int) (r1 : List Int) (r2 : List ByteArray) (r3 : Int) (w : World) (hG : Err.Gs w) (o0 : Kd.C (Kd.int .i64) w i0 d0.length d0) (p0 : d0.length ≤ k0) (q0 : Kd.C Kd.string w m0 a0.length a0) (t0 : a0.length ≤ n0) (hr1 : Kd.C (Kd.int .i64) w A1 l1.length l1) (hc1 : l1.length ≤ c1) (h : array_Spread.f k d0 a0 l1 = some (r1, r2, r3)) :
  Calls Tryz.prog 24 #[.agg #[.slice i0 d0.length k0, .slice m0 a0.length n0], .slice A1 l1.length c1] w fun e w' => ∃ v0_ v1_ : Value, e = .returned (.tuple #[.agg #[v0_, v1_], .int .i64 r3]) ∧ Kd.R (Kd.int .i64) 3 w' w.heap.size (fun _ => True) v0_ r1 ∧ Kd.R Kd.string 9 w' w.heap.size (fun _ => True) v1_ r2 ∧ Below w.heap.size w w' := by
 have hu25 := Tryz.underlying25;have y0 := A_ o0;have z0 := A_ p0;clear o0 p0;have v0 := A_ q0;have b1 := A_ t0;clear q0 t0;have e3 := A_ hr1;have f3 := A_ hc1;clear hr1 hc1;have HB := A_ (Below.refl w.heap.size w);have HGs := A_ hG;clear hG;unfold array_Spread.f at h;have H := h;clear h;have w2 := A_ H;clear H;go_enter Tryz.func24, Tryz.ntmps24;go_upto_region 1 with (first | (refine BX_ 2 #[.slice i0 d0.length k0, .slice m0 a0.length n0] 25 ?_; intro k1 hg w4 hbox hb; have b0 := A_ (hbox); have g3 := GE_ hg; replace HB := BS_ hb; clear hb hbox hg) | (refine BX_ 4 #[.slice none 0 0, .slice none 0 0] 25 ?_; intro s0 hg w5 hbox hb; have e0 := A_ (hbox); have i3 := GE_ hg; replace HB := BU_ hb; have f0 := NB_ b0 hg; have g0 := NC_ b0 hg; replace b0 := BF_ b0 hb; clear hb hbox hg));(try simp only [Act.put, List.setIfInBounds_toArray, List.set_cons_zero, List.set_cons_succ]);go_cut [6] (fun v6 wc => ∃ (kq : Nat) (f1 : Bool), v6 = .bool f1 ∧ Aside0 (array_Spread.j0 kq l1 f1 d0 a0 = some (r1, r2, r3)) ∧ Aside0 (kq ≤ k) ∧ Aside0 (wc.heap[k1]? = some (.cells #[(.slice i0 d0.length k0), (.slice m0 a0.length n0)] 25 (0, 0))) ∧ Aside0 (wc.heap[s0]? = some (.cells #[(.slice none 0 0), (.slice none 0 0)] 25 (0, 0))) ∧ Aside0 (Below w.heap.size w wc))
 case first =>
  have H := w2.out;clear w2;revert H;refine BV_ fun j1 A6 H => ?_;replace H := BI_ H;rcases H with ⟨rfl, H⟩ | ⟨rfl, H⟩
  · revert H;refine BV_ fun x0 A8 H => ?_;have H' := A_ H;clear H;have x3 := f0.out;have y3 := g0.out;obtain ⟨q1, s1, t1, u1⟩ := CF_ b0;go_wp2_with (first | (refine GL_ 29 8 Tryz.func29 #[.agg #[.slice i0 d0.length k0, .slice m0 a0.length n0]] ?_; (with_reducible refine (tensor_Right.calls _ _ d0 _ _ a0 true _ (Err.Gs.below HGs.out T9_) (CW_ y0) z0.out (CW_ v0) b1.out A6.out).mono ?_); rintro e w11 ⟨rfl, hb⟩; refine ⟨_, rfl, ?_⟩; replace b0 := BF_ b0 hb; replace e0 := BF_ e0 hb; replace HB := BU_ hb; clear hb) | (go_at_call 30; (with_reducible refine (shape_Right.calls _ _ l1 x0 _ (CW_ e3) f3.out A8.out).mono ?_); rintro e w12 ⟨rfl, hb⟩; replace b0 := BF_ b0 hb; replace e0 := BF_ e0 hb; replace HB := BU_ hb; clear hb));go_meet
    case rel => exact ⟨_, (!x0), S1_, H', ⟨OM_⟩, BW_ b0, BW_ e0, ⟨T9_⟩⟩
  have H' := A_ H;clear H;have j3 := f0.out;have k3 := g0.out;obtain ⟨v1, w1, y1, z1⟩ := CF_ b0;go_wp2_with (first | (refine GL_ 29 8 Tryz.func29 #[.agg #[.slice i0 d0.length k0, .slice m0 a0.length n0]] ?_; (with_reducible refine (tensor_Right.calls _ _ d0 _ _ a0 false _ (Err.Gs.below HGs.out T9_) (CW_ y0) z0.out (CW_ v0) b1.out A6.out).mono ?_); rintro e w15 ⟨rfl, hb⟩; refine ⟨_, rfl, ?_⟩; replace b0 := BF_ b0 hb; replace e0 := BF_ e0 hb; replace HB := BU_ hb; clear hb));go_meet
  case rel => exact ⟨_, (true), S1_, H', ⟨OM_⟩, BW_ b0, BW_ e0, ⟨T9_⟩⟩
 clear w2;obtain ⟨kq, f1, rfl, HA, a4, b0, e0, HB⟩ := hcut
 cases kq with
 | zero => exact absurd HA.out (by simp [array_Spread.j0])
 | succ kj2 => ?_
 have H := HA.out;clear HA;simp only [array_Spread.j0] at H;replace H := BI_ H;rcases H with ⟨rfl, H⟩ | ⟨rfl, H⟩
 · simp only [Option.some.injEq, Prod.mk.injEq] at H;obtain ⟨rfl, rfl, rfl⟩ := H;have l3 := g0.out;have m3 := f0.out;obtain ⟨a2, b2, c2, d2⟩ := CF_ e0;go_wp2;refine bodyPost_ret (results_ct rfl _ _ s0 25 #[.slice none 0 0, .slice none 0 0] (0, 0) _ rfl (BQ_ e0) Tryz.underlying25 rfl (by kernel_rfl)) rfl ?_;exact ⟨_, _, T4_, NIL_, NIL_, T9_⟩
 replace H := EQ_ H;rcases H with ⟨-, m1, n1, H⟩ | ⟨c19, m1, n1, H⟩
 · revert H;refine YE_ fun c20 H => ?_;have n3 := decide_eq_true c20;have o3 : decide (0 < a0.length) = true := decide_eq_true (by omega);clear c20;revert H;refine BV_ ?_;rintro ⟨o1, p1, x2⟩ z3 H;simp only [Option.some.injEq, Prod.mk.injEq] at H;obtain ⟨rfl, rfl, rfl⟩ := H;have p3 := f0.out;have q3 := g0.out;obtain ⟨e2, f2, g2, i2⟩ := CF_ b0;have g1 : 0 ≤ (0 : Int) := (by omega);have i1 : 0 < (a0.length : Int) := DA_;obtain ⟨s3, e105, h0⟩ := Kd.at_string v0.out 0 g1 i1
   cases e105
   have t3 : (0 < a0.length) = True := eq_true (by omega);(try rw [show ((0 : Int)).toNat = 0 from rfl] at h0);(try rw [Addr.add_zero'] at h0);replace h0 := (HB.out.cell (World.block_lt_of_cell? w _ h0)).trans h0;replace g1 := eq_true g1;replace i1 := eq_true i1;go_wp2_with (first | (refine GL_ 45 27 Tryz.func45 #[.slice A1 l1.length c1, .string (rdOf ByteArray.empty a0 0)] ?_; (with_reducible refine (tensor_Fill.calls _ _ l1 (rdOf ByteArray.empty a0 0) o1 p1 x2 _ (Err.Gs.below HGs.out T9_) (CW_ e3) f3.out z3.out).mono ?_); rintro e w24 ⟨v107, v110, rfl, ho0, ho1, hb⟩; refine ⟨_, rfl, ?_⟩; have d1 := A_ (Kd.R_lower ho0 (below_size T9_)); have e1 := A_ (Kd.R_lower ho1 (below_size T9_)); replace b0 := BF_ b0 hb; replace e0 := BF_ e0 hb; replace HB := BU_ hb; clear hb ho0 ho1; obtain ⟨y2, z2, a3⟩ := Kd.R_slice d1.out; subst a3; obtain ⟨j2, k2, l2, m2⟩ := CF_ e0; obtain ⟨b3, c3, d3⟩ := Kd.R_slice e1.out; subst d3));refine bodyPost_ret (results_ct rfl _ _ s0 25 #[.slice y2 o1.length z2, .slice b3 p1.length c3] (0, 0) _ rfl (BQ_ e0) Tryz.underlying25 rfl (by kernel_rfl)) rfl ?_;exact ⟨_, _, T4_, RM_ d1 (fun _ hk => trivial), RM_ e1 (fun _ hk => trivial), T9_⟩
 have u3 : ¬ (d0 = []) := fun h_ => c19 (by rw [h_]; rfl);simp only [Option.some.injEq, Prod.mk.injEq] at H;obtain ⟨rfl, rfl, rfl⟩ := H;have v3 := f0.out;have w3 := g0.out;obtain ⟨n2, o2, p2, q2⟩ := CF_ b0;obtain ⟨s2, t2, u2, v2⟩ := CF_ e0;go_wp2;refine bodyPost_ret (results_ct rfl _ _ s0 25 #[.slice none 0 0, .slice none 0 0] (0, 0) _ rfl (BQ_ e0) Tryz.underlying25 rfl (by kernel_rfl)) rfl ?_;exact ⟨_, _, T4_, NIL_, NIL_, T9_⟩
end Go.Proofs.YtmmonhgfnmeieaaGreatDoor.PP
