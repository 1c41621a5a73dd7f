-- by wip/tool/mine.py of this repo (the kit's printer with given contracts)
import Derived.Test.YtmmonhgfnmeieaaGreatDoorTenB
import Derived.Test.YtmmonhgfnmeieaaGreatDoorTenT
namespace Go.Proofs.YtmmonhgfnmeieaaGreatDoor.PH
open Go.RowKit Go.ZPWords Go.ZPLast Go.ZPMore
attribute [local go_sem] max2_int min2_int max_two min_two max_three min_three max_four min_four   -- for this text's walks alone
set_option linter.unusedVariables false
set_option linter.unusedSimpArgs false
set_option maxHeartbeats 8000000
set_option maxRecDepth 100000
def errW : Option Int → Value
 | none => .nilIface
 | some c => .iface 0 (.int .i64 c)
theorem errW_none : errW none = .nilIface := rfl
theorem errW_some (c : Int) : errW (some c) = .iface 0 (.int .i64 c) := rfl
/-! ### tensor_Right: function 29 -/
open Classical in
noncomputable def tensor_Right.f (f0 : List Int) (e0 : List ByteArray) : Option Bool := if Ten.Sm f0 e0 then some (Ten.tRight ⟨f0, e0⟩) else none
theorem tensor_Right.calls (m0 : Option Addr) (n0 : Nat) (f0 : List Int) (i0 : Option Addr) (k0 : Nat) (e0 : List ByteArray) (r : Bool) (w : World) (hG : Err.Gs w) (p0 : Kd.C (Kd.int .i64) w m0 f0.length f0) (q0 : f0.length ≤ n0) (r0 : Kd.C Kd.string w i0 e0.length e0) (v0 : e0.length ≤ k0) (h : tensor_Right.f f0 e0 = some r) :
  Calls Tryz.prog 29 #[.agg #[.slice m0 f0.length n0, .slice i0 e0.length k0]] w fun e w' => e = .returned (.bool r) ∧ Below w.heap.size w w' := by
 unfold tensor_Right.f at h;split at h
 · rename_i hl;injection h with h;subst h;exact Ten.tright_calls m0 n0 i0 k0 ⟨f0, e0⟩ w hG p0 q0 r0 hl.1 hl.2.1 hl.big
 cases h
theorem tensor_Right.of (s : List Int) (d : List ByteArray) (h : Ten.Sm s d) : tensor_Right.f s d = some (Ten.tRight ⟨s, d⟩) := by rw [tensor_Right.f, if_pos h]
/-! ### shape_Right: function 30 -/
noncomputable def shape_Right.f (l0 : List Int) : Option Bool := if l0.length ≤ 1000 then some (Ten.shOk l0) else none
theorem shape_Right.calls (A0 : Option Addr) (c0 : Nat) (l0 : List Int) (r : Bool) (w : World) (hr0 : Kd.C (Kd.int .i64) w A0 l0.length l0) (hc0 : l0.length ≤ c0) (h : shape_Right.f l0 = some r) :
  Calls Tryz.prog 30 #[.slice A0 l0.length c0] w fun e w' => e = .returned (.bool r) ∧ Below w.heap.size w w' := by
 unfold shape_Right.f at h;split at h
 · rename_i hl;injection h with h;subst h;exact (Ten.shRight_q A0 c0 l0 w hr0 hc0 hl).mono fun e w' hh => ⟨hh.1, hh.2.below⟩
 cases h
theorem shape_Right.of (s : List Int) (h : s.length ≤ 1000) : shape_Right.f s = some (Ten.shOk s) := by rw [shape_Right.f, if_pos h]
/-! ### shape_Size: function 31 -/
noncomputable def shape_Size.f (l0 : List Int) : Option Int := if l0.length ≤ 1000 then some (Ten.size l0) else none
theorem shape_Size.calls (A0 : Option Addr) (c0 : Nat) (l0 : List Int) (r : Int) (w : World) (hr0 : Kd.C (Kd.int .i64) w A0 l0.length l0) (hc0 : l0.length ≤ c0) (h : shape_Size.f l0 = some r) :
  Calls Tryz.prog 31 #[.slice A0 l0.length c0] w fun e w' => e = .returned (.int .i64 r) ∧ Below w.heap.size w w' := by
 unfold shape_Size.f at h;split at h
 · rename_i hl;injection h with h;subst h;exact (Ten.shSize_q A0 c0 l0 w hr0 hc0 hl).mono fun e w' hh => ⟨hh.1, hh.2.below⟩
 cases h
theorem shape_Size.of (s : List Int) (h : s.length ≤ 1000) : shape_Size.f s = some (Ten.size s) := by rw [shape_Size.f, if_pos h]
/-! ### slices_Clone_int_int: function 32 -/
noncomputable def slices_Clone_int_int.f (l0 : List Int) : Option (List Int) := if l0.length ≤ 1000000 then some l0 else none
theorem slices_Clone_int_int.calls (A0 : Option Addr) (c0 : Nat) (l0 : List Int) (r : List Int) (w : World) (hr0 : Kd.C (Kd.int .i64) w A0 l0.length l0) (hc0 : l0.length ≤ c0) (h : slices_Clone_int_int.f l0 = some r) :
  Calls Tryz.prog 32 #[.slice A0 l0.length c0] w fun e w' => ∃ v0_ : Value, e = .returned (v0_) ∧ Kd.R (Kd.int .i64) 3 w' w.heap.size (fun _ => True) v0_ r ∧ Below w.heap.size w w' := by
 unfold slices_Clone_int_int.f at h;split at h
 · rename_i hl;injection h with h;subst h;exact Ten.cloneI_calls A0 c0 l0 w hr0 hl
 cases h
theorem slices_Clone_int_int.of (l : List Int) (h : l.length ≤ 1000000) : slices_Clone_int_int.f l = some l := by rw [slices_Clone_int_int.f, if_pos h]
/-! ### slices_Clone_string_string: function 33 -/
noncomputable def slices_Clone_string_string.f (l0 : List ByteArray) : Option (List ByteArray) := if l0.length ≤ 1000000 then some l0 else none
theorem slices_Clone_string_string.calls (A0 : Option Addr) (c0 : Nat) (l0 : List ByteArray) (r : List ByteArray) (w : World) (hr0 : Kd.C Kd.string w A0 l0.length l0) (hc0 : l0.length ≤ c0) (h : slices_Clone_string_string.f l0 = some r) :
  Calls Tryz.prog 33 #[.slice A0 l0.length c0] w fun e w' => ∃ v0_ : Value, e = .returned (v0_) ∧ Kd.R Kd.string 9 w' w.heap.size (fun _ => True) v0_ r ∧ Below w.heap.size w w' := by
 unfold slices_Clone_string_string.f at h;split at h
 · rename_i hl;injection h with h;subst h;exact Ten.cloneS_calls A0 c0 l0 w hr0 hl
 cases h
theorem slices_Clone_string_string.of (l : List ByteArray) (h : l.length ≤ 1000000) : slices_Clone_string_string.f l = some l := by rw [slices_Clone_string_string.f, if_pos h]
/-! ### array_Reshape: function 14 -/
noncomputable def array_Reshape.j0 : Nat → List Int → Bool → List Int → List ByteArray → Option (List Int × List ByteArray × Int)
 | 0, _, _, _, _ => none
 | k + 1, x1, x6, n1, t0 => if x6 = true then (some (([] : List Int), ([] : List ByteArray), 1)) else ((shape_Size.f x1).bind fun y0 => (if y0 = (t0.length : Int) then ((slices_Clone_int_int.f x1).bind fun z0 => ((slices_Clone_string_string.f t0).bind fun a1 => (some (z0, a1, 0)))) else (some (([] : List Int), ([] : List ByteArray), 4))))
noncomputable def array_Reshape.f (k : Nat) (f0 : List Int) (e0 : List ByteArray) (l1 : List Int) : Option (List Int × List ByteArray × Int) := (tensor_Right.f f0 e0).bind fun h1 => (if h1 = true then ((shape_Right.f l1).bind fun b1 => (array_Reshape.j0 k l1 (!b1) f0 e0)) else (array_Reshape.j0 k l1 true f0 e0))
def array_Reshape.T5 : Bool × List (List Nat × List Nat) := (true, [([], []), ([0], [0]), ([], []), ([2], [2]), ([3, 1], [3]), ([1, 4], [1, 4]), ([5, 4, 0, 1, 2, 3, 4, 5], [5]), ([6, 0, 1, 2, 3, 4, 5, 6], [])])
def array_Reshape.B5 : List Nat := [0, 1, 0, 4, 15, 31, 63, 127]
theorem array_Reshape.tab5 : rtab .any (opsOf Tryz.f14 5) = array_Reshape.T5 := by kernel_rfl
theorem array_Reshape.bits5 : waitsOk array_Reshape.T5.2 array_Reshape.B5 = true := by kernel_rfl
theorem array_Reshape.calls (k : Nat) (m0 : Option Addr) (n0 : Nat) (f0 : List Int) (i0 : Option Addr) (k0 : Nat) (e0 : List ByteArray) (A1 : Option Addr) (c1 : Nat) (l1 : List Int) (r1 : List Int) (r2 : List ByteArray) (r3 : Int) (w : World) (hG : Err.Gs w) (p0 : Kd.C (Kd.int .i64) w m0 f0.length f0) (q0 : f0.length ≤ n0) (r0 : Kd.C Kd.string w i0 e0.length e0) (v0 : e0.length ≤ k0) (hr1 : Kd.C (Kd.int .i64) w A1 l1.length l1) (hc1 : l1.length ≤ c1) (h : array_Reshape.f k f0 e0 l1 = some (r1, r2, r3)) :
  Calls Tryz.prog 14 #[.agg #[.slice m0 f0.length n0, .slice i0 e0.length k0], .slice A1 l1.length c1] w fun e w' => ∃ v0_ v1_ : Value, e = .returned (.tuple #[.agg #[v0_, v1_], .int .i64 r3]) ∧ Kd.R (Kd.int .i64) 3 w' w.heap.size (fun _ => True) v0_ r1 ∧ Kd.R Kd.string 9 w' w.heap.size (fun _ => True) v1_ r2 ∧ Below w.heap.size w w' := by
 have hu25 := Tryz.underlying25;have d1 := A_ p0;have e1 := A_ q0;clear p0 q0;have w0 := A_ r0;have x0 := A_ v0;clear r0 v0;have o1 := A_ hr1;have p1 := A_ hc1;clear hr1 hc1;have HB := A_ (Below.refl w.heap.size w);have HGs := A_ hG;clear hG;unfold array_Reshape.f at h;have H := h;clear h;have k2 := A_ H;clear H;go_enter Tryz.func14, Tryz.ntmps14;go_upto_region 1 with (first | (refine BX_ 2 #[.slice m0 f0.length n0, .slice i0 e0.length k0] 25 ?_; intro o0 hg w4 hbox hb; have a0 := A_ (hbox); have p2 := GE_ hg; replace HB := BS_ hb; clear hb hbox hg) | (refine BX_ 4 #[.slice none 0 0, .slice none 0 0] 25 ?_; intro h0 hg w5 hbox hb; have b0 := A_ (hbox); have q2 := GE_ hg; replace HB := BU_ hb; have d0 := NB_ a0 hg; have g0 := NC_ a0 hg; replace a0 := BF_ a0 hb; clear hb hbox hg));(try simp only [Act.put, List.setIfInBounds_toArray, List.set_cons_zero, List.set_cons_succ]);go_cut [6] (fun v6 wc => ∃ (kq : Nat) (g1 : Bool), v6 = .bool g1 ∧ Aside0 (array_Reshape.j0 kq l1 g1 f0 e0 = some (r1, r2, r3)) ∧ Aside0 (kq ≤ k) ∧ Aside0 (wc.heap[o0]? = some (.cells #[(.slice m0 f0.length n0), (.slice i0 e0.length k0)] 25 (0, 0))) ∧ Aside0 (wc.heap[h0]? = some (.cells #[(.slice none 0 0), (.slice none 0 0)] 25 (0, 0))) ∧ Aside0 (Below w.heap.size w wc))
 case first =>
  have H := k2.out;clear k2;revert H;refine BV_ fun h1 A6 H => ?_;replace H := BI_ H;rcases H with ⟨rfl, H⟩ | ⟨rfl, H⟩
  · revert H;refine BV_ fun b1 A8 H => ?_;have H' := A_ H;clear H;have z2 := d0.out;have a3 := g0.out;obtain ⟨q1, t1, u1, v1⟩ := CF_ a0;go_wp2_with (first | (refine GL_ 29 8 Tryz.func29 #[.agg #[.slice m0 f0.length n0, .slice i0 e0.length k0]] ?_; (with_reducible refine (tensor_Right.calls _ _ f0 _ _ e0 true _ (Err.Gs.below HGs.out T9_) (CW_ d1) e1.out (CW_ w0) x0.out A6.out).mono ?_); rintro e w11 ⟨rfl, hb⟩; refine ⟨_, rfl, ?_⟩; replace a0 := BF_ a0 hb; replace b0 := BF_ b0 hb; replace HB := BU_ hb; clear hb) | (go_at_call 30; (with_reducible refine (shape_Right.calls _ _ l1 b1 _ (CW_ o1) p1.out A8.out).mono ?_); rintro e w12 ⟨rfl, hb⟩; replace a0 := BF_ a0 hb; replace b0 := BF_ b0 hb; replace HB := BU_ hb; clear hb));go_meet
    case rel => exact ⟨_, (!b1), S1_, H', ⟨OM_⟩, BW_ a0, BW_ b0, ⟨T9_⟩⟩
  have H' := A_ H;clear H;have s2 := d0.out;have t2 := g0.out;obtain ⟨y1, z1, a2, b2⟩ := CF_ a0;go_wp2_with (first | (refine GL_ 29 8 Tryz.func29 #[.agg #[.slice m0 f0.length n0, .slice i0 e0.length k0]] ?_; (with_reducible refine (tensor_Right.calls _ _ f0 _ _ e0 false _ (Err.Gs.below HGs.out T9_) (CW_ d1) e1.out (CW_ w0) x0.out A6.out).mono ?_); rintro e w15 ⟨rfl, hb⟩; refine ⟨_, rfl, ?_⟩; replace a0 := BF_ a0 hb; replace b0 := BF_ b0 hb; replace HB := BU_ hb; clear hb));go_meet
  case rel => exact ⟨_, (true), S1_, H', ⟨OM_⟩, BW_ a0, BW_ b0, ⟨T9_⟩⟩
 clear k2;obtain ⟨kq, g1, rfl, HA, d3, a0, b0, HB⟩ := hcut
 cases kq with
 | zero => exact absurd HA.out (by simp [array_Reshape.j0])
 | succ kj2 => ?_
 have H := HA.out;clear HA;simp only [array_Reshape.j0] at H;replace H := BI_ H;rcases H with ⟨rfl, H⟩ | ⟨rfl, H⟩
 · simp only [Option.some.injEq, Prod.mk.injEq] at H;obtain ⟨rfl, rfl, rfl⟩ := H;have u2 := g0.out;have v2 := d0.out;obtain ⟨c2, d2, e2, f2⟩ := CF_ b0;go_wp2;refine bodyPost_ret (results_ct rfl _ _ h0 25 #[.slice none 0 0, .slice none 0 0] (0, 0) _ rfl (BQ_ b0) Tryz.underlying25 rfl (by kernel_rfl)) rfl ?_;exact ⟨_, _, T4_, NIL_, NIL_, T9_⟩
 revert H;refine BV_ fun y0 w2 H => ?_;replace H := EQ_ H;rcases H with ⟨-, i1, j1, H⟩ | ⟨c20, i1, j1, H⟩
 · revert H;refine BV_ fun z0 b3 H => ?_;revert H;refine BV_ fun a1 c3 H => ?_;simp only [Option.some.injEq, Prod.mk.injEq] at H;obtain ⟨rfl, rfl, rfl⟩ := H;try go_wp2
   replace a0 := A_ (blk_drew a0.out);replace b0 := A_ (blk_drew b0.out);replace HB := A_ (below_drew1 HB.out);refine start_ (n := 7) (S := fun w' => w'.cell? ⟨o0, 0, none⟩ = some (.slice m0 f0.length n0) ∧ w'.cell? ⟨o0, 1, none⟩ = some (.slice i0 e0.length k0)) (ds := []) #[false, false, false, false, false, false, false] (by kernel_rfl) rfl rfl ⟨(blk_cell a0.out 0).trans rfl, (blk_cell a0.out 1).trans rfl⟩ (fun hHeld => ?_);generalize wc.drew = w23 at a0 b0 HB hHeld ⊢;refine pure_ (i := 0) (N := some 17) (v := ?_) (a' := ?_) #[true, false, false, false, false, false, false] rfl rfl (by kernel_rfl) (fun _ _ _ h => h) (Or.inl ⟨by rfl, ?_⟩) ?_ ?_;rotate_left
   · intro w';go_simp;with_reducible rfl
   rotate_left
   · simp only [Act.put, List.setIfInBounds_toArray, List.set_cons_zero, List.set_cons_succ, i64_w, i32_w];rfl
   refine pure_ (i := 2) (N := some 19) (v := ?_) (a' := ?_) #[true, false, true, false, false, false, false] rfl rfl (by kernel_rfl) (fun _ _ _ h => h) (Or.inl ⟨by rfl, ?_⟩) ?_ ?_;rotate_left
   · intro w';go_simp;with_reducible rfl
   rotate_left
   · simp only [Act.put, List.setIfInBounds_toArray, List.set_cons_zero, List.set_cons_succ, i64_w, i32_w];rfl
   refine take_ (i := 3) (N := some 20) (v := ?_) (a' := ?_) #[true, false, true, true, false, false, false] rfl rfl (by kernel_rfl) (fun _ _ _ h => h) (Or.inl ⟨by rfl, ?_⟩) hHeld ?_ ?_;rotate_left
   · rintro w' ⟨s0, s1⟩;go_simp;with_reducible rfl
   rotate_left
   · simp only [Act.put, List.setIfInBounds_toArray, List.set_cons_zero, List.set_cons_succ, i64_w, i32_w];rfl
   refine pure_ (i := 4) (N := some 21) (v := ?_) (a' := ?_) #[true, false, true, true, true, false, false] rfl rfl (by kernel_rfl) (fun _ _ _ h => h) (Or.inl ⟨by rfl, ?_⟩) ?_ ?_;rotate_left
   · intro w';go_simp;with_reducible rfl
   rotate_left
   · simp only [Act.put, List.setIfInBounds_toArray, List.set_cons_zero, List.set_cons_succ, i64_w, i32_w];rfl
   refine one_ (i := 1) (N := some 18) #[true, true, true, true, true, false, false] rfl rfl (by kernel_rfl) (by decide) (fun K hK => ?_);refine goes_ Tryz.func31 (by kernel_rfl) rfl #[.slice A1 l1.length c1] (by rfl) rfl rfl T2_ ?_;with_reducible refine (shape_Size.calls _ _ l1 y0 _ ?side1 ?side2 w2.out).mono ?_
   (case side1 => exact CW_ o1);(case side2 => exact p1.out);rintro e w24 ⟨rfl, hb⟩;refine ⟨_, rfl, ?_⟩;replace a0 := BF_ a0 hb;replace b0 := BF_ b0 hb;replace HB := BU_ hb;refine hK.out _ _ ⟨(blk_cell a0.out 0).trans rfl, (blk_cell a0.out 1).trans rfl⟩ (fun hHeld => ?_);clear hK K;refine norm_ (a' := ?_) ?_ ?_;rotate_left
   · show Act.put _ (some 18) _ = _;simp only [Act.put, List.setIfInBounds_toArray, List.set_cons_zero, List.set_cons_succ, i64_w, i32_w];rfl
   refine pure_ (i := 5) (N := some 22) (v := ?_) (a' := ?_) #[true, true, true, true, true, true, false] rfl rfl (by kernel_rfl) (fun _ _ _ h => h) (Or.inl ⟨by rfl, ?_⟩) ?_ ?_;rotate_left
   · intro w';go_simp;with_reducible rfl
   rotate_left
   · simp only [Act.put, List.setIfInBounds_toArray, List.set_cons_zero, List.set_cons_succ, i64_w, i32_w];rfl
   refine pure_ (i := 6) (N := some 16) (v := ?_) (a' := ?_) #[true, true, true, true, true, true, true] rfl rfl (by kernel_rfl) (fun _ _ _ h => h) (Or.inl ⟨by rfl, ?_⟩) ?_ ?_;rotate_left
   · intro w';go_simp;with_reducible rfl
   rotate_left
   · simp only [Act.put, List.setIfInBounds_toArray, List.set_cons_zero, List.set_cons_succ, i64_w, i32_w];rfl
   refine done_ (by kernel_rfl) ?_;try go_wp2
   replace a0 := A_ (blk_drew a0.out);replace b0 := A_ (blk_drew b0.out);replace HB := A_ (below_drew1 HB.out);refine start_ (n := 8) (S := fun w' => w'.cell? ⟨o0, 0, none⟩ = some (.slice m0 f0.length n0) ∧ w'.cell? ⟨o0, 1, none⟩ = some (.slice i0 e0.length k0)) (ds := []) #[false, false, false, false, false, false, false, false] (by kernel_rfl) rfl rfl ⟨(blk_cell a0.out 0).trans rfl, (blk_cell a0.out 1).trans rfl⟩ (fun hHeld => ?_); refine with_tabW array_Reshape.tab5 array_Reshape.bits5 (fun HT_ HW_ => ?_);generalize w24.drew = w25 at a0 b0 HB hHeld ⊢;refine PU_ 0 24 ?_;refine PU_ 2 26 ?_;refine TK_ 3 27 rfl (by rfl) (by rintro w' ⟨s0, s1⟩;go_simp;with_reducible rfl) hHeld ?_;refine one_ (i := 1) (N := some 25) #[true, true, true, true, false, false, false, false] rfl rfl (one_of HT_.out (by kernel_rfl)) (by decide) (fun K hK => ?_);refine goes_ Tryz.func32 (by kernel_rfl) rfl #[.slice A1 l1.length c1] (by rfl) rfl rfl T2_ ?_;with_reducible refine (slices_Clone_int_int.calls _ _ l1 z0 _ ?side1 ?side2 b3.out).mono ?_
   (case side1 => exact CW_ o1);(case side2 => exact p1.out);rintro e w26 ⟨v107, rfl, ho0, hb⟩;refine ⟨_, rfl, ?_⟩;have u0 := A_ (Kd.R_lower ho0 (below_size T9_));replace a0 := BF_ a0 hb;replace b0 := BF_ b0 hb;replace HB := BU_ hb;refine hK.out _ _ ⟨(blk_cell a0.out 0).trans rfl, (blk_cell a0.out 1).trans rfl⟩ (fun hHeld => ?_);clear hK K;refine norm_ (a' := ?_) ?_ ?_;rotate_left
   · show Act.put _ (some 25) _ = _;simp only [Act.put, List.setIfInBounds_toArray, List.set_cons_zero, List.set_cons_succ, i64_w, i32_w];rfl
   refine one_ (i := 4) (N := some 28) #[true, true, true, true, true, false, false, false] rfl rfl (one_of HT_.out (by kernel_rfl)) (by decide) (fun K hK => ?_);refine goes_ Tryz.func33 (by kernel_rfl) rfl #[.slice i0 e0.length k0] (by rfl) rfl rfl T2_ ?_;with_reducible refine (slices_Clone_string_string.calls _ _ e0 a1 _ ?side1 ?side2 c3.out).mono ?_
   (case side1 => exact CW_ w0);(case side2 => exact x0.out);rintro e w27 ⟨v110, rfl, ho0, hb⟩;refine ⟨_, rfl, ?_⟩;replace u0 := RC_ u0 hb;have f1 := A_ (Kd.R_lower ho0 (below_size T9_));replace a0 := BF_ a0 hb;replace b0 := BF_ b0 hb;replace HB := BU_ hb;obtain ⟨l2, m2, k1⟩ := Kd.R_slice f1.out;(first | subst k1 | (injection k1 with f1_ f2_ f3_; have f4_ := f1_.symm; have f5_ := f3_.symm; clear f1_ f2_ f3_; subst f4_; subst f5_));obtain ⟨n2, o2, m1⟩ := Kd.R_slice u0.out;(first | subst m1 | (injection m1 with f1_ f2_ f3_; have f4_ := f1_.symm; have f5_ := f3_.symm; clear f1_ f2_ f3_; subst f4_; subst f5_));refine hK.out _ _ ⟨(blk_cell a0.out 0).trans rfl, (blk_cell a0.out 1).trans rfl⟩ (fun hHeld => ?_);clear hK K;refine norm_ (a' := ?_) ?_ ?_;rotate_left
   · show Act.put _ (some 28) _ = _;simp only [Act.put, List.setIfInBounds_toArray, List.set_cons_zero, List.set_cons_succ, i64_w, i32_w];rfl
   refine PU_ 5 29 ?_;refine one_ (i := 6) (N := none) #[true, true, true, true, true, true, true, false] rfl rfl (one_of HT_.out (by kernel_rfl)) (by decide) (fun K hK => ?_);have hs30 : w27.cell? ⟨h0, 0, none⟩ = some (.slice none 0 0) := (blk_cell b0.out 0).trans rfl;have hfs30 := blk_frozen b0.out 0;have hns30_0 := d0.out;have hms30_0 := g0.out;have hs31 : w27.cell? ⟨h0, 1, none⟩ = some (.slice none 0 0) := (blk_cell b0.out 1).trans rfl;have hfs31 := blk_frozen b0.out 1;have hns31_0 := d0.out;have hms31_0 := g0.out;refine skip_ (w1 := ?_) (by rfl) rfl ?_ ?_;rotate_left
   · go_simp;rfl
   refine hK.out _ _ ⟨((cell_far (p := ⟨h0, _, none⟩) d0.out _).trans (((cell_far (p := ⟨h0, _, none⟩) d0.out _).trans (hHeld.1)))), ((cell_far (p := ⟨h0, _, none⟩) d0.out _).trans (((cell_far (p := ⟨h0, _, none⟩) d0.out _).trans (hHeld.2))))⟩ (fun hHeld => ?_);clear hK K;refine PU_ 7 5 ?_;refine done_ (done_of HT_.out (by kernel_rfl)) ?_;try go_wp2
   refine bodyPost_ret (results_ct rfl _ _ h0 25 #[.slice n2 z0.length o2, .slice l2 a1.length m2] (0, 0) _ rfl (BQ_ b0) Tryz.underlying25 rfl (by kernel_rfl)) rfl ?_;exact ⟨_, _, T4_, RM_ u0 (fun _ hk => trivial), RM_ f1 (fun _ hk => trivial), T9_⟩
 simp only [Option.some.injEq, Prod.mk.injEq] at H;obtain ⟨rfl, rfl, rfl⟩ := H;try go_wp2
 replace a0 := A_ (blk_drew a0.out);replace b0 := A_ (blk_drew b0.out);replace HB := A_ (below_drew1 HB.out);refine start_ (n := 7) (S := fun w' => w'.cell? ⟨o0, 0, none⟩ = some (.slice m0 f0.length n0) ∧ w'.cell? ⟨o0, 1, none⟩ = some (.slice i0 e0.length k0)) (ds := []) #[false, false, false, false, false, false, false] (by kernel_rfl) rfl rfl ⟨(blk_cell a0.out 0).trans rfl, (blk_cell a0.out 1).trans rfl⟩ (fun hHeld => ?_);generalize wc.drew = w32 at a0 b0 HB hHeld ⊢;refine pure_ (i := 0) (N := some 17) (v := ?_) (a' := ?_) #[true, false, false, false, false, false, false] rfl rfl (by kernel_rfl) (fun _ _ _ h => h) (Or.inl ⟨by rfl, ?_⟩) ?_ ?_;rotate_left
 · intro w';go_simp;with_reducible rfl
 rotate_left
 · simp only [Act.put, List.setIfInBounds_toArray, List.set_cons_zero, List.set_cons_succ, i64_w, i32_w];rfl
 refine pure_ (i := 2) (N := some 19) (v := ?_) (a' := ?_) #[true, false, true, false, false, false, false] rfl rfl (by kernel_rfl) (fun _ _ _ h => h) (Or.inl ⟨by rfl, ?_⟩) ?_ ?_;rotate_left
 · intro w';go_simp;with_reducible rfl
 rotate_left
 · simp only [Act.put, List.setIfInBounds_toArray, List.set_cons_zero, List.set_cons_succ, i64_w, i32_w];rfl
 refine take_ (i := 3) (N := some 20) (v := ?_) (a' := ?_) #[true, false, true, true, false, false, false] rfl rfl (by kernel_rfl) (fun _ _ _ h => h) (Or.inl ⟨by rfl, ?_⟩) hHeld ?_ ?_;rotate_left
 · rintro w' ⟨s0, s1⟩;go_simp;with_reducible rfl
 rotate_left
 · simp only [Act.put, List.setIfInBounds_toArray, List.set_cons_zero, List.set_cons_succ, i64_w, i32_w];rfl
 refine pure_ (i := 4) (N := some 21) (v := ?_) (a' := ?_) #[true, false, true, true, true, false, false] rfl rfl (by kernel_rfl) (fun _ _ _ h => h) (Or.inl ⟨by rfl, ?_⟩) ?_ ?_;rotate_left
 · intro w';go_simp;with_reducible rfl
 rotate_left
 · simp only [Act.put, List.setIfInBounds_toArray, List.set_cons_zero, List.set_cons_succ, i64_w, i32_w];rfl
 refine one_ (i := 1) (N := some 18) #[true, true, true, true, true, false, false] rfl rfl (by kernel_rfl) (by decide) (fun K hK => ?_);refine goes_ Tryz.func31 (by kernel_rfl) rfl #[.slice A1 l1.length c1] (by rfl) rfl rfl T2_ ?_;with_reducible refine (shape_Size.calls _ _ l1 y0 _ ?side1 ?side2 w2.out).mono ?_
 (case side1 => exact CW_ o1);(case side2 => exact p1.out);rintro e w33 ⟨rfl, hb⟩;refine ⟨_, rfl, ?_⟩;replace a0 := BF_ a0 hb;replace b0 := BF_ b0 hb;replace HB := BU_ hb;refine hK.out _ _ ⟨(blk_cell a0.out 0).trans rfl, (blk_cell a0.out 1).trans rfl⟩ (fun hHeld => ?_);clear hK K;refine norm_ (a' := ?_) ?_ ?_;rotate_left
 · show Act.put _ (some 18) _ = _;simp only [Act.put, List.setIfInBounds_toArray, List.set_cons_zero, List.set_cons_succ, i64_w, i32_w];rfl
 refine pure_ (i := 5) (N := some 22) (v := ?_) (a' := ?_) #[true, true, true, true, true, true, false] rfl rfl (by kernel_rfl) (fun _ _ _ h => h) (Or.inl ⟨by rfl, ?_⟩) ?_ ?_;rotate_left
 · intro w';go_simp;with_reducible rfl
 rotate_left
 · simp only [Act.put, List.setIfInBounds_toArray, List.set_cons_zero, List.set_cons_succ, i64_w, i32_w];rfl
 refine pure_ (i := 6) (N := some 16) (v := ?_) (a' := ?_) #[true, true, true, true, true, true, true] rfl rfl (by kernel_rfl) (fun _ _ _ h => h) (Or.inl ⟨by rfl, ?_⟩) ?_ ?_;rotate_left
 · intro w';go_simp;with_reducible rfl
 rotate_left
 · simp only [Act.put, List.setIfInBounds_toArray, List.set_cons_zero, List.set_cons_succ, i64_w, i32_w];rfl
 refine done_ (by kernel_rfl) ?_;have x2 := g0.out;have y2 := d0.out;obtain ⟨g2, h2, i2, j2⟩ := CF_ b0;try go_wp2
 refine bodyPost_ret (results_ct rfl _ _ h0 25 #[.slice none 0 0, .slice none 0 0] (0, 0) _ rfl (BQ_ b0) Tryz.underlying25 rfl (by kernel_rfl)) rfl ?_;exact ⟨_, _, T4_, NIL_, NIL_, T9_⟩
end Go.Proofs.YtmmonhgfnmeieaaGreatDoor.PH
