-- by wip/tool/mine.py of this repo (the kit's printer with given contracts)
import Derived.Test.YtmmonhgfnmeieaaGreatDoorRX1
namespace Go.Proofs.YtmmonhgfnmeieaaGreatDoor.PS
open Go.RowKit Go.ZPWords Go.ZPLast Go.ZPMore
attribute [local go_sem] max2_int min2_int max_two min_two max_three min_three max_four min_four   -- for this text's walks alone
set_option linter.unusedVariables false
set_option linter.unusedSimpArgs false
set_option maxHeartbeats 8000000
set_option maxRecDepth 100000
def errW : Option Int → Value
 | none => .nilIface
 | some c => .iface 0 (.int .i64 c)
theorem errW_none : errW none = .nilIface := rfl
theorem errW_some (c : Int) : errW (some c) = .iface 0 (.int .i64 c) := rfl
/-! ### rf2_Right: function 55 -/
noncomputable def rf2_Right.f (a0 : ByteArray) : Option (Bool) := PB.rf2_Right.f a0
theorem rf2_Right.calls (a0 : ByteArray) (r : Bool) (w : World) (h : rf2_Right.f a0 = some r) :
  Calls Tryz.prog 55 #[.string a0] w fun e w' => e = .returned (.bool r) ∧ Drawn0 w w' := PB.rf2_Right.calls a0 r w h
theorem rf2_Right.of {a : ByteArray} (h : a.size ≤ 140737488351232) : rf2_Right.f a = some (Th.Wh.right a) := Th.Wh.rright_spec a h
/-! ### rf1_Right: function 56 -/
noncomputable def rf1_Right.f (a0 : ByteArray) : Option Bool := if a0.size ≤ 140737488351232 then some (Str.right a0) else none
theorem rf1_Right.calls (a0 : ByteArray) (r : Bool) (w : World) (h : rf1_Right.f a0 = some r) :
  Calls Tryz.prog 56 #[.string a0] w fun e w' => e = .returned (.bool r) ∧ Drawn0 w w' := by
 unfold rf1_Right.f at h;by_cases c : a0.size ≤ 140737488351232
 · rw [if_pos c] at h;obtain ⟨k, hk⟩ := (Th.Ref.right_spec a0 c).rounds;exact PR.rf1_Right.calls k a0 r w (hk.trans h)
 rw [if_neg c] at h
 cases h
/-! ### rf3_Lowest: function 57 -/
noncomputable def rf3_Lowest.f (a0 : ByteArray) (a1 : ByteArray) : Option (ByteArray × ByteArray) := Err.rLowest a0 a1
theorem rf3_Lowest.calls (a0 : ByteArray) (a1 : ByteArray) (r1 : ByteArray) (r2 : ByteArray) (w : World) (h : rf3_Lowest.f a0 a1 = some (r1, r2)) :
  Calls Tryz.prog 57 #[.string a0, .string a1] w fun e w' => e = .returned (.agg #[.string r1, .string r2]) ∧ Below w.heap.size w w' := Err.rLowest_calls a0 a1 r1 r2 w h
/-! ### rf3_Text: function 58 -/
noncomputable def rf3_Text.f (k0 : ByteArray) (o0 : ByteArray) : Option (ByteArray) := if k0.size + o0.size ≤ 1000000000000 then some (if (o0.toList == ([49] : List UInt8)) = true then k0 else k0 ++ (⟨#[47]⟩ : ByteArray) ++ o0) else none
theorem rf3_Text.calls (k0 : ByteArray) (o0 : ByteArray) (r : ByteArray) (w : World) (h : rf3_Text.f k0 o0 = some r) :
  Calls Tryz.prog 58 #[.agg #[.string k0, .string o0]] w fun e w' => e = .returned (.string r) ∧ Below w.heap.size w w' := by
 unfold rf3_Text.f at h;by_cases c : k0.size + o0.size ≤ 1000000000000
 · rw [if_pos c] at h;injection h with h;subst h;have hs : (k0 ++ (⟨#[47]⟩ : ByteArray)).size = k0.size + 1 := by rw [ByteArray.size_append]; rfl
   exact Err.text3 k0 o0 _ w rfl (by omega) (by omega)
 rw [if_neg c] at h
 cases h
theorem rf3_Text.rt (x : Rat) (h : Err.qm x ≤ 100000000000) : rf3_Text.f (Th.Wh.zt x.num) (Th.txt x.den) = some (Err.rt x) := by
 have h1 := (Th.Wh.zs_le x.num).2;have h2 := Err.qm_num x;have h3 := Err.qm_den x;rw [rf3_Text.f, if_pos (by omega)];by_cases hd : x.den = 1
 · rw [if_pos (by rw [beq_iff_eq]; exact Err.toList49.2 hd), Err.rt_one hd]
 rw [if_neg (by rw [beq_iff_eq]; exact fun e => hd (Err.toList49.1 e)), Err.rt_frac hd]
/-! ### rf3_Read: function 35 -/
mutual
noncomputable def rf3_Read.l0 : Nat → ByteArray → Int → Int → Option (ByteArray × ByteArray × Bool)
 | 0, _, _, _ => none
 | k + 1, x0, x4, x5 => if x5 ≥ 0 then (if 0 ≤ x5 then (if x5 < (x0.size : Int) then (if (bt x0 x5) = 47 then (rf3_Read.l0 k x0 x5 (wrap64 (x5 - 1))) else (rf3_Read.l0 k x0 x4 (wrap64 (x5 - 1)))) else (none)) else (none)) else (if 0 ≤ x4 then (if x4 ≤ (x0.size : Int) then (if x4 < (x0.size : Int) then (if 0 ≤ (wrap64 (x4 + 1)) then (if (wrap64 (x4 + 1)) ≤ (x0.size : Int) then (rf3_Read.j1 k x0 x4 (x0.extract 0 (x4 : Int).toNat) (x0.extract ((wrap64 (x4 + 1)) : Int).toNat x0.size)) else (none)) else (none)) else (rf3_Read.j1 k x0 x4 (x0.extract 0 (x4 : Int).toNat) (⟨#[49]⟩ : ByteArray))) else (none)) else (none))
noncomputable def rf3_Read.j1 : Nat → ByteArray → Int → ByteArray → ByteArray → Option (ByteArray × ByteArray × Bool)
 | 0, _, _, _, _ => none
 | k + 1, x0, x4, x6, x7 => (rf2_Right.f x6).bind fun y0 => (if y0 = true then ((rf1_Right.f x7).bind fun z0 => (if z0 = true then (if x7.toList = ([48] : List UInt8) then (rf3_Read.j2 k x0 x6 x7 true) else (if x4 < (x0.size : Int) then (rf3_Read.j2 k x0 x6 x7 (x7.toList == ([49] : List UInt8))) else (rf3_Read.j2 k x0 x6 x7 false))) else (rf3_Read.j2 k x0 x6 x7 true))) else (rf3_Read.j2 k x0 x6 x7 true))
noncomputable def rf3_Read.j2 : Nat → ByteArray → ByteArray → ByteArray → Bool → Option (ByteArray × ByteArray × Bool)
 | 0, _, _, _, _ => none
 | k + 1, x0, x6, x7, f2 => if f2 = true then (some ((⟨#[]⟩ : ByteArray), (⟨#[]⟩ : ByteArray), false)) else ((rf3_Lowest.f x6 x7).bind fun t0 => ((rf3_Text.f t0.1 t0.2).bind fun u0 => (some (t0.1, t0.2, (u0.toList == x0.toList)))))
end
noncomputable def rf3_Read.f (k : Nat) (a0 : ByteArray) : Option (ByteArray × ByteArray × Bool) := rf3_Read.l0 k a0 (a0.size : Int) (wrap64 ((a0.size : Int) - 1))
theorem rf3_Read.calls (k : Nat) (a0 : ByteArray) (r1 : ByteArray) (r2 : ByteArray) (r3 : Bool) (w : World) (h : rf3_Read.f k a0 = some (r1, r2, r3)) :
  Calls Tryz.prog 35 #[.string a0] w fun e w' => e = .returned (.tuple #[.agg #[.string r1, .string r2], .bool r3]) ∧ Below w.heap.size w w' := by
 have hu49 := Tryz.underlying49;have HB := A_ (Below.refl w.heap.size w);unfold rf3_Read.f at h;have H := h;clear h;have H' := A_ H;clear H;go_enter Tryz.func35, Tryz.ntmps35;go_wp2_with (first | ((with_reducible refine gate_dst (N := 2) rfl ?_); (try (refine gate_guard (by rfl) ?_; dsimp only)); refine BX_ 2 #[.string (⟨#[]⟩ : ByteArray), .string (⟨#[]⟩ : ByteArray)] 49 ?_; intro e0 hg w2 hbox hb; have b0 := A_ (hbox); have x1 := GE_ hg; replace HB := BS_ hb; clear hb hbox hg));go_loopg [4, 5] k (fun kq v4 v5 w' => ∃ (d0 : Int) (h0 : Int), v4 = .int .i64 d0 ∧ v5 = .int .i64 h0 ∧ Aside0 (rf3_Read.l0 kq a0 d0 h0 = some (r1, r2, r3)) ∧ Aside0 (kq ≤ k) ∧ Aside0 (w'.heap[e0]? = some (.cells #[.string (⟨#[]⟩ : ByteArray), .string (⟨#[]⟩ : ByteArray)] 49 (0, 0))) ∧ Aside0 (Below w.heap.size w w'))
 case atStart => exact ⟨((a0.size : Int)), (wrap64 ((a0.size : Int) - 1)), S1_, S1_, H', ⟨Nat.le_refl _⟩, BW_ b0, ⟨T9_⟩⟩
 clear H';obtain ⟨d0, h0, rfl, rfl, HA, HK1, b0, HB⟩ := hrel
 cases gk with
 | zero => exact absurd HA.out (by simp [rf3_Read.l0])
 | succ k1 => ?_
 have H := HA.out;clear HA;simp only [rf3_Read.l0] at H;by_cases c3 : h0 ≥ 0
 · rw [if_pos c3] at H;have t1 : decide (0 ≤ h0) = true := decide_eq_true c3;clear c3;revert H;refine YD_ fun g2 H => ?_;revert H;refine YD_ fun i2 H => ?_;replace H := EQ_ H;rcases H with ⟨-, u1, v1, H⟩ | ⟨c7, u1, v1, H⟩
   · have H' := A_ H;clear H;have p6 : 0 ≤ (h0 : Int) := DA_;have q6 : h0 < (a0.size : Int) := DA_;have hx6 := bt_at a0 h0;replace p6 := eq_true p6;replace q6 := eq_true q6;go_wp2;go_roundg k1
     case measure => have := HK1.out; omega
     case rel => exact ⟨(h0), (wrap64 (h0 - 1)), S1_, S1_, H', ⟨by have := HK1.out; omega⟩, BW_ b0, ⟨T9_⟩⟩
   have H' := A_ H;clear H;have p6 : 0 ≤ (h0 : Int) := DA_;have q6 : h0 < (a0.size : Int) := DA_;have hx6 := bt_at a0 h0;replace p6 := eq_true p6;replace q6 := eq_true q6;go_wp2;go_roundg k1
   case measure => have := HK1.out; omega
   case rel => exact ⟨(d0), (wrap64 (h0 - 1)), S1_, S1_, H', ⟨by have := HK1.out; omega⟩, BW_ b0, ⟨T9_⟩⟩
 rw [if_neg c3] at H;have t1 : decide (0 ≤ h0) = false := decide_eq_false c3;clear c3;revert H;refine YE_ fun c8 H => ?_;have k2 := eq_true c8;have l2 := decide_eq_true c8;clear c8;revert H;refine YE_ fun c9 H => ?_;have m2 := eq_true c9;have n2 := decide_eq_true c9;clear c9;have v0 := A_ H;clear H;go_upto_if 29 with (fail);go_cut [7] (fun v7 wc => ∃ (kq : Nat) (j0 : ByteArray), v7 = .string j0 ∧ Aside0 (rf3_Read.j1 kq a0 d0 (a0.extract 0 (d0 : Int).toNat) j0 = some (r1, r2, r3)) ∧ Aside0 (kq ≤ k1) ∧ Aside0 (wc.heap[e0]? = some (.cells #[.string (⟨#[]⟩ : ByteArray), .string (⟨#[]⟩ : ByteArray)] 49 (0, 0))) ∧ Aside0 (Below w.heap.size w wc))
 case first =>
  have H := v0.out;clear v0;replace H := ID_ H;rcases H with ⟨p0, H⟩ | ⟨p0, H⟩
  · (first | rw [p0] | (simp only [i64_w, i32_w]; rw [p0]) | skip);obtain ⟨ji12, hji12⟩ : ∃ j_ : Int, (wrap64 (d0 + 1)) = j_ := ⟨_, rfl⟩;first | rw [hji12] at H | simp only [hji12] at H
    have hji12w : (IntKind.i64.wrap (d0 + 1)) = ji12 := (i64_w _).trans hji12;revert H;refine YE_ fun c13 H => ?_;have y1 := eq_true c13;have z1 := decide_eq_true c13;clear c13;revert H;refine YE_ fun c14 H => ?_;have a2 := eq_true c14;have b2 := decide_eq_true c14;clear c14;have H' := A_ H;clear H;go_wp2;go_meet
    case rel => exact ⟨_, (a0.extract ((ji12) : Int).toNat a0.size), (by first | rfl | (simp; done) | (simp only [← hji12] <;> (first | rfl | simp)) | (simp [*]; done)), H', ⟨by have := HK1.out; first | omega | exact Nat.le_refl _⟩, BW_ b0, ⟨T9_⟩⟩
  (first | rw [p0] | (simp only [i64_w, i32_w]; rw [p0]) | skip);have H' := A_ H;clear H;go_wp2;go_meet
  case rel => exact ⟨_, ((⟨#[49]⟩ : ByteArray)), S1_, H', ⟨by have := HK1.out; first | omega | exact Nat.le_refl _⟩, BW_ b0, ⟨T9_⟩⟩
 clear v0;obtain ⟨kq, j0, rfl, HA, b1, b0, HB⟩ := hcut
 cases kq with
 | zero => exact absurd HA.out (by simp [rf3_Read.j1])
 | succ kj9 => ?_
 have H := HA.out;clear HA;simp only [rf3_Read.j1] at H;have w0 := A_ H;clear H;go_upto_region 10 with (fail);go_cut [55] (fun v55 wc => ∃ (kq : Nat) (r0 : Bool), v55 = .bool r0 ∧ Aside0 (rf3_Read.j2 kq a0 (a0.extract 0 (d0 : Int).toNat) j0 r0 = some (r1, r2, r3)) ∧ Aside0 (kq ≤ kj9) ∧ Aside0 (wc.heap[e0]? = some (.cells #[.string (⟨#[]⟩ : ByteArray), .string (⟨#[]⟩ : ByteArray)] 49 (0, 0))) ∧ Aside0 (Below w.heap.size w wc))
 case first =>
  have H := w0.out;clear w0;revert H;refine BV_ fun y0 c1 H => ?_;replace H := BI_ H;rcases H with ⟨rfl, H⟩ | ⟨rfl, H⟩
  · revert H;refine BV_ fun z0 f1 H => ?_;replace H := BI_ H;rcases H with ⟨rfl, H⟩ | ⟨rfl, H⟩
    · replace H := EQ_ H;rcases H with ⟨-, q0, d1, H⟩ | ⟨c20, q0, d1, H⟩
      · (first | rw [q0] | (simp only [i64_w, i32_w]; rw [q0]) | skip);have H' := A_ H;clear H;go_wp2_with (first | (refine GL_ 55 35 Tryz.func55 #[.string (a0.extract 0 (d0 : Int).toNat)] ?_; (with_reducible refine (rf2_Right.calls (a0.extract 0 (d0 : Int).toNat) true _ c1.out).mono ?_); rintro e w' ⟨rfl, ⟨nd, rfl⟩⟩; refine ⟨_, rfl, ?_⟩) | (go_at_call 56; (with_reducible refine (rf1_Right.calls j0 true _ f1.out).mono ?_); rintro e w' ⟨rfl, ⟨nd, rfl⟩⟩));go_meet
        case rel => exact ⟨_, (true), S1_, H', ⟨by have := HK1.out; have := b1.out; first | omega | exact Nat.le_refl _⟩, BW_ b0, ⟨T9_⟩⟩
      (first | rw [q0] | (simp only [i64_w, i32_w]; rw [q0]) | skip);replace H := ID_ H;rcases H with ⟨e1, H⟩ | ⟨e1, H⟩
      · have H' := A_ H;clear H;go_wp2_with (first | (refine GL_ 55 35 Tryz.func55 #[.string (a0.extract 0 (d0 : Int).toNat)] ?_; (with_reducible refine (rf2_Right.calls (a0.extract 0 (d0 : Int).toNat) true _ c1.out).mono ?_); rintro e w' ⟨rfl, ⟨nd, rfl⟩⟩; refine ⟨_, rfl, ?_⟩) | (go_at_call 56; (with_reducible refine (rf1_Right.calls j0 true _ f1.out).mono ?_); rintro e w' ⟨rfl, ⟨nd, rfl⟩⟩));go_meet
        case rel => exact ⟨_, ((j0.toList == ([49] : List UInt8))), S1_, H', ⟨by have := HK1.out; have := b1.out; first | omega | exact Nat.le_refl _⟩, BW_ b0, ⟨T9_⟩⟩
      have H' := A_ H;clear H;go_wp2_with (first | (refine GL_ 55 35 Tryz.func55 #[.string (a0.extract 0 (d0 : Int).toNat)] ?_; (with_reducible refine (rf2_Right.calls (a0.extract 0 (d0 : Int).toNat) true _ c1.out).mono ?_); rintro e w' ⟨rfl, ⟨nd, rfl⟩⟩; refine ⟨_, rfl, ?_⟩) | (go_at_call 56; (with_reducible refine (rf1_Right.calls j0 true _ f1.out).mono ?_); rintro e w' ⟨rfl, ⟨nd, rfl⟩⟩));go_meet
      case rel => exact ⟨_, (false), S1_, H', ⟨by have := HK1.out; have := b1.out; first | omega | exact Nat.le_refl _⟩, BW_ b0, ⟨T9_⟩⟩
    have H' := A_ H;clear H;go_wp2_with (first | (refine GL_ 55 35 Tryz.func55 #[.string (a0.extract 0 (d0 : Int).toNat)] ?_; (with_reducible refine (rf2_Right.calls (a0.extract 0 (d0 : Int).toNat) true _ c1.out).mono ?_); rintro e w' ⟨rfl, ⟨nd, rfl⟩⟩; refine ⟨_, rfl, ?_⟩) | (go_at_call 56; (with_reducible refine (rf1_Right.calls j0 false _ f1.out).mono ?_); rintro e w' ⟨rfl, ⟨nd, rfl⟩⟩));go_meet
    case rel => exact ⟨_, (true), S1_, H', ⟨by have := HK1.out; have := b1.out; first | omega | exact Nat.le_refl _⟩, BW_ b0, ⟨T9_⟩⟩
  have H' := A_ H;clear H;go_wp2_with (first | (refine GL_ 55 35 Tryz.func55 #[.string (a0.extract 0 (d0 : Int).toNat)] ?_; (with_reducible refine (rf2_Right.calls (a0.extract 0 (d0 : Int).toNat) false _ c1.out).mono ?_); rintro e w' ⟨rfl, ⟨nd, rfl⟩⟩; refine ⟨_, rfl, ?_⟩));go_meet
  case rel => exact ⟨_, (true), S1_, H', ⟨by have := HK1.out; have := b1.out; first | omega | exact Nat.le_refl _⟩, BW_ b0, ⟨T9_⟩⟩
 clear w0;obtain ⟨kq, r0, rfl, HA, o2, b0, HB⟩ := hcut
 cases kq with
 | zero => exact absurd HA.out (by simp [rf3_Read.j2])
 | succ kj14 => ?_
 have H := HA.out;clear HA;simp only [rf3_Read.j2] at H;replace H := BI_ H;rcases H with ⟨rfl, H⟩ | ⟨rfl, H⟩
 · simp only [Option.some.injEq, Prod.mk.injEq] at H;obtain ⟨rfl, rfl, rfl⟩ := H;obtain ⟨g1, i1, l1, m1⟩ := CF_ b0;go_wp2;refine bodyPost_ret (results_ct rfl _ _ e0 49 #[.string (⟨#[]⟩ : ByteArray), .string (⟨#[]⟩ : ByteArray)] (0, 0) _ rfl (BQ_ b0) Tryz.underlying49 rfl (by kernel_rfl)) rfl ?_;exact ⟨T4_, T9_⟩
 revert H;refine BV_ ?_;rintro ⟨m0, n0⟩ p2 H;revert H;refine BV_ fun u0 q2 H => ?_;simp only [Option.some.injEq, Prod.mk.injEq] at H;obtain ⟨rfl, rfl, rfl⟩ := H;try go_wp2_with (first | (refine GL_ 57 59 Tryz.func57 #[.string (a0.extract 0 (d0 : Int).toNat), .string j0] ?_; (with_reducible refine (rf3_Lowest.calls (a0.extract 0 (d0 : Int).toNat) j0 m0 n0 _ p2.out).mono ?_); rintro e w26 ⟨rfl, hb⟩; refine ⟨_, rfl, ?_⟩; replace b0 := BF_ b0 hb; replace HB := BU_ hb; clear hb) | ((with_reducible refine gate_dst (N := 8) rfl ?_); (try (refine gate_guard (by rfl) ?_; dsimp only)); refine BX_ 8 #[.string (⟨#[]⟩ : ByteArray), .string (⟨#[]⟩ : ByteArray)] 49 ?_; intro g0 hg w27 hbox hb; have f0 := A_ (hbox); have c2 := GE_ hg; replace HB := BU_ hb; have i0 := NB_ b0 hg; have c0 := NC_ b0 hg; replace b0 := BF_ b0 hb; clear hb hbox hg; have d2 := c0.out; have e2 := i0.out; obtain ⟨n1, o1, p1, q1⟩ := CF_ f0))
 have n0_ : Aside0 (((w27.setCell ⟨g0, 0, none⟩ (.string m0)).setCell ⟨g0, 1, none⟩ (.string n0)).heap[e0]? = some (.cells #[.string (⟨#[]⟩ : ByteArray), .string (⟨#[]⟩ : ByteArray)] 49 (0, 0))) := BW_ b0;have n1_ : Aside0 (((w27.setCell ⟨g0, 0, none⟩ (.string m0)).setCell ⟨g0, 1, none⟩ (.string n0)).heap[g0]? = some (.cells #[.string m0, .string n0] 49 (0, 0))) := ⟨BQ_ f0⟩;have n2_ : Aside0 (Below w.heap.size w ((w27.setCell ⟨g0, 0, none⟩ (.string m0)).setCell ⟨g0, 1, none⟩ (.string n0))) := ⟨T9_⟩;generalize ((w27.setCell ⟨g0, 0, none⟩ (.string m0)).setCell ⟨g0, 1, none⟩ (.string n0)) = w30 at n0_ n1_ n2_ ⊢;have b0 := n0_;have f0 := n1_;have HB := n2_;clear n0_ n1_ n2_;replace b0 := A_ (blk_drew b0.out);replace f0 := A_ (blk_drew f0.out);replace HB := A_ (below_drew1 HB.out);refine start_ (n := 7) (S := fun w' => w'.cell? ⟨g0, 0, none⟩ = some (.string m0) ∧ w'.cell? ⟨g0, 1, none⟩ = some (.string n0)) (ds := []) #[false, false, false, false, false, false, false] (by kernel_rfl) rfl rfl ⟨(blk_cell f0.out 0).trans rfl, (blk_cell f0.out 1).trans rfl⟩ (fun hHeld => ?_);generalize w30.drew = w31 at b0 f0 HB hHeld ⊢;refine pure_ (i := 3) (N := some 63) (v := ?_) (a' := ?_) #[false, false, false, true, false, false, false] rfl rfl (by kernel_rfl) (fun _ _ _ h => h) (Or.inl ⟨by rfl, ?_⟩) ?_ ?_;rotate_left
 · intro w';go_simp;with_reducible rfl
 rotate_left
 · simp only [Act.put, List.setIfInBounds_toArray, List.set_cons_zero, List.set_cons_succ, i64_w, i32_w];rfl
 refine take_ (i := 0) (N := some 60) (v := ?_) (a' := ?_) #[true, false, false, true, false, false, false] rfl rfl (by kernel_rfl) (fun _ _ _ h => h) (Or.inl ⟨by rfl, ?_⟩) hHeld ?_ ?_;rotate_left
 · rintro w' ⟨s0, s1⟩;go_simp;with_reducible rfl
 rotate_left
 · simp only [Act.put, List.setIfInBounds_toArray, List.set_cons_zero, List.set_cons_succ, i64_w, i32_w];rfl
 refine take_ (i := 1) (N := some 61) (v := ?_) (a' := ?_) #[true, true, false, true, false, false, false] rfl rfl (by kernel_rfl) (fun _ _ _ h => h) (Or.inl ⟨by rfl, ?_⟩) hHeld ?_ ?_;rotate_left
 · rintro w' ⟨s0, s1⟩;go_simp;with_reducible rfl
 rotate_left
 · simp only [Act.put, List.setIfInBounds_toArray, List.set_cons_zero, List.set_cons_succ, i64_w, i32_w];rfl
 refine one_ (i := 2) (N := some 62) #[true, true, true, true, false, false, false] rfl rfl (by kernel_rfl) (by decide) (fun K hK => ?_);refine goes_ Tryz.func58 (by kernel_rfl) rfl #[.agg #[.string m0, .string n0]] (by rfl) rfl rfl T2_ ?_;with_reducible refine (rf3_Text.calls m0 n0 u0 _ q2.out).mono ?_
 rintro e w32 ⟨rfl, hb⟩;refine ⟨_, rfl, ?_⟩;replace b0 := BF_ b0 hb;replace f0 := BF_ f0 hb;replace HB := BU_ hb;refine hK.out _ _ ⟨(blk_cell f0.out 0).trans rfl, (blk_cell f0.out 1).trans rfl⟩ (fun hHeld => ?_);clear hK K;refine norm_ (a' := ?_) ?_ ?_;rotate_left
 · show Act.put _ (some 62) _ = _;simp only [Act.put, List.setIfInBounds_toArray, List.set_cons_zero, List.set_cons_succ, i64_w, i32_w];rfl
 refine pure_ (i := 4) (N := some 64) (v := ?_) (a' := ?_) #[true, true, true, true, true, false, false] rfl rfl (by kernel_rfl) (fun _ _ _ h => h) (Or.inl ⟨by rfl, ?_⟩) ?_ ?_;rotate_left
 · intro w';go_simp;with_reducible rfl
 rotate_left
 · simp only [Act.put, List.setIfInBounds_toArray, List.set_cons_zero, List.set_cons_succ, i64_w, i32_w];rfl
 refine one_ (i := 5) (N := none) #[true, true, true, true, true, true, false] rfl rfl (by kernel_rfl) (by decide) (fun K hK => ?_);have hs33 : w32.cell? ⟨e0, 0, none⟩ = some (.string (⟨#[]⟩ : ByteArray)) := (blk_cell b0.out 0).trans rfl;have hfs33 := blk_frozen b0.out 0;have hns33_1 := c0.out;have hms33_1 := i0.out;have hs34 : w32.cell? ⟨e0, 1, none⟩ = some (.string (⟨#[]⟩ : ByteArray)) := (blk_cell b0.out 1).trans rfl;have hfs34 := blk_frozen b0.out 1;have hns34_1 := c0.out;have hms34_1 := i0.out;refine skip_ (w1 := ?_) (by rfl) rfl ?_ ?_;rotate_left
 · go_simp;rfl
 refine hK.out _ _ ⟨((cell_far (p := ⟨e0, _, none⟩) c0.out _).trans (((cell_far (p := ⟨e0, _, none⟩) c0.out _).trans (hHeld.1)))), ((cell_far (p := ⟨e0, _, none⟩) c0.out _).trans (((cell_far (p := ⟨e0, _, none⟩) c0.out _).trans (hHeld.2))))⟩ (fun hHeld => ?_);clear hK K;refine pure_ (i := 6) (N := some 3) (v := ?_) (a' := ?_) #[true, true, true, true, true, true, true] rfl rfl (by kernel_rfl) (fun _ _ _ h => h) (Or.inl ⟨by rfl, ?_⟩) ?_ ?_;rotate_left
 · intro w';go_simp;with_reducible rfl
 rotate_left
 · simp only [Act.put, List.setIfInBounds_toArray, List.set_cons_zero, List.set_cons_succ, i64_w, i32_w];rfl
 refine done_ (by kernel_rfl) ?_;try go_wp2
 refine bodyPost_ret (results_ct rfl _ _ e0 49 #[.string m0, .string n0] (0, 0) _ rfl (BQ_ b0) Tryz.underlying49 rfl (by kernel_rfl)) rfl ?_;exact ⟨T4_, T9_⟩
end Go.Proofs.YtmmonhgfnmeieaaGreatDoor.PS
