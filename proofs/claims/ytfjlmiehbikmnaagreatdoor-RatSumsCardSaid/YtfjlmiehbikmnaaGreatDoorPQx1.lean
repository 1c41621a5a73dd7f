-- by wip/tool/mine.py of this repo (the kit's printer with given contracts)
import Derived.Test.YtfjlmiehbikmnaaGreatDoorPQx0
namespace Go.Proofs.YtfjlmiehbikmnaaGreatDoor.PQ
set_option maxHeartbeats 8000000
set_option maxRecDepth 100000
open Go.RowKit Go.Proofs.YtfjlmiehbikmnaaGreatDoorW.PrintWords Go.Proofs.YtfjlmiehbikmnaaGreatDoorW.PrintLast Go.Proofs.YtfjlmiehbikmnaaGreatDoorW.PrintMore
attribute [local go_sem] max2_int min2_int max_two min_two max_three min_three max_four min_four   -- for this text's walks alone
set_option linter.unusedVariables false
set_option linter.unusedSimpArgs false

/-! ### rat_Make: function 8 -/
noncomputable def rat_Make.f (a0 : ByteArray) (a1 : ByteArray) : Option (ByteArray × Int) := if a0.size ≤ 40000000000 ∧ a1.size ≤ 40000000000 then some (Err.rMake a0 a1) else none
theorem rat_Make.calls (a0 : ByteArray) (a1 : ByteArray) (r1 : ByteArray) (r2 : Int) (w : World) (hG : Err.Gs w) (h : rat_Make.f a0 a1 = some (r1, r2)) :
  Calls Tryz.prog 8 #[.string a0, .string a1] w fun e w' => e = .returned (.tuple #[.string r1, .int .i64 r2]) ∧ Below w.heap.size w w' := by
 unfold rat_Make.f at h
 by_cases c : a0.size ≤ 40000000000 ∧ a1.size ≤ 40000000000
 ·
  rw [if_pos c] at h
  injection h with h
  have := Err.make_calls a0 a1 c.1 c.2 w hG
  rw [h] at this
  exact this
 ·
  rw [if_neg c] at h
  cases h
theorem rat_Make.of (a b : ByteArray) (ha : a.size ≤ 40000000000) (hb : b.size ≤ 40000000000) : rat_Make.f a b = some (Err.rMake a b) := by rw [rat_Make.f, if_pos ⟨ha, hb⟩]
/-! ### rat_Add: function 11 -/
noncomputable def rat_Add.f (a0 : ByteArray) (a1 : ByteArray) : Option (ByteArray × Int) := if a0.size ≤ 40000000000 ∧ a1.size ≤ 40000000000 then some (Err.rAdd a0 a1) else none
theorem rat_Add.calls (a0 : ByteArray) (a1 : ByteArray) (r1 : ByteArray) (r2 : Int) (w : World) (hG : Err.Gs w) (h : rat_Add.f a0 a1 = some (r1, r2)) :
  Calls Tryz.prog 11 #[.string a0, .string a1] w fun e w' => e = .returned (.tuple #[.string r1, .int .i64 r2]) ∧ Below w.heap.size w w' := by
 unfold rat_Add.f at h
 by_cases c : a0.size ≤ 40000000000 ∧ a1.size ≤ 40000000000
 ·
  rw [if_pos c] at h
  injection h with h
  have := Err.add_calls a0 a1 c.1 c.2 w hG
  rw [h] at this
  exact this
 ·
  rw [if_neg c] at h
  cases h
theorem rat_Add.of (a b : ByteArray) (ha : a.size ≤ 40000000000) (hb : b.size ≤ 40000000000) : rat_Add.f a b = some (Err.rAdd a b) := by rw [rat_Add.f, if_pos ⟨ha, hb⟩]
theorem rat_Add.rt {x y : Rat} (hx : Err.Fr x) (hy : Err.Fr y) : rat_Add.f (Err.rt x) (Err.rt y) = some (Err.rt (x + y), 0) := by
 rw [rat_Add.of _ _ hx.size hy.size, Err.rAdd, Err.rv_rt, Err.rv_rt]
/-! ### rat_Right: function 23 -/
noncomputable def rat_Right.f (a0 : ByteArray) : Option (Bool) := if a0.size ≤ 40000000000 then some (Err.rRight a0) else none
theorem rat_Right.calls (a0 : ByteArray) (r : Bool) (w : World) (hG : Err.Gs w) (h : rat_Right.f a0 = some r) :
  Calls Tryz.prog 23 #[.string a0] w fun e w' => e = .returned (.bool r) ∧ Below w.heap.size w w' := by
 unfold rat_Right.f at h
 by_cases c : a0.size ≤ 40000000000
 ·
  rw [if_pos c] at h
  injection h with h
  have := Err.right_calls a0 c w hG
  rw [h] at this
  exact this
 ·
  rw [if_neg c] at h
  cases h
theorem rat_Right.of (a0 : ByteArray) (h : a0.size ≤ 40000000000) : rat_Right.f a0 = some (Err.rRight a0) := by rw [rat_Right.f, if_pos h]
/-! ### tapewrightlaw03_awake: function 7 -/
noncomputable def tapewrightlaw03_awake.f  : Option (Bool) := (rat_Add.f (⟨#[49, 47, 50]⟩ : ByteArray) (⟨#[49, 47, 51]⟩ : ByteArray)).bind fun bt101 => ((rat_Make.f (⟨#[52]⟩ : ByteArray) (⟨#[45, 54]⟩ : ByteArray)).bind fun bt103 => (if bt101.1.toList = ([53, 47, 54] : List UInt8) then (if bt101.2 = 0 then (if bt103.1.toList = ([45, 50, 47, 51] : List UInt8) then (if bt103.2 = 0 then ((rat_Right.f (⟨#[45, 55, 47, 51]⟩ : ByteArray)).bind fun t105 => (if t105 = true then ((rat_Right.f (⟨#[50, 47, 52]⟩ : ByteArray)).bind fun t106 => (some (!t106))) else (some false))) else (some false)) else (some false)) else (some false)) else (some false)))
theorem tapewrightlaw03_awake.calls  (r : Bool) (w : World) (hG : Err.Gs w) (h : tapewrightlaw03_awake.f  = some r) :
  Calls Tryz.prog 7 #[] w fun e w' => e = .returned (.bool r) ∧ Below w.heap.size w w' := by
 have HB := Aside0.mk (Below.refl w.heap.size w)
 have HGs := Aside0.mk hG
 clear hG
 have H : ((rat_Add.f (⟨#[49, 47, 50]⟩ : ByteArray) (⟨#[49, 47, 51]⟩ : ByteArray)).bind fun bt101 => ((rat_Make.f (⟨#[52]⟩ : ByteArray) (⟨#[45, 54]⟩ : ByteArray)).bind fun bt103 => (if bt101.1.toList = ([53, 47, 54] : List UInt8) then (if bt101.2 = 0 then (if bt103.1.toList = ([45, 50, 47, 51] : List UInt8) then (if bt103.2 = 0 then ((rat_Right.f (⟨#[45, 55, 47, 51]⟩ : ByteArray)).bind fun t105 => (if t105 = true then ((rat_Right.f (⟨#[50, 47, 52]⟩ : ByteArray)).bind fun t106 => (some (!t106))) else (some false))) else (some false)) else (some false)) else (some false)) else (some false)))) = some r := h
 clear h
 replace H := Option.bind_eq_some_iff.mp H
 obtain ⟨⟨t101, t102⟩, A10, H⟩ := H
 replace H : ((rat_Make.f (⟨#[52]⟩ : ByteArray) (⟨#[45, 54]⟩ : ByteArray)).bind fun bt103 => (if t101.toList = ([53, 47, 54] : List UInt8) then (if t102 = 0 then (if bt103.1.toList = ([45, 50, 47, 51] : List UInt8) then (if bt103.2 = 0 then ((rat_Right.f (⟨#[45, 55, 47, 51]⟩ : ByteArray)).bind fun t105 => (if t105 = true then ((rat_Right.f (⟨#[50, 47, 52]⟩ : ByteArray)).bind fun t106 => (some (!t106))) else (some false))) else (some false)) else (some false)) else (some false)) else (some false))) = some r := H
 have A1 := Aside0.mk A10
 clear A10
 replace H := Option.bind_eq_some_iff.mp H
 obtain ⟨⟨t103, t104⟩, A20, H⟩ := H
 replace H : (if t101.toList = ([53, 47, 54] : List UInt8) then (if t102 = 0 then (if t103.toList = ([45, 50, 47, 51] : List UInt8) then (if t104 = 0 then ((rat_Right.f (⟨#[45, 55, 47, 51]⟩ : ByteArray)).bind fun t105 => (if t105 = true then ((rat_Right.f (⟨#[50, 47, 52]⟩ : ByteArray)).bind fun t106 => (some (!t106))) else (some false))) else (some false)) else (some false)) else (some false)) else (some false)) = some r := H
 have A2 := Aside0.mk A20
 clear A20
 by_cases c3 : t101.toList = ([53, 47, 54] : List UInt8)
 focus
  rw [if_pos c3] at H
  have c3b0 : (t101.toList == ([53, 47, 54] : List UInt8)) = true := beq_iff_eq.mpr c3
  have c3b1 : (t101.toList != ([53, 47, 54] : List UInt8)) = false := bne_eq_false_iff_eq.mpr c3
  clear c3
  by_cases c4 : t102 = 0
  focus
   rw [if_pos c4] at H
   have c4b0 : (t102 == 0) = true := beq_iff_eq.mpr c4
   have c4b1 : (t102 != 0) = false := bne_eq_false_iff_eq.mpr c4
   clear c4
   by_cases c5 : t103.toList = ([45, 50, 47, 51] : List UInt8)
   focus
    rw [if_pos c5] at H
    have c5b0 : (t103.toList == ([45, 50, 47, 51] : List UInt8)) = true := beq_iff_eq.mpr c5
    have c5b1 : (t103.toList != ([45, 50, 47, 51] : List UInt8)) = false := bne_eq_false_iff_eq.mpr c5
    clear c5
    by_cases c6 : t104 = 0
    focus
     rw [if_pos c6] at H
     have c6b0 : (t104 == 0) = true := beq_iff_eq.mpr c6
     have c6b1 : (t104 != 0) = false := bne_eq_false_iff_eq.mpr c6
     clear c6
     replace H := Option.bind_eq_some_iff.mp H
     obtain ⟨t105, A70, H⟩ := H
     replace H : (if t105 = true then ((rat_Right.f (⟨#[50, 47, 52]⟩ : ByteArray)).bind fun t106 => (some (!t106))) else (some false)) = some r := H
     have A7 := Aside0.mk A70
     clear A70
     by_cases c8 : t105 = true
     focus
      subst c8
      rw [if_pos rfl] at H
      replace H := Option.bind_eq_some_iff.mp H
      obtain ⟨t106, A90, H⟩ := H
      replace H : (some (!t106)) = some r := H
      have A9 := Aside0.mk A90
      clear A90
      obtain rfl := Option.some.inj H
     rotate_left 1
     focus
      replace c8 := Bool.eq_false_iff.mpr c8
      subst c8
      rw [if_neg (show ¬ (false = true) by decide)] at H
      obtain rfl := Option.some.inj H
    rotate_left 2
    focus
     rw [if_neg c6] at H
     have c6b0 : (t104 == 0) = false := beq_eq_false_iff_ne.mpr c6
     have c6b1 : (t104 != 0) = true := bne_iff_ne.mpr c6
     obtain rfl := Option.some.inj H
   rotate_left 3
   focus
    rw [if_neg c5] at H
    have c5b0 : (t103.toList == ([45, 50, 47, 51] : List UInt8)) = false := beq_eq_false_iff_ne.mpr c5
    have c5b1 : (t103.toList != ([45, 50, 47, 51] : List UInt8)) = true := bne_iff_ne.mpr c5
    obtain rfl := Option.some.inj H
  rotate_left 4
  focus
   rw [if_neg c4] at H
   have c4b0 : (t102 == 0) = false := beq_eq_false_iff_ne.mpr c4
   have c4b1 : (t102 != 0) = true := bne_iff_ne.mpr c4
   obtain rfl := Option.some.inj H
 rotate_left 5
 focus
  rw [if_neg c3] at H
  have c3b0 : (t101.toList == ([53, 47, 54] : List UInt8)) = false := beq_eq_false_iff_ne.mpr c3
  have c3b1 : (t101.toList != ([53, 47, 54] : List UInt8)) = true := bne_iff_ne.mpr c3
  obtain rfl := Option.some.inj H
 all_goals
  go_enter Tryz.func7, Tryz.ntmps7
  go_wp2_with (first | ((with_reducible refine gate_callee (f := 11) rfl ?_); refine goesL_ (some 6) rfl rfl Tryz.func11 (by kernel_rfl) rfl #[.string (⟨#[49, 47, 50]⟩ : ByteArray), .string (⟨#[49, 47, 51]⟩ : ByteArray)] rfl T2_ ?_; (with_reducible refine (rat_Add.calls (⟨#[49, 47, 50]⟩ : ByteArray) (⟨#[49, 47, 51]⟩ : ByteArray) t101 t102 _ (Err.Gs.below HGs.out T1_) A1.out).mono ?_); rintro e w10 ⟨rfl, hb⟩; refine ⟨_, rfl, ?_⟩; replace HB := Aside0.mk (below_step T1_ hb); clear hb) | ((with_reducible refine gate_callee (f := 8) rfl ?_); refine goesL_ (some 10) rfl rfl Tryz.func8 (by kernel_rfl) rfl #[.string (⟨#[52]⟩ : ByteArray), .string (⟨#[45, 54]⟩ : ByteArray)] rfl T2_ ?_; (with_reducible refine (rat_Make.calls (⟨#[52]⟩ : ByteArray) (⟨#[45, 54]⟩ : ByteArray) t103 t104 _ (Err.Gs.below HGs.out T1_) A2.out).mono ?_); rintro e w11 ⟨rfl, hb⟩; refine ⟨_, rfl, ?_⟩; replace HB := Aside0.mk (below_step T1_ hb); clear hb) | (go_at_call 23; (with_reducible refine (rat_Right.calls (⟨#[45, 55, 47, 51]⟩ : ByteArray) true _ (Err.Gs.below HGs.out T1_) A7.out).mono ?_); rintro e w12 ⟨rfl, hb⟩; replace HB := Aside0.mk (below_step T1_ hb); clear hb) | (go_at_call 23; (with_reducible refine (rat_Right.calls (⟨#[50, 47, 52]⟩ : ByteArray) t106 _ (Err.Gs.below HGs.out T1_) A9.out).mono ?_); rintro e w13 ⟨rfl, hb⟩; replace HB := Aside0.mk (below_step T1_ hb); clear hb) | (go_at_call 23; (with_reducible refine (rat_Right.calls (⟨#[45, 55, 47, 51]⟩ : ByteArray) false _ (Err.Gs.below HGs.out T1_) A7.out).mono ?_); rintro e w16 ⟨rfl, hb⟩; replace HB := Aside0.mk (below_step T1_ hb); clear hb))
  go_ret
  exact ⟨T4_, T1_⟩
/-! ### rat_Mul: function 10 -/
noncomputable def rat_Mul.f (a0 : ByteArray) (a1 : ByteArray) : Option (ByteArray × Int) := if a0.size ≤ 40000000000 ∧ a1.size ≤ 40000000000 then some (Err.rMul a0 a1) else none
theorem rat_Mul.calls (a0 : ByteArray) (a1 : ByteArray) (r1 : ByteArray) (r2 : Int) (w : World) (hG : Err.Gs w) (h : rat_Mul.f a0 a1 = some (r1, r2)) :
  Calls Tryz.prog 10 #[.string a0, .string a1] w fun e w' => e = .returned (.tuple #[.string r1, .int .i64 r2]) ∧ Below w.heap.size w w' := by
 unfold rat_Mul.f at h
 by_cases c : a0.size ≤ 40000000000 ∧ a1.size ≤ 40000000000
 ·
  rw [if_pos c] at h
  injection h with h
  have := Err.mul_calls a0 a1 c.1 c.2 w hG
  rw [h] at this
  exact this
 ·
  rw [if_neg c] at h
  cases h
theorem rat_Mul.of (a b : ByteArray) (ha : a.size ≤ 40000000000) (hb : b.size ≤ 40000000000) : rat_Mul.f a b = some (Err.rMul a b) := by rw [rat_Mul.f, if_pos ⟨ha, hb⟩]
theorem rat_Mul.rt {x y : Rat} (hx : Err.Fr x) (hy : Err.Fr y) : rat_Mul.f (Err.rt x) (Err.rt y) = some (Err.rt (x * y), 0) := by
 rw [rat_Mul.of _ _ hx.size hy.size, Err.rMul, Err.rv_rt, Err.rv_rt]
/-! ### rat_Sub: function 12 -/
noncomputable def rat_Sub.f (a0 : ByteArray) (a1 : ByteArray) : Option (ByteArray × Int) := if a0.size ≤ 40000000000 ∧ a1.size ≤ 40000000000 then some (Err.rSub a0 a1) else none
theorem rat_Sub.calls (a0 : ByteArray) (a1 : ByteArray) (r1 : ByteArray) (r2 : Int) (w : World) (hG : Err.Gs w) (h : rat_Sub.f a0 a1 = some (r1, r2)) :
  Calls Tryz.prog 12 #[.string a0, .string a1] w fun e w' => e = .returned (.tuple #[.string r1, .int .i64 r2]) ∧ Below w.heap.size w w' := by
 unfold rat_Sub.f at h
 by_cases c : a0.size ≤ 40000000000 ∧ a1.size ≤ 40000000000
 ·
  rw [if_pos c] at h
  injection h with h
  have := Err.sub_calls a0 a1 c.1 c.2 w hG
  rw [h] at this
  exact this
 ·
  rw [if_neg c] at h
  cases h
theorem rat_Sub.of (a b : ByteArray) (ha : a.size ≤ 40000000000) (hb : b.size ≤ 40000000000) : rat_Sub.f a b = some (Err.rSub a b) := by rw [rat_Sub.f, if_pos ⟨ha, hb⟩]
theorem rat_Sub.rt {x y : Rat} (hx : Err.Fr x) (hy : Err.Fr y) : rat_Sub.f (Err.rt x) (Err.rt y) = some (Err.rt (x - y), 0) := by
 rw [rat_Sub.of _ _ hx.size hy.size, Err.rSub, Err.rv_rt, Err.rv_rt]
/-! ### rat_Quo: function 13 -/
noncomputable def rat_Quo.f (a0 : ByteArray) (a1 : ByteArray) : Option (ByteArray × Int) := if a0.size ≤ 40000000000 ∧ a1.size ≤ 40000000000 then some (Err.rQuo a0 a1) else none
theorem rat_Quo.calls (a0 : ByteArray) (a1 : ByteArray) (r1 : ByteArray) (r2 : Int) (w : World) (hG : Err.Gs w) (h : rat_Quo.f a0 a1 = some (r1, r2)) :
  Calls Tryz.prog 13 #[.string a0, .string a1] w fun e w' => e = .returned (.tuple #[.string r1, .int .i64 r2]) ∧ Below w.heap.size w w' := by
 unfold rat_Quo.f at h
 by_cases c : a0.size ≤ 40000000000 ∧ a1.size ≤ 40000000000
 ·
  rw [if_pos c] at h
  injection h with h
  have := Err.quo_calls a0 a1 c.1 c.2 w hG
  rw [h] at this
  exact this
 ·
  rw [if_neg c] at h
  cases h
theorem rat_Quo.of (a b : ByteArray) (ha : a.size ≤ 40000000000) (hb : b.size ≤ 40000000000) : rat_Quo.f a b = some (Err.rQuo a b) := by rw [rat_Quo.f, if_pos ⟨ha, hb⟩]
theorem rat_Quo.rt {x y : Rat} (hx : Err.Fr x) (hy : Err.Fr y) (h0 : y ≠ 0) : rat_Quo.f (Err.rt x) (Err.rt y) = some (Err.rt (x / y), 0) := by
 rw [rat_Quo.of _ _ hx.size hy.size, Err.rQuo, Err.rv_rt, Err.rv_rt]
 dsimp only
 rw [if_neg h0]
theorem rat_Quo.rt0 {x : Rat} (hx : Err.Fr x) : rat_Quo.f (Err.rt x) (Err.rt 0) = some (⟨#[]⟩, 3) := by
 rw [rat_Quo.of _ _ hx.size (Err.fr_small (by decide +kernel)).size, Err.rQuo, Err.rv_rt, Err.rv_rt]
 dsimp only
 rw [if_pos rfl]
/-! ### tapewrightref03_Read: function 14 -/
noncomputable def tapewrightref03_Read.f (a0 : ByteArray) : Option (ByteArray × ByteArray × Bool) := if a0.size ≤ 40000000000 then some (Err.r3Read a0) else none
theorem tapewrightref03_Read.calls (a0 : ByteArray) (r1 : ByteArray) (r2 : ByteArray) (r3 : Bool) (w : World) (h : tapewrightref03_Read.f a0 = some (r1, r2, r3)) :
  Calls Tryz.prog 14 #[.string a0] w fun e w' => e = .returned (.tuple #[.agg #[.string r1, .string r2], .bool r3]) ∧ Below w.heap.size w w' := by
 unfold tapewrightref03_Read.f at h
 by_cases c : a0.size ≤ 40000000000
 ·
  rw [if_pos c] at h
  obtain ⟨k, hk⟩ := (Err.r3Read_ev a0 c).rounds
  exact PS.tapewrightref03_Read.calls k a0 r1 r2 r3 w (hk.trans h)
 ·
  rw [if_neg c] at h
  cases h
theorem tapewrightref03_Read.rt (x : Rat) (h : (Err.rt x).size ≤ 40000000000) : tapewrightref03_Read.f (Err.rt x) = some (Th.Wh.zt x.num, Th.txt x.den, true) := by rw [tapewrightref03_Read.f, if_pos h, Err.r3Read_rt x h]
theorem tapewrightref03_Read.no (s : ByteArray) (h : s.size ≤ 40000000000) (hs : Err.rv s = none) : ∃ p q, tapewrightref03_Read.f s = some (p, q, false) := ⟨(Err.r3Read s).1, (Err.r3Read s).2.1, by rw [tapewrightref03_Read.f, if_pos h, ← Err.r3Read_no s hs]⟩
/-! ### tapewrightref03_Text: function 15 -/
noncomputable def tapewrightref03_Text.f (a0_0 : ByteArray) (a0_1 : ByteArray) : Option (ByteArray) := PS.tapewrightref03_Text.f a0_0 a0_1
theorem tapewrightref03_Text.calls (a0_0 : ByteArray) (a0_1 : ByteArray) (r : ByteArray) (w : World) (h : tapewrightref03_Text.f a0_0 a0_1 = some r) :
  Calls Tryz.prog 15 #[.agg #[.string a0_0, .string a0_1]] w fun e w' => e = .returned (.string r) ∧ Below w.heap.size w w' := PS.tapewrightref03_Text.calls a0_0 a0_1 r w h
theorem tapewrightref03_Text.rt (x : Rat) (h : Err.qm x ≤ 100000000000) : tapewrightref03_Text.f (Th.Wh.zt x.num) (Th.txt x.den) = some (Err.rt x) := PS.tapewrightref03_Text.rt x h
/-! ### tapewrightref03_Add: function 16 -/
noncomputable def tapewrightref03_Add.f (a0_0 : ByteArray) (a0_1 : ByteArray) (a1_0 : ByteArray) (a1_1 : ByteArray) : Option (ByteArray × ByteArray) := Err.r3Add a0_0 a0_1 a1_0 a1_1
theorem tapewrightref03_Add.calls (a0_0 : ByteArray) (a0_1 : ByteArray) (a1_0 : ByteArray) (a1_1 : ByteArray) (r1 : ByteArray) (r2 : ByteArray) (w : World) (h : tapewrightref03_Add.f a0_0 a0_1 a1_0 a1_1 = some (r1, r2)) :
  Calls Tryz.prog 16 #[.agg #[.string a0_0, .string a0_1], .agg #[.string a1_0, .string a1_1]] w fun e w' => e = .returned (.agg #[.string r1, .string r2]) ∧ Below w.heap.size w w' := Err.r3Add_calls a0_0 a0_1 a1_0 a1_1 r1 r2 w h
theorem tapewrightref03_Add.rt {x y : Rat} (hx : Err.Fr x) (hy : Err.Fr y) : tapewrightref03_Add.f (Th.Wh.zt x.num) (Th.txt x.den) (Th.Wh.zt y.num) (Th.txt y.den) = some (Th.Wh.zt (x + y).num, Th.txt (x + y).den) := Err.r3Add_rt hx hy
/-! ### tapewrightref03_Neg: function 17 -/
noncomputable def tapewrightref03_Neg.f (a0_0 : ByteArray) (a0_1 : ByteArray) : Option (ByteArray × ByteArray) := Err.r3Neg a0_0 a0_1
theorem tapewrightref03_Neg.calls (a0_0 : ByteArray) (a0_1 : ByteArray) (r1 : ByteArray) (r2 : ByteArray) (w : World) (h : tapewrightref03_Neg.f a0_0 a0_1 = some (r1, r2)) :
  Calls Tryz.prog 17 #[.agg #[.string a0_0, .string a0_1]] w fun e w' => e = .returned (.agg #[.string r1, .string r2]) ∧ Below w.heap.size w w' := Err.r3Neg_calls a0_0 a0_1 r1 r2 w h
theorem tapewrightref03_Neg.rt {x : Rat} (hx : Err.Fr x) : tapewrightref03_Neg.f (Th.Wh.zt x.num) (Th.txt x.den) = some (Th.Wh.zt (-x).num, Th.txt (-x).den) := Err.r3Neg_rt hx
/-! ### tapewrightref03_Mul: function 18 -/
noncomputable def tapewrightref03_Mul.f (a0_0 : ByteArray) (a0_1 : ByteArray) (a1_0 : ByteArray) (a1_1 : ByteArray) : Option (ByteArray × ByteArray) := Err.r3Mul a0_0 a0_1 a1_0 a1_1
theorem tapewrightref03_Mul.calls (a0_0 : ByteArray) (a0_1 : ByteArray) (a1_0 : ByteArray) (a1_1 : ByteArray) (r1 : ByteArray) (r2 : ByteArray) (w : World) (h : tapewrightref03_Mul.f a0_0 a0_1 a1_0 a1_1 = some (r1, r2)) :
  Calls Tryz.prog 18 #[.agg #[.string a0_0, .string a0_1], .agg #[.string a1_0, .string a1_1]] w fun e w' => e = .returned (.agg #[.string r1, .string r2]) ∧ Below w.heap.size w w' := Err.r3Mul_calls a0_0 a0_1 a1_0 a1_1 r1 r2 w h
theorem tapewrightref03_Mul.rt {x y : Rat} (hx : Err.Fr x) (hy : Err.Fr y) : tapewrightref03_Mul.f (Th.Wh.zt x.num) (Th.txt x.den) (Th.Wh.zt y.num) (Th.txt y.den) = some (Th.Wh.zt (x * y).num, Th.txt (x * y).den) := Err.r3Mul_rt hx hy
/-! ### tapewrightref03_Lowest: function 19 -/
noncomputable def tapewrightref03_Lowest.f (a0 : ByteArray) (a1 : ByteArray) : Option (ByteArray × ByteArray) := Err.rLowest a0 a1
theorem tapewrightref03_Lowest.calls (a0 : ByteArray) (a1 : ByteArray) (r1 : ByteArray) (r2 : ByteArray) (w : World) (h : tapewrightref03_Lowest.f a0 a1 = some (r1, r2)) :
  Calls Tryz.prog 19 #[.string a0, .string a1] w fun e w' => e = .returned (.agg #[.string r1, .string r2]) ∧ Below w.heap.size w w' := Err.rLowest_calls a0 a1 r1 r2 w h
theorem tapewrightref03_Lowest.zt (a b : Int) (hb : b ≠ 0) (h1 : Th.Wh.zs a ≤ 1000000000) (h2 : Th.Wh.zs b ≤ 1000000000) : tapewrightref03_Lowest.f (Th.Wh.zt a) (Th.Wh.zt b) = some (Th.Wh.zt (Rat.divInt a b).num, Th.txt (Rat.divInt a b).den) := Err.rLowest_zt a b hb (Nat.le_trans h1 (by decide)) (Nat.le_trans h2 (by decide))
end Go.Proofs.YtfjlmiehbikmnaaGreatDoor.PQ
