-- by wip/tool/mine.py of this repo (the kit's printer with given contracts)
import Derived.Test.YtfjlmiehbikmnaaDoorPQx0
namespace Go.Proofs.YtfjlmiehbikmnaaDoor.PQ
open Go.RowKit Go.Proofs.YtfjlmiehbikmnaaDoorW.PrintWords Go.Proofs.YtfjlmiehbikmnaaDoorW.PrintLast Go.Proofs.YtfjlmiehbikmnaaDoorW.PrintMore
attribute [local go_sem] max2_int min2_int max_two min_two max_three min_three max_four min_four   -- for this text's walks alone
set_option linter.unusedVariables false
set_option linter.unusedSimpArgs false

/-! ### rat_Right: function 16 -/
noncomputable def rat_Right.f (a0 : ByteArray) : Option (Bool) := if a0.size ≤ 40000000000 then some (Err.rRight a0) else none
theorem rat_Right.calls (a0 : ByteArray) (r : Bool) (w : World) (hG : Err.Gs w) (h : rat_Right.f a0 = some r) :
  Calls Tryd.prog 16 #[.string a0] w fun e w' => e = .returned (.bool r) ∧ Below w.heap.size w w' := by
 unfold rat_Right.f at h
 by_cases c : a0.size ≤ 40000000000
 ·
  rw [if_pos c] at h
  injection h with h
  have := Err.right_calls a0 c w hG
  rw [h] at this
  exact this
 ·
  rw [if_neg c] at h
  cases h
theorem rat_Right.of (a0 : ByteArray) (h : a0.size ≤ 40000000000) : rat_Right.f a0 = some (Err.rRight a0) := by rw [rat_Right.f, if_pos h]

/-! ### tapewrightlaw03_right: function 12 -/
noncomputable def tapewrightlaw03_right.l0 : Nat → List ByteArray → Int → Int → Option (Bool)
 | 0, _, _, _ => none
 | k + 1, x5, x6, x7 => if x7 < x6 then (if 0 ≤ x7 then (if x7 < (x5.length : Int) then (if ((rdOf ByteArray.empty x5 x7).size : Int) > 50 then (some false) else ((rat_Right.f (rdOf ByteArray.empty x5 x7)).bind fun t102 => (if t102 = true then (tapewrightlaw03_right.l0 k x5 x6 (wrap64 (x7 + 1))) else (some false)))) else (none)) else (none)) else (some true)
noncomputable def tapewrightlaw03_right.f (k : Nat) (l0 : List ByteArray) : Option (Bool) := tapewrightlaw03_right.l0 k l0 (l0.length : Int) 0
set_option maxHeartbeats 8000000 in
set_option maxRecDepth 100000 in
theorem tapewrightlaw03_right.calls (k : Nat) (A0 : Option Addr) (c0 : Nat) (l0 : List ByteArray) (r : Bool) (w : World) (hG : Err.Gs w) (hr0 : Kd.C Kd.string w A0 l0.length l0) (hc0 : l0.length ≤ c0) (h : tapewrightlaw03_right.f k l0 = some r) :
  Calls Tryd.prog 12 #[.slice A0 l0.length c0] w fun e w' => e = .returned (.bool r) ∧ Below w.heap.size w w' := by
 have HR0 := Aside0.mk hr0
 have HC0 := Aside0.mk hc0
 clear hr0 hc0
 have HB := Aside0.mk (Below.refl w.heap.size w)
 have HGs := Aside0.mk hG
 clear hG
 have H : (tapewrightlaw03_right.l0 k l0 (l0.length : Int) 0) = some r := h
 clear h
 have H' := Aside0.mk H
 clear H
 go_enter Tryd.func12, Tryd.ntmps12
 go_wp2
 go_loopg [7] k (fun kq v7 w' => ∃ (x7_1 : Int), v7 = .int .i64 x7_1 ∧ Aside0 (tapewrightlaw03_right.l0 kq l0 (l0.length : Int) x7_1 = some r) ∧ Aside0 (kq ≤ k) ∧ Aside0 (Below w.heap.size w w'))
 case atStart => exact ⟨(0), (by first | rfl | (simp; done) | (simp [*]; done)), H', ⟨Nat.le_refl _⟩, ⟨by repeat (first | (with_reducible first | exact HB.out | apply below_alloc | apply pw_below_drewN | apply below_drew1) | exact HB.out)⟩⟩
 case round =>
  clear H'
  try clear c1
  obtain ⟨x7_1, rfl, HA, HK1, HB⟩ := hrel
  cases gk with
  | zero => exact absurd HA.out (by simp [tapewrightlaw03_right.l0])
  | succ k1 =>
   have H := HA.out
   clear HA
   simp only [tapewrightlaw03_right.l0] at H
   by_cases c2 : x7_1 < (l0.length : Int)
   ·
    rw [if_pos c2] at H
    have c2b0 : decide (x7_1 < (l0.length : Int)) = true := decide_eq_true c2
    clear c2
    by_cases c3 : 0 ≤ x7_1
    ·
     rw [if_pos c3] at H
     have c3b0 : decide (0 ≤ x7_1) = true := decide_eq_true c3
     clear c3
     by_cases c4 : x7_1 < (l0.length : Int)
     ·
      rw [if_pos c4] at H
      have c4b0 : decide (x7_1 < (l0.length : Int)) = true := decide_eq_true c4
      clear c4
      by_cases c5 : ((rdOf ByteArray.empty l0 x7_1).size : Int) > 50
      ·
       rw [if_pos c5] at H
       have c5b0 : decide (50 < ((rdOf ByteArray.empty l0 x7_1).size : Int)) = true := decide_eq_true c5
       have c5b1 : decide (50 < (rdOf ByteArray.empty l0 x7_1).size) = true := decide_eq_true (by omega)
       clear c5
       obtain rfl := Option.some.inj H
       have p101 : 0 ≤ (x7_1 : Int) := of_decide_eq_true (by first | (with_reducible assumption) | assumption)
       have q101 : x7_1 < (l0.length : Int) := of_decide_eq_true (by first | (with_reducible assumption) | assumption)
       obtain ⟨ad101, e101, hx101_0⟩ := Kd.at_string HR0.out x7_1 p101 q101
       cases e101
       replace hx101_0 := (HB.out.cell (World.block_lt_of_cell? w _ hx101_0)).trans hx101_0
       replace p101 := eq_true p101
       replace q101 := eq_true q101
       go_wp2
       go_ret
       exact ⟨T4_, T1_⟩
      ·
       rw [if_neg c5] at H
       have c5b0 : decide (50 < ((rdOf ByteArray.empty l0 x7_1).size : Int)) = false := decide_eq_false c5
       have c5b1 : decide (50 < (rdOf ByteArray.empty l0 x7_1).size) = false := decide_eq_false (by omega)
       clear c5
       replace H := Option.bind_eq_some_iff.mp H
       obtain ⟨t102, A60, H⟩ := H
       replace H : (if t102 = true then (tapewrightlaw03_right.l0 k1 l0 (l0.length : Int) (wrap64 (x7_1 + 1))) else (some false)) = some r := H
       have A6 := Aside0.mk A60
       clear A60
       by_cases c7 : t102 = true
       ·
        subst c7
        have H1 : (tapewrightlaw03_right.l0 k1 l0 (l0.length : Int) (wrap64 (x7_1 + 1))) = some r := by rw [if_pos rfl] at H; exact H
        clear H
        have H := H1
        clear H1
        have H' := Aside0.mk H
        clear H
        have p101 : 0 ≤ (x7_1 : Int) := of_decide_eq_true (by first | (with_reducible assumption) | assumption)
        have q101 : x7_1 < (l0.length : Int) := of_decide_eq_true (by first | (with_reducible assumption) | assumption)
        obtain ⟨ad101, e101, hx101_0⟩ := Kd.at_string HR0.out x7_1 p101 q101
        cases e101
        replace hx101_0 := (HB.out.cell (World.block_lt_of_cell? w _ hx101_0)).trans hx101_0
        replace p101 := eq_true p101
        replace q101 := eq_true q101
        go_wp2_with (first | (go_at_call 16; (with_reducible refine (rat_Right.calls (rdOf ByteArray.empty l0 x7_1) true _ (Err.Gs.below HGs.out T1_) A6.out).mono ?_); rintro e w8 ⟨rfl, hb⟩; replace HB := Aside0.mk (below_step T1_ hb); clear hb))
        go_roundg k1
        case measure => have := HK1.out; omega
        case rel => exact ⟨(wrap64 (x7_1 + 1)), (by first | rfl | (simp; done) | (simp [*]; done)), H', ⟨by have := HK1.out; omega⟩, ⟨by repeat (first | (with_reducible first | exact HB.out | apply below_alloc | apply pw_below_drewN | apply below_drew1) | exact HB.out)⟩⟩
       ·
        replace c7 := Bool.eq_false_iff.mpr c7
        subst c7
        have H1 : (some false) = some r := by rw [if_neg (show ¬ (false = true) by decide)] at H; exact H
        clear H
        have H := H1
        clear H1
        obtain rfl := Option.some.inj H
        have p101 : 0 ≤ (x7_1 : Int) := of_decide_eq_true (by first | (with_reducible assumption) | assumption)
        have q101 : x7_1 < (l0.length : Int) := of_decide_eq_true (by first | (with_reducible assumption) | assumption)
        obtain ⟨ad101, e101, hx101_0⟩ := Kd.at_string HR0.out x7_1 p101 q101
        cases e101
        replace hx101_0 := (HB.out.cell (World.block_lt_of_cell? w _ hx101_0)).trans hx101_0
        replace p101 := eq_true p101
        replace q101 := eq_true q101
        go_wp2_with (first | (go_at_call 16; (with_reducible refine (rat_Right.calls (rdOf ByteArray.empty l0 x7_1) false _ (Err.Gs.below HGs.out T1_) A6.out).mono ?_); rintro e w9 ⟨rfl, hb⟩; replace HB := Aside0.mk (below_step T1_ hb); clear hb))
        go_ret
        exact ⟨T4_, T1_⟩
     ·
      rw [if_neg c4] at H
      exact absurd H (by simp)
    ·
     rw [if_neg c3] at H
     exact absurd H (by simp)
   ·
    rw [if_neg c2] at H
    have c2b0 : decide (x7_1 < (l0.length : Int)) = false := decide_eq_false c2
    clear c2
    obtain rfl := Option.some.inj H
    go_wp2
    go_ret
    exact ⟨T4_, T1_⟩

/-! ### rat_Add: function 14 -/
noncomputable def rat_Add.f (a0 : ByteArray) (a1 : ByteArray) : Option (ByteArray × Int) := if a0.size ≤ 40000000000 ∧ a1.size ≤ 40000000000 then some (Err.rAdd a0 a1) else none
theorem rat_Add.calls (a0 : ByteArray) (a1 : ByteArray) (r1 : ByteArray) (r2 : Int) (w : World) (hG : Err.Gs w) (h : rat_Add.f a0 a1 = some (r1, r2)) :
  Calls Tryd.prog 14 #[.string a0, .string a1] w fun e w' => e = .returned (.tuple #[.string r1, .int .i64 r2]) ∧ Below w.heap.size w w' := by
 unfold rat_Add.f at h
 by_cases c : a0.size ≤ 40000000000 ∧ a1.size ≤ 40000000000
 ·
  rw [if_pos c] at h
  injection h with h
  have := Err.add_calls a0 a1 c.1 c.2 w hG
  rw [h] at this
  exact this
 ·
  rw [if_neg c] at h
  cases h
theorem rat_Add.of (a b : ByteArray) (ha : a.size ≤ 40000000000) (hb : b.size ≤ 40000000000) : rat_Add.f a b = some (Err.rAdd a b) := by rw [rat_Add.f, if_pos ⟨ha, hb⟩]
theorem rat_Add.rt {x y : Rat} (hx : Err.Fr x) (hy : Err.Fr y) : rat_Add.f (Err.rt x) (Err.rt y) = some (Err.rt (x + y), 0) := by
 rw [rat_Add.of _ _ hx.size hy.size, Err.rAdd, Err.rv_rt, Err.rv_rt]


/-! ### rat_Make: function 15 -/
noncomputable def rat_Make.f (a0 : ByteArray) (a1 : ByteArray) : Option (ByteArray × Int) := if a0.size ≤ 40000000000 ∧ a1.size ≤ 40000000000 then some (Err.rMake a0 a1) else none
theorem rat_Make.calls (a0 : ByteArray) (a1 : ByteArray) (r1 : ByteArray) (r2 : Int) (w : World) (hG : Err.Gs w) (h : rat_Make.f a0 a1 = some (r1, r2)) :
  Calls Tryd.prog 15 #[.string a0, .string a1] w fun e w' => e = .returned (.tuple #[.string r1, .int .i64 r2]) ∧ Below w.heap.size w w' := by
 unfold rat_Make.f at h
 by_cases c : a0.size ≤ 40000000000 ∧ a1.size ≤ 40000000000
 ·
  rw [if_pos c] at h
  injection h with h
  have := Err.make_calls a0 a1 c.1 c.2 w hG
  rw [h] at this
  exact this
 ·
  rw [if_neg c] at h
  cases h
theorem rat_Make.of (a b : ByteArray) (ha : a.size ≤ 40000000000) (hb : b.size ≤ 40000000000) : rat_Make.f a b = some (Err.rMake a b) := by rw [rat_Make.f, if_pos ⟨ha, hb⟩]

/-! ### tapewrightlaw03_awake: function 13 -/
noncomputable def tapewrightlaw03_awake.f  : Option (Bool) := (rat_Add.f (⟨#[49, 47, 50]⟩ : ByteArray) (⟨#[49, 47, 51]⟩ : ByteArray)).bind fun bt103 => ((rat_Make.f (⟨#[52]⟩ : ByteArray) (⟨#[45, 54]⟩ : ByteArray)).bind fun bt105 => (if bt103.1.toList = ([53, 47, 54] : List UInt8) then (if bt103.2 = 0 then (if bt105.1.toList = ([45, 50, 47, 51] : List UInt8) then (if bt105.2 = 0 then ((rat_Right.f (⟨#[45, 55, 47, 51]⟩ : ByteArray)).bind fun t107 => (if t107 = true then ((rat_Right.f (⟨#[50, 47, 52]⟩ : ByteArray)).bind fun t108 => (some (!t108))) else (some false))) else (some false)) else (some false)) else (some false)) else (some false)))
set_option maxHeartbeats 8000000 in
set_option maxRecDepth 100000 in
theorem tapewrightlaw03_awake.calls  (r : Bool) (w : World) (hG : Err.Gs w) (h : tapewrightlaw03_awake.f  = some r) :
  Calls Tryd.prog 13 #[] w fun e w' => e = .returned (.bool r) ∧ Below w.heap.size w w' := by
 have HB := Aside0.mk (Below.refl w.heap.size w)
 have HGs := Aside0.mk hG
 clear hG
 have H : ((rat_Add.f (⟨#[49, 47, 50]⟩ : ByteArray) (⟨#[49, 47, 51]⟩ : ByteArray)).bind fun bt103 => ((rat_Make.f (⟨#[52]⟩ : ByteArray) (⟨#[45, 54]⟩ : ByteArray)).bind fun bt105 => (if bt103.1.toList = ([53, 47, 54] : List UInt8) then (if bt103.2 = 0 then (if bt105.1.toList = ([45, 50, 47, 51] : List UInt8) then (if bt105.2 = 0 then ((rat_Right.f (⟨#[45, 55, 47, 51]⟩ : ByteArray)).bind fun t107 => (if t107 = true then ((rat_Right.f (⟨#[50, 47, 52]⟩ : ByteArray)).bind fun t108 => (some (!t108))) else (some false))) else (some false)) else (some false)) else (some false)) else (some false)))) = some r := h
 clear h
 replace H := Option.bind_eq_some_iff.mp H
 obtain ⟨⟨t103, t104⟩, A10, H⟩ := H
 replace H : ((rat_Make.f (⟨#[52]⟩ : ByteArray) (⟨#[45, 54]⟩ : ByteArray)).bind fun bt105 => (if t103.toList = ([53, 47, 54] : List UInt8) then (if t104 = 0 then (if bt105.1.toList = ([45, 50, 47, 51] : List UInt8) then (if bt105.2 = 0 then ((rat_Right.f (⟨#[45, 55, 47, 51]⟩ : ByteArray)).bind fun t107 => (if t107 = true then ((rat_Right.f (⟨#[50, 47, 52]⟩ : ByteArray)).bind fun t108 => (some (!t108))) else (some false))) else (some false)) else (some false)) else (some false)) else (some false))) = some r := H
 have A1 := Aside0.mk A10
 clear A10
 replace H := Option.bind_eq_some_iff.mp H
 obtain ⟨⟨t105, t106⟩, A20, H⟩ := H
 replace H : (if t103.toList = ([53, 47, 54] : List UInt8) then (if t104 = 0 then (if t105.toList = ([45, 50, 47, 51] : List UInt8) then (if t106 = 0 then ((rat_Right.f (⟨#[45, 55, 47, 51]⟩ : ByteArray)).bind fun t107 => (if t107 = true then ((rat_Right.f (⟨#[50, 47, 52]⟩ : ByteArray)).bind fun t108 => (some (!t108))) else (some false))) else (some false)) else (some false)) else (some false)) else (some false)) = some r := H
 have A2 := Aside0.mk A20
 clear A20
 by_cases c3 : t103.toList = ([53, 47, 54] : List UInt8)
 ·
  rw [if_pos c3] at H
  have c3b0 : (t103.toList == ([53, 47, 54] : List UInt8)) = true := beq_iff_eq.mpr c3
  have c3b1 : (t103.toList != ([53, 47, 54] : List UInt8)) = false := bne_eq_false_iff_eq.mpr c3
  clear c3
  by_cases c4 : t104 = 0
  ·
   rw [if_pos c4] at H
   have c4b0 : (t104 == 0) = true := beq_iff_eq.mpr c4
   have c4b1 : (t104 != 0) = false := bne_eq_false_iff_eq.mpr c4
   clear c4
   by_cases c5 : t105.toList = ([45, 50, 47, 51] : List UInt8)
   ·
    rw [if_pos c5] at H
    have c5b0 : (t105.toList == ([45, 50, 47, 51] : List UInt8)) = true := beq_iff_eq.mpr c5
    have c5b1 : (t105.toList != ([45, 50, 47, 51] : List UInt8)) = false := bne_eq_false_iff_eq.mpr c5
    clear c5
    by_cases c6 : t106 = 0
    ·
     rw [if_pos c6] at H
     have c6b0 : (t106 == 0) = true := beq_iff_eq.mpr c6
     have c6b1 : (t106 != 0) = false := bne_eq_false_iff_eq.mpr c6
     clear c6
     replace H := Option.bind_eq_some_iff.mp H
     obtain ⟨t107, A70, H⟩ := H
     replace H : (if t107 = true then ((rat_Right.f (⟨#[50, 47, 52]⟩ : ByteArray)).bind fun t108 => (some (!t108))) else (some false)) = some r := H
     have A7 := Aside0.mk A70
     clear A70
     by_cases c8 : t107 = true
     ·
      subst c8
      have H1 : ((rat_Right.f (⟨#[50, 47, 52]⟩ : ByteArray)).bind fun t108 => (some (!t108))) = some r := by rw [if_pos rfl] at H; exact H
      clear H
      have H := H1
      clear H1
      replace H := Option.bind_eq_some_iff.mp H
      obtain ⟨t108, A90, H⟩ := H
      replace H : (some (!t108)) = some r := H
      have A9 := Aside0.mk A90
      clear A90
      obtain rfl := Option.some.inj H
      go_enter Tryd.func13, Tryd.ntmps13
      go_wp2_with (first | ((with_reducible refine gate_callee (f := 14) rfl ?_); refine goesL_ (some 6) rfl rfl Tryd.func14 (by kernel_rfl) rfl #[.string (⟨#[49, 47, 50]⟩ : ByteArray), .string (⟨#[49, 47, 51]⟩ : ByteArray)] rfl T2_ ?_; (with_reducible refine (rat_Add.calls (⟨#[49, 47, 50]⟩ : ByteArray) (⟨#[49, 47, 51]⟩ : ByteArray) t103 t104 _ (Err.Gs.below HGs.out T1_) A1.out).mono ?_); rintro e w10 ⟨rfl, hb⟩; refine ⟨_, rfl, ?_⟩; replace HB := Aside0.mk (below_step T1_ hb); clear hb) | ((with_reducible refine gate_callee (f := 15) rfl ?_); refine goesL_ (some 10) rfl rfl Tryd.func15 (by kernel_rfl) rfl #[.string (⟨#[52]⟩ : ByteArray), .string (⟨#[45, 54]⟩ : ByteArray)] rfl T2_ ?_; (with_reducible refine (rat_Make.calls (⟨#[52]⟩ : ByteArray) (⟨#[45, 54]⟩ : ByteArray) t105 t106 _ (Err.Gs.below HGs.out T1_) A2.out).mono ?_); rintro e w11 ⟨rfl, hb⟩; refine ⟨_, rfl, ?_⟩; replace HB := Aside0.mk (below_step T1_ hb); clear hb) | (go_at_call 16; (with_reducible refine (rat_Right.calls (⟨#[45, 55, 47, 51]⟩ : ByteArray) true _ (Err.Gs.below HGs.out T1_) A7.out).mono ?_); rintro e w12 ⟨rfl, hb⟩; replace HB := Aside0.mk (below_step T1_ hb); clear hb) | (go_at_call 16; (with_reducible refine (rat_Right.calls (⟨#[50, 47, 52]⟩ : ByteArray) t108 _ (Err.Gs.below HGs.out T1_) A9.out).mono ?_); rintro e w13 ⟨rfl, hb⟩; replace HB := Aside0.mk (below_step T1_ hb); clear hb))
      go_ret
      exact ⟨T4_, T1_⟩
     ·
      replace c8 := Bool.eq_false_iff.mpr c8
      subst c8
      have H1 : (some false) = some r := by rw [if_neg (show ¬ (false = true) by decide)] at H; exact H
      clear H
      have H := H1
      clear H1
      obtain rfl := Option.some.inj H
      go_enter Tryd.func13, Tryd.ntmps13
      go_wp2_with (first | ((with_reducible refine gate_callee (f := 14) rfl ?_); refine goesL_ (some 6) rfl rfl Tryd.func14 (by kernel_rfl) rfl #[.string (⟨#[49, 47, 50]⟩ : ByteArray), .string (⟨#[49, 47, 51]⟩ : ByteArray)] rfl T2_ ?_; (with_reducible refine (rat_Add.calls (⟨#[49, 47, 50]⟩ : ByteArray) (⟨#[49, 47, 51]⟩ : ByteArray) t103 t104 _ (Err.Gs.below HGs.out T1_) A1.out).mono ?_); rintro e w14 ⟨rfl, hb⟩; refine ⟨_, rfl, ?_⟩; replace HB := Aside0.mk (below_step T1_ hb); clear hb) | ((with_reducible refine gate_callee (f := 15) rfl ?_); refine goesL_ (some 10) rfl rfl Tryd.func15 (by kernel_rfl) rfl #[.string (⟨#[52]⟩ : ByteArray), .string (⟨#[45, 54]⟩ : ByteArray)] rfl T2_ ?_; (with_reducible refine (rat_Make.calls (⟨#[52]⟩ : ByteArray) (⟨#[45, 54]⟩ : ByteArray) t105 t106 _ (Err.Gs.below HGs.out T1_) A2.out).mono ?_); rintro e w15 ⟨rfl, hb⟩; refine ⟨_, rfl, ?_⟩; replace HB := Aside0.mk (below_step T1_ hb); clear hb) | (go_at_call 16; (with_reducible refine (rat_Right.calls (⟨#[45, 55, 47, 51]⟩ : ByteArray) false _ (Err.Gs.below HGs.out T1_) A7.out).mono ?_); rintro e w16 ⟨rfl, hb⟩; replace HB := Aside0.mk (below_step T1_ hb); clear hb))
      go_ret
      exact ⟨T4_, T1_⟩
    ·
     rw [if_neg c6] at H
     have c6b0 : (t106 == 0) = false := beq_eq_false_iff_ne.mpr c6
     have c6b1 : (t106 != 0) = true := bne_iff_ne.mpr c6
     obtain rfl := Option.some.inj H
     go_enter Tryd.func13, Tryd.ntmps13
     go_wp2_with (first | ((with_reducible refine gate_callee (f := 14) rfl ?_); refine goesL_ (some 6) rfl rfl Tryd.func14 (by kernel_rfl) rfl #[.string (⟨#[49, 47, 50]⟩ : ByteArray), .string (⟨#[49, 47, 51]⟩ : ByteArray)] rfl T2_ ?_; (with_reducible refine (rat_Add.calls (⟨#[49, 47, 50]⟩ : ByteArray) (⟨#[49, 47, 51]⟩ : ByteArray) t103 t104 _ (Err.Gs.below HGs.out T1_) A1.out).mono ?_); rintro e w17 ⟨rfl, hb⟩; refine ⟨_, rfl, ?_⟩; replace HB := Aside0.mk (below_step T1_ hb); clear hb) | ((with_reducible refine gate_callee (f := 15) rfl ?_); refine goesL_ (some 10) rfl rfl Tryd.func15 (by kernel_rfl) rfl #[.string (⟨#[52]⟩ : ByteArray), .string (⟨#[45, 54]⟩ : ByteArray)] rfl T2_ ?_; (with_reducible refine (rat_Make.calls (⟨#[52]⟩ : ByteArray) (⟨#[45, 54]⟩ : ByteArray) t105 t106 _ (Err.Gs.below HGs.out T1_) A2.out).mono ?_); rintro e w18 ⟨rfl, hb⟩; refine ⟨_, rfl, ?_⟩; replace HB := Aside0.mk (below_step T1_ hb); clear hb))
     go_ret
     exact ⟨T4_, T1_⟩
   ·
    rw [if_neg c5] at H
    have c5b0 : (t105.toList == ([45, 50, 47, 51] : List UInt8)) = false := beq_eq_false_iff_ne.mpr c5
    have c5b1 : (t105.toList != ([45, 50, 47, 51] : List UInt8)) = true := bne_iff_ne.mpr c5
    obtain rfl := Option.some.inj H
    go_enter Tryd.func13, Tryd.ntmps13
    go_wp2_with (first | ((with_reducible refine gate_callee (f := 14) rfl ?_); refine goesL_ (some 6) rfl rfl Tryd.func14 (by kernel_rfl) rfl #[.string (⟨#[49, 47, 50]⟩ : ByteArray), .string (⟨#[49, 47, 51]⟩ : ByteArray)] rfl T2_ ?_; (with_reducible refine (rat_Add.calls (⟨#[49, 47, 50]⟩ : ByteArray) (⟨#[49, 47, 51]⟩ : ByteArray) t103 t104 _ (Err.Gs.below HGs.out T1_) A1.out).mono ?_); rintro e w19 ⟨rfl, hb⟩; refine ⟨_, rfl, ?_⟩; replace HB := Aside0.mk (below_step T1_ hb); clear hb) | ((with_reducible refine gate_callee (f := 15) rfl ?_); refine goesL_ (some 10) rfl rfl Tryd.func15 (by kernel_rfl) rfl #[.string (⟨#[52]⟩ : ByteArray), .string (⟨#[45, 54]⟩ : ByteArray)] rfl T2_ ?_; (with_reducible refine (rat_Make.calls (⟨#[52]⟩ : ByteArray) (⟨#[45, 54]⟩ : ByteArray) t105 t106 _ (Err.Gs.below HGs.out T1_) A2.out).mono ?_); rintro e w20 ⟨rfl, hb⟩; refine ⟨_, rfl, ?_⟩; replace HB := Aside0.mk (below_step T1_ hb); clear hb))
    go_ret
    exact ⟨T4_, T1_⟩
  ·
   rw [if_neg c4] at H
   have c4b0 : (t104 == 0) = false := beq_eq_false_iff_ne.mpr c4
   have c4b1 : (t104 != 0) = true := bne_iff_ne.mpr c4
   obtain rfl := Option.some.inj H
   go_enter Tryd.func13, Tryd.ntmps13
   go_wp2_with (first | ((with_reducible refine gate_callee (f := 14) rfl ?_); refine goesL_ (some 6) rfl rfl Tryd.func14 (by kernel_rfl) rfl #[.string (⟨#[49, 47, 50]⟩ : ByteArray), .string (⟨#[49, 47, 51]⟩ : ByteArray)] rfl T2_ ?_; (with_reducible refine (rat_Add.calls (⟨#[49, 47, 50]⟩ : ByteArray) (⟨#[49, 47, 51]⟩ : ByteArray) t103 t104 _ (Err.Gs.below HGs.out T1_) A1.out).mono ?_); rintro e w21 ⟨rfl, hb⟩; refine ⟨_, rfl, ?_⟩; replace HB := Aside0.mk (below_step T1_ hb); clear hb) | ((with_reducible refine gate_callee (f := 15) rfl ?_); refine goesL_ (some 10) rfl rfl Tryd.func15 (by kernel_rfl) rfl #[.string (⟨#[52]⟩ : ByteArray), .string (⟨#[45, 54]⟩ : ByteArray)] rfl T2_ ?_; (with_reducible refine (rat_Make.calls (⟨#[52]⟩ : ByteArray) (⟨#[45, 54]⟩ : ByteArray) t105 t106 _ (Err.Gs.below HGs.out T1_) A2.out).mono ?_); rintro e w22 ⟨rfl, hb⟩; refine ⟨_, rfl, ?_⟩; replace HB := Aside0.mk (below_step T1_ hb); clear hb))
   go_ret
   exact ⟨T4_, T1_⟩
 ·
  rw [if_neg c3] at H
  have c3b0 : (t103.toList == ([53, 47, 54] : List UInt8)) = false := beq_eq_false_iff_ne.mpr c3
  have c3b1 : (t103.toList != ([53, 47, 54] : List UInt8)) = true := bne_iff_ne.mpr c3
  obtain rfl := Option.some.inj H
  go_enter Tryd.func13, Tryd.ntmps13
  go_wp2_with (first | ((with_reducible refine gate_callee (f := 14) rfl ?_); refine goesL_ (some 6) rfl rfl Tryd.func14 (by kernel_rfl) rfl #[.string (⟨#[49, 47, 50]⟩ : ByteArray), .string (⟨#[49, 47, 51]⟩ : ByteArray)] rfl T2_ ?_; (with_reducible refine (rat_Add.calls (⟨#[49, 47, 50]⟩ : ByteArray) (⟨#[49, 47, 51]⟩ : ByteArray) t103 t104 _ (Err.Gs.below HGs.out T1_) A1.out).mono ?_); rintro e w23 ⟨rfl, hb⟩; refine ⟨_, rfl, ?_⟩; replace HB := Aside0.mk (below_step T1_ hb); clear hb) | ((with_reducible refine gate_callee (f := 15) rfl ?_); refine goesL_ (some 10) rfl rfl Tryd.func15 (by kernel_rfl) rfl #[.string (⟨#[52]⟩ : ByteArray), .string (⟨#[45, 54]⟩ : ByteArray)] rfl T2_ ?_; (with_reducible refine (rat_Make.calls (⟨#[52]⟩ : ByteArray) (⟨#[45, 54]⟩ : ByteArray) t105 t106 _ (Err.Gs.below HGs.out T1_) A2.out).mono ?_); rintro e w24 ⟨rfl, hb⟩; refine ⟨_, rfl, ?_⟩; replace HB := Aside0.mk (below_step T1_ hb); clear hb))
  go_ret
  exact ⟨T4_, T1_⟩

/-! ### rat_Quo: function 17 -/
noncomputable def rat_Quo.f (a0 : ByteArray) (a1 : ByteArray) : Option (ByteArray × Int) := if a0.size ≤ 40000000000 ∧ a1.size ≤ 40000000000 then some (Err.rQuo a0 a1) else none
theorem rat_Quo.calls (a0 : ByteArray) (a1 : ByteArray) (r1 : ByteArray) (r2 : Int) (w : World) (hG : Err.Gs w) (h : rat_Quo.f a0 a1 = some (r1, r2)) :
  Calls Tryd.prog 17 #[.string a0, .string a1] w fun e w' => e = .returned (.tuple #[.string r1, .int .i64 r2]) ∧ Below w.heap.size w w' := by
 unfold rat_Quo.f at h
 by_cases c : a0.size ≤ 40000000000 ∧ a1.size ≤ 40000000000
 ·
  rw [if_pos c] at h
  injection h with h
  have := Err.quo_calls a0 a1 c.1 c.2 w hG
  rw [h] at this
  exact this
 ·
  rw [if_neg c] at h
  cases h
theorem rat_Quo.of (a b : ByteArray) (ha : a.size ≤ 40000000000) (hb : b.size ≤ 40000000000) : rat_Quo.f a b = some (Err.rQuo a b) := by rw [rat_Quo.f, if_pos ⟨ha, hb⟩]
theorem rat_Quo.rt {x y : Rat} (hx : Err.Fr x) (hy : Err.Fr y) (h0 : y ≠ 0) : rat_Quo.f (Err.rt x) (Err.rt y) = some (Err.rt (x / y), 0) := by
 rw [rat_Quo.of _ _ hx.size hy.size, Err.rQuo, Err.rv_rt, Err.rv_rt]
 dsimp only
 rw [if_neg h0]
theorem rat_Quo.rt0 {x : Rat} (hx : Err.Fr x) : rat_Quo.f (Err.rt x) (Err.rt 0) = some (⟨#[]⟩, 3) := by
 rw [rat_Quo.of _ _ hx.size (Err.fr_small (by decide +kernel)).size, Err.rQuo, Err.rv_rt, Err.rv_rt]
 dsimp only
 rw [if_pos rfl]

end Go.Proofs.YtfjlmiehbikmnaaDoor.PQ
