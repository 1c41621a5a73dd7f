-- by wip/tool/mine.py of this repo (the kit's printer with given contracts)
import Derived.Test.YtndkjpkgllmbnaaGreatDoorProg
import Derived.Test.YtndkjpkgllmbnaaGreatDoorMine
namespace Go.Proofs.YtndkjpkgllmbnaaGreatDoor.PV
open Go.RowKit Go.ZPWords Go.ZPLast Go.ZPMore
attribute [local go_sem] max2_int min2_int max_two min_two max_three min_three max_four min_four   -- for this text's walks alone
set_option linter.unusedVariables false
set_option linter.unusedSimpArgs false
set_option maxHeartbeats 8000000
set_option maxRecDepth 100000
def errW : Option Int → Value
 | none => .nilIface
 | some c => .iface 0 (.int .i64 c)
theorem errW_none : errW none = .nilIface := rfl
theorem errW_some (c : Int) : errW (some c) = .iface 0 (.int .i64 c) := rfl
/-! ### shape_Right: function 41 -/
def shape_Right.l0 : Nat → List Int → Int → List Int → Int → Int → Option (Bool)
 | 0, _, _, _, _, _ => none
 | k + 1, x0, x3, x6, x7, x8 => if x8 < x7 then (if 0 ≤ x8 then (if x8 < (x6.length : Int) then (if (rd x6 x8) < 1 then (some false) else (if (rd x6 x8) > 64 then (some false) else (if (x0.length : Int) > 4 then (some false) else (shape_Right.l0 k x0 (wrap64 (x3 * (rd x6 x8))) x6 x7 (wrap64 (x8 + 1)))))) else (none)) else (none)) else (some (decide (x3 ≤ 64)))
def shape_Right.f (k : Nat) (l0 : List Int) : Option (Bool) := shape_Right.l0 k l0 1 l0 (l0.length : Int) 0
theorem shape_Right.calls (k : Nat) (A0 : Option Addr) (c0 : Nat) (l0 : List Int) (r : Bool) (w : World) (hr0 : Kd.C (Kd.int .i64) w A0 l0.length l0) (hc0 : l0.length ≤ c0) (h : shape_Right.f k l0 = some r) :
  Calls Tryz.prog 41 #[.slice A0 l0.length c0] w fun e w' => e = .returned (.bool r) ∧ Drawn0 w w' := by
 have HR0 := A_ hr0;have HC0 := A_ hc0;clear hr0 hc0;unfold shape_Right.f at h;have H := h;clear h;have H' := A_ H;clear H;go_enter Tryz.func41, Tryz.ntmps41
 go_wp2
 go_loopg [3, 8] k (fun kq v3 v8 w' => ∃ (x3_1 : Int) (x8_1 : Int), v3 = .int .i64 x3_1 ∧ v8 = .int .i64 x8_1 ∧ Aside0 (shape_Right.l0 kq l0 x3_1 l0 (l0.length : Int) x8_1 = some r) ∧ Aside0 (kq ≤ k) ∧ Drawn0 w w')
 case atStart => exact ⟨(1), (0), S1_, S1_, H', ⟨Nat.le_refl _⟩, by repeat (first | exact Drawn0.refl _ | apply Drawn0.step)⟩
 case round =>
  clear H';obtain ⟨x3_1, x8_1, rfl, rfl, HA, HK1, ⟨m1, rfl⟩⟩ := hrel
  cases gk with
  | zero => exact absurd HA.out (by simp [shape_Right.l0])
  | succ k1 =>
   have H := HA.out;clear HA;simp only [shape_Right.l0] at H
   by_cases c2 : x8_1 < (l0.length : Int)
   ·
    rw [if_pos c2] at H;have c2b0 := decide_eq_true c2;clear c2
    by_cases c3 : 0 ≤ x8_1
    ·
     rw [if_pos c3] at H;have c3b0 := decide_eq_true c3;clear c3
     by_cases c4 : x8_1 < (l0.length : Int)
     ·
      rw [if_pos c4] at H;have c4b0 := decide_eq_true c4;clear c4
      by_cases c5 : (rd l0 x8_1) < 1
      ·
       rw [if_pos c5] at H;have c5b0 := decide_eq_true c5;clear c5;obtain rfl := Option.some.inj H;have p101 : 0 ≤ (x8_1 : Int) := DA_;have q101 : x8_1 < (l0.length : Int) := DA_;obtain ⟨ad101, e101, hx101_0⟩ := Kd.at_int HR0.out x8_1 p101 q101
       cases e101
       replace p101 := eq_true p101;replace q101 := eq_true q101
       go_wp2
       go_ret
       exact ⟨by first | rfl | (simp; done) | (simp [*]; done), by repeat (first | exact Drawn0.refl _ | apply Drawn0.step)⟩
      ·
       rw [if_neg c5] at H;have c5b0 := decide_eq_false c5;clear c5
       by_cases c6 : (rd l0 x8_1) > 64
       ·
        rw [if_pos c6] at H;have c6b0 : decide (64 < (rd l0 x8_1)) = true := decide_eq_true c6;clear c6;obtain rfl := Option.some.inj H;have p101 : 0 ≤ (x8_1 : Int) := DA_;have q101 : x8_1 < (l0.length : Int) := DA_;obtain ⟨ad101, e101, hx101_0⟩ := Kd.at_int HR0.out x8_1 p101 q101
        cases e101
        replace p101 := eq_true p101;replace q101 := eq_true q101
        go_wp2
        go_ret
        exact ⟨by first | rfl | (simp; done) | (simp [*]; done), by repeat (first | exact Drawn0.refl _ | apply Drawn0.step)⟩
       ·
        rw [if_neg c6] at H;have c6b0 : decide (64 < (rd l0 x8_1)) = false := decide_eq_false c6;clear c6
        by_cases c7 : (l0.length : Int) > 4
        ·
         rw [if_pos c7] at H;have c7b0 : decide (4 < (l0.length : Int)) = true := decide_eq_true c7;have c7b1 : decide (4 < l0.length) = true := decide_eq_true (by omega);clear c7;obtain rfl := Option.some.inj H;have p101 : 0 ≤ (x8_1 : Int) := DA_;have q101 : x8_1 < (l0.length : Int) := DA_;obtain ⟨ad101, e101, hx101_0⟩ := Kd.at_int HR0.out x8_1 p101 q101
         cases e101
         replace p101 := eq_true p101;replace q101 := eq_true q101
         go_wp2
         go_ret
         exact ⟨by first | rfl | (simp; done) | (simp [*]; done), by repeat (first | exact Drawn0.refl _ | apply Drawn0.step)⟩
        ·
         rw [if_neg c7] at H;have c7b0 : decide (4 < (l0.length : Int)) = false := decide_eq_false c7;have c7b1 : decide (4 < l0.length) = false := decide_eq_false (by omega);clear c7;have H' := A_ H;clear H;have p101 : 0 ≤ (x8_1 : Int) := DA_;have q101 : x8_1 < (l0.length : Int) := DA_;obtain ⟨ad101, e101, hx101_0⟩ := Kd.at_int HR0.out x8_1 p101 q101
         cases e101
         replace p101 := eq_true p101;replace q101 := eq_true q101
         go_wp2
         go_roundg k1
         case measure => have := HK1.out; omega
         case rel => exact ⟨(wrap64 (x3_1 * (rd l0 x8_1))), (wrap64 (x8_1 + 1)), S1_, S1_, H', ⟨by have := HK1.out; omega⟩, by repeat (first | exact Drawn0.refl _ | apply Drawn0.step)⟩
     ·
      rw [if_neg c4] at H;exact absurd H (by simp)
    ·
     rw [if_neg c3] at H;exact absurd H (by simp)
   ·
    rw [if_neg c2] at H;have c2b0 := decide_eq_false c2;clear c2;obtain rfl := Option.some.inj H
    go_wp2
    go_ret
    exact ⟨by first | rfl | (simp; done) | (simp [*]; done), by repeat (first | exact Drawn0.refl _ | apply Drawn0.step)⟩
/-! ### shape_Size: function 44 -/
def shape_Size.l0 : Nat → Int → List Int → Int → Int → Option (Int)
 | 0, _, _, _, _ => none
 | k + 1, x3, x9, x10, x11 => if x11 < x10 then (if 0 ≤ x11 then (if x11 < (x9.length : Int) then (shape_Size.l0 k (wrap64 (x3 * (rd x9 x11))) x9 x10 (wrap64 (x11 + 1))) else (none)) else (none)) else (some x3)
def shape_Size.f (k : Nat) (l0 : List Int) : Option (Int) := (shape_Right.f k l0).bind fun t102 => (if t102 = true then (shape_Size.l0 k 1 l0 (l0.length : Int) 0) else (some 0))
theorem shape_Size.calls (k : Nat) (A0 : Option Addr) (c0 : Nat) (l0 : List Int) (r : Int) (w : World) (hr0 : Kd.C (Kd.int .i64) w A0 l0.length l0) (hc0 : l0.length ≤ c0) (h : shape_Size.f k l0 = some r) :
  Calls Tryz.prog 44 #[.slice A0 l0.length c0] w fun e w' => e = .returned (.int .i64 r) ∧ Drawn0 w w' := by
 have HR0 := A_ hr0;have HC0 := A_ hc0;clear hr0 hc0;unfold shape_Size.f at h;have H := h;clear h;replace H := BE_ H;obtain ⟨t102, A20, H⟩ := H;have A2 := A_ A20;clear A20
 by_cases c3 : t102 = true
 ·
  subst c3;rw [if_pos rfl] at H;have H' := A_ H;clear H;go_enter Tryz.func44, Tryz.ntmps44
  go_wp2_with (first | (refine GL_ 41 7 Tryz.func41 #[.slice A0 l0.length c0] ?_; (with_reducible refine (shape_Right.calls k _ _ l0 true _ (C1_ HR0.out) HC0.out A2.out).mono ?_); rintro e w' ⟨rfl, ⟨nd, rfl⟩⟩; refine ⟨_, rfl, ?_⟩))
  go_loopg [3, 11] k (fun kq v3 v11 w' => ∃ (x3_1 : Int) (x11_1 : Int), v3 = .int .i64 x3_1 ∧ v11 = .int .i64 x11_1 ∧ Aside0 (shape_Size.l0 kq x3_1 l0 (l0.length : Int) x11_1 = some r) ∧ Aside0 (kq ≤ k) ∧ Drawn0 w w')
  case atStart => exact ⟨(1), (0), S1_, S1_, H', ⟨Nat.le_refl _⟩, by repeat (first | exact Drawn0.refl _ | apply Drawn0.step)⟩
  case round =>
   clear H'
   try clear c3
   obtain ⟨x3_1, x11_1, rfl, rfl, HA, HK1, ⟨m1, rfl⟩⟩ := hrel
   cases gk with
   | zero => exact absurd HA.out (by simp [shape_Size.l0])
   | succ k1 =>
    have H := HA.out;clear HA;simp only [shape_Size.l0] at H
    by_cases c4 : x11_1 < (l0.length : Int)
    ·
     rw [if_pos c4] at H;have c4b0 := decide_eq_true c4;clear c4
     by_cases c5 : 0 ≤ x11_1
     ·
      rw [if_pos c5] at H;have c5b0 := decide_eq_true c5;clear c5
      by_cases c6 : x11_1 < (l0.length : Int)
      ·
       rw [if_pos c6] at H;have c6b0 := decide_eq_true c6;clear c6;have H' := A_ H;clear H;have p103 : 0 ≤ (x11_1 : Int) := DA_;have q103 : x11_1 < (l0.length : Int) := DA_;obtain ⟨ad103, e103, hx103_0⟩ := Kd.at_int HR0.out x11_1 p103 q103
       cases e103
       replace p103 := eq_true p103;replace q103 := eq_true q103
       go_wp2
       go_roundg k1
       case measure => have := HK1.out; omega
       case rel => exact ⟨(wrap64 (x3_1 * (rd l0 x11_1))), (wrap64 (x11_1 + 1)), S1_, S1_, H', ⟨by have := HK1.out; omega⟩, by repeat (first | exact Drawn0.refl _ | apply Drawn0.step)⟩
      ·
       rw [if_neg c6] at H;exact absurd H (by simp)
     ·
      rw [if_neg c5] at H;exact absurd H (by simp)
    ·
     rw [if_neg c4] at H;have c4b0 := decide_eq_false c4;clear c4;obtain rfl := Option.some.inj H
     go_wp2
     go_ret
     exact ⟨by first | rfl | (simp; done) | (simp [*]; done), by repeat (first | exact Drawn0.refl _ | apply Drawn0.step)⟩
 ·
  replace c3 := Bool.eq_false_iff.mpr c3;subst c3;rw [if_neg (show ¬ (false = true) by decide)] at H;obtain rfl := Option.some.inj H;go_enter Tryz.func44, Tryz.ntmps44
  go_wp2_with (first | (refine GL_ 41 7 Tryz.func41 #[.slice A0 l0.length c0] ?_; (with_reducible refine (shape_Right.calls k _ _ l0 false _ (C1_ HR0.out) HC0.out A2.out).mono ?_); rintro e w' ⟨rfl, ⟨nd, rfl⟩⟩; refine ⟨_, rfl, ?_⟩))
  go_ret
  exact ⟨by first | rfl | (simp; done) | (simp [*]; done), by repeat (first | exact Drawn0.refl _ | apply Drawn0.step)⟩
/-! ### slices_Equal_int_int: function 67 -/
def slices_Equal_int_int.l0 : Nat → List Int → List Int → Int → Int → Option (Bool)
 | 0, _, _, _, _ => none
 | k + 1, x0, x1, x12, x13 => if x13 < x12 then (if 0 ≤ x13 then (if x13 < (x0.length : Int) then (if x13 < (x1.length : Int) then (if (rd x0 x13) = (rd x1 x13) then (slices_Equal_int_int.l0 k x0 x1 x12 (wrap64 (x13 + 1))) else (some false)) else (none)) else (none)) else (none)) else (some true)
def slices_Equal_int_int.f (k : Nat) (l0 : List Int) (l1 : List Int) : Option (Bool) := if (l0.length : Int) = (l1.length : Int) then (slices_Equal_int_int.l0 k l0 l1 (l0.length : Int) 0) else (some false)
theorem slices_Equal_int_int.calls (k : Nat) (A0 : Option Addr) (c0 : Nat) (l0 : List Int) (A1 : Option Addr) (c1 : Nat) (l1 : List Int) (r : Bool) (w : World) (hr0 : Kd.C (Kd.int .i64) w A0 l0.length l0) (hc0 : l0.length ≤ c0) (hr1 : Kd.C (Kd.int .i64) w A1 l1.length l1) (hc1 : l1.length ≤ c1) (h : slices_Equal_int_int.f k l0 l1 = some r) :
  Calls Tryz.prog 67 #[.slice A0 l0.length c0, .slice A1 l1.length c1] w fun e w' => e = .returned (.bool r) ∧ Drawn0 w w' := by
 have HR0 := A_ hr0;have HC0 := A_ hc0;clear hr0 hc0;have HR1 := A_ hr1;have HC1 := A_ hc1;clear hr1 hc1;unfold slices_Equal_int_int.f at h;have H := h;clear h
 by_cases c3 : (l0.length : Int) = (l1.length : Int)
 ·
  rw [if_pos c3] at H;have c3b0 : ((l0.length : Int) == (l1.length : Int)) = true := beq_iff_eq.mpr c3;have c3b1 : ((l0.length : Int) != (l1.length : Int)) = false := bne_eq_false_iff_eq.mpr c3
  have c3b2 : (l0.length == l1.length) = true := by first | simpa using c3 | (simp at c3 ⊢; omega)
  clear c3;have H' := A_ H;clear H;go_enter Tryz.func67, Tryz.ntmps67
  go_wp2
  repeat (go_quiet (fail); try go_wp2)
  go_loopg [13] k (fun kq v13 w' => ∃ (x13_1 : Int), v13 = .int .i64 x13_1 ∧ Aside0 (slices_Equal_int_int.l0 kq l0 l1 (l0.length : Int) x13_1 = some r) ∧ Aside0 (kq ≤ k) ∧ Drawn0 w w')
  case atStart => exact ⟨(0), S1_, H', ⟨Nat.le_refl _⟩, by repeat (first | exact Drawn0.refl _ | apply Drawn0.step)⟩
  case round =>
   clear H'
   try clear c1
   try clear c3
   try clear c3b0
   try clear c3b1
   try clear c3b2
   obtain ⟨x13_1, rfl, HA, HK1, ⟨m1, rfl⟩⟩ := hrel
   cases gk with
   | zero => exact absurd HA.out (by simp [slices_Equal_int_int.l0])
   | succ k1 =>
    have H := HA.out;clear HA;simp only [slices_Equal_int_int.l0] at H
    by_cases c4 : x13_1 < (l0.length : Int)
    ·
     rw [if_pos c4] at H;have c4b0 := decide_eq_true c4;clear c4
     by_cases c5 : 0 ≤ x13_1
     ·
      rw [if_pos c5] at H;have c5b0 := decide_eq_true c5;clear c5
      by_cases c6 : x13_1 < (l0.length : Int)
      ·
       rw [if_pos c6] at H;have c6b0 := decide_eq_true c6;clear c6
       by_cases c7 : x13_1 < (l1.length : Int)
       ·
        rw [if_pos c7] at H;have c7b0 := decide_eq_true c7;clear c7
        by_cases c8 : (rd l0 x13_1) = (rd l1 x13_1)
        ·
         rw [if_pos c8] at H;have c8b0 : ((rd l0 x13_1) == (rd l1 x13_1)) = true := beq_iff_eq.mpr c8;have c8b1 : ((rd l0 x13_1) != (rd l1 x13_1)) = false := bne_eq_false_iff_eq.mpr c8;clear c8;have H' := A_ H;clear H;have p104 : 0 ≤ (x13_1 : Int) := DA_;have q104 : x13_1 < (l0.length : Int) := DA_;obtain ⟨ad104, e104, hx104_0⟩ := Kd.at_int HR0.out x13_1 p104 q104
         cases e104
         replace p104 := eq_true p104;replace q104 := eq_true q104;have p105 : 0 ≤ (x13_1 : Int) := DA_;have q105 : x13_1 < (l1.length : Int) := DA_;obtain ⟨ad105, e105, hx105_0⟩ := Kd.at_int HR1.out x13_1 p105 q105
         cases e105
         replace p105 := eq_true p105;replace q105 := eq_true q105
         go_wp2
         repeat (go_quiet (fail); try go_wp2)
         go_roundg k1
         case measure => have := HK1.out; omega
         case rel => exact ⟨(wrap64 (x13_1 + 1)), S1_, H', ⟨by have := HK1.out; omega⟩, by repeat (first | exact Drawn0.refl _ | apply Drawn0.step)⟩
        ·
         rw [if_neg c8] at H;have c8b0 : ((rd l0 x13_1) == (rd l1 x13_1)) = false := beq_eq_false_iff_ne.mpr c8;have c8b1 : ((rd l0 x13_1) != (rd l1 x13_1)) = true := bne_iff_ne.mpr c8;obtain rfl := Option.some.inj H;have p104 : 0 ≤ (x13_1 : Int) := DA_;have q104 : x13_1 < (l0.length : Int) := DA_;obtain ⟨ad104, e104, hx104_0⟩ := Kd.at_int HR0.out x13_1 p104 q104
         cases e104
         replace p104 := eq_true p104;replace q104 := eq_true q104;have p105 : 0 ≤ (x13_1 : Int) := DA_;have q105 : x13_1 < (l1.length : Int) := DA_;obtain ⟨ad105, e105, hx105_0⟩ := Kd.at_int HR1.out x13_1 p105 q105
         cases e105
         replace p105 := eq_true p105;replace q105 := eq_true q105
         go_wp2
         repeat (go_quiet (fail); try go_wp2)
         go_ret
         exact ⟨by first | rfl | (simp; done) | (simp [*]; done), by repeat (first | exact Drawn0.refl _ | apply Drawn0.step)⟩
       ·
        rw [if_neg c7] at H;exact absurd H (by simp)
      ·
       rw [if_neg c6] at H;exact absurd H (by simp)
     ·
      rw [if_neg c5] at H;exact absurd H (by simp)
    ·
     rw [if_neg c4] at H;have c4b0 := decide_eq_false c4;clear c4;obtain rfl := Option.some.inj H
     go_wp2
     repeat (go_quiet (fail); try go_wp2)
     go_ret
     exact ⟨by first | rfl | (simp; done) | (simp [*]; done), by repeat (first | exact Drawn0.refl _ | apply Drawn0.step)⟩
 ·
  rw [if_neg c3] at H;have c3b0 : ((l0.length : Int) == (l1.length : Int)) = false := beq_eq_false_iff_ne.mpr c3;have c3b1 : ((l0.length : Int) != (l1.length : Int)) = true := bne_iff_ne.mpr c3
  have c3b2 : (l0.length == l1.length) = false := by first | simpa using c3 | (simp at c3 ⊢; omega)
  obtain rfl := Option.some.inj H;go_enter Tryz.func67, Tryz.ntmps67
  go_wp2
  repeat (go_quiet (fail); try go_wp2)
  go_ret
  exact ⟨by first | rfl | (simp; done) | (simp [*]; done), by repeat (first | exact Drawn0.refl _ | apply Drawn0.step)⟩
/-! ### shape_Same: function 39 -/
def shape_Same.f (k : Nat) (l0 : List Int) (l1 : List Int) : Option (Bool) := (slices_Equal_int_int.f k l0 l1).bind fun t106 => (some t106)
theorem shape_Same.calls (k : Nat) (A0 : Option Addr) (c0 : Nat) (l0 : List Int) (A1 : Option Addr) (c1 : Nat) (l1 : List Int) (r : Bool) (w : World) (hr0 : Kd.C (Kd.int .i64) w A0 l0.length l0) (hc0 : l0.length ≤ c0) (hr1 : Kd.C (Kd.int .i64) w A1 l1.length l1) (hc1 : l1.length ≤ c1) (h : shape_Same.f k l0 l1 = some r) :
  Calls Tryz.prog 39 #[.slice A0 l0.length c0, .slice A1 l1.length c1] w fun e w' => e = .returned (.bool r) ∧ Drawn0 w w' := by
 have HR0 := A_ hr0;have HC0 := A_ hc0;clear hr0 hc0;have HR1 := A_ hr1;have HC1 := A_ hc1;clear hr1 hc1;unfold shape_Same.f at h;have H := h;clear h;replace H := BE_ H;obtain ⟨t106, A30, H⟩ := H;have A3 := A_ A30;clear A30;obtain rfl := Option.some.inj H;go_enter Tryz.func39, Tryz.ntmps39
 go_wp2_with (first | (refine GL_ 67 7 Tryz.func67 #[.slice A0 l0.length c0, .slice A1 l1.length c1] ?_; (with_reducible refine (slices_Equal_int_int.calls k _ _ l0 _ _ l1 t106 _ (C1_ HR0.out) HC0.out (C1_ HR1.out) HC1.out A3.out).mono ?_); rintro e w' ⟨rfl, ⟨nd, rfl⟩⟩; refine ⟨_, rfl, ?_⟩))
 go_ret
 exact ⟨by first | rfl | (simp; done) | (simp [*]; done), by repeat (first | exact Drawn0.refl _ | apply Drawn0.step)⟩
/-! ### rf4_Same: function 27 -/
def rf4_Same.l0 : Nat → List Int → List Int → Int → Option (Bool)
 | 0, _, _, _ => none
 | k + 1, x0, x1, x5 => if x5 < (x0.length : Int) then (if 0 ≤ x5 then (if x5 < (x1.length : Int) then (if (rd x0 x5) = (rd x1 x5) then (rf4_Same.l0 k x0 x1 (wrap64 (x5 + 1))) else (some false)) else (none)) else (none)) else (some true)
def rf4_Same.f (k : Nat) (l0 : List Int) (l1 : List Int) : Option (Bool) := if (l0.length : Int) = (l1.length : Int) then (rf4_Same.l0 k l0 l1 0) else (some false)
theorem rf4_Same.calls (k : Nat) (A0 : Option Addr) (c0 : Nat) (l0 : List Int) (A1 : Option Addr) (c1 : Nat) (l1 : List Int) (r : Bool) (w : World) (hr0 : Kd.C (Kd.int .i64) w A0 l0.length l0) (hc0 : l0.length ≤ c0) (hr1 : Kd.C (Kd.int .i64) w A1 l1.length l1) (hc1 : l1.length ≤ c1) (h : rf4_Same.f k l0 l1 = some r) :
  Calls Tryz.prog 27 #[.slice A0 l0.length c0, .slice A1 l1.length c1] w fun e w' => e = .returned (.bool r) ∧ Drawn0 w w' := by
 have HR0 := A_ hr0;have HC0 := A_ hc0;clear hr0 hc0;have HR1 := A_ hr1;have HC1 := A_ hc1;clear hr1 hc1;unfold rf4_Same.f at h;have H := h;clear h
 by_cases c3 : (l0.length : Int) = (l1.length : Int)
 ·
  rw [if_pos c3] at H;have c3b0 : ((l0.length : Int) == (l1.length : Int)) = true := beq_iff_eq.mpr c3;have c3b1 : ((l0.length : Int) != (l1.length : Int)) = false := bne_eq_false_iff_eq.mpr c3
  have c3b2 : (l0.length == l1.length) = true := by first | simpa using c3 | (simp at c3 ⊢; omega)
  clear c3;have H' := A_ H;clear H;go_enter Tryz.func27, Tryz.ntmps27
  go_wp2
  repeat (go_quiet (fail); try go_wp2)
  go_loopg [5] k (fun kq v5 w' => ∃ (x5_1 : Int), v5 = .int .i64 x5_1 ∧ Aside0 (rf4_Same.l0 kq l0 l1 x5_1 = some r) ∧ Aside0 (kq ≤ k) ∧ Drawn0 w w')
  case atStart => exact ⟨(0), S1_, H', ⟨Nat.le_refl _⟩, by repeat (first | exact Drawn0.refl _ | apply Drawn0.step)⟩
  case round =>
   clear H'
   try clear c1
   try clear c3
   try clear c3b0
   try clear c3b1
   try clear c3b2
   obtain ⟨x5_1, rfl, HA, HK1, ⟨m1, rfl⟩⟩ := hrel
   cases gk with
   | zero => exact absurd HA.out (by simp [rf4_Same.l0])
   | succ k1 =>
    have H := HA.out;clear HA;simp only [rf4_Same.l0] at H
    by_cases c4 : x5_1 < (l0.length : Int)
    ·
     rw [if_pos c4] at H;have c4b0 := decide_eq_true c4;clear c4
     by_cases c5 : 0 ≤ x5_1
     ·
      rw [if_pos c5] at H;have c5b0 := decide_eq_true c5;clear c5
      by_cases c6 : x5_1 < (l1.length : Int)
      ·
       rw [if_pos c6] at H;have c6b0 := decide_eq_true c6;clear c6
       by_cases c7 : (rd l0 x5_1) = (rd l1 x5_1)
       ·
        rw [if_pos c7] at H;have c7b0 : ((rd l0 x5_1) == (rd l1 x5_1)) = true := beq_iff_eq.mpr c7;have c7b1 : ((rd l0 x5_1) != (rd l1 x5_1)) = false := bne_eq_false_iff_eq.mpr c7;clear c7;have H' := A_ H;clear H;have p107 : 0 ≤ (x5_1 : Int) := DA_;have q107 : x5_1 < (l0.length : Int) := DA_;obtain ⟨ad107, e107, hx107_0⟩ := Kd.at_int HR0.out x5_1 p107 q107
        cases e107
        replace p107 := eq_true p107;replace q107 := eq_true q107;have p108 : 0 ≤ (x5_1 : Int) := DA_;have q108 : x5_1 < (l1.length : Int) := DA_;obtain ⟨ad108, e108, hx108_0⟩ := Kd.at_int HR1.out x5_1 p108 q108
        cases e108
        replace p108 := eq_true p108;replace q108 := eq_true q108
        go_wp2
        repeat (go_quiet (fail); try go_wp2)
        go_roundg k1
        case measure => have := HK1.out; omega
        case rel => exact ⟨(wrap64 (x5_1 + 1)), S1_, H', ⟨by have := HK1.out; omega⟩, by repeat (first | exact Drawn0.refl _ | apply Drawn0.step)⟩
       ·
        rw [if_neg c7] at H;have c7b0 : ((rd l0 x5_1) == (rd l1 x5_1)) = false := beq_eq_false_iff_ne.mpr c7;have c7b1 : ((rd l0 x5_1) != (rd l1 x5_1)) = true := bne_iff_ne.mpr c7;obtain rfl := Option.some.inj H;have p107 : 0 ≤ (x5_1 : Int) := DA_;have q107 : x5_1 < (l0.length : Int) := DA_;obtain ⟨ad107, e107, hx107_0⟩ := Kd.at_int HR0.out x5_1 p107 q107
        cases e107
        replace p107 := eq_true p107;replace q107 := eq_true q107;have p108 : 0 ≤ (x5_1 : Int) := DA_;have q108 : x5_1 < (l1.length : Int) := DA_;obtain ⟨ad108, e108, hx108_0⟩ := Kd.at_int HR1.out x5_1 p108 q108
        cases e108
        replace p108 := eq_true p108;replace q108 := eq_true q108
        go_wp2
        repeat (go_quiet (fail); try go_wp2)
        go_ret
        exact ⟨by first | rfl | (simp; done) | (simp [*]; done), by repeat (first | exact Drawn0.refl _ | apply Drawn0.step)⟩
      ·
       rw [if_neg c6] at H;exact absurd H (by simp)
     ·
      rw [if_neg c5] at H;exact absurd H (by simp)
    ·
     rw [if_neg c4] at H;have c4b0 := decide_eq_false c4;clear c4;obtain rfl := Option.some.inj H
     go_wp2
     repeat (go_quiet (fail); try go_wp2)
     go_ret
     exact ⟨by first | rfl | (simp; done) | (simp [*]; done), by repeat (first | exact Drawn0.refl _ | apply Drawn0.step)⟩
 ·
  rw [if_neg c3] at H;have c3b0 : ((l0.length : Int) == (l1.length : Int)) = false := beq_eq_false_iff_ne.mpr c3;have c3b1 : ((l0.length : Int) != (l1.length : Int)) = true := bne_iff_ne.mpr c3
  have c3b2 : (l0.length == l1.length) = false := by first | simpa using c3 | (simp at c3 ⊢; omega)
  obtain rfl := Option.some.inj H;go_enter Tryz.func27, Tryz.ntmps27
  go_wp2
  repeat (go_quiet (fail); try go_wp2)
  go_ret
  exact ⟨by first | rfl | (simp; done) | (simp [*]; done), by repeat (first | exact Drawn0.refl _ | apply Drawn0.step)⟩
/-! ### rf5_Small: function 11 -/
mutual
def rf5_Small.j0 : Nat → Bool → List Int → List ByteArray → Option (Bool)
 | 0, _, _, _ => none
 | k + 1, x13, x110000, x110001 => if x13 = true then (some false) else (rf5_Small.l0 k 0 x110000 x110001)
def rf5_Small.l0 : Nat → Int → List Int → List ByteArray → Option (Bool)
 | 0, _, _, _ => none
 | k + 1, x3, x110000, x110001 => if x3 < (x110001.length : Int) then (if 0 ≤ x3 then (if ((rdOf ByteArray.empty x110001 x3).size : Int) > 40 then (some false) else (rf5_Small.l0 k (wrap64 (x3 + 1)) x110000 x110001)) else (none)) else (some true)
end
def rf5_Small.f (k : Nat) (l0_0 : List Int) (l0_1 : List ByteArray) : Option (Bool) := if (l0_0.length : Int) > 10 then (rf5_Small.j0 k true l0_0 l0_1) else (rf5_Small.j0 k (decide ((l0_1.length : Int) > 70)) l0_0 l0_1)
theorem rf5_Small.calls (k : Nat) (A0_0 : Option Addr) (c0_0 : Nat) (l0_0 : List Int) (A0_1 : Option Addr) (c0_1 : Nat) (l0_1 : List ByteArray) (r : Bool) (w : World) (hr0_0 : Kd.C (Kd.int .i64) w A0_0 l0_0.length l0_0) (hc0_0 : l0_0.length ≤ c0_0) (hr0_1 : Kd.C Kd.string w A0_1 l0_1.length l0_1) (hc0_1 : l0_1.length ≤ c0_1) (h : rf5_Small.f k l0_0 l0_1 = some r) :
  Calls Tryz.prog 11 #[.agg #[.slice A0_0 l0_0.length c0_0, .slice A0_1 l0_1.length c0_1]] w fun e w' => e = .returned (.bool r) ∧ Below w.heap.size w w' := by
 have hu25 := Tryz.underlying25;have HR0_0 := A_ hr0_0;have HC0_0 := A_ hc0_0;clear hr0_0 hc0_0;have HR0_1 := A_ hr0_1;have HC0_1 := A_ hc0_1;clear hr0_1 hc0_1;have HB := A_ (Below.refl w.heap.size w);unfold rf5_Small.f at h;have H := h;clear h;have HC2 := A_ H;clear H;go_enter Tryz.func11, Tryz.ntmps11
 go_upto_region 1 with (first | ((with_reducible refine gate_dst (N := 1) rfl ?_); (try (refine gate_guard (by rfl) ?_; dsimp only)); refine BX_ 1 #[.slice A0_0 l0_0.length c0_0, .slice A0_1 l0_1.length c0_1] 25 ?_; intro gb109 hg w3 hbox hb; have BK109 := A_ (hbox); have GE109 := GE_ hg; replace HB := BS_ hb; clear hb hbox hg))
 (try simp only [Act.put, List.setIfInBounds_toArray, List.set_cons_zero, List.set_cons_succ])
 go_cut [13] (fun v13 wc => ∃ (kq : Nat) (x13_1 : Bool), v13 = .bool x13_1 ∧ Aside0 (rf5_Small.j0 kq x13_1 l0_0 l0_1 = some r) ∧ Aside0 (kq ≤ k) ∧ Aside0 (wc.heap[gb109]? = some (.cells #[(.slice A0_0 l0_0.length c0_0), (.slice A0_1 l0_1.length c0_1)] 25 (0, 0))) ∧ Aside0 (Below w.heap.size w wc))
 case first =>
  have H := HC2.out;clear HC2
  by_cases c4 : (l0_0.length : Int) > 10
  ·
   rw [if_pos c4] at H;have c4b0 : decide (10 < (l0_0.length : Int)) = true := decide_eq_true c4;have c4b1 : decide (10 < l0_0.length) = true := decide_eq_true (by omega);clear c4
   (first | rw [c4b0] | (simp only [i64_w, i32_w]; rw [c4b0]) | skip)
   have H' := A_ H;clear H;obtain ⟨hcz5_0, hcz5_1, hfz5_0, hfz5_1⟩ := CF_ BK109
   go_wp2
   go_meet
   case rel => exact ⟨_, (true), S1_, H', ⟨by first | omega | exact Nat.le_refl _⟩, BW_ BK109, ⟨T9_⟩⟩
  ·
   rw [if_neg c4] at H;have c4b0 : decide (10 < (l0_0.length : Int)) = false := decide_eq_false c4;have c4b1 : decide (10 < l0_0.length) = false := decide_eq_false (by omega);clear c4
   (first | rw [c4b0] | (simp only [i64_w, i32_w]; rw [c4b0]) | skip)
   have H' := A_ H;clear H;obtain ⟨hcz6_0, hcz6_1, hfz6_0, hfz6_1⟩ := CF_ BK109
   go_wp2
   go_meet
   case rel => exact ⟨_, (decide ((l0_1.length : Int) > 70)), S1_, H', ⟨by first | omega | exact Nat.le_refl _⟩, BW_ BK109, ⟨T9_⟩⟩
 case rest =>
  clear HC2
  obtain ⟨kq, x13_1, rfl, HA, HJ1, BK109, HB⟩ := hcut
  cases kq with
  | zero => exact absurd HA.out (by simp [rf5_Small.j0])
  | succ kj1 =>
   have H := HA.out;clear HA;simp only [rf5_Small.j0] at H
   by_cases c7 : x13_1 = true
   ·
    subst c7;rw [if_pos rfl] at H;obtain rfl := Option.some.inj H
    go_wp2
    go_ret
    exact ⟨T4_, T9_⟩
   ·
    replace c7 := Bool.eq_false_iff.mpr c7;subst c7;rw [if_neg (show ¬ (false = true) by decide)] at H;have H' := A_ H;clear H
    go_wp2
    go_loopg [3] kj1 (fun kq v3 w' => ∃ (x3_2 : Int), v3 = .int .i64 x3_2 ∧ Aside0 (rf5_Small.l0 kq x3_2 l0_0 l0_1 = some r) ∧ Aside0 (kq ≤ kj1) ∧ Aside0 (w'.heap[gb109]? = some (.cells #[(.slice A0_0 l0_0.length c0_0), (.slice A0_1 l0_1.length c0_1)] 25 (0, 0))) ∧ Aside0 (Below w.heap.size w w'))
    case atStart => exact ⟨(0), S1_, H', ⟨Nat.le_refl _⟩, BW_ BK109, ⟨T9_⟩⟩
    case round =>
     clear H'
     try clear c7
     obtain ⟨x3_2, rfl, HA, HK2, BK109, HB⟩ := hrel
     cases gk with
     | zero => exact absurd HA.out (by simp [rf5_Small.l0])
     | succ k2 =>
      have H := HA.out;clear HA;simp only [rf5_Small.l0] at H
      by_cases c8 : x3_2 < (l0_1.length : Int)
      ·
       rw [if_pos c8] at H;have c8b0 := decide_eq_true c8;clear c8
       by_cases c9 : 0 ≤ x3_2
       ·
        rw [if_pos c9] at H;have c9b0 := decide_eq_true c9;clear c9
        by_cases c10 : ((rdOf ByteArray.empty l0_1 x3_2).size : Int) > 40
        ·
         rw [if_pos c10] at H;have c10b0 : decide (40 < ((rdOf ByteArray.empty l0_1 x3_2).size : Int)) = true := decide_eq_true c10;have c10b1 : decide (40 < (rdOf ByteArray.empty l0_1 x3_2).size) = true := decide_eq_true (by omega);clear c10;obtain rfl := Option.some.inj H;obtain ⟨hcz11_0, hcz11_1, hfz11_0, hfz11_1⟩ := CF_ BK109;have p110 : 0 ≤ (x3_2 : Int) := DA_;have q110 : x3_2 < (l0_1.length : Int) := DA_;obtain ⟨ad110, e110, hx110_0⟩ := Kd.at_string HR0_1.out x3_2 p110 q110
         cases e110
         replace hx110_0 := (HB.out.cell (World.block_lt_of_cell? w _ hx110_0)).trans hx110_0;replace p110 := eq_true p110;replace q110 := eq_true q110
         go_wp2
         go_ret
         exact ⟨T4_, T9_⟩
        ·
         rw [if_neg c10] at H;have c10b0 : decide (40 < ((rdOf ByteArray.empty l0_1 x3_2).size : Int)) = false := decide_eq_false c10;have c10b1 : decide (40 < (rdOf ByteArray.empty l0_1 x3_2).size) = false := decide_eq_false (by omega);clear c10;have H' := A_ H;clear H;obtain ⟨hcz12_0, hcz12_1, hfz12_0, hfz12_1⟩ := CF_ BK109;have p110 : 0 ≤ (x3_2 : Int) := DA_;have q110 : x3_2 < (l0_1.length : Int) := DA_;obtain ⟨ad110, e110, hx110_0⟩ := Kd.at_string HR0_1.out x3_2 p110 q110
         cases e110
         replace hx110_0 := (HB.out.cell (World.block_lt_of_cell? w _ hx110_0)).trans hx110_0;replace p110 := eq_true p110;replace q110 := eq_true q110
         go_wp2
         go_roundg k2
         case measure => have := HJ1.out; have := HK2.out; omega
         case rel => exact ⟨(wrap64 (x3_2 + 1)), S1_, H', ⟨by have := HJ1.out; have := HK2.out; omega⟩, BW_ BK109, ⟨T9_⟩⟩
       ·
        rw [if_neg c9] at H;exact absurd H (by simp)
      ·
       rw [if_neg c8] at H;have c8b0 := decide_eq_false c8;clear c8;obtain rfl := Option.some.inj H;obtain ⟨hcz13_0, hcz13_1, hfz13_0, hfz13_1⟩ := CF_ BK109
       go_wp2
       go_ret
       exact ⟨T4_, T9_⟩
/-! ### rf5_Equal: function 19 -/
mutual
def rf5_Equal.j0 : Nat → Bool → List Int → List ByteArray → List Int → List ByteArray → Option (Bool)
 | 0, _, _, _, _, _ => none
 | k + 1, x20, x112000, x112001, x113000, x113001 => if x20 = true then (some false) else (rf5_Equal.l0 k 0 x112000 x112001 x113000 x113001)
def rf5_Equal.l0 : Nat → Int → List Int → List ByteArray → List Int → List ByteArray → Option (Bool)
 | 0, _, _, _, _, _ => none
 | k + 1, x5, x112000, x112001, x113000, x113001 => if x5 < (x112001.length : Int) then (if 0 ≤ x5 then (if x5 < (x113001.length : Int) then (if (rdOf ByteArray.empty x112001 x5).toList = (rdOf ByteArray.empty x113001 x5).toList then (rf5_Equal.l0 k (wrap64 (x5 + 1)) x112000 x112001 x113000 x113001) else (some false)) else (none)) else (none)) else (some true)
end
def rf5_Equal.f (k : Nat) (l0_0 : List Int) (l0_1 : List ByteArray) (l1_0 : List Int) (l1_1 : List ByteArray) : Option (Bool) := (rf4_Same.f k l0_0 l1_0).bind fun t113 => (if t113 = true then (rf5_Equal.j0 k ((l0_1.length : Int) != (l1_1.length : Int)) l0_0 l0_1 l1_0 l1_1) else (rf5_Equal.j0 k true l0_0 l0_1 l1_0 l1_1))
theorem rf5_Equal.calls (k : Nat) (A0_0 : Option Addr) (c0_0 : Nat) (l0_0 : List Int) (A0_1 : Option Addr) (c0_1 : Nat) (l0_1 : List ByteArray) (A1_0 : Option Addr) (c1_0 : Nat) (l1_0 : List Int) (A1_1 : Option Addr) (c1_1 : Nat) (l1_1 : List ByteArray) (r : Bool) (w : World) (hr0_0 : Kd.C (Kd.int .i64) w A0_0 l0_0.length l0_0) (hc0_0 : l0_0.length ≤ c0_0) (hr0_1 : Kd.C Kd.string w A0_1 l0_1.length l0_1) (hc0_1 : l0_1.length ≤ c0_1) (hr1_0 : Kd.C (Kd.int .i64) w A1_0 l1_0.length l1_0) (hc1_0 : l1_0.length ≤ c1_0) (hr1_1 : Kd.C Kd.string w A1_1 l1_1.length l1_1) (hc1_1 : l1_1.length ≤ c1_1) (h : rf5_Equal.f k l0_0 l0_1 l1_0 l1_1 = some r) :
  Calls Tryz.prog 19 #[.agg #[.slice A0_0 l0_0.length c0_0, .slice A0_1 l0_1.length c0_1], .agg #[.slice A1_0 l1_0.length c1_0, .slice A1_1 l1_1.length c1_1]] w fun e w' => e = .returned (.bool r) ∧ Below w.heap.size w w' := by
 have hu25 := Tryz.underlying25;have HR0_0 := A_ hr0_0;have HC0_0 := A_ hc0_0;clear hr0_0 hc0_0;have HR0_1 := A_ hr0_1;have HC0_1 := A_ hc0_1;clear hr0_1 hc0_1;have HR1_0 := A_ hr1_0;have HC1_0 := A_ hc1_0;clear hr1_0 hc1_0;have HR1_1 := A_ hr1_1;have HC1_1 := A_ hc1_1;clear hr1_1 hc1_1;have HB := A_ (Below.refl w.heap.size w);unfold rf5_Equal.f at h;have H := h;clear h;have HC3 := A_ H;clear H;go_enter Tryz.func19, Tryz.ntmps19
 go_upto_region 1 with (first | ((with_reducible refine gate_dst (N := 2) rfl ?_); (try (refine gate_guard (by rfl) ?_; dsimp only)); refine BX_ 2 #[.slice A0_0 l0_0.length c0_0, .slice A0_1 l0_1.length c0_1] 25 ?_; intro gb111 hg w4 hbox hb; have BK111 := A_ (hbox); have GE111 := GE_ hg; replace HB := BS_ hb; clear hb hbox hg) | ((with_reducible refine gate_dst (N := 3) rfl ?_); (try (refine gate_guard (by rfl) ?_; dsimp only)); refine BX_ 3 #[.slice A1_0 l1_0.length c1_0, .slice A1_1 l1_1.length c1_1] 25 ?_; intro gb112 hg w5 hbox hb; have BK112 := A_ (hbox); have GE112 := GE_ hg; replace HB := BU_ hb; have NB111_112 := NB_ BK111 hg; have NB112_111 := NC_ BK111 hg; replace BK111 := BF_ BK111 hb; clear hb hbox hg))
 repeat (go_quiet (first | ((with_reducible refine gate_dst (N := 2) rfl ?_); (try (refine gate_guard (by rfl) ?_; dsimp only)); refine BX_ 2 #[.slice A0_0 l0_0.length c0_0, .slice A0_1 l0_1.length c0_1] 25 ?_; intro gb111 hg w4 hbox hb; have BK111 := A_ (hbox); have GE111 := GE_ hg; replace HB := BS_ hb; clear hb hbox hg) | ((with_reducible refine gate_dst (N := 3) rfl ?_); (try (refine gate_guard (by rfl) ?_; dsimp only)); refine BX_ 3 #[.slice A1_0 l1_0.length c1_0, .slice A1_1 l1_1.length c1_1] 25 ?_; intro gb112 hg w5 hbox hb; have BK112 := A_ (hbox); have GE112 := GE_ hg; replace HB := BU_ hb; have NB111_112 := NB_ BK111 hg; have NB112_111 := NC_ BK111 hg; replace BK111 := BF_ BK111 hb; clear hb hbox hg)); go_upto_region 1 with (first | ((with_reducible refine gate_dst (N := 2) rfl ?_); (try (refine gate_guard (by rfl) ?_; dsimp only)); refine BX_ 2 #[.slice A0_0 l0_0.length c0_0, .slice A0_1 l0_1.length c0_1] 25 ?_; intro gb111 hg w4 hbox hb; have BK111 := A_ (hbox); have GE111 := GE_ hg; replace HB := BS_ hb; clear hb hbox hg) | ((with_reducible refine gate_dst (N := 3) rfl ?_); (try (refine gate_guard (by rfl) ?_; dsimp only)); refine BX_ 3 #[.slice A1_0 l1_0.length c1_0, .slice A1_1 l1_1.length c1_1] 25 ?_; intro gb112 hg w5 hbox hb; have BK112 := A_ (hbox); have GE112 := GE_ hg; replace HB := BU_ hb; have NB111_112 := NB_ BK111 hg; have NB112_111 := NC_ BK111 hg; replace BK111 := BF_ BK111 hb; clear hb hbox hg)))
 (try simp only [Act.put, List.setIfInBounds_toArray, List.set_cons_zero, List.set_cons_succ])
 go_cut [20] (fun v20 wc => ∃ (kq : Nat) (x20_2 : Bool), v20 = .bool x20_2 ∧ Aside0 (rf5_Equal.j0 kq x20_2 l0_0 l0_1 l1_0 l1_1 = some r) ∧ Aside0 (kq ≤ k) ∧ Aside0 (wc.heap[gb111]? = some (.cells #[(.slice A0_0 l0_0.length c0_0), (.slice A0_1 l0_1.length c0_1)] 25 (0, 0))) ∧ Aside0 (wc.heap[gb112]? = some (.cells #[(.slice A1_0 l1_0.length c1_0), (.slice A1_1 l1_1.length c1_1)] 25 (0, 0))) ∧ Aside0 (Below w.heap.size w wc))
 case first =>
  have H := HC3.out;clear HC3;replace H := BE_ H;obtain ⟨t113, A60, H⟩ := H;have A6 := A_ A60;clear A60
  by_cases c7 : t113 = true
  ·
   subst c7;rw [if_pos rfl] at H;have H' := A_ H;clear H;have hnb8 := NB111_112.out;have hnc8 := NB112_111.out;have hcz9_0 : w5.cell? ⟨gb111, 0, none⟩ = some (.slice A0_0 l0_0.length c0_0) := (blk_cell BK111.out 0).trans rfl;have hcz9_1 : w5.cell? ⟨gb111, 1, none⟩ = some (.slice A0_1 l0_1.length c0_1) := (blk_cell BK111.out 1).trans rfl;have hfz9_0 := blk_frozen BK111.out 0;have hfz9_1 := blk_frozen BK111.out 1;have hcz10_0 : w5.cell? ⟨gb112, 0, none⟩ = some (.slice A1_0 l1_0.length c1_0) := (blk_cell BK112.out 0).trans rfl;have hcz10_1 : w5.cell? ⟨gb112, 1, none⟩ = some (.slice A1_1 l1_1.length c1_1) := (blk_cell BK112.out 1).trans rfl;have hfz10_0 := blk_frozen BK112.out 0;have hfz10_1 := blk_frozen BK112.out 1
   iterate 3 ((try go_wp2_with (first | (go_at_call 27; (with_reducible refine (rf4_Same.calls k _ _ l0_0 _ _ l1_0 true _ (CW_ HR0_0) HC0_0.out (CW_ HR1_0) HC1_0.out A6.out).mono ?_); rintro e w' ⟨rfl, ⟨nd, rfl⟩⟩; (try first | exact ⟨rfl, _, World.drewN_drewN _ _ _⟩ | exact ⟨rfl, _, Eq.trans (World.drewN_drewN _ _ _) (congrArg (World.drewN _) (Nat.add_assoc _ _ _))⟩)))); (try go_quiet (first | (go_at_call 27; (with_reducible refine (rf4_Same.calls k _ _ l0_0 _ _ l1_0 true _ (CW_ HR0_0) HC0_0.out (CW_ HR1_0) HC1_0.out A6.out).mono ?_); rintro e w' ⟨rfl, ⟨nd, rfl⟩⟩; (try first | exact ⟨rfl, _, World.drewN_drewN _ _ _⟩ | exact ⟨rfl, _, Eq.trans (World.drewN_drewN _ _ _) (congrArg (World.drewN _) (Nat.add_assoc _ _ _))⟩)))))
   go_meet
   case rel => exact ⟨_, (((l0_1.length : Int) != (l1_1.length : Int))), S1_, H', ⟨by first | omega | exact Nat.le_refl _⟩, BW_ BK111, BW_ BK112, ⟨T9_⟩⟩
  ·
   replace c7 := Bool.eq_false_iff.mpr c7;subst c7;rw [if_neg (show ¬ (false = true) by decide)] at H;have H' := A_ H;clear H;have hnb11 := NB111_112.out;have hnc11 := NB112_111.out;have hcz12_0 : w5.cell? ⟨gb111, 0, none⟩ = some (.slice A0_0 l0_0.length c0_0) := (blk_cell BK111.out 0).trans rfl;have hcz12_1 : w5.cell? ⟨gb111, 1, none⟩ = some (.slice A0_1 l0_1.length c0_1) := (blk_cell BK111.out 1).trans rfl;have hfz12_0 := blk_frozen BK111.out 0;have hfz12_1 := blk_frozen BK111.out 1;have hcz13_0 : w5.cell? ⟨gb112, 0, none⟩ = some (.slice A1_0 l1_0.length c1_0) := (blk_cell BK112.out 0).trans rfl;have hcz13_1 : w5.cell? ⟨gb112, 1, none⟩ = some (.slice A1_1 l1_1.length c1_1) := (blk_cell BK112.out 1).trans rfl;have hfz13_0 := blk_frozen BK112.out 0;have hfz13_1 := blk_frozen BK112.out 1
   iterate 3 ((try go_wp2_with (first | (go_at_call 27; (with_reducible refine (rf4_Same.calls k _ _ l0_0 _ _ l1_0 false _ (CW_ HR0_0) HC0_0.out (CW_ HR1_0) HC1_0.out A6.out).mono ?_); rintro e w' ⟨rfl, ⟨nd, rfl⟩⟩; (try first | exact ⟨rfl, _, World.drewN_drewN _ _ _⟩ | exact ⟨rfl, _, Eq.trans (World.drewN_drewN _ _ _) (congrArg (World.drewN _) (Nat.add_assoc _ _ _))⟩)))); (try go_quiet (first | (go_at_call 27; (with_reducible refine (rf4_Same.calls k _ _ l0_0 _ _ l1_0 false _ (CW_ HR0_0) HC0_0.out (CW_ HR1_0) HC1_0.out A6.out).mono ?_); rintro e w' ⟨rfl, ⟨nd, rfl⟩⟩; (try first | exact ⟨rfl, _, World.drewN_drewN _ _ _⟩ | exact ⟨rfl, _, Eq.trans (World.drewN_drewN _ _ _) (congrArg (World.drewN _) (Nat.add_assoc _ _ _))⟩)))))
   go_meet
   case rel => exact ⟨_, (true), S1_, H', ⟨by first | omega | exact Nat.le_refl _⟩, BW_ BK111, BW_ BK112, ⟨T9_⟩⟩
 case rest =>
  clear HC3
  obtain ⟨kq, x20_2, rfl, HA, HJ2, BK111, BK112, HB⟩ := hcut
  cases kq with
  | zero => exact absurd HA.out (by simp [rf5_Equal.j0])
  | succ kj2 =>
   have H := HA.out;clear HA;simp only [rf5_Equal.j0] at H
   by_cases c14 : x20_2 = true
   ·
    subst c14;rw [if_pos rfl] at H;obtain rfl := Option.some.inj H
    go_wp2
    repeat (go_quiet (fail); try go_wp2)
    go_ret
    exact ⟨T4_, T9_⟩
   ·
    replace c14 := Bool.eq_false_iff.mpr c14;subst c14;rw [if_neg (show ¬ (false = true) by decide)] at H;have H' := A_ H;clear H
    go_wp2
    repeat (go_quiet (fail); try go_wp2)
    go_loopg [5] kj2 (fun kq v5 w' => ∃ (x5_2 : Int), v5 = .int .i64 x5_2 ∧ Aside0 (rf5_Equal.l0 kq x5_2 l0_0 l0_1 l1_0 l1_1 = some r) ∧ Aside0 (kq ≤ kj2) ∧ Aside0 (w'.heap[gb111]? = some (.cells #[(.slice A0_0 l0_0.length c0_0), (.slice A0_1 l0_1.length c0_1)] 25 (0, 0))) ∧ Aside0 (w'.heap[gb112]? = some (.cells #[(.slice A1_0 l1_0.length c1_0), (.slice A1_1 l1_1.length c1_1)] 25 (0, 0))) ∧ Aside0 (Below w.heap.size w w'))
    case atStart => exact ⟨(0), S1_, H', ⟨Nat.le_refl _⟩, BW_ BK111, BW_ BK112, ⟨T9_⟩⟩
    case round =>
     clear H'
     try clear c14
     obtain ⟨x5_2, rfl, HA, HK2, BK111, BK112, HB⟩ := hrel
     cases gk with
     | zero => exact absurd HA.out (by simp [rf5_Equal.l0])
     | succ k2 =>
      have H := HA.out;clear HA;simp only [rf5_Equal.l0] at H
      by_cases c15 : x5_2 < (l0_1.length : Int)
      ·
       rw [if_pos c15] at H;have c15b0 := decide_eq_true c15;clear c15
       by_cases c16 : 0 ≤ x5_2
       ·
        rw [if_pos c16] at H;have c16b0 := decide_eq_true c16;clear c16
        by_cases c17 : x5_2 < (l1_1.length : Int)
        ·
         rw [if_pos c17] at H;have c17b0 := decide_eq_true c17;clear c17
         by_cases c18 : (rdOf ByteArray.empty l0_1 x5_2).toList = (rdOf ByteArray.empty l1_1 x5_2).toList
         ·
          rw [if_pos c18] at H;have c18b0 : ((rdOf ByteArray.empty l0_1 x5_2).toList == (rdOf ByteArray.empty l1_1 x5_2).toList) = true := beq_iff_eq.mpr c18;have c18b1 : ((rdOf ByteArray.empty l0_1 x5_2).toList != (rdOf ByteArray.empty l1_1 x5_2).toList) = false := bne_eq_false_iff_eq.mpr c18;clear c18;have H' := A_ H;clear H;have hnb19 := NB111_112.out;have hnc19 := NB112_111.out;have hcz20_0 : wr.cell? ⟨gb111, 0, none⟩ = some (.slice A0_0 l0_0.length c0_0) := (blk_cell BK111.out 0).trans rfl;have hcz20_1 : wr.cell? ⟨gb111, 1, none⟩ = some (.slice A0_1 l0_1.length c0_1) := (blk_cell BK111.out 1).trans rfl;have hfz20_0 := blk_frozen BK111.out 0;have hfz20_1 := blk_frozen BK111.out 1;have p114 : 0 ≤ (x5_2 : Int) := DA_;have q114 : x5_2 < (l0_1.length : Int) := DA_;obtain ⟨ad114, e114, hx114_0⟩ := Kd.at_string HR0_1.out x5_2 p114 q114
          cases e114
          replace hx114_0 := (HB.out.cell (World.block_lt_of_cell? w _ hx114_0)).trans hx114_0;replace p114 := eq_true p114;replace q114 := eq_true q114;have hcz21_0 : wr.cell? ⟨gb112, 0, none⟩ = some (.slice A1_0 l1_0.length c1_0) := (blk_cell BK112.out 0).trans rfl;have hcz21_1 : wr.cell? ⟨gb112, 1, none⟩ = some (.slice A1_1 l1_1.length c1_1) := (blk_cell BK112.out 1).trans rfl;have hfz21_0 := blk_frozen BK112.out 0;have hfz21_1 := blk_frozen BK112.out 1;have p115 : 0 ≤ (x5_2 : Int) := DA_;have q115 : x5_2 < (l1_1.length : Int) := DA_;obtain ⟨ad115, e115, hx115_0⟩ := Kd.at_string HR1_1.out x5_2 p115 q115
          cases e115
          replace hx115_0 := (HB.out.cell (World.block_lt_of_cell? w _ hx115_0)).trans hx115_0;replace p115 := eq_true p115;replace q115 := eq_true q115
          go_wp2
          repeat (go_quiet (fail); try go_wp2)
          go_roundg k2
          case measure => have := HJ2.out; have := HK2.out; omega
          case rel => exact ⟨(wrap64 (x5_2 + 1)), S1_, H', ⟨by have := HJ2.out; have := HK2.out; omega⟩, BW_ BK111, BW_ BK112, ⟨T9_⟩⟩
         ·
          rw [if_neg c18] at H;have c18b0 : ((rdOf ByteArray.empty l0_1 x5_2).toList == (rdOf ByteArray.empty l1_1 x5_2).toList) = false := beq_eq_false_iff_ne.mpr c18;have c18b1 : ((rdOf ByteArray.empty l0_1 x5_2).toList != (rdOf ByteArray.empty l1_1 x5_2).toList) = true := bne_iff_ne.mpr c18;obtain rfl := Option.some.inj H;have hnb22 := NB111_112.out;have hnc22 := NB112_111.out;have hcz23_0 : wr.cell? ⟨gb111, 0, none⟩ = some (.slice A0_0 l0_0.length c0_0) := (blk_cell BK111.out 0).trans rfl;have hcz23_1 : wr.cell? ⟨gb111, 1, none⟩ = some (.slice A0_1 l0_1.length c0_1) := (blk_cell BK111.out 1).trans rfl;have hfz23_0 := blk_frozen BK111.out 0;have hfz23_1 := blk_frozen BK111.out 1;have p114 : 0 ≤ (x5_2 : Int) := DA_;have q114 : x5_2 < (l0_1.length : Int) := DA_;obtain ⟨ad114, e114, hx114_0⟩ := Kd.at_string HR0_1.out x5_2 p114 q114
          cases e114
          replace hx114_0 := (HB.out.cell (World.block_lt_of_cell? w _ hx114_0)).trans hx114_0;replace p114 := eq_true p114;replace q114 := eq_true q114;have hcz24_0 : wr.cell? ⟨gb112, 0, none⟩ = some (.slice A1_0 l1_0.length c1_0) := (blk_cell BK112.out 0).trans rfl;have hcz24_1 : wr.cell? ⟨gb112, 1, none⟩ = some (.slice A1_1 l1_1.length c1_1) := (blk_cell BK112.out 1).trans rfl;have hfz24_0 := blk_frozen BK112.out 0;have hfz24_1 := blk_frozen BK112.out 1;have p115 : 0 ≤ (x5_2 : Int) := DA_;have q115 : x5_2 < (l1_1.length : Int) := DA_;obtain ⟨ad115, e115, hx115_0⟩ := Kd.at_string HR1_1.out x5_2 p115 q115
          cases e115
          replace hx115_0 := (HB.out.cell (World.block_lt_of_cell? w _ hx115_0)).trans hx115_0;replace p115 := eq_true p115;replace q115 := eq_true q115
          go_wp2
          repeat (go_quiet (fail); try go_wp2)
          go_ret
          exact ⟨T4_, T9_⟩
        ·
         rw [if_neg c17] at H;exact absurd H (by simp)
       ·
        rw [if_neg c16] at H;exact absurd H (by simp)
      ·
       rw [if_neg c15] at H;have c15b0 := decide_eq_false c15;clear c15;obtain rfl := Option.some.inj H;have hnb25 := NB111_112.out;have hnc25 := NB112_111.out;have hcz26_0 : wr.cell? ⟨gb111, 0, none⟩ = some (.slice A0_0 l0_0.length c0_0) := (blk_cell BK111.out 0).trans rfl;have hcz26_1 : wr.cell? ⟨gb111, 1, none⟩ = some (.slice A0_1 l0_1.length c0_1) := (blk_cell BK111.out 1).trans rfl;have hfz26_0 := blk_frozen BK111.out 0;have hfz26_1 := blk_frozen BK111.out 1
       go_wp2
       repeat (go_quiet (fail); try go_wp2)
       go_ret
       exact ⟨T4_, T9_⟩
/-! ### slices_Index_string_string: function 69 -/
def slices_Index_string_string.l0 : Nat → List ByteArray → ByteArray → Int → Int → Option (Int)
 | 0, _, _, _, _ => none
 | k + 1, x0, x1, x7, x8 => if x8 < x7 then (if 0 ≤ x8 then (if x8 < (x0.length : Int) then (if x1.toList = (rdOf ByteArray.empty x0 x8).toList then (some x8) else (slices_Index_string_string.l0 k x0 x1 x7 (wrap64 (x8 + 1)))) else (none)) else (none)) else (some (-1))
def slices_Index_string_string.f (k : Nat) (l0 : List ByteArray) (a1 : ByteArray) : Option (Int) := slices_Index_string_string.l0 k l0 a1 (l0.length : Int) 0
theorem slices_Index_string_string.calls (k : Nat) (A0 : Option Addr) (c0 : Nat) (l0 : List ByteArray) (a1 : ByteArray) (r : Int) (w : World) (hr0 : Kd.C Kd.string w A0 l0.length l0) (hc0 : l0.length ≤ c0) (h : slices_Index_string_string.f k l0 a1 = some r) :
  Calls Tryz.prog 69 #[.slice A0 l0.length c0, .string a1] w fun e w' => e = .returned (.int .i64 r) ∧ Drawn0 w w' := by
 have HR0 := A_ hr0;have HC0 := A_ hc0;clear hr0 hc0;unfold slices_Index_string_string.f at h;have H := h;clear h;have H' := A_ H;clear H;go_enter Tryz.func69, Tryz.ntmps69
 go_wp2
 go_loopg [8] k (fun kq v8 w' => ∃ (x8_1 : Int), v8 = .int .i64 x8_1 ∧ Aside0 (slices_Index_string_string.l0 kq l0 a1 (l0.length : Int) x8_1 = some r) ∧ Aside0 (kq ≤ k) ∧ Drawn0 w w')
 case atStart => exact ⟨(0), S1_, H', ⟨Nat.le_refl _⟩, by repeat (first | exact Drawn0.refl _ | apply Drawn0.step)⟩
 case round =>
  clear H'
  obtain ⟨x8_1, rfl, HA, HK1, ⟨m1, rfl⟩⟩ := hrel
  cases gk with
  | zero => exact absurd HA.out (by simp [slices_Index_string_string.l0])
  | succ k1 =>
   have H := HA.out;clear HA;simp only [slices_Index_string_string.l0] at H
   by_cases c3 : x8_1 < (l0.length : Int)
   ·
    rw [if_pos c3] at H;have c3b0 := decide_eq_true c3;clear c3
    by_cases c4 : 0 ≤ x8_1
    ·
     rw [if_pos c4] at H;have c4b0 := decide_eq_true c4;clear c4
     by_cases c5 : x8_1 < (l0.length : Int)
     ·
      rw [if_pos c5] at H;have c5b0 := decide_eq_true c5;clear c5
      by_cases c6 : a1.toList = (rdOf ByteArray.empty l0 x8_1).toList
      ·
       rw [if_pos c6] at H;have c6b0 : (a1.toList == (rdOf ByteArray.empty l0 x8_1).toList) = true := beq_iff_eq.mpr c6;have c6b1 : (a1.toList != (rdOf ByteArray.empty l0 x8_1).toList) = false := bne_eq_false_iff_eq.mpr c6;clear c6;obtain rfl := Option.some.inj H;have p116 : 0 ≤ (x8_1 : Int) := DA_;have q116 : x8_1 < (l0.length : Int) := DA_;obtain ⟨ad116, e116, hx116_0⟩ := Kd.at_string HR0.out x8_1 p116 q116
       cases e116
       replace p116 := eq_true p116;replace q116 := eq_true q116
       go_wp2
       go_ret
       exact ⟨by first | rfl | (simp; done) | (simp [*]; done), by repeat (first | exact Drawn0.refl _ | apply Drawn0.step)⟩
      ·
       rw [if_neg c6] at H;have c6b0 : (a1.toList == (rdOf ByteArray.empty l0 x8_1).toList) = false := beq_eq_false_iff_ne.mpr c6;have c6b1 : (a1.toList != (rdOf ByteArray.empty l0 x8_1).toList) = true := bne_iff_ne.mpr c6;have H' := A_ H;clear H;have p116 : 0 ≤ (x8_1 : Int) := DA_;have q116 : x8_1 < (l0.length : Int) := DA_;obtain ⟨ad116, e116, hx116_0⟩ := Kd.at_string HR0.out x8_1 p116 q116
       cases e116
       replace p116 := eq_true p116;replace q116 := eq_true q116
       go_wp2
       go_roundg k1
       case measure => have := HK1.out; omega
       case rel => exact ⟨(wrap64 (x8_1 + 1)), S1_, H', ⟨by have := HK1.out; omega⟩, by repeat (first | exact Drawn0.refl _ | apply Drawn0.step)⟩
     ·
      rw [if_neg c5] at H;exact absurd H (by simp)
    ·
     rw [if_neg c4] at H;exact absurd H (by simp)
   ·
    rw [if_neg c3] at H;have c3b0 := decide_eq_false c3;clear c3;obtain rfl := Option.some.inj H
    go_wp2
    go_ret
    exact ⟨by first | rfl | (simp; done) | (simp [*]; done), by repeat (first | exact Drawn0.refl _ | apply Drawn0.step)⟩
/-! ### slices_Contains_string_string: function 46 -/
def slices_Contains_string_string.f (k : Nat) (l0 : List ByteArray) (a1 : ByteArray) : Option (Bool) := (slices_Index_string_string.f k l0 a1).bind fun t117 => (some (decide (t117 ≥ 0)))
theorem slices_Contains_string_string.calls (k : Nat) (A0 : Option Addr) (c0 : Nat) (l0 : List ByteArray) (a1 : ByteArray) (r : Bool) (w : World) (hr0 : Kd.C Kd.string w A0 l0.length l0) (hc0 : l0.length ≤ c0) (h : slices_Contains_string_string.f k l0 a1 = some r) :
  Calls Tryz.prog 46 #[.slice A0 l0.length c0, .string a1] w fun e w' => e = .returned (.bool r) ∧ Drawn0 w w' := by
 have HR0 := A_ hr0;have HC0 := A_ hc0;clear hr0 hc0;unfold slices_Contains_string_string.f at h;have H := h;clear h;replace H := BE_ H;obtain ⟨t117, A30, H⟩ := H;have A3 := A_ A30;clear A30;obtain rfl := Option.some.inj H;go_enter Tryz.func46, Tryz.ntmps46
 go_wp2_with (first | (refine GL_ 69 7 Tryz.func69 #[.slice A0 l0.length c0, .string a1] ?_; (with_reducible refine (slices_Index_string_string.calls k _ _ l0 a1 t117 _ (C1_ HR0.out) HC0.out A3.out).mono ?_); rintro e w' ⟨rfl, ⟨nd, rfl⟩⟩; refine ⟨_, rfl, ?_⟩))
 go_ret
 exact ⟨by first | rfl | (simp; done) | (simp [*]; done), by repeat (first | exact Drawn0.refl _ | apply Drawn0.step)⟩
end Go.Proofs.YtndkjpkgllmbnaaGreatDoor.PV
