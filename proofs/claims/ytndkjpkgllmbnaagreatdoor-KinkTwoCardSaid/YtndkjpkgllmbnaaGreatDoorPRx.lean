-- by wip/tool/mine.py of this repo (the kit's printer with given contracts)
import Derived.Test.YtndkjpkgllmbnaaGreatDoorStr
namespace Go.Proofs.YtndkjpkgllmbnaaGreatDoor.PR
open Go.RowKit Go.ZPWords Go.ZPLast Go.ZPMore
attribute [local go_sem] max2_int min2_int max_two min_two max_three min_three max_four min_four   -- for this text's walks alone
set_option linter.unusedVariables false
set_option linter.unusedSimpArgs false
set_option maxHeartbeats 8000000
set_option maxRecDepth 100000
def errW : Option Int → Value
 | none => .nilIface
 | some c => .iface 0 (.int .i64 c)
theorem errW_none : errW none = .nilIface := rfl
theorem errW_some (c : Int) : errW (some c) = .iface 0 (.int .i64 c) := rfl
theorem info3 : (Tryz.prog.info? 3).map (fun i => (i.zero, i.size, i.bytes)) = some (some (.int .i64 0), 1, 8) := by kernel_rfl
theorem info5 : (Tryz.prog.info? 5).map (fun i => (i.zero, i.size, i.bytes)) = some (some (.int .u8 0), 1, 1) := by kernel_rfl
/-! ### rf1_Right: function 71 -/
def rf1_Right.l0 : Nat → ByteArray → Int → Option (Bool)
 | 0, _, _ => none
 | k + 1, x0, x3 => if x3 < (x0.size : Int) then (if 0 ≤ x3 then (if (bt x0 x3) < 48 then (some false) else (if (bt x0 x3) > 57 then (some false) else (rf1_Right.l0 k x0 (wrap64 (x3 + 1))))) else (none)) else (if (x0.size : Int) = 1 then (some true) else (if (x0.size : Int) > 1 then (if 0 < (x0.size : Int) then (some ((bt x0 0) != 48)) else (none)) else (some false)))
def rf1_Right.f (k : Nat) (a0 : ByteArray) : Option (Bool) := rf1_Right.l0 k a0 0
theorem rf1_Right.calls (k : Nat) (a0 : ByteArray) (r : Bool) (w : World) (h : rf1_Right.f k a0 = some r) :
  Calls Tryz.prog 71 #[.string a0] w fun e w' => e = .returned (.bool r) ∧ Drawn0 w w' := by
 unfold rf1_Right.f at h;have H := h;clear h;have H' := A_ H;clear H;go_enter Tryz.func71, Tryz.ntmps71
 go_wp2
 go_loopg [3] k (fun kq v3 w' => ∃ (x3_1 : Int), v3 = .int .i64 x3_1 ∧ Aside0 (rf1_Right.l0 kq a0 x3_1 = some r) ∧ Aside0 (kq ≤ k) ∧ Drawn0 w w')
 case atStart => exact ⟨(0), S1_, H', ⟨Nat.le_refl _⟩, by repeat (first | exact Drawn0.refl _ | apply Drawn0.step)⟩
 case round =>
  clear H';obtain ⟨x3_1, rfl, HA, HK1, ⟨m1, rfl⟩⟩ := hrel
  cases gk with
  | zero => exact absurd HA.out (by simp [rf1_Right.l0])
  | succ k1 =>
   have H := HA.out;clear HA;simp only [rf1_Right.l0] at H
   by_cases c2 : x3_1 < (a0.size : Int)
   ·
    rw [if_pos c2] at H;have c2b0 := decide_eq_true c2;clear c2
    by_cases c3 : 0 ≤ x3_1
    ·
     rw [if_pos c3] at H;have c3b0 := decide_eq_true c3;clear c3
     by_cases c5 : (bt a0 x3_1) < 48
     ·
      rw [if_pos c5] at H;have c5b0 := decide_eq_true c5;clear c5;obtain rfl := Option.some.inj H;have p4 : 0 ≤ (x3_1 : Int) := DA_;have q4 : x3_1 < (a0.size : Int) := DA_;have hx4 := bt_at a0 x3_1;replace p4 := eq_true p4;replace q4 := eq_true q4
      go_wp2
      go_ret
      exact ⟨by first | rfl | (simp; done) | (simp [*]; done), by repeat (first | exact Drawn0.refl _ | apply Drawn0.step)⟩
     ·
      rw [if_neg c5] at H;have c5b0 := decide_eq_false c5;clear c5
      by_cases c7 : (bt a0 x3_1) > 57
      ·
       rw [if_pos c7] at H;have c7b0 : decide (57 < (bt a0 x3_1)) = true := decide_eq_true c7;clear c7;obtain rfl := Option.some.inj H;have p4 : 0 ≤ (x3_1 : Int) := DA_;have q4 : x3_1 < (a0.size : Int) := DA_;have hx4 := bt_at a0 x3_1;replace p4 := eq_true p4;replace q4 := eq_true q4;have p6 : 0 ≤ (x3_1 : Int) := DA_;have q6 : x3_1 < (a0.size : Int) := DA_;have hx6 := bt_at a0 x3_1;replace p6 := eq_true p6;replace q6 := eq_true q6
       go_wp2
       go_ret
       exact ⟨by first | rfl | (simp; done) | (simp [*]; done), by repeat (first | exact Drawn0.refl _ | apply Drawn0.step)⟩
      ·
       rw [if_neg c7] at H;have c7b0 : decide (57 < (bt a0 x3_1)) = false := decide_eq_false c7;clear c7;have H' := A_ H;clear H;have p4 : 0 ≤ (x3_1 : Int) := DA_;have q4 : x3_1 < (a0.size : Int) := DA_;have hx4 := bt_at a0 x3_1;replace p4 := eq_true p4;replace q4 := eq_true q4;have p6 : 0 ≤ (x3_1 : Int) := DA_;have q6 : x3_1 < (a0.size : Int) := DA_;have hx6 := bt_at a0 x3_1;replace p6 := eq_true p6;replace q6 := eq_true q6
       go_wp2
       go_roundg k1
       case measure => have := HK1.out; omega
       case rel => exact ⟨(wrap64 (x3_1 + 1)), S1_, H', ⟨by have := HK1.out; omega⟩, by repeat (first | exact Drawn0.refl _ | apply Drawn0.step)⟩
    ·
     rw [if_neg c3] at H;exact absurd H (by simp)
   ·
    rw [if_neg c2] at H;have c2b0 := decide_eq_false c2;clear c2
    by_cases c8 : (a0.size : Int) = 1
    ·
     rw [if_pos c8] at H;have c8b0 : ((a0.size : Int) == 1) = true := beq_iff_eq.mpr c8;have c8b1 : ((a0.size : Int) != 1) = false := bne_eq_false_iff_eq.mpr c8;clear c8;obtain rfl := Option.some.inj H
     go_wp2
     go_ret
     exact ⟨by first | rfl | (simp; done) | (simp [*]; done), by repeat (first | exact Drawn0.refl _ | apply Drawn0.step)⟩
    ·
     rw [if_neg c8] at H;have c8b0 : ((a0.size : Int) == 1) = false := beq_eq_false_iff_ne.mpr c8;have c8b1 : ((a0.size : Int) != 1) = true := bne_iff_ne.mpr c8
     by_cases c9 : (a0.size : Int) > 1
     ·
      rw [if_pos c9] at H;have c9b0 : decide (1 < (a0.size : Int)) = true := decide_eq_true c9;have c9b1 : decide (1 < a0.size) = true := decide_eq_true (by omega);clear c9
      by_cases c10 : 0 < (a0.size : Int)
      ·
       rw [if_pos c10] at H;have c10b0 := decide_eq_true c10;have c10b1 : decide (0 < a0.size) = true := decide_eq_true (by omega);clear c10;obtain rfl := Option.some.inj H;have p11 : 0 ≤ (0 : Int) := (by omega);have q11 : 0 < a0.size := (by have : (0 : Int) < (a0.size : Int) := DA_; omega);have hx11 : ∀ h : 0 < a0.size, ((a0[0]'h).toNat : Int) = bt a0 0 := bt_at a0 0;clear p11;have qi11 : (0 < (a0.size : Int)) = True := eq_true (DA_);replace q11 := eq_true q11
       go_wp2
       go_ret
       exact ⟨by first | rfl | (simp; done) | (simp [*]; done), by repeat (first | exact Drawn0.refl _ | apply Drawn0.step)⟩
      ·
       rw [if_neg c10] at H;exact absurd H (by simp)
     ·
      rw [if_neg c9] at H;have c9b0 : decide (1 < (a0.size : Int)) = false := decide_eq_false c9;have c9b1 : decide (1 < a0.size) = false := decide_eq_false (by omega);clear c9;obtain rfl := Option.some.inj H
      go_wp2
      go_ret
      exact ⟨by first | rfl | (simp; done) | (simp [*]; done), by repeat (first | exact Drawn0.refl _ | apply Drawn0.step)⟩
/-! ### rf1_Plain: function 120 -/
def rf1_Plain.l0 : Nat → ByteArray → Option (ByteArray)
 | 0, _ => none
 | k + 1, x0 => if (x0.size : Int) > 1 then (if 0 < (x0.size : Int) then (if (bt x0 0) = 48 then (if 1 ≤ (x0.size : Int) then (rf1_Plain.l0 k (x0.extract 1 x0.size)) else (none)) else (if x0.toList = ([] : List UInt8) then (some (⟨#[48]⟩ : ByteArray)) else (some x0))) else (none)) else (if x0.toList = ([] : List UInt8) then (some (⟨#[48]⟩ : ByteArray)) else (some x0))
def rf1_Plain.f (k : Nat) (a0 : ByteArray) : Option (ByteArray) := rf1_Plain.l0 k a0
theorem rf1_Plain.calls (k : Nat) (a0 : ByteArray) (r : ByteArray) (w : World) (h : rf1_Plain.f k a0 = some r) :
  Calls Tryz.prog 120 #[.string a0] w fun e w' => e = .returned (.string r) ∧ Drawn0 w w' := by
 unfold rf1_Plain.f at h;have H := h;clear h;have H' := A_ H;clear H;go_enter Tryz.func120, Tryz.ntmps120
 go_wp2
 go_loopg [0] k (fun kq v0 w' => ∃ (x0_1 : ByteArray), v0 = .string x0_1 ∧ Aside0 (rf1_Plain.l0 kq x0_1 = some r) ∧ Aside0 (kq ≤ k) ∧ Drawn0 w w')
 case atStart => exact ⟨(a0), S1_, H', ⟨Nat.le_refl _⟩, by repeat (first | exact Drawn0.refl _ | apply Drawn0.step)⟩
 case round =>
  clear H'
  obtain ⟨x0_1, rfl, HA, HK1, ⟨m1, rfl⟩⟩ := hrel
  cases gk with
  | zero => exact absurd HA.out (by simp [rf1_Plain.l0])
  | succ k1 =>
   have H := HA.out;clear HA;simp only [rf1_Plain.l0] at H
   by_cases c2 : (x0_1.size : Int) > 1
   ·
    rw [if_pos c2] at H;have c2b0 : decide (1 < (x0_1.size : Int)) = true := decide_eq_true c2;have c2b1 : decide (1 < x0_1.size) = true := decide_eq_true (by omega);clear c2
    by_cases c3 : 0 < (x0_1.size : Int)
    ·
     rw [if_pos c3] at H;have c3b0 := decide_eq_true c3;have c3b1 : decide (0 < x0_1.size) = true := decide_eq_true (by omega);clear c3
     by_cases c5 : (bt x0_1 0) = 48
     ·
      rw [if_pos c5] at H;have c5b0 : ((bt x0_1 0) == 48) = true := beq_iff_eq.mpr c5;have c5b1 : ((bt x0_1 0) != 48) = false := bne_eq_false_iff_eq.mpr c5;clear c5
      by_cases c6 : 1 ≤ (x0_1.size : Int)
      ·
       rw [if_pos c6] at H;have c6b0 := eq_true c6;have c6b1 := decide_eq_true c6;clear c6;have H' := A_ H;clear H;have p4 : 0 ≤ (0 : Int) := (by omega);have q4 : 0 < x0_1.size := (by have : (0 : Int) < (x0_1.size : Int) := DA_; omega);have hx4 : ∀ h : 0 < x0_1.size, ((x0_1[0]'h).toNat : Int) = bt x0_1 0 := bt_at x0_1 0;clear p4;have qi4 : (0 < (x0_1.size : Int)) = True := eq_true (DA_);replace q4 := eq_true q4
       go_wp2
       go_roundg k1
       case measure => have := HK1.out; omega
       case rel => exact ⟨(x0_1.extract 1 x0_1.size), S1_, H', ⟨by have := HK1.out; omega⟩, by repeat (first | exact Drawn0.refl _ | apply Drawn0.step)⟩
      ·
       rw [if_neg c6] at H;exact absurd H (by simp)
     ·
      rw [if_neg c5] at H;have c5b0 : ((bt x0_1 0) == 48) = false := beq_eq_false_iff_ne.mpr c5;have c5b1 : ((bt x0_1 0) != 48) = true := bne_iff_ne.mpr c5
      by_cases c7 : x0_1.toList = ([] : List UInt8)
      ·
       rw [if_pos c7] at H;have c7b0 : (x0_1.toList == ([] : List UInt8)) = true := beq_iff_eq.mpr c7;have c7b1 : (x0_1.toList != ([] : List UInt8)) = false := bne_eq_false_iff_eq.mpr c7;clear c7;obtain rfl := Option.some.inj H;have p4 : 0 ≤ (0 : Int) := (by omega);have q4 : 0 < x0_1.size := (by have : (0 : Int) < (x0_1.size : Int) := DA_; omega);have hx4 : ∀ h : 0 < x0_1.size, ((x0_1[0]'h).toNat : Int) = bt x0_1 0 := bt_at x0_1 0;clear p4;have qi4 : (0 < (x0_1.size : Int)) = True := eq_true (DA_);replace q4 := eq_true q4
       go_wp2
       go_ret
       exact ⟨by first | rfl | (simp; done) | (simp [*]; done), by repeat (first | exact Drawn0.refl _ | apply Drawn0.step)⟩
      ·
       rw [if_neg c7] at H;have c7b0 : (x0_1.toList == ([] : List UInt8)) = false := beq_eq_false_iff_ne.mpr c7;have c7b1 : (x0_1.toList != ([] : List UInt8)) = true := bne_iff_ne.mpr c7;obtain rfl := Option.some.inj H;have p4 : 0 ≤ (0 : Int) := (by omega);have q4 : 0 < x0_1.size := (by have : (0 : Int) < (x0_1.size : Int) := DA_; omega);have hx4 : ∀ h : 0 < x0_1.size, ((x0_1[0]'h).toNat : Int) = bt x0_1 0 := bt_at x0_1 0;clear p4;have qi4 : (0 < (x0_1.size : Int)) = True := eq_true (DA_);replace q4 := eq_true q4
       go_wp2
       go_ret
       exact ⟨by first | rfl | (simp; done) | (simp [*]; done), by repeat (first | exact Drawn0.refl _ | apply Drawn0.step)⟩
    ·
     rw [if_neg c3] at H;exact absurd H (by simp)
   ·
    rw [if_neg c2] at H;have c2b0 : decide (1 < (x0_1.size : Int)) = false := decide_eq_false c2;have c2b1 : decide (1 < x0_1.size) = false := decide_eq_false (by omega);clear c2
    by_cases c8 : x0_1.toList = ([] : List UInt8)
    ·
     rw [if_pos c8] at H;have c8b0 : (x0_1.toList == ([] : List UInt8)) = true := beq_iff_eq.mpr c8;have c8b1 : (x0_1.toList != ([] : List UInt8)) = false := bne_eq_false_iff_eq.mpr c8;clear c8;obtain rfl := Option.some.inj H
     go_wp2
     go_ret
     exact ⟨by first | rfl | (simp; done) | (simp [*]; done), by repeat (first | exact Drawn0.refl _ | apply Drawn0.step)⟩
    ·
     rw [if_neg c8] at H;have c8b0 : (x0_1.toList == ([] : List UInt8)) = false := beq_eq_false_iff_ne.mpr c8;have c8b1 : (x0_1.toList != ([] : List UInt8)) = true := bne_iff_ne.mpr c8;obtain rfl := Option.some.inj H
     go_wp2
     go_ret
     exact ⟨by first | rfl | (simp; done) | (simp [*]; done), by repeat (first | exact Drawn0.refl _ | apply Drawn0.step)⟩
/-! ### rf1_digit: function 146 -/
def rf1_digit.f (a0 : ByteArray) (a1 : Int) : Option (Int) := if a1 ≥ (a0.size : Int) then (some 0) else (if 0 ≤ (wrap64 ((wrap64 ((a0.size : Int) - 1)) - a1)) then (if (wrap64 ((wrap64 ((a0.size : Int) - 1)) - a1)) < (a0.size : Int) then (some (((bt a0 (wrap64 ((wrap64 ((a0.size : Int) - 1)) - a1))) - 48) % 256)) else (none)) else (none))
theorem rf1_digit.calls (a0 : ByteArray) (a1 : Int) (r : Int) (w : World) (h : rf1_digit.f a0 a1 = some r) :
  Calls Tryz.prog 146 #[.string a0, .int .i64 a1] w fun e w' => e = .returned (.int .i64 r) ∧ Drawn0 w w' := by
 unfold rf1_digit.f at h;have H := h;clear h
 by_cases c3 : a1 ≥ (a0.size : Int)
 ·
  rw [if_pos c3] at H;have c3b0 : decide ((a0.size : Int) ≤ a1) = true := decide_eq_true c3;clear c3;obtain rfl := Option.some.inj H;go_enter Tryz.func146, Tryz.ntmps146
  go_wp2
  go_ret
  exact ⟨by first | rfl | (simp; done) | (simp [*]; done), by repeat (first | exact Drawn0.refl _ | apply Drawn0.step)⟩
 ·
  rw [if_neg c3] at H;have c3b0 : decide ((a0.size : Int) ≤ a1) = false := decide_eq_false c3;clear c3;obtain ⟨ji4, hji4⟩ : ∃ j_ : Int, (wrap64 ((wrap64 ((a0.size : Int) - 1)) - a1)) = j_ := ⟨_, rfl⟩
  first | rw [hji4] at H | simp only [hji4] at H
  have hji4w : (IntKind.i64.wrap ((wrap64 ((a0.size : Int) - 1)) - a1)) = ji4 := (i64_w _).trans hji4
  by_cases c5 : 0 ≤ (ji4)
  ·
   rw [if_pos c5] at H;have c5b0 := decide_eq_true c5;clear c5
   by_cases c6 : (ji4) < (a0.size : Int)
   ·
    rw [if_pos c6] at H;have c6b0 := decide_eq_true c6;clear c6;obtain rfl := Option.some.inj H;have p7 : 0 ≤ ((ji4) : Int) := DA_;have q7 : (ji4) < (a0.size : Int) := DA_;have hx7 := bt_at a0 (ji4);replace p7 := eq_true p7;replace q7 := eq_true q7;go_enter Tryz.func146, Tryz.ntmps146
    go_wp2
    go_ret
    exact ⟨by first | rfl | (simp; done) | (simp only [← hji4] <;> (first | rfl | simp)) | (simp [*]; done), by repeat (first | exact Drawn0.refl _ | apply Drawn0.step)⟩
   ·
    rw [if_neg c6] at H;exact absurd H (by simp)
  ·
   rw [if_neg c5] at H;exact absurd H (by simp)
/-! ### rf1_of: function 147 -/
def rf1_of.l0 : Nat → List Int → List Int → Int → Option (ByteArray)
 | 0, _, _, _ => none
 | k + 1, x0, x3, x4 => if x4 ≥ 0 then (if 0 ≤ x4 then (if x4 < (x0.length : Int) then (if x3.length < 140737488355328 then (rf1_of.l0 k x0 (x3 ++ [(wrap64 (48 + (rd x0 x4))) % 256]) (wrap64 (x4 - 1))) else (none)) else (none)) else (none)) else ((rf1_Plain.f k (strOfNums x3)).bind fun t105 => (some t105))
def rf1_of.f (k : Nat) (l0 : List Int) : Option (ByteArray) := rf1_of.l0 k l0 ([] : List Int) (wrap64 ((l0.length : Int) - 1))
theorem rf1_of.calls (k : Nat) (A0 : Option Addr) (c0 : Nat) (l0 : List Int) (r : ByteArray) (w : World) (hr0 : Kd.C (Kd.int .i64) w A0 l0.length l0) (hc0 : l0.length ≤ c0) (h : rf1_of.f k l0 = some r) :
  Calls Tryz.prog 147 #[.slice A0 l0.length c0] w fun e w' => e = .returned (.string r) ∧ Below w.heap.size w w' := by
 have HR0 := A_ hr0;have HC0 := A_ hc0;clear hr0 hc0;have HB := A_ (Below.refl w.heap.size w);unfold rf1_of.f at h;have H := h;clear h;have H' := A_ H;clear H;go_enter Tryz.func147, Tryz.ntmps147
 go_wp2
 go_loopg [3, 4] k (fun kq v3 v4 w' => ∃ (x3_1 : List Int) (x4_1 : Int), v4 = .int .i64 x4_1 ∧ Aside0 (rf1_of.l0 kq l0 x3_1 x4_1 = some r) ∧ Aside0 (kq ≤ k) ∧ Aside0 (Kd.R (Kd.int .u8) 5 w' w.heap.size (fun _ => True) v3 x3_1) ∧ Aside0 (Below w.heap.size w w'))
 case atStart => exact ⟨(([] : List Int)), (wrap64 ((l0.length : Int) - 1)), S1_, H', ⟨Nat.le_refl _⟩, ⟨by first | exact Kd.R_nil _ _ _ _ _ | exact Kd.N_nil _ _ _ _ _ | exact Kd.V_nil _ _ _ _ _ | exact Kd.Q_nil _ _ _ _ _ | exact Kd.S_nil _ _ _ _ _⟩, ⟨T1_⟩⟩
 case round =>
  clear H'
  obtain ⟨x3_1, x4_1, rfl, HA, HK1, HO_3, HB⟩ := hrel
  cases gk with
  | zero => exact absurd HA.out (by simp [rf1_of.l0])
  | succ k1 =>
   have H := HA.out;clear HA;simp only [rf1_of.l0] at H
   by_cases c2 : x4_1 ≥ 0
   ·
    rw [if_pos c2] at H;have c2b0 : decide (0 ≤ x4_1) = true := decide_eq_true c2;clear c2
    by_cases c3 : 0 ≤ x4_1
    ·
     rw [if_pos c3] at H;have c3b0 := decide_eq_true c3;clear c3
     by_cases c4 : x4_1 < (l0.length : Int)
     ·
      rw [if_pos c4] at H;have c4b0 := decide_eq_true c4;clear c4
      by_cases c5 : x3_1.length < 140737488355328
      ·
       rw [if_pos c5] at H;have LMc5 := A_ c5;clear c5;obtain ⟨y102, hy_⟩ : ∃ y_ : List Int, y_ = (x3_1 ++ [(wrap64 (48 + (rd l0 x4_1))) % 256]) := ⟨_, rfl⟩
       replace H : (rf1_of.l0 k1 l0 y102 (wrap64 (x4_1 - 1))) = some r := RH_
       have Ny102 := A_ hy_;clear hy_;have H' := A_ H;clear H;have p101 : 0 ≤ (x4_1 : Int) := DA_;have q101 : x4_1 < (l0.length : Int) := DA_;obtain ⟨ad101, e101, hx101_0⟩ := Kd.at_int HR0.out x4_1 p101 q101
       cases e101
       replace hx101_0 := (HB.out.cell (World.block_lt_of_cell? w _ hx101_0)).trans hx101_0;replace p101 := eq_true p101;replace q101 := eq_true q101
       go_wp2_with (first | ((with_reducible refine gate_builtin (b := .append) (xs := #[.tmp 12, .tmp 19]) rfl ?_); at_builtin; refine Kd.R_append (Kd.int .u8) (w0 := w) w.heap.size rfl (.tmp 12) (.tmp 19) 44 5 (.int .u8 0) 1 rfl Tryz.underlying44 info5 rfl (by decide) (by omega) u3 x3_1 ((wrap64 (48 + (rd l0 x4_1))) % 256) [.int .u8 ((wrap64 (48 + (rd l0 x4_1))) % 256)] (fun _ => True) (fun _ => False) rfl rfl ?aP (fun _ hk => hk.elim) ?aF ?aO ?aB ?aS ?aL ?_; (case aP => exact rfl); (case aB => exact T1_); (case aF => exact (fun _ _ => trivial)); (case aO => exact (K1_ HO_3)); (case aS => exact (below_size T1_)); (case aL => have := LMc5.out; omega); intro v103 w6 ho hb hg hat; rw [← Ny102.out] at ho; have HO104 := A_ (ho); replace HB := A_ (hb); clear HO_3; clear ho hb hg hat))
       go_roundg k1
       case measure => have := HK1.out; omega
       case rel => exact ⟨(y102), (wrap64 (x4_1 - 1)), S1_, H', ⟨by have := HK1.out; omega⟩, ⟨by (with_reducible repeat (first | apply Kd.R_alloc | apply Kd.R_drewN | apply Kd.R_drew)); exact HO104.out⟩, ⟨T1_⟩⟩
      ·
       rw [if_neg c5] at H;exact absurd H (by simp)
     ·
      rw [if_neg c4] at H;exact absurd H (by simp)
    ·
     rw [if_neg c3] at H;exact absurd H (by simp)
   ·
    rw [if_neg c2] at H;have c2b0 : decide (0 ≤ x4_1) = false := decide_eq_false c2;clear c2;replace H := BE_ H;obtain ⟨t105, A70, H⟩ := H;have A7 := A_ A70;clear A70;obtain rfl := Option.some.inj H;have hcv8 := own_string (P := Tryz.prog) Tryz.underlying44 Tryz.underlying5 Tryz.underlying9 (Kd.own_of_R HO_3.out)
    go_wp2_with (first | (refine GL_ 120 23 Tryz.func120 #[.string (strOfNums x3_1)] ?_; (with_reducible refine (rf1_Plain.calls k1 (strOfNums x3_1) t105 _ A7.out).mono ?_); rintro e w' ⟨rfl, ⟨nd, rfl⟩⟩; refine ⟨_, rfl, ?_⟩))
    go_ret
    exact ⟨T4_, T1_⟩
/-! ### rf1_Add: function 123 -/
def rf1_Add.l0 : Nat → ByteArray → ByteArray → List Int → Int → Int → Option (ByteArray)
 | 0, _, _, _, _, _ => none
 | k + 1, x0, x1, x5, x6, x7 => if x7 < (wrap64 ((x0.size : Int) + (x1.size : Int))) then ((rf1_digit.f x0 x7).bind fun t106 => ((rf1_digit.f x1 x7).bind fun t107 => (if x5.length < 17592186044416 then (rf1_Add.l0 k x0 x1 (x5 ++ [Int.tmod (wrap64 (x6 + (wrap64 (t106 + t107)))) 10]) (wrap64 (Int.tdiv (wrap64 (x6 + (wrap64 (t106 + t107)))) 10)) (wrap64 (x7 + 1))) else (none)))) else ((rf1_of.f k x5).bind fun t111 => (some t111))
def rf1_Add.f (k : Nat) (a0 : ByteArray) (a1 : ByteArray) : Option (ByteArray) := rf1_Add.l0 k a0 a1 ([] : List Int) 0 0
theorem rf1_Add.calls (k : Nat) (a0 : ByteArray) (a1 : ByteArray) (r : ByteArray) (w : World) (h : rf1_Add.f k a0 a1 = some r) :
  Calls Tryz.prog 123 #[.string a0, .string a1] w fun e w' => e = .returned (.string r) ∧ Below w.heap.size w w' := by
 have HB := A_ (Below.refl w.heap.size w);unfold rf1_Add.f at h;have H := h;clear h;have H' := A_ H;clear H;go_enter Tryz.func123, Tryz.ntmps123
 go_wp2
 go_loopg [5, 6, 7] k (fun kq v5 v6 v7 w' => ∃ (x5_1 : List Int) (x6_1 : Int) (x7_1 : Int), v6 = .int .i64 x6_1 ∧ v7 = .int .i64 x7_1 ∧ Aside0 (rf1_Add.l0 kq a0 a1 x5_1 x6_1 x7_1 = some r) ∧ Aside0 (kq ≤ k) ∧ Aside0 (Kd.R (Kd.int .i64) 3 w' w.heap.size (fun _ => True) v5 x5_1) ∧ Aside0 (Below w.heap.size w w'))
 case atStart => exact ⟨(([] : List Int)), (0), (0), S1_, S1_, H', ⟨Nat.le_refl _⟩, ⟨by first | exact Kd.R_nil _ _ _ _ _ | exact Kd.N_nil _ _ _ _ _ | exact Kd.V_nil _ _ _ _ _ | exact Kd.Q_nil _ _ _ _ _ | exact Kd.S_nil _ _ _ _ _⟩, ⟨T1_⟩⟩
 case round =>
  clear H'
  obtain ⟨x5_1, x6_1, x7_1, rfl, rfl, HA, HK1, HO_5, HB⟩ := hrel
  cases gk with
  | zero => exact absurd HA.out (by simp [rf1_Add.l0])
  | succ k1 =>
   have H := HA.out;clear HA;simp only [rf1_Add.l0] at H
   by_cases c3 : x7_1 < (wrap64 ((a0.size : Int) + (a1.size : Int)))
   ·
    rw [if_pos c3] at H;have c3b0 : decide (x7_1 < (wrap64 ((a0.size : Int) + (a1.size : Int)))) = true := decide_eq_true c3;clear c3;replace H := BE_ H;obtain ⟨t106, A40, H⟩ := H;have A4 := A_ A40;clear A40;replace H := BE_ H;obtain ⟨t107, A50, H⟩ := H;have A5 := A_ A50;clear A50
    by_cases c6 : x5_1.length < 17592186044416
    ·
     rw [if_pos c6] at H;have LMc6 := A_ c6;clear c6;obtain ⟨y108, hy_⟩ : ∃ y_ : List Int, y_ = (x5_1 ++ [Int.tmod (wrap64 (x6_1 + (wrap64 (t106 + t107)))) 10]) := ⟨_, rfl⟩
     replace H : (rf1_Add.l0 k1 a0 a1 y108 (wrap64 (Int.tdiv (wrap64 (x6_1 + (wrap64 (t106 + t107)))) 10)) (wrap64 (x7_1 + 1))) = some r := RH_
     have Ny108 := A_ hy_;clear hy_;have H' := A_ H;clear H
     go_wp2_with (first | (refine GL_ 146 20 Tryz.func146 #[.string a0, .int .i64 x7_1] ?_; (with_reducible refine (rf1_digit.calls a0 x7_1 t106 _ A4.out).mono ?_); rintro e w' ⟨rfl, ⟨nd, rfl⟩⟩; refine ⟨_, rfl, ?_⟩) | (refine GL_ 146 23 Tryz.func146 #[.string a1, .int .i64 x7_1] ?_; (with_reducible refine (rf1_digit.calls a1 x7_1 t107 _ A5.out).mono ?_); rintro e w' ⟨rfl, ⟨nd, rfl⟩⟩; refine ⟨_, rfl, ?_⟩) | ((with_reducible refine gate_builtin (b := .append) (xs := #[.tmp 26, .tmp 29]) rfl ?_); at_builtin; refine Kd.R_append (Kd.int .i64) (w0 := w) w.heap.size rfl (.tmp 26) (.tmp 29) 22 3 (.int .i64 0) 8 rfl Tryz.underlying22 info3 rfl (by decide) (by omega) u5 x5_1 (Int.tmod (wrap64 (x6_1 + (wrap64 (t106 + t107)))) 10) [.int .i64 (Int.tmod (wrap64 (x6_1 + (wrap64 (t106 + t107)))) 10)] (fun _ => True) (fun _ => False) rfl rfl ?aP (fun _ hk => hk.elim) ?aF ?aO ?aB ?aS ?aL ?_; (case aP => exact rfl); (case aB => exact T1_); (case aF => exact (fun _ _ => trivial)); (case aO => exact (K1_ HO_5)); (case aS => exact (below_size T1_)); (case aL => have := LMc6.out; omega); intro v109 w7 ho hb hg hat; rw [← Ny108.out] at ho; have HO110 := A_ (ho); replace HB := A_ (hb); clear HO_5; clear ho hb hg hat))
     go_roundg k1
     case measure => have := HK1.out; omega
     case rel => exact ⟨(y108), (wrap64 (Int.tdiv (wrap64 (x6_1 + (wrap64 (t106 + t107)))) 10)), (wrap64 (x7_1 + 1)), S1_, S1_, H', ⟨by have := HK1.out; omega⟩, ⟨by (with_reducible repeat (first | apply Kd.R_alloc | apply Kd.R_drewN | apply Kd.R_drew)); exact HO110.out⟩, ⟨T1_⟩⟩
    ·
     rw [if_neg c6] at H;exact absurd H (by simp)
   ·
    rw [if_neg c3] at H;have c3b0 : decide (x7_1 < (wrap64 ((a0.size : Int) + (a1.size : Int)))) = false := decide_eq_false c3;clear c3;replace H := BE_ H;obtain ⟨t111, A80, H⟩ := H;have A8 := A_ A80;clear A80;obtain rfl := Option.some.inj H;obtain ⟨Ao9, co9, eo9⟩ := Kd.R_slice HO_5.out;subst eo9
    go_wp2_with (first | (refine GL_ 147 34 Tryz.func147 #[.slice Ao9 x5_1.length co9] ?_; (with_reducible refine (rf1_of.calls k1 _ _ x5_1 t111 _ (C1_ (Kd.R_reads' HO_5.out).2.2) ((Kd.R_reads' HO_5.out).2.1) A8.out).mono ?_); rintro e w10 ⟨rfl, hb⟩; refine ⟨_, rfl, ?_⟩; replace HO_5 := RC_ HO_5 hb; replace HB := BS_ hb; clear hb))
    go_ret
    exact ⟨T4_, T1_⟩
/-! ### rf1_Sub: function 122 -/
def rf1_Sub.l0 : Nat → ByteArray → ByteArray → List Int → Int → Int → Option (ByteArray)
 | 0, _, _, _, _, _ => none
 | k + 1, x0, x1, x5, x6, x7 => if x7 < (x0.size : Int) then ((rf1_digit.f x0 x7).bind fun t113 => ((rf1_digit.f x1 x7).bind fun t114 => (if (wrap64 ((wrap64 (t113 - t114)) - x6)) < 0 then (if x5.length < 17592186044416 then (rf1_Sub.l0 k x0 x1 (x5 ++ [wrap64 ((wrap64 ((wrap64 (t113 - t114)) - x6)) + 10)]) 1 (wrap64 (x7 + 1))) else (none)) else (if x5.length < 17592186044416 then (rf1_Sub.l0 k x0 x1 (x5 ++ [wrap64 ((wrap64 (t113 - t114)) - x6)]) 0 (wrap64 (x7 + 1))) else (none))))) else ((rf1_of.f k x5).bind fun t112 => (some t112))
def rf1_Sub.f (k : Nat) (a0 : ByteArray) (a1 : ByteArray) : Option (ByteArray) := rf1_Sub.l0 k a0 a1 ([] : List Int) 0 0
theorem rf1_Sub.calls (k : Nat) (a0 : ByteArray) (a1 : ByteArray) (r : ByteArray) (w : World) (h : rf1_Sub.f k a0 a1 = some r) :
  Calls Tryz.prog 122 #[.string a0, .string a1] w fun e w' => e = .returned (.string r) ∧ Below w.heap.size w w' := by
 have HB := A_ (Below.refl w.heap.size w);unfold rf1_Sub.f at h;have H := h;clear h;have H' := A_ H;clear H;go_enter Tryz.func122, Tryz.ntmps122
 go_wp2
 go_loopg [5, 6, 7] k (fun kq v5 v6 v7 w' => ∃ (x5_1 : List Int) (x6_1 : Int) (x7_1 : Int), v6 = .int .i64 x6_1 ∧ v7 = .int .i64 x7_1 ∧ Aside0 (rf1_Sub.l0 kq a0 a1 x5_1 x6_1 x7_1 = some r) ∧ Aside0 (kq ≤ k) ∧ Aside0 (Kd.R (Kd.int .i64) 3 w' w.heap.size (fun _ => True) v5 x5_1) ∧ Aside0 (Below w.heap.size w w'))
 case atStart => exact ⟨(([] : List Int)), (0), (0), S1_, S1_, H', ⟨Nat.le_refl _⟩, ⟨by first | exact Kd.R_nil _ _ _ _ _ | exact Kd.N_nil _ _ _ _ _ | exact Kd.V_nil _ _ _ _ _ | exact Kd.Q_nil _ _ _ _ _ | exact Kd.S_nil _ _ _ _ _⟩, ⟨T1_⟩⟩
 case round =>
  clear H'
  obtain ⟨x5_1, x6_1, x7_1, rfl, rfl, HA, HK1, HO_5, HB⟩ := hrel
  cases gk with
  | zero => exact absurd HA.out (by simp [rf1_Sub.l0])
  | succ k1 =>
   have H := HA.out;clear HA;simp only [rf1_Sub.l0] at H
   by_cases c3 : x7_1 < (a0.size : Int)
   ·
    rw [if_pos c3] at H;have c3b0 := decide_eq_true c3;clear c3;replace H := BE_ H;obtain ⟨t113, A40, H⟩ := H;have A4 := A_ A40;clear A40;replace H := BE_ H;obtain ⟨t114, A50, H⟩ := H;have A5 := A_ A50;clear A50
    by_cases c6 : (wrap64 ((wrap64 (t113 - t114)) - x6_1)) < 0
    ·
     rw [if_pos c6] at H;have c6b0 : decide ((wrap64 ((wrap64 (t113 - t114)) - x6_1)) < 0) = true := decide_eq_true c6;clear c6
     by_cases c7 : x5_1.length < 17592186044416
     ·
      rw [if_pos c7] at H;have LMc7 := A_ c7;clear c7;obtain ⟨y115, hy_⟩ : ∃ y_ : List Int, y_ = (x5_1 ++ [wrap64 ((wrap64 ((wrap64 (t113 - t114)) - x6_1)) + 10)]) := ⟨_, rfl⟩
      replace H : (rf1_Sub.l0 k1 a0 a1 y115 1 (wrap64 (x7_1 + 1))) = some r := RH_
      have Ny115 := A_ hy_;clear hy_;have H' := A_ H;clear H
      go_wp2_with (first | (refine GL_ 146 17 Tryz.func146 #[.string a0, .int .i64 x7_1] ?_; (with_reducible refine (rf1_digit.calls a0 x7_1 t113 _ A4.out).mono ?_); rintro e w' ⟨rfl, ⟨nd, rfl⟩⟩; refine ⟨_, rfl, ?_⟩) | (refine GL_ 146 20 Tryz.func146 #[.string a1, .int .i64 x7_1] ?_; (with_reducible refine (rf1_digit.calls a1 x7_1 t114 _ A5.out).mono ?_); rintro e w' ⟨rfl, ⟨nd, rfl⟩⟩; refine ⟨_, rfl, ?_⟩) | ((with_reducible refine gate_builtin (b := .append) (xs := #[.tmp 28, .tmp 30]) rfl ?_); at_builtin; refine Kd.R_append (Kd.int .i64) (w0 := w) w.heap.size rfl (.tmp 28) (.tmp 30) 22 3 (.int .i64 0) 8 rfl Tryz.underlying22 info3 rfl (by decide) (by omega) u5 x5_1 (wrap64 ((wrap64 ((wrap64 (t113 - t114)) - x6_1)) + 10)) [.int .i64 (wrap64 ((wrap64 ((wrap64 (t113 - t114)) - x6_1)) + 10))] (fun _ => True) (fun _ => False) rfl rfl ?aP (fun _ hk => hk.elim) ?aF ?aO ?aB ?aS ?aL ?_; (case aP => exact rfl); (case aB => exact T1_); (case aF => exact (fun _ _ => trivial)); (case aO => exact (K1_ HO_5)); (case aS => exact (below_size T1_)); (case aL => have := LMc7.out; omega); intro v116 w8 ho hb hg hat; rw [← Ny115.out] at ho; have HO117 := A_ (ho); replace HB := A_ (hb); clear HO_5; clear ho hb hg hat))
      go_roundg k1
      case measure => have := HK1.out; omega
      case rel => exact ⟨(y115), (1), (wrap64 (x7_1 + 1)), S1_, S1_, H', ⟨by have := HK1.out; omega⟩, ⟨by (with_reducible repeat (first | apply Kd.R_alloc | apply Kd.R_drewN | apply Kd.R_drew)); exact HO117.out⟩, ⟨T1_⟩⟩
     ·
      rw [if_neg c7] at H;exact absurd H (by simp)
    ·
     rw [if_neg c6] at H;have c6b0 : decide ((wrap64 ((wrap64 (t113 - t114)) - x6_1)) < 0) = false := decide_eq_false c6;clear c6
     by_cases c9 : x5_1.length < 17592186044416
     ·
      rw [if_pos c9] at H;have LMc9 := A_ c9;clear c9;obtain ⟨y118, hy_⟩ : ∃ y_ : List Int, y_ = (x5_1 ++ [wrap64 ((wrap64 (t113 - t114)) - x6_1)]) := ⟨_, rfl⟩
      replace H : (rf1_Sub.l0 k1 a0 a1 y118 0 (wrap64 (x7_1 + 1))) = some r := RH_
      have Ny118 := A_ hy_;clear hy_;have H' := A_ H;clear H
      go_wp2_with (first | (refine GL_ 146 17 Tryz.func146 #[.string a0, .int .i64 x7_1] ?_; (with_reducible refine (rf1_digit.calls a0 x7_1 t113 _ A4.out).mono ?_); rintro e w' ⟨rfl, ⟨nd, rfl⟩⟩; refine ⟨_, rfl, ?_⟩) | (refine GL_ 146 20 Tryz.func146 #[.string a1, .int .i64 x7_1] ?_; (with_reducible refine (rf1_digit.calls a1 x7_1 t114 _ A5.out).mono ?_); rintro e w' ⟨rfl, ⟨nd, rfl⟩⟩; refine ⟨_, rfl, ?_⟩) | ((with_reducible refine gate_builtin (b := .append) (xs := #[.tmp 28, .tmp 30]) rfl ?_); at_builtin; refine Kd.R_append (Kd.int .i64) (w0 := w) w.heap.size rfl (.tmp 28) (.tmp 30) 22 3 (.int .i64 0) 8 rfl Tryz.underlying22 info3 rfl (by decide) (by omega) u5 x5_1 (wrap64 ((wrap64 (t113 - t114)) - x6_1)) [.int .i64 (wrap64 ((wrap64 (t113 - t114)) - x6_1))] (fun _ => True) (fun _ => False) rfl rfl ?aP (fun _ hk => hk.elim) ?aF ?aO ?aB ?aS ?aL ?_; (case aP => exact rfl); (case aB => exact T1_); (case aF => exact (fun _ _ => trivial)); (case aO => exact (K1_ HO_5)); (case aS => exact (below_size T1_)); (case aL => have := LMc9.out; omega); intro v119 w10 ho hb hg hat; rw [← Ny118.out] at ho; have HO120 := A_ (ho); replace HB := A_ (hb); clear HO_5; clear ho hb hg hat))
      go_roundg k1
      case measure => have := HK1.out; omega
      case rel => exact ⟨(y118), (0), (wrap64 (x7_1 + 1)), S1_, S1_, H', ⟨by have := HK1.out; omega⟩, ⟨by (with_reducible repeat (first | apply Kd.R_alloc | apply Kd.R_drewN | apply Kd.R_drew)); exact HO120.out⟩, ⟨T1_⟩⟩
     ·
      rw [if_neg c9] at H;exact absurd H (by simp)
   ·
    rw [if_neg c3] at H;have c3b0 := decide_eq_false c3;clear c3;replace H := BE_ H;obtain ⟨t112, A110, H⟩ := H;have A11 := A_ A110;clear A110;obtain rfl := Option.some.inj H;obtain ⟨Ao12, co12, eo12⟩ := Kd.R_slice HO_5.out;subst eo12
    go_wp2_with (first | (refine GL_ 147 33 Tryz.func147 #[.slice Ao12 x5_1.length co12] ?_; (with_reducible refine (rf1_of.calls k1 _ _ x5_1 t112 _ (C1_ (Kd.R_reads' HO_5.out).2.2) ((Kd.R_reads' HO_5.out).2.1) A11.out).mono ?_); rintro e w13 ⟨rfl, hb⟩; refine ⟨_, rfl, ?_⟩; replace HO_5 := RC_ HO_5 hb; replace HB := BS_ hb; clear hb))
    go_ret
    exact ⟨T4_, T1_⟩
/-! ### rf1_Mul: function 124 -/
mutual
def rf1_Mul.l0 : Nat → ByteArray → ByteArray → List Int → Int → Option (ByteArray)
 | 0, _, _, _, _ => none
 | k + 1, x0, x1, x5, x6 => if x6 < (x0.size : Int) then (rf1_Mul.l1 k x0 x1 x5 x6 0 0) else ((rf1_of.f k x5).bind fun t124 => (some t124))
def rf1_Mul.l1 : Nat → ByteArray → ByteArray → List Int → Int → Int → Int → Option (ByteArray)
 | 0, _, _, _, _, _, _ => none
 | k + 1, x0, x1, x5, x6, x7, x8 => if x8 < (x1.size : Int) then (if 0 ≤ (wrap64 (x6 + x8)) then (if (wrap64 (x6 + x8)) < (x5.length : Int) then ((rf1_digit.f x0 x6).bind fun t126 => ((rf1_digit.f x1 x8).bind fun t127 => (rf1_Mul.l1 k x0 x1 (x5.set ((wrap64 (x6 + x8)) : Int).toNat (Int.tmod (wrap64 (x7 + (wrap64 ((rd x5 (wrap64 (x6 + x8))) + (wrap64 (t126 * t127)))))) 10)) x6 (wrap64 (Int.tdiv (wrap64 (x7 + (wrap64 ((rd x5 (wrap64 (x6 + x8))) + (wrap64 (t126 * t127)))))) 10)) (wrap64 (x8 + 1))))) else (none)) else (none)) else (if 0 ≤ (wrap64 (x6 + (x1.size : Int))) then (if (wrap64 (x6 + (x1.size : Int))) < (x5.length : Int) then (rf1_Mul.l0 k x0 x1 (x5.set ((wrap64 (x6 + (x1.size : Int))) : Int).toNat x7) (wrap64 (x6 + 1))) else (none)) else (none))
end
def rf1_Mul.f (k : Nat) (a0 : ByteArray) (a1 : ByteArray) : Option (ByteArray) := if 0 ≤ (wrap64 ((a0.size : Int) + (a1.size : Int))) then (if (wrap64 ((a0.size : Int) + (a1.size : Int)) : Int).toNat ≤ 35184372088832 then (rf1_Mul.l0 k a0 a1 (List.replicate (wrap64 ((a0.size : Int) + (a1.size : Int)) : Int).toNat 0) 0) else (none)) else (none)
theorem rf1_Mul.calls (k : Nat) (a0 : ByteArray) (a1 : ByteArray) (r : ByteArray) (w : World) (h : rf1_Mul.f k a0 a1 = some r) :
  Calls Tryz.prog 124 #[.string a0, .string a1] w fun e w' => e = .returned (.string r) ∧ Below w.heap.size w w' := by
 have HB := A_ (Below.refl w.heap.size w);unfold rf1_Mul.f at h;have H := h;clear h;obtain ⟨ji3, hji3⟩ : ∃ j_ : Int, (wrap64 ((a0.size : Int) + (a1.size : Int))) = j_ := ⟨_, rfl⟩
 first | rw [hji3] at H | simp only [hji3] at H
 have hji3w : (IntKind.i64.wrap ((a0.size : Int) + (a1.size : Int))) = ji3 := (i64_w _).trans hji3
 by_cases c4 : 0 ≤ (ji3)
 ·
  rw [if_pos c4] at H;have c4b0 := eq_true c4;have c4b1 := decide_eq_true c4;clear c4
  by_cases c5 : (ji3 : Int).toNat ≤ 35184372088832
  ·
   rw [if_pos c5] at H;have c5b0 := eq_true c5;have c5b1 := decide_eq_true c5;clear c5;obtain ⟨y121, hy_⟩ : ∃ y_ : List Int, y_ = (List.replicate (ji3 : Int).toNat 0) := ⟨_, rfl⟩
   replace H : (rf1_Mul.l0 k a0 a1 y121 0) = some r := RH_
   have Ny121 := A_ hy_;clear hy_;have H' := A_ H;clear H;go_enter Tryz.func124, Tryz.ntmps124
   iterate 3 ((try go_wp2_with (first | ((with_reducible refine gate_dst (N := 14) rfl ?_); refine Kd.R_make (Kd.int .i64) _ 3 rfl (N := 14) rfl 22 _ _ rfl ji3 rfl rfl Tryz.underlying22 (.int .i64 0) 8 info3 rfl (by decide) (by omega) 0 (ok := fun _ => True) (okp := fun _ => True) rfl (fun _ hk => hk) trivial (DA_) (Nat.le_trans (Nat.mul_le_mul_right _ (DA_ : ji3.toNat ≤ 35184372088832)) (by omega)) (Below.refl _ _) (Nat.le_refl _) ?_; intro v122 w6 ho7 hb hg_ hnew_; clear hg_ hnew_; (first | rw [← Ny121.out] at ho7 | (simp only [Int.reduceToNat] at ho7; rw [← Ny121.out] at ho7)); have HO123 := A_ (Kd.R_lower ho7 (below_size T1_)); replace HB := BS_ hb; clear hb ho7))); (try go_quiet (first | ((with_reducible refine gate_dst (N := 14) rfl ?_); refine Kd.R_make (Kd.int .i64) _ 3 rfl (N := 14) rfl 22 _ _ rfl ji3 rfl rfl Tryz.underlying22 (.int .i64 0) 8 info3 rfl (by decide) (by omega) 0 (ok := fun _ => True) (okp := fun _ => True) rfl (fun _ hk => hk) trivial (DA_) (Nat.le_trans (Nat.mul_le_mul_right _ (DA_ : ji3.toNat ≤ 35184372088832)) (by omega)) (Below.refl _ _) (Nat.le_refl _) ?_; intro v122 w6 ho7 hb hg_ hnew_; clear hg_ hnew_; (first | rw [← Ny121.out] at ho7 | (simp only [Int.reduceToNat] at ho7; rw [← Ny121.out] at ho7)); have HO123 := A_ (Kd.R_lower ho7 (below_size T1_)); replace HB := BS_ hb; clear hb ho7))))
   go_loopg [6] k (fun kq v6 w' => ∃ (x5_1 : List Int) (x6_1 : Int), v6 = .int .i64 x6_1 ∧ Aside0 (rf1_Mul.l0 kq a0 a1 x5_1 x6_1 = some r) ∧ Aside0 (kq ≤ k) ∧ Aside0 (Kd.R (Kd.int .i64) 3 w' w.heap.size (fun _ => True) v122 x5_1) ∧ Aside0 (Below w.heap.size w w'))
   case atStart => exact ⟨(y121), (0), S1_, H', ⟨Nat.le_refl _⟩, ⟨by (with_reducible repeat (first | apply Kd.R_alloc | apply Kd.R_drewN | apply Kd.R_drew)); exact HO123.out⟩, ⟨T1_⟩⟩
   case round =>
    clear H'
    try clear c4
    try clear c4b0
    try clear c4b1
    try clear c5
    try clear c5b0
    try clear c5b1
    obtain ⟨x5_1, x6_1, rfl, HA, HK1, HO_5, HB⟩ := hrel
    cases gk with
    | zero => exact absurd HA.out (by simp [rf1_Mul.l0])
    | succ k1 =>
     have H := HA.out;clear HA;simp only [rf1_Mul.l0] at H
     by_cases c8 : x6_1 < (a0.size : Int)
     ·
      rw [if_pos c8] at H;have c8b0 := decide_eq_true c8;clear c8;have H' := A_ H;clear H
      go_wp2
      repeat (go_quiet (fail); try go_wp2)
      go_loopg [7, 8] k1 (fun kq v7 v8 w' => ∃ (x5_2 : List Int) (x7_2 : Int) (x8_2 : Int), v7 = .int .i64 x7_2 ∧ v8 = .int .i64 x8_2 ∧ Aside0 (rf1_Mul.l1 kq a0 a1 x5_2 x6_1 x7_2 x8_2 = some r) ∧ Aside0 (kq ≤ k1) ∧ Aside0 (Kd.R (Kd.int .i64) 3 w' w.heap.size (fun _ => True) v122 x5_2) ∧ Aside0 (Below w.heap.size w w'))
      case atStart => exact ⟨(x5_1), (0), (0), S1_, S1_, H', ⟨Nat.le_refl _⟩, ⟨by (with_reducible repeat (first | apply Kd.R_alloc | apply Kd.R_drewN | apply Kd.R_drew)); exact HO_5.out⟩, ⟨T1_⟩⟩
      case round =>
       clear H'
       try clear c4
       try clear c4b0
       try clear c4b1
       try clear c5
       try clear c5b0
       try clear c5b1
       try clear c8
       try clear c8b0
       obtain ⟨x5_2, x7_2, x8_2, rfl, rfl, HA, HK2, HO_5, HB⟩ := hrel
       cases gk with
       | zero => exact absurd HA.out (by simp [rf1_Mul.l1])
       | succ k2 =>
        have H := HA.out;clear HA;simp only [rf1_Mul.l1] at H
        by_cases c9 : x8_2 < (a1.size : Int)
        ·
         rw [if_pos c9] at H;have c9b0 := decide_eq_true c9;clear c9;obtain ⟨ji10, hji10⟩ : ∃ j_ : Int, (wrap64 (x6_1 + x8_2)) = j_ := ⟨_, rfl⟩
         first | rw [hji10] at H | simp only [hji10] at H
         have hji10w : (IntKind.i64.wrap (x6_1 + x8_2)) = ji10 := (i64_w _).trans hji10
         by_cases c11 : 0 ≤ (ji10)
         ·
          rw [if_pos c11] at H;have c11b0 := decide_eq_true c11;clear c11
          by_cases c12 : (ji10) < (x5_2.length : Int)
          ·
           rw [if_pos c12] at H;have c12b0 := decide_eq_true c12;clear c12;replace H := BE_ H;obtain ⟨t126, A130, H⟩ := H;have A13 := A_ A130;clear A130;replace H := BE_ H;obtain ⟨t127, A140, H⟩ := H;have A14 := A_ A140;clear A140;obtain ⟨y128, hy_⟩ : ∃ y_ : List Int, y_ = (x5_2.set ((ji10) : Int).toNat (Int.tmod (wrap64 (x7_2 + (wrap64 ((rd x5_2 (ji10)) + (wrap64 (t126 * t127)))))) 10)) := ⟨_, rfl⟩
           replace H : (rf1_Mul.l1 k2 a0 a1 y128 x6_1 (wrap64 (Int.tdiv (wrap64 (x7_2 + (wrap64 ((rd x5_2 (ji10)) + (wrap64 (t126 * t127)))))) 10)) (wrap64 (x8_2 + 1))) = some r := RH_
           have Ny128 := A_ hy_;clear hy_;have H' := A_ H;clear H;obtain ⟨Ao16, co16, eo16⟩ := Kd.R_slice HO_5.out;subst eo16;have p125 : 0 ≤ ((ji10) : Int) := DA_;have q125 : (ji10) < (x5_2.length : Int) := DA_;obtain ⟨ad125, e125, hx125_0⟩ := Kd.at_int (Kd.R_reads' HO_5.out).2.2 (ji10) p125 q125
           cases e125
           replace p125 := eq_true p125;replace q125 := eq_true q125
           iterate 3 ((try go_wp2_with (first | (go_at_call 146; (with_reducible refine (rf1_digit.calls a0 x6_1 t126 _ A13.out).mono ?_); rintro e w' ⟨rfl, ⟨nd, rfl⟩⟩; (try first | exact ⟨rfl, _, World.drewN_drewN _ _ _⟩ | exact ⟨rfl, _, Eq.trans (World.drewN_drewN _ _ _) (congrArg (World.drewN _) (Nat.add_assoc _ _ _))⟩)) | (go_at_call 146; (with_reducible refine (rf1_digit.calls a1 x8_2 t127 _ A14.out).mono ?_); rintro e w' ⟨rfl, ⟨nd, rfl⟩⟩; (try first | exact ⟨rfl, _, World.drewN_drewN _ _ _⟩ | exact ⟨rfl, _, Eq.trans (World.drewN_drewN _ _ _) (congrArg (World.drewN _) (Nat.add_assoc _ _ _))⟩); have p15 : 0 ≤ ((ji10) : Int) := DA_; have q15 : ((ji10) : Int) < ((x5_2.length : Int) : Int) := DA_; obtain ⟨go15, co15, eo15, gb15, gl15, cl15, HG15⟩ := Kd.R_form HO_5.out (by omega); (first | cases eo15 | (injection eo15 with ea_ en_ ec_; (first | subst ea_ | (injection ea_ with ea_; subst ea_)); subst ec_; clear en_)); have GB15 := A_ gb15; have GG15 := A_ HG15; clear gb15 gl15 HG15; (first | simp only [add_plain] at hx125_0 | skip); obtain ⟨hx15_0, hf15_0⟩ := Kd.R_celln 0 HO_5.out ((ji10) : Int) p15 q15; replace p15 := eq_true p15; replace q15 := eq_true q15; obtain ⟨hy17_, hz17_⟩ := Kd.R_celln 0 HO_5.out ((ji10) : Int) (DA_) (DA_); have HP17 := Kd.R_putg HO_5.out ((ji10) : Int) (Int.tmod (wrap64 (x7_2 + (wrap64 ((rd x5_2 (ji10)) + (wrap64 (t126 * t127)))))) 10)) | ((with_reducible refine gate_store (t := 3) (p := 49) rfl ?_); (try (rw [drewN_self wr]; generalize hq_ : World.drewN wr _ = wr; replace HO_5 := A_ (Kd.R_at hq_ HO_5.out); replace HB := A_ (below_at hq_ HB.out); clear hq_; (try (obtain ⟨hy17_, hz17_⟩ := Kd.R_celln 0 HO_5.out ((ji10) : Int) (DA_) (DA_))); (try (have HP17 := Kd.R_putg HO_5.out ((ji10) : Int) (Int.tmod (wrap64 (x7_2 + (wrap64 ((rd x5_2 (ji10)) + (wrap64 (t126 * t127)))))) 10))))); refine store_event (t := 3) (p := 49) (v := ?vo_w18) (w1 := (wr.setCell ⟨go15, ((ji10) : Int).toNat, none⟩ (.int .i64 (Int.tmod (wrap64 (x7_2 + (wrap64 ((rd x5_2 (ji10)) + (wrap64 (t126 * t127)))))) 10)))) ?hg ?ho ?hn ?hr ?_; (case ho => rfl); (case hg => rfl); (case hn => rfl); (case hr => exact T3_); intro w18 hw; have hg : wr.grownBy w18 (some go15) := (by rw [hw]; exact HP17.2); have hp_ : Kd.R (Kd.int .i64) 3 w18 w.heap.size (fun _ => True) (.slice (some ⟨go15, 0, none⟩) x5_2.length co16) y128 := (by rw [hw, Ny128.out]; exact HP17.1); clear HP17; replace HO_5 := A_ (hp_); replace HB := A_ ((by rw [hw]; exact below_set (HB.out) GB15.out : Below w.heap.size w w18)); clear hg hw hp_))); (try go_quiet (first | (go_at_call 146; (with_reducible refine (rf1_digit.calls a0 x6_1 t126 _ A13.out).mono ?_); rintro e w' ⟨rfl, ⟨nd, rfl⟩⟩; (try first | exact ⟨rfl, _, World.drewN_drewN _ _ _⟩ | exact ⟨rfl, _, Eq.trans (World.drewN_drewN _ _ _) (congrArg (World.drewN _) (Nat.add_assoc _ _ _))⟩)) | (go_at_call 146; (with_reducible refine (rf1_digit.calls a1 x8_2 t127 _ A14.out).mono ?_); rintro e w' ⟨rfl, ⟨nd, rfl⟩⟩; (try first | exact ⟨rfl, _, World.drewN_drewN _ _ _⟩ | exact ⟨rfl, _, Eq.trans (World.drewN_drewN _ _ _) (congrArg (World.drewN _) (Nat.add_assoc _ _ _))⟩); have p15 : 0 ≤ ((ji10) : Int) := DA_; have q15 : ((ji10) : Int) < ((x5_2.length : Int) : Int) := DA_; obtain ⟨go15, co15, eo15, gb15, gl15, cl15, HG15⟩ := Kd.R_form HO_5.out (by omega); (first | cases eo15 | (injection eo15 with ea_ en_ ec_; (first | subst ea_ | (injection ea_ with ea_; subst ea_)); subst ec_; clear en_)); have GB15 := A_ gb15; have GG15 := A_ HG15; clear gb15 gl15 HG15; (first | simp only [add_plain] at hx125_0 | skip); obtain ⟨hx15_0, hf15_0⟩ := Kd.R_celln 0 HO_5.out ((ji10) : Int) p15 q15; replace p15 := eq_true p15; replace q15 := eq_true q15; obtain ⟨hy17_, hz17_⟩ := Kd.R_celln 0 HO_5.out ((ji10) : Int) (DA_) (DA_); have HP17 := Kd.R_putg HO_5.out ((ji10) : Int) (Int.tmod (wrap64 (x7_2 + (wrap64 ((rd x5_2 (ji10)) + (wrap64 (t126 * t127)))))) 10)))))
           go_roundg k2
           case measure => have := HK1.out; have := HK2.out; omega
           case rel => exact ⟨(y128), (wrap64 (Int.tdiv (wrap64 (x7_2 + (wrap64 ((rd x5_2 (ji10)) + (wrap64 (t126 * t127)))))) 10)), (wrap64 (x8_2 + 1)), (by first | rfl | (simp; done) | (simp only [← hji10] <;> (first | rfl | simp)) | (simp [*]; done)), S1_, H', ⟨by have := HK1.out; have := HK2.out; omega⟩, ⟨by (with_reducible repeat (first | apply Kd.R_alloc | apply Kd.R_drewN | apply Kd.R_drew)); exact HO_5.out⟩, ⟨T1_⟩⟩
          ·
           rw [if_neg c12] at H;exact absurd H (by simp)
         ·
          rw [if_neg c11] at H;exact absurd H (by simp)
        ·
         rw [if_neg c9] at H;have c9b0 := decide_eq_false c9;clear c9;obtain ⟨ji19, hji19⟩ : ∃ j_ : Int, (wrap64 (x6_1 + (a1.size : Int))) = j_ := ⟨_, rfl⟩
         first | rw [hji19] at H | simp only [hji19] at H
         have hji19w : (IntKind.i64.wrap (x6_1 + (a1.size : Int))) = ji19 := (i64_w _).trans hji19
         by_cases c20 : 0 ≤ (ji19)
         ·
          rw [if_pos c20] at H;have c20b0 := decide_eq_true c20;clear c20
          by_cases c21 : (ji19) < (x5_2.length : Int)
          ·
           rw [if_pos c21] at H;have c21b0 := decide_eq_true c21;clear c21;obtain ⟨y129, hy_⟩ : ∃ y_ : List Int, y_ = (x5_2.set ((ji19) : Int).toNat x7_2) := ⟨_, rfl⟩
           replace H : (rf1_Mul.l0 k2 a0 a1 y129 (wrap64 (x6_1 + 1))) = some r := RH_
           have Ny129 := A_ hy_;clear hy_;have H' := A_ H;clear H;have p22 : 0 ≤ ((ji19) : Int) := DA_;have q22 : ((ji19) : Int) < ((x5_2.length : Int) : Int) := DA_;obtain ⟨go22, co22, eo22, gb22, gl22, cl22, HG22⟩ := Kd.R_form HO_5.out (by omega)
           (first | cases eo22 | (injection eo22 with ea_ en_ ec_; (first | subst ea_ | (injection ea_ with ea_; subst ea_)); subst ec_; clear en_))
           have GB22 := A_ gb22;have GG22 := A_ HG22;clear gb22 gl22 HG22;obtain ⟨hx22_0, hf22_0⟩ := Kd.R_celln 0 HO_5.out ((ji19) : Int) p22 q22;replace p22 := eq_true p22;replace q22 := eq_true q22;have HP23 := Kd.R_putg HO_5.out ((ji19) : Int) x7_2
           iterate 3 ((try go_wp2_with (first | ((with_reducible refine gate_store (t := 3) (p := 58) rfl ?_); (try (rw [drewN_self wr]; generalize hq_ : World.drewN wr _ = wr; replace HO_5 := A_ (Kd.R_at hq_ HO_5.out); replace HB := A_ (below_at hq_ HB.out); clear hq_; (try (have HP23 := Kd.R_putg HO_5.out ((ji19) : Int) x7_2)))); refine store_event (t := 3) (p := 58) (v := ?vo_w24) (w1 := (wr.setCell ⟨go22, ((ji19) : Int).toNat, none⟩ (.int .i64 x7_2))) ?hg ?ho ?hn ?hr ?_; (case ho => rfl); (case hg => rfl); (case hn => rfl); (case hr => exact T3_); intro w24 hw; have hg : wr.grownBy w24 (some go22) := (by rw [hw]; exact HP23.2); have hp_ : Kd.R (Kd.int .i64) 3 w24 w.heap.size (fun _ => True) (.slice (some ⟨go22, 0, none⟩) x5_2.length co22) y129 := (by rw [hw, Ny129.out]; exact HP23.1); clear HP23; replace HO_5 := A_ (hp_); replace HB := A_ ((by rw [hw]; exact below_set (HB.out) GB22.out : Below w.heap.size w w24)); clear hg hw hp_))); (try go_quiet (first | ((with_reducible refine gate_store (t := 3) (p := 58) rfl ?_); (try (rw [drewN_self wr]; generalize hq_ : World.drewN wr _ = wr; replace HO_5 := A_ (Kd.R_at hq_ HO_5.out); replace HB := A_ (below_at hq_ HB.out); clear hq_; (try (have HP23 := Kd.R_putg HO_5.out ((ji19) : Int) x7_2)))); refine store_event (t := 3) (p := 58) (v := ?vo_w24) (w1 := (wr.setCell ⟨go22, ((ji19) : Int).toNat, none⟩ (.int .i64 x7_2))) ?hg ?ho ?hn ?hr ?_; (case ho => rfl); (case hg => rfl); (case hn => rfl); (case hr => exact T3_); intro w24 hw; have hg : wr.grownBy w24 (some go22) := (by rw [hw]; exact HP23.2); have hp_ : Kd.R (Kd.int .i64) 3 w24 w.heap.size (fun _ => True) (.slice (some ⟨go22, 0, none⟩) x5_2.length co22) y129 := (by rw [hw, Ny129.out]; exact HP23.1); clear HP23; replace HO_5 := A_ (hp_); replace HB := A_ ((by rw [hw]; exact below_set (HB.out) GB22.out : Below w.heap.size w w24)); clear hg hw hp_))))
           go_roundg k2
           case measure => have := HK1.out; have := HK2.out; omega
           case rel => exact ⟨(y129), (wrap64 (x6_1 + 1)), S1_, H', ⟨by have := HK1.out; have := HK2.out; omega⟩, ⟨by (with_reducible repeat (first | apply Kd.R_alloc | apply Kd.R_drewN | apply Kd.R_drew)); exact HO_5.out⟩, ⟨T1_⟩⟩
          ·
           rw [if_neg c21] at H;exact absurd H (by simp)
         ·
          rw [if_neg c20] at H;exact absurd H (by simp)
     ·
      rw [if_neg c8] at H;have c8b0 := decide_eq_false c8;clear c8;replace H := BE_ H;obtain ⟨t124, A250, H⟩ := H;have A25 := A_ A250;clear A250;obtain rfl := Option.some.inj H;obtain ⟨Ao26, co26, eo26⟩ := Kd.R_slice HO_5.out;subst eo26
      iterate 3 ((try go_wp2_with (first | (go_at_call 147; (with_reducible refine (rf1_of.calls k1 _ _ x5_1 t124 _ (C1_ (Kd.R_reads' HO_5.out).2.2) ((Kd.R_reads' HO_5.out).2.1) A25.out).mono ?_); rintro e w27 ⟨rfl, hb⟩; replace HO_5 := RC_ HO_5 hb; replace HB := BS_ hb; clear hb))); (try go_quiet (first | (go_at_call 147; (with_reducible refine (rf1_of.calls k1 _ _ x5_1 t124 _ (C1_ (Kd.R_reads' HO_5.out).2.2) ((Kd.R_reads' HO_5.out).2.1) A25.out).mono ?_); rintro e w27 ⟨rfl, hb⟩; replace HO_5 := RC_ HO_5 hb; replace HB := BS_ hb; clear hb))))
      go_ret
      exact ⟨by first | rfl | (simp [errW_none, errW_some] <;> rfl) | (simp only [← hji3]; first | rfl | (simp [errW_none, errW_some] <;> rfl)) | (simp [*, errW_none, errW_some] <;> rfl), T1_⟩
  ·
   rw [if_neg c5] at H;exact absurd H (by simp)
 ·
  rw [if_neg c4] at H;exact absurd H (by simp)
/-! ### rf1_Compare: function 121 -/
def rf1_Compare.f (a0 : ByteArray) (a1 : ByteArray) : Option (Int) := if (a0.size : Int) = (a1.size : Int) then (if (Op.bytesLess a0.toList a1.toList) = true then (some (-1)) else (if (Op.bytesLess a1.toList a0.toList) = true then (some 1) else (some 0))) else (if (a0.size : Int) < (a1.size : Int) then (some (-1)) else (some 1))
theorem rf1_Compare.calls (a0 : ByteArray) (a1 : ByteArray) (r : Int) (w : World) (h : rf1_Compare.f a0 a1 = some r) :
  Calls Tryz.prog 121 #[.string a0, .string a1] w fun e w' => e = .returned (.int .i64 r) ∧ Drawn0 w w' := by
 unfold rf1_Compare.f at h;have H := h;clear h
 by_cases c3 : (a0.size : Int) = (a1.size : Int)
 ·
  rw [if_pos c3] at H;have c3b0 : ((a0.size : Int) == (a1.size : Int)) = true := beq_iff_eq.mpr c3;have c3b1 : ((a0.size : Int) != (a1.size : Int)) = false := bne_eq_false_iff_eq.mpr c3
  have c3b2 : (a0.size == a1.size) = true := by first | simpa using c3 | (simp at c3 ⊢; omega)
  clear c3
  by_cases c4 : (Op.bytesLess a0.toList a1.toList) = true
  ·
   rw [if_pos c4] at H;have c4b0 : (Op.bytesLess a0.toList a1.toList) = true := c4;clear c4;obtain rfl := Option.some.inj H;go_enter Tryz.func121, Tryz.ntmps121
   go_wp2
   go_ret
   exact ⟨by first | rfl | (simp; done) | (simp [*]; done), by repeat (first | exact Drawn0.refl _ | apply Drawn0.step)⟩
  ·
   rw [if_neg c4] at H
   have c4b0 : (Op.bytesLess a0.toList a1.toList) = false := by simpa using c4
   clear c4
   by_cases c5 : (Op.bytesLess a1.toList a0.toList) = true
   ·
    rw [if_pos c5] at H;have c5b0 : (Op.bytesLess a1.toList a0.toList) = true := c5;clear c5;obtain rfl := Option.some.inj H;go_enter Tryz.func121, Tryz.ntmps121
    go_wp2
    go_ret
    exact ⟨by first | rfl | (simp; done) | (simp [*]; done), by repeat (first | exact Drawn0.refl _ | apply Drawn0.step)⟩
   ·
    rw [if_neg c5] at H
    have c5b0 : (Op.bytesLess a1.toList a0.toList) = false := by simpa using c5
    clear c5;obtain rfl := Option.some.inj H;go_enter Tryz.func121, Tryz.ntmps121
    go_wp2
    go_ret
    exact ⟨by first | rfl | (simp; done) | (simp [*]; done), by repeat (first | exact Drawn0.refl _ | apply Drawn0.step)⟩
 ·
  rw [if_neg c3] at H;have c3b0 : ((a0.size : Int) == (a1.size : Int)) = false := beq_eq_false_iff_ne.mpr c3;have c3b1 : ((a0.size : Int) != (a1.size : Int)) = true := bne_iff_ne.mpr c3
  have c3b2 : (a0.size == a1.size) = false := by first | simpa using c3 | (simp at c3 ⊢; omega)
  by_cases c6 : (a0.size : Int) < (a1.size : Int)
  ·
   rw [if_pos c6] at H;have c6b0 := decide_eq_true c6;have c6b1 : decide (a0.size < a1.size) = true := decide_eq_true (Int.ofNat_lt.mp c6);clear c6;obtain rfl := Option.some.inj H;go_enter Tryz.func121, Tryz.ntmps121
   go_wp2
   go_ret
   exact ⟨by first | rfl | (simp; done) | (simp [*]; done), by repeat (first | exact Drawn0.refl _ | apply Drawn0.step)⟩
  ·
   rw [if_neg c6] at H;have c6b0 := decide_eq_false c6;have c6b1 : decide (a0.size < a1.size) = false := decide_eq_false (fun h => c6 (Int.ofNat_lt.mpr h));clear c6;obtain rfl := Option.some.inj H;go_enter Tryz.func121, Tryz.ntmps121
   go_wp2
   go_ret
   exact ⟨by first | rfl | (simp; done) | (simp [*]; done), by repeat (first | exact Drawn0.refl _ | apply Drawn0.step)⟩
/-! ### rf1_Div: function 100 -/
mutual
def rf1_Div.l0 : Nat → ByteArray → ByteArray → ByteArray → ByteArray → Int → Option (ByteArray × ByteArray)
 | 0, _, _, _, _, _ => none
 | k + 1, x0, x1, x6, x7, x8 => if x8 < (x0.size : Int) then (if 0 ≤ x8 then (if x8 ≤ (wrap64 (x8 + 1)) then (if (wrap64 (x8 + 1)) ≤ (x0.size : Int) then (if x7.size + (x0.extract (x8 : Int).toNat ((wrap64 (x8 + 1)) : Int).toNat).size ≤ 9223372036854775807 then ((rf1_Plain.f k (x7 ++ (x0.extract (x8 : Int).toNat ((wrap64 (x8 + 1)) : Int).toNat))).bind fun t131 => (rf1_Div.l1 k x0 x1 x6 t131 x8 0)) else (none)) else (none)) else (none)) else (none)) else ((rf1_Plain.f k x6).bind fun t130 => (some (t130, x7)))
def rf1_Div.l1 : Nat → ByteArray → ByteArray → ByteArray → ByteArray → Int → Int → Option (ByteArray × ByteArray)
 | 0, _, _, _, _, _, _ => none
 | k + 1, x0, x1, x6, x7, x8, x9 => (rf1_Compare.f x7 x1).bind fun t132 => (if t132 ≥ 0 then ((rf1_Sub.f k x7 x1).bind fun t133 => (rf1_Div.l1 k x0 x1 x6 t133 x8 (wrap64 (x9 + 1)))) else ((some (([(wrap64 (48 + x9)) % 256] : List Int) : List Int)).bind fun y134 => (if x6.size + (strOfNums y134).size ≤ 9223372036854775807 then (rf1_Div.l0 k x0 x1 (x6 ++ (strOfNums y134)) x7 (wrap64 (x8 + 1))) else (none))))
end
def rf1_Div.f (k : Nat) (a0 : ByteArray) (a1 : ByteArray) : Option (ByteArray × ByteArray) := rf1_Div.l0 k a0 a1 (⟨#[]⟩ : ByteArray) (⟨#[48]⟩ : ByteArray) 0
theorem rf1_Div.calls (k : Nat) (a0 : ByteArray) (a1 : ByteArray) (r1 : ByteArray) (r2 : ByteArray) (w : World) (h : rf1_Div.f k a0 a1 = some (r1, r2)) :
  Calls Tryz.prog 100 #[.string a0, .string a1] w fun e w' => e = .returned (.tuple #[.string r1, .string r2]) ∧ Below w.heap.size w w' := by
 have HB := A_ (Below.refl w.heap.size w);unfold rf1_Div.f at h;have H := h;clear h;have H' := A_ H;clear H;go_enter Tryz.func100, Tryz.ntmps100
 go_wp2
 go_loopg [6, 7, 8] k (fun kq v6 v7 v8 w' => ∃ (x6_1 : ByteArray) (x7_1 : ByteArray) (x8_1 : Int), v6 = .string x6_1 ∧ v7 = .string x7_1 ∧ v8 = .int .i64 x8_1 ∧ Aside0 (rf1_Div.l0 kq a0 a1 x6_1 x7_1 x8_1 = some (r1, r2)) ∧ Aside0 (kq ≤ k) ∧ Aside0 (Below w.heap.size w w'))
 case atStart => exact ⟨((⟨#[]⟩ : ByteArray)), ((⟨#[48]⟩ : ByteArray)), (0), S1_, S1_, S1_, H', ⟨Nat.le_refl _⟩, ⟨T1_⟩⟩
 case round =>
  clear H'
  obtain ⟨x6_1, x7_1, x8_1, rfl, rfl, rfl, HA, HK1, HB⟩ := hrel
  cases gk with
  | zero => exact absurd HA.out (by simp [rf1_Div.l0])
  | succ k1 =>
   have H := HA.out;clear HA;simp only [rf1_Div.l0] at H
   by_cases c3 : x8_1 < (a0.size : Int)
   ·
    rw [if_pos c3] at H;have c3b0 := decide_eq_true c3;clear c3
    by_cases c4 : 0 ≤ x8_1
    ·
     rw [if_pos c4] at H;have c4b0 := eq_true c4;have c4b1 := decide_eq_true c4;clear c4
     by_cases c5 : x8_1 ≤ (wrap64 (x8_1 + 1))
     ·
      rw [if_pos c5] at H;have c5b0 := eq_true c5;have c5b1 := decide_eq_true c5
      by_cases c6 : (wrap64 (x8_1 + 1)) ≤ (a0.size : Int)
      ·
       rw [if_pos c6] at H;have c6b0 := eq_true c6;have c6b1 := decide_eq_true c6
       by_cases c7 : x7_1.size + (a0.extract (x8_1 : Int).toNat ((wrap64 (x8_1 + 1)) : Int).toNat).size ≤ 9223372036854775807
       ·
        rw [if_pos c7] at H;have c7b0 := eq_true c7;have c7b1 : decide (x7_1.size + (a0.extract (x8_1 : Int).toNat ((wrap64 (x8_1 + 1)) : Int).toNat).size ≤ 9223372036854775807) = true := decide_eq_true c7
        try have c7b2 : (9223372036854775807 < x7_1.size + (a0.extract (x8_1 : Int).toNat ((wrap64 (x8_1 + 1)) : Int).toNat).size) = False := eq_false (Nat.not_lt.2 c7)
        replace H := BE_ H;obtain ⟨t131, A80, H⟩ := H;have A8 := A_ A80;clear A80;have H' := A_ H;clear H
        go_wp2_with (first | (refine GL_ 120 23 Tryz.func120 #[.string (x7_1 ++ (a0.extract (x8_1 : Int).toNat ((wrap64 (x8_1 + 1)) : Int).toNat))] ?_; (with_reducible refine (rf1_Plain.calls k1 (x7_1 ++ (a0.extract (x8_1 : Int).toNat ((wrap64 (x8_1 + 1)) : Int).toNat)) t131 _ A8.out).mono ?_); rintro e w' ⟨rfl, ⟨nd, rfl⟩⟩; refine ⟨_, rfl, ?_⟩))
        go_loopg [7, 9] k1 (fun kq v7 v9 w' => ∃ (x7_2 : ByteArray) (x9_2 : Int), v7 = .string x7_2 ∧ v9 = .int .i64 x9_2 ∧ Aside0 (rf1_Div.l1 kq a0 a1 x6_1 x7_2 x8_1 x9_2 = some (r1, r2)) ∧ Aside0 (kq ≤ k1) ∧ Aside0 (Below w.heap.size w w'))
        case atStart => exact ⟨(t131), (0), S1_, S1_, H', ⟨Nat.le_refl _⟩, ⟨T1_⟩⟩
        case round =>
         clear H'
         try clear c3
         try clear c3b0
         try clear c4
         try clear c4b0
         try clear c4b1
         try clear c5
         try clear c5b0
         try clear c5b1
         try clear c6
         try clear c6b0
         try clear c6b1
         try clear c7
         try clear c7b0
         try clear c7b1
         try clear c7b2
         obtain ⟨x7_2, x9_2, rfl, rfl, HA, HK2, HB⟩ := hrel
         cases gk with
         | zero => exact absurd HA.out (by simp [rf1_Div.l1])
         | succ k2 =>
          have H := HA.out;clear HA;simp only [rf1_Div.l1] at H;replace H := BE_ H;obtain ⟨t132, A90, H⟩ := H;have A9 := A_ A90;clear A90
          by_cases c10 : t132 ≥ 0
          ·
           rw [if_pos c10] at H;have c10b0 : decide (0 ≤ t132) = true := decide_eq_true c10;clear c10;replace H := BE_ H;obtain ⟨t133, A110, H⟩ := H;have A11 := A_ A110;clear A110;have H' := A_ H;clear H
           go_wp2_with (first | (refine GL_ 121 26 Tryz.func121 #[.string x7_2, .string a1] ?_; (with_reducible refine (rf1_Compare.calls x7_2 a1 t132 _ A9.out).mono ?_); rintro e w' ⟨rfl, ⟨nd, rfl⟩⟩; refine ⟨_, rfl, ?_⟩) | (refine GL_ 122 30 Tryz.func122 #[.string x7_2, .string a1] ?_; (with_reducible refine (rf1_Sub.calls k2 x7_2 a1 t133 _ A11.out).mono ?_); rintro e w12 ⟨rfl, hb⟩; refine ⟨_, rfl, ?_⟩; replace HB := BS_ hb; clear hb))
           go_roundg k2
           case measure => have := HK1.out; have := HK2.out; omega
           case rel => exact ⟨(t133), (wrap64 (x9_2 + 1)), S1_, S1_, H', ⟨by have := HK1.out; have := HK2.out; omega⟩, ⟨T1_⟩⟩
          ·
           rw [if_neg c10] at H;have c10b0 : decide (0 ≤ t132) = false := decide_eq_false c10;clear c10;obtain ⟨y134, hy_⟩ : ∃ y_ : List Int, y_ = (([(wrap64 (48 + x9_2)) % 256] : List Int)) := ⟨_, rfl⟩
           replace H : (if x6_1.size + (strOfNums y134).size ≤ 9223372036854775807 then (rf1_Div.l0 k2 a0 a1 (x6_1 ++ (strOfNums y134)) x7_2 (wrap64 (x8_1 + 1))) else (none)) = some (r1, r2) := RH_
           have Ny134 := A_ hy_;clear hy_
           by_cases c13 : x6_1.size + (strOfNums y134).size ≤ 9223372036854775807
           ·
            rw [if_pos c13] at H;have c13b0 := eq_true c13;have c13b1 := decide_eq_true c13
            try have c13b2 : (9223372036854775807 < x6_1.size + (strOfNums y134).size) = False := eq_false (Nat.not_lt.2 c13)
            have H' := A_ H;clear H
            go_wp2_with (first | (refine GL_ 121 26 Tryz.func121 #[.string x7_2, .string a1] ?_; (with_reducible refine (rf1_Compare.calls x7_2 a1 t132 _ A9.out).mono ?_); rintro e w' ⟨rfl, ⟨nd, rfl⟩⟩; refine ⟨_, rfl, ?_⟩) | ((with_reducible refine gate_dst (N := 37) rfl ?_); refine Kd.R_lit (Kd.int .u8) _ 5 ?hg (N := 37) ?hd (xs := ([(wrap64 (48 + x9_2)) % 256] : List Int)) (inner := [.int .u8 ((wrap64 (48 + x9_2)) % 256)]) (ok := fun _ => True) (okp := fun _ => True) ?hr ?hp (fun _ hk => hk) trivial (Below.refl _ _) (Nat.le_refl _) (by simp) ?_; (case hd => rfl); (case hg => rfl); (case hr => exact T3_); (case hp => exact (Reps.one (show Kd.M (Kd.int .u8) _ _ _ ((wrap64 (48 + x9_2)) % 256) [.int .u8 ((wrap64 (48 + x9_2)) % 256)] from rfl) (Reps.none _ _))); intro v135 w14 ho15 hb hg_ hnew_; clear hg_ hnew_; (first | rw [← Ny134.out] at ho15 | (simp only [Int.reduceToNat] at ho15; rw [← Ny134.out] at ho15)); have HO136 := A_ (Kd.R_lower ho15 (below_size T1_)); replace HB := BS_ hb; clear hb ho15; have hcv16 := own_string (P := Tryz.prog) Tryz.underlying44 Tryz.underlying5 Tryz.underlying9 (Kd.own_of_R HO136.out)))
            go_roundg k2
            case measure => have := HK1.out; have := HK2.out; omega
            case rel => exact ⟨(x6_1 ++ (strOfNums y134)), (x7_2), (wrap64 (x8_1 + 1)), S1_, S1_, S1_, H', ⟨by have := HK1.out; have := HK2.out; omega⟩, ⟨T1_⟩⟩
           ·
            rw [if_neg c13] at H;exact absurd H (by simp)
       ·
        rw [if_neg c7] at H;exact absurd H (by simp)
      ·
       rw [if_neg c6] at H;exact absurd H (by simp)
     ·
      rw [if_neg c5] at H;exact absurd H (by simp)
    ·
     rw [if_neg c4] at H;exact absurd H (by simp)
   ·
    rw [if_neg c3] at H;have c3b0 := decide_eq_false c3;clear c3;replace H := BE_ H;obtain ⟨t130, A170, H⟩ := H;have A17 := A_ A170;clear A170;simp only [Option.some.injEq, Prod.mk.injEq] at H;obtain ⟨rfl, rfl⟩ := H
    go_wp2_with (first | (refine GL_ 120 41 Tryz.func120 #[.string x6_1] ?_; (with_reducible refine (rf1_Plain.calls k1 x6_1 t130 _ A17.out).mono ?_); rintro e w' ⟨rfl, ⟨nd, rfl⟩⟩; refine ⟨_, rfl, ?_⟩))
    go_ret2
    exact ⟨T4_, T1_⟩
/-! ### rf1_Gcd: function 99 -/
def rf1_Gcd.l0 : Nat → ByteArray → ByteArray → Option (ByteArray)
 | 0, _, _ => none
 | k + 1, x0, x1 => if x1.toList = ([48] : List UInt8) then (some x0) else ((rf1_Div.f k x0 x1).bind fun bt137 => (rf1_Gcd.l0 k x1 bt137.2))
def rf1_Gcd.f (k : Nat) (a0 : ByteArray) (a1 : ByteArray) : Option (ByteArray) := rf1_Gcd.l0 k a0 a1
theorem rf1_Gcd.calls (k : Nat) (a0 : ByteArray) (a1 : ByteArray) (r : ByteArray) (w : World) (h : rf1_Gcd.f k a0 a1 = some r) :
  Calls Tryz.prog 99 #[.string a0, .string a1] w fun e w' => e = .returned (.string r) ∧ Below w.heap.size w w' := by
 have HB := A_ (Below.refl w.heap.size w);unfold rf1_Gcd.f at h;have H := h;clear h;have H' := A_ H;clear H;go_enter Tryz.func99, Tryz.ntmps99
 go_wp2
 go_loopg [0, 1] k (fun kq v0 v1 w' => ∃ (x0_1 : ByteArray) (x1_1 : ByteArray), v0 = .string x0_1 ∧ v1 = .string x1_1 ∧ Aside0 (rf1_Gcd.l0 kq x0_1 x1_1 = some r) ∧ Aside0 (kq ≤ k) ∧ Aside0 (Below w.heap.size w w'))
 case atStart => exact ⟨(a0), (a1), S1_, S1_, H', ⟨Nat.le_refl _⟩, ⟨T1_⟩⟩
 case round =>
  clear H'
  obtain ⟨x0_1, x1_1, rfl, rfl, HA, HK1, HB⟩ := hrel
  cases gk with
  | zero => exact absurd HA.out (by simp [rf1_Gcd.l0])
  | succ k1 =>
   have H := HA.out;clear HA;simp only [rf1_Gcd.l0] at H
   by_cases c3 : x1_1.toList = ([48] : List UInt8)
   ·
    rw [if_pos c3] at H;have c3b0 : (x1_1.toList == ([48] : List UInt8)) = true := beq_iff_eq.mpr c3;have c3b1 : (x1_1.toList != ([48] : List UInt8)) = false := bne_eq_false_iff_eq.mpr c3;clear c3;obtain rfl := Option.some.inj H
    go_wp2
    go_ret
    exact ⟨T4_, T1_⟩
   ·
    rw [if_neg c3] at H;have c3b0 : (x1_1.toList == ([48] : List UInt8)) = false := beq_eq_false_iff_ne.mpr c3;have c3b1 : (x1_1.toList != ([48] : List UInt8)) = true := bne_iff_ne.mpr c3;replace H := BE_ H;obtain ⟨⟨t137, t138⟩, A40, H⟩ := H;have A4 := A_ A40;clear A40;have H' := A_ H;clear H
    go_wp2_with (first | (refine GL_ 100 12 Tryz.func100 #[.string x0_1, .string x1_1] ?_; (with_reducible refine (rf1_Div.calls k1 x0_1 x1_1 t137 t138 _ A4.out).mono ?_); rintro e w5 ⟨rfl, hb⟩; refine ⟨_, rfl, ?_⟩; replace HB := BS_ hb; clear hb))
    go_roundg k1
    case measure => have := HK1.out; omega
    case rel => exact ⟨(x1_1), (t138), S1_, S1_, H', ⟨by have := HK1.out; omega⟩, ⟨T1_⟩⟩
end Go.Proofs.YtndkjpkgllmbnaaGreatDoor.PR
