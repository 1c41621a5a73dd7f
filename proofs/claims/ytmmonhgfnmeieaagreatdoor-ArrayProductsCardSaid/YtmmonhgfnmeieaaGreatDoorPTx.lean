-- by wip/tool/mine.py of this repo (the kit's printer with given contracts)
import Derived.Test.YtmmonhgfnmeieaaGreatDoorThW
namespace Go.Proofs.YtmmonhgfnmeieaaGreatDoor.PT
open Go.RowKit Go.ZPWords Go.ZPLast Go.ZPMore
attribute [local go_sem] max2_int min2_int max_two min_two max_three min_three max_four min_four   -- for this text's walks alone
set_option linter.unusedVariables false
set_option linter.unusedSimpArgs false
def errW : Option Int → Value
 | none => .nilIface
 | some c => .iface 0 (.int .i64 c)
theorem errW_none : errW none = .nilIface := rfl
theorem errW_some (c : Int) : errW (some c) = .iface 0 (.int .i64 c) := rfl
/-! ### rf1_Gcd: function 81 -/
def rf1_Gcd.f (a0 : ByteArray) (a1 : ByteArray) : Option (ByteArray) := if (Str.right a0 = true ∧ Str.right a1 = true) ∧ Th.Fit a0 ∧ Th.Fit a1 then some (Th.txt (Nat.gcd (Th.num a0) (Th.num a1))) else none
theorem rf1_Gcd.calls (a0 : ByteArray) (a1 : ByteArray) (r : ByteArray) (w : World) (h : rf1_Gcd.f a0 a1 = some r) :
  Calls Tryz.prog 81 #[.string a0, .string a1] w fun e w' => e = .returned (.string r) ∧ Below w.heap.size w w' := by
 unfold rf1_Gcd.f at h;by_cases c : (Str.right a0 = true ∧ Str.right a1 = true) ∧ Th.Fit a0 ∧ Th.Fit a1
 · rw [if_pos c] at h;obtain ⟨⟨h1, h2⟩, h3⟩ := c;obtain ⟨m, rfl⟩ := (Th.right_iff a0).1 h1;obtain ⟨n, rfl⟩ := (Th.right_iff a1).1 h2;simp only [Th.num_txt] at h h3;obtain ⟨k, hk⟩ := (Th.Ref.gcd_spec n m (Nat.le_trans h3.1 (by decide)) (Nat.le_trans h3.2 (by decide))).rounds;exact PR.rf1_Gcd.calls k _ _ r w (hk.trans h)
 rw [if_neg c] at h
 cases h
theorem rf1_Gcd.txt {m n : Nat} (hm : Th.Fit (Th.txt m)) (hn : Th.Fit (Th.txt n)) : rf1_Gcd.f (Th.txt m) (Th.txt n) = some (Th.txt (Nat.gcd m n)) := by
 rw [rf1_Gcd.f, if_pos ⟨⟨Th.right_txt m, Th.right_txt n⟩, hm, hn⟩, Th.num_txt, Th.num_txt]
/-! ### rf1_Div: function 82 -/
def rf1_Div.f (a0 : ByteArray) (a1 : ByteArray) : Option (ByteArray × ByteArray) := if (Str.right a0 = true ∧ Str.right a1 = true) ∧ Th.Fit a0 ∧ Th.Fit a1 ∧ Th.num a1 ≠ 0 then some (Th.txt (Th.num a0 / Th.num a1), Th.txt (Th.num a0 % Th.num a1)) else none
theorem rf1_Div.calls (a0 : ByteArray) (a1 : ByteArray) (r1 : ByteArray) (r2 : ByteArray) (w : World) (h : rf1_Div.f a0 a1 = some (r1, r2)) :
  Calls Tryz.prog 82 #[.string a0, .string a1] w fun e w' => e = .returned (.tuple #[.string r1, .string r2]) ∧ Below w.heap.size w w' := by
 unfold rf1_Div.f at h;by_cases c : (Str.right a0 = true ∧ Str.right a1 = true) ∧ Th.Fit a0 ∧ Th.Fit a1 ∧ Th.num a1 ≠ 0
 · rw [if_pos c] at h;obtain ⟨⟨h1, h2⟩, h3⟩ := c;obtain ⟨m, rfl⟩ := (Th.right_iff a0).1 h1;obtain ⟨n, rfl⟩ := (Th.right_iff a1).1 h2;simp only [Th.num_txt] at h h3;obtain ⟨k, hk⟩ := (Th.Ref.div_spec m n (Nat.pos_of_ne_zero h3.2.2) (Nat.le_trans h3.1 (by decide)) (Nat.le_trans h3.2.1 (by decide))).rounds;exact PR.rf1_Div.calls k _ _ r1 r2 w (hk.trans h)
 rw [if_neg c] at h
 cases h
theorem rf1_Div.txt {m n : Nat} (hm : Th.Fit (Th.txt m)) (hn : Th.Fit (Th.txt n)) (h : n ≠ 0) : rf1_Div.f (Th.txt m) (Th.txt n) = some (Th.txt (m / n), Th.txt (m % n)) := by
 rw [rf1_Div.f, if_pos ⟨⟨Th.right_txt m, Th.right_txt n⟩, hm, hn, by rw [Th.num_txt]; exact h⟩, Th.num_txt, Th.num_txt]
/-! ### rf1_Right: function 56 -/
def rf1_Right.f (a0 : ByteArray) : Option Bool := if a0.size ≤ 140737488351232 then some (Str.right a0) else none
/-! ### rf2_Sign: function 79 -/
def rf2_Sign.f (a0 : ByteArray) : Option (Int) := PB.rf2_Sign.f a0
theorem rf2_Sign.calls (a0 : ByteArray) (r : Int) (w : World) (h : rf2_Sign.f a0 = some r) :
  Calls Tryz.prog 79 #[.string a0] w fun e w' => e = .returned (.int .i64 r) ∧ Drawn0 w w' := PB.rf2_Sign.calls a0 r w h
theorem rf2_Sign.zt (x : Int) : rf2_Sign.f (Th.Wh.zt x) = some (Th.Wh.sgn x) := Th.Wh.rsign_zt x
/-! ### rf2_Neg: function 80 -/
def rf2_Neg.f (a0 : ByteArray) : Option (ByteArray) := PB.rf2_Neg.f a0
theorem rf2_Neg.calls (a0 : ByteArray) (r : ByteArray) (w : World) (h : rf2_Neg.f a0 = some r) :
  Calls Tryz.prog 80 #[.string a0] w fun e w' => e = .returned (.string r) ∧ Drawn0 w w' := PB.rf2_Neg.calls a0 r w h
theorem rf2_Neg.zt {x : Int} (hx : Th.Wh.Ft x) : rf2_Neg.f (Th.Wh.zt x) = some (Th.Wh.zt (-x)) := Th.Wh.rneg_zt x hx
/-! ### rf2_Size: function 78 -/
def rf2_Size.f (a0 : ByteArray) : Option (ByteArray) := PB.rf2_Size.f a0
theorem rf2_Size.calls (a0 : ByteArray) (r : ByteArray) (w : World) (h : rf2_Size.f a0 = some r) :
  Calls Tryz.prog 78 #[.string a0] w fun e w' => e = .returned (.string r) ∧ Drawn0 w w' := PB.rf2_Size.calls a0 r w h
theorem rf2_Size.zt (x : Int) : rf2_Size.f (Th.Wh.zt x) = some (Th.txt x.natAbs) := Th.Wh.rsize_zt x
/-! ### rf2_Right: function 55 -/
def rf2_Right.f (a0 : ByteArray) : Option (Bool) := PB.rf2_Right.f a0
/-! ### rf2_Add: function 59 -/
def rf2_Add.f (a0 : ByteArray) (a1 : ByteArray) : Option (ByteArray) := PB.rf2_Add.f a0 a1
theorem rf2_Add.calls (a0 : ByteArray) (a1 : ByteArray) (r : ByteArray) (w : World) (h : rf2_Add.f a0 a1 = some r) :
  Calls Tryz.prog 59 #[.string a0, .string a1] w fun e w' => e = .returned (.string r) ∧ Below w.heap.size w w' := PB.rf2_Add.calls a0 a1 r w h
theorem rf2_Add.zt {x y : Int} (hx : Th.Wh.Ft x) (hy : Th.Wh.Ft y) : rf2_Add.f (Th.Wh.zt x) (Th.Wh.zt y) = some (Th.Wh.zt (x + y)) := Th.Wh.radd_zt x y hx hy
/-! ### rf2_Mul: function 60 -/
def rf2_Mul.f (a0 : ByteArray) (a1 : ByteArray) : Option (ByteArray) := PB.rf2_Mul.f a0 a1
theorem rf2_Mul.calls (a0 : ByteArray) (a1 : ByteArray) (r : ByteArray) (w : World) (h : rf2_Mul.f a0 a1 = some r) :
  Calls Tryz.prog 60 #[.string a0, .string a1] w fun e w' => e = .returned (.string r) ∧ Below w.heap.size w w' := PB.rf2_Mul.calls a0 a1 r w h
theorem rf2_Mul.zt {x y : Int} (hx : Th.Wh.Ft x) (hy : Th.Wh.Ft y) : rf2_Mul.f (Th.Wh.zt x) (Th.Wh.zt y) = some (Th.Wh.zt (x * y)) := Th.Wh.rmul_zt x y hx hy
end Go.Proofs.YtmmonhgfnmeieaaGreatDoor.PT
