-- by wip/tool/mine.py of this repo (the kit's printer with given contracts)
import Derived.Test.YtpjpgfaidallhaaPQx0
namespace Go.Proofs.Ytpjpgfaidallhaa.PQ
open Go.RowKit Go.Proofs.YtpjpgfaidallhaaW.PrintWords Go.Proofs.YtpjpgfaidallhaaW.PrintLast Go.Proofs.YtpjpgfaidallhaaW.PrintMore
attribute [local go_sem] max2_int min2_int max_two min_two max_three min_three max_four min_four   -- for this text's walks alone
set_option linter.unusedVariables false
set_option linter.unusedSimpArgs false

/-! ### tapewrightref01_Add: function 27 -/
def tapewrightref01_Add.f (a0 : ByteArray) (a1 : ByteArray) : Option (ByteArray) := if (Str.right a0 = true ∧ Str.right a1 = true) ∧ Th.Fit a0 ∧ Th.Fit a1 then some (Th.txt (Th.num a0 + Th.num a1)) else none
theorem tapewrightref01_Add.calls (a0 : ByteArray) (a1 : ByteArray) (r : ByteArray) (w : World) (h : tapewrightref01_Add.f a0 a1 = some r) :
    Calls Try.prog 27 #[.string a0, .string a1] w fun e w' => e = .returned (.string r) ∧ Below w.heap.size w w' := by
  unfold tapewrightref01_Add.f at h
  by_cases c : (Str.right a0 = true ∧ Str.right a1 = true) ∧ Th.Fit a0 ∧ Th.Fit a1
  · rw [if_pos c] at h
    obtain ⟨⟨h1, h2⟩, h3⟩ := c
    obtain ⟨m, rfl⟩ := (Th.right_iff a0).1 h1
    obtain ⟨n, rfl⟩ := (Th.right_iff a1).1 h2
    simp only [Th.num_txt] at h h3
    obtain ⟨k, hk⟩ := (Th.Ref.add_spec m n (Nat.le_trans h3.1 (by decide)) (Nat.le_trans h3.2 (by decide))).rounds
    exact PR.tapewrightref01_Add.calls k _ _ r w (hk.trans h)
  · rw [if_neg c] at h
    cases h
theorem tapewrightref01_Add.txt {m n : Nat} (hm : Th.Fit (Th.txt m)) (hn : Th.Fit (Th.txt n)) : tapewrightref01_Add.f (Th.txt m) (Th.txt n) = some (Th.txt (m + n)) := by
  rw [tapewrightref01_Add.f, if_pos ⟨⟨Th.right_txt m, Th.right_txt n⟩, hm, hn⟩, Th.num_txt, Th.num_txt]

/-! ### tapewrightref01_Mul: function 28 -/
def tapewrightref01_Mul.f (a0 : ByteArray) (a1 : ByteArray) : Option (ByteArray) := if (Str.right a0 = true ∧ Str.right a1 = true) ∧ Th.Fit a0 ∧ Th.Fit a1 then some (Th.txt (Th.num a0 * Th.num a1)) else none
theorem tapewrightref01_Mul.calls (a0 : ByteArray) (a1 : ByteArray) (r : ByteArray) (w : World) (h : tapewrightref01_Mul.f a0 a1 = some r) :
    Calls Try.prog 28 #[.string a0, .string a1] w fun e w' => e = .returned (.string r) ∧ Below w.heap.size w w' := by
  unfold tapewrightref01_Mul.f at h
  by_cases c : (Str.right a0 = true ∧ Str.right a1 = true) ∧ Th.Fit a0 ∧ Th.Fit a1
  · rw [if_pos c] at h
    obtain ⟨⟨h1, h2⟩, h3⟩ := c
    obtain ⟨m, rfl⟩ := (Th.right_iff a0).1 h1
    obtain ⟨n, rfl⟩ := (Th.right_iff a1).1 h2
    simp only [Th.num_txt] at h h3
    obtain ⟨k, hk⟩ := (Th.Ref.mul_spec m n (Nat.le_trans h3.1 (by decide)) (Nat.le_trans h3.2 (by decide))).rounds
    exact PR.tapewrightref01_Mul.calls k _ _ r w (hk.trans h)
  · rw [if_neg c] at h
    cases h
theorem tapewrightref01_Mul.txt {m n : Nat} (hm : Th.Fit (Th.txt m)) (hn : Th.Fit (Th.txt n)) : tapewrightref01_Mul.f (Th.txt m) (Th.txt n) = some (Th.txt (m * n)) := by
  rw [tapewrightref01_Mul.f, if_pos ⟨⟨Th.right_txt m, Th.right_txt n⟩, hm, hn⟩, Th.num_txt, Th.num_txt]

/-! ### tapewrightref01_Compare: function 29 -/
def tapewrightref01_Compare.f (a0 : ByteArray) (a1 : ByteArray) : Option (Int) := if (Str.right a0 = true ∧ Str.right a1 = true) ∧ Th.Fit a0 ∧ Th.Fit a1 then some (Th.Ref.cmpN (Th.num a0) (Th.num a1)) else none
theorem tapewrightref01_Compare.calls (a0 : ByteArray) (a1 : ByteArray) (r : Int) (w : World) (h : tapewrightref01_Compare.f a0 a1 = some r) :
    Calls Try.prog 29 #[.string a0, .string a1] w fun e w' => e = .returned (.int .i64 r) ∧ Drawn0 w w' := by
  unfold tapewrightref01_Compare.f at h
  by_cases c : (Str.right a0 = true ∧ Str.right a1 = true) ∧ Th.Fit a0 ∧ Th.Fit a1
  · rw [if_pos c] at h
    obtain ⟨⟨h1, h2⟩, h3⟩ := c
    obtain ⟨m, rfl⟩ := (Th.right_iff a0).1 h1
    obtain ⟨n, rfl⟩ := (Th.right_iff a1).1 h2
    simp only [Th.num_txt] at h h3
    exact PR.tapewrightref01_Compare.calls _ _ r w ((Th.Ref.compare_spec m n).trans h)
  · rw [if_neg c] at h
    cases h
theorem tapewrightref01_Compare.txt {m n : Nat} (hm : Th.Fit (Th.txt m)) (hn : Th.Fit (Th.txt n)) : tapewrightref01_Compare.f (Th.txt m) (Th.txt n) = some (Th.Ref.cmpN m n) := by
  rw [tapewrightref01_Compare.f, if_pos ⟨⟨Th.right_txt m, Th.right_txt n⟩, hm, hn⟩, Th.num_txt, Th.num_txt]

/-! ### tapewrightref01_Sub: function 30 -/
def tapewrightref01_Sub.f (a0 : ByteArray) (a1 : ByteArray) : Option (ByteArray) := if (Str.right a0 = true ∧ Str.right a1 = true) ∧ Th.Fit a0 ∧ Th.Fit a1 ∧ Th.num a1 ≤ Th.num a0 then some (Th.txt (Th.num a0 - Th.num a1)) else none
theorem tapewrightref01_Sub.calls (a0 : ByteArray) (a1 : ByteArray) (r : ByteArray) (w : World) (h : tapewrightref01_Sub.f a0 a1 = some r) :
    Calls Try.prog 30 #[.string a0, .string a1] w fun e w' => e = .returned (.string r) ∧ Below w.heap.size w w' := by
  unfold tapewrightref01_Sub.f at h
  by_cases c : (Str.right a0 = true ∧ Str.right a1 = true) ∧ Th.Fit a0 ∧ Th.Fit a1 ∧ Th.num a1 ≤ Th.num a0
  · rw [if_pos c] at h
    obtain ⟨⟨h1, h2⟩, h3⟩ := c
    obtain ⟨m, rfl⟩ := (Th.right_iff a0).1 h1
    obtain ⟨n, rfl⟩ := (Th.right_iff a1).1 h2
    simp only [Th.num_txt] at h h3
    obtain ⟨k, hk⟩ := (Th.Ref.sub_spec m n h3.2.2 (Nat.le_trans h3.1 (by decide))).rounds
    exact PR.tapewrightref01_Sub.calls k _ _ r w (hk.trans h)
  · rw [if_neg c] at h
    cases h
theorem tapewrightref01_Sub.txt {m n : Nat} (hm : Th.Fit (Th.txt m)) (hn : Th.Fit (Th.txt n)) (h : n ≤ m) : tapewrightref01_Sub.f (Th.txt m) (Th.txt n) = some (Th.txt (m - n)) := by
  rw [tapewrightref01_Sub.f, if_pos ⟨⟨Th.right_txt m, Th.right_txt n⟩, hm, hn, by rw [Th.num_txt, Th.num_txt]; exact h⟩, Th.num_txt, Th.num_txt]

end Go.Proofs.Ytpjpgfaidallhaa.PQ
