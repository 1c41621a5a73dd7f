-- by wip/tool/mine.py of this repo (the kit's printer with given contracts)
import Derived.Test.YtpjpgfaidallhaaPQx0
namespace Go.Proofs.Ytpjpgfaidallhaa.PQ
open Go.RowKit Go.Proofs.YtpjpgfaidallhaaW.PrintWords Go.Proofs.YtpjpgfaidallhaaW.PrintLast Go.Proofs.YtpjpgfaidallhaaW.PrintMore
attribute [local go_sem] max2_int min2_int max_two min_two max_three min_three max_four min_four   -- for this text's walks alone
set_option linter.unusedVariables false
set_option linter.unusedSimpArgs false

/-! ### tapewrightref01_Gcd: function 21 -/
def tapewrightref01_Gcd.f (a0 : ByteArray) (a1 : ByteArray) : Option (ByteArray) := if (Str.right a0 = true ∧ Str.right a1 = true) ∧ Th.Fit a0 ∧ Th.Fit a1 then some (Th.txt (Nat.gcd (Th.num a0) (Th.num a1))) else none
theorem tapewrightref01_Gcd.calls (a0 : ByteArray) (a1 : ByteArray) (r : ByteArray) (w : World) (h : tapewrightref01_Gcd.f a0 a1 = some r) :
    Calls Try.prog 21 #[.string a0, .string a1] w fun e w' => e = .returned (.string r) ∧ Below w.heap.size w w' := by
  unfold tapewrightref01_Gcd.f at h
  by_cases c : (Str.right a0 = true ∧ Str.right a1 = true) ∧ Th.Fit a0 ∧ Th.Fit a1
  · rw [if_pos c] at h
    obtain ⟨⟨h1, h2⟩, h3⟩ := c
    obtain ⟨m, rfl⟩ := (Th.right_iff a0).1 h1
    obtain ⟨n, rfl⟩ := (Th.right_iff a1).1 h2
    simp only [Th.num_txt] at h h3
    obtain ⟨k, hk⟩ := (Th.Ref.gcd_spec n m (Nat.le_trans h3.1 (by decide)) (Nat.le_trans h3.2 (by decide))).rounds
    exact PR.tapewrightref01_Gcd.calls k _ _ r w (hk.trans h)
  · rw [if_neg c] at h
    cases h
theorem tapewrightref01_Gcd.txt {m n : Nat} (hm : Th.Fit (Th.txt m)) (hn : Th.Fit (Th.txt n)) : tapewrightref01_Gcd.f (Th.txt m) (Th.txt n) = some (Th.txt (Nat.gcd m n)) := by
  rw [tapewrightref01_Gcd.f, if_pos ⟨⟨Th.right_txt m, Th.right_txt n⟩, hm, hn⟩, Th.num_txt, Th.num_txt]

/-! ### tapewrightref01_Div: function 22 -/
def tapewrightref01_Div.f (a0 : ByteArray) (a1 : ByteArray) : Option (ByteArray × ByteArray) := if (Str.right a0 = true ∧ Str.right a1 = true) ∧ Th.Fit a0 ∧ Th.Fit a1 ∧ Th.num a1 ≠ 0 then some (Th.txt (Th.num a0 / Th.num a1), Th.txt (Th.num a0 % Th.num a1)) else none
theorem tapewrightref01_Div.calls (a0 : ByteArray) (a1 : ByteArray) (r1 : ByteArray) (r2 : ByteArray) (w : World) (h : tapewrightref01_Div.f a0 a1 = some (r1, r2)) :
    Calls Try.prog 22 #[.string a0, .string a1] w fun e w' => e = .returned (.tuple #[.string r1, .string r2]) ∧ Below w.heap.size w w' := by
  unfold tapewrightref01_Div.f at h
  by_cases c : (Str.right a0 = true ∧ Str.right a1 = true) ∧ Th.Fit a0 ∧ Th.Fit a1 ∧ Th.num a1 ≠ 0
  · rw [if_pos c] at h
    obtain ⟨⟨h1, h2⟩, h3⟩ := c
    obtain ⟨m, rfl⟩ := (Th.right_iff a0).1 h1
    obtain ⟨n, rfl⟩ := (Th.right_iff a1).1 h2
    simp only [Th.num_txt] at h h3
    obtain ⟨k, hk⟩ := (Th.Ref.div_spec m n (Nat.pos_of_ne_zero h3.2.2) (Nat.le_trans h3.1 (by decide)) (Nat.le_trans h3.2.1 (by decide))).rounds
    exact PR.tapewrightref01_Div.calls k _ _ r1 r2 w (hk.trans h)
  · rw [if_neg c] at h
    cases h
theorem tapewrightref01_Div.txt {m n : Nat} (hm : Th.Fit (Th.txt m)) (hn : Th.Fit (Th.txt n)) (h : n ≠ 0) : tapewrightref01_Div.f (Th.txt m) (Th.txt n) = some (Th.txt (m / n), Th.txt (m % n)) := by
  rw [tapewrightref01_Div.f, if_pos ⟨⟨Th.right_txt m, Th.right_txt n⟩, hm, hn, by rw [Th.num_txt]; exact h⟩, Th.num_txt, Th.num_txt]

end Go.Proofs.Ytpjpgfaidallhaa.PQ
