/- For the laws of layer 1: the fixed answer, and small words. -/
import Derived.Test.YtpjpgfaidallhaaPQx1
namespace Go.Proofs.Ytpjpgfaidallhaa.Pure
open Go Go.RowKit Go.Proofs.Ytpjpgfaidallhaa.PQ Go.Proofs.YtpjpgfaidallhaaW.PrintWords Go.Proofs.Ytpjpgfaidallhaa.Th
theorem lit {s : ByteArray} {n : Nat} (h : Str.right s = true) (hn : num s = n) : s = txt n := by rw [← hn]; exact txt_num h
theorem fit_of {n d : Nat} (h : (txt n).size ≤ d) (hd : d ≤ 549755813888) : Fit (txt n) := Nat.le_trans h hd
theorem fit_small {n : Nat} (h : n < 1000) : Fit (txt n) := Nat.le_trans (size_le (d := 3) (by omega) (by omega)) (by omega)
theorem awake_true : tapewrightlaw01_awake.f = some true := by
  have e1 : (⟨#[57, 57, 57, 57, 57, 57, 57, 57, 57, 57, 57]⟩ : ByteArray) = txt 99999999999 := lit (by decide +kernel) (by decide +kernel)
  have e2 : (⟨#[49, 48, 48]⟩ : ByteArray) = txt 100 := lit (by decide +kernel) (by decide +kernel)
  have e3 : (⟨#[55]⟩ : ByteArray) = txt 7 := lit (by decide +kernel) (by decide +kernel)
  have e4 : ([57, 57, 57, 57, 57, 57, 57, 57, 57, 57, 56, 48, 48, 48, 48, 48, 48, 48, 48, 48, 48, 49] : List UInt8) = (txt 9999999999800000000001).toList := by
    rw [← lit (s := ⟨#[57, 57, 57, 57, 57, 57, 57, 57, 57, 57, 56, 48, 48, 48, 48, 48, 48, 48, 48, 48, 48, 49]⟩) (by decide +kernel) (by decide +kernel), ByteArray.toList_eq]
  have e5 : ([49, 52] : List UInt8) = (txt 14).toList := by rw [← lit (s := ⟨#[49, 52]⟩) (by decide +kernel) (by decide +kernel), ByteArray.toList_eq]
  have e6 : ([50] : List UInt8) = (txt 2).toList := by rw [← lit (s := ⟨#[50]⟩) (by decide +kernel) (by decide +kernel), ByteArray.toList_eq]
  have f1 : Fit (txt 99999999999) := by rw [← e1]; decide
  rw [tapewrightlaw01_awake.f, e1, e2, e3, e4, e5, e6, nat_Mul.txt f1 f1, Option.bind_some, nat_Div.txt (fit_small (by omega)) (fit_small (by omega)) (by omega), Option.bind_some, if_pos rfl, if_pos rfl, if_pos rfl, if_pos rfl, if_pos rfl, nat_Right.f, Option.bind_some, if_neg (by decide +kernel), nat_Right.f, Option.bind_some]
  exact congrArg some (by decide +kernel)
theorem right_f {a : ByteArray} (h : a.size ≤ 140737488351232) : tapewrightref01_Right.f a = some (Str.right a) := by rw [tapewrightref01_Right.f, if_pos h]
theorem zero_iff {m : Nat} : (txt m).toList = ([48] : List UInt8) ↔ m = 0 := by
  have e : ([48] : List UInt8) = digs 0 := by rw [digs_lt (by omega)]; rfl
  rw [toList_txt, e, digs_inj]
theorem one_iff {m : Nat} : (txt m).toList = ([49] : List UInt8) ↔ m = 1 := by
  have e : ([49] : List UInt8) = digs 1 := by rw [digs_lt (by omega)]; rfl
  rw [toList_txt, e, digs_inj]
theorem txt_iff {m n : Nat} : (txt m).toList = (txt n).toList ↔ m = n := by rw [toList_txt, toList_txt, digs_inj]
theorem fit_add {m n : Nat} {d : Nat} (hm : (txt m).size ≤ d) (hn : (txt n).size ≤ d) : (txt (m + n)).size ≤ d + 1 := by have := size_add m n; omega
theorem fit_mul {m n : Nat} {d e : Nat} (hm : (txt m).size ≤ d) (hn : (txt n).size ≤ e) : (txt (m * n)).size ≤ d + e := by have := size_mul m n; omega
theorem fit_le {m n : Nat} {d : Nat} (h : m ≤ n) (hn : (txt n).size ≤ d) : (txt m).size ≤ d := Nat.le_trans (size_mono h) hn
end Go.Proofs.Ytpjpgfaidallhaa.Pure
