/- NatDigits: whatever the texts, the law answers true: a number with a nought behind it is ten times it, and its last digit is what is left over of ten. No conditions beyond the row's own. -/
import Derived.Test.YtpjpgfaidallhaaQS
import Derived.Test.YtpjpgfaidallhaaPQx15
set_option linter.unusedSimpArgs false
namespace Go.Proofs.Ytpjpgfaidallhaa.Pure
open Go Go.RowKit Go.Proofs.Ytpjpgfaidallhaa.PQ Go.Proofs.YtpjpgfaidallhaaW.PrintWords Go.Proofs.Ytpjpgfaidallhaa.Th
theorem last_digit (m : Nat) : ((txt m).extract ((txt m).size - 1) (txt m).size).toList = (txt (m % 10)).toList := by
  rw [ByteArray.toList_eq, Ref.extract_end, txt_data, size_txt, toList_txt]
  by_cases h : m < 10
  · rw [Nat.mod_eq_of_lt h, digs_lt h]
    rfl
  · rw [digs_ge h, digs_lt (Nat.mod_lt m (by omega)), List.length_append]
    rw [show (digs (m / 10)).length + [UInt8.ofNat (48 + m % 10)].length - 1 = (digs (m / 10)).length from rfl, List.drop_left' rfl]
theorem NatDigits : tapewrightlaw01_NatDigits.Pure := by
  intro a s0
  apply Ev.rounds
  have hj : Ev (fun k => tapewrightlaw01_NatDigits.j0 k a true) true := Ev.step (fun k => by rw [tapewrightlaw01_NatDigits.j0, if_pos rfl, awake_true]; rfl) (Ev.now _)
  by_cases g0 : (a.size : Int) > 100
  · exact Ev.congr (fun k => by rw [tapewrightlaw01_NatDigits.f, if_pos g0]) hj
  refine Ev.congr (fun k => by rw [tapewrightlaw01_NatDigits.f, if_neg g0, right_f s0, Option.bind_some]) ?_
  by_cases r0 : ¬ Str.right a = true
  · rw [Bool.not_eq_true] at r0
    rw [r0]
    exact hj
  replace r0 := Decidable.not_not.1 r0
  rw [r0]
  obtain ⟨m, rfl⟩ := (right_iff a).1 r0
  have f0 : (txt m).size ≤ 100 := by omega
  have F0 : Fit (txt m) := fit_of f0 (by omega)
  have ten : (⟨#[49, 48]⟩ : ByteArray) = txt 10 := lit (by decide +kernel) (by decide +kernel)
  have k10 : (txt 10).size ≤ 2 := size_le (by omega) (by omega)
  have F10 : Fit (txt 10) := fit_of k10 (by omega)
  have hq : (txt (m / 10)).size ≤ 100 := fit_le (Nat.div_le_self _ _) f0
  have hr : (txt (m % 10)).size ≤ 100 := fit_le (Nat.mod_le _ _) f0
  have e1 := nat_Mul.txt F0 F10
  have e2 := nat_Div.txt F0 F10 (by omega)
  have e3 := nat_Mul.txt (fit_of hq (by omega)) F10
  have e4 := nat_Add.txt (fit_of (fit_mul hq k10) (by omega)) (fit_of hr (by omega))
  have hs : m / 10 * 10 + m % 10 = m := by omega
  have hcat : (txt m ++ (⟨#[48]⟩ : ByteArray)).data.toList = digs m ++ [48] := by simp [txt]
  have hp : tapewrightref01_Plain.f (txt m ++ (⟨#[48]⟩ : ByteArray)) = some (txt (m * 10)) := by
    have h1 : (txt m ++ (⟨#[48]⟩ : ByteArray)).data.toList.all Str.isDig = true := by rw [hcat, List.all_append, digs_dig]; rfl
    have h2 : (txt m ++ (⟨#[48]⟩ : ByteArray)).size ≤ 1125899906842624 := by
      rw [Ref.size_list, hcat, List.length_append, ← size_txt]
      simp
      omega
    have h3 : num (txt m ++ (⟨#[48]⟩ : ByteArray)) = m * 10 := by
      unfold num
      rw [hcat, numL_snoc, numL_digs]
      simp
      omega
    rw [tapewrightref01_Plain.f, if_pos ⟨h2, h1⟩, h3]
  have hpos := size_pos m
  have hw : Aside0 (wrap64 (((txt m).size : Int) - 1) = (((txt m).size - 1 : Nat) : Int)) := ⟨by rw [w64 (by omega) (by omega)]; omega⟩
  have k1 : (txt m).size + 1 ≤ 9223372036854775807 := by omega
  have k2 : (0 : Int) ≤ (((txt m).size - 1 : Nat) : Int) := by omega
  have k3 : (((txt m).size - 1 : Nat) : Int) ≤ ((txt m).size : Int) := by omega
  refine Ev.step (f := fun _ => some true) (fun k => ?_) (Ev.now _)
  rw [tapewrightlaw01_NatDigits.j0, if_neg (by simp), ten]
  simp only [e1, e2, e3, e4, Option.bind_some]
  rw [if_pos k1, hp, Option.bind_some, if_pos rfl, hw.out, if_pos k2, if_pos k3, Int.toNat_natCast, last_digit, hs, if_pos rfl, if_pos rfl]
  simp [awake_true]
end Go.Proofs.Ytpjpgfaidallhaa.Pure
