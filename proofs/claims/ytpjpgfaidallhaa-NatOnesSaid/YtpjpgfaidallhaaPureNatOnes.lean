/- NatOnes: whatever the texts, the law answers true: times 1 a number is as it was, by 1, and 0 more; by itself 1; with 1 more it is more. No conditions beyond the row's own. -/
import Derived.Test.YtpjpgfaidallhaaQS
import Derived.Test.YtpjpgfaidallhaaPQx9
set_option linter.unusedSimpArgs false
namespace Go.Proofs.Ytpjpgfaidallhaa.Pure
open Go Go.RowKit Go.Proofs.Ytpjpgfaidallhaa.PQ Go.Proofs.YtpjpgfaidallhaaW.PrintWords Go.Proofs.Ytpjpgfaidallhaa.Th
theorem NatOnes : tapewrightlaw01_NatOnes.Pure := by
  intro a s0
  apply Ev.rounds
  have hj : Ev (fun k => tapewrightlaw01_NatOnes.j0 k a true) true := Ev.step (fun k => by rw [tapewrightlaw01_NatOnes.j0, if_pos rfl, awake_true]; rfl) (Ev.now _)
  refine Ev.bind (short_ev [a] (by simp)) ?_
  by_cases g : ¬ ([a].all fun s => decide (s.size ≤ 120)) = true
  · exact Ev.congr (fun k => by rw [if_neg g]) hj
  replace g := Decidable.not_not.1 g
  refine Ev.congr (fun k => by rw [if_pos g, right_f s0, Option.bind_some]) ?_
  by_cases r0 : ¬ Str.right a = true
  · rw [Bool.not_eq_true] at r0
    rw [r0]
    exact hj
  replace r0 := Decidable.not_not.1 r0
  rw [r0]
  simp only [List.all_cons, List.all_nil, Bool.and_true, Bool.and_eq_true, decide_eq_true_eq] at g
  obtain ⟨m, rfl⟩ := (right_iff a).1 r0
  have f0 : (txt m).size ≤ 120 := by omega
  have F0 : Fit (txt m) := fit_of f0 (by omega)
  have o1 : (⟨#[49]⟩ : ByteArray) = txt 1 := (txt_small 1 (by omega)).symm
  have o0 : (⟨#[48]⟩ : ByteArray) = txt 0 := (txt_small 0 (by omega)).symm
  have K1 : Fit (txt 1) := fit_small (by omega)
  have K0 : Fit (txt 0) := fit_small (by omega)
  have k1 : (txt 1).size ≤ 120 := size_le (by omega) (by omega)
  have e1 := nat_Mul.txt F0 K1
  have e2 := nat_Div.txt F0 K1 (by omega)
  have e3 := nat_Add.txt F0 K0
  have e4 := nat_Add.txt F0 K1
  have e5 := nat_Compare.txt (fit_of (fit_add f0 k1) (by omega)) F0
  have e7 := nat_Gcd.txt F0 F0
  have hc : cmp ((m + 1 : Nat) : Int) (m : Int) = 1 := by
    unfold cmp
    rw [if_neg (by omega), if_pos (by omega)]
  refine Ev.step (f := fun _ => some true) (fun k => ?_) (Ev.now _)
  rw [tapewrightlaw01_NatOnes.j0, if_neg (by simp), o1, o0]
  by_cases hz : m = 0
  · subst hz
    have e6 := nat_Div.txt0 F0 F0
    simp only [e1, e2, e3, e4, e5, e6, e7, Option.bind_some]
    rw [hc]
    simp [zero_iff, Nat.mod_one, awake_true]
  · have e6 := nat_Div.txt F0 F0 hz
    simp only [e1, e2, e3, e4, e5, e6, e7, Option.bind_some]
    rw [hc]
    simp [zero_iff, one_iff, hz, Nat.mod_one, Nat.div_self (Nat.pos_of_ne_zero hz), awake_true]
end Go.Proofs.Ytpjpgfaidallhaa.Pure
