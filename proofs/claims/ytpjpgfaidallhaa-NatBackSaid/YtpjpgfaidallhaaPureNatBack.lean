/- NatBack: whatever the texts, the law answers true: what is added and taken off is as it was; a product, divided, too. No conditions beyond the row's own. -/
import Derived.Test.YtpjpgfaidallhaaQS
import Derived.Test.YtpjpgfaidallhaaPQx6
set_option linter.unusedSimpArgs false
namespace Go.Proofs.Ytpjpgfaidallhaa.Pure
open Go Go.RowKit Go.Proofs.Ytpjpgfaidallhaa.PQ Go.Proofs.YtpjpgfaidallhaaW.PrintWords Go.Proofs.Ytpjpgfaidallhaa.Th
theorem NatBack : tapewrightlaw01_NatBack.Pure := by
  intro a b s0 s1
  apply Ev.rounds
  have hj : Ev (fun k => tapewrightlaw01_NatBack.j0 k a b true) true := Ev.step (fun k => by rw [tapewrightlaw01_NatBack.j0, if_pos rfl, awake_true]; rfl) (Ev.now _)
  refine Ev.bind (short_ev [a, b] (by simp)) ?_
  by_cases g : ¬ ([a, b].all fun s => decide (s.size ≤ 120)) = true
  · exact Ev.congr (fun k => by rw [if_neg g]) hj
  replace g := Decidable.not_not.1 g
  refine Ev.congr (fun k => by rw [if_pos g, right_f s0, Option.bind_some, right_f s1, Option.bind_some]) ?_
  by_cases r0 : ¬ Str.right a = true
  · exact Ev.congr (fun k => by rw [if_neg r0]) hj
  replace r0 := Decidable.not_not.1 r0
  refine Ev.congr (fun k => by rw [if_pos r0]) ?_
  by_cases r1 : ¬ Str.right b = true
  · rw [Bool.not_eq_true] at r1
    rw [r1]
    exact hj
  replace r1 := Decidable.not_not.1 r1
  rw [r1]
  simp only [List.all_cons, List.all_nil, Bool.and_true, Bool.and_eq_true, decide_eq_true_eq] at g
  obtain ⟨m, rfl⟩ := (right_iff a).1 r0
  obtain ⟨n, rfl⟩ := (right_iff b).1 r1
  have f0 : (txt m).size ≤ 120 := by omega
  have f1 : (txt n).size ≤ 120 := by omega
  have F0 : Fit (txt m) := fit_of f0 (by omega)
  have F1 : Fit (txt n) := fit_of f1 (by omega)
  have e1 := nat_Add.txt F0 F1
  have e2 := nat_Sub.txt (fit_of (fit_add f0 f1) (by omega)) F1 (Nat.le_add_left n m)
  have e3 := nat_Mul.txt F0 F1
  have hs : m + n - n = m := Nat.add_sub_cancel m n
  refine Ev.step (f := fun _ => some true) (fun k => ?_) (Ev.now _)
  rw [tapewrightlaw01_NatBack.j0, if_neg (by simp)]
  by_cases hz : n = 0
  · subst hz
    have e4 := nat_Div.txt0 (fit_of (fit_mul f0 f1) (by omega)) F1
    simp only [e1, e2, e3, e4, Option.bind_some]
    simp [hs, zero_iff, awake_true]
  · have e4 := nat_Div.txt (fit_of (fit_mul f0 f1) (by omega)) F1 hz
    simp only [e1, e2, e3, e4, Option.bind_some]
    simp [hs, zero_iff, hz, Nat.mul_div_cancel m (Nat.pos_of_ne_zero hz), awake_true]
end Go.Proofs.Ytpjpgfaidallhaa.Pure
