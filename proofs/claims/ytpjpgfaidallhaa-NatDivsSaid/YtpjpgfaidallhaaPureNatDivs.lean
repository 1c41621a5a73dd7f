/- NatDivs: whatever the texts, the law answers true: quotients, and what is left over, and what divides both, are the reference's, or they are refused. No conditions beyond the row's own. -/
import Derived.Test.YtpjpgfaidallhaaQS
import Derived.Test.YtpjpgfaidallhaaPQx12
set_option linter.unusedSimpArgs false
namespace Go.Proofs.Ytpjpgfaidallhaa.Pure
open Go Go.RowKit Go.Proofs.Ytpjpgfaidallhaa.PQ Go.Proofs.YtpjpgfaidallhaaW.PrintWords Go.Proofs.Ytpjpgfaidallhaa.Th
theorem nil_toList : (⟨#[]⟩ : ByteArray).toList = ([] : List UInt8) := by rw [ByteArray.toList_eq]
theorem NatDivs : tapewrightlaw01_NatDivs.Pure := by
  intro a b s0 s1
  apply Ev.rounds
  refine Ev.bind (short_ev [a, b] (by simp)) ?_
  by_cases g : ¬ ([a, b].all fun s => decide (s.size ≤ 120)) = true
  · exact Ev.congr (fun k => by rw [if_neg g, awake_true]; rfl) (Ev.now _)
  replace g := Decidable.not_not.1 g
  have g' := g
  simp only [List.all_cons, List.all_nil, Bool.and_true, Bool.and_eq_true, decide_eq_true_eq] at g'
  have F0 : Fit a := Nat.le_trans g'.1 (by decide)
  have F1 : Fit b := Nat.le_trans g'.2 (by decide)
  refine Ev.congr (fun k => by rw [if_pos g]) ?_
  by_cases hr : ¬ (Str.right a && Str.right b) = true
  · rw [Bool.not_eq_true] at hr
    have e1 : nat_Div.f a b = some (⟨#[]⟩, ⟨#[]⟩, 2) := by rw [nat_Div.f, if_pos ⟨F0, F1⟩, sDiv, hr]; rfl
    have e2 : nat_Gcd.f a b = some (⟨#[]⟩, 2) := by rw [nat_Gcd.f, if_pos ⟨F0, F1⟩, sGcd, hr]; rfl
    have hj : Ev (fun k => tapewrightlaw01_NatDivs.j0 k a b ⟨#[]⟩ ⟨#[]⟩ 2 ⟨#[]⟩ 2 true) true := by
      refine Ev.step (f := fun _ => some true) (fun k => ?_) (Ev.now _)
      rw [tapewrightlaw01_NatDivs.j0, if_pos rfl, if_pos nil_toList, if_pos nil_toList, if_pos nil_toList, if_pos rfl, if_pos rfl, nat_Right.f, Option.bind_some, right_f s0, Option.bind_some, if_pos (by simp), awake_true]
      rfl
    refine Ev.congr (fun k => by rw [e1, Option.bind_some, e2, Option.bind_some, right_f s0, Option.bind_some, right_f s1, Option.bind_some]) ?_
    cases ra : Str.right a with
    | false => exact Ev.congr (fun k => by rw [if_neg (by simp)]) hj
    | true =>
      rw [ra, Bool.true_and] at hr
      rw [hr]
      exact Ev.congr (fun k => by rw [if_pos rfl]; rfl) hj
  replace hr := Decidable.not_not.1 hr
  obtain ⟨r0, r1⟩ := cond_of hr
  obtain ⟨m, rfl⟩ := (right_iff a).1 r0
  obtain ⟨n, rfl⟩ := (right_iff b).1 r1
  have e2 := nat_Gcd.txt F0 F1
  have e3 := tapewrightref01_Gcd.txt F0 F1
  by_cases hz : n = 0
  · subst hz
    have e1 := nat_Div.txt0 F0 F1
    refine Ev.congr (fun k => by rw [e1, Option.bind_some, e2, Option.bind_some, right_f s0, Option.bind_some, right_f s1, Option.bind_some, r0, r1, if_pos rfl]) ?_
    refine Ev.step (f := fun k => tapewrightlaw01_NatDivs.j1 k (txt m) (txt 0) ⟨#[]⟩ ⟨#[]⟩ 3 false) (fun k => ?_) ?_
    · rw [tapewrightlaw01_NatDivs.j0, if_neg (by simp), e3, Option.bind_some, if_pos rfl]
      rfl
    · refine Ev.step (f := fun _ => some true) (fun k => ?_) (Ev.now _)
      rw [tapewrightlaw01_NatDivs.j1, if_neg (by simp), if_pos (zero_iff.2 rfl), if_pos nil_toList, if_pos nil_toList, if_pos rfl, awake_true]
      rfl
  · have e1 := nat_Div.txt F0 F1 hz
    have e4 := tapewrightref01_Div.txt F0 F1 hz
    refine Ev.congr (fun k => by rw [e1, Option.bind_some, e2, Option.bind_some, right_f s0, Option.bind_some, right_f s1, Option.bind_some, r0, r1, if_pos rfl]) ?_
    refine Ev.step (f := fun k => tapewrightlaw01_NatDivs.j1 k (txt m) (txt n) (txt (m / n)) (txt (m % n)) 0 false) (fun k => ?_) ?_
    · rw [tapewrightlaw01_NatDivs.j0, if_neg (by simp), e3, Option.bind_some, if_pos rfl]
      rfl
    · refine Ev.step (f := fun _ => some true) (fun k => ?_) (Ev.now _)
      rw [tapewrightlaw01_NatDivs.j1, if_neg (by simp), if_neg (fun h => hz (zero_iff.1 h)), e4, Option.bind_some, if_pos rfl, if_pos rfl, if_pos rfl, awake_true]
      rfl
end Go.Proofs.Ytpjpgfaidallhaa.Pure
