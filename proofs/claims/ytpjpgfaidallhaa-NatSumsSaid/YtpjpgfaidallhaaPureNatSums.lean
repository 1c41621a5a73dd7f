/- NatSums: whatever the texts, the law answers true: sums, products and differences are the reference's, or they are refused. No conditions beyond the row's own. -/
import Derived.Test.YtpjpgfaidallhaaQS
import Derived.Test.YtpjpgfaidallhaaPQx14
set_option linter.unusedSimpArgs false
namespace Go.Proofs.Ytpjpgfaidallhaa.Pure
open Go Go.RowKit Go.Proofs.Ytpjpgfaidallhaa.PQ Go.Proofs.YtpjpgfaidallhaaW.PrintWords Go.Proofs.Ytpjpgfaidallhaa.Th
theorem nil_toList' : (⟨#[]⟩ : ByteArray).toList = ([] : List UInt8) := by rw [ByteArray.toList_eq]
theorem NatSums : tapewrightlaw01_NatSums.Pure := by
  intro a b s0 s1
  apply Ev.rounds
  refine Ev.bind (short_ev [a, b] (by simp)) ?_
  by_cases g : ¬ ([a, b].all fun s => decide (s.size ≤ 120)) = true
  · exact Ev.congr (fun k => by rw [if_neg g, awake_true]; rfl) (Ev.now _)
  replace g := Decidable.not_not.1 g
  have g' := g
  simp only [List.all_cons, List.all_nil, Bool.and_true, Bool.and_eq_true, decide_eq_true_eq] at g'
  have F0 : Fit a := Nat.le_trans g'.1 (by decide)
  have F1 : Fit b := Nat.le_trans g'.2 (by decide)
  refine Ev.congr (fun k => by rw [if_pos g]) ?_
  by_cases hr : ¬ (Str.right a && Str.right b) = true
  · rw [Bool.not_eq_true] at hr
    have e1 : nat_Add.f a b = some (⟨#[]⟩, 2) := by rw [nat_Add.f, if_pos ⟨F0, F1⟩, sAdd, hr]; rfl
    have e2 : nat_Mul.f a b = some (⟨#[]⟩, 2) := by rw [nat_Mul.f, if_pos ⟨F0, F1⟩, sMul, hr]; rfl
    have e3 : nat_Sub.f a b = some (⟨#[]⟩, 2) := by rw [nat_Sub.f, if_pos ⟨F0, F1⟩, sSub, hr]; rfl
    have e4 : nat_Compare.f a b = some (0, 2) := by rw [nat_Compare.f, if_pos ⟨F0, F1⟩, sCompare, hr]; rfl
    have hj : Ev (fun k => tapewrightlaw01_NatSums.j0 k a b ⟨#[]⟩ 2 ⟨#[]⟩ 2 ⟨#[]⟩ 2 0 2 true) true := by
      refine Ev.step (f := fun _ => some true) (fun k => ?_) (Ev.now _)
      rw [tapewrightlaw01_NatSums.j0, if_pos rfl, if_pos nil_toList', if_pos nil_toList', if_pos nil_toList', if_pos rfl, if_pos rfl, if_pos rfl, if_pos rfl, if_pos rfl, awake_true]
      rfl
    refine Ev.congr (fun k => by rw [e1, Option.bind_some, e2, Option.bind_some, e3, Option.bind_some, e4, Option.bind_some, right_f s0, Option.bind_some, right_f s1, Option.bind_some]) ?_
    cases ra : Str.right a with
    | false => exact Ev.congr (fun k => by rw [if_neg (by simp)]) hj
    | true =>
      rw [ra, Bool.true_and] at hr
      rw [hr]
      exact Ev.congr (fun k => by rw [if_pos rfl]; rfl) hj
  replace hr := Decidable.not_not.1 hr
  obtain ⟨r0, r1⟩ := cond_of hr
  obtain ⟨m, rfl⟩ := (right_iff a).1 r0
  obtain ⟨n, rfl⟩ := (right_iff b).1 r1
  have e1 := nat_Add.txt F0 F1
  have e2 := nat_Mul.txt F0 F1
  have e4 := nat_Compare.txt F0 F1
  have c1 := tapewrightref01_Add.txt F0 F1
  have c2 := tapewrightref01_Mul.txt F0 F1
  have c3 := tapewrightref01_Compare.txt F0 F1
  have hcc : cmp (m : Int) (n : Int) = Ref.cmpN m n := by
    unfold cmp Ref.cmpN
    by_cases h1 : m < n
    · rw [if_pos (by omega), if_pos h1]
    · rw [if_neg (by omega), if_neg h1]
      by_cases h2 : n < m
      · rw [if_pos (by omega), if_pos h2]
      · rw [if_neg (by omega), if_neg h2]
  by_cases hlt : m < n
  · have e3 := nat_Sub.txt_lt F0 F1 hlt
    have hneg : cmp (m : Int) (n : Int) < 0 := by unfold cmp; rw [if_pos (by omega)]; omega
    refine Ev.congr (fun k => by rw [e1, Option.bind_some, e2, Option.bind_some, e3, Option.bind_some, e4, Option.bind_some, right_f s0, Option.bind_some, right_f s1, Option.bind_some, r0, r1, if_pos rfl]) ?_
    refine Ev.step (f := fun k => tapewrightlaw01_NatSums.j1 k (txt m) (txt n) ⟨#[]⟩ 1 (cmp (m : Int) (n : Int)) false) (fun k => ?_) ?_
    · rw [tapewrightlaw01_NatSums.j0, if_neg (by simp), c1, Option.bind_some, if_pos rfl, c2, Option.bind_some, if_pos rfl, if_pos rfl, if_pos rfl, c3, Option.bind_some, if_pos hcc]
      rfl
    · refine Ev.step (f := fun _ => some true) (fun k => ?_) (Ev.now _)
      rw [tapewrightlaw01_NatSums.j1, if_neg (by simp), if_pos hneg, if_pos nil_toList', if_pos rfl, awake_true]
      rfl
  · have e3 := nat_Sub.txt F0 F1 (Nat.le_of_not_lt hlt)
    have c4 := tapewrightref01_Sub.txt F0 F1 (Nat.le_of_not_lt hlt)
    have hneg : ¬ cmp (m : Int) (n : Int) < 0 := by
      unfold cmp
      rw [if_neg (by omega)]
      split <;> omega
    refine Ev.congr (fun k => by rw [e1, Option.bind_some, e2, Option.bind_some, e3, Option.bind_some, e4, Option.bind_some, right_f s0, Option.bind_some, right_f s1, Option.bind_some, r0, r1, if_pos rfl]) ?_
    refine Ev.step (f := fun k => tapewrightlaw01_NatSums.j1 k (txt m) (txt n) (txt (m - n)) 0 (cmp (m : Int) (n : Int)) false) (fun k => ?_) ?_
    · rw [tapewrightlaw01_NatSums.j0, if_neg (by simp), c1, Option.bind_some, if_pos rfl, c2, Option.bind_some, if_pos rfl, if_pos rfl, if_pos rfl, c3, Option.bind_some, if_pos hcc]
      rfl
    · refine Ev.step (f := fun _ => some true) (fun k => ?_) (Ev.now _)
      rw [tapewrightlaw01_NatSums.j1, if_neg (by simp), if_neg hneg, c4, Option.bind_some, if_pos rfl, if_pos rfl, nat_Right.f, Option.bind_some, if_pos r0, awake_true]
      rfl
end Go.Proofs.Ytpjpgfaidallhaa.Pure
