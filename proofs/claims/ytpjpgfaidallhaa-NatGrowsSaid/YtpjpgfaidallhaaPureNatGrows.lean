/- NatGrows: whatever the texts, the law answers true: what is taken off and added again is as it was; of what is less the difference is refused, just then. No conditions beyond the row's own. -/
import Derived.Test.YtpjpgfaidallhaaQS
import Derived.Test.YtpjpgfaidallhaaPQx8
set_option linter.unusedSimpArgs false
namespace Go.Proofs.Ytpjpgfaidallhaa.Pure
open Go Go.RowKit Go.Proofs.Ytpjpgfaidallhaa.PQ Go.Proofs.YtpjpgfaidallhaaW.PrintWords Go.Proofs.Ytpjpgfaidallhaa.Th
theorem NatGrows : tapewrightlaw01_NatGrows.Pure := by
  intro a b s0 s1
  apply Ev.rounds
  have hj : Ev (fun k => tapewrightlaw01_NatGrows.j0 k a b true) true := Ev.step (fun k => by rw [tapewrightlaw01_NatGrows.j0, if_pos rfl, awake_true]; rfl) (Ev.now _)
  refine Ev.bind (short_ev [a, b] (by simp)) ?_
  by_cases g : ¬ ([a, b].all fun s => decide (s.size ≤ 120)) = true
  · exact Ev.congr (fun k => by rw [if_neg g]) hj
  replace g := Decidable.not_not.1 g
  refine Ev.congr (fun k => by rw [if_pos g, right_f s0, Option.bind_some, right_f s1, Option.bind_some]) ?_
  by_cases r0 : ¬ Str.right a = true
  · exact Ev.congr (fun k => by rw [if_neg r0]) hj
  replace r0 := Decidable.not_not.1 r0
  refine Ev.congr (fun k => by rw [if_pos r0]) ?_
  by_cases r1 : ¬ Str.right b = true
  · rw [Bool.not_eq_true] at r1
    rw [r1]
    exact hj
  replace r1 := Decidable.not_not.1 r1
  rw [r1]
  simp only [List.all_cons, List.all_nil, Bool.and_true, Bool.and_eq_true, decide_eq_true_eq] at g
  obtain ⟨m, rfl⟩ := (right_iff a).1 r0
  obtain ⟨n, rfl⟩ := (right_iff b).1 r1
  have f0 : (txt m).size ≤ 120 := by omega
  have f1 : (txt n).size ≤ 120 := by omega
  have F0 : Fit (txt m) := fit_of f0 (by omega)
  have F1 : Fit (txt n) := fit_of f1 (by omega)
  have e2 := nat_Compare.txt F0 F1
  refine Ev.step (f := fun _ => some true) (fun k => ?_) (Ev.now _)
  rw [tapewrightlaw01_NatGrows.j0, if_neg (by simp)]
  by_cases hle : n ≤ m
  · have e1 := nat_Sub.txt F0 F1 hle
    have hd : (txt (m - n)).size ≤ 120 := fit_le (Nat.sub_le m n) f0
    have e3 := nat_Add.txt (fit_of hd (by omega)) F1
    have hs : m - n + n = m := Nat.sub_add_cancel hle
    have hc : ¬ cmp (m : Int) (n : Int) < 0 := by
      unfold cmp
      rw [if_neg (by omega)]
      split <;> omega
    have hb : (((txt (m - n)).toList == ([48] : List UInt8)) == ((txt m).toList == (txt n).toList)) = true := by
      rw [beq_iff_eq, Bool.eq_iff_iff, beq_iff_eq, beq_iff_eq, zero_iff, txt_iff]
      omega
    simp only [e1, e2, e3, Option.bind_some]
    rw [hs, if_neg hc, if_pos rfl, if_pos hb]
    simp [awake_true]
  · have e1 := nat_Sub.txt_lt F0 F1 (Nat.lt_of_not_le hle)
    have hc : cmp (m : Int) (n : Int) < 0 := by
      unfold cmp
      rw [if_pos (by omega)]
      omega
    simp only [e1, e2, Option.bind_some]
    rw [if_pos hc, if_pos (by rw [ByteArray.toList_eq])]
    simp [awake_true]
end Go.Proofs.Ytpjpgfaidallhaa.Pure
