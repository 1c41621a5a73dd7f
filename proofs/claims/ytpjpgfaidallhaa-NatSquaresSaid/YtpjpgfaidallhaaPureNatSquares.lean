/- NatSquares: whatever the texts, the law answers true: the square of a sum is both squares, and twice the product; a difference of squares is the sum times the difference. No conditions beyond the row's own. -/
import Derived.Test.YtpjpgfaidallhaaQB
import Derived.Test.YtpjpgfaidallhaaPQx7
set_option linter.unusedSimpArgs false
namespace Go.Proofs.Ytpjpgfaidallhaa.Pure
open Go Go.RowKit Go.Proofs.Ytpjpgfaidallhaa.PQ Go.Proofs.YtpjpgfaidallhaaW.PrintWords Go.Proofs.Ytpjpgfaidallhaa.Th
theorem NatSquares : tapewrightlaw01_NatSquares.Pure := by
  intro a b s0 s1
  apply Ev.rounds
  have hj : Ev (fun k => tapewrightlaw01_NatSquares.j0 k a b true) true := Ev.step (fun k => by rw [tapewrightlaw01_NatSquares.j0, if_pos rfl, awake_true]; rfl) (Ev.now _)
  by_cases g0 : (a.size : Int) > 60
  · exact Ev.congr (fun k => by rw [tapewrightlaw01_NatSquares.f, if_pos g0]) hj
  by_cases g1 : (b.size : Int) > 60
  · exact Ev.congr (fun k => by rw [tapewrightlaw01_NatSquares.f, if_neg g0, if_pos g1]) hj
  refine Ev.congr (fun k => by rw [tapewrightlaw01_NatSquares.f, if_neg g0, if_neg g1, right_f s0, Option.bind_some, right_f s1, Option.bind_some]) ?_
  by_cases r0 : ¬ Str.right a = true
  · exact Ev.congr (fun k => by rw [if_neg r0]) hj
  replace r0 := Decidable.not_not.1 r0
  refine Ev.congr (fun k => by rw [if_pos r0]) ?_
  by_cases r1 : ¬ Str.right b = true
  · rw [Bool.not_eq_true] at r1
    rw [r1]
    exact hj
  replace r1 := Decidable.not_not.1 r1
  rw [r1]
  obtain ⟨m, rfl⟩ := (right_iff a).1 r0
  obtain ⟨n, rfl⟩ := (right_iff b).1 r1
  have f0 : (txt m).size ≤ 60 := by omega
  have f1 : (txt n).size ≤ 60 := by omega
  have F0 : Fit (txt m) := fit_of f0 (by omega)
  have F1 : Fit (txt n) := fit_of f1 (by omega)
  have e1 := nat_Add.txt F0 F1
  have g1 := fit_add f0 f1
  have G1 := fit_of g1 (by omega)
  have e2 := nat_Mul.txt G1 G1
  have e3 := nat_Mul.txt F0 F0
  have e4 := nat_Mul.txt F1 F1
  have e5 := nat_Mul.txt F0 F1
  have h00 := fit_mul f0 f0
  have h11 := fit_mul f1 f1
  have h01 := fit_mul f0 f1
  have e6 := nat_Add.txt (fit_of h01 (by omega)) (fit_of h01 (by omega))
  have e7 := nat_Add.txt (fit_of h00 (by omega)) (fit_of h11 (by omega))
  have e8 := nat_Add.txt (fit_of (fit_add h00 h11) (by omega)) (fit_of (fit_add h01 h01) (by omega))
  have hsq : m * m + n * n + (m * n + m * n) = (m + n) * (m + n) := by grind
  refine Ev.step (f := fun _ => some true) (fun k => ?_) (Ev.now _)
  rw [tapewrightlaw01_NatSquares.j0, if_neg (by simp)]
  by_cases hle : n ≤ m
  · have e9 := nat_Sub.txt F0 F1 hle
    have hd : (txt (m - n)).size ≤ 60 := fit_le (Nat.sub_le m n) f0
    have e10 := nat_Mul.txt G1 (fit_of hd (by omega))
    have e11 := nat_Sub.txt (fit_of h00 (by omega)) (fit_of h11 (by omega)) (Nat.mul_self_le_mul_self hle)
    have hds : (m + n) * (m - n) = m * m - n * n := (Nat.mul_self_sub_mul_self_eq m n).symm
    simp only [e1, e2, e3, e4, e5, e6, e7, e8, e9, e10, e11, Option.bind_some]
    simp [hsq, hds, awake_true]
  · have e9 := nat_Sub.txt_lt F0 F1 (Nat.lt_of_not_le hle)
    simp only [e1, e2, e3, e4, e5, e6, e7, e8, e9, Option.bind_some]
    simp [hsq, awake_true]
end Go.Proofs.Ytpjpgfaidallhaa.Pure
