/- WholeSquares: whatever the texts, the law answers true: a square is never below 0; the square of a difference is both squares less twice the product. No conditions beyond the row's own. -/
import Derived.Test.YtgeijcfacaiplaaWB
import Derived.Test.YtgeijcfacaiplaaPQx6
set_option linter.unusedSimpArgs false
namespace Go.Proofs.Ytgeijcfacaiplaa.Pure
open Go Go.RowKit Go.Proofs.Ytgeijcfacaiplaa.PQ Go.Proofs.YtgeijcfacaiplaaW.PrintWords Go.Proofs.Ytgeijcfacaiplaa.Th Go.Proofs.Ytgeijcfacaiplaa.Th.Wh
theorem WholeSquares : tapewrightlaw02_WholeSquares.Pure := by
  intro a b s0 s1
  apply Ev.rounds
  refine Ev.bind (short_ev [a, b] (by simp)) ?_
  by_cases g : ¬ ([a, b].all ok) = true
  · exact Ev.congr (fun k => by rw [if_neg g]) (Ev.step (fun k => by rw [tapewrightlaw02_WholeSquares.j0, if_pos rfl, awake_true]; rfl) (Ev.now _))
  replace g := Decidable.not_not.1 g
  refine Ev.congr (fun k => by rw [if_pos g]) ?_
  simp only [List.all_cons, List.all_nil, Bool.and_true, Bool.and_eq_true] at g
  obtain ⟨g0, g1⟩ := g
  obtain ⟨x, rfl, f0⟩ := ok_zt g0
  obtain ⟨y, rfl, f1⟩ := ok_zt g1
  clear g0 g1
  refine Ev.step (f := fun _ => some true) (fun k => ?_) (Ev.now _)
  by_cases hw : decide ((wrap64 (((zt x).size : Int) + ((zt y).size : Int))) > 120) = true
  · rw [hw, tapewrightlaw02_WholeSquares.j0, if_pos rfl, awake_true]
    rfl
  rw [Bool.not_eq_true] at hw
  have e1 := whole_Sub.zt (ft f0) (ft f1)
  have e2 := whole_Mul.zt (ft (zb f0 f1)) (ft (zb f0 f1))
  have e3 := whole_Sign.zt ((x - y) * (x - y))
  have e4 := whole_Mul.zt (ft f0) (ft f0)
  have e5 := whole_Mul.zt (ft f1) (ft f1)
  have e6 := whole_Mul.zt (ft f0) (ft f1)
  have e7 := whole_Add.zt (ft (zm f0 f0)) (ft (zm f1 f1))
  have e8 := whole_Sub.zt (ft (za (zm f0 f0) (zm f1 f1))) (ft (zm f0 f1))
  have e9 := whole_Sub.zt (ft (zb (za (zm f0 f0) (zm f1 f1)) (zm f0 f1))) (ft (zm f0 f1))
  have h1 : (x - y) * (x - y) = x * x + y * y - x * y - x * y := by grind
  have h0 : 0 ≤ (x - y) * (x - y) := by
    rcases Int.le_total 0 (x - y) with h | h
    · exact Int.mul_nonneg h h
    · exact Int.mul_nonneg_of_nonpos_of_nonpos h h
  have h2 : sgn ((x - y) * (x - y)) ≥ 0 := by unfold sgn; rw [if_neg (by omega)]; split <;> omega
  have h3 : ((sgn ((x - y) * (x - y)) == 0) == ((zt x).toList == (zt y).toList)) = true := by
    apply beq_both
    rw [beq_iff_eq, beq_iff_eq, zt_iff, sgn_zero, Int.mul_eq_zero]
    omega
  rw [hw, tapewrightlaw02_WholeSquares.j0, if_neg (by simp)]
  simp only [e1, e2, e3, e4, e5, e6, e7, e8, e9, Option.bind_some]
  rw [if_pos (tl h1), if_pos h2, if_pos h3, if_pos trivial, if_pos trivial, awake_true]
  rfl
end Go.Proofs.Ytgeijcfacaiplaa.Pure
