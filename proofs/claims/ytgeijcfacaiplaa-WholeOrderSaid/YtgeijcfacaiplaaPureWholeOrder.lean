/- WholeOrder: whatever the texts, the law answers true: which is less goes on from one to the next, does not turn when a number is added to both, and turns when both are taken off 0. No conditions beyond the row's own. -/
import Derived.Test.YtgeijcfacaiplaaWB
import Derived.Test.YtgeijcfacaiplaaPQx9
set_option linter.unusedSimpArgs false
namespace Go.Proofs.Ytgeijcfacaiplaa.Pure
open Go Go.RowKit Go.Proofs.Ytgeijcfacaiplaa.PQ Go.Proofs.YtgeijcfacaiplaaW.PrintWords Go.Proofs.Ytgeijcfacaiplaa.Th Go.Proofs.Ytgeijcfacaiplaa.Th.Wh
theorem WholeOrder : tapewrightlaw02_WholeOrder.Pure := by
  intro a b c s0 s1 s2
  apply Ev.rounds
  refine Ev.bind (short_ev [a, b, c] (by simp)) ?_
  by_cases g : ¬ ([a, b, c].all ok) = true
  · exact Ev.congr (fun k => by rw [if_neg g, awake_true]; rfl) (Ev.now _)
  replace g := Decidable.not_not.1 g
  refine Ev.congr (fun k => by rw [if_pos g]) ?_
  simp only [List.all_cons, List.all_nil, Bool.and_true, Bool.and_eq_true] at g
  obtain ⟨g0, g1, g2⟩ := g
  obtain ⟨x, rfl, f0⟩ := ok_zt g0
  obtain ⟨y, rfl, f1⟩ := ok_zt g1
  obtain ⟨z, rfl, f2⟩ := ok_zt g2
  clear g0 g1 g2
  refine Ev.congr (f := fun _ => some true) (fun k => ?_) (Ev.now _)
  
  have e1 := whole_Compare.zt (ft f0) (ft f1)
  have e2 := whole_Compare.zt (ft f1) (ft f2)
  have e3 := whole_Compare.zt (ft f0) (ft f2)
  have e4 := whole_Add.zt (ft f0) (ft f2)
  have e5 := whole_Add.zt (ft f1) (ft f2)
  have e6 := whole_Compare.zt (ft (za f0 f2)) (ft (za f1 f2))
  have e7 := whole_Neg.zt (ft f0)
  have e8 := whole_Neg.zt (ft f1)
  have e9 := whole_Compare.zt (ft (zn f0)) (ft (zn f1))
  have h1 : sgn (x + z - (y + z)) = sgn (x - y) := congrArg sgn (by omega)
  have h2 : sgn (-x - -y) = wrap64 (-(sgn (x - y))) := by rw [wneg, ← sgn_neg]; exact congrArg sgn (by omega)
  simp only [e1, e2, e3, e4, e5, e6, e7, e8, e9, Option.bind_some]
  by_cases k1 : sgn (x - y) > 0
  · rw [if_pos k1, if_pos h1, if_pos h2, if_pos trivial, if_pos trivial, awake_true]
    rfl
  · rw [if_neg k1]
    by_cases k2 : sgn (y - z) > 0
    · rw [if_pos k2, if_pos h1, if_pos h2, if_pos trivial, if_pos trivial, awake_true]
      rfl
    · have k3 : sgn (x - z) ≤ 0 := by
        have k4 : ¬ sgn (x - z) > 0 := by
          rw [sgn_pos] at *
          omega
        omega
      rw [if_neg k2, if_pos k3, if_pos h1, if_pos h2, if_pos trivial, if_pos trivial, awake_true]
      rfl
end Go.Proofs.Ytgeijcfacaiplaa.Pure
