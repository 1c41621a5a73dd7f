/- WholeUnits: whatever the texts, the law answers true: times 1 a number is as it was, times -1 it is taken off 0, times 0 it is 0; 0 more turns nothing. No conditions beyond the row's own. -/
import Derived.Test.YtgeijcfacaiplaaWB
import Derived.Test.YtgeijcfacaiplaaPQx4
set_option linter.unusedSimpArgs false
namespace Go.Proofs.Ytgeijcfacaiplaa.Pure
open Go Go.RowKit Go.Proofs.Ytgeijcfacaiplaa.PQ Go.Proofs.YtgeijcfacaiplaaW.PrintWords Go.Proofs.Ytgeijcfacaiplaa.Th Go.Proofs.Ytgeijcfacaiplaa.Th.Wh
theorem WholeUnits : tapewrightlaw02_WholeUnits.Pure := by
  intro a s0
  apply Ev.rounds
  refine Ev.bind (short_ev [a] (by simp)) ?_
  by_cases g : ¬ ([a].all ok) = true
  · exact Ev.congr (fun k => by rw [if_neg g, awake_true]; rfl) (Ev.now _)
  replace g := Decidable.not_not.1 g
  refine Ev.congr (fun k => by rw [if_pos g]) ?_
  simp only [List.all_cons, List.all_nil, Bool.and_true, Bool.and_eq_true] at g
  have g0 := g
  obtain ⟨x, rfl, f0⟩ := ok_zt g0
  clear g0
  refine Ev.congr (f := fun _ => some true) (fun k => ?_) (Ev.now _)
  
  have e1 := whole_Mul.zt (ft f0) (ft (small (x := 1) (by decide)))
  have e2 := whole_Mul.zt (ft (small (x := -1) (by decide))) (ft f0)
  have e3 := whole_Mul.zt (ft f0) (ft (small (x := 0) (by decide)))
  have e4 := whole_Neg.zt (ft f0)
  have e5 := whole_Add.zt (ft (small (x := 0) (by decide))) (ft f0)
  rw [z0, z1, m1]
  simp only [e1, e2, e3, e4, e5, Option.bind_some]
  rw [if_pos (tl (Int.mul_one x)), if_pos (tl (show -1 * x = -x by omega)), if_pos ((zt_zero _).2 (Int.mul_zero x)), if_pos (tl (Int.zero_add x)), if_pos trivial, awake_true]
  rfl
end Go.Proofs.Ytgeijcfacaiplaa.Pure
