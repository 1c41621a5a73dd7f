/- WholeTwice: whatever the texts, the law answers true: a number added to itself is twice it; a difference, the other way round, is it taken off 0. No conditions beyond the row's own. -/
import Derived.Test.YtgeijcfacaiplaaWB
import Derived.Test.YtgeijcfacaiplaaPQx4
set_option linter.unusedSimpArgs false
namespace Go.Proofs.Ytgeijcfacaiplaa.Pure
open Go Go.RowKit Go.Proofs.Ytgeijcfacaiplaa.PQ Go.Proofs.YtgeijcfacaiplaaW.PrintWords Go.Proofs.Ytgeijcfacaiplaa.Th Go.Proofs.Ytgeijcfacaiplaa.Th.Wh
theorem WholeTwice : tapewrightlaw02_WholeTwice.Pure := by
  intro a b s0 s1
  apply Ev.rounds
  refine Ev.bind (short_ev [a, b] (by simp)) ?_
  by_cases g : ¬ ([a, b].all ok) = true
  · exact Ev.congr (fun k => by rw [if_neg g, awake_true]; rfl) (Ev.now _)
  replace g := Decidable.not_not.1 g
  refine Ev.congr (fun k => by rw [if_pos g]) ?_
  simp only [List.all_cons, List.all_nil, Bool.and_true, Bool.and_eq_true] at g
  obtain ⟨g0, g1⟩ := g
  obtain ⟨x, rfl, f0⟩ := ok_zt g0
  obtain ⟨y, rfl, f1⟩ := ok_zt g1
  clear g0 g1
  refine Ev.congr (f := fun _ => some true) (fun k => ?_) (Ev.now _)
  
  have e1 := whole_Add.zt (ft f0) (ft f0)
  have e2 := whole_Mul.zt (ft f0) (ft (small (x := 2) (by decide)))
  have e3 := whole_Sub.zt (ft f0) (ft f1)
  have e4 := whole_Sub.zt (ft f1) (ft f0)
  have e5 := whole_Neg.zt (ft (zb f1 f0))
  rw [z2]
  simp only [e1, e2, e3, e4, e5, Option.bind_some]
  rw [if_pos (tl (show x + x = x * 2 by omega)), if_pos (tl (show x - y = -(y - x) by omega)), if_pos trivial, awake_true]
  rfl
end Go.Proofs.Ytgeijcfacaiplaa.Pure
