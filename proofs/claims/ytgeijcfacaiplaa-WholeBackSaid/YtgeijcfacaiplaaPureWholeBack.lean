/- WholeBack: whatever the texts, the law answers true: what is taken off 0 twice is as it was; a number and it, taken off 0, are 0 together; what is added and taken off is as it was. No conditions beyond the row's own. -/
import Derived.Test.YtgeijcfacaiplaaWB
import Derived.Test.YtgeijcfacaiplaaPQx8
set_option linter.unusedSimpArgs false
namespace Go.Proofs.Ytgeijcfacaiplaa.Pure
open Go Go.RowKit Go.Proofs.Ytgeijcfacaiplaa.PQ Go.Proofs.YtgeijcfacaiplaaW.PrintWords Go.Proofs.Ytgeijcfacaiplaa.Th Go.Proofs.Ytgeijcfacaiplaa.Th.Wh
theorem WholeBack : tapewrightlaw02_WholeBack.Pure := by
  intro a b s0 s1
  apply Ev.rounds
  refine Ev.bind (short_ev [a, b] (by simp)) ?_
  by_cases g : ¬ ([a, b].all ok) = true
  · exact Ev.congr (fun k => by rw [if_neg g, awake_true]; rfl) (Ev.now _)
  replace g := Decidable.not_not.1 g
  refine Ev.congr (fun k => by rw [if_pos g]) ?_
  simp only [List.all_cons, List.all_nil, Bool.and_true, Bool.and_eq_true] at g
  obtain ⟨g0, g1⟩ := g
  obtain ⟨x, rfl, f0⟩ := ok_zt g0
  obtain ⟨y, rfl, f1⟩ := ok_zt g1
  clear g0 g1
  refine Ev.congr (f := fun _ => some true) (fun k => ?_) (Ev.now _)
  
  have e1 := whole_Neg.zt (ft f0)
  have e2 := whole_Neg.zt (ft (zn f0))
  have e3 := whole_Add.zt (ft f0) (ft (zn f0))
  have e4 := whole_Add.zt (ft f0) (ft f1)
  have e5 := whole_Sub.zt (ft (za f0 f1)) (ft f1)
  have e6 := whole_Compare.zt (ft f0) (ft f1)
  have e7 := whole_Compare.zt (ft f1) (ft f0)
  have h1 : sgn (x - y) = wrap64 (-(sgn (y - x))) := by rw [wneg, ← sgn_neg]; exact congrArg sgn (by omega)
  have h2 : ((sgn (x - y) == 0) == ((zt x).toList == (zt y).toList)) = true := by
    apply beq_both
    rw [beq_iff_eq, beq_iff_eq, zt_iff, sgn_zero]
    omega
  simp only [e1, e2, e3, e4, e5, e6, e7, Option.bind_some]
  rw [if_pos (tl (Int.neg_neg x)), if_pos ((zt_zero _).2 (by omega)), if_pos (tl (show x + y - y = x by omega)), if_pos trivial, if_pos h1, if_pos h2, if_pos trivial, if_pos trivial, awake_true]
  rfl
end Go.Proofs.Ytgeijcfacaiplaa.Pure
