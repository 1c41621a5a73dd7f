/- WholeLaws: whatever the texts, the law answers true: sums and products do not hang on their order, nor on how they are put together; a product with a sum is the sum of the products. No conditions beyond the row's own. -/
import Derived.Test.YtgeijcfacaiplaaWB
import Derived.Test.YtgeijcfacaiplaaPQx3
set_option linter.unusedSimpArgs false
namespace Go.Proofs.Ytgeijcfacaiplaa.Pure
open Go Go.RowKit Go.Proofs.Ytgeijcfacaiplaa.PQ Go.Proofs.YtgeijcfacaiplaaW.PrintWords Go.Proofs.Ytgeijcfacaiplaa.Th Go.Proofs.Ytgeijcfacaiplaa.Th.Wh
theorem WholeLaws : tapewrightlaw02_WholeLaws.Pure := by
  intro a b c s0 s1 s2
  apply Ev.rounds
  refine Ev.bind (short_ev [a, b, c] (by simp)) ?_
  by_cases g : ¬ ([a, b, c].all ok) = true
  · exact Ev.congr (fun k => by rw [if_neg g, awake_true]; rfl) (Ev.now _)
  replace g := Decidable.not_not.1 g
  refine Ev.congr (fun k => by rw [if_pos g]) ?_
  simp only [List.all_cons, List.all_nil, Bool.and_true, Bool.and_eq_true] at g
  obtain ⟨g0, g1, g2⟩ := g
  obtain ⟨x, rfl, f0⟩ := ok_zt g0
  obtain ⟨y, rfl, f1⟩ := ok_zt g1
  obtain ⟨z, rfl, f2⟩ := ok_zt g2
  clear g0 g1 g2
  refine Ev.congr (f := fun _ => some true) (fun k => ?_) (Ev.now _)
  
  have e1 := whole_Add.zt (ft f0) (ft f1)
  have e2 := whole_Add.zt (ft f1) (ft f2)
  have e3 := whole_Add.zt (ft (za f0 f1)) (ft f2)
  have e4 := whole_Add.zt (ft (za f1 f2)) (ft f0)
  have e5 := whole_Mul.zt (ft f0) (ft (za f1 f2))
  have e6 := whole_Mul.zt (ft f0) (ft f1)
  have e7 := whole_Mul.zt (ft f2) (ft f0)
  have e8 := whole_Add.zt (ft (zm f0 f1)) (ft (zm f2 f0))
  have h1 : x + y + z = y + z + x := by omega
  have h2 : x * (y + z) = x * y + z * x := by grind
  simp only [e1, e2, e3, e4, e5, e6, e7, e8, Option.bind_some]
  rw [if_pos (tl h1), if_pos (tl h2), if_pos trivial, whole_Right.of, right_zt, Option.bind_some, if_pos rfl, awake_true]
  rfl
end Go.Proofs.Ytgeijcfacaiplaa.Pure
