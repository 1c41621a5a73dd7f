/- RatOne: whatever the texts, the law answers true: what is compared as equal is the same text; which is less does not turn when a number is added to both. No conditions beyond the row's own (what the listed variables hold is tied by the card). -/
import Derived.Test.YtfjlmiehbikmnaaDoorRB
import Derived.Test.YtfjlmiehbikmnaaDoorPQx3
set_option linter.unusedSimpArgs false
set_option linter.unusedVariables false
namespace Go.Proofs.YtfjlmiehbikmnaaDoor.Pure
open Go Go.RowKit Go.Proofs.YtfjlmiehbikmnaaDoor.PQ Go.Proofs.YtfjlmiehbikmnaaDoorW.PrintWords Go.Proofs.YtfjlmiehbikmnaaDoor.Th Go.Proofs.YtfjlmiehbikmnaaDoor.Th.Wh Go.Proofs.YtfjlmiehbikmnaaDoor.Err
theorem RatOne : tapewrightlaw03_RatOne.Pure := by
  intro a b c s0 s1 s2
  apply Ev.rounds
  refine Ev.bind (short_ev [a, b, c] (by simp)) ?_
  by_cases g : ¬ ([a, b, c].all ok) = true
  · exact Ev.congr (fun k => by rw [if_neg g, awake_true]; rfl) (Ev.now _)
  replace g := Decidable.not_not.1 g
  refine Ev.congr (fun k => by rw [if_pos g]) ?_
  simp only [List.all_cons, List.all_nil, Bool.and_true, Bool.and_eq_true] at g
  obtain ⟨g0, g1, g2⟩ := g
  obtain ⟨x, rfl, f0⟩ := ok_rt g0
  obtain ⟨y, rfl, f1⟩ := ok_rt g1
  obtain ⟨z, rfl, f2⟩ := ok_rt g2
  clear g0 g1 g2
  refine Ev.congr (f := fun _ => some true) (fun k => ?_) (Ev.now _)
  
  have e1 := rat_Compare.rt (fr f0) (fr f1)
  have e2 := rat_Compare.rt (fr f1) (fr f0)
  have e3 := rat_Add.rt (fr f0) (fr f2)
  have e4 := rat_Add.rt (fr f1) (fr f2)
  have e5 := rat_Compare.rt (fr (qa f0 f2)) (fr (qa f1 f2))
  have i1 : ((sgn (x - y).num == 0) == ((rt x).toList == (rt y).toList)) = true := by
    apply beq_both
    rw [beq_iff_eq, beq_iff_eq, rt_iff, rs_zero]
    grind
  have i2 : sgn (x - y).num = wrap64 (-(sgn (y - x).num)) := by rw [wneg, ← rs_neg]; exact congrArg (fun q : Rat => sgn q.num) (by grind)
  have i3 : sgn (x + z - (y + z)).num = sgn (x - y).num := congrArg (fun q : Rat => sgn q.num) (by grind)
  simp only [e1, e2, e3, e4, e5, Option.bind_some]
  rw [if_pos i1, if_pos i2, if_pos i3, if_pos trivial, if_pos trivial, if_pos trivial, awake_true]
  rfl
end Go.Proofs.YtfjlmiehbikmnaaDoor.Pure
