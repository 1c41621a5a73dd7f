/- RatOrder: whatever the texts, the law answers true: which is less goes on from one to the next, and turns when both are taken off 0. No conditions beyond the row's own (what the listed variables hold is tied by the card). -/
import Derived.Test.YtfjlmiehbikmnaaDoorRB
import Derived.Test.YtfjlmiehbikmnaaDoorPQx4
set_option linter.unusedSimpArgs false
set_option linter.unusedVariables false
namespace Go.Proofs.YtfjlmiehbikmnaaDoor.Pure
open Go Go.RowKit Go.Proofs.YtfjlmiehbikmnaaDoor.PQ Go.Proofs.YtfjlmiehbikmnaaDoorW.PrintWords Go.Proofs.YtfjlmiehbikmnaaDoor.Th Go.Proofs.YtfjlmiehbikmnaaDoor.Th.Wh Go.Proofs.YtfjlmiehbikmnaaDoor.Err
theorem RatOrder : tapewrightlaw03_RatOrder.Pure := by
  intro a b c s0 s1 s2
  apply Ev.rounds
  refine Ev.bind (short_ev [a, b, c] (by simp)) ?_
  by_cases g : ¬ ([a, b, c].all ok) = true
  · exact Ev.congr (fun k => by rw [if_neg g, awake_true]; rfl) (Ev.now _)
  replace g := Decidable.not_not.1 g
  refine Ev.congr (fun k => by rw [if_pos g]) ?_
  simp only [List.all_cons, List.all_nil, Bool.and_true, Bool.and_eq_true] at g
  obtain ⟨g0, g1, g2⟩ := g
  obtain ⟨x, rfl, f0⟩ := ok_rt g0
  obtain ⟨y, rfl, f1⟩ := ok_rt g1
  obtain ⟨z, rfl, f2⟩ := ok_rt g2
  clear g0 g1 g2
  refine Ev.congr (f := fun _ => some true) (fun k => ?_) (Ev.now _)
  
  have e1 := rat_Compare.rt (fr f0) (fr f1)
  have e2 := rat_Compare.rt (fr f1) (fr f2)
  have e3 := rat_Compare.rt (fr f0) (fr f2)
  have e4 := rat_Neg.rt (fr f0)
  have e5 := rat_Neg.rt (fr f1)
  have e6 := rat_Compare.rt (fr (qn f0)) (fr (qn f1))
  have h2 : sgn (-x - -y).num = wrap64 (-(sgn (x - y).num)) := by rw [wneg, ← rs_neg]; exact congrArg (fun q : Rat => sgn q.num) (by grind)
  simp only [e1, e2, e3, e4, e5, e6, Option.bind_some]
  by_cases k1 : sgn (x - y).num > 0
  · rw [if_pos k1, if_pos h2, if_pos trivial, if_pos trivial, awake_true]
    rfl
  · rw [if_neg k1]
    by_cases k2 : sgn (y - z).num > 0
    · rw [if_pos k2, if_pos h2, if_pos trivial, if_pos trivial, awake_true]
      rfl
    · have k3 : sgn (x - z).num ≤ 0 := by
        have k4 : ¬ sgn (x - z).num > 0 := by
          rw [rs_pos] at *
          grind
        omega
      rw [if_neg k2, if_pos k3, if_pos h2, if_pos trivial, if_pos trivial, awake_true]
      rfl
end Go.Proofs.YtfjlmiehbikmnaaDoor.Pure
