/- RatBetween: whatever the texts, the law answers true: what lies half way between two is not less than the one, nor more than the other one; and is it, if both are the same. No conditions beyond the row's own (what the listed variables hold is tied by the card). -/
import Derived.Test.YtfjlmiehbikmnaaDoorRB
import Derived.Test.YtfjlmiehbikmnaaDoorPQx6
set_option linter.unusedSimpArgs false
set_option linter.unusedVariables false
namespace Go.Proofs.YtfjlmiehbikmnaaDoor.Pure
open Go Go.RowKit Go.Proofs.YtfjlmiehbikmnaaDoor.PQ Go.Proofs.YtfjlmiehbikmnaaDoorW.PrintWords Go.Proofs.YtfjlmiehbikmnaaDoor.Th Go.Proofs.YtfjlmiehbikmnaaDoor.Th.Wh Go.Proofs.YtfjlmiehbikmnaaDoor.Err
theorem RatBetween : tapewrightlaw03_RatBetween.Pure := by
  intro a b s0 s1
  apply Ev.rounds
  refine Ev.bind (short_ev [a, b] (by simp)) ?_
  by_cases g : ¬ ([a, b].all ok) = true
  · exact Ev.congr (fun k => by rw [if_neg g, awake_true]; rfl) (Ev.now _)
  replace g := Decidable.not_not.1 g
  refine Ev.congr (fun k => by rw [if_pos g]) ?_
  simp only [List.all_cons, List.all_nil, Bool.and_true, Bool.and_eq_true] at g
  obtain ⟨g0, g1⟩ := g
  obtain ⟨x, rfl, f0⟩ := ok_rt g0
  obtain ⟨y, rfl, f1⟩ := ok_rt g1
  clear g0 g1
  refine Ev.congr (f := fun _ => some true) (fun k => ?_) (Ev.now _)
  
  have u2 : qm 2 ≤ 3 := by decide +kernel
  have e1 := rat_Add.rt (fr f0) (fr f1)
  have e2 := rat_Quo.rt (fr (qa f0 f1)) (fr u2) (by decide)
  have e3 := rat_Compare.rt (fr f0) (fr f1)
  have e4 := rat_Compare.rt (fr f0) (fr (qd (qa f0 f1) u2))
  have e5 := rat_Compare.rt (fr (qd (qa f0 f1) u2)) (fr f1)
  have i1 : sgn (x - (x + y) / 2).num = sgn (x - y).num := rs_congr (by grind) (by grind)
  have i2 : sgn ((x + y) / 2 - y).num = sgn (x - y).num := rs_congr (by grind) (by grind)
  rw [← rt_2]
  simp only [e1, e2, e3, e4, e5, Option.bind_some]
  rw [if_pos i1, if_pos i2]
  by_cases h : x = y
  · have i3 : (x + y) / 2 = x := by grind
    rw [if_pos (tl h), if_pos (tl i3), if_pos trivial, if_pos trivial, awake_true]
    rfl
  · rw [if_neg (fun e => h (rt_iff.1 e)), if_pos trivial, if_pos trivial, awake_true]
    rfl
end Go.Proofs.YtfjlmiehbikmnaaDoor.Pure
