/- RatUnits: whatever the texts, the law answers true: times 1, by 1, and 0 more a rational is as it was; by itself it is 1; taken off itself 0. No conditions beyond the row's own (what the listed variables hold is tied by the card). -/
import Derived.Test.YtfjlmiehbikmnaaDoorRB
import Derived.Test.YtfjlmiehbikmnaaDoorPQx7
set_option linter.unusedSimpArgs false
set_option linter.unusedVariables false
namespace Go.Proofs.YtfjlmiehbikmnaaDoor.Pure
open Go Go.RowKit Go.Proofs.YtfjlmiehbikmnaaDoor.PQ Go.Proofs.YtfjlmiehbikmnaaDoorW.PrintWords Go.Proofs.YtfjlmiehbikmnaaDoor.Th Go.Proofs.YtfjlmiehbikmnaaDoor.Th.Wh Go.Proofs.YtfjlmiehbikmnaaDoor.Err
theorem RatUnits : tapewrightlaw03_RatUnits.Pure := by
  intro a s0
  apply Ev.rounds
  refine Ev.bind (short_ev [a] (by simp)) ?_
  by_cases g : ¬ ([a].all ok) = true
  · exact Ev.congr (fun k => by rw [if_neg g, awake_true]; rfl) (Ev.now _)
  replace g := Decidable.not_not.1 g
  refine Ev.congr (fun k => by rw [if_pos g]) ?_
  simp only [List.all_cons, List.all_nil, Bool.and_true, Bool.and_eq_true] at g
  have g0 := g
  obtain ⟨x, rfl, f0⟩ := ok_rt g0
  clear g0
  refine Ev.congr (f := fun _ => some true) (fun k => ?_) (Ev.now _)
  
  have u1 : qm 1 ≤ 3 := by decide +kernel
  have u0 : qm 0 ≤ 3 := by decide +kernel
  have e1 := rat_Mul.rt (fr f0) (fr u1)
  have e2 := rat_Quo.rt (fr f0) (fr u1) (by decide)
  have e3 := rat_Add.rt (fr u0) (fr f0)
  have e4 := rat_Sub.rt (fr f0) (fr f0)
  have e6 := rat_Neg.rt (fr f0)
  have e7 := rat_Neg.rt (fr (qn f0))
  have i1 : x * 1 = x := by grind
  have i2 : x / 1 = x := by grind
  have i3 : 0 + x = x := by grind
  have i4 : x - x = 0 := by grind
  have i5 : - -x = x := by grind
  rw [← rt_0, ← rt_1]
  simp only [e1, e2, e3, e4, e6, e7, Option.bind_some]
  by_cases h0 : x = 0
  · subst h0
    have e5 := rat_Quo.rt0 (fr f0)
    simp only [e5, Option.bind_some]
    rw [if_pos (tl i1), if_pos (tl i2), if_pos (tl i3), if_pos (l48.2 i4), if_pos (l48.2 rfl), if_pos trivial, if_pos (tl i5), if_pos trivial, awake_true]
    rfl
  · have e5 := rat_Quo.rt (fr f0) (fr f0) h0
    have i6 : x / x = 1 := by grind
    simp only [e5, Option.bind_some]
    rw [if_pos (tl i1), if_pos (tl i2), if_pos (tl i3), if_pos (l48.2 i4), if_neg (fun e => h0 (l48.1 e)), if_pos (l49.2 i6), if_pos trivial, if_pos (tl i5), if_pos trivial, awake_true]
    rfl
end Go.Proofs.YtfjlmiehbikmnaaDoor.Pure
