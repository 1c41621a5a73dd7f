/- RatQuos: whatever the texts, the law answers true: a quotient by a quotient is the one number times the other one's divisor, by its dividend; 1 by 1 by a number is it. No conditions beyond the row's own (what the listed variables hold is tied by the card). -/
import Derived.Test.YtfjlmiehbikmnaaDoorRB
import Derived.Test.YtfjlmiehbikmnaaDoorPQx9
set_option linter.unusedSimpArgs false
set_option linter.unusedVariables false
namespace Go.Proofs.YtfjlmiehbikmnaaDoor.Pure
open Go Go.RowKit Go.Proofs.YtfjlmiehbikmnaaDoor.PQ Go.Proofs.YtfjlmiehbikmnaaDoorW.PrintWords Go.Proofs.YtfjlmiehbikmnaaDoor.Th Go.Proofs.YtfjlmiehbikmnaaDoor.Th.Wh Go.Proofs.YtfjlmiehbikmnaaDoor.Err
theorem RatQuos : tapewrightlaw03_RatQuos.Pure := by
  intro a b c s0 s1 s2
  apply Ev.rounds
  refine Ev.bind (short_ev [a, b, c] (by simp)) ?_
  by_cases g : ¬ ([a, b, c].all ok) = true
  · exact Ev.congr (fun k => by rw [if_neg g]) (Ev.step (fun k => by rw [tapewrightlaw03_RatQuos.j0, if_pos rfl, awake_true]; rfl) (Ev.now _))
  replace g := Decidable.not_not.1 g
  refine Ev.congr (fun k => by rw [if_pos g]) ?_
  simp only [List.all_cons, List.all_nil, Bool.and_true, Bool.and_eq_true] at g
  obtain ⟨g0, g1, g2⟩ := g
  obtain ⟨x, rfl, f0⟩ := ok_rt g0
  obtain ⟨y, rfl, f1⟩ := ok_rt g1
  obtain ⟨z, rfl, f2⟩ := ok_rt g2
  clear g0 g1 g2
  have hj : Ev (fun k => tapewrightlaw03_RatQuos.j0 k (rt x) (rt y) (rt z) true) true := Ev.step (fun k => by rw [tapewrightlaw03_RatQuos.j0, if_pos rfl, awake_true]; rfl) (Ev.now _)
  by_cases h1 : (wrap64 ((wrap64 (((rt x).size : Int) + ((rt y).size : Int))) + ((rt z).size : Int))) > 120
  · exact Ev.congr (fun k => by rw [if_pos h1]) hj
  by_cases h2 : (rt y).toList = ([48] : List UInt8)
  · exact Ev.congr (fun k => by rw [if_neg h1, if_pos h2]) hj
  cases h3 : ((rt z).toList == ([48] : List UInt8)) with
  | true => exact Ev.congr (fun k => by rw [if_neg h1, if_neg h2]) hj
  | false =>
    refine Ev.congr (fun k => by rw [if_neg h1, if_neg h2]) ?_
    rw [beq_eq_false_iff_ne] at h3
    rw [Ne, l48] at h3
    rw [l48] at h2
    have u1 : qm 1 ≤ 3 := by decide +kernel
    have hq : y / z ≠ 0 := by
      intro e
      have : y = y / z * z := by grind
      rw [e] at this
      grind
    have hn : 1 / y ≠ 0 := by
      intro e
      have : 1 = 1 / y * y := by grind
      rw [e] at this
      grind
    have e1 := rat_Quo.rt (fr f1) (fr f2) h3
    have e2 := rat_Quo.rt (fr f0) (fr (qd f1 f2)) hq
    have e3 := rat_Mul.rt (fr f0) (fr f2)
    have e4 := rat_Quo.rt (fr (qx f0 f2)) (fr f1) h2
    have e5 := rat_Quo.rt (fr u1) (fr f1) h2
    have e6 := rat_Quo.rt (fr u1) (fr (qd u1 f1)) hn
    have i1 : x / (y / z) = x * z / y := by grind
    have i2 : 1 / (1 / y) = y := by grind
    refine Ev.step (f := fun _ => some true) (fun k => ?_) (Ev.now _)
    rw [tapewrightlaw03_RatQuos.j0, if_neg (by simp), ← rt_1]
    simp only [e1, e2, e3, e4, e5, e6, Option.bind_some]
    rw [if_pos (tl i1), if_pos (tl i2), if_pos trivial, if_pos trivial, if_pos trivial, awake_true]
    rfl
end Go.Proofs.YtfjlmiehbikmnaaDoor.Pure
