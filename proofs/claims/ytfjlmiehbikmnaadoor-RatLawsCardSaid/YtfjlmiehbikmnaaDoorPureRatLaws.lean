/- RatLaws: whatever the texts, the law answers true: the laws of a field. No conditions beyond the row's own (what the listed variables hold is tied by the card). -/
import Derived.Test.YtfjlmiehbikmnaaDoorRB
import Derived.Test.YtfjlmiehbikmnaaDoorPQx2
set_option linter.unusedSimpArgs false
set_option linter.unusedVariables false
namespace Go.Proofs.YtfjlmiehbikmnaaDoor.Pure
open Go Go.RowKit Go.Proofs.YtfjlmiehbikmnaaDoor.PQ Go.Proofs.YtfjlmiehbikmnaaDoorW.PrintWords Go.Proofs.YtfjlmiehbikmnaaDoor.Th Go.Proofs.YtfjlmiehbikmnaaDoor.Th.Wh Go.Proofs.YtfjlmiehbikmnaaDoor.Err
theorem RatLaws : tapewrightlaw03_RatLaws.Pure := by
  intro a b c s0 s1 s2
  apply Ev.rounds
  refine Ev.bind (short_ev [a, b, c] (by simp)) ?_
  by_cases g : ¬ ([a, b, c].all ok) = true
  · exact Ev.congr (fun k => by rw [if_neg g, awake_true]; rfl) (Ev.now _)
  replace g := Decidable.not_not.1 g
  refine Ev.congr (fun k => by rw [if_pos g]) ?_
  simp only [List.all_cons, List.all_nil, Bool.and_true, Bool.and_eq_true] at g
  obtain ⟨g0, g1, g2⟩ := g
  obtain ⟨x, rfl, f0⟩ := ok_rt g0
  obtain ⟨y, rfl, f1⟩ := ok_rt g1
  obtain ⟨z, rfl, f2⟩ := ok_rt g2
  clear g0 g1 g2
  refine Ev.congr (f := fun _ => some true) (fun k => ?_) (Ev.now _)
  
  have e1 := rat_Add.rt (fr f1) (fr f2)
  have e2 := rat_Add.rt (fr f2) (fr f1)
  have e3 := rat_Mul.rt (fr f0) (fr (qa f1 f2))
  have e4 := rat_Mul.rt (fr f0) (fr f1)
  have e5 := rat_Mul.rt (fr f2) (fr f0)
  have e6 := rat_Add.rt (fr (qx f0 f1)) (fr (qx f2 f0))
  have e7 := rat_Sub.rt (fr (qa f1 f2)) (fr f2)
  have e9 := rat_Right.of (rt (x * (y + z))) (Fr.size (fr (qx f0 (qa f1 f2))))
  rw [rRight_rt] at e9
  have i1 : y + z = z + y := by grind
  have i2 : x * (y + z) = x * y + z * x := by grind
  have i3 : y + z - z = y := by grind
  simp only [e1, e2, e3, e4, e5, e6, e7, Option.bind_some]
  by_cases h0 : y = 0
  · subst h0
    have e8 := rat_Quo.rt0 (fr (qx f0 f1))
    simp only [e8, Option.bind_some]
    rw [if_pos (tl i1), if_pos (tl i2), if_pos (tl i3), if_pos (l48.2 rfl), if_pos trivial, e9, Option.bind_some, if_pos rfl, awake_true]
    rfl
  · have e8 := rat_Quo.rt (fr (qx f0 f1)) (fr f1) h0
    have i4 : x * y / y = x := by grind
    simp only [e8, Option.bind_some]
    rw [if_pos (tl i1), if_pos (tl i2), if_pos (tl i3), if_neg (fun e => h0 (l48.1 e)), if_pos (tl i4), if_pos trivial, e9, Option.bind_some, if_pos rfl, awake_true]
    rfl
end Go.Proofs.YtfjlmiehbikmnaaDoor.Pure
