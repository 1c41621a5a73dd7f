/- WholeSize: whatever the texts, the law answers true: a sum's sign, if both have one, is that; a product's sign is that of both signs; what is taken off itself is 0. No conditions beyond the row's own. -/
import Derived.Test.YtgeijcfacaiplaaWB
import Derived.Test.YtgeijcfacaiplaaPQx5
set_option linter.unusedSimpArgs false
namespace Go.Proofs.Ytgeijcfacaiplaa.Pure
open Go Go.RowKit Go.Proofs.Ytgeijcfacaiplaa.PQ Go.Proofs.YtgeijcfacaiplaaW.PrintWords Go.Proofs.Ytgeijcfacaiplaa.Th Go.Proofs.Ytgeijcfacaiplaa.Th.Wh
theorem sgn_sum {x y : Int} (h : sgn x = sgn y) : sgn (x + y) = sgn x := by
  rcases sgn_cases x with ⟨h1, e1⟩ | ⟨h1, e1⟩ | ⟨h1, e1⟩ <;> rcases sgn_cases y with ⟨h2, e2⟩ | ⟨h2, e2⟩ | ⟨h2, e2⟩ <;> rcases sgn_cases (x + y) with ⟨h3, e3⟩ | ⟨h3, e3⟩ | ⟨h3, e3⟩ <;> omega
theorem sgn_mul (x y : Int) : sgn (x * y) = wrap64 (sgn x * sgn y) := by
  rcases sgn_cases x with ⟨h1, e1⟩ | ⟨h1, e1⟩ | ⟨h1, e1⟩ <;> rcases sgn_cases y with ⟨h2, e2⟩ | ⟨h2, e2⟩ | ⟨h2, e2⟩ <;> rw [e1, e2, w64 (by decide) (by decide)]
  · have := Int.mul_pos_of_neg_of_neg h1 h2; unfold sgn; rw [if_neg (by omega), if_neg (by omega)]; rfl
  · rw [h2, Int.mul_zero]; rfl
  · have := Int.mul_neg_of_neg_of_pos h1 h2; unfold sgn; rw [if_pos (by omega)]; rfl
  · rw [h1, Int.zero_mul]; rfl
  · rw [h1, Int.zero_mul]; rfl
  · rw [h1, Int.zero_mul]; rfl
  · have := Int.mul_neg_of_pos_of_neg h1 h2; unfold sgn; rw [if_pos (by omega)]; rfl
  · rw [h2, Int.mul_zero]; rfl
  · have := Int.mul_pos h1 h2; unfold sgn; rw [if_neg (by omega), if_neg (by omega)]; rfl
theorem WholeSize : tapewrightlaw02_WholeSize.Pure := by
  intro a b s0 s1
  apply Ev.rounds
  refine Ev.bind (short_ev [a, b] (by simp)) ?_
  by_cases g : ¬ ([a, b].all ok) = true
  · exact Ev.congr (fun k => by rw [if_neg g, awake_true]; rfl) (Ev.now _)
  replace g := Decidable.not_not.1 g
  refine Ev.congr (fun k => by rw [if_pos g]) ?_
  simp only [List.all_cons, List.all_nil, Bool.and_true, Bool.and_eq_true] at g
  obtain ⟨g0, g1⟩ := g
  obtain ⟨x, rfl, f0⟩ := ok_zt g0
  obtain ⟨y, rfl, f1⟩ := ok_zt g1
  clear g0 g1
  refine Ev.congr (f := fun _ => some true) (fun k => ?_) (Ev.now _)
  
  have e1 := whole_Sign.zt x
  have e2 := whole_Sign.zt y
  have e3 := whole_Add.zt (ft f0) (ft f1)
  have e4 := whole_Mul.zt (ft f0) (ft f1)
  have e5 := whole_Sub.zt (ft f0) (ft f0)
  have e6 := whole_Sign.zt (x + y)
  have e7 := whole_Sign.zt (x * y)
  have h1 : sgn (x * y) = wrap64 (sgn x * sgn y) := sgn_mul x y
  simp only [e1, e2, e3, e4, e5, e6, e7, Option.bind_some]
  by_cases hs : sgn x = sgn y
  · rw [if_pos hs, if_pos (sgn_sum hs), if_pos h1, if_pos ((zt_zero _).2 (Int.sub_self x)), if_pos trivial, if_pos trivial, awake_true]
    rfl
  · rw [if_neg hs, if_pos h1, if_pos ((zt_zero _).2 (Int.sub_self x)), if_pos trivial, if_pos trivial, awake_true]
    rfl
end Go.Proofs.Ytgeijcfacaiplaa.Pure
