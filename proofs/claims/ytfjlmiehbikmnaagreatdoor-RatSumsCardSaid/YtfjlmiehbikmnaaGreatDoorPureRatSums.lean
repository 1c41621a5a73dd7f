/- RatSums: whatever the texts, the law answers true: sums, differences, products and quotients are what the document says, or refused. No conditions beyond the row's own (what the listed variables hold is tied by the card). -/
import Derived.Test.YtfjlmiehbikmnaaGreatDoorRB0
import Derived.Test.YtfjlmiehbikmnaaGreatDoorPQx2
set_option linter.unusedSimpArgs false
set_option linter.unusedVariables false
namespace Go.Proofs.YtfjlmiehbikmnaaGreatDoor.Pure
open Go Go.RowKit Go.Proofs.YtfjlmiehbikmnaaGreatDoor.PQ Go.Proofs.YtfjlmiehbikmnaaGreatDoorW.PrintWords Go.Proofs.YtfjlmiehbikmnaaGreatDoor.Th Go.Proofs.YtfjlmiehbikmnaaGreatDoor.Th.Wh Go.Proofs.YtfjlmiehbikmnaaGreatDoor.Err
theorem nil_toList' : (⟨#[]⟩ : ByteArray).toList = ([] : List UInt8) := by rw [ByteArray.toList_eq]
theorem j1_no (p q p' q' : ByteArray) : Ev (fun k => tapewrightlaw03_RatSums.j1 k ⟨#[]⟩ 2 ⟨#[]⟩ 2 ⟨#[]⟩ 2 ⟨#[]⟩ 2 true p q p' q') true :=
  Ev.step (f := fun _ => some true) (fun k => by
    rw [tapewrightlaw03_RatSums.j1, if_pos rfl, if_pos nil_toList', if_pos nil_toList', if_pos nil_toList', if_pos nil_toList', if_pos rfl, if_pos rfl, if_pos rfl, if_pos rfl, awake_true]
    rfl) (Ev.now _)
theorem RatSums : tapewrightlaw03_RatSums.Pure := by
  intro a b s0 s1
  apply Ev.rounds
  have hj : Ev (fun k => tapewrightlaw03_RatSums.j0 k a b true) true := Ev.step (f := fun _ => some true) (fun k => by rw [tapewrightlaw03_RatSums.j0, if_pos rfl, awake_true]; rfl) (Ev.now _)
  by_cases h0 : (a.size : Int) > 60
  · exact Ev.congr (fun k => by rw [tapewrightlaw03_RatSums.f, if_pos h0]) hj
  by_cases h1 : (b.size : Int) > 60
  · exact Ev.congr (fun k => by rw [tapewrightlaw03_RatSums.f, if_neg h0, decide_eq_true h1]) hj
  refine Ev.congr (fun k => by rw [tapewrightlaw03_RatSums.f, if_neg h0, decide_eq_false h1]) ?_
  clear hj s0 s1
  have ha : a.size ≤ 60 := by omega
  have hb : b.size ≤ 60 := by omega
  have e1 := rat_Add.of a b (by omega) (by omega)
  have e2 := rat_Sub.of a b (by omega) (by omega)
  have e3 := rat_Mul.of a b (by omega) (by omega)
  have e4 := rat_Quo.of a b (by omega) (by omega)
  rcases rv_cases a with h | ⟨x, hx, h⟩
  · obtain ⟨p, q, e5⟩ := tapewrightref03_Read.no a (by omega) h
    obtain ⟨p', q', b', e6⟩ : ∃ p' q' b', tapewrightref03_Read.f b = some (p', q', b') := ⟨_, _, _, by rw [tapewrightref03_Read.f, if_pos (by omega)]⟩
    rw [rAdd, h] at e1
    rw [rSub, h] at e2
    rw [rMul, h] at e3
    rw [rQuo, h] at e4
    refine Ev.step (fun k => ?_) (j1_no p q p' q')
    rw [tapewrightlaw03_RatSums.j0, if_neg (by simp)]
    simp only [e1, e2, e3, e4, e5, e6, Option.bind_some]
    rw [if_neg (by simp)]
  have hqx : qm x ≤ 60 := by
    have := qm_le x
    rw [← hx] at this
    omega
  have e5 := tapewrightref03_Read.rt x (by rw [← hx]; omega)
  rw [← hx] at e5
  rcases rv_cases b with h' | ⟨y, hy, h'⟩
  · obtain ⟨p', q', e6⟩ := tapewrightref03_Read.no b (by omega) h'
    rw [rAdd, h, h'] at e1
    rw [rSub, h, h'] at e2
    rw [rMul, h, h'] at e3
    rw [rQuo, h, h'] at e4
    refine Ev.step (fun k => ?_) (j1_no (zt x.num) (txt x.den) p' q')
    rw [tapewrightlaw03_RatSums.j0, if_neg (by simp)]
    simp only [e1, e2, e3, e4, e5, e6, Option.bind_some]
    rw [if_pos trivial]
    rfl
  have hqy : qm y ≤ 60 := by
    have := qm_le y
    rw [← hy] at this
    omega
  have e6 := tapewrightref03_Read.rt y (by rw [← hy]; omega)
  rw [← hy] at e6
  rw [rAdd, h, h'] at e1
  rw [rSub, h, h'] at e2
  rw [rMul, h, h'] at e3
  rw [rQuo, h, h'] at e4
  dsimp only at e1 e2 e3 e4
  have q1 := tapewrightref03_Add.rt (fr hqx) (fr hqy)
  have t1 := tapewrightref03_Text.rt (x + y) (Nat.le_trans (qa hqx hqy) (by decide))
  have q2 := tapewrightref03_Neg.rt (fr hqy)
  have q3 := tapewrightref03_Add.rt (fr hqx) (fr (qn hqy))
  have i3 : x + -y = x - y := by grind
  rw [i3] at q3
  have t3 := tapewrightref03_Text.rt (x - y) (Nat.le_trans (qb hqx hqy) (by decide))
  have q4 := tapewrightref03_Mul.rt (fr hqx) (fr hqy)
  have t4 := tapewrightref03_Text.rt (x * y) (Nat.le_trans (qx hqx hqy) (by decide))
  have zy : zs y.num ≤ 60 := Nat.le_trans (qm_num y) hqy
  have zd : zs (y.den : Int) ≤ 60 := by rw [zs_cast]; exact Nat.le_trans (qm_den y) hqy
  have key : ∀ s c, rat_Quo.f a b = some (s, c) → Ev (fun k => tapewrightlaw03_RatSums.j2 k s c false (zt x.num) (txt x.den) (zt y.num) (txt y.den)) true → Ev (fun k => tapewrightlaw03_RatSums.j0 k a b false) true := by
    intro s c hq hE
    refine Ev.step (fun k => ?_) (Ev.step (fun k => ?_) hE) (f := fun k => tapewrightlaw03_RatSums.j1 k (rt (x + y)) 0 (rt (x - y)) 0 (rt (x * y)) 0 s c false (zt x.num) (txt x.den) (zt y.num) (txt y.den))
    · rw [tapewrightlaw03_RatSums.j0, if_neg (by simp)]
      simp only [e1, e2, e3, hq, e5, e6, Option.bind_some]
      rw [if_pos trivial]
      rfl
    · rw [tapewrightlaw03_RatSums.j1, if_neg (by simp)]
      simp only [q1, t1, q2, q3, t3, q4, t4, Option.bind_some]
      rw [if_pos trivial, if_pos trivial, if_pos trivial, if_pos trivial, if_pos trivial]
      rfl
  by_cases hy0 : y = 0
  · rw [if_pos hy0] at e4
    refine key _ _ e4 (Ev.step (f := fun _ => some true) (fun k => ?_) (Ev.now _))
    rw [tapewrightlaw03_RatSums.j2, if_neg (by simp), if_pos ((zt_zero _).2 (Rat.num_eq_zero.2 hy0)), if_pos nil_toList', if_pos rfl, awake_true]
    rfl
  · rw [if_neg hy0] at e4
    have hn : y.num ≠ 0 := fun e => hy0 (Rat.num_eq_zero.1 e)
    have l1 := tapewrightref03_Lowest.zt (y.den : Int) y.num hn (Nat.le_trans zd (by decide)) (Nat.le_trans zy (by decide))
    have hi : Rat.divInt (y.den : Int) y.num = y⁻¹ := (Rat.inv_def y).symm
    rw [zt_nat, hi] at l1
    have hqi : qm (y⁻¹) ≤ 60 := by rw [← hi]; exact qm_divInt _ _ zd zy
    have q5 := tapewrightref03_Mul.rt (fr hqx) (fr hqi)
    have t5 := tapewrightref03_Text.rt (x * y⁻¹) (Nat.le_trans (qx hqx hqi) (by decide))
    refine key _ _ e4 (Ev.step (f := fun _ => some true) (fun k => ?_) (Ev.now _))
    rw [tapewrightlaw03_RatSums.j2, if_neg (by simp), if_neg (fun e => hn ((zt_zero _).1 e))]
    simp only [l1, q5, t5, Option.bind_some]
    rw [if_pos (tl (Rat.div_def x y)), if_pos trivial, awake_true]
    rfl
end Go.Proofs.YtfjlmiehbikmnaaGreatDoor.Pure
