/- RatMade: whatever the texts, the law answers true: p by q is as often p as q is, whatever both are times; and q times it is p. No conditions beyond the row's own (what the listed variables hold is tied by the card). -/
import Derived.Test.YtfjlmiehbikmnaaGreatDoorRB0
import Derived.Test.YtfjlmiehbikmnaaGreatDoorPQx2
set_option linter.unusedSimpArgs false
set_option linter.unusedVariables false
namespace Go.Proofs.YtfjlmiehbikmnaaGreatDoor.Pure
open Go Go.RowKit Go.Proofs.YtfjlmiehbikmnaaGreatDoor.PQ Go.Proofs.YtfjlmiehbikmnaaGreatDoorW.PrintWords Go.Proofs.YtfjlmiehbikmnaaGreatDoor.Th Go.Proofs.YtfjlmiehbikmnaaGreatDoor.Th.Wh Go.Proofs.YtfjlmiehbikmnaaGreatDoor.Err
theorem make_zt (a b : Int) (hb : b ≠ 0) (h1 : zs a ≤ 1000) (h2 : zs b ≤ 1000) : rat_Make.f (zt a) (zt b) = some (rt (Rat.divInt a b), 0) := by
  have := (zs_le a).2
  have := (zs_le b).2
  rw [rat_Make.of _ _ (by omega) (by omega), rMake, zv_zt, zv_zt]
  dsimp only
  rw [if_neg hb]
theorem rt_int (z : Int) : rt (z : Rat) = zt z := rt_one rfl
theorem qm_int {z : Int} {d : Nat} (h : zs z ≤ d) : qm (z : Rat) ≤ d := qm_le_of h (Nat.le_trans (by decide +kernel : (txt 1).size ≤ 1) (Nat.le_trans (size_pos _) h))
theorem RatMade : tapewrightlaw03_RatMade.Pure := by
  intro a b c s0 s1 s2
  apply Ev.rounds
  have hj : Ev (fun k => tapewrightlaw03_RatMade.j0 k a b c true) true := Ev.step (fun k => by rw [tapewrightlaw03_RatMade.j0, if_pos rfl, awake_true]; rfl) (Ev.now _)
  by_cases h0 : (a.size : Int) > 30
  · exact Ev.congr (fun k => by rw [tapewrightlaw03_RatMade.f, if_pos h0]) hj
  by_cases h1 : (b.size : Int) > 30
  · exact Ev.congr (fun k => by rw [tapewrightlaw03_RatMade.f, if_neg h0, if_pos h1]) hj
  by_cases h2 : (c.size : Int) > 30
  · exact Ev.congr (fun k => by rw [tapewrightlaw03_RatMade.f, if_neg h0, if_neg h1, if_pos h2]) hj
  have q0 := tapewrightref02_Right.of s0
  have q1 := tapewrightref02_Right.of s1
  have q2 := tapewrightref02_Right.of s2
  refine Ev.congr (fun k => by rw [tapewrightlaw03_RatMade.f, if_neg h0, if_neg h1, if_neg h2, q0, Option.bind_some, q1, q2]) ?_
  cases g0 : right a with
  | false => exact Ev.congr (fun k => by rw [if_neg (by simp)]) hj
  | true =>
    cases g1 : right b with
    | false => exact Ev.congr (fun k => by rw [if_pos rfl, Option.bind_some, if_neg (by simp)]) hj
    | true =>
      cases g2 : right c with
      | false => exact Ev.congr (fun k => by rw [if_pos rfl, Option.bind_some, if_pos rfl, Option.bind_some, if_neg (by simp)]) hj
      | true =>
        refine Ev.congr (fun k => by rw [if_pos rfl, Option.bind_some, if_pos rfl, Option.bind_some, if_pos rfl]) ?_
        by_cases h3 : b.toList = ([48] : List UInt8)
        · exact Ev.congr (fun k => by rw [if_pos h3]) hj
        cases h4 : (c.toList == ([48] : List UInt8)) with
        | true => exact Ev.congr (fun k => by rw [if_neg h3]) hj
        | false =>
          refine Ev.congr (fun k => by rw [if_neg h3]) ?_
          rw [beq_eq_false_iff_ne] at h4
          obtain ⟨x, rfl⟩ := zt_of_right g0
          obtain ⟨y, rfl⟩ := zt_of_right g1
          obtain ⟨z, rfl⟩ := zt_of_right g2
          have f0 : zs x ≤ 30 := Nat.le_trans (zs_le x).1 (by omega)
          have f1 : zs y ≤ 30 := Nat.le_trans (zs_le y).1 (by omega)
          have f2 : zs z ≤ 30 := Nat.le_trans (zs_le z).1 (by omega)
          clear hj s0 s1 s2 q0 q1 q2 g0 g1 g2 h0 h1 h2
          have hy : y ≠ 0 := fun e => h3 ((zt_zero y).2 e)
          have hz : z ≠ 0 := fun e => h4 ((zt_zero z).2 e)
          have k1 := zs_mul x z
          have k2 := zs_mul y z
          have e1 := make_zt x y hy (by omega) (by omega)
          have e2 := tapewrightref02_Mul.zt (x := x) (y := z) (Nat.le_trans f0 (by decide)) (Nat.le_trans f2 (by decide))
          have e3 := tapewrightref02_Mul.zt (x := y) (y := z) (Nat.le_trans f1 (by decide)) (Nat.le_trans f2 (by decide))
          have e4 := make_zt (x * z) (y * z) (Int.mul_ne_zero hy hz) (by omega) (by omega)
          have e5 := rat_Mul.rt (x := Rat.divInt x y) (y := (y : Rat)) (fr (qm_divInt x y f0 f1)) (fr (qm_int f1))
          rw [rt_int] at e5
          have i1 : Rat.divInt x y = Rat.divInt (x * z) (y * z) := (Rat.divInt_mul_right hz).symm
          have i2 : Rat.divInt x y * (y : Rat) = (x : Rat) := by
            have h5 : (y : Rat) ≠ 0 := fun e => hy (Rat.intCast_eq_zero_iff.1 e)
            rw [Rat.divInt_eq_div]
            exact Rat.div_mul_cancel h5
          rw [i2, rt_int] at e5
          refine Ev.step (f := fun _ => some true) (fun k => ?_) (Ev.now _)
          rw [tapewrightlaw03_RatMade.j0, if_neg (by simp)]
          simp only [e1, e2, e3, e4, e5, Option.bind_some]
          rw [if_pos (tl i1), if_pos trivial, if_pos trivial, if_pos trivial, if_pos trivial, awake_true]
          rfl
end Go.Proofs.YtfjlmiehbikmnaaGreatDoor.Pure
