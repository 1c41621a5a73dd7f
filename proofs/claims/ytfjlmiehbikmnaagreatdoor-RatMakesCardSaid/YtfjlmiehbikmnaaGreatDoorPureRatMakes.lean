/- RatMakes: whatever the texts and the number, the law answers true: any whole numbers make the rational that the document says, or none; powers and signs of any text are what it says. No conditions beyond the row's own (what the listed variables hold is tied by the card). -/
import Derived.Test.YtfjlmiehbikmnaaGreatDoorRBM0
import Derived.Test.YtfjlmiehbikmnaaGreatDoorPMx2
set_option linter.unusedSimpArgs false
set_option linter.unusedVariables false
namespace Go.Proofs.YtfjlmiehbikmnaaGreatDoor.Pure
open Go Go.RowKit Go.Proofs.YtfjlmiehbikmnaaGreatDoor.PM Go.Proofs.YtfjlmiehbikmnaaGreatDoorW.PrintWords Go.Proofs.YtfjlmiehbikmnaaGreatDoor.Th Go.Proofs.YtfjlmiehbikmnaaGreatDoor.Th.Wh Go.Proofs.YtfjlmiehbikmnaaGreatDoor.Err
theorem nil_toList' : (⟨#[]⟩ : ByteArray).toList = ([] : List UInt8) := by rw [ByteArray.toList_eq]
theorem j3_true (a b x7 : ByteArray) (x8 : Int) (h7 : x7 = ⟨#[]⟩) (h8 : x8 = 2) : Ev (fun k => tapewrightlaw03_RatMakes.j3 k a b x7 x8 true) true :=
  Ev.step (f := fun _ => some true) (fun k => by rw [tapewrightlaw03_RatMakes.j3, if_pos rfl, h7, h8, if_pos nil_toList', if_pos rfl, awake_true]; rfl) (Ev.now _)
theorem j2_ev (a b : ByteArray) (ha : a.size ≤ 60) (hb : b.size ≤ 60) : Ev (fun k => tapewrightlaw03_RatMakes.j2 k a b (rMake a b).1 (rMake a b).2) true := by
  have r1 := tapewrightref02_Right.of (a := a) (by omega)
  have r2 := tapewrightref02_Right.of (a := b) (by omega)
  rcases zv_cases a with ⟨h, k⟩ | ⟨x, hx, h⟩
  · rw [k] at r1
    rw [rMake, h]
    exact Ev.step (fun k => by rw [tapewrightlaw03_RatMakes.j2, r1, Option.bind_some, if_neg (by simp)]) (j3_true _ _ _ _ rfl rfl)
  rw [hx, right_zt, ← hx] at r1
  rcases zv_cases b with ⟨h', k⟩ | ⟨y, hy, h'⟩
  · rw [k] at r2
    rw [rMake, h, h']
    exact Ev.step (fun k => by rw [tapewrightlaw03_RatMakes.j2, r1, Option.bind_some, if_pos rfl, r2, Option.bind_some]; rfl) (j3_true _ _ _ _ rfl rfl)
  · rw [hy, right_zt, ← hy] at r2
    refine Ev.step (fun k => by rw [tapewrightlaw03_RatMakes.j2, r1, Option.bind_some, if_pos rfl, r2, Option.bind_some]) ?_
    rw [rMake, h, h']
    subst hx hy
    clear r1 r2
    have za := (zs_le x).1
    have zb := (zs_le y).1
    dsimp only
    by_cases h0 : y = 0
    · rw [if_pos h0]
      exact Ev.step (f := fun _ => some true) (fun k => by rw [tapewrightlaw03_RatMakes.j3, if_neg (by simp), if_pos ((zt_zero y).2 h0), if_pos nil_toList', if_pos rfl, awake_true]; rfl) (Ev.now _)
    · rw [if_neg h0]
      have e1 := tapewrightref03_Lowest.zt x y h0 (by omega) (by omega)
      have e2 := tapewrightref03_Text.rt (Rat.divInt x y) (Nat.le_trans (qm_divInt x y (d := 60) (by omega) (by omega)) (by decide))
      exact Ev.step (f := fun _ => some true) (fun k => by
        rw [tapewrightlaw03_RatMakes.j3, if_neg (by simp), if_neg (fun e => h0 ((zt_zero y).1 e)), e1, Option.bind_some]
        dsimp only
        rw [e2, Option.bind_some, if_pos rfl, if_pos rfl, awake_true]
        rfl) (Ev.now _)
theorem RatMakes : tapewrightlaw03_RatMakes.Pure := by
  intro a b n s0 s1 s2
  apply Ev.rounds
  have hj : Ev (fun k => tapewrightlaw03_RatMakes.j0 k a b n true) true := Ev.step (f := fun _ => some true) (fun k => by rw [tapewrightlaw03_RatMakes.j0, if_pos rfl, awake_true]; rfl) (Ev.now _)
  by_cases h0 : (a.size : Int) > 60
  · exact Ev.congr (fun k => by rw [tapewrightlaw03_RatMakes.f, if_pos h0]) hj
  by_cases h1 : (b.size : Int) > 60
  · exact Ev.congr (fun k => by rw [tapewrightlaw03_RatMakes.f, if_neg h0, decide_eq_true h1]) hj
  refine Ev.congr (fun k => by rw [tapewrightlaw03_RatMakes.f, if_neg h0, decide_eq_false h1]) ?_
  clear hj s0 s1 s2
  have ha : a.size ≤ 60 := by omega
  have hb : b.size ≤ 60 := by omega
  have hj2 := j2_ev a b ha hb
  have e1 := rat_Make.of a b (by omega) (by omega)
  have e2 := rat_Power.of a n (by omega)
  have e3 := rat_Sign.of a (by omega)
  have e4 := rat_Neg.of a (by omega)
  have e6 := rat_Right.of a (by omega)
  generalize rMake a b = m at hj2 e1
  rcases rv_cases a with h | ⟨x, hx, h⟩
  · obtain ⟨p, q, e5⟩ := tapewrightref03_Read.no a (by omega) h
    rw [rPower, h] at e2
    rw [rSign, h] at e3
    rw [rRight, h] at e6
    have e4' : rNeg a = (⟨#[]⟩, 2) := by rw [rNeg, rSub, ← rt_0, rv_rt, h]
    rw [e4'] at e4
    refine Ev.step (fun k => ?_) hj2
    rw [tapewrightlaw03_RatMakes.j0, if_neg (by simp)]
    simp only [e1, e2, e3, e4, e5, e6, Option.bind_some]
    rw [if_neg (by simp), if_neg (by simp), if_pos nil_toList', if_pos trivial, if_pos trivial, if_pos trivial, if_pos nil_toList', if_pos trivial]
  · have hq : qm x ≤ 60 := by
      have := qm_le x
      rw [← hx] at this
      omega
    rw [rPower, h] at e2
    rw [rSign, h] at e3
    rw [rRight, h] at e6
    have e5 := tapewrightref03_Read.rt x (by rw [← hx]; omega)
    rw [← hx] at e5
    rw [hx, rNeg_rt, ← hx] at e4
    dsimp only at e2 e3
    have hr : ¬ ((Option.isSome (some x) != true) = true) := by simp
    have hsm : (Option.isSome (some x)) = true := rfl
    by_cases hn : n < 0
    · rw [if_pos (Or.inl hn)] at e2
      refine Ev.step (fun k => ?_) (Ev.step (fun k => ?_) hj2) (f := fun k => tapewrightlaw03_RatMakes.j1 k a b n m.1 m.2 (⟨#[]⟩ : ByteArray) 1 (sgn x.num) 0 (rt (-x)) 0 true (zt x.num) (txt x.den))
      · rw [tapewrightlaw03_RatMakes.j0, if_neg (by simp)]
        simp only [e1, e2, e3, e4, e5, e6, Option.bind_some]
        rw [if_neg hr, if_pos trivial, if_pos hn]
      · rw [tapewrightlaw03_RatMakes.j1, if_pos rfl, if_pos nil_toList', if_pos rfl]
    by_cases hb6 : n > 6
    · rw [if_pos (Or.inr hb6)] at e2
      refine Ev.step (fun k => ?_) (Ev.step (fun k => ?_) hj2) (f := fun k => tapewrightlaw03_RatMakes.j1 k a b n m.1 m.2 (⟨#[]⟩ : ByteArray) 1 (sgn x.num) 0 (rt (-x)) 0 true (zt x.num) (txt x.den))
      · rw [tapewrightlaw03_RatMakes.j0, if_neg (by simp)]
        simp only [e1, e2, e3, e4, e5, e6, Option.bind_some]
        rw [if_neg hr, if_pos trivial, if_neg hn, decide_eq_true hb6]
      · rw [tapewrightlaw03_RatMakes.j1, if_pos rfl, if_pos nil_toList', if_pos rfl]
    · rw [if_neg (by omega)] at e2
      obtain ⟨i, rfl⟩ := Int.eq_ofNat_of_zero_le (show 0 ≤ n by omega)
      rw [Int.toNat_natCast] at e2
      have f0 : qm x ≤ 60 := hq
      have q1 := tapewrightref03_Power.rt (fr f0) i (by omega)
      have q2 := tapewrightref03_Text.rt (x ^ i) (Nat.le_trans (qp f0 i (by omega)) (by decide))
      have q3 := tapewrightref02_Sign.zt x.num
      have q4 := tapewrightref03_Neg.rt (fr f0)
      have q5 := tapewrightref03_Text.rt (-x) (Nat.le_trans (qn f0) (by decide))
      refine Ev.step (fun k => ?_) (Ev.step (fun k => ?_) hj2) (f := fun k => tapewrightlaw03_RatMakes.j1 k a b (i : Int) m.1 m.2 (rt (x ^ i)) 0 (sgn x.num) 0 (rt (-x)) 0 false (zt x.num) (txt x.den))
      · rw [tapewrightlaw03_RatMakes.j0, if_neg (by simp)]
        simp only [e1, e2, e3, e4, e5, e6, Option.bind_some]
        rw [if_neg hr, if_pos trivial, if_neg hn, decide_eq_false hb6]
      · rw [tapewrightlaw03_RatMakes.j1, if_neg (by simp)]
        simp only [q1, q2, q3, q4, q5, Option.bind_some]
        rw [if_pos trivial, if_pos trivial, if_pos trivial, if_pos trivial, if_pos trivial, if_pos trivial]
end Go.Proofs.YtfjlmiehbikmnaaGreatDoor.Pure
