/- WholeSigns: whatever the texts, the law answers true: signs, what is taken off 0, and which is less are what the document says, or refused. No conditions beyond the row's own. -/
import Derived.Test.YtgeijcfacaiplaaWB
import Derived.Test.YtgeijcfacaiplaaPQx7
set_option linter.unusedSimpArgs false
namespace Go.Proofs.Ytgeijcfacaiplaa.Pure
open Go Go.RowKit Go.Proofs.Ytgeijcfacaiplaa.PQ Go.Proofs.YtgeijcfacaiplaaW.PrintWords Go.Proofs.Ytgeijcfacaiplaa.Th Go.Proofs.Ytgeijcfacaiplaa.Th.Wh
theorem nil_toList' : (⟨#[]⟩ : ByteArray).toList = ([] : List UInt8) := by rw [ByteArray.toList_eq]
theorem WholeSigns : tapewrightlaw02_WholeSigns.Pure := by
  intro a b s0 s1
  apply Ev.rounds
  have hj : Ev (fun k => tapewrightlaw02_WholeSigns.j0 k a b true) true := Ev.step (fun k => by rw [tapewrightlaw02_WholeSigns.j0, if_pos rfl, awake_true]; rfl) (Ev.now _)
  by_cases h0 : (a.size : Int) > 100
  · exact Ev.congr (fun k => by rw [tapewrightlaw02_WholeSigns.f, if_pos h0]) hj
  by_cases h1 : (b.size : Int) > 100
  · exact Ev.congr (fun k => by rw [tapewrightlaw02_WholeSigns.f, if_neg h0, decide_eq_true h1]) hj
  refine Ev.congr (fun k => by rw [tapewrightlaw02_WholeSigns.f, if_neg h0, decide_eq_false h1]) ?_
  clear hj
  have hok : [a, b].all ok = (right a && right b) := by
    have d0 : decide (a.size ≤ 100) = true := decide_eq_true (by omega)
    have d1 : decide (b.size ≤ 100) = true := decide_eq_true (by omega)
    rw [List.all_cons, List.all_cons, List.all_nil, ok, ok, d0, d1, Bool.true_and, Bool.true_and, Bool.and_true]
  have q1 := whole_Right.of a
  have q2 := tapewrightref02_Right.of s0
  by_cases g : (right a && right b) = true
  · rw [g] at hok
    rw [Bool.and_eq_true] at g
    obtain ⟨x, rfl⟩ := zt_of_right g.1
    obtain ⟨y, rfl⟩ := zt_of_right g.2
    have f0 : zs x ≤ 100 := Nat.le_trans (zs_le x).1 (by omega)
    have f1 : zs y ≤ 100 := Nat.le_trans (zs_le y).1 (by omega)
    clear h0 h1 s0 s1 g
    have e1 := whole_Neg.zt (ft f0)
    have e2 := whole_Sign.zt x
    have e3 := whole_Compare.zt (ft f0) (ft f1)
    have r1 := tapewrightref02_Neg.zt (ft f0)
    have r2 := tapewrightref02_Sign.zt x
    have r3 := tapewrightref02_Neg.zt (ft f1)
    have r4 := tapewrightref02_Add.zt (ft f0) (ft (zn f1))
    have r5 := tapewrightref02_Sign.zt (x + -y)
    have hs : sgn (x - y) = sgn (x + -y) := congrArg sgn (by omega)
    refine Ev.step (fun k => by rw [tapewrightlaw02_WholeSigns.j0, if_neg (by simp), e1, Option.bind_some, e2, Option.bind_some, e3, Option.bind_some, q1, Option.bind_some, q2, Option.bind_some, if_neg (by simp)]) ?_
    refine Ev.bind (short_ev [zt x, zt y] (by simp)) ?_
    refine Ev.congr (f := fun _ => some true) (fun k => ?_) (Ev.now _)
    rw [if_pos hok, r1, Option.bind_some, if_pos rfl, if_pos rfl, r2, Option.bind_some, if_pos rfl, if_pos rfl, r3, Option.bind_some, r4, Option.bind_some, r5, Option.bind_some, if_pos hs, if_pos rfl, awake_true]
    rfl
  · rw [Bool.not_eq_true] at g
    rw [g] at hok
    have e3 := whole_Compare.no g
    cases ha : right a with
    | true =>
      rw [ha] at q1 q2
      obtain ⟨x, rfl⟩ := zt_of_right ha
      have f0 : zs x ≤ 100 := Nat.le_trans (zs_le x).1 (by omega)
      have e1 := whole_Neg.zt (ft f0)
      have e2 := whole_Sign.zt x
      refine Ev.step (fun k => by rw [tapewrightlaw02_WholeSigns.j0, if_neg (by simp), e1, Option.bind_some, e2, Option.bind_some, e3, Option.bind_some, q1, Option.bind_some, q2, Option.bind_some, if_neg (by simp)]) ?_
      refine Ev.bind (short_ev [zt x, b] (by simp)) ?_
      refine Ev.congr (f := fun _ => some true) (fun k => ?_) (Ev.now _)
      rw [hok, if_neg (by simp), if_pos rfl, if_pos rfl, Option.bind_some, if_pos rfl, awake_true]
      rfl
    | false =>
      rw [ha] at q1 q2
      have e1 := whole_Neg.no ha
      have e2 := whole_Sign.no ha
      refine Ev.step (fun k => by rw [tapewrightlaw02_WholeSigns.j0, if_neg (by simp), e1, Option.bind_some, e2, Option.bind_some, e3, Option.bind_some, q1, Option.bind_some, q2, Option.bind_some, if_neg (by simp)]) ?_
      refine Ev.bind (short_ev [a, b] (by simp)) ?_
      refine Ev.congr (f := fun _ => some true) (fun k => ?_) (Ev.now _)
      rw [hok, if_neg (by simp), if_pos rfl, if_pos rfl, Option.bind_some, if_neg (by simp), if_pos nil_toList', if_pos rfl, if_pos rfl, if_pos rfl, awake_true]
      rfl
end Go.Proofs.Ytgeijcfacaiplaa.Pure
