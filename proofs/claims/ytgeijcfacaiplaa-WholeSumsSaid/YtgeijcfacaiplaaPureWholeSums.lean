/- WholeSums: whatever the texts, the law answers true: sums, differences, products are what the document says, or refused. No conditions beyond the row's own. -/
import Derived.Test.YtgeijcfacaiplaaWB
import Derived.Test.YtgeijcfacaiplaaPQx2
set_option linter.unusedSimpArgs false
namespace Go.Proofs.Ytgeijcfacaiplaa.Pure
open Go Go.RowKit Go.Proofs.Ytgeijcfacaiplaa.PQ Go.Proofs.YtgeijcfacaiplaaW.PrintWords Go.Proofs.Ytgeijcfacaiplaa.Th Go.Proofs.Ytgeijcfacaiplaa.Th.Wh
theorem nil_toList' : (⟨#[]⟩ : ByteArray).toList = ([] : List UInt8) := by rw [ByteArray.toList_eq]
theorem WholeSums : tapewrightlaw02_WholeSums.Pure := by
  intro a b s0 s1
  apply Ev.rounds
  have hj : Ev (fun k => tapewrightlaw02_WholeSums.j0 k a b true) true := Ev.step (fun k => by rw [tapewrightlaw02_WholeSums.j0, if_pos rfl, awake_true]; rfl) (Ev.now _)
  by_cases h0 : (a.size : Int) > 100
  · exact Ev.congr (fun k => by rw [tapewrightlaw02_WholeSums.f, if_pos h0]) hj
  by_cases h1 : (b.size : Int) > 100
  · exact Ev.congr (fun k => by rw [tapewrightlaw02_WholeSums.f, if_neg h0, decide_eq_true h1]) hj
  refine Ev.congr (fun k => by rw [tapewrightlaw02_WholeSums.f, if_neg h0, decide_eq_false h1]) ?_
  clear hj
  have hok : [a, b].all ok = (right a && right b) := by
    have d0 : decide (a.size ≤ 100) = true := decide_eq_true (by omega)
    have d1 : decide (b.size ≤ 100) = true := decide_eq_true (by omega)
    rw [List.all_cons, List.all_cons, List.all_nil, ok, ok, d0, d1, Bool.true_and, Bool.true_and, Bool.and_true]
  by_cases g : (right a && right b) = true
  · rw [g] at hok
    rw [Bool.and_eq_true] at g
    obtain ⟨x, rfl⟩ := zt_of_right g.1
    obtain ⟨y, rfl⟩ := zt_of_right g.2
    have f0 : zs x ≤ 100 := Nat.le_trans (zs_le x).1 (by omega)
    have f1 : zs y ≤ 100 := Nat.le_trans (zs_le y).1 (by omega)
    clear h0 h1 s0 s1 g
    have e1 := whole_Add.zt (ft f0) (ft f1)
    have e2 := whole_Sub.zt (ft f0) (ft f1)
    have e3 := whole_Mul.zt (ft f0) (ft f1)
    have r1 := tapewrightref02_Add.zt (ft f0) (ft f1)
    have r2 := tapewrightref02_Neg.zt (ft f1)
    have r3 := tapewrightref02_Add.zt (ft f0) (ft (zn f1))
    have r4 := tapewrightref02_Mul.zt (ft f0) (ft f1)
    refine Ev.step (fun k => by rw [tapewrightlaw02_WholeSums.j0, if_neg (by simp), e1, Option.bind_some, e2, Option.bind_some, e3, Option.bind_some]) ?_
    refine Ev.bind (short_ev [zt x, zt y] (by simp)) ?_
    refine Ev.congr (f := fun _ => some true) (fun k => ?_) (Ev.now _)
    rw [if_pos hok, r1, Option.bind_some, if_pos rfl, r2, Option.bind_some, r3, Option.bind_some, if_pos (tl (show x - y = x + -y by omega)), r4, Option.bind_some, if_pos rfl, if_pos rfl, if_pos rfl, if_pos rfl, awake_true]
    rfl
  · rw [Bool.not_eq_true] at g
    rw [g] at hok
    have e1 := whole_Add.no g
    have e2 := whole_Sub.no g
    have e3 := whole_Mul.no g
    refine Ev.step (fun k => by rw [tapewrightlaw02_WholeSums.j0, if_neg (by simp), e1, Option.bind_some, e2, Option.bind_some, e3, Option.bind_some]) ?_
    refine Ev.bind (short_ev [a, b] (by simp)) ?_
    refine Ev.congr (f := fun _ => some true) (fun k => ?_) (Ev.now _)
    rw [hok, if_neg (by simp), if_pos nil_toList', if_pos nil_toList', if_pos nil_toList', if_pos rfl, if_pos rfl, if_pos rfl, awake_true]
    rfl
end Go.Proofs.Ytgeijcfacaiplaa.Pure
