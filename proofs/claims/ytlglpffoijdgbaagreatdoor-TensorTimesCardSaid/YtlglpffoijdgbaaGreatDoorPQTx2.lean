-- by wip/tool/mine.py of this repo (the kit's printer with given contracts)
import Derived.Test.YtlglpffoijdgbaaGreatDoorPQTx0
import Derived.Test.YtlglpffoijdgbaaGreatDoorPQTx1
namespace Go.Proofs.YtlglpffoijdgbaaGreatDoor.PQT
set_option maxHeartbeats 8000000
set_option maxRecDepth 100000
open Go.RowKit Go.Proofs.YtlglpffoijdgbaaGreatDoorW.PrintWords Go.Proofs.YtlglpffoijdgbaaGreatDoorW.PrintLast Go.Proofs.YtlglpffoijdgbaaGreatDoorW.PrintMore
attribute [local go_sem] max2_int min2_int max_two min_two max_three min_three max_four min_four   -- for this text's walks alone
set_option linter.unusedVariables false
set_option linter.unusedSimpArgs false

/-! ### tapewrightlaw05_TensorTimes: function 4 -/
mutual
noncomputable def tapewrightlaw05_TensorTimes.j0 : Nat → Bool → List Int → List ByteArray → List Int → List ByteArray → List Int → List ByteArray → Option (Bool)
 | 0, _, _, _, _, _, _, _ => none
 | k + 1, x29, x124000, x124001, x125000, x125001, x126000, x126001 => if x29 = true then ((tapewrightlaw05_awake.f).bind fun t129 => (some t129)) else ((tensor_Zip.f (⟨#[97, 100, 100]⟩ : ByteArray) x125000 x125001 x126000 x126001).bind fun bt130 => ((tensor_Zip.f (⟨#[109, 117, 108]⟩ : ByteArray) x124000 x124001 bt130.1 bt130.2.1).bind fun bt138 => (if bt130.2.2 = 0 then (tapewrightlaw05_TensorTimes.j1 k (bt138.2.2 != 0) x124000 x124001 x125000 x125001 x126000 x126001 bt138.1 bt138.2.1) else (tapewrightlaw05_TensorTimes.j1 k true x124000 x124001 x125000 x125001 x126000 x126001 bt138.1 bt138.2.1))))
noncomputable def tapewrightlaw05_TensorTimes.j1 : Nat → Bool → List Int → List ByteArray → List Int → List ByteArray → List Int → List ByteArray → List Int → List ByteArray → Option (Bool)
 | 0, _, _, _, _, _, _, _, _, _ => none
 | k + 1, x48, x124000, x124001, x125000, x125001, x126000, x126001, x146000, x146001 => if x48 = true then (if (x146001.length : Int) = 0 then ((tapewrightlaw05_awake.f).bind fun t146 => (some t146)) else (some false)) else ((tensor_Zip.f (⟨#[109, 117, 108]⟩ : ByteArray) x124000 x124001 x125000 x125001).bind fun bt147 => ((tensor_Zip.f (⟨#[109, 117, 108]⟩ : ByteArray) x126000 x126001 x124000 x124001).bind fun bt155 => ((tensor_Zip.f (⟨#[97, 100, 100]⟩ : ByteArray) bt147.1 bt147.2.1 bt155.1 bt155.2.1).bind fun bt163 => ((tapewrightref05_Equal.f x146000 x146001 bt163.1 bt163.2.1).bind fun t171 => (if t171 = true then (if bt163.2.2 = 0 then ((tapewrightlaw05_awake.f).bind fun t172 => (some t172)) else (some false)) else (some false))))))
end
noncomputable def tapewrightlaw05_TensorTimes.f (k : Nat) (l0_0 : List Int) (l0_1 : List ByteArray) (l1_0 : List Int) (l1_1 : List ByteArray) (l2_0 : List Int) (l2_1 : List ByteArray) : Option (Bool) := (tapewrightref05_Small.f l0_0 l0_1).bind fun t126 => (if t126 = true then ((tapewrightref05_Small.f l1_0 l1_1).bind fun t127 => (if t127 = true then ((tapewrightref05_Small.f l2_0 l2_1).bind fun t128 => (tapewrightlaw05_TensorTimes.j0 k (!t128) l0_0 l0_1 l1_0 l1_1 l2_0 l2_1)) else (tapewrightlaw05_TensorTimes.j0 k true l0_0 l0_1 l1_0 l1_1 l2_0 l2_1))) else (tapewrightlaw05_TensorTimes.j0 k true l0_0 l0_1 l1_0 l1_1 l2_0 l2_1))
theorem tapewrightlaw05_TensorTimes.calls (k : Nat) (A0_0 : Option Addr) (c0_0 : Nat) (l0_0 : List Int) (A0_1 : Option Addr) (c0_1 : Nat) (l0_1 : List ByteArray) (A1_0 : Option Addr) (c1_0 : Nat) (l1_0 : List Int) (A1_1 : Option Addr) (c1_1 : Nat) (l1_1 : List ByteArray) (A2_0 : Option Addr) (c2_0 : Nat) (l2_0 : List Int) (A2_1 : Option Addr) (c2_1 : Nat) (l2_1 : List ByteArray) (r : Bool) (w : World) (hG : Err.Gs w) (hrt : r = true) (hr0_0 : Kd.C (Kd.int .i64) w A0_0 l0_0.length l0_0) (hc0_0 : l0_0.length ≤ c0_0) (hr0_1 : Kd.C Kd.string w A0_1 l0_1.length l0_1) (hc0_1 : l0_1.length ≤ c0_1) (hr1_0 : Kd.C (Kd.int .i64) w A1_0 l1_0.length l1_0) (hc1_0 : l1_0.length ≤ c1_0) (hr1_1 : Kd.C Kd.string w A1_1 l1_1.length l1_1) (hc1_1 : l1_1.length ≤ c1_1) (hr2_0 : Kd.C (Kd.int .i64) w A2_0 l2_0.length l2_0) (hc2_0 : l2_0.length ≤ c2_0) (hr2_1 : Kd.C Kd.string w A2_1 l2_1.length l2_1) (hc2_1 : l2_1.length ≤ c2_1) (h : tapewrightlaw05_TensorTimes.f k l0_0 l0_1 l1_0 l1_1 l2_0 l2_1 = some r) :
  Calls Tryz.prog 4 #[.agg #[.slice A0_0 l0_0.length c0_0, .slice A0_1 l0_1.length c0_1], .agg #[.slice A1_0 l1_0.length c1_0, .slice A1_1 l1_1.length c1_1], .agg #[.slice A2_0 l2_0.length c2_0, .slice A2_1 l2_1.length c2_1]] w fun e w' => e = .returned (.bool r) ∧ Below w.heap.size w w' := by
 have hu25 := Tryz.underlying25
 have HR0_0 := Aside0.mk hr0_0
 have HC0_0 := Aside0.mk hc0_0
 clear hr0_0 hc0_0
 have HR0_1 := Aside0.mk hr0_1
 have HC0_1 := Aside0.mk hc0_1
 clear hr0_1 hc0_1
 have HR1_0 := Aside0.mk hr1_0
 have HC1_0 := Aside0.mk hc1_0
 clear hr1_0 hc1_0
 have HR1_1 := Aside0.mk hr1_1
 have HC1_1 := Aside0.mk hc1_1
 clear hr1_1 hc1_1
 have HR2_0 := Aside0.mk hr2_0
 have HC2_0 := Aside0.mk hc2_0
 clear hr2_0 hc2_0
 have HR2_1 := Aside0.mk hr2_1
 have HC2_1 := Aside0.mk hc2_1
 clear hr2_1 hc2_1
 have HB := Aside0.mk (Below.refl w.heap.size w)
 have HGs := Aside0.mk hG
 clear hG
 have HRT := Aside0.mk hrt
 clear hrt
 unfold tapewrightlaw05_TensorTimes.f at h
 have H := h
 clear h
 have HC4 := Aside0.mk H
 clear H
 go_enter Tryz.func4, Tryz.ntmps4
 go_upto_region 1 with (first | ((with_reducible refine gate_dst (N := 3) rfl ?_); refine box_event ?hg (N := 3) ?hd (cs := #[.slice A0_0 l0_0.length c0_0, .slice A0_1 l0_1.length c0_1]) (t := 25) ?hr ?_; (case hd => rfl); (case hg => rfl); (case hr => exact T3_); intro gb123 hg w5 hbox hb; have BK123 := Aside0.mk (hbox); have GW123 := GE_ hg; have GE123 := GE_ hg; replace HB := Aside0.mk (below_step T1_ hb); clear hb hbox hg) | ((with_reducible refine gate_dst (N := 4) rfl ?_); refine box_event ?hg (N := 4) ?hd (cs := #[.slice A1_0 l1_0.length c1_0, .slice A1_1 l1_1.length c1_1]) (t := 25) ?hr ?_; (case hd => rfl); (case hg => rfl); (case hr => exact T3_); intro gb124 hg w6 hbox hb; have BK124 := Aside0.mk (hbox); have GW124 := GE_ hg; have GE124 := GE_ hg; replace HB := Aside0.mk (below_step T9_ hb); have NB123_124 := NB_ BK123 hg; have NB124_123 := NC_ BK123 hg; replace BK123 := BF_ BK123 hb; clear hb hbox hg) | ((with_reducible refine gate_dst (N := 5) rfl ?_); refine box_event ?hg (N := 5) ?hd (cs := #[.slice A2_0 l2_0.length c2_0, .slice A2_1 l2_1.length c2_1]) (t := 25) ?hr ?_; (case hd => rfl); (case hg => rfl); (case hr => exact T3_); intro gb125 hg w7 hbox hb; have BK125 := Aside0.mk (hbox); have GW125 := GE_ hg; have GE125 := GE_ hg; replace HB := Aside0.mk (below_step T9_ hb); have NB123_125 := NB_ BK123 hg; have NB125_123 := NC_ BK123 hg; replace BK123 := BF_ BK123 hb; have NB124_125 := NB_ BK124 hg; have NB125_124 := NC_ BK124 hg; replace BK124 := BF_ BK124 hb; clear hb hbox hg))
 (try simp only [Act.put, List.setIfInBounds_toArray, List.set_cons_zero, List.set_cons_succ])
 go_cut [29] (fun v29 wc => ∃ (kq : Nat) (x29_3 : Bool), v29 = .bool x29_3 ∧ Aside0 (tapewrightlaw05_TensorTimes.j0 kq x29_3 l0_0 l0_1 l1_0 l1_1 l2_0 l2_1 = some r) ∧ Aside0 (kq ≤ k) ∧ Aside0 (wc.heap[gb123]? = some (.cells #[(.slice A0_0 l0_0.length c0_0), (.slice A0_1 l0_1.length c0_1)] 25 (0, 0))) ∧ Aside0 (wc.heap[gb124]? = some (.cells #[(.slice A1_0 l1_0.length c1_0), (.slice A1_1 l1_1.length c1_1)] 25 (0, 0))) ∧ Aside0 (wc.heap[gb125]? = some (.cells #[(.slice A2_0 l2_0.length c2_0), (.slice A2_1 l2_1.length c2_1)] 25 (0, 0))) ∧ Aside0 (Below w.heap.size w wc))
 case first =>
  have H := HC4.out
  clear HC4
  replace H := Option.bind_eq_some_iff.mp H
  obtain ⟨t126, A80, H⟩ := H
  have A8 := Aside0.mk A80
  clear A80
  by_cases c9 : t126 = true
  ·
   subst c9
   rw [if_pos rfl] at H
   replace H := Option.bind_eq_some_iff.mp H
   obtain ⟨t127, A100, H⟩ := H
   have A10 := Aside0.mk A100
   clear A100
   by_cases c11 : t127 = true
   ·
    subst c11
    rw [if_pos rfl] at H
    replace H := Option.bind_eq_some_iff.mp H
    obtain ⟨t128, A120, H⟩ := H
    have A12 := Aside0.mk A120
    clear A120
    have H' := Aside0.mk H
    clear H
    have hnb13 := NB123_124.out
    have hnc13 := NB124_123.out
    have hnb14 := NB123_125.out
    have hnc14 := NB125_123.out
    have hcz15_0 := CA_ BK123
    have hcz15_1 := CB_ BK123
    have hfz15_0 := blk_frozen BK123.out 0
    have hfz15_1 := blk_frozen BK123.out 1
    go_wp2_with (first | ((with_reducible refine gate_callee (f := 12) rfl ?_); refine goesL_ (some 18) rfl rfl Tryz.func12 (by kernel_rfl) rfl #[.agg #[.slice A0_0 l0_0.length c0_0, .slice A0_1 l0_1.length c0_1]] rfl T2_ ?_; (with_reducible refine (tapewrightref05_Small.calls _ _ l0_0 _ _ l0_1 true _ ?side1 ?side2 ?side3 ?side4 A8.out).mono ?_); (case side1 => exact C1_ (Kd.C_below HR0_0.out HB.out)); (case side2 => exact HC0_0.out); (case side3 => exact C1_ (Kd.C_below HR0_1.out HB.out)); (case side4 => exact HC0_1.out); rintro e w16 ⟨rfl, hb⟩; refine ⟨_, rfl, ?_⟩; replace BK123 := BF_ BK123 hb; replace BK124 := BF_ BK124 hb; replace BK125 := BF_ BK125 hb; replace HB := Aside0.mk (below_step T9_ hb); (try clear hb); (try clear hb2); (try clear hk); (try clear hi); have hnb17 := NB124_125.out; have hnc17 := NB125_124.out; have hcz18_0 : w16.cell? ⟨gb124, 0, none⟩ = some (.slice A1_0 l1_0.length c1_0) := (blk_cell BK124.out 0).trans rfl; have hcz18_1 : w16.cell? ⟨gb124, 1, none⟩ = some (.slice A1_1 l1_1.length c1_1) := (blk_cell BK124.out 1).trans rfl; have hfz18_0 := blk_frozen BK124.out 0; have hfz18_1 := blk_frozen BK124.out 1) | (go_at_call 12; (with_reducible refine (tapewrightref05_Small.calls _ _ l1_0 _ _ l1_1 true _ ?side1 ?side2 ?side3 ?side4 A10.out).mono ?_); (case side1 => exact C1_ (Kd.C_below HR1_0.out HB.out)); (case side2 => exact HC1_0.out); (case side3 => exact C1_ (Kd.C_below HR1_1.out HB.out)); (case side4 => exact HC1_1.out); rintro e w19 ⟨rfl, hb⟩; replace BK123 := BF_ BK123 hb; replace BK124 := BF_ BK124 hb; replace BK125 := BF_ BK125 hb; replace HB := Aside0.mk (below_step T9_ hb); (try clear hb); (try clear hb2); (try clear hk); (try clear hi); have hcz20_0 : w19.cell? ⟨gb125, 0, none⟩ = some (.slice A2_0 l2_0.length c2_0) := (blk_cell BK125.out 0).trans rfl; have hcz20_1 : w19.cell? ⟨gb125, 1, none⟩ = some (.slice A2_1 l2_1.length c2_1) := (blk_cell BK125.out 1).trans rfl; have hfz20_0 := blk_frozen BK125.out 0; have hfz20_1 := blk_frozen BK125.out 1) | (go_at_call 12; (with_reducible refine (tapewrightref05_Small.calls _ _ l2_0 _ _ l2_1 t128 _ ?side1 ?side2 ?side3 ?side4 A12.out).mono ?_); (case side1 => exact C1_ (Kd.C_below HR2_0.out HB.out)); (case side2 => exact HC2_0.out); (case side3 => exact C1_ (Kd.C_below HR2_1.out HB.out)); (case side4 => exact HC2_1.out); rintro e w21 ⟨rfl, hb⟩; replace BK123 := BF_ BK123 hb; replace BK124 := BF_ BK124 hb; replace BK125 := BF_ BK125 hb; replace HB := Aside0.mk (below_step T9_ hb); (try clear hb); (try clear hb2); (try clear hk); (try clear hi)))
    go_meet
    case rel => exact ⟨_, (!t128), (by first | rfl | (simp; done) | (simp [*]; done)), H', ⟨by first | omega | exact Nat.le_refl _⟩, ⟨by (with_reducible repeat (first | refine blk_drewN ?_ _ | refine blk_drew ?_ | refine blk_alloc ?_ _)); exact BK123.out⟩, ⟨by (with_reducible repeat (first | refine blk_drewN ?_ _ | refine blk_drew ?_ | refine blk_alloc ?_ _)); exact BK124.out⟩, ⟨by (with_reducible repeat (first | refine blk_drewN ?_ _ | refine blk_drew ?_ | refine blk_alloc ?_ _)); exact BK125.out⟩, ⟨by repeat (first | (with_reducible first | exact HB.out | apply below_alloc | apply pw_below_drewN | apply below_drew1 | refine below_set ?_ GE123.out | refine below_set ?_ GE124.out | refine below_set ?_ GE125.out) | exact HB.out)⟩⟩
   ·
    replace c11 := Bool.eq_false_iff.mpr c11
    subst c11
    rw [if_neg (show ¬ (false = true) by decide)] at H
    have H' := Aside0.mk H
    clear H
    have hnb22 := NB123_124.out
    have hnc22 := NB124_123.out
    have hnb23 := NB123_125.out
    have hnc23 := NB125_123.out
    have hcz24_0 := CA_ BK123
    have hcz24_1 := CB_ BK123
    have hfz24_0 := blk_frozen BK123.out 0
    have hfz24_1 := blk_frozen BK123.out 1
    go_wp2_with (first | ((with_reducible refine gate_callee (f := 12) rfl ?_); refine goesL_ (some 18) rfl rfl Tryz.func12 (by kernel_rfl) rfl #[.agg #[.slice A0_0 l0_0.length c0_0, .slice A0_1 l0_1.length c0_1]] rfl T2_ ?_; (with_reducible refine (tapewrightref05_Small.calls _ _ l0_0 _ _ l0_1 true _ ?side1 ?side2 ?side3 ?side4 A8.out).mono ?_); (case side1 => exact C1_ (Kd.C_below HR0_0.out HB.out)); (case side2 => exact HC0_0.out); (case side3 => exact C1_ (Kd.C_below HR0_1.out HB.out)); (case side4 => exact HC0_1.out); rintro e w25 ⟨rfl, hb⟩; refine ⟨_, rfl, ?_⟩; replace BK123 := BF_ BK123 hb; replace BK124 := BF_ BK124 hb; replace BK125 := BF_ BK125 hb; replace HB := Aside0.mk (below_step T9_ hb); (try clear hb); (try clear hb2); (try clear hk); (try clear hi); have hnb26 := NB124_125.out; have hnc26 := NB125_124.out; have hcz27_0 : w25.cell? ⟨gb124, 0, none⟩ = some (.slice A1_0 l1_0.length c1_0) := (blk_cell BK124.out 0).trans rfl; have hcz27_1 : w25.cell? ⟨gb124, 1, none⟩ = some (.slice A1_1 l1_1.length c1_1) := (blk_cell BK124.out 1).trans rfl; have hfz27_0 := blk_frozen BK124.out 0; have hfz27_1 := blk_frozen BK124.out 1) | (go_at_call 12; (with_reducible refine (tapewrightref05_Small.calls _ _ l1_0 _ _ l1_1 false _ ?side1 ?side2 ?side3 ?side4 A10.out).mono ?_); (case side1 => exact C1_ (Kd.C_below HR1_0.out HB.out)); (case side2 => exact HC1_0.out); (case side3 => exact C1_ (Kd.C_below HR1_1.out HB.out)); (case side4 => exact HC1_1.out); rintro e w28 ⟨rfl, hb⟩; replace BK123 := BF_ BK123 hb; replace BK124 := BF_ BK124 hb; replace BK125 := BF_ BK125 hb; replace HB := Aside0.mk (below_step T9_ hb); (try clear hb); (try clear hb2); (try clear hk); (try clear hi)))
    go_meet
    case rel => exact ⟨_, (true), (by first | rfl | (simp; done) | (simp [*]; done)), H', ⟨by first | omega | exact Nat.le_refl _⟩, ⟨by (with_reducible repeat (first | refine blk_drewN ?_ _ | refine blk_drew ?_ | refine blk_alloc ?_ _)); exact BK123.out⟩, ⟨by (with_reducible repeat (first | refine blk_drewN ?_ _ | refine blk_drew ?_ | refine blk_alloc ?_ _)); exact BK124.out⟩, ⟨by (with_reducible repeat (first | refine blk_drewN ?_ _ | refine blk_drew ?_ | refine blk_alloc ?_ _)); exact BK125.out⟩, ⟨by repeat (first | (with_reducible first | exact HB.out | apply below_alloc | apply pw_below_drewN | apply below_drew1 | refine below_set ?_ GE123.out | refine below_set ?_ GE124.out | refine below_set ?_ GE125.out) | exact HB.out)⟩⟩
  ·
   replace c9 := Bool.eq_false_iff.mpr c9
   subst c9
   rw [if_neg (show ¬ (false = true) by decide)] at H
   have H' := Aside0.mk H
   clear H
   have hnb29 := NB123_124.out
   have hnc29 := NB124_123.out
   have hnb30 := NB123_125.out
   have hnc30 := NB125_123.out
   have hcz31_0 := CA_ BK123
   have hcz31_1 := CB_ BK123
   have hfz31_0 := blk_frozen BK123.out 0
   have hfz31_1 := blk_frozen BK123.out 1
   go_wp2_with (first | ((with_reducible refine gate_callee (f := 12) rfl ?_); refine goesL_ (some 18) rfl rfl Tryz.func12 (by kernel_rfl) rfl #[.agg #[.slice A0_0 l0_0.length c0_0, .slice A0_1 l0_1.length c0_1]] rfl T2_ ?_; (with_reducible refine (tapewrightref05_Small.calls _ _ l0_0 _ _ l0_1 false _ ?side1 ?side2 ?side3 ?side4 A8.out).mono ?_); (case side1 => exact C1_ (Kd.C_below HR0_0.out HB.out)); (case side2 => exact HC0_0.out); (case side3 => exact C1_ (Kd.C_below HR0_1.out HB.out)); (case side4 => exact HC0_1.out); rintro e w32 ⟨rfl, hb⟩; refine ⟨_, rfl, ?_⟩; replace BK123 := BF_ BK123 hb; replace BK124 := BF_ BK124 hb; replace BK125 := BF_ BK125 hb; replace HB := Aside0.mk (below_step T9_ hb); (try clear hb); (try clear hb2); (try clear hk); (try clear hi)))
   go_meet
   case rel => exact ⟨_, (true), (by first | rfl | (simp; done) | (simp [*]; done)), H', ⟨by first | omega | exact Nat.le_refl _⟩, ⟨by (with_reducible repeat (first | refine blk_drewN ?_ _ | refine blk_drew ?_ | refine blk_alloc ?_ _)); exact BK123.out⟩, ⟨by (with_reducible repeat (first | refine blk_drewN ?_ _ | refine blk_drew ?_ | refine blk_alloc ?_ _)); exact BK124.out⟩, ⟨by (with_reducible repeat (first | refine blk_drewN ?_ _ | refine blk_drew ?_ | refine blk_alloc ?_ _)); exact BK125.out⟩, ⟨by repeat (first | (with_reducible first | exact HB.out | apply below_alloc | apply pw_below_drewN | apply below_drew1 | refine below_set ?_ GE123.out | refine below_set ?_ GE124.out | refine below_set ?_ GE125.out) | exact HB.out)⟩⟩
 case rest =>
  clear HC4
  try clear c1
  try clear c2
  try clear p2
  try clear c3
  try clear c4
  try clear c9
  try clear c11
  try clear c12
  try clear c13
  try clear c14
  try clear c17
  try clear c22
  try clear c23
  try clear c26
  try clear c29
  try clear c30
  try clear hcz15_0
  try clear hcz15_1
  try clear hcz18_0
  try clear hcz18_1
  try clear hcz20_0
  try clear hcz20_1
  try clear hcz24_0
  try clear hcz24_1
  try clear hcz27_0
  try clear hcz27_1
  try clear hcz31_0
  try clear hcz31_1
  try clear hfz15_0
  try clear hfz15_1
  try clear hfz18_0
  try clear hfz18_1
  try clear hfz20_0
  try clear hfz20_1
  try clear hfz24_0
  try clear hfz24_1
  try clear hfz27_0
  try clear hfz27_1
  try clear hfz31_0
  try clear hfz31_1
  obtain ⟨kq, x29_3, rfl, HA, HJ3, BK123, BK124, BK125, HB⟩ := hcut
  cases kq with
  | zero => exact absurd HA.out (by simp [tapewrightlaw05_TensorTimes.j0])
  | succ kj3 =>
   have H := HA.out
   clear HA
   simp only [tapewrightlaw05_TensorTimes.j0] at H
   by_cases c33 : x29_3 = true
   ·
    subst c33
    rw [if_pos rfl] at H
    replace H := Option.bind_eq_some_iff.mp H
    obtain ⟨t129, A340, H⟩ := H
    have A34 := Aside0.mk A340
    clear A340
    obtain rfl := Option.some.inj H
    go_wp2_with (first | ((with_reducible refine gate_callee (f := 13) rfl ?_); refine goesL_ (some 30) rfl rfl Tryz.func13 (by kernel_rfl) rfl #[] rfl T2_ ?_; (with_reducible refine (tapewrightlaw05_awake.calls  t129 _ (Err.Gs.below HGs.out T9_) A34.out).mono ?_); rintro e w35 ⟨rfl, hb⟩; refine ⟨_, rfl, ?_⟩; replace BK123 := BF_ BK123 hb; replace BK124 := BF_ BK124 hb; replace BK125 := BF_ BK125 hb; replace HB := Aside0.mk (below_step T9_ hb); (try clear hb); (try clear hb2); (try clear hk); (try clear hi)))
    go_ret
    exact ⟨T4_, T9_⟩
   ·
    replace c33 := Bool.eq_false_iff.mpr c33
    subst c33
    rw [if_neg (show ¬ (false = true) by decide)] at H
    replace H := Option.bind_eq_some_iff.mp H
    obtain ⟨⟨t130, t133, t136⟩, A360, H⟩ := H
    have A36 := Aside0.mk A360
    clear A360
    replace H := Option.bind_eq_some_iff.mp H
    obtain ⟨⟨t138, t141, t144⟩, A370, H⟩ := H
    have A37 := Aside0.mk A370
    clear A370
    have HC38 := Aside0.mk H
    clear H
    have hnb39 := NB124_123.out
    have hnc39 := NB123_124.out
    have hnb40 := NB124_125.out
    have hnc40 := NB125_124.out
    have hcz41_0 : wc.cell? ⟨gb124, 0, none⟩ = some (.slice A1_0 l1_0.length c1_0) := (blk_cell BK124.out 0).trans rfl
    have hcz41_1 : wc.cell? ⟨gb124, 1, none⟩ = some (.slice A1_1 l1_1.length c1_1) := (blk_cell BK124.out 1).trans rfl
    have hfz41_0 := blk_frozen BK124.out 0
    have hfz41_1 := blk_frozen BK124.out 1
    have hnb42 := NB125_123.out
    have hnc42 := NB123_125.out
    have hcz43_0 : wc.cell? ⟨gb125, 0, none⟩ = some (.slice A2_0 l2_0.length c2_0) := (blk_cell BK125.out 0).trans rfl
    have hcz43_1 : wc.cell? ⟨gb125, 1, none⟩ = some (.slice A2_1 l2_1.length c2_1) := (blk_cell BK125.out 1).trans rfl
    have hfz43_0 := blk_frozen BK125.out 0
    have hfz43_1 := blk_frozen BK125.out 1
    go_upto_region 5 with (first | ((with_reducible refine gate_callee (f := 14) rfl ?_); refine goesL_ (some 34) rfl rfl Tryz.func14 (by kernel_rfl) rfl #[.string (⟨#[97, 100, 100]⟩ : ByteArray), .agg #[.slice A1_0 l1_0.length c1_0, .slice A1_1 l1_1.length c1_1], .agg #[.slice A2_0 l2_0.length c2_0, .slice A2_1 l2_1.length c2_1]] rfl T2_ ?_; (with_reducible refine (tensor_Zip.calls (⟨#[97, 100, 100]⟩ : ByteArray) _ _ l1_0 _ _ l1_1 _ _ l2_0 _ _ l2_1 t130 t133 t136 _ (Err.Gs.below HGs.out T9_) ?side1 ?side2 ?side3 ?side4 ?side5 ?side6 ?side7 ?side8 A36.out).mono ?_); (case side1 => exact C1_ (Kd.C_below HR1_0.out HB.out)); (case side2 => exact HC1_0.out); (case side3 => exact C1_ (Kd.C_below HR1_1.out HB.out)); (case side4 => exact HC1_1.out); (case side5 => exact C1_ (Kd.C_below HR2_0.out HB.out)); (case side6 => exact HC2_0.out); (case side7 => exact C1_ (Kd.C_below HR2_1.out HB.out)); (case side8 => exact HC2_1.out); rintro e w44 ⟨v131, v134, rfl, ho0, ho1, hb⟩; refine ⟨_, rfl, ?_⟩; have HO132 := Aside0.mk (Kd.R_lower ho0 (below_size T9_)); have HO135 := Aside0.mk (Kd.R_lower ho1 (below_size T9_)); replace BK123 := BF_ BK123 hb; replace BK124 := BF_ BK124 hb; replace BK125 := BF_ BK125 hb; replace HB := Aside0.mk (below_step T9_ hb); (try clear hb); (try clear hb2); (try clear hk); (try clear hi); (try clear ho0); (try clear ho1)) | ((with_reducible refine gate_dst (N := 7) rfl ?_); refine box_event ?hg (N := 7) ?hd (cs := #[.slice none 0 0, .slice none 0 0]) (t := 25) ?hr ?_; (case hd => rfl); (case hg => rfl); (case hr => exact T3_); intro gb137 hg w45 hbox hb; replace HO132 := RC_ HO132 hb; replace HO135 := RC_ HO135 hb; have BK137 := Aside0.mk (hbox); have GW137 := GE_ hg; have GE137 := GE_ hg; replace HB := Aside0.mk (below_step T9_ hb); have NB123_137 := NB_ BK123 hg; have NB137_123 := NC_ BK123 hg; replace BK123 := BF_ BK123 hb; have NB124_137 := NB_ BK124 hg; have NB137_124 := NC_ BK124 hg; replace BK124 := BF_ BK124 hb; have NB125_137 := NB_ BK125 hg; have NB137_125 := NC_ BK125 hg; replace BK125 := BF_ BK125 hb; clear hb hbox hg; obtain ⟨Ao46, co46, eo46⟩ := Kd.R_slice HO132.out; subst eo46; have hnb47 := NB137_123.out; have hnc47 := NB123_137.out; have hnb48 := NB137_124.out; have hnc48 := NB124_137.out; have hnb49 := NB137_125.out; have hnc49 := NB125_137.out; have hcz50_0 := CA_ BK137; have hcz50_1 := CB_ BK137; have hfz50_0 := blk_frozen BK137.out 0; have hfz50_1 := blk_frozen BK137.out 1; obtain ⟨Ao51, co51, eo51⟩ := Kd.R_slice HO135.out; subst eo51; have hcz52_0 := CA_ BK123; have hcz52_1 := CB_ BK123; have hfz52_0 := blk_frozen BK123.out 0; have hfz52_1 := blk_frozen BK123.out 1) | ((with_reducible refine gate_callee (f := 14) rfl ?_); refine goesL_ (some 40) rfl rfl Tryz.func14 (by kernel_rfl) rfl #[.string (⟨#[109, 117, 108]⟩ : ByteArray), .agg #[.slice A0_0 l0_0.length c0_0, .slice A0_1 l0_1.length c0_1], .agg #[.slice Ao46 t130.length co46, .slice Ao51 t133.length co51]] rfl T2_ ?_; (with_reducible refine (tensor_Zip.calls (⟨#[109, 117, 108]⟩ : ByteArray) _ _ l0_0 _ _ l0_1 _ _ t130 _ _ t133 t138 t141 t144 _ (Err.Gs.below HGs.out T9_) ?side1 ?side2 ?side3 ?side4 ?side5 ?side6 ?side7 ?side8 A37.out).mono ?_); (case side1 => exact Kd.C_below HR0_0.out T9_); (case side2 => exact HC0_0.out); (case side3 => exact Kd.C_below HR0_1.out T9_); (case side4 => exact HC0_1.out); (case side5 => exact C2_ HO132); (case side6 => exact (Kd.R_reads' HO132.out).2.1); (case side7 => exact C2_ HO135); (case side8 => exact (Kd.R_reads' HO135.out).2.1); rintro e w53 ⟨v139, v142, rfl, ho0, ho1, hb⟩; refine ⟨_, rfl, ?_⟩; have HO140 := Aside0.mk (Kd.R_lower ho0 (below_size T9_)); replace HO132 := RC_ HO132 hb; have HO143 := Aside0.mk (Kd.R_lower ho1 (below_size T9_)); replace HO135 := RC_ HO135 hb; replace BK123 := BG_ BK123 hb; replace BK124 := BG_ BK124 hb; replace BK125 := BG_ BK125 hb; replace BK137 := BP_ BK137 hb; replace HB := Aside0.mk (below_step T9_ hb); (try clear hb); (try clear hb2); (try clear hk); (try clear hi); (try clear ho0); (try clear ho1)) | ((with_reducible refine gate_dst (N := 9) rfl ?_); refine box_event ?hg (N := 9) ?hd (cs := #[.slice none 0 0, .slice none 0 0]) (t := 25) ?hr ?_; (case hd => rfl); (case hg => rfl); (case hr => exact T3_); intro gb145 hg w54 hbox hb; replace HO132 := RC_ HO132 hb; replace HO135 := RC_ HO135 hb; replace HO140 := RC_ HO140 hb; replace HO143 := RC_ HO143 hb; have BK145 := Aside0.mk (hbox); have GW145 := GE_ hg; have GE145 := GE_ hg; replace HB := Aside0.mk (below_step T9_ hb); have NB123_145 := NB_ BK123 hg; have NB145_123 := NC_ BK123 hg; replace BK123 := BF_ BK123 hb; have NB124_145 := NB_ BK124 hg; have NB145_124 := NC_ BK124 hg; replace BK124 := BF_ BK124 hb; have NB125_145 := NB_ BK125 hg; have NB145_125 := NC_ BK125 hg; replace BK125 := BF_ BK125 hb; have NB137_145 := NB_ BK137 hg; have NB145_137 := NC_ BK137 hg; replace BK137 := BF_ BK137 hb; clear hb hbox hg; obtain ⟨Ao55, co55, eo55⟩ := Kd.R_slice HO140.out; subst eo55; have hnb56 := NB145_123.out; have hnc56 := NB123_145.out; have hnb57 := NB145_124.out; have hnc57 := NB124_145.out; have hnb58 := NB145_125.out; have hnc58 := NB125_145.out; have hnb59 := NB145_137.out; have hnc59 := NB137_145.out; have hcz60_0 : w54.cell? ⟨gb145, 0, none⟩ = some (.slice none 0 0) := (blk_cell BK145.out 0).trans rfl; have hcz60_1 : w54.cell? ⟨gb145, 1, none⟩ = some (.slice none 0 0) := (blk_cell BK145.out 1).trans rfl; have hfz60_0 := blk_frozen BK145.out 0; have hfz60_1 := blk_frozen BK145.out 1; obtain ⟨Ao61, co61, eo61⟩ := Kd.R_slice HO143.out; subst eo61))
    (try simp only [Act.put, List.setIfInBounds_toArray, List.set_cons_zero, List.set_cons_succ])
    go_cut [48] (fun v48 wc => ∃ (kq : Nat) (x48_37 : Bool), v48 = .bool x48_37 ∧ Aside0 (tapewrightlaw05_TensorTimes.j1 kq x48_37 l0_0 l0_1 l1_0 l1_1 l2_0 l2_1 t138 t141 = some r) ∧ Aside0 (kq ≤ kj3) ∧ Aside0 (Kd.R (Kd.int .i64) 3 wc w.heap.size (fun _ => True) (.slice Ao46 t130.length co46) t130) ∧ Aside0 (Kd.R Kd.string 9 wc w.heap.size (fun _ => True) (.slice Ao51 t133.length co51) t133) ∧ Aside0 (Kd.R (Kd.int .i64) 3 wc w.heap.size (fun _ => True) (.slice Ao55 t138.length co55) t138) ∧ Aside0 (Kd.R Kd.string 9 wc w.heap.size (fun _ => True) (.slice Ao61 t141.length co61) t141) ∧ Aside0 (wc.heap[gb123]? = some (.cells #[(.slice A0_0 l0_0.length c0_0), (.slice A0_1 l0_1.length c0_1)] 25 (0, 0))) ∧ Aside0 (wc.heap[gb124]? = some (.cells #[(.slice A1_0 l1_0.length c1_0), (.slice A1_1 l1_1.length c1_1)] 25 (0, 0))) ∧ Aside0 (wc.heap[gb125]? = some (.cells #[(.slice A2_0 l2_0.length c2_0), (.slice A2_1 l2_1.length c2_1)] 25 (0, 0))) ∧ Aside0 (wc.heap[gb137]? = some (.cells #[(.slice Ao46 t130.length co46), (.slice Ao51 t133.length co51)] 25 (0, 0))) ∧ Aside0 (wc.heap[gb145]? = some (.cells #[(.slice Ao55 t138.length co55), (.slice Ao61 t141.length co61)] 25 (0, 0))) ∧ Aside0 (Below w.heap.size w wc))
    case first =>
     have H := HC38.out
     clear HC38
     by_cases c62 : t136 = 0
     ·
      rw [if_pos c62] at H
      have c62b0 : (t136 == 0) = true := beq_iff_eq.mpr c62
      have c62b1 : (t136 != 0) = false := bne_eq_false_iff_eq.mpr c62
      clear c62
      (first | rw [c62b0] | (simp only [i64_w, i32_w]; rw [c62b0]) | skip)
      have H' := Aside0.mk H
      clear H
      go_wp2
      go_meet
      case rel => exact ⟨_, ((t144 != 0)), (by first | rfl | (simp; done) | (simp [*]; done)), H', ⟨by have := HJ3.out; first | omega | exact Nat.le_refl _⟩, ⟨by (with_reducible repeat (first | apply Kd.R_alloc | apply Kd.R_drewN | apply Kd.R_drew)); exact Kd.R_mono (Kd.R_far (p := ⟨gb145, 1, none⟩) (Kd.R_far (p := ⟨gb145, 0, none⟩) (Kd.R_types HO132.out BK145.out (by decide)) (fun _ hk => hk.2) (.slice Ao55 t138.length co55)) (fun _ hk => hk.2) (.slice Ao61 t141.length co61)) (fun _ hk => trivial)⟩, ⟨by (with_reducible repeat (first | apply Kd.R_alloc | apply Kd.R_drewN | apply Kd.R_drew)); exact Kd.R_mono (Kd.R_far (p := ⟨gb145, 1, none⟩) (Kd.R_far (p := ⟨gb145, 0, none⟩) (Kd.R_types HO135.out BK145.out (by decide)) (fun _ hk => hk.2) (.slice Ao55 t138.length co55)) (fun _ hk => hk.2) (.slice Ao61 t141.length co61)) (fun _ hk => trivial)⟩, ⟨by (with_reducible repeat (first | apply Kd.R_alloc | apply Kd.R_drewN | apply Kd.R_drew)); exact Kd.R_mono (Kd.R_far (p := ⟨gb145, 1, none⟩) (Kd.R_far (p := ⟨gb145, 0, none⟩) (Kd.R_types HO140.out BK145.out (by decide)) (fun _ hk => hk.2) (.slice Ao55 t138.length co55)) (fun _ hk => hk.2) (.slice Ao61 t141.length co61)) (fun _ hk => trivial)⟩, ⟨by (with_reducible repeat (first | apply Kd.R_alloc | apply Kd.R_drewN | apply Kd.R_drew)); exact Kd.R_mono (Kd.R_far (p := ⟨gb145, 1, none⟩) (Kd.R_far (p := ⟨gb145, 0, none⟩) (Kd.R_types HO143.out BK145.out (by decide)) (fun _ hk => hk.2) (.slice Ao55 t138.length co55)) (fun _ hk => hk.2) (.slice Ao61 t141.length co61)) (fun _ hk => trivial)⟩, ⟨by (with_reducible repeat (first | refine blk_drewN ?_ _ | refine blk_drew ?_ | refine blk_alloc ?_ _)); refine blk_far ?_ NB123_145.out _; (with_reducible repeat (first | refine blk_drewN ?_ _ | refine blk_drew ?_ | refine blk_alloc ?_ _)); refine blk_far ?_ NB123_145.out _; (with_reducible repeat (first | refine blk_drewN ?_ _ | refine blk_drew ?_ | refine blk_alloc ?_ _)); exact BK123.out⟩, ⟨by (with_reducible repeat (first | refine blk_drewN ?_ _ | refine blk_drew ?_ | refine blk_alloc ?_ _)); refine blk_far ?_ NB124_145.out _; (with_reducible repeat (first | refine blk_drewN ?_ _ | refine blk_drew ?_ | refine blk_alloc ?_ _)); refine blk_far ?_ NB124_145.out _; (with_reducible repeat (first | refine blk_drewN ?_ _ | refine blk_drew ?_ | refine blk_alloc ?_ _)); exact BK124.out⟩, ⟨by (with_reducible repeat (first | refine blk_drewN ?_ _ | refine blk_drew ?_ | refine blk_alloc ?_ _)); refine blk_far ?_ NB125_145.out _; (with_reducible repeat (first | refine blk_drewN ?_ _ | refine blk_drew ?_ | refine blk_alloc ?_ _)); refine blk_far ?_ NB125_145.out _; (with_reducible repeat (first | refine blk_drewN ?_ _ | refine blk_drew ?_ | refine blk_alloc ?_ _)); exact BK125.out⟩, ⟨by (with_reducible repeat (first | refine blk_drewN ?_ _ | refine blk_drew ?_ | refine blk_alloc ?_ _)); refine blk_far ?_ NB137_145.out _; (with_reducible repeat (first | refine blk_drewN ?_ _ | refine blk_drew ?_ | refine blk_alloc ?_ _)); refine blk_far ?_ NB137_145.out _; (with_reducible repeat (first | refine blk_drewN ?_ _ | refine blk_drew ?_ | refine blk_alloc ?_ _)); exact BK137.out⟩, ⟨by (with_reducible repeat (first | refine blk_drewN ?_ _ | refine blk_drew ?_ | refine blk_alloc ?_ _)); refine blk_put (cs := #[.slice Ao55 t138.length co55, .slice none 0 0]) ?_ 1 _ rfl; (with_reducible repeat (first | refine blk_drewN ?_ _ | refine blk_drew ?_ | refine blk_alloc ?_ _)); refine blk_put (cs := #[.slice none 0 0, .slice none 0 0]) ?_ 0 _ rfl; (with_reducible repeat (first | refine blk_drewN ?_ _ | refine blk_drew ?_ | refine blk_alloc ?_ _)); exact BK145.out⟩, ⟨by repeat (first | (with_reducible first | exact HB.out | apply below_alloc | apply pw_below_drewN | apply below_drew1 | refine below_set ?_ GE123.out | refine below_set ?_ GE124.out | refine below_set ?_ GE125.out | refine below_set ?_ GE137.out | refine below_set ?_ GE145.out) | exact HB.out)⟩⟩
     ·
      rw [if_neg c62] at H
      have c62b0 : (t136 == 0) = false := beq_eq_false_iff_ne.mpr c62
      have c62b1 : (t136 != 0) = true := bne_iff_ne.mpr c62
      (first | rw [c62b0] | (simp only [i64_w, i32_w]; rw [c62b0]) | skip)
      have H' := Aside0.mk H
      clear H
      go_wp2
      go_meet
      case rel => exact ⟨_, (true), (by first | rfl | (simp; done) | (simp [*]; done)), H', ⟨by have := HJ3.out; first | omega | exact Nat.le_refl _⟩, ⟨by (with_reducible repeat (first | apply Kd.R_alloc | apply Kd.R_drewN | apply Kd.R_drew)); exact Kd.R_mono (Kd.R_far (p := ⟨gb145, 1, none⟩) (Kd.R_far (p := ⟨gb145, 0, none⟩) (Kd.R_types HO132.out BK145.out (by decide)) (fun _ hk => hk.2) (.slice Ao55 t138.length co55)) (fun _ hk => hk.2) (.slice Ao61 t141.length co61)) (fun _ hk => trivial)⟩, ⟨by (with_reducible repeat (first | apply Kd.R_alloc | apply Kd.R_drewN | apply Kd.R_drew)); exact Kd.R_mono (Kd.R_far (p := ⟨gb145, 1, none⟩) (Kd.R_far (p := ⟨gb145, 0, none⟩) (Kd.R_types HO135.out BK145.out (by decide)) (fun _ hk => hk.2) (.slice Ao55 t138.length co55)) (fun _ hk => hk.2) (.slice Ao61 t141.length co61)) (fun _ hk => trivial)⟩, ⟨by (with_reducible repeat (first | apply Kd.R_alloc | apply Kd.R_drewN | apply Kd.R_drew)); exact Kd.R_mono (Kd.R_far (p := ⟨gb145, 1, none⟩) (Kd.R_far (p := ⟨gb145, 0, none⟩) (Kd.R_types HO140.out BK145.out (by decide)) (fun _ hk => hk.2) (.slice Ao55 t138.length co55)) (fun _ hk => hk.2) (.slice Ao61 t141.length co61)) (fun _ hk => trivial)⟩, ⟨by (with_reducible repeat (first | apply Kd.R_alloc | apply Kd.R_drewN | apply Kd.R_drew)); exact Kd.R_mono (Kd.R_far (p := ⟨gb145, 1, none⟩) (Kd.R_far (p := ⟨gb145, 0, none⟩) (Kd.R_types HO143.out BK145.out (by decide)) (fun _ hk => hk.2) (.slice Ao55 t138.length co55)) (fun _ hk => hk.2) (.slice Ao61 t141.length co61)) (fun _ hk => trivial)⟩, ⟨by (with_reducible repeat (first | refine blk_drewN ?_ _ | refine blk_drew ?_ | refine blk_alloc ?_ _)); refine blk_far ?_ NB123_145.out _; (with_reducible repeat (first | refine blk_drewN ?_ _ | refine blk_drew ?_ | refine blk_alloc ?_ _)); refine blk_far ?_ NB123_145.out _; (with_reducible repeat (first | refine blk_drewN ?_ _ | refine blk_drew ?_ | refine blk_alloc ?_ _)); exact BK123.out⟩, ⟨by (with_reducible repeat (first | refine blk_drewN ?_ _ | refine blk_drew ?_ | refine blk_alloc ?_ _)); refine blk_far ?_ NB124_145.out _; (with_reducible repeat (first | refine blk_drewN ?_ _ | refine blk_drew ?_ | refine blk_alloc ?_ _)); refine blk_far ?_ NB124_145.out _; (with_reducible repeat (first | refine blk_drewN ?_ _ | refine blk_drew ?_ | refine blk_alloc ?_ _)); exact BK124.out⟩, ⟨by (with_reducible repeat (first | refine blk_drewN ?_ _ | refine blk_drew ?_ | refine blk_alloc ?_ _)); refine blk_far ?_ NB125_145.out _; (with_reducible repeat (first | refine blk_drewN ?_ _ | refine blk_drew ?_ | refine blk_alloc ?_ _)); refine blk_far ?_ NB125_145.out _; (with_reducible repeat (first | refine blk_drewN ?_ _ | refine blk_drew ?_ | refine blk_alloc ?_ _)); exact BK125.out⟩, ⟨by (with_reducible repeat (first | refine blk_drewN ?_ _ | refine blk_drew ?_ | refine blk_alloc ?_ _)); refine blk_far ?_ NB137_145.out _; (with_reducible repeat (first | refine blk_drewN ?_ _ | refine blk_drew ?_ | refine blk_alloc ?_ _)); refine blk_far ?_ NB137_145.out _; (with_reducible repeat (first | refine blk_drewN ?_ _ | refine blk_drew ?_ | refine blk_alloc ?_ _)); exact BK137.out⟩, ⟨by (with_reducible repeat (first | refine blk_drewN ?_ _ | refine blk_drew ?_ | refine blk_alloc ?_ _)); refine blk_put (cs := #[.slice Ao55 t138.length co55, .slice none 0 0]) ?_ 1 _ rfl; (with_reducible repeat (first | refine blk_drewN ?_ _ | refine blk_drew ?_ | refine blk_alloc ?_ _)); refine blk_put (cs := #[.slice none 0 0, .slice none 0 0]) ?_ 0 _ rfl; (with_reducible repeat (first | refine blk_drewN ?_ _ | refine blk_drew ?_ | refine blk_alloc ?_ _)); exact BK145.out⟩, ⟨by repeat (first | (with_reducible first | exact HB.out | apply below_alloc | apply pw_below_drewN | apply below_drew1 | refine below_set ?_ GE123.out | refine below_set ?_ GE124.out | refine below_set ?_ GE125.out | refine below_set ?_ GE137.out | refine below_set ?_ GE145.out) | exact HB.out)⟩⟩
    case rest =>
     clear HC38
     try clear c1
     try clear c2
     try clear p2
     try clear c3
     try clear c4
     try clear c5
     try clear c6
     try clear c9
     try clear c11
     try clear c12
     try clear c13
     try clear c14
     try clear c17
     try clear c22
     try clear c23
     try clear c26
     try clear c29
     try clear c30
     try clear c33
     try clear c39
     try clear c40
     try clear c42
     try clear c47
     try clear c48
     try clear c49
     try clear c56
     try clear c57
     try clear c58
     try clear c59
     try clear c62
     try clear c62b0
     try clear c62b1
     try clear hcz15_0
     try clear hcz15_1
     try clear hcz18_0
     try clear hcz18_1
     try clear hcz20_0
     try clear hcz20_1
     try clear hcz24_0
     try clear hcz24_1
     try clear hcz27_0
     try clear hcz27_1
     try clear hcz31_0
     try clear hcz31_1
     try clear hcz41_0
     try clear hcz41_1
     try clear hcz43_0
     try clear hcz43_1
     try clear hcz50_0
     try clear hcz50_1
     try clear hcz52_0
     try clear hcz52_1
     try clear hcz60_0
     try clear hcz60_1
     try clear hfz15_0
     try clear hfz15_1
     try clear hfz18_0
     try clear hfz18_1
     try clear hfz20_0
     try clear hfz20_1
     try clear hfz24_0
     try clear hfz24_1
     try clear hfz27_0
     try clear hfz27_1
     try clear hfz31_0
     try clear hfz31_1
     try clear hfz41_0
     try clear hfz41_1
     try clear hfz43_0
     try clear hfz43_1
     try clear hfz50_0
     try clear hfz50_1
     try clear hfz52_0
     try clear hfz52_1
     try clear hfz60_0
     try clear hfz60_1
     try clear p2
     obtain ⟨kq, x48_37, rfl, HA, HJ37, HO_138000, HO_138001, HO_146000, HO_146001, BK123, BK124, BK125, BK137, BK145, HB⟩ := hcut
     cases kq with
     | zero => exact absurd HA.out (by simp [tapewrightlaw05_TensorTimes.j1])
     | succ kj37 =>
      have H := HA.out
      clear HA
      simp only [tapewrightlaw05_TensorTimes.j1] at H
      by_cases c63 : x48_37 = true
      ·
       subst c63
       rw [if_pos rfl] at H
       by_cases c64 : (t141.length : Int) = 0
       ·
        rw [if_pos c64] at H
        have c64b0 : ((t141.length : Int) == 0) = true := beq_iff_eq.mpr c64
        have c64b1 : ((t141.length : Int) != 0) = false := bne_eq_false_iff_eq.mpr c64
        clear c64
        replace H := Option.bind_eq_some_iff.mp H
        obtain ⟨t146, A650, H⟩ := H
        have A65 := Aside0.mk A650
        clear A650
        obtain rfl := Option.some.inj H
        have hnb66 := NB145_123.out
        have hnc66 := NB123_145.out
        have hnb67 := NB145_124.out
        have hnc67 := NB124_145.out
        have hnb68 := NB145_125.out
        have hnc68 := NB125_145.out
        have hnb69 := NB145_137.out
        have hnc69 := NB137_145.out
        have hcz70_0 : wc.cell? ⟨gb145, 0, none⟩ = some (.slice Ao55 t138.length co55) := (blk_cell BK145.out 0).trans rfl
        have hcz70_1 : wc.cell? ⟨gb145, 1, none⟩ = some (.slice Ao61 t141.length co61) := (blk_cell BK145.out 1).trans rfl
        have hfz70_0 := blk_frozen BK145.out 0
        have hfz70_1 := blk_frozen BK145.out 1
        go_wp2_with (first | (go_at_call 13; (with_reducible refine (tapewrightlaw05_awake.calls  t146 _ (Err.Gs.below HGs.out T9_) A65.out).mono ?_); rintro e w71 ⟨rfl, hb⟩; replace HO_138000 := RC_ HO_138000 hb; replace HO_138001 := RC_ HO_138001 hb; replace HO_146000 := RC_ HO_146000 hb; replace HO_146001 := RC_ HO_146001 hb; replace BK123 := BF_ BK123 hb; replace BK124 := BF_ BK124 hb; replace BK125 := BF_ BK125 hb; replace BK137 := BF_ BK137 hb; replace BK145 := BF_ BK145 hb; replace HB := Aside0.mk (below_step T9_ hb); (try clear hb); (try clear hb2); (try clear hk); (try clear hi)))
        go_ret
        exact ⟨T4_, T9_⟩
       ·
        rw [if_neg c64] at H
        have c64b0 : ((t141.length : Int) == 0) = false := beq_eq_false_iff_ne.mpr c64
        have c64b1 : ((t141.length : Int) != 0) = true := bne_iff_ne.mpr c64
        have c64b2 : ¬ (t141 = []) := fun h_ => c64 (by rw [h_]; rfl)
        exact absurd ((Option.some.inj H).trans HRT.out) (by decide)
      ·
       replace c63 := Bool.eq_false_iff.mpr c63
       subst c63
       rw [if_neg (show ¬ (false = true) by decide)] at H
       replace H := Option.bind_eq_some_iff.mp H
       obtain ⟨⟨t147, t150, t153⟩, A720, H⟩ := H
       have A72 := Aside0.mk A720
       clear A720
       replace H := Option.bind_eq_some_iff.mp H
       obtain ⟨⟨t155, t158, t161⟩, A730, H⟩ := H
       have A73 := Aside0.mk A730
       clear A730
       replace H := Option.bind_eq_some_iff.mp H
       obtain ⟨⟨t163, t166, t169⟩, A740, H⟩ := H
       have A74 := Aside0.mk A740
       clear A740
       replace H := Option.bind_eq_some_iff.mp H
       obtain ⟨t171, A750, H⟩ := H
       have A75 := Aside0.mk A750
       clear A750
       by_cases c76 : t171 = true
       ·
        subst c76
        rw [if_pos rfl] at H
        by_cases c77 : t169 = 0
        ·
         rw [if_pos c77] at H
         have c77b0 : (t169 == 0) = true := beq_iff_eq.mpr c77
         have c77b1 : (t169 != 0) = false := bne_eq_false_iff_eq.mpr c77
         clear c77
         replace H := Option.bind_eq_some_iff.mp H
         obtain ⟨t172, A780, H⟩ := H
         have A78 := Aside0.mk A780
         clear A780
         obtain rfl := Option.some.inj H
         have hnb79 := NB123_124.out
         have hnc79 := NB124_123.out
         have hnb80 := NB123_125.out
         have hnc80 := NB125_123.out
         have hnb81 := NB123_137.out
         have hnc81 := NB137_123.out
         have hnb82 := NB123_145.out
         have hnc82 := NB145_123.out
         have hcz83_0 := CA_ BK123
         have hcz83_1 := CB_ BK123
         have hfz83_0 := blk_frozen BK123.out 0
         have hfz83_1 := blk_frozen BK123.out 1
         have hnb84 := NB124_125.out
         have hnc84 := NB125_124.out
         have hnb85 := NB124_137.out
         have hnc85 := NB137_124.out
         have hnb86 := NB124_145.out
         have hnc86 := NB145_124.out
         have hcz87_0 : wc.cell? ⟨gb124, 0, none⟩ = some (.slice A1_0 l1_0.length c1_0) := (blk_cell BK124.out 0).trans rfl
         have hcz87_1 : wc.cell? ⟨gb124, 1, none⟩ = some (.slice A1_1 l1_1.length c1_1) := (blk_cell BK124.out 1).trans rfl
         have hfz87_0 := blk_frozen BK124.out 0
         have hfz87_1 := blk_frozen BK124.out 1
         go_wp2_with (first | ((with_reducible refine gate_callee (f := 14) rfl ?_); refine goesL_ (some 59) rfl rfl Tryz.func14 (by kernel_rfl) rfl #[.string (⟨#[109, 117, 108]⟩ : ByteArray), .agg #[.slice A0_0 l0_0.length c0_0, .slice A0_1 l0_1.length c0_1], .agg #[.slice A1_0 l1_0.length c1_0, .slice A1_1 l1_1.length c1_1]] rfl T2_ ?_; (with_reducible refine (tensor_Zip.calls (⟨#[109, 117, 108]⟩ : ByteArray) _ _ l0_0 _ _ l0_1 _ _ l1_0 _ _ l1_1 t147 t150 t153 _ (Err.Gs.below HGs.out T9_) ?side1 ?side2 ?side3 ?side4 ?side5 ?side6 ?side7 ?side8 A72.out).mono ?_); (case side1 => exact C1_ (Kd.C_below HR0_0.out HB.out)); (case side2 => exact HC0_0.out); (case side3 => exact C1_ (Kd.C_below HR0_1.out HB.out)); (case side4 => exact HC0_1.out); (case side5 => exact C1_ (Kd.C_below HR1_0.out HB.out)); (case side6 => exact HC1_0.out); (case side7 => exact C1_ (Kd.C_below HR1_1.out HB.out)); (case side8 => exact HC1_1.out); rintro e w88 ⟨v148, v151, rfl, ho0, ho1, hb⟩; refine ⟨_, rfl, ?_⟩; have HO149 := Aside0.mk (Kd.R_lower ho0 (below_size T9_)); replace HO_138000 := RC_ HO_138000 hb; replace HO_146000 := RC_ HO_146000 hb; have HO152 := Aside0.mk (Kd.R_lower ho1 (below_size T9_)); replace HO_138001 := RC_ HO_138001 hb; replace HO_146001 := RC_ HO_146001 hb; replace BK123 := BF_ BK123 hb; replace BK124 := BF_ BK124 hb; replace BK125 := BF_ BK125 hb; replace BK137 := BF_ BK137 hb; replace BK145 := BF_ BK145 hb; replace HB := Aside0.mk (below_step T9_ hb); (try clear hb); (try clear hb2); (try clear hk); (try clear hi); (try clear ho0); (try clear ho1)) | ((with_reducible refine gate_dst (N := 11) rfl ?_); refine box_event ?hg (N := 11) ?hd (cs := #[.slice none 0 0, .slice none 0 0]) (t := 25) ?hr ?_; (case hd => rfl); (case hg => rfl); (case hr => exact T3_); intro gb154 hg w89 hbox hb; replace HO_138000 := RC_ HO_138000 hb; replace HO_138001 := RC_ HO_138001 hb; replace HO_146000 := RC_ HO_146000 hb; replace HO_146001 := RC_ HO_146001 hb; replace HO149 := RC_ HO149 hb; replace HO152 := RC_ HO152 hb; have BK154 := Aside0.mk (hbox); have GW154 := GE_ hg; have GE154 := GE_ hg; replace HB := Aside0.mk (below_step T9_ hb); have NB123_154 := NB_ BK123 hg; have NB154_123 := NC_ BK123 hg; replace BK123 := BF_ BK123 hb; have NB124_154 := NB_ BK124 hg; have NB154_124 := NC_ BK124 hg; replace BK124 := BF_ BK124 hb; have NB125_154 := NB_ BK125 hg; have NB154_125 := NC_ BK125 hg; replace BK125 := BF_ BK125 hb; have NB137_154 := NB_ BK137 hg; have NB154_137 := NC_ BK137 hg; replace BK137 := BF_ BK137 hb; have NB145_154 := NB_ BK145 hg; have NB154_145 := NC_ BK145 hg; replace BK145 := BF_ BK145 hb; clear hb hbox hg; obtain ⟨Ao90, co90, eo90⟩ := Kd.R_slice HO149.out; subst eo90; have hnb91 := NB154_123.out; have hnc91 := NB123_154.out; have hnb92 := NB154_124.out; have hnc92 := NB124_154.out; have hnb93 := NB154_125.out; have hnc93 := NB125_154.out; have hnb94 := NB154_137.out; have hnc94 := NB137_154.out; have hnb95 := NB154_145.out; have hnc95 := NB145_154.out; have hcz96_0 := CA_ BK154; have hcz96_1 := CB_ BK154; have hfz96_0 := blk_frozen BK154.out 0; have hfz96_1 := blk_frozen BK154.out 1; obtain ⟨Ao97, co97, eo97⟩ := Kd.R_slice HO152.out; subst eo97; have hnb98 := NB125_137.out; have hnc98 := NB137_125.out; have hnb99 := NB125_145.out; have hnc99 := NB145_125.out; have hcz100_0 : w89.cell? ⟨gb125, 0, none⟩ = some (.slice A2_0 l2_0.length c2_0) := (blk_cell BK125.out 0).trans rfl; have hcz100_1 : w89.cell? ⟨gb125, 1, none⟩ = some (.slice A2_1 l2_1.length c2_1) := (blk_cell BK125.out 1).trans rfl; have hfz100_0 := blk_frozen BK125.out 0; have hfz100_1 := blk_frozen BK125.out 1; have hcz101_0 := CA_ BK123; have hcz101_1 := CB_ BK123; have hfz101_0 := blk_frozen BK123.out 0; have hfz101_1 := blk_frozen BK123.out 1) | ((with_reducible refine gate_callee (f := 14) rfl ?_); refine goesL_ (some 65) rfl rfl Tryz.func14 (by kernel_rfl) rfl #[.string (⟨#[109, 117, 108]⟩ : ByteArray), .agg #[.slice A2_0 l2_0.length c2_0, .slice A2_1 l2_1.length c2_1], .agg #[.slice A0_0 l0_0.length c0_0, .slice A0_1 l0_1.length c0_1]] rfl T2_ ?_; (with_reducible refine (tensor_Zip.calls (⟨#[109, 117, 108]⟩ : ByteArray) _ _ l2_0 _ _ l2_1 _ _ l0_0 _ _ l0_1 t155 t158 t161 _ (Err.Gs.below HGs.out T9_) ?side1 ?side2 ?side3 ?side4 ?side5 ?side6 ?side7 ?side8 A73.out).mono ?_); (case side1 => exact Kd.C_below HR2_0.out T9_); (case side2 => exact HC2_0.out); (case side3 => exact Kd.C_below HR2_1.out T9_); (case side4 => exact HC2_1.out); (case side5 => exact Kd.C_below HR0_0.out T9_); (case side6 => exact HC0_0.out); (case side7 => exact Kd.C_below HR0_1.out T9_); (case side8 => exact HC0_1.out); rintro e w102 ⟨v156, v159, rfl, ho0, ho1, hb⟩; refine ⟨_, rfl, ?_⟩; have HO157 := Aside0.mk (Kd.R_lower ho0 (below_size T9_)); replace HO_138000 := RC_ HO_138000 hb; replace HO_146000 := RC_ HO_146000 hb; replace HO149 := RC_ HO149 hb; have HO160 := Aside0.mk (Kd.R_lower ho1 (below_size T9_)); replace HO_138001 := RC_ HO_138001 hb; replace HO_146001 := RC_ HO_146001 hb; replace HO152 := RC_ HO152 hb; replace BK123 := BG_ BK123 hb; replace BK124 := BG_ BK124 hb; replace BK125 := BG_ BK125 hb; replace BK137 := BG_ BK137 hb; replace BK145 := BG_ BK145 hb; replace BK154 := BP_ BK154 hb; replace HB := Aside0.mk (below_step T9_ hb); (try clear hb); (try clear hb2); (try clear hk); (try clear hi); (try clear ho0); (try clear ho1)) | ((with_reducible refine gate_dst (N := 13) rfl ?_); refine box_event ?hg (N := 13) ?hd (cs := #[.slice none 0 0, .slice none 0 0]) (t := 25) ?hr ?_; (case hd => rfl); (case hg => rfl); (case hr => exact T3_); intro gb162 hg w103 hbox hb; replace HO_138000 := RC_ HO_138000 hb; replace HO_138001 := RC_ HO_138001 hb; replace HO_146000 := RC_ HO_146000 hb; replace HO_146001 := RC_ HO_146001 hb; replace HO149 := RC_ HO149 hb; replace HO152 := RC_ HO152 hb; replace HO157 := RC_ HO157 hb; replace HO160 := RC_ HO160 hb; have BK162 := Aside0.mk (hbox); have GW162 := GE_ hg; have GE162 := GE_ hg; replace HB := Aside0.mk (below_step T9_ hb); have NB123_162 := NB_ BK123 hg; have NB162_123 := NC_ BK123 hg; replace BK123 := BF_ BK123 hb; have NB124_162 := NB_ BK124 hg; have NB162_124 := NC_ BK124 hg; replace BK124 := BF_ BK124 hb; have NB125_162 := NB_ BK125 hg; have NB162_125 := NC_ BK125 hg; replace BK125 := BF_ BK125 hb; have NB137_162 := NB_ BK137 hg; have NB162_137 := NC_ BK137 hg; replace BK137 := BF_ BK137 hb; have NB145_162 := NB_ BK145 hg; have NB162_145 := NC_ BK145 hg; replace BK145 := BF_ BK145 hb; have NB154_162 := NB_ BK154 hg; have NB162_154 := NC_ BK154 hg; replace BK154 := BF_ BK154 hb; clear hb hbox hg; obtain ⟨Ao104, co104, eo104⟩ := Kd.R_slice HO157.out; subst eo104; have hnb105 := NB162_123.out; have hnc105 := NB123_162.out; have hnb106 := NB162_124.out; have hnc106 := NB124_162.out; have hnb107 := NB162_125.out; have hnc107 := NB125_162.out; have hnb108 := NB162_137.out; have hnc108 := NB137_162.out; have hnb109 := NB162_145.out; have hnc109 := NB145_162.out; have hnb110 := NB162_154.out; have hnc110 := NB154_162.out; have hcz111_0 : w103.cell? ⟨gb162, 0, none⟩ = some (.slice none 0 0) := (blk_cell BK162.out 0).trans rfl; have hcz111_1 : w103.cell? ⟨gb162, 1, none⟩ = some (.slice none 0 0) := (blk_cell BK162.out 1).trans rfl; have hfz111_0 := blk_frozen BK162.out 0; have hfz111_1 := blk_frozen BK162.out 1; obtain ⟨Ao112, co112, eo112⟩ := Kd.R_slice HO160.out; subst eo112; have hcz113_0 := CA_ BK154; have hcz113_1 := CB_ BK154; have hfz113_0 := blk_frozen BK154.out 0; have hfz113_1 := blk_frozen BK154.out 1) | ((with_reducible refine gate_callee (f := 14) rfl ?_); refine goesL_ (some 71) rfl rfl Tryz.func14 (by kernel_rfl) rfl #[.string (⟨#[97, 100, 100]⟩ : ByteArray), .agg #[.slice Ao90 t147.length co90, .slice Ao97 t150.length co97], .agg #[.slice Ao104 t155.length co104, .slice Ao112 t158.length co112]] rfl T2_ ?_; (with_reducible refine (tensor_Zip.calls (⟨#[97, 100, 100]⟩ : ByteArray) _ _ t147 _ _ t150 _ _ t155 _ _ t158 t163 t166 t169 _ (Err.Gs.below HGs.out T9_) ?side1 ?side2 ?side3 ?side4 ?side5 ?side6 ?side7 ?side8 A74.out).mono ?_); (case side1 => exact C2_ HO149); (case side2 => exact (Kd.R_reads' HO149.out).2.1); (case side3 => exact C2_ HO152); (case side4 => exact (Kd.R_reads' HO152.out).2.1); (case side5 => exact C2_ HO157); (case side6 => exact (Kd.R_reads' HO157.out).2.1); (case side7 => exact C2_ HO160); (case side8 => exact (Kd.R_reads' HO160.out).2.1); rintro e w114 ⟨v164, v167, rfl, ho0, ho1, hb⟩; refine ⟨_, rfl, ?_⟩; have HO165 := Aside0.mk (Kd.R_lower ho0 (below_size T9_)); replace HO_138000 := RC_ HO_138000 hb; replace HO_146000 := RC_ HO_146000 hb; replace HO149 := RC_ HO149 hb; replace HO157 := RC_ HO157 hb; have HO168 := Aside0.mk (Kd.R_lower ho1 (below_size T9_)); replace HO_138001 := RC_ HO_138001 hb; replace HO_146001 := RC_ HO_146001 hb; replace HO152 := RC_ HO152 hb; replace HO160 := RC_ HO160 hb; replace BK123 := BG_ BK123 hb; replace BK124 := BG_ BK124 hb; replace BK125 := BG_ BK125 hb; replace BK137 := BG_ BK137 hb; replace BK145 := BG_ BK145 hb; replace BK154 := BG_ BK154 hb; replace BK162 := BP_ BK162 hb; replace HB := Aside0.mk (below_step T9_ hb); (try clear hb); (try clear hb2); (try clear hk); (try clear hi); (try clear ho0); (try clear ho1)) | ((with_reducible refine gate_dst (N := 15) rfl ?_); refine box_event ?hg (N := 15) ?hd (cs := #[.slice none 0 0, .slice none 0 0]) (t := 25) ?hr ?_; (case hd => rfl); (case hg => rfl); (case hr => exact T3_); intro gb170 hg w115 hbox hb; replace HO_138000 := RC_ HO_138000 hb; replace HO_138001 := RC_ HO_138001 hb; replace HO_146000 := RC_ HO_146000 hb; replace HO_146001 := RC_ HO_146001 hb; replace HO149 := RC_ HO149 hb; replace HO152 := RC_ HO152 hb; replace HO157 := RC_ HO157 hb; replace HO160 := RC_ HO160 hb; replace HO165 := RC_ HO165 hb; replace HO168 := RC_ HO168 hb; have BK170 := Aside0.mk (hbox); have GW170 := GE_ hg; have GE170 := GE_ hg; replace HB := Aside0.mk (below_step T9_ hb); have NB123_170 := NB_ BK123 hg; have NB170_123 := NC_ BK123 hg; replace BK123 := BF_ BK123 hb; have NB124_170 := NB_ BK124 hg; have NB170_124 := NC_ BK124 hg; replace BK124 := BF_ BK124 hb; have NB125_170 := NB_ BK125 hg; have NB170_125 := NC_ BK125 hg; replace BK125 := BF_ BK125 hb; have NB137_170 := NB_ BK137 hg; have NB170_137 := NC_ BK137 hg; replace BK137 := BF_ BK137 hb; have NB145_170 := NB_ BK145 hg; have NB170_145 := NC_ BK145 hg; replace BK145 := BF_ BK145 hb; have NB154_170 := NB_ BK154 hg; have NB170_154 := NC_ BK154 hg; replace BK154 := BF_ BK154 hb; have NB162_170 := NB_ BK162 hg; have NB170_162 := NC_ BK162 hg; replace BK162 := BF_ BK162 hb; clear hb hbox hg; obtain ⟨Ao116, co116, eo116⟩ := Kd.R_slice HO165.out; subst eo116; have hnb117 := NB170_123.out; have hnc117 := NB123_170.out; have hnb118 := NB170_124.out; have hnc118 := NB124_170.out; have hnb119 := NB170_125.out; have hnc119 := NB125_170.out; have hnb120 := NB170_137.out; have hnc120 := NB137_170.out; have hnb121 := NB170_145.out; have hnc121 := NB145_170.out; have hnb122 := NB170_154.out; have hnc122 := NB154_170.out; have hnb123 := NB170_162.out; have hnc123 := NB162_170.out; have hcz124_0 : w115.cell? ⟨gb170, 0, none⟩ = some (.slice none 0 0) := (blk_cell BK170.out 0).trans rfl; have hcz124_1 : w115.cell? ⟨gb170, 1, none⟩ = some (.slice none 0 0) := (blk_cell BK170.out 1).trans rfl; have hfz124_0 := blk_frozen BK170.out 0; have hfz124_1 := blk_frozen BK170.out 1; obtain ⟨Ao125, co125, eo125⟩ := Kd.R_slice HO168.out; subst eo125; have hnb126 := NB145_137.out; have hnc126 := NB137_145.out; have hcz127_0 : w115.cell? ⟨gb145, 0, none⟩ = some (.slice Ao55 t138.length co55) := (blk_cell BK145.out 0).trans rfl; have hcz127_1 : w115.cell? ⟨gb145, 1, none⟩ = some (.slice Ao61 t141.length co61) := (blk_cell BK145.out 1).trans rfl; have hfz127_0 := blk_frozen BK145.out 0; have hfz127_1 := blk_frozen BK145.out 1) | ((with_reducible refine gate_callee (f := 18) rfl ?_); refine goesL_ (some 76) rfl rfl Tryz.func18 (by kernel_rfl) rfl #[.agg #[.slice Ao55 t138.length co55, .slice Ao61 t141.length co61], .agg #[.slice Ao116 t163.length co116, .slice Ao125 t166.length co125]] rfl T2_ ?_; (with_reducible refine (tapewrightref05_Equal.calls _ _ t138 _ _ t141 _ _ t163 _ _ t166 true _ ?side1 ?side2 ?side3 ?side4 ?side5 ?side6 ?side7 ?side8 A75.out).mono ?_); (case side1 => exact C2_ HO_146000); (case side2 => exact (Kd.R_reads' HO_146000.out).2.1); (case side3 => exact C2_ HO_146001); (case side4 => exact (Kd.R_reads' HO_146001.out).2.1); (case side5 => exact C2_ HO165); (case side6 => exact (Kd.R_reads' HO165.out).2.1); (case side7 => exact C2_ HO168); (case side8 => exact (Kd.R_reads' HO168.out).2.1); rintro e w128 ⟨rfl, hb⟩; refine ⟨_, rfl, ?_⟩; replace HO_138000 := RC_ HO_138000 hb; replace HO_138001 := RC_ HO_138001 hb; replace HO_146000 := RC_ HO_146000 hb; replace HO_146001 := RC_ HO_146001 hb; replace HO149 := RC_ HO149 hb; replace HO152 := RC_ HO152 hb; replace HO157 := RC_ HO157 hb; replace HO160 := RC_ HO160 hb; replace HO165 := RC_ HO165 hb; replace HO168 := RC_ HO168 hb; replace BK123 := BG_ BK123 hb; replace BK124 := BG_ BK124 hb; replace BK125 := BG_ BK125 hb; replace BK137 := BG_ BK137 hb; replace BK145 := BG_ BK145 hb; replace BK154 := BG_ BK154 hb; replace BK162 := BG_ BK162 hb; replace BK170 := BP_ BK170 hb; replace HB := Aside0.mk (below_step T9_ hb); (try clear hb); (try clear hb2); (try clear hk); (try clear hi)) | (go_at_call 13; (with_reducible refine (tapewrightlaw05_awake.calls  t172 _ (Err.Gs.below HGs.out T9_) A78.out).mono ?_); rintro e w129 ⟨rfl, hb⟩; replace HO_138000 := RC_ HO_138000 hb; replace HO_138001 := RC_ HO_138001 hb; replace HO_146000 := RC_ HO_146000 hb; replace HO_146001 := RC_ HO_146001 hb; replace HO149 := RC_ HO149 hb; replace HO152 := RC_ HO152 hb; replace HO157 := RC_ HO157 hb; replace HO160 := RC_ HO160 hb; replace HO165 := RC_ HO165 hb; replace HO168 := RC_ HO168 hb; replace BK123 := BF_ BK123 hb; replace BK124 := BF_ BK124 hb; replace BK125 := BF_ BK125 hb; replace BK137 := BF_ BK137 hb; replace BK145 := BF_ BK145 hb; replace BK154 := BF_ BK154 hb; replace BK162 := BF_ BK162 hb; replace BK170 := BF_ BK170 hb; replace HB := Aside0.mk (below_step T9_ hb); (try clear hb); (try clear hb2); (try clear hk); (try clear hi)))
         go_ret
         exact ⟨T4_, T9_⟩
        ·
         rw [if_neg c77] at H
         have c77b0 : (t169 == 0) = false := beq_eq_false_iff_ne.mpr c77
         have c77b1 : (t169 != 0) = true := bne_iff_ne.mpr c77
         exact absurd ((Option.some.inj H).trans HRT.out) (by decide)
       ·
        replace c76 := Bool.eq_false_iff.mpr c76
        subst c76
        rw [if_neg (show ¬ (false = true) by decide)] at H
        exact absurd ((Option.some.inj H).trans HRT.out) (by decide)
end Go.Proofs.YtlglpffoijdgbaaGreatDoor.PQT
