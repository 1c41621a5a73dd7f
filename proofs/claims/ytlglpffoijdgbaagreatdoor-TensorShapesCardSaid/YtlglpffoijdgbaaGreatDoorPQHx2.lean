-- by wip/tool/mine.py of this repo (the kit's printer with given contracts)
import Derived.Test.YtlglpffoijdgbaaGreatDoorPQHx0
import Derived.Test.YtlglpffoijdgbaaGreatDoorPQHx1
namespace Go.Proofs.YtlglpffoijdgbaaGreatDoor.PQH
set_option maxHeartbeats 8000000
set_option maxRecDepth 100000
open Go.RowKit Go.Proofs.YtlglpffoijdgbaaGreatDoorW.PrintWords Go.Proofs.YtlglpffoijdgbaaGreatDoorW.PrintLast Go.Proofs.YtlglpffoijdgbaaGreatDoorW.PrintMore
attribute [local go_sem] max2_int min2_int max_two min_two max_three min_three max_four min_four   -- for this text's walks alone
set_option linter.unusedVariables false
set_option linter.unusedSimpArgs false

/-! ### tapewrightlaw05_TensorShapes: function 9 -/
mutual
noncomputable def tapewrightlaw05_TensorShapes.j0 : Nat → ByteArray → Int → Bool → List Int → List ByteArray → List Int → List ByteArray → Option (Bool)
 | 0, _, _, _, _, _, _, _ => none
 | k + 1, x2, x3, x27, x124000, x124001, x125000, x125001 => if x27 = true then ((tapewrightlaw05_awake.f).bind fun t127 => (some t127)) else ((tensor_Zip.f (⟨#[115, 117, 98]⟩ : ByteArray) x124000 x124001 x125000 x125001).bind fun bt128 => ((tensor_Scale.f x124000 x124001 x2).bind fun bt136 => ((tensor_Power.f x124000 x124001 (wrap64 (Int.tmod x3 7))).bind fun bt144 => (if bt128.2.2 = 0 then ((tensor_Right.f bt128.1 bt128.2.1).bind fun t152 => (if t152 = true then ((tapewrightref04_Same.f bt128.1 x124000).bind fun t153 => (if t153 = true then (if bt136.2.2 = 0 then ((tensor_Right.f bt136.1 bt136.2.1).bind fun t154 => (if t154 = true then ((tapewrightref04_Same.f bt136.1 x124000).bind fun t155 => (tapewrightlaw05_TensorShapes.j1 k bt144.2.2 (!t155) x124000 x124001 bt144.1 bt144.2.1)) else (tapewrightlaw05_TensorShapes.j1 k bt144.2.2 true x124000 x124001 bt144.1 bt144.2.1))) else (tapewrightlaw05_TensorShapes.j1 k bt144.2.2 false x124000 x124001 bt144.1 bt144.2.1)) else (tapewrightlaw05_TensorShapes.j1 k bt144.2.2 true x124000 x124001 bt144.1 bt144.2.1))) else (tapewrightlaw05_TensorShapes.j1 k bt144.2.2 true x124000 x124001 bt144.1 bt144.2.1))) else (if bt136.2.2 = 0 then ((tensor_Right.f bt136.1 bt136.2.1).bind fun t156 => (if t156 = true then ((tapewrightref04_Same.f bt136.1 x124000).bind fun t157 => (tapewrightlaw05_TensorShapes.j1 k bt144.2.2 (!t157) x124000 x124001 bt144.1 bt144.2.1)) else (tapewrightlaw05_TensorShapes.j1 k bt144.2.2 true x124000 x124001 bt144.1 bt144.2.1))) else (tapewrightlaw05_TensorShapes.j1 k bt144.2.2 false x124000 x124001 bt144.1 bt144.2.1))))))
noncomputable def tapewrightlaw05_TensorShapes.j1 : Nat → Int → Bool → List Int → List ByteArray → List Int → List ByteArray → Option (Bool)
 | 0, _, _, _, _, _, _ => none
 | k + 1, x14, x80, x124000, x124001, x152000, x152001 => if x80 = true then (some false) else (if x14 = 0 then ((tensor_Right.f x152000 x152001).bind fun t158 => (if t158 = true then ((tapewrightref04_Same.f x152000 x124000).bind fun t159 => (if t159 = true then ((tapewrightlaw05_awake.f).bind fun t160 => (some t160)) else (some false))) else (some false))) else ((tapewrightlaw05_awake.f).bind fun t161 => (some t161)))
end
noncomputable def tapewrightlaw05_TensorShapes.f (k : Nat) (l0_0 : List Int) (l0_1 : List ByteArray) (l1_0 : List Int) (l1_1 : List ByteArray) (a2 : ByteArray) (a3 : Int) : Option (Bool) := (tapewrightref05_Small.f l0_0 l0_1).bind fun t125 => (if t125 = true then ((tapewrightref05_Small.f l1_0 l1_1).bind fun t126 => (if t126 = true then (tapewrightlaw05_TensorShapes.j0 k a2 a3 (decide ((a2.size : Int) > 40)) l0_0 l0_1 l1_0 l1_1) else (tapewrightlaw05_TensorShapes.j0 k a2 a3 true l0_0 l0_1 l1_0 l1_1))) else (tapewrightlaw05_TensorShapes.j0 k a2 a3 true l0_0 l0_1 l1_0 l1_1))
theorem tapewrightlaw05_TensorShapes.calls (k : Nat) (A0_0 : Option Addr) (c0_0 : Nat) (l0_0 : List Int) (A0_1 : Option Addr) (c0_1 : Nat) (l0_1 : List ByteArray) (A1_0 : Option Addr) (c1_0 : Nat) (l1_0 : List Int) (A1_1 : Option Addr) (c1_1 : Nat) (l1_1 : List ByteArray) (a2 : ByteArray) (a3 : Int) (r : Bool) (w : World) (hG : Err.Gs w) (hrt : r = true) (hr0_0 : Kd.C (Kd.int .i64) w A0_0 l0_0.length l0_0) (hc0_0 : l0_0.length ≤ c0_0) (hr0_1 : Kd.C Kd.string w A0_1 l0_1.length l0_1) (hc0_1 : l0_1.length ≤ c0_1) (hr1_0 : Kd.C (Kd.int .i64) w A1_0 l1_0.length l1_0) (hc1_0 : l1_0.length ≤ c1_0) (hr1_1 : Kd.C Kd.string w A1_1 l1_1.length l1_1) (hc1_1 : l1_1.length ≤ c1_1) (h : tapewrightlaw05_TensorShapes.f k l0_0 l0_1 l1_0 l1_1 a2 a3 = some r) :
  Calls Tryz.prog 9 #[.agg #[.slice A0_0 l0_0.length c0_0, .slice A0_1 l0_1.length c0_1], .agg #[.slice A1_0 l1_0.length c1_0, .slice A1_1 l1_1.length c1_1], .string a2, .int .u8 a3] w fun e w' => e = .returned (.bool r) ∧ Below w.heap.size w w' := by
 have hu25 := Tryz.underlying25
 have HR0_0 := Aside0.mk hr0_0
 have HC0_0 := Aside0.mk hc0_0
 clear hr0_0 hc0_0
 have HR0_1 := Aside0.mk hr0_1
 have HC0_1 := Aside0.mk hc0_1
 clear hr0_1 hc0_1
 have HR1_0 := Aside0.mk hr1_0
 have HC1_0 := Aside0.mk hc1_0
 clear hr1_0 hc1_0
 have HR1_1 := Aside0.mk hr1_1
 have HC1_1 := Aside0.mk hc1_1
 clear hr1_1 hc1_1
 have HB := Aside0.mk (Below.refl w.heap.size w)
 have HGs := Aside0.mk hG
 clear hG
 have HRT := Aside0.mk hrt
 clear hrt
 unfold tapewrightlaw05_TensorShapes.f at h
 have H := h
 clear h
 have HC5 := Aside0.mk H
 clear H
 go_enter Tryz.func9, Tryz.ntmps9
 go_upto_region 1 with (first | ((with_reducible refine gate_dst (N := 4) rfl ?_); (try (refine gate_guard (by rfl) ?_; dsimp only)); refine box_event ?hg (N := 4) ?hd (cs := #[.slice A0_0 l0_0.length c0_0, .slice A0_1 l0_1.length c0_1]) (t := 25) ?hr ?_; (case hd => rfl); (case hg => rfl); (case hr => exact T3_); intro gb123 hg w6 hbox hb; have BK123 := Aside0.mk (hbox); have GW123 := GE_ hg; have GE123 := GE_ hg; replace HB := Aside0.mk (below_step T1_ hb); clear hb hbox hg) | ((with_reducible refine gate_dst (N := 5) rfl ?_); (try (refine gate_guard (by rfl) ?_; dsimp only)); refine box_event ?hg (N := 5) ?hd (cs := #[.slice A1_0 l1_0.length c1_0, .slice A1_1 l1_1.length c1_1]) (t := 25) ?hr ?_; (case hd => rfl); (case hg => rfl); (case hr => exact T3_); intro gb124 hg w7 hbox hb; have BK124 := Aside0.mk (hbox); have GW124 := GE_ hg; have GE124 := GE_ hg; replace HB := Aside0.mk (below_step T9_ hb); have NB123_124 := NB_ BK123 hg; have NB124_123 := NC_ BK123 hg; replace BK123 := BF_ BK123 hb; clear hb hbox hg))
 (try simp only [Act.put, List.setIfInBounds_toArray, List.set_cons_zero, List.set_cons_succ])
 go_cut [27] (fun v27 wc => ∃ (kq : Nat) (x27_4 : Bool), v27 = .bool x27_4 ∧ Aside0 (tapewrightlaw05_TensorShapes.j0 kq a2 a3 x27_4 l0_0 l0_1 l1_0 l1_1 = some r) ∧ Aside0 (kq ≤ k) ∧ Aside0 (wc.heap[gb123]? = some (.cells #[(.slice A0_0 l0_0.length c0_0), (.slice A0_1 l0_1.length c0_1)] 25 (0, 0))) ∧ Aside0 (wc.heap[gb124]? = some (.cells #[(.slice A1_0 l1_0.length c1_0), (.slice A1_1 l1_1.length c1_1)] 25 (0, 0))) ∧ Aside0 (Below w.heap.size w wc))
 case first =>
  have H := HC5.out
  clear HC5
  replace H := Option.bind_eq_some_iff.mp H
  obtain ⟨t125, A80, H⟩ := H
  have A8 := Aside0.mk A80
  clear A80
  by_cases c9 : t125 = true
  ·
   subst c9
   rw [if_pos rfl] at H
   replace H := Option.bind_eq_some_iff.mp H
   obtain ⟨t126, A100, H⟩ := H
   have A10 := Aside0.mk A100
   clear A100
   by_cases c11 : t126 = true
   ·
    subst c11
    rw [if_pos rfl] at H
    have H' := Aside0.mk H
    clear H
    have hnb12 := NB123_124.out
    have hnc12 := NB124_123.out
    have hcz13_0 := CA_ BK123
    have hcz13_1 := CB_ BK123
    have hfz13_0 := blk_frozen BK123.out 0
    have hfz13_1 := blk_frozen BK123.out 1
    go_wp2_with (first | ((with_reducible refine gate_callee (f := 12) rfl ?_); refine goesL_ (some 16) rfl rfl Tryz.func12 (by kernel_rfl) rfl #[.agg #[.slice A0_0 l0_0.length c0_0, .slice A0_1 l0_1.length c0_1]] rfl T2_ ?_; (with_reducible refine (tapewrightref05_Small.calls _ _ l0_0 _ _ l0_1 true _ ?side1 ?side2 ?side3 ?side4 A8.out).mono ?_); (case side1 => exact C1_ (Kd.C_below HR0_0.out HB.out)); (case side2 => exact HC0_0.out); (case side3 => exact C1_ (Kd.C_below HR0_1.out HB.out)); (case side4 => exact HC0_1.out); rintro e w14 ⟨rfl, hb⟩; refine ⟨_, rfl, ?_⟩; replace BK123 := BF_ BK123 hb; replace BK124 := BF_ BK124 hb; replace HB := Aside0.mk (below_step T9_ hb); (try clear hb); (try clear hb2); (try clear hk); (try clear hi); have hcz15_0 : w14.cell? ⟨gb124, 0, none⟩ = some (.slice A1_0 l1_0.length c1_0) := (blk_cell BK124.out 0).trans rfl; have hcz15_1 : w14.cell? ⟨gb124, 1, none⟩ = some (.slice A1_1 l1_1.length c1_1) := (blk_cell BK124.out 1).trans rfl; have hfz15_0 := blk_frozen BK124.out 0; have hfz15_1 := blk_frozen BK124.out 1) | (go_at_call 12; (with_reducible refine (tapewrightref05_Small.calls _ _ l1_0 _ _ l1_1 true _ ?side1 ?side2 ?side3 ?side4 A10.out).mono ?_); (case side1 => exact C1_ (Kd.C_below HR1_0.out HB.out)); (case side2 => exact HC1_0.out); (case side3 => exact C1_ (Kd.C_below HR1_1.out HB.out)); (case side4 => exact HC1_1.out); rintro e w16 ⟨rfl, hb⟩; replace BK123 := BF_ BK123 hb; replace BK124 := BF_ BK124 hb; replace HB := Aside0.mk (below_step T9_ hb); (try clear hb); (try clear hb2); (try clear hk); (try clear hi)))
    go_meet
    case rel => exact ⟨_, (decide ((a2.size : Int) > 40)), (by first | rfl | (simp; done) | (simp [*]; done)), H', ⟨by first | omega | exact Nat.le_refl _⟩, ⟨by (with_reducible repeat (first | refine blk_drewN ?_ _ | refine blk_drew ?_ | refine blk_alloc ?_ _)); exact BK123.out⟩, ⟨by (with_reducible repeat (first | refine blk_drewN ?_ _ | refine blk_drew ?_ | refine blk_alloc ?_ _)); exact BK124.out⟩, ⟨by repeat (first | (with_reducible first | exact HB.out | apply below_alloc | apply pw_below_drewN | apply below_drew1 | refine below_set ?_ GE123.out | refine below_set ?_ GE124.out) | exact HB.out)⟩⟩
   ·
    replace c11 := Bool.eq_false_iff.mpr c11
    subst c11
    rw [if_neg (show ¬ (false = true) by decide)] at H
    have H' := Aside0.mk H
    clear H
    have hnb17 := NB123_124.out
    have hnc17 := NB124_123.out
    have hcz18_0 := CA_ BK123
    have hcz18_1 := CB_ BK123
    have hfz18_0 := blk_frozen BK123.out 0
    have hfz18_1 := blk_frozen BK123.out 1
    go_wp2_with (first | ((with_reducible refine gate_callee (f := 12) rfl ?_); refine goesL_ (some 16) rfl rfl Tryz.func12 (by kernel_rfl) rfl #[.agg #[.slice A0_0 l0_0.length c0_0, .slice A0_1 l0_1.length c0_1]] rfl T2_ ?_; (with_reducible refine (tapewrightref05_Small.calls _ _ l0_0 _ _ l0_1 true _ ?side1 ?side2 ?side3 ?side4 A8.out).mono ?_); (case side1 => exact C1_ (Kd.C_below HR0_0.out HB.out)); (case side2 => exact HC0_0.out); (case side3 => exact C1_ (Kd.C_below HR0_1.out HB.out)); (case side4 => exact HC0_1.out); rintro e w19 ⟨rfl, hb⟩; refine ⟨_, rfl, ?_⟩; replace BK123 := BF_ BK123 hb; replace BK124 := BF_ BK124 hb; replace HB := Aside0.mk (below_step T9_ hb); (try clear hb); (try clear hb2); (try clear hk); (try clear hi); have hcz20_0 : w19.cell? ⟨gb124, 0, none⟩ = some (.slice A1_0 l1_0.length c1_0) := (blk_cell BK124.out 0).trans rfl; have hcz20_1 : w19.cell? ⟨gb124, 1, none⟩ = some (.slice A1_1 l1_1.length c1_1) := (blk_cell BK124.out 1).trans rfl; have hfz20_0 := blk_frozen BK124.out 0; have hfz20_1 := blk_frozen BK124.out 1) | (go_at_call 12; (with_reducible refine (tapewrightref05_Small.calls _ _ l1_0 _ _ l1_1 false _ ?side1 ?side2 ?side3 ?side4 A10.out).mono ?_); (case side1 => exact C1_ (Kd.C_below HR1_0.out HB.out)); (case side2 => exact HC1_0.out); (case side3 => exact C1_ (Kd.C_below HR1_1.out HB.out)); (case side4 => exact HC1_1.out); rintro e w21 ⟨rfl, hb⟩; replace BK123 := BF_ BK123 hb; replace BK124 := BF_ BK124 hb; replace HB := Aside0.mk (below_step T9_ hb); (try clear hb); (try clear hb2); (try clear hk); (try clear hi)))
    go_meet
    case rel => exact ⟨_, (true), (by first | rfl | (simp; done) | (simp [*]; done)), H', ⟨by first | omega | exact Nat.le_refl _⟩, ⟨by (with_reducible repeat (first | refine blk_drewN ?_ _ | refine blk_drew ?_ | refine blk_alloc ?_ _)); exact BK123.out⟩, ⟨by (with_reducible repeat (first | refine blk_drewN ?_ _ | refine blk_drew ?_ | refine blk_alloc ?_ _)); exact BK124.out⟩, ⟨by repeat (first | (with_reducible first | exact HB.out | apply below_alloc | apply pw_below_drewN | apply below_drew1 | refine below_set ?_ GE123.out | refine below_set ?_ GE124.out) | exact HB.out)⟩⟩
  ·
   replace c9 := Bool.eq_false_iff.mpr c9
   subst c9
   rw [if_neg (show ¬ (false = true) by decide)] at H
   have H' := Aside0.mk H
   clear H
   have hnb22 := NB123_124.out
   have hnc22 := NB124_123.out
   have hcz23_0 := CA_ BK123
   have hcz23_1 := CB_ BK123
   have hfz23_0 := blk_frozen BK123.out 0
   have hfz23_1 := blk_frozen BK123.out 1
   go_wp2_with (first | ((with_reducible refine gate_callee (f := 12) rfl ?_); refine goesL_ (some 16) rfl rfl Tryz.func12 (by kernel_rfl) rfl #[.agg #[.slice A0_0 l0_0.length c0_0, .slice A0_1 l0_1.length c0_1]] rfl T2_ ?_; (with_reducible refine (tapewrightref05_Small.calls _ _ l0_0 _ _ l0_1 false _ ?side1 ?side2 ?side3 ?side4 A8.out).mono ?_); (case side1 => exact C1_ (Kd.C_below HR0_0.out HB.out)); (case side2 => exact HC0_0.out); (case side3 => exact C1_ (Kd.C_below HR0_1.out HB.out)); (case side4 => exact HC0_1.out); rintro e w24 ⟨rfl, hb⟩; refine ⟨_, rfl, ?_⟩; replace BK123 := BF_ BK123 hb; replace BK124 := BF_ BK124 hb; replace HB := Aside0.mk (below_step T9_ hb); (try clear hb); (try clear hb2); (try clear hk); (try clear hi)))
   go_meet
   case rel => exact ⟨_, (true), (by first | rfl | (simp; done) | (simp [*]; done)), H', ⟨by first | omega | exact Nat.le_refl _⟩, ⟨by (with_reducible repeat (first | refine blk_drewN ?_ _ | refine blk_drew ?_ | refine blk_alloc ?_ _)); exact BK123.out⟩, ⟨by (with_reducible repeat (first | refine blk_drewN ?_ _ | refine blk_drew ?_ | refine blk_alloc ?_ _)); exact BK124.out⟩, ⟨by repeat (first | (with_reducible first | exact HB.out | apply below_alloc | apply pw_below_drewN | apply below_drew1 | refine below_set ?_ GE123.out | refine below_set ?_ GE124.out) | exact HB.out)⟩⟩
 case rest =>
  clear HC5
  try clear c1
  try clear c2
  try clear p2
  try clear c9
  try clear c11
  try clear c12
  try clear c17
  try clear c22
  try clear hcz13_0
  try clear hcz13_1
  try clear hcz15_0
  try clear hcz15_1
  try clear hcz18_0
  try clear hcz18_1
  try clear hcz20_0
  try clear hcz20_1
  try clear hcz23_0
  try clear hcz23_1
  try clear hfz13_0
  try clear hfz13_1
  try clear hfz15_0
  try clear hfz15_1
  try clear hfz18_0
  try clear hfz18_1
  try clear hfz20_0
  try clear hfz20_1
  try clear hfz23_0
  try clear hfz23_1
  obtain ⟨kq, x27_4, rfl, HA, HJ4, BK123, BK124, HB⟩ := hcut
  cases kq with
  | zero => exact absurd HA.out (by simp [tapewrightlaw05_TensorShapes.j0])
  | succ kj4 =>
   have H := HA.out
   clear HA
   simp only [tapewrightlaw05_TensorShapes.j0] at H
   by_cases c25 : x27_4 = true
   ·
    subst c25
    rw [if_pos rfl] at H
    replace H := Option.bind_eq_some_iff.mp H
    obtain ⟨t127, A260, H⟩ := H
    have A26 := Aside0.mk A260
    clear A260
    obtain rfl := Option.some.inj H
    go_wp2_with (first | ((with_reducible refine gate_callee (f := 13) rfl ?_); refine goesL_ (some 28) rfl rfl Tryz.func13 (by kernel_rfl) rfl #[] rfl T2_ ?_; (with_reducible refine (tapewrightlaw05_awake.calls  t127 _ (Err.Gs.below HGs.out T9_) A26.out).mono ?_); rintro e w27 ⟨rfl, hb⟩; refine ⟨_, rfl, ?_⟩; replace BK123 := BF_ BK123 hb; replace BK124 := BF_ BK124 hb; replace HB := Aside0.mk (below_step T9_ hb); (try clear hb); (try clear hb2); (try clear hk); (try clear hi)))
    go_ret
    exact ⟨T4_, T9_⟩
   ·
    replace c25 := Bool.eq_false_iff.mpr c25
    subst c25
    rw [if_neg (show ¬ (false = true) by decide)] at H
    replace H := Option.bind_eq_some_iff.mp H
    obtain ⟨⟨t128, t131, t134⟩, A280, H⟩ := H
    have A28 := Aside0.mk A280
    clear A280
    replace H := Option.bind_eq_some_iff.mp H
    obtain ⟨⟨t136, t139, t142⟩, A290, H⟩ := H
    have A29 := Aside0.mk A290
    clear A290
    replace H := Option.bind_eq_some_iff.mp H
    obtain ⟨⟨t144, t147, t150⟩, A300, H⟩ := H
    have A30 := Aside0.mk A300
    clear A300
    have HC31 := Aside0.mk H
    clear H
    have hnb32 := NB123_124.out
    have hnc32 := NB124_123.out
    have hcz33_0 := CA_ BK123
    have hcz33_1 := CB_ BK123
    have hfz33_0 := blk_frozen BK123.out 0
    have hfz33_1 := blk_frozen BK123.out 1
    have hcz34_0 : wc.cell? ⟨gb124, 0, none⟩ = some (.slice A1_0 l1_0.length c1_0) := (blk_cell BK124.out 0).trans rfl
    have hcz34_1 : wc.cell? ⟨gb124, 1, none⟩ = some (.slice A1_1 l1_1.length c1_1) := (blk_cell BK124.out 1).trans rfl
    have hfz34_0 := blk_frozen BK124.out 0
    have hfz34_1 := blk_frozen BK124.out 1
    go_upto_region 6 with (first | ((with_reducible refine gate_callee (f := 14) rfl ?_); refine goesL_ (some 32) rfl rfl Tryz.func14 (by kernel_rfl) rfl #[.string (⟨#[115, 117, 98]⟩ : ByteArray), .agg #[.slice A0_0 l0_0.length c0_0, .slice A0_1 l0_1.length c0_1], .agg #[.slice A1_0 l1_0.length c1_0, .slice A1_1 l1_1.length c1_1]] rfl T2_ ?_; (with_reducible refine (tensor_Zip.calls (⟨#[115, 117, 98]⟩ : ByteArray) _ _ l0_0 _ _ l0_1 _ _ l1_0 _ _ l1_1 t128 t131 t134 _ (Err.Gs.below HGs.out T9_) ?side1 ?side2 ?side3 ?side4 ?side5 ?side6 ?side7 ?side8 A28.out).mono ?_); (case side1 => exact C1_ (Kd.C_below HR0_0.out HB.out)); (case side2 => exact HC0_0.out); (case side3 => exact C1_ (Kd.C_below HR0_1.out HB.out)); (case side4 => exact HC0_1.out); (case side5 => exact C1_ (Kd.C_below HR1_0.out HB.out)); (case side6 => exact HC1_0.out); (case side7 => exact C1_ (Kd.C_below HR1_1.out HB.out)); (case side8 => exact HC1_1.out); rintro e w35 ⟨v129, v132, rfl, ho0, ho1, hb⟩; refine ⟨_, rfl, ?_⟩; have HO130 := Aside0.mk (Kd.R_lower ho0 (below_size T9_)); have HO133 := Aside0.mk (Kd.R_lower ho1 (below_size T9_)); replace BK123 := BF_ BK123 hb; replace BK124 := BF_ BK124 hb; replace HB := Aside0.mk (below_step T9_ hb); (try clear hb); (try clear hb2); (try clear hk); (try clear hi); (try clear ho0); (try clear ho1)) | ((with_reducible refine gate_dst (N := 9) rfl ?_); (try (refine gate_guard (by rfl) ?_; dsimp only)); refine box_event ?hg (N := 9) ?hd (cs := #[.slice none 0 0, .slice none 0 0]) (t := 25) ?hr ?_; (case hd => rfl); (case hg => rfl); (case hr => exact T3_); intro gb135 hg w36 hbox hb; replace HO130 := RC_ HO130 hb; replace HO133 := RC_ HO133 hb; have BK135 := Aside0.mk (hbox); have GW135 := GE_ hg; have GE135 := GE_ hg; replace HB := Aside0.mk (below_step T9_ hb); have NB123_135 := NB_ BK123 hg; have NB135_123 := NC_ BK123 hg; replace BK123 := BF_ BK123 hb; have NB124_135 := NB_ BK124 hg; have NB135_124 := NC_ BK124 hg; replace BK124 := BF_ BK124 hb; clear hb hbox hg; obtain ⟨Ao37, co37, eo37⟩ := Kd.R_slice HO130.out; subst eo37; have hnb38 := NB135_123.out; have hnc38 := NB123_135.out; have hnb39 := NB135_124.out; have hnc39 := NB124_135.out; have hcz40_0 := CA_ BK135; have hcz40_1 := CB_ BK135; have hfz40_0 := blk_frozen BK135.out 0; have hfz40_1 := blk_frozen BK135.out 1; obtain ⟨Ao41, co41, eo41⟩ := Kd.R_slice HO133.out; subst eo41; have hcz42_0 := CA_ BK123; have hcz42_1 := CB_ BK123; have hfz42_0 := blk_frozen BK123.out 0; have hfz42_1 := blk_frozen BK123.out 1) | ((with_reducible refine gate_callee (f := 20) rfl ?_); refine goesL_ (some 38) rfl rfl Tryz.func20 (by kernel_rfl) rfl #[.agg #[.slice A0_0 l0_0.length c0_0, .slice A0_1 l0_1.length c0_1], .string a2] rfl T2_ ?_; (with_reducible refine (tensor_Scale.calls _ _ l0_0 _ _ l0_1 a2 t136 t139 t142 _ (Err.Gs.below HGs.out T9_) ?side1 ?side2 ?side3 ?side4 A29.out).mono ?_); (case side1 => exact Kd.C_below HR0_0.out T9_); (case side2 => exact HC0_0.out); (case side3 => exact Kd.C_below HR0_1.out T9_); (case side4 => exact HC0_1.out); rintro e w43 ⟨v137, v140, rfl, ho0, ho1, hb⟩; refine ⟨_, rfl, ?_⟩; have HO138 := Aside0.mk (Kd.R_lower ho0 (below_size T9_)); replace HO130 := RC_ HO130 hb; have HO141 := Aside0.mk (Kd.R_lower ho1 (below_size T9_)); replace HO133 := RC_ HO133 hb; replace BK123 := BG_ BK123 hb; replace BK124 := BG_ BK124 hb; replace BK135 := BP_ BK135 hb; replace HB := Aside0.mk (below_step T9_ hb); (try clear hb); (try clear hb2); (try clear hk); (try clear hi); (try clear ho0); (try clear ho1)) | ((with_reducible refine gate_dst (N := 11) rfl ?_); (try (refine gate_guard (by rfl) ?_; dsimp only)); refine box_event ?hg (N := 11) ?hd (cs := #[.slice none 0 0, .slice none 0 0]) (t := 25) ?hr ?_; (case hd => rfl); (case hg => rfl); (case hr => exact T3_); intro gb143 hg w44 hbox hb; replace HO130 := RC_ HO130 hb; replace HO133 := RC_ HO133 hb; replace HO138 := RC_ HO138 hb; replace HO141 := RC_ HO141 hb; have BK143 := Aside0.mk (hbox); have GW143 := GE_ hg; have GE143 := GE_ hg; replace HB := Aside0.mk (below_step T9_ hb); have NB123_143 := NB_ BK123 hg; have NB143_123 := NC_ BK123 hg; replace BK123 := BF_ BK123 hb; have NB124_143 := NB_ BK124 hg; have NB143_124 := NC_ BK124 hg; replace BK124 := BF_ BK124 hb; have NB135_143 := NB_ BK135 hg; have NB143_135 := NC_ BK135 hg; replace BK135 := BF_ BK135 hb; clear hb hbox hg; obtain ⟨Ao45, co45, eo45⟩ := Kd.R_slice HO138.out; subst eo45; have hnb46 := NB143_123.out; have hnc46 := NB123_143.out; have hnb47 := NB143_124.out; have hnc47 := NB124_143.out; have hnb48 := NB143_135.out; have hnc48 := NB135_143.out; have hcz49_0 : w44.cell? ⟨gb143, 0, none⟩ = some (.slice none 0 0) := (blk_cell BK143.out 0).trans rfl; have hcz49_1 : w44.cell? ⟨gb143, 1, none⟩ = some (.slice none 0 0) := (blk_cell BK143.out 1).trans rfl; have hfz49_0 := blk_frozen BK143.out 0; have hfz49_1 := blk_frozen BK143.out 1; obtain ⟨Ao50, co50, eo50⟩ := Kd.R_slice HO141.out; subst eo50; have hcz51_0 := CA_ BK123; have hcz51_1 := CB_ BK123; have hfz51_0 := blk_frozen BK123.out 0; have hfz51_1 := blk_frozen BK123.out 1) | ((with_reducible refine gate_callee (f := 23) rfl ?_); refine goesL_ (some 46) rfl rfl Tryz.func23 (by kernel_rfl) rfl #[.agg #[.slice A0_0 l0_0.length c0_0, .slice A0_1 l0_1.length c0_1], .int .i64 (wrap64 (Int.tmod a3 7))] rfl T2_ ?_; (with_reducible refine (tensor_Power.calls _ _ l0_0 _ _ l0_1 (wrap64 (Int.tmod a3 7)) t144 t147 t150 _ (Err.Gs.below HGs.out T9_) ?side1 ?side2 ?side3 ?side4 A30.out).mono ?_); (case side1 => exact Kd.C_below HR0_0.out T9_); (case side2 => exact HC0_0.out); (case side3 => exact Kd.C_below HR0_1.out T9_); (case side4 => exact HC0_1.out); rintro e w52 ⟨v145, v148, rfl, ho0, ho1, hb⟩; refine ⟨_, rfl, ?_⟩; have HO146 := Aside0.mk (Kd.R_lower ho0 (below_size T9_)); replace HO130 := RC_ HO130 hb; replace HO138 := RC_ HO138 hb; have HO149 := Aside0.mk (Kd.R_lower ho1 (below_size T9_)); replace HO133 := RC_ HO133 hb; replace HO141 := RC_ HO141 hb; replace BK123 := BG_ BK123 hb; replace BK124 := BG_ BK124 hb; replace BK135 := BG_ BK135 hb; replace BK143 := BP_ BK143 hb; replace HB := Aside0.mk (below_step T9_ hb); (try clear hb); (try clear hb2); (try clear hk); (try clear hi); (try clear ho0); (try clear ho1)) | ((with_reducible refine gate_dst (N := 13) rfl ?_); (try (refine gate_guard (by rfl) ?_; dsimp only)); refine box_event ?hg (N := 13) ?hd (cs := #[.slice none 0 0, .slice none 0 0]) (t := 25) ?hr ?_; (case hd => rfl); (case hg => rfl); (case hr => exact T3_); intro gb151 hg w53 hbox hb; replace HO130 := RC_ HO130 hb; replace HO133 := RC_ HO133 hb; replace HO138 := RC_ HO138 hb; replace HO141 := RC_ HO141 hb; replace HO146 := RC_ HO146 hb; replace HO149 := RC_ HO149 hb; have BK151 := Aside0.mk (hbox); have GW151 := GE_ hg; have GE151 := GE_ hg; replace HB := Aside0.mk (below_step T9_ hb); have NB123_151 := NB_ BK123 hg; have NB151_123 := NC_ BK123 hg; replace BK123 := BF_ BK123 hb; have NB124_151 := NB_ BK124 hg; have NB151_124 := NC_ BK124 hg; replace BK124 := BF_ BK124 hb; have NB135_151 := NB_ BK135 hg; have NB151_135 := NC_ BK135 hg; replace BK135 := BF_ BK135 hb; have NB143_151 := NB_ BK143 hg; have NB151_143 := NC_ BK143 hg; replace BK143 := BF_ BK143 hb; clear hb hbox hg; obtain ⟨Ao54, co54, eo54⟩ := Kd.R_slice HO146.out; subst eo54; have hnb55 := NB151_123.out; have hnc55 := NB123_151.out; have hnb56 := NB151_124.out; have hnc56 := NB124_151.out; have hnb57 := NB151_135.out; have hnc57 := NB135_151.out; have hnb58 := NB151_143.out; have hnc58 := NB143_151.out; have hcz59_0 : w53.cell? ⟨gb151, 0, none⟩ = some (.slice none 0 0) := (blk_cell BK151.out 0).trans rfl; have hcz59_1 : w53.cell? ⟨gb151, 1, none⟩ = some (.slice none 0 0) := (blk_cell BK151.out 1).trans rfl; have hfz59_0 := blk_frozen BK151.out 0; have hfz59_1 := blk_frozen BK151.out 1; obtain ⟨Ao60, co60, eo60⟩ := Kd.R_slice HO149.out; subst eo60))
    (try simp only [Act.put, List.setIfInBounds_toArray, List.set_cons_zero, List.set_cons_succ])
    go_cut [80] (fun v80 wc => ∃ (kq : Nat) (x80_30 : Bool), v80 = .bool x80_30 ∧ Aside0 (tapewrightlaw05_TensorShapes.j1 kq t150 x80_30 l0_0 l0_1 t144 t147 = some r) ∧ Aside0 (kq ≤ kj4) ∧ Aside0 (Kd.R (Kd.int .i64) 3 wc w.heap.size (fun _ => True) (.slice Ao37 t128.length co37) t128) ∧ Aside0 (Kd.R Kd.string 9 wc w.heap.size (fun _ => True) (.slice Ao41 t131.length co41) t131) ∧ Aside0 (Kd.R (Kd.int .i64) 3 wc w.heap.size (fun _ => True) (.slice Ao45 t136.length co45) t136) ∧ Aside0 (Kd.R Kd.string 9 wc w.heap.size (fun _ => True) (.slice Ao50 t139.length co50) t139) ∧ Aside0 (Kd.R (Kd.int .i64) 3 wc w.heap.size (fun _ => True) (.slice Ao54 t144.length co54) t144) ∧ Aside0 (Kd.R Kd.string 9 wc w.heap.size (fun _ => True) (.slice Ao60 t147.length co60) t147) ∧ Aside0 (wc.heap[gb123]? = some (.cells #[(.slice A0_0 l0_0.length c0_0), (.slice A0_1 l0_1.length c0_1)] 25 (0, 0))) ∧ Aside0 (wc.heap[gb124]? = some (.cells #[(.slice A1_0 l1_0.length c1_0), (.slice A1_1 l1_1.length c1_1)] 25 (0, 0))) ∧ Aside0 (wc.heap[gb135]? = some (.cells #[(.slice Ao37 t128.length co37), (.slice Ao41 t131.length co41)] 25 (0, 0))) ∧ Aside0 (wc.heap[gb143]? = some (.cells #[(.slice Ao45 t136.length co45), (.slice Ao50 t139.length co50)] 25 (0, 0))) ∧ Aside0 (wc.heap[gb151]? = some (.cells #[(.slice Ao54 t144.length co54), (.slice Ao60 t147.length co60)] 25 (0, 0))) ∧ Aside0 (Below w.heap.size w wc))
    case first =>
     have H := HC31.out
     clear HC31
     by_cases c61 : t134 = 0
     ·
      rw [if_pos c61] at H
      have c61b0 : (t134 == 0) = true := beq_iff_eq.mpr c61
      have c61b1 : (t134 != 0) = false := bne_eq_false_iff_eq.mpr c61
      clear c61
      (first | rw [c61b0] | (simp only [i64_w, i32_w]; rw [c61b0]) | skip)
      replace H := Option.bind_eq_some_iff.mp H
      obtain ⟨t152, A620, H⟩ := H
      have A62 := Aside0.mk A620
      clear A620
      by_cases c63 : t152 = true
      ·
       subst c63
       rw [if_pos rfl] at H
       replace H := Option.bind_eq_some_iff.mp H
       obtain ⟨t153, A640, H⟩ := H
       have A64 := Aside0.mk A640
       clear A640
       by_cases c65 : t153 = true
       ·
        subst c65
        rw [if_pos rfl] at H
        by_cases c66 : t142 = 0
        ·
         rw [if_pos c66] at H
         have c66b0 : (t142 == 0) = true := beq_iff_eq.mpr c66
         have c66b1 : (t142 != 0) = false := bne_eq_false_iff_eq.mpr c66
         clear c66
         replace H := Option.bind_eq_some_iff.mp H
         obtain ⟨t154, A670, H⟩ := H
         have A67 := Aside0.mk A670
         clear A670
         by_cases c68 : t154 = true
         ·
          subst c68
          rw [if_pos rfl] at H
          replace H := Option.bind_eq_some_iff.mp H
          obtain ⟨t155, A690, H⟩ := H
          have A69 := Aside0.mk A690
          clear A690
          have H' := Aside0.mk H
          clear H
          have hnb70 := NB135_123.out
          have hnc70 := NB123_135.out
          have hnb71 := NB135_124.out
          have hnc71 := NB124_135.out
          have hnb72 := NB135_143.out
          have hnc72 := NB143_135.out
          have hnb73 := NB135_151.out
          have hnc73 := NB151_135.out
          have hcz74_0 := CA_ BK135
          have hcz74_1 := CB_ BK135
          have hfz74_0 := blk_frozen BK135.out 0
          have hfz74_1 := blk_frozen BK135.out 1
          go_wp2_with (first | (go_at_call 15; (with_reducible refine (tensor_Right.calls _ _ t128 _ _ t131 true _ (Err.Gs.below HGs.out T9_) ?side1 ?side2 ?side3 ?side4 A62.out).mono ?_); (case side1 => exact C2_ HO130); (case side2 => exact (Kd.R_reads' HO130.out).2.1); (case side3 => exact C2_ HO133); (case side4 => exact (Kd.R_reads' HO133.out).2.1); rintro e w75 ⟨rfl, hb⟩; replace HO130 := RC_ HO130 hb; replace HO133 := RC_ HO133 hb; replace HO138 := RC_ HO138 hb; replace HO141 := RC_ HO141 hb; replace HO146 := RC_ HO146 hb; replace HO149 := RC_ HO149 hb; replace BK123 := BG_ BK123 hb; replace BK124 := BG_ BK124 hb; replace BK135 := BG_ BK135 hb; replace BK143 := BG_ BK143 hb; replace BK151 := BP_ BK151 hb; replace HB := Aside0.mk (below_step T9_ hb); (try clear hb); (try clear hb2); (try clear hk); (try clear hi); have hcz76_0 := CA_ BK135; have hcz76_1 := CB_ BK135; have hfz76_0 := blk_frozen BK135.out 0; have hfz76_1 := blk_frozen BK135.out 1; have hnb77 := NB123_124.out; have hnc77 := NB124_123.out; have hnb78 := NB123_143.out; have hnc78 := NB143_123.out; have hnb79 := NB123_151.out; have hnc79 := NB151_123.out; have hcz80_0 := CA_ BK123; have hcz80_1 := CB_ BK123; have hfz80_0 := blk_frozen BK123.out 0; have hfz80_1 := blk_frozen BK123.out 1) | (go_at_call 17; (with_reducible refine (tapewrightref04_Same.calls _ _ t128 _ _ l0_0 true _ ?side1 ?side2 ?side3 ?side4 A64.out).mono ?_); (case side1 => exact C2_ HO130); (case side2 => exact (Kd.R_reads' HO130.out).2.1); (case side3 => exact C1_ (Kd.C_below HR0_0.out HB.out)); (case side4 => exact HC0_0.out); rintro e w81 ⟨rfl, hb⟩; replace HO130 := RC_ HO130 hb; replace HO133 := RC_ HO133 hb; replace HO138 := RC_ HO138 hb; replace HO141 := RC_ HO141 hb; replace HO146 := RC_ HO146 hb; replace HO149 := RC_ HO149 hb; replace BK123 := BF_ BK123 hb; replace BK124 := BF_ BK124 hb; replace BK135 := BF_ BK135 hb; replace BK143 := BF_ BK143 hb; replace BK151 := BF_ BK151 hb; replace HB := Aside0.mk (below_step T9_ hb); (try clear hb); (try clear hb2); (try clear hk); (try clear hi); have hnb82 := NB143_124.out; have hnc82 := NB124_143.out; have hnb83 := NB143_151.out; have hnc83 := NB151_143.out; have hcz84_0 : w81.cell? ⟨gb143, 0, none⟩ = some (.slice Ao45 t136.length co45) := (blk_cell BK143.out 0).trans rfl; have hcz84_1 : w81.cell? ⟨gb143, 1, none⟩ = some (.slice Ao50 t139.length co50) := (blk_cell BK143.out 1).trans rfl; have hfz84_0 := blk_frozen BK143.out 0; have hfz84_1 := blk_frozen BK143.out 1) | (go_at_call 15; (with_reducible refine (tensor_Right.calls _ _ t136 _ _ t139 true _ (Err.Gs.below HGs.out T9_) ?side1 ?side2 ?side3 ?side4 A67.out).mono ?_); (case side1 => exact C2_ HO138); (case side2 => exact (Kd.R_reads' HO138.out).2.1); (case side3 => exact C2_ HO141); (case side4 => exact (Kd.R_reads' HO141.out).2.1); rintro e w85 ⟨rfl, hb⟩; replace HO130 := RC_ HO130 hb; replace HO133 := RC_ HO133 hb; replace HO138 := RC_ HO138 hb; replace HO141 := RC_ HO141 hb; replace HO146 := RC_ HO146 hb; replace HO149 := RC_ HO149 hb; replace BK123 := BF_ BK123 hb; replace BK124 := BF_ BK124 hb; replace BK135 := BF_ BK135 hb; replace BK143 := BF_ BK143 hb; replace BK151 := BF_ BK151 hb; replace HB := Aside0.mk (below_step T9_ hb); (try clear hb); (try clear hb2); (try clear hk); (try clear hi); have hcz86_0 : w85.cell? ⟨gb143, 0, none⟩ = some (.slice Ao45 t136.length co45) := (blk_cell BK143.out 0).trans rfl; have hcz86_1 : w85.cell? ⟨gb143, 1, none⟩ = some (.slice Ao50 t139.length co50) := (blk_cell BK143.out 1).trans rfl; have hfz86_0 := blk_frozen BK143.out 0; have hfz86_1 := blk_frozen BK143.out 1; have hcz87_0 := CA_ BK123; have hcz87_1 := CB_ BK123; have hfz87_0 := blk_frozen BK123.out 0; have hfz87_1 := blk_frozen BK123.out 1) | (go_at_call 17; (with_reducible refine (tapewrightref04_Same.calls _ _ t136 _ _ l0_0 t155 _ ?side1 ?side2 ?side3 ?side4 A69.out).mono ?_); (case side1 => exact C2_ HO138); (case side2 => exact (Kd.R_reads' HO138.out).2.1); (case side3 => exact C1_ (Kd.C_below HR0_0.out HB.out)); (case side4 => exact HC0_0.out); rintro e w88 ⟨rfl, hb⟩; replace HO130 := RC_ HO130 hb; replace HO133 := RC_ HO133 hb; replace HO138 := RC_ HO138 hb; replace HO141 := RC_ HO141 hb; replace HO146 := RC_ HO146 hb; replace HO149 := RC_ HO149 hb; replace BK123 := BF_ BK123 hb; replace BK124 := BF_ BK124 hb; replace BK135 := BF_ BK135 hb; replace BK143 := BF_ BK143 hb; replace BK151 := BF_ BK151 hb; replace HB := Aside0.mk (below_step T9_ hb); (try clear hb); (try clear hb2); (try clear hk); (try clear hi)))
          go_meet
          case rel => exact ⟨_, (!t155), (by first | rfl | (simp; done) | (simp [*]; done)), H', ⟨by have := HJ4.out; first | omega | exact Nat.le_refl _⟩, ⟨by (with_reducible repeat (first | apply Kd.R_alloc | apply Kd.R_drewN | apply Kd.R_drew)); exact Kd.R_mono HO130.out (fun _ hk => trivial)⟩, ⟨by (with_reducible repeat (first | apply Kd.R_alloc | apply Kd.R_drewN | apply Kd.R_drew)); exact Kd.R_mono HO133.out (fun _ hk => trivial)⟩, ⟨by (with_reducible repeat (first | apply Kd.R_alloc | apply Kd.R_drewN | apply Kd.R_drew)); exact Kd.R_mono HO138.out (fun _ hk => trivial)⟩, ⟨by (with_reducible repeat (first | apply Kd.R_alloc | apply Kd.R_drewN | apply Kd.R_drew)); exact Kd.R_mono HO141.out (fun _ hk => trivial)⟩, ⟨by (with_reducible repeat (first | apply Kd.R_alloc | apply Kd.R_drewN | apply Kd.R_drew)); exact Kd.R_mono HO146.out (fun _ hk => trivial)⟩, ⟨by (with_reducible repeat (first | apply Kd.R_alloc | apply Kd.R_drewN | apply Kd.R_drew)); exact Kd.R_mono HO149.out (fun _ hk => trivial)⟩, ⟨by (with_reducible repeat (first | refine blk_drewN ?_ _ | refine blk_drew ?_ | refine blk_alloc ?_ _)); exact BK123.out⟩, ⟨by (with_reducible repeat (first | refine blk_drewN ?_ _ | refine blk_drew ?_ | refine blk_alloc ?_ _)); exact BK124.out⟩, ⟨by (with_reducible repeat (first | refine blk_drewN ?_ _ | refine blk_drew ?_ | refine blk_alloc ?_ _)); exact BK135.out⟩, ⟨by (with_reducible repeat (first | refine blk_drewN ?_ _ | refine blk_drew ?_ | refine blk_alloc ?_ _)); exact BK143.out⟩, ⟨by (with_reducible repeat (first | refine blk_drewN ?_ _ | refine blk_drew ?_ | refine blk_alloc ?_ _)); exact BK151.out⟩, ⟨by repeat (first | (with_reducible first | exact HB.out | apply below_alloc | apply pw_below_drewN | apply below_drew1 | refine below_set ?_ GE123.out | refine below_set ?_ GE124.out | refine below_set ?_ GE135.out | refine below_set ?_ GE143.out | refine below_set ?_ GE151.out) | exact HB.out)⟩⟩
         ·
          replace c68 := Bool.eq_false_iff.mpr c68
          subst c68
          rw [if_neg (show ¬ (false = true) by decide)] at H
          have H' := Aside0.mk H
          clear H
          have hnb89 := NB135_123.out
          have hnc89 := NB123_135.out
          have hnb90 := NB135_124.out
          have hnc90 := NB124_135.out
          have hnb91 := NB135_143.out
          have hnc91 := NB143_135.out
          have hnb92 := NB135_151.out
          have hnc92 := NB151_135.out
          have hcz93_0 := CA_ BK135
          have hcz93_1 := CB_ BK135
          have hfz93_0 := blk_frozen BK135.out 0
          have hfz93_1 := blk_frozen BK135.out 1
          go_wp2_with (first | (go_at_call 15; (with_reducible refine (tensor_Right.calls _ _ t128 _ _ t131 true _ (Err.Gs.below HGs.out T9_) ?side1 ?side2 ?side3 ?side4 A62.out).mono ?_); (case side1 => exact C2_ HO130); (case side2 => exact (Kd.R_reads' HO130.out).2.1); (case side3 => exact C2_ HO133); (case side4 => exact (Kd.R_reads' HO133.out).2.1); rintro e w94 ⟨rfl, hb⟩; replace HO130 := RC_ HO130 hb; replace HO133 := RC_ HO133 hb; replace HO138 := RC_ HO138 hb; replace HO141 := RC_ HO141 hb; replace HO146 := RC_ HO146 hb; replace HO149 := RC_ HO149 hb; replace BK123 := BG_ BK123 hb; replace BK124 := BG_ BK124 hb; replace BK135 := BG_ BK135 hb; replace BK143 := BG_ BK143 hb; replace BK151 := BP_ BK151 hb; replace HB := Aside0.mk (below_step T9_ hb); (try clear hb); (try clear hb2); (try clear hk); (try clear hi); have hcz95_0 := CA_ BK135; have hcz95_1 := CB_ BK135; have hfz95_0 := blk_frozen BK135.out 0; have hfz95_1 := blk_frozen BK135.out 1; have hnb96 := NB123_124.out; have hnc96 := NB124_123.out; have hnb97 := NB123_143.out; have hnc97 := NB143_123.out; have hnb98 := NB123_151.out; have hnc98 := NB151_123.out; have hcz99_0 := CA_ BK123; have hcz99_1 := CB_ BK123; have hfz99_0 := blk_frozen BK123.out 0; have hfz99_1 := blk_frozen BK123.out 1) | (go_at_call 17; (with_reducible refine (tapewrightref04_Same.calls _ _ t128 _ _ l0_0 true _ ?side1 ?side2 ?side3 ?side4 A64.out).mono ?_); (case side1 => exact C2_ HO130); (case side2 => exact (Kd.R_reads' HO130.out).2.1); (case side3 => exact C1_ (Kd.C_below HR0_0.out HB.out)); (case side4 => exact HC0_0.out); rintro e w100 ⟨rfl, hb⟩; replace HO130 := RC_ HO130 hb; replace HO133 := RC_ HO133 hb; replace HO138 := RC_ HO138 hb; replace HO141 := RC_ HO141 hb; replace HO146 := RC_ HO146 hb; replace HO149 := RC_ HO149 hb; replace BK123 := BF_ BK123 hb; replace BK124 := BF_ BK124 hb; replace BK135 := BF_ BK135 hb; replace BK143 := BF_ BK143 hb; replace BK151 := BF_ BK151 hb; replace HB := Aside0.mk (below_step T9_ hb); (try clear hb); (try clear hb2); (try clear hk); (try clear hi); have hnb101 := NB143_124.out; have hnc101 := NB124_143.out; have hnb102 := NB143_151.out; have hnc102 := NB151_143.out; have hcz103_0 : w100.cell? ⟨gb143, 0, none⟩ = some (.slice Ao45 t136.length co45) := (blk_cell BK143.out 0).trans rfl; have hcz103_1 : w100.cell? ⟨gb143, 1, none⟩ = some (.slice Ao50 t139.length co50) := (blk_cell BK143.out 1).trans rfl; have hfz103_0 := blk_frozen BK143.out 0; have hfz103_1 := blk_frozen BK143.out 1) | (go_at_call 15; (with_reducible refine (tensor_Right.calls _ _ t136 _ _ t139 false _ (Err.Gs.below HGs.out T9_) ?side1 ?side2 ?side3 ?side4 A67.out).mono ?_); (case side1 => exact C2_ HO138); (case side2 => exact (Kd.R_reads' HO138.out).2.1); (case side3 => exact C2_ HO141); (case side4 => exact (Kd.R_reads' HO141.out).2.1); rintro e w104 ⟨rfl, hb⟩; replace HO130 := RC_ HO130 hb; replace HO133 := RC_ HO133 hb; replace HO138 := RC_ HO138 hb; replace HO141 := RC_ HO141 hb; replace HO146 := RC_ HO146 hb; replace HO149 := RC_ HO149 hb; replace BK123 := BF_ BK123 hb; replace BK124 := BF_ BK124 hb; replace BK135 := BF_ BK135 hb; replace BK143 := BF_ BK143 hb; replace BK151 := BF_ BK151 hb; replace HB := Aside0.mk (below_step T9_ hb); (try clear hb); (try clear hb2); (try clear hk); (try clear hi)))
          go_meet
          case rel => exact ⟨_, (true), (by first | rfl | (simp; done) | (simp [*]; done)), H', ⟨by have := HJ4.out; first | omega | exact Nat.le_refl _⟩, ⟨by (with_reducible repeat (first | apply Kd.R_alloc | apply Kd.R_drewN | apply Kd.R_drew)); exact Kd.R_mono HO130.out (fun _ hk => trivial)⟩, ⟨by (with_reducible repeat (first | apply Kd.R_alloc | apply Kd.R_drewN | apply Kd.R_drew)); exact Kd.R_mono HO133.out (fun _ hk => trivial)⟩, ⟨by (with_reducible repeat (first | apply Kd.R_alloc | apply Kd.R_drewN | apply Kd.R_drew)); exact Kd.R_mono HO138.out (fun _ hk => trivial)⟩, ⟨by (with_reducible repeat (first | apply Kd.R_alloc | apply Kd.R_drewN | apply Kd.R_drew)); exact Kd.R_mono HO141.out (fun _ hk => trivial)⟩, ⟨by (with_reducible repeat (first | apply Kd.R_alloc | apply Kd.R_drewN | apply Kd.R_drew)); exact Kd.R_mono HO146.out (fun _ hk => trivial)⟩, ⟨by (with_reducible repeat (first | apply Kd.R_alloc | apply Kd.R_drewN | apply Kd.R_drew)); exact Kd.R_mono HO149.out (fun _ hk => trivial)⟩, ⟨by (with_reducible repeat (first | refine blk_drewN ?_ _ | refine blk_drew ?_ | refine blk_alloc ?_ _)); exact BK123.out⟩, ⟨by (with_reducible repeat (first | refine blk_drewN ?_ _ | refine blk_drew ?_ | refine blk_alloc ?_ _)); exact BK124.out⟩, ⟨by (with_reducible repeat (first | refine blk_drewN ?_ _ | refine blk_drew ?_ | refine blk_alloc ?_ _)); exact BK135.out⟩, ⟨by (with_reducible repeat (first | refine blk_drewN ?_ _ | refine blk_drew ?_ | refine blk_alloc ?_ _)); exact BK143.out⟩, ⟨by (with_reducible repeat (first | refine blk_drewN ?_ _ | refine blk_drew ?_ | refine blk_alloc ?_ _)); exact BK151.out⟩, ⟨by repeat (first | (with_reducible first | exact HB.out | apply below_alloc | apply pw_below_drewN | apply below_drew1 | refine below_set ?_ GE123.out | refine below_set ?_ GE124.out | refine below_set ?_ GE135.out | refine below_set ?_ GE143.out | refine below_set ?_ GE151.out) | exact HB.out)⟩⟩
        ·
         rw [if_neg c66] at H
         have c66b0 : (t142 == 0) = false := beq_eq_false_iff_ne.mpr c66
         have c66b1 : (t142 != 0) = true := bne_iff_ne.mpr c66
         have H' := Aside0.mk H
         clear H
         have hnb105 := NB135_123.out
         have hnc105 := NB123_135.out
         have hnb106 := NB135_124.out
         have hnc106 := NB124_135.out
         have hnb107 := NB135_143.out
         have hnc107 := NB143_135.out
         have hnb108 := NB135_151.out
         have hnc108 := NB151_135.out
         have hcz109_0 := CA_ BK135
         have hcz109_1 := CB_ BK135
         have hfz109_0 := blk_frozen BK135.out 0
         have hfz109_1 := blk_frozen BK135.out 1
         go_wp2_with (first | (go_at_call 15; (with_reducible refine (tensor_Right.calls _ _ t128 _ _ t131 true _ (Err.Gs.below HGs.out T9_) ?side1 ?side2 ?side3 ?side4 A62.out).mono ?_); (case side1 => exact C2_ HO130); (case side2 => exact (Kd.R_reads' HO130.out).2.1); (case side3 => exact C2_ HO133); (case side4 => exact (Kd.R_reads' HO133.out).2.1); rintro e w110 ⟨rfl, hb⟩; replace HO130 := RC_ HO130 hb; replace HO133 := RC_ HO133 hb; replace HO138 := RC_ HO138 hb; replace HO141 := RC_ HO141 hb; replace HO146 := RC_ HO146 hb; replace HO149 := RC_ HO149 hb; replace BK123 := BG_ BK123 hb; replace BK124 := BG_ BK124 hb; replace BK135 := BG_ BK135 hb; replace BK143 := BG_ BK143 hb; replace BK151 := BP_ BK151 hb; replace HB := Aside0.mk (below_step T9_ hb); (try clear hb); (try clear hb2); (try clear hk); (try clear hi); have hcz111_0 := CA_ BK135; have hcz111_1 := CB_ BK135; have hfz111_0 := blk_frozen BK135.out 0; have hfz111_1 := blk_frozen BK135.out 1; have hnb112 := NB123_124.out; have hnc112 := NB124_123.out; have hnb113 := NB123_143.out; have hnc113 := NB143_123.out; have hnb114 := NB123_151.out; have hnc114 := NB151_123.out; have hcz115_0 := CA_ BK123; have hcz115_1 := CB_ BK123; have hfz115_0 := blk_frozen BK123.out 0; have hfz115_1 := blk_frozen BK123.out 1) | (go_at_call 17; (with_reducible refine (tapewrightref04_Same.calls _ _ t128 _ _ l0_0 true _ ?side1 ?side2 ?side3 ?side4 A64.out).mono ?_); (case side1 => exact C2_ HO130); (case side2 => exact (Kd.R_reads' HO130.out).2.1); (case side3 => exact C1_ (Kd.C_below HR0_0.out HB.out)); (case side4 => exact HC0_0.out); rintro e w116 ⟨rfl, hb⟩; replace HO130 := RC_ HO130 hb; replace HO133 := RC_ HO133 hb; replace HO138 := RC_ HO138 hb; replace HO141 := RC_ HO141 hb; replace HO146 := RC_ HO146 hb; replace HO149 := RC_ HO149 hb; replace BK123 := BF_ BK123 hb; replace BK124 := BF_ BK124 hb; replace BK135 := BF_ BK135 hb; replace BK143 := BF_ BK143 hb; replace BK151 := BF_ BK151 hb; replace HB := Aside0.mk (below_step T9_ hb); (try clear hb); (try clear hb2); (try clear hk); (try clear hi)))
         go_meet
         case rel => exact ⟨_, (false), (by first | rfl | (simp; done) | (simp [*]; done)), H', ⟨by have := HJ4.out; first | omega | exact Nat.le_refl _⟩, ⟨by (with_reducible repeat (first | apply Kd.R_alloc | apply Kd.R_drewN | apply Kd.R_drew)); exact Kd.R_mono HO130.out (fun _ hk => trivial)⟩, ⟨by (with_reducible repeat (first | apply Kd.R_alloc | apply Kd.R_drewN | apply Kd.R_drew)); exact Kd.R_mono HO133.out (fun _ hk => trivial)⟩, ⟨by (with_reducible repeat (first | apply Kd.R_alloc | apply Kd.R_drewN | apply Kd.R_drew)); exact Kd.R_mono HO138.out (fun _ hk => trivial)⟩, ⟨by (with_reducible repeat (first | apply Kd.R_alloc | apply Kd.R_drewN | apply Kd.R_drew)); exact Kd.R_mono HO141.out (fun _ hk => trivial)⟩, ⟨by (with_reducible repeat (first | apply Kd.R_alloc | apply Kd.R_drewN | apply Kd.R_drew)); exact Kd.R_mono HO146.out (fun _ hk => trivial)⟩, ⟨by (with_reducible repeat (first | apply Kd.R_alloc | apply Kd.R_drewN | apply Kd.R_drew)); exact Kd.R_mono HO149.out (fun _ hk => trivial)⟩, ⟨by (with_reducible repeat (first | refine blk_drewN ?_ _ | refine blk_drew ?_ | refine blk_alloc ?_ _)); exact BK123.out⟩, ⟨by (with_reducible repeat (first | refine blk_drewN ?_ _ | refine blk_drew ?_ | refine blk_alloc ?_ _)); exact BK124.out⟩, ⟨by (with_reducible repeat (first | refine blk_drewN ?_ _ | refine blk_drew ?_ | refine blk_alloc ?_ _)); exact BK135.out⟩, ⟨by (with_reducible repeat (first | refine blk_drewN ?_ _ | refine blk_drew ?_ | refine blk_alloc ?_ _)); exact BK143.out⟩, ⟨by (with_reducible repeat (first | refine blk_drewN ?_ _ | refine blk_drew ?_ | refine blk_alloc ?_ _)); exact BK151.out⟩, ⟨by repeat (first | (with_reducible first | exact HB.out | apply below_alloc | apply pw_below_drewN | apply below_drew1 | refine below_set ?_ GE123.out | refine below_set ?_ GE124.out | refine below_set ?_ GE135.out | refine below_set ?_ GE143.out | refine below_set ?_ GE151.out) | exact HB.out)⟩⟩
       ·
        replace c65 := Bool.eq_false_iff.mpr c65
        subst c65
        rw [if_neg (show ¬ (false = true) by decide)] at H
        have H' := Aside0.mk H
        clear H
        have hnb117 := NB135_123.out
        have hnc117 := NB123_135.out
        have hnb118 := NB135_124.out
        have hnc118 := NB124_135.out
        have hnb119 := NB135_143.out
        have hnc119 := NB143_135.out
        have hnb120 := NB135_151.out
        have hnc120 := NB151_135.out
        have hcz121_0 := CA_ BK135
        have hcz121_1 := CB_ BK135
        have hfz121_0 := blk_frozen BK135.out 0
        have hfz121_1 := blk_frozen BK135.out 1
        go_wp2_with (first | (go_at_call 15; (with_reducible refine (tensor_Right.calls _ _ t128 _ _ t131 true _ (Err.Gs.below HGs.out T9_) ?side1 ?side2 ?side3 ?side4 A62.out).mono ?_); (case side1 => exact C2_ HO130); (case side2 => exact (Kd.R_reads' HO130.out).2.1); (case side3 => exact C2_ HO133); (case side4 => exact (Kd.R_reads' HO133.out).2.1); rintro e w122 ⟨rfl, hb⟩; replace HO130 := RC_ HO130 hb; replace HO133 := RC_ HO133 hb; replace HO138 := RC_ HO138 hb; replace HO141 := RC_ HO141 hb; replace HO146 := RC_ HO146 hb; replace HO149 := RC_ HO149 hb; replace BK123 := BG_ BK123 hb; replace BK124 := BG_ BK124 hb; replace BK135 := BG_ BK135 hb; replace BK143 := BG_ BK143 hb; replace BK151 := BP_ BK151 hb; replace HB := Aside0.mk (below_step T9_ hb); (try clear hb); (try clear hb2); (try clear hk); (try clear hi); have hcz123_0 := CA_ BK135; have hcz123_1 := CB_ BK135; have hfz123_0 := blk_frozen BK135.out 0; have hfz123_1 := blk_frozen BK135.out 1; have hnb124 := NB123_124.out; have hnc124 := NB124_123.out; have hnb125 := NB123_143.out; have hnc125 := NB143_123.out; have hnb126 := NB123_151.out; have hnc126 := NB151_123.out; have hcz127_0 := CA_ BK123; have hcz127_1 := CB_ BK123; have hfz127_0 := blk_frozen BK123.out 0; have hfz127_1 := blk_frozen BK123.out 1) | (go_at_call 17; (with_reducible refine (tapewrightref04_Same.calls _ _ t128 _ _ l0_0 false _ ?side1 ?side2 ?side3 ?side4 A64.out).mono ?_); (case side1 => exact C2_ HO130); (case side2 => exact (Kd.R_reads' HO130.out).2.1); (case side3 => exact C1_ (Kd.C_below HR0_0.out HB.out)); (case side4 => exact HC0_0.out); rintro e w128 ⟨rfl, hb⟩; replace HO130 := RC_ HO130 hb; replace HO133 := RC_ HO133 hb; replace HO138 := RC_ HO138 hb; replace HO141 := RC_ HO141 hb; replace HO146 := RC_ HO146 hb; replace HO149 := RC_ HO149 hb; replace BK123 := BF_ BK123 hb; replace BK124 := BF_ BK124 hb; replace BK135 := BF_ BK135 hb; replace BK143 := BF_ BK143 hb; replace BK151 := BF_ BK151 hb; replace HB := Aside0.mk (below_step T9_ hb); (try clear hb); (try clear hb2); (try clear hk); (try clear hi)))
        go_meet
        case rel => exact ⟨_, (true), (by first | rfl | (simp; done) | (simp [*]; done)), H', ⟨by have := HJ4.out; first | omega | exact Nat.le_refl _⟩, ⟨by (with_reducible repeat (first | apply Kd.R_alloc | apply Kd.R_drewN | apply Kd.R_drew)); exact Kd.R_mono HO130.out (fun _ hk => trivial)⟩, ⟨by (with_reducible repeat (first | apply Kd.R_alloc | apply Kd.R_drewN | apply Kd.R_drew)); exact Kd.R_mono HO133.out (fun _ hk => trivial)⟩, ⟨by (with_reducible repeat (first | apply Kd.R_alloc | apply Kd.R_drewN | apply Kd.R_drew)); exact Kd.R_mono HO138.out (fun _ hk => trivial)⟩, ⟨by (with_reducible repeat (first | apply Kd.R_alloc | apply Kd.R_drewN | apply Kd.R_drew)); exact Kd.R_mono HO141.out (fun _ hk => trivial)⟩, ⟨by (with_reducible repeat (first | apply Kd.R_alloc | apply Kd.R_drewN | apply Kd.R_drew)); exact Kd.R_mono HO146.out (fun _ hk => trivial)⟩, ⟨by (with_reducible repeat (first | apply Kd.R_alloc | apply Kd.R_drewN | apply Kd.R_drew)); exact Kd.R_mono HO149.out (fun _ hk => trivial)⟩, ⟨by (with_reducible repeat (first | refine blk_drewN ?_ _ | refine blk_drew ?_ | refine blk_alloc ?_ _)); exact BK123.out⟩, ⟨by (with_reducible repeat (first | refine blk_drewN ?_ _ | refine blk_drew ?_ | refine blk_alloc ?_ _)); exact BK124.out⟩, ⟨by (with_reducible repeat (first | refine blk_drewN ?_ _ | refine blk_drew ?_ | refine blk_alloc ?_ _)); exact BK135.out⟩, ⟨by (with_reducible repeat (first | refine blk_drewN ?_ _ | refine blk_drew ?_ | refine blk_alloc ?_ _)); exact BK143.out⟩, ⟨by (with_reducible repeat (first | refine blk_drewN ?_ _ | refine blk_drew ?_ | refine blk_alloc ?_ _)); exact BK151.out⟩, ⟨by repeat (first | (with_reducible first | exact HB.out | apply below_alloc | apply pw_below_drewN | apply below_drew1 | refine below_set ?_ GE123.out | refine below_set ?_ GE124.out | refine below_set ?_ GE135.out | refine below_set ?_ GE143.out | refine below_set ?_ GE151.out) | exact HB.out)⟩⟩
      ·
       replace c63 := Bool.eq_false_iff.mpr c63
       subst c63
       rw [if_neg (show ¬ (false = true) by decide)] at H
       have H' := Aside0.mk H
       clear H
       have hnb129 := NB135_123.out
       have hnc129 := NB123_135.out
       have hnb130 := NB135_124.out
       have hnc130 := NB124_135.out
       have hnb131 := NB135_143.out
       have hnc131 := NB143_135.out
       have hnb132 := NB135_151.out
       have hnc132 := NB151_135.out
       have hcz133_0 := CA_ BK135
       have hcz133_1 := CB_ BK135
       have hfz133_0 := blk_frozen BK135.out 0
       have hfz133_1 := blk_frozen BK135.out 1
       go_wp2_with (first | (go_at_call 15; (with_reducible refine (tensor_Right.calls _ _ t128 _ _ t131 false _ (Err.Gs.below HGs.out T9_) ?side1 ?side2 ?side3 ?side4 A62.out).mono ?_); (case side1 => exact C2_ HO130); (case side2 => exact (Kd.R_reads' HO130.out).2.1); (case side3 => exact C2_ HO133); (case side4 => exact (Kd.R_reads' HO133.out).2.1); rintro e w134 ⟨rfl, hb⟩; replace HO130 := RC_ HO130 hb; replace HO133 := RC_ HO133 hb; replace HO138 := RC_ HO138 hb; replace HO141 := RC_ HO141 hb; replace HO146 := RC_ HO146 hb; replace HO149 := RC_ HO149 hb; replace BK123 := BG_ BK123 hb; replace BK124 := BG_ BK124 hb; replace BK135 := BG_ BK135 hb; replace BK143 := BG_ BK143 hb; replace BK151 := BP_ BK151 hb; replace HB := Aside0.mk (below_step T9_ hb); (try clear hb); (try clear hb2); (try clear hk); (try clear hi)))
       go_meet
       case rel => exact ⟨_, (true), (by first | rfl | (simp; done) | (simp [*]; done)), H', ⟨by have := HJ4.out; first | omega | exact Nat.le_refl _⟩, ⟨by (with_reducible repeat (first | apply Kd.R_alloc | apply Kd.R_drewN | apply Kd.R_drew)); exact Kd.R_mono HO130.out (fun _ hk => trivial)⟩, ⟨by (with_reducible repeat (first | apply Kd.R_alloc | apply Kd.R_drewN | apply Kd.R_drew)); exact Kd.R_mono HO133.out (fun _ hk => trivial)⟩, ⟨by (with_reducible repeat (first | apply Kd.R_alloc | apply Kd.R_drewN | apply Kd.R_drew)); exact Kd.R_mono HO138.out (fun _ hk => trivial)⟩, ⟨by (with_reducible repeat (first | apply Kd.R_alloc | apply Kd.R_drewN | apply Kd.R_drew)); exact Kd.R_mono HO141.out (fun _ hk => trivial)⟩, ⟨by (with_reducible repeat (first | apply Kd.R_alloc | apply Kd.R_drewN | apply Kd.R_drew)); exact Kd.R_mono HO146.out (fun _ hk => trivial)⟩, ⟨by (with_reducible repeat (first | apply Kd.R_alloc | apply Kd.R_drewN | apply Kd.R_drew)); exact Kd.R_mono HO149.out (fun _ hk => trivial)⟩, ⟨by (with_reducible repeat (first | refine blk_drewN ?_ _ | refine blk_drew ?_ | refine blk_alloc ?_ _)); exact BK123.out⟩, ⟨by (with_reducible repeat (first | refine blk_drewN ?_ _ | refine blk_drew ?_ | refine blk_alloc ?_ _)); exact BK124.out⟩, ⟨by (with_reducible repeat (first | refine blk_drewN ?_ _ | refine blk_drew ?_ | refine blk_alloc ?_ _)); exact BK135.out⟩, ⟨by (with_reducible repeat (first | refine blk_drewN ?_ _ | refine blk_drew ?_ | refine blk_alloc ?_ _)); exact BK143.out⟩, ⟨by (with_reducible repeat (first | refine blk_drewN ?_ _ | refine blk_drew ?_ | refine blk_alloc ?_ _)); exact BK151.out⟩, ⟨by repeat (first | (with_reducible first | exact HB.out | apply below_alloc | apply pw_below_drewN | apply below_drew1 | refine below_set ?_ GE123.out | refine below_set ?_ GE124.out | refine below_set ?_ GE135.out | refine below_set ?_ GE143.out | refine below_set ?_ GE151.out) | exact HB.out)⟩⟩
     ·
      rw [if_neg c61] at H
      have c61b0 : (t134 == 0) = false := beq_eq_false_iff_ne.mpr c61
      have c61b1 : (t134 != 0) = true := bne_iff_ne.mpr c61
      (first | rw [c61b0] | (simp only [i64_w, i32_w]; rw [c61b0]) | skip)
      by_cases c135 : t142 = 0
      ·
       rw [if_pos c135] at H
       have c135b0 : (t142 == 0) = true := beq_iff_eq.mpr c135
       have c135b1 : (t142 != 0) = false := bne_eq_false_iff_eq.mpr c135
       clear c135
       replace H := Option.bind_eq_some_iff.mp H
       obtain ⟨t156, A1360, H⟩ := H
       have A136 := Aside0.mk A1360
       clear A1360
       by_cases c137 : t156 = true
       ·
        subst c137
        rw [if_pos rfl] at H
        replace H := Option.bind_eq_some_iff.mp H
        obtain ⟨t157, A1380, H⟩ := H
        have A138 := Aside0.mk A1380
        clear A1380
        have H' := Aside0.mk H
        clear H
        have hnb139 := NB143_123.out
        have hnc139 := NB123_143.out
        have hnb140 := NB143_124.out
        have hnc140 := NB124_143.out
        have hnb141 := NB143_135.out
        have hnc141 := NB135_143.out
        have hnb142 := NB143_151.out
        have hnc142 := NB151_143.out
        have hcz143_0 : w53.cell? ⟨gb143, 0, none⟩ = some (.slice Ao45 t136.length co45) := (blk_cell BK143.out 0).trans rfl
        have hcz143_1 : w53.cell? ⟨gb143, 1, none⟩ = some (.slice Ao50 t139.length co50) := (blk_cell BK143.out 1).trans rfl
        have hfz143_0 := blk_frozen BK143.out 0
        have hfz143_1 := blk_frozen BK143.out 1
        go_wp2_with (first | (go_at_call 15; (with_reducible refine (tensor_Right.calls _ _ t136 _ _ t139 true _ (Err.Gs.below HGs.out T9_) ?side1 ?side2 ?side3 ?side4 A136.out).mono ?_); (case side1 => exact C2_ HO138); (case side2 => exact (Kd.R_reads' HO138.out).2.1); (case side3 => exact C2_ HO141); (case side4 => exact (Kd.R_reads' HO141.out).2.1); rintro e w144 ⟨rfl, hb⟩; replace HO130 := RC_ HO130 hb; replace HO133 := RC_ HO133 hb; replace HO138 := RC_ HO138 hb; replace HO141 := RC_ HO141 hb; replace HO146 := RC_ HO146 hb; replace HO149 := RC_ HO149 hb; replace BK123 := BG_ BK123 hb; replace BK124 := BG_ BK124 hb; replace BK135 := BG_ BK135 hb; replace BK143 := BG_ BK143 hb; replace BK151 := BP_ BK151 hb; replace HB := Aside0.mk (below_step T9_ hb); (try clear hb); (try clear hb2); (try clear hk); (try clear hi); have hcz145_0 : w144.cell? ⟨gb143, 0, none⟩ = some (.slice Ao45 t136.length co45) := (blk_cell BK143.out 0).trans rfl; have hcz145_1 : w144.cell? ⟨gb143, 1, none⟩ = some (.slice Ao50 t139.length co50) := (blk_cell BK143.out 1).trans rfl; have hfz145_0 := blk_frozen BK143.out 0; have hfz145_1 := blk_frozen BK143.out 1; have hnb146 := NB123_124.out; have hnc146 := NB124_123.out; have hnb147 := NB123_135.out; have hnc147 := NB135_123.out; have hnb148 := NB123_151.out; have hnc148 := NB151_123.out; have hcz149_0 := CA_ BK123; have hcz149_1 := CB_ BK123; have hfz149_0 := blk_frozen BK123.out 0; have hfz149_1 := blk_frozen BK123.out 1) | (go_at_call 17; (with_reducible refine (tapewrightref04_Same.calls _ _ t136 _ _ l0_0 t157 _ ?side1 ?side2 ?side3 ?side4 A138.out).mono ?_); (case side1 => exact C2_ HO138); (case side2 => exact (Kd.R_reads' HO138.out).2.1); (case side3 => exact C1_ (Kd.C_below HR0_0.out HB.out)); (case side4 => exact HC0_0.out); rintro e w150 ⟨rfl, hb⟩; replace HO130 := RC_ HO130 hb; replace HO133 := RC_ HO133 hb; replace HO138 := RC_ HO138 hb; replace HO141 := RC_ HO141 hb; replace HO146 := RC_ HO146 hb; replace HO149 := RC_ HO149 hb; replace BK123 := BF_ BK123 hb; replace BK124 := BF_ BK124 hb; replace BK135 := BF_ BK135 hb; replace BK143 := BF_ BK143 hb; replace BK151 := BF_ BK151 hb; replace HB := Aside0.mk (below_step T9_ hb); (try clear hb); (try clear hb2); (try clear hk); (try clear hi)))
        go_meet
        case rel => exact ⟨_, (!t157), (by first | rfl | (simp; done) | (simp [*]; done)), H', ⟨by have := HJ4.out; first | omega | exact Nat.le_refl _⟩, ⟨by (with_reducible repeat (first | apply Kd.R_alloc | apply Kd.R_drewN | apply Kd.R_drew)); exact Kd.R_mono HO130.out (fun _ hk => trivial)⟩, ⟨by (with_reducible repeat (first | apply Kd.R_alloc | apply Kd.R_drewN | apply Kd.R_drew)); exact Kd.R_mono HO133.out (fun _ hk => trivial)⟩, ⟨by (with_reducible repeat (first | apply Kd.R_alloc | apply Kd.R_drewN | apply Kd.R_drew)); exact Kd.R_mono HO138.out (fun _ hk => trivial)⟩, ⟨by (with_reducible repeat (first | apply Kd.R_alloc | apply Kd.R_drewN | apply Kd.R_drew)); exact Kd.R_mono HO141.out (fun _ hk => trivial)⟩, ⟨by (with_reducible repeat (first | apply Kd.R_alloc | apply Kd.R_drewN | apply Kd.R_drew)); exact Kd.R_mono HO146.out (fun _ hk => trivial)⟩, ⟨by (with_reducible repeat (first | apply Kd.R_alloc | apply Kd.R_drewN | apply Kd.R_drew)); exact Kd.R_mono HO149.out (fun _ hk => trivial)⟩, ⟨by (with_reducible repeat (first | refine blk_drewN ?_ _ | refine blk_drew ?_ | refine blk_alloc ?_ _)); exact BK123.out⟩, ⟨by (with_reducible repeat (first | refine blk_drewN ?_ _ | refine blk_drew ?_ | refine blk_alloc ?_ _)); exact BK124.out⟩, ⟨by (with_reducible repeat (first | refine blk_drewN ?_ _ | refine blk_drew ?_ | refine blk_alloc ?_ _)); exact BK135.out⟩, ⟨by (with_reducible repeat (first | refine blk_drewN ?_ _ | refine blk_drew ?_ | refine blk_alloc ?_ _)); exact BK143.out⟩, ⟨by (with_reducible repeat (first | refine blk_drewN ?_ _ | refine blk_drew ?_ | refine blk_alloc ?_ _)); exact BK151.out⟩, ⟨by repeat (first | (with_reducible first | exact HB.out | apply below_alloc | apply pw_below_drewN | apply below_drew1 | refine below_set ?_ GE123.out | refine below_set ?_ GE124.out | refine below_set ?_ GE135.out | refine below_set ?_ GE143.out | refine below_set ?_ GE151.out) | exact HB.out)⟩⟩
       ·
        replace c137 := Bool.eq_false_iff.mpr c137
        subst c137
        rw [if_neg (show ¬ (false = true) by decide)] at H
        have H' := Aside0.mk H
        clear H
        have hnb151 := NB143_123.out
        have hnc151 := NB123_143.out
        have hnb152 := NB143_124.out
        have hnc152 := NB124_143.out
        have hnb153 := NB143_135.out
        have hnc153 := NB135_143.out
        have hnb154 := NB143_151.out
        have hnc154 := NB151_143.out
        have hcz155_0 : w53.cell? ⟨gb143, 0, none⟩ = some (.slice Ao45 t136.length co45) := (blk_cell BK143.out 0).trans rfl
        have hcz155_1 : w53.cell? ⟨gb143, 1, none⟩ = some (.slice Ao50 t139.length co50) := (blk_cell BK143.out 1).trans rfl
        have hfz155_0 := blk_frozen BK143.out 0
        have hfz155_1 := blk_frozen BK143.out 1
        go_wp2_with (first | (go_at_call 15; (with_reducible refine (tensor_Right.calls _ _ t136 _ _ t139 false _ (Err.Gs.below HGs.out T9_) ?side1 ?side2 ?side3 ?side4 A136.out).mono ?_); (case side1 => exact C2_ HO138); (case side2 => exact (Kd.R_reads' HO138.out).2.1); (case side3 => exact C2_ HO141); (case side4 => exact (Kd.R_reads' HO141.out).2.1); rintro e w156 ⟨rfl, hb⟩; replace HO130 := RC_ HO130 hb; replace HO133 := RC_ HO133 hb; replace HO138 := RC_ HO138 hb; replace HO141 := RC_ HO141 hb; replace HO146 := RC_ HO146 hb; replace HO149 := RC_ HO149 hb; replace BK123 := BG_ BK123 hb; replace BK124 := BG_ BK124 hb; replace BK135 := BG_ BK135 hb; replace BK143 := BG_ BK143 hb; replace BK151 := BP_ BK151 hb; replace HB := Aside0.mk (below_step T9_ hb); (try clear hb); (try clear hb2); (try clear hk); (try clear hi)))
        go_meet
        case rel => exact ⟨_, (true), (by first | rfl | (simp; done) | (simp [*]; done)), H', ⟨by have := HJ4.out; first | omega | exact Nat.le_refl _⟩, ⟨by (with_reducible repeat (first | apply Kd.R_alloc | apply Kd.R_drewN | apply Kd.R_drew)); exact Kd.R_mono HO130.out (fun _ hk => trivial)⟩, ⟨by (with_reducible repeat (first | apply Kd.R_alloc | apply Kd.R_drewN | apply Kd.R_drew)); exact Kd.R_mono HO133.out (fun _ hk => trivial)⟩, ⟨by (with_reducible repeat (first | apply Kd.R_alloc | apply Kd.R_drewN | apply Kd.R_drew)); exact Kd.R_mono HO138.out (fun _ hk => trivial)⟩, ⟨by (with_reducible repeat (first | apply Kd.R_alloc | apply Kd.R_drewN | apply Kd.R_drew)); exact Kd.R_mono HO141.out (fun _ hk => trivial)⟩, ⟨by (with_reducible repeat (first | apply Kd.R_alloc | apply Kd.R_drewN | apply Kd.R_drew)); exact Kd.R_mono HO146.out (fun _ hk => trivial)⟩, ⟨by (with_reducible repeat (first | apply Kd.R_alloc | apply Kd.R_drewN | apply Kd.R_drew)); exact Kd.R_mono HO149.out (fun _ hk => trivial)⟩, ⟨by (with_reducible repeat (first | refine blk_drewN ?_ _ | refine blk_drew ?_ | refine blk_alloc ?_ _)); exact BK123.out⟩, ⟨by (with_reducible repeat (first | refine blk_drewN ?_ _ | refine blk_drew ?_ | refine blk_alloc ?_ _)); exact BK124.out⟩, ⟨by (with_reducible repeat (first | refine blk_drewN ?_ _ | refine blk_drew ?_ | refine blk_alloc ?_ _)); exact BK135.out⟩, ⟨by (with_reducible repeat (first | refine blk_drewN ?_ _ | refine blk_drew ?_ | refine blk_alloc ?_ _)); exact BK143.out⟩, ⟨by (with_reducible repeat (first | refine blk_drewN ?_ _ | refine blk_drew ?_ | refine blk_alloc ?_ _)); exact BK151.out⟩, ⟨by repeat (first | (with_reducible first | exact HB.out | apply below_alloc | apply pw_below_drewN | apply below_drew1 | refine below_set ?_ GE123.out | refine below_set ?_ GE124.out | refine below_set ?_ GE135.out | refine below_set ?_ GE143.out | refine below_set ?_ GE151.out) | exact HB.out)⟩⟩
      ·
       rw [if_neg c135] at H
       have c135b0 : (t142 == 0) = false := beq_eq_false_iff_ne.mpr c135
       have c135b1 : (t142 != 0) = true := bne_iff_ne.mpr c135
       have H' := Aside0.mk H
       clear H
       go_wp2
       go_meet
       case rel => exact ⟨_, (false), (by first | rfl | (simp; done) | (simp [*]; done)), H', ⟨by have := HJ4.out; first | omega | exact Nat.le_refl _⟩, ⟨by (with_reducible repeat (first | apply Kd.R_alloc | apply Kd.R_drewN | apply Kd.R_drew)); exact Kd.R_mono (Kd.R_far (p := ⟨gb151, 1, none⟩) (Kd.R_far (p := ⟨gb151, 0, none⟩) (Kd.R_types HO130.out BK151.out (by decide)) (fun _ hk => hk.2) (.slice Ao54 t144.length co54)) (fun _ hk => hk.2) (.slice Ao60 t147.length co60)) (fun _ hk => trivial)⟩, ⟨by (with_reducible repeat (first | apply Kd.R_alloc | apply Kd.R_drewN | apply Kd.R_drew)); exact Kd.R_mono (Kd.R_far (p := ⟨gb151, 1, none⟩) (Kd.R_far (p := ⟨gb151, 0, none⟩) (Kd.R_types HO133.out BK151.out (by decide)) (fun _ hk => hk.2) (.slice Ao54 t144.length co54)) (fun _ hk => hk.2) (.slice Ao60 t147.length co60)) (fun _ hk => trivial)⟩, ⟨by (with_reducible repeat (first | apply Kd.R_alloc | apply Kd.R_drewN | apply Kd.R_drew)); exact Kd.R_mono (Kd.R_far (p := ⟨gb151, 1, none⟩) (Kd.R_far (p := ⟨gb151, 0, none⟩) (Kd.R_types HO138.out BK151.out (by decide)) (fun _ hk => hk.2) (.slice Ao54 t144.length co54)) (fun _ hk => hk.2) (.slice Ao60 t147.length co60)) (fun _ hk => trivial)⟩, ⟨by (with_reducible repeat (first | apply Kd.R_alloc | apply Kd.R_drewN | apply Kd.R_drew)); exact Kd.R_mono (Kd.R_far (p := ⟨gb151, 1, none⟩) (Kd.R_far (p := ⟨gb151, 0, none⟩) (Kd.R_types HO141.out BK151.out (by decide)) (fun _ hk => hk.2) (.slice Ao54 t144.length co54)) (fun _ hk => hk.2) (.slice Ao60 t147.length co60)) (fun _ hk => trivial)⟩, ⟨by (with_reducible repeat (first | apply Kd.R_alloc | apply Kd.R_drewN | apply Kd.R_drew)); exact Kd.R_mono (Kd.R_far (p := ⟨gb151, 1, none⟩) (Kd.R_far (p := ⟨gb151, 0, none⟩) (Kd.R_types HO146.out BK151.out (by decide)) (fun _ hk => hk.2) (.slice Ao54 t144.length co54)) (fun _ hk => hk.2) (.slice Ao60 t147.length co60)) (fun _ hk => trivial)⟩, ⟨by (with_reducible repeat (first | apply Kd.R_alloc | apply Kd.R_drewN | apply Kd.R_drew)); exact Kd.R_mono (Kd.R_far (p := ⟨gb151, 1, none⟩) (Kd.R_far (p := ⟨gb151, 0, none⟩) (Kd.R_types HO149.out BK151.out (by decide)) (fun _ hk => hk.2) (.slice Ao54 t144.length co54)) (fun _ hk => hk.2) (.slice Ao60 t147.length co60)) (fun _ hk => trivial)⟩, ⟨by (with_reducible repeat (first | refine blk_drewN ?_ _ | refine blk_drew ?_ | refine blk_alloc ?_ _)); refine blk_far ?_ NB123_151.out _; (with_reducible repeat (first | refine blk_drewN ?_ _ | refine blk_drew ?_ | refine blk_alloc ?_ _)); refine blk_far ?_ NB123_151.out _; (with_reducible repeat (first | refine blk_drewN ?_ _ | refine blk_drew ?_ | refine blk_alloc ?_ _)); exact BK123.out⟩, ⟨by (with_reducible repeat (first | refine blk_drewN ?_ _ | refine blk_drew ?_ | refine blk_alloc ?_ _)); refine blk_far ?_ NB124_151.out _; (with_reducible repeat (first | refine blk_drewN ?_ _ | refine blk_drew ?_ | refine blk_alloc ?_ _)); refine blk_far ?_ NB124_151.out _; (with_reducible repeat (first | refine blk_drewN ?_ _ | refine blk_drew ?_ | refine blk_alloc ?_ _)); exact BK124.out⟩, ⟨by (with_reducible repeat (first | refine blk_drewN ?_ _ | refine blk_drew ?_ | refine blk_alloc ?_ _)); refine blk_far ?_ NB135_151.out _; (with_reducible repeat (first | refine blk_drewN ?_ _ | refine blk_drew ?_ | refine blk_alloc ?_ _)); refine blk_far ?_ NB135_151.out _; (with_reducible repeat (first | refine blk_drewN ?_ _ | refine blk_drew ?_ | refine blk_alloc ?_ _)); exact BK135.out⟩, ⟨by (with_reducible repeat (first | refine blk_drewN ?_ _ | refine blk_drew ?_ | refine blk_alloc ?_ _)); refine blk_far ?_ NB143_151.out _; (with_reducible repeat (first | refine blk_drewN ?_ _ | refine blk_drew ?_ | refine blk_alloc ?_ _)); refine blk_far ?_ NB143_151.out _; (with_reducible repeat (first | refine blk_drewN ?_ _ | refine blk_drew ?_ | refine blk_alloc ?_ _)); exact BK143.out⟩, ⟨by (with_reducible repeat (first | refine blk_drewN ?_ _ | refine blk_drew ?_ | refine blk_alloc ?_ _)); refine blk_put (cs := #[.slice Ao54 t144.length co54, .slice none 0 0]) ?_ 1 _ rfl; (with_reducible repeat (first | refine blk_drewN ?_ _ | refine blk_drew ?_ | refine blk_alloc ?_ _)); refine blk_put (cs := #[.slice none 0 0, .slice none 0 0]) ?_ 0 _ rfl; (with_reducible repeat (first | refine blk_drewN ?_ _ | refine blk_drew ?_ | refine blk_alloc ?_ _)); exact BK151.out⟩, ⟨by repeat (first | (with_reducible first | exact HB.out | apply below_alloc | apply pw_below_drewN | apply below_drew1 | refine below_set ?_ GE123.out | refine below_set ?_ GE124.out | refine below_set ?_ GE135.out | refine below_set ?_ GE143.out | refine below_set ?_ GE151.out) | exact HB.out)⟩⟩
    case rest =>
     clear HC31
     try clear c1
     try clear c2
     try clear p2
     try clear c3
     try clear c4
     try clear c5
     try clear c6
     try clear p6
     try clear c7
     try clear c8
     try clear c9
     try clear c10
     try clear c11
     try clear c12
     try clear c13
     try clear c14
     try clear c15
     try clear c17
     try clear c20
     try clear c22
     try clear c23
     try clear c25
     try clear c32
     try clear c38
     try clear c39
     try clear c46
     try clear c47
     try clear c48
     try clear c55
     try clear c56
     try clear c57
     try clear c58
     try clear c61
     try clear c61b0
     try clear c61b1
     try clear c63
     try clear p64
     try clear c65
     try clear c66
     try clear c66b0
     try clear c66b1
     try clear c68
     try clear c70
     try clear c71
     try clear c72
     try clear c73
     try clear c77
     try clear c78
     try clear c79
     try clear c82
     try clear c83
     try clear c89
     try clear c90
     try clear c91
     try clear c92
     try clear c96
     try clear c97
     try clear c98
     try clear c101
     try clear c102
     try clear c105
     try clear c106
     try clear c107
     try clear c108
     try clear c112
     try clear c113
     try clear c114
     try clear c117
     try clear c118
     try clear c119
     try clear c120
     try clear c124
     try clear c125
     try clear c126
     try clear c129
     try clear c130
     try clear c131
     try clear c132
     try clear c135
     try clear c135b0
     try clear c135b1
     try clear c137
     try clear c139
     try clear c140
     try clear c141
     try clear c142
     try clear c146
     try clear c147
     try clear c148
     try clear c151
     try clear c152
     try clear c153
     try clear c154
     try clear hcz103_0
     try clear hcz103_1
     try clear hcz109_0
     try clear hcz109_1
     try clear hcz111_0
     try clear hcz111_1
     try clear hcz115_0
     try clear hcz115_1
     try clear hcz121_0
     try clear hcz121_1
     try clear hcz123_0
     try clear hcz123_1
     try clear hcz127_0
     try clear hcz127_1
     try clear hcz133_0
     try clear hcz133_1
     try clear hcz13_0
     try clear hcz13_1
     try clear hcz143_0
     try clear hcz143_1
     try clear hcz145_0
     try clear hcz145_1
     try clear hcz149_0
     try clear hcz149_1
     try clear hcz155_0
     try clear hcz155_1
     try clear hcz15_0
     try clear hcz15_1
     try clear hcz18_0
     try clear hcz18_1
     try clear hcz20_0
     try clear hcz20_1
     try clear hcz23_0
     try clear hcz23_1
     try clear hcz33_0
     try clear hcz33_1
     try clear hcz34_0
     try clear hcz34_1
     try clear hcz40_0
     try clear hcz40_1
     try clear hcz42_0
     try clear hcz42_1
     try clear hcz49_0
     try clear hcz49_1
     try clear hcz51_0
     try clear hcz51_1
     try clear hcz59_0
     try clear hcz59_1
     try clear hcz74_0
     try clear hcz74_1
     try clear hcz76_0
     try clear hcz76_1
     try clear hcz80_0
     try clear hcz80_1
     try clear hcz84_0
     try clear hcz84_1
     try clear hcz86_0
     try clear hcz86_1
     try clear hcz87_0
     try clear hcz87_1
     try clear hcz93_0
     try clear hcz93_1
     try clear hcz95_0
     try clear hcz95_1
     try clear hcz99_0
     try clear hcz99_1
     try clear hfz103_0
     try clear hfz103_1
     try clear hfz109_0
     try clear hfz109_1
     try clear hfz111_0
     try clear hfz111_1
     try clear hfz115_0
     try clear hfz115_1
     try clear hfz121_0
     try clear hfz121_1
     try clear hfz123_0
     try clear hfz123_1
     try clear hfz127_0
     try clear hfz127_1
     try clear hfz133_0
     try clear hfz133_1
     try clear hfz13_0
     try clear hfz13_1
     try clear hfz143_0
     try clear hfz143_1
     try clear hfz145_0
     try clear hfz145_1
     try clear hfz149_0
     try clear hfz149_1
     try clear hfz155_0
     try clear hfz155_1
     try clear hfz15_0
     try clear hfz15_1
     try clear hfz18_0
     try clear hfz18_1
     try clear hfz20_0
     try clear hfz20_1
     try clear hfz23_0
     try clear hfz23_1
     try clear hfz33_0
     try clear hfz33_1
     try clear hfz34_0
     try clear hfz34_1
     try clear hfz40_0
     try clear hfz40_1
     try clear hfz42_0
     try clear hfz42_1
     try clear hfz49_0
     try clear hfz49_1
     try clear hfz51_0
     try clear hfz51_1
     try clear hfz59_0
     try clear hfz59_1
     try clear hfz74_0
     try clear hfz74_1
     try clear hfz76_0
     try clear hfz76_1
     try clear hfz80_0
     try clear hfz80_1
     try clear hfz84_0
     try clear hfz84_1
     try clear hfz86_0
     try clear hfz86_1
     try clear hfz87_0
     try clear hfz87_1
     try clear hfz93_0
     try clear hfz93_1
     try clear hfz95_0
     try clear hfz95_1
     try clear hfz99_0
     try clear hfz99_1
     try clear p2
     obtain ⟨kq, x80_30, rfl, HA, HJ30, HO_136000, HO_136001, HO_144000, HO_144001, HO_152000, HO_152001, BK123, BK124, BK135, BK143, BK151, HB⟩ := hcut
     cases kq with
     | zero => exact absurd HA.out (by simp [tapewrightlaw05_TensorShapes.j1])
     | succ kj30 =>
      have H := HA.out
      clear HA
      simp only [tapewrightlaw05_TensorShapes.j1] at H
      by_cases c157 : x80_30 = true
      ·
       subst c157
       rw [if_pos rfl] at H
       exact absurd ((Option.some.inj H).trans HRT.out) (by decide)
      ·
       replace c157 := Bool.eq_false_iff.mpr c157
       subst c157
       rw [if_neg (show ¬ (false = true) by decide)] at H
       by_cases c158 : t150 = 0
       ·
        rw [if_pos c158] at H
        have c158b0 : (t150 == 0) = true := beq_iff_eq.mpr c158
        have c158b1 : (t150 != 0) = false := bne_eq_false_iff_eq.mpr c158
        clear c158
        replace H := Option.bind_eq_some_iff.mp H
        obtain ⟨t158, A1590, H⟩ := H
        have A159 := Aside0.mk A1590
        clear A1590
        by_cases c160 : t158 = true
        ·
         subst c160
         rw [if_pos rfl] at H
         replace H := Option.bind_eq_some_iff.mp H
         obtain ⟨t159, A1610, H⟩ := H
         have A161 := Aside0.mk A1610
         clear A1610
         by_cases c162 : t159 = true
         ·
          subst c162
          rw [if_pos rfl] at H
          replace H := Option.bind_eq_some_iff.mp H
          obtain ⟨t160, A1630, H⟩ := H
          have A163 := Aside0.mk A1630
          clear A1630
          obtain rfl := Option.some.inj H
          have hnb164 := NB151_123.out
          have hnc164 := NB123_151.out
          have hnb165 := NB151_124.out
          have hnc165 := NB124_151.out
          have hnb166 := NB151_135.out
          have hnc166 := NB135_151.out
          have hnb167 := NB151_143.out
          have hnc167 := NB143_151.out
          have hcz168_0 : wc.cell? ⟨gb151, 0, none⟩ = some (.slice Ao54 t144.length co54) := (blk_cell BK151.out 0).trans rfl
          have hcz168_1 : wc.cell? ⟨gb151, 1, none⟩ = some (.slice Ao60 t147.length co60) := (blk_cell BK151.out 1).trans rfl
          have hfz168_0 := blk_frozen BK151.out 0
          have hfz168_1 := blk_frozen BK151.out 1
          go_wp2_with (first | (go_at_call 15; (with_reducible refine (tensor_Right.calls _ _ t144 _ _ t147 true _ (Err.Gs.below HGs.out T9_) ?side1 ?side2 ?side3 ?side4 A159.out).mono ?_); (case side1 => exact C2_ HO_152000); (case side2 => exact (Kd.R_reads' HO_152000.out).2.1); (case side3 => exact C2_ HO_152001); (case side4 => exact (Kd.R_reads' HO_152001.out).2.1); rintro e w169 ⟨rfl, hb⟩; replace HO_136000 := RC_ HO_136000 hb; replace HO_136001 := RC_ HO_136001 hb; replace HO_144000 := RC_ HO_144000 hb; replace HO_144001 := RC_ HO_144001 hb; replace HO_152000 := RC_ HO_152000 hb; replace HO_152001 := RC_ HO_152001 hb; replace BK123 := BF_ BK123 hb; replace BK124 := BF_ BK124 hb; replace BK135 := BF_ BK135 hb; replace BK143 := BF_ BK143 hb; replace BK151 := BF_ BK151 hb; replace HB := Aside0.mk (below_step T9_ hb); (try clear hb); (try clear hb2); (try clear hk); (try clear hi); have hcz170_0 : w169.cell? ⟨gb151, 0, none⟩ = some (.slice Ao54 t144.length co54) := (blk_cell BK151.out 0).trans rfl; have hcz170_1 : w169.cell? ⟨gb151, 1, none⟩ = some (.slice Ao60 t147.length co60) := (blk_cell BK151.out 1).trans rfl; have hfz170_0 := blk_frozen BK151.out 0; have hfz170_1 := blk_frozen BK151.out 1; have hnb171 := NB123_124.out; have hnc171 := NB124_123.out; have hnb172 := NB123_135.out; have hnc172 := NB135_123.out; have hnb173 := NB123_143.out; have hnc173 := NB143_123.out; have hcz174_0 := CA_ BK123; have hcz174_1 := CB_ BK123; have hfz174_0 := blk_frozen BK123.out 0; have hfz174_1 := blk_frozen BK123.out 1) | (go_at_call 17; (with_reducible refine (tapewrightref04_Same.calls _ _ t144 _ _ l0_0 true _ ?side1 ?side2 ?side3 ?side4 A161.out).mono ?_); (case side1 => exact C2_ HO_152000); (case side2 => exact (Kd.R_reads' HO_152000.out).2.1); (case side3 => exact C1_ (Kd.C_below HR0_0.out HB.out)); (case side4 => exact HC0_0.out); rintro e w175 ⟨rfl, hb⟩; replace HO_136000 := RC_ HO_136000 hb; replace HO_136001 := RC_ HO_136001 hb; replace HO_144000 := RC_ HO_144000 hb; replace HO_144001 := RC_ HO_144001 hb; replace HO_152000 := RC_ HO_152000 hb; replace HO_152001 := RC_ HO_152001 hb; replace BK123 := BF_ BK123 hb; replace BK124 := BF_ BK124 hb; replace BK135 := BF_ BK135 hb; replace BK143 := BF_ BK143 hb; replace BK151 := BF_ BK151 hb; replace HB := Aside0.mk (below_step T9_ hb); (try clear hb); (try clear hb2); (try clear hk); (try clear hi)) | (go_at_call 13; (with_reducible refine (tapewrightlaw05_awake.calls  t160 _ (Err.Gs.below HGs.out T9_) A163.out).mono ?_); rintro e w176 ⟨rfl, hb⟩; replace HO_136000 := RC_ HO_136000 hb; replace HO_136001 := RC_ HO_136001 hb; replace HO_144000 := RC_ HO_144000 hb; replace HO_144001 := RC_ HO_144001 hb; replace HO_152000 := RC_ HO_152000 hb; replace HO_152001 := RC_ HO_152001 hb; replace BK123 := BF_ BK123 hb; replace BK124 := BF_ BK124 hb; replace BK135 := BF_ BK135 hb; replace BK143 := BF_ BK143 hb; replace BK151 := BF_ BK151 hb; replace HB := Aside0.mk (below_step T9_ hb); (try clear hb); (try clear hb2); (try clear hk); (try clear hi)))
          go_ret
          exact ⟨T4_, T9_⟩
         ·
          replace c162 := Bool.eq_false_iff.mpr c162
          subst c162
          rw [if_neg (show ¬ (false = true) by decide)] at H
          exact absurd ((Option.some.inj H).trans HRT.out) (by decide)
        ·
         replace c160 := Bool.eq_false_iff.mpr c160
         subst c160
         rw [if_neg (show ¬ (false = true) by decide)] at H
         exact absurd ((Option.some.inj H).trans HRT.out) (by decide)
       ·
        rw [if_neg c158] at H
        have c158b0 : (t150 == 0) = false := beq_eq_false_iff_ne.mpr c158
        have c158b1 : (t150 != 0) = true := bne_iff_ne.mpr c158
        replace H := Option.bind_eq_some_iff.mp H
        obtain ⟨t161, A1770, H⟩ := H
        have A177 := Aside0.mk A1770
        clear A1770
        obtain rfl := Option.some.inj H
        go_wp2_with (first | (go_at_call 13; (with_reducible refine (tapewrightlaw05_awake.calls  t161 _ (Err.Gs.below HGs.out T9_) A177.out).mono ?_); rintro e w178 ⟨rfl, hb⟩; replace HO_136000 := RC_ HO_136000 hb; replace HO_136001 := RC_ HO_136001 hb; replace HO_144000 := RC_ HO_144000 hb; replace HO_144001 := RC_ HO_144001 hb; replace HO_152000 := RC_ HO_152000 hb; replace HO_152001 := RC_ HO_152001 hb; replace BK123 := BF_ BK123 hb; replace BK124 := BF_ BK124 hb; replace BK135 := BF_ BK135 hb; replace BK143 := BF_ BK143 hb; replace BK151 := BF_ BK151 hb; replace HB := Aside0.mk (below_step T9_ hb); (try clear hb); (try clear hb2); (try clear hk); (try clear hi)))
        go_ret
        exact ⟨T4_, T9_⟩
end Go.Proofs.YtlglpffoijdgbaaGreatDoor.PQH
