-- by wip/tool/mine.py of this repo (the kit's printer with given contracts)
import Derived.Test.YtlglpffoijdgbaaGreatDoorPQSx0
import Derived.Test.YtlglpffoijdgbaaGreatDoorPQSx1
namespace Go.Proofs.YtlglpffoijdgbaaGreatDoor.PQS
set_option maxHeartbeats 8000000
set_option maxRecDepth 100000
open Go.RowKit Go.Proofs.YtlglpffoijdgbaaGreatDoorW.PrintWords Go.Proofs.YtlglpffoijdgbaaGreatDoorW.PrintLast Go.Proofs.YtlglpffoijdgbaaGreatDoorW.PrintMore
attribute [local go_sem] max2_int min2_int max_two min_two max_three min_three max_four min_four   -- for this text's walks alone
set_option linter.unusedVariables false
set_option linter.unusedSimpArgs false

/-! ### tapewrightlaw05_TensorSums: function 8 -/
noncomputable def tapewrightlaw05_TensorSums.j0 : Nat → ByteArray → Bool → List Int → List ByteArray → Option (Bool)
 | 0, _, _, _, _ => none
 | k + 1, x1, x25, x124000, x124001 => if x25 = true then ((tapewrightlaw05_awake.f).bind fun t126 => (some t126)) else ((tensor_Scale.f x124000 x124001 x1).bind fun bt127 => (if bt127.2.2 = 0 then ((tensor_Sum.f bt127.1 bt127.2.1).bind fun bt136 => ((tensor_Sum.f x124000 x124001).bind fun bt138 => ((tensor_Scale.f ([] : List Int) (([bt138.1] : List ByteArray)) x1).bind fun bt143 => (if bt143.2.2 = 0 then (if (bt143.2.1.length : Int) = 1 then (if 0 < (bt143.2.1.length : Int) then (if (rdOf ByteArray.empty bt143.2.1 0).toList = bt136.1.toList then ((tapewrightlaw05_awake.f).bind fun t152 => (some t152)) else (some false)) else (none)) else (some false)) else (some false))))) else (if (bt127.2.1.length : Int) = 0 then ((tapewrightlaw05_awake.f).bind fun t135 => (some t135)) else (some false))))
noncomputable def tapewrightlaw05_TensorSums.f (k : Nat) (l0_0 : List Int) (l0_1 : List ByteArray) (a1 : ByteArray) : Option (Bool) := (tapewrightref05_Small.f l0_0 l0_1).bind fun t124 => (if t124 = true then (if (a1.size : Int) > 40 then (tapewrightlaw05_TensorSums.j0 k a1 true l0_0 l0_1) else ((tensor_Right.f l0_0 l0_1).bind fun t125 => (tapewrightlaw05_TensorSums.j0 k a1 (!t125) l0_0 l0_1))) else (tapewrightlaw05_TensorSums.j0 k a1 true l0_0 l0_1))
theorem tapewrightlaw05_TensorSums.calls (k : Nat) (A0_0 : Option Addr) (c0_0 : Nat) (l0_0 : List Int) (A0_1 : Option Addr) (c0_1 : Nat) (l0_1 : List ByteArray) (a1 : ByteArray) (r : Bool) (w : World) (hG : Err.Gs w) (hrt : r = true) (hr0_0 : Kd.C (Kd.int .i64) w A0_0 l0_0.length l0_0) (hc0_0 : l0_0.length ≤ c0_0) (hr0_1 : Kd.C Kd.string w A0_1 l0_1.length l0_1) (hc0_1 : l0_1.length ≤ c0_1) (h : tapewrightlaw05_TensorSums.f k l0_0 l0_1 a1 = some r) :
  Calls Tryz.prog 8 #[.agg #[.slice A0_0 l0_0.length c0_0, .slice A0_1 l0_1.length c0_1], .string a1] w fun e w' => e = .returned (.bool r) ∧ Below w.heap.size w w' := by
 have hu25 := Tryz.underlying25
 have HR0_0 := Aside0.mk hr0_0
 have HC0_0 := Aside0.mk hc0_0
 clear hr0_0 hc0_0
 have HR0_1 := Aside0.mk hr0_1
 have HC0_1 := Aside0.mk hc0_1
 clear hr0_1 hc0_1
 have HB := Aside0.mk (Below.refl w.heap.size w)
 have HGs := Aside0.mk hG
 clear hG
 have HRT := Aside0.mk hrt
 clear hrt
 unfold tapewrightlaw05_TensorSums.f at h
 have H := h
 clear h
 have HC3 := Aside0.mk H
 clear H
 go_enter Tryz.func8, Tryz.ntmps8
 go_upto_region 1 with (first | ((with_reducible refine gate_dst (N := 2) rfl ?_); (try (refine gate_guard (by rfl) ?_; dsimp only)); refine box_event ?hg (N := 2) ?hd (cs := #[.slice A0_0 l0_0.length c0_0, .slice A0_1 l0_1.length c0_1]) (t := 25) ?hr ?_; (case hd => rfl); (case hg => rfl); (case hr => exact T3_); intro gb123 hg w4 hbox hb; have BK123 := Aside0.mk (hbox); have GW123 := GE_ hg; have GE123 := GE_ hg; replace HB := Aside0.mk (below_step T1_ hb); clear hb hbox hg))
 (try simp only [Act.put, List.setIfInBounds_toArray, List.set_cons_zero, List.set_cons_succ])
 go_cut [25] (fun v25 wc => ∃ (kq : Nat) (x25_2 : Bool), v25 = .bool x25_2 ∧ Aside0 (tapewrightlaw05_TensorSums.j0 kq a1 x25_2 l0_0 l0_1 = some r) ∧ Aside0 (kq ≤ k) ∧ Aside0 (wc.heap[gb123]? = some (.cells #[(.slice A0_0 l0_0.length c0_0), (.slice A0_1 l0_1.length c0_1)] 25 (0, 0))) ∧ Aside0 (Below w.heap.size w wc))
 case first =>
  have H := HC3.out
  clear HC3
  replace H := Option.bind_eq_some_iff.mp H
  obtain ⟨t124, A50, H⟩ := H
  have A5 := Aside0.mk A50
  clear A50
  by_cases c6 : t124 = true
  ·
   subst c6
   rw [if_pos rfl] at H
   by_cases c7 : (a1.size : Int) > 40
   ·
    rw [if_pos c7] at H
    have c7b0 : decide (40 < (a1.size : Int)) = true := decide_eq_true c7
    have c7b1 : decide (40 < a1.size) = true := decide_eq_true (by omega)
    clear c7
    (first | rw [c7b0] | (simp only [i64_w, i32_w]; rw [c7b0]) | skip)
    have H' := Aside0.mk H
    clear H
    have hcz8_0 := CA_ BK123
    have hcz8_1 := CB_ BK123
    have hfz8_0 := blk_frozen BK123.out 0
    have hfz8_1 := blk_frozen BK123.out 1
    go_wp2_with (first | ((with_reducible refine gate_callee (f := 12) rfl ?_); refine goesL_ (some 14) rfl rfl Tryz.func12 (by kernel_rfl) rfl #[.agg #[.slice A0_0 l0_0.length c0_0, .slice A0_1 l0_1.length c0_1]] rfl T2_ ?_; (with_reducible refine (tapewrightref05_Small.calls _ _ l0_0 _ _ l0_1 true _ ?side1 ?side2 ?side3 ?side4 A5.out).mono ?_); (case side1 => exact C1_ (Kd.C_below HR0_0.out HB.out)); (case side2 => exact HC0_0.out); (case side3 => exact C1_ (Kd.C_below HR0_1.out HB.out)); (case side4 => exact HC0_1.out); rintro e w9 ⟨rfl, hb⟩; refine ⟨_, rfl, ?_⟩; replace BK123 := BF_ BK123 hb; replace HB := Aside0.mk (below_step T9_ hb); (try clear hb); (try clear hb2); (try clear hk); (try clear hi)))
    go_meet
    case rel => exact ⟨_, (true), (by first | rfl | (simp; done) | (simp [*]; done)), H', ⟨by first | omega | exact Nat.le_refl _⟩, ⟨by (with_reducible repeat (first | refine blk_drewN ?_ _ | refine blk_drew ?_ | refine blk_alloc ?_ _)); exact BK123.out⟩, ⟨by repeat (first | (with_reducible first | exact HB.out | apply below_alloc | apply pw_below_drewN | apply below_drew1 | refine below_set ?_ GE123.out) | exact HB.out)⟩⟩
   ·
    rw [if_neg c7] at H
    have c7b0 : decide (40 < (a1.size : Int)) = false := decide_eq_false c7
    have c7b1 : decide (40 < a1.size) = false := decide_eq_false (by omega)
    clear c7
    (first | rw [c7b0] | (simp only [i64_w, i32_w]; rw [c7b0]) | skip)
    replace H := Option.bind_eq_some_iff.mp H
    obtain ⟨t125, A100, H⟩ := H
    have A10 := Aside0.mk A100
    clear A100
    have H' := Aside0.mk H
    clear H
    have hcz11_0 := CA_ BK123
    have hcz11_1 := CB_ BK123
    have hfz11_0 := blk_frozen BK123.out 0
    have hfz11_1 := blk_frozen BK123.out 1
    go_wp2_with (first | ((with_reducible refine gate_callee (f := 12) rfl ?_); refine goesL_ (some 14) rfl rfl Tryz.func12 (by kernel_rfl) rfl #[.agg #[.slice A0_0 l0_0.length c0_0, .slice A0_1 l0_1.length c0_1]] rfl T2_ ?_; (with_reducible refine (tapewrightref05_Small.calls _ _ l0_0 _ _ l0_1 true _ ?side1 ?side2 ?side3 ?side4 A5.out).mono ?_); (case side1 => exact C1_ (Kd.C_below HR0_0.out HB.out)); (case side2 => exact HC0_0.out); (case side3 => exact C1_ (Kd.C_below HR0_1.out HB.out)); (case side4 => exact HC0_1.out); rintro e w12 ⟨rfl, hb⟩; refine ⟨_, rfl, ?_⟩; replace BK123 := BF_ BK123 hb; replace HB := Aside0.mk (below_step T9_ hb); (try clear hb); (try clear hb2); (try clear hk); (try clear hi); have hcz13_0 := CA_ BK123; have hcz13_1 := CB_ BK123; have hfz13_0 := blk_frozen BK123.out 0; have hfz13_1 := blk_frozen BK123.out 1) | (go_at_call 15; (with_reducible refine (tensor_Right.calls _ _ l0_0 _ _ l0_1 t125 _ (Err.Gs.below HGs.out T9_) ?side1 ?side2 ?side3 ?side4 A10.out).mono ?_); (case side1 => exact C1_ (Kd.C_below HR0_0.out HB.out)); (case side2 => exact HC0_0.out); (case side3 => exact C1_ (Kd.C_below HR0_1.out HB.out)); (case side4 => exact HC0_1.out); rintro e w14 ⟨rfl, hb⟩; replace BK123 := BF_ BK123 hb; replace HB := Aside0.mk (below_step T9_ hb); (try clear hb); (try clear hb2); (try clear hk); (try clear hi)))
    go_meet
    case rel => exact ⟨_, (!t125), (by first | rfl | (simp; done) | (simp [*]; done)), H', ⟨by first | omega | exact Nat.le_refl _⟩, ⟨by (with_reducible repeat (first | refine blk_drewN ?_ _ | refine blk_drew ?_ | refine blk_alloc ?_ _)); exact BK123.out⟩, ⟨by repeat (first | (with_reducible first | exact HB.out | apply below_alloc | apply pw_below_drewN | apply below_drew1 | refine below_set ?_ GE123.out) | exact HB.out)⟩⟩
  ·
   replace c6 := Bool.eq_false_iff.mpr c6
   subst c6
   rw [if_neg (show ¬ (false = true) by decide)] at H
   have H' := Aside0.mk H
   clear H
   have hcz15_0 := CA_ BK123
   have hcz15_1 := CB_ BK123
   have hfz15_0 := blk_frozen BK123.out 0
   have hfz15_1 := blk_frozen BK123.out 1
   go_wp2_with (first | ((with_reducible refine gate_callee (f := 12) rfl ?_); refine goesL_ (some 14) rfl rfl Tryz.func12 (by kernel_rfl) rfl #[.agg #[.slice A0_0 l0_0.length c0_0, .slice A0_1 l0_1.length c0_1]] rfl T2_ ?_; (with_reducible refine (tapewrightref05_Small.calls _ _ l0_0 _ _ l0_1 false _ ?side1 ?side2 ?side3 ?side4 A5.out).mono ?_); (case side1 => exact C1_ (Kd.C_below HR0_0.out HB.out)); (case side2 => exact HC0_0.out); (case side3 => exact C1_ (Kd.C_below HR0_1.out HB.out)); (case side4 => exact HC0_1.out); rintro e w16 ⟨rfl, hb⟩; refine ⟨_, rfl, ?_⟩; replace BK123 := BF_ BK123 hb; replace HB := Aside0.mk (below_step T9_ hb); (try clear hb); (try clear hb2); (try clear hk); (try clear hi)))
   go_meet
   case rel => exact ⟨_, (true), (by first | rfl | (simp; done) | (simp [*]; done)), H', ⟨by first | omega | exact Nat.le_refl _⟩, ⟨by (with_reducible repeat (first | refine blk_drewN ?_ _ | refine blk_drew ?_ | refine blk_alloc ?_ _)); exact BK123.out⟩, ⟨by repeat (first | (with_reducible first | exact HB.out | apply below_alloc | apply pw_below_drewN | apply below_drew1 | refine below_set ?_ GE123.out) | exact HB.out)⟩⟩
 case rest =>
  clear HC3
  try clear c1
  try clear p2
  try clear c6
  try clear c7
  try clear c7b0
  try clear c7b1
  try clear c8
  try clear c12
  try clear hcz11_0
  try clear hcz11_1
  try clear hcz13_0
  try clear hcz13_1
  try clear hcz15_0
  try clear hcz15_1
  try clear hcz8_0
  try clear hcz8_1
  try clear hfz11_0
  try clear hfz11_1
  try clear hfz13_0
  try clear hfz13_1
  try clear hfz15_0
  try clear hfz15_1
  try clear hfz8_0
  try clear hfz8_1
  obtain ⟨kq, x25_2, rfl, HA, HJ2, BK123, HB⟩ := hcut
  cases kq with
  | zero => exact absurd HA.out (by simp [tapewrightlaw05_TensorSums.j0])
  | succ kj2 =>
   have H := HA.out
   clear HA
   simp only [tapewrightlaw05_TensorSums.j0] at H
   by_cases c17 : x25_2 = true
   ·
    subst c17
    rw [if_pos rfl] at H
    replace H := Option.bind_eq_some_iff.mp H
    obtain ⟨t126, A180, H⟩ := H
    have A18 := Aside0.mk A180
    clear A180
    obtain rfl := Option.some.inj H
    go_wp2_with (first | ((with_reducible refine gate_callee (f := 13) rfl ?_); refine goesL_ (some 26) rfl rfl Tryz.func13 (by kernel_rfl) rfl #[] rfl T2_ ?_; (with_reducible refine (tapewrightlaw05_awake.calls  t126 _ (Err.Gs.below HGs.out T9_) A18.out).mono ?_); rintro e w19 ⟨rfl, hb⟩; refine ⟨_, rfl, ?_⟩; replace BK123 := BF_ BK123 hb; replace HB := Aside0.mk (below_step T9_ hb); (try clear hb); (try clear hb2); (try clear hk); (try clear hi)))
    go_ret
    exact ⟨T4_, T9_⟩
   ·
    replace c17 := Bool.eq_false_iff.mpr c17
    subst c17
    rw [if_neg (show ¬ (false = true) by decide)] at H
    replace H := Option.bind_eq_some_iff.mp H
    obtain ⟨⟨t127, t130, t133⟩, A200, H⟩ := H
    have A20 := Aside0.mk A200
    clear A200
    by_cases c21 : t133 = 0
    ·
     rw [if_pos c21] at H
     have c21b0 : (t133 == 0) = true := beq_iff_eq.mpr c21
     have c21b1 : (t133 != 0) = false := bne_eq_false_iff_eq.mpr c21
     clear c21
     replace H := Option.bind_eq_some_iff.mp H
     obtain ⟨⟨t136, t137⟩, A220, H⟩ := H
     have A22 := Aside0.mk A220
     clear A220
     replace H := Option.bind_eq_some_iff.mp H
     obtain ⟨⟨t138, t139⟩, A230, H⟩ := H
     have A23 := Aside0.mk A230
     clear A230
     obtain ⟨y140, hy140⟩ : ∃ y_ : List ByteArray, y_ = (([t138] : List ByteArray)) := ⟨_, rfl⟩
     replace H : ((tensor_Scale.f ([] : List Int) y140 a1).bind fun bt143 => (if bt143.2.2 = 0 then (if (bt143.2.1.length : Int) = 1 then (if 0 < (bt143.2.1.length : Int) then (if (rdOf ByteArray.empty bt143.2.1 0).toList = t136.toList then ((tapewrightlaw05_awake.f).bind fun t152 => (some t152)) else (some false)) else (none)) else (some false)) else (some false))) = some r := by first | (rw [hy140]; with_reducible exact H) | (have H2_ := (Option.bind_some _ _).symm.trans H; rw [hy140]; with_reducible exact H2_) | (have H2_ := (Option.bind_some _ _).symm.trans H; with_reducible exact H2_) | with_reducible exact H | (rw [hy140]; exact H) | exact H
     have Ny140 := Aside0.mk hy140
     clear hy140
     replace H := Option.bind_eq_some_iff.mp H
     obtain ⟨⟨t143, t146, t149⟩, A240, H⟩ := H
     have A24 := Aside0.mk A240
     clear A240
     by_cases c25 : t149 = 0
     ·
      rw [if_pos c25] at H
      have c25b0 : (t149 == 0) = true := beq_iff_eq.mpr c25
      have c25b1 : (t149 != 0) = false := bne_eq_false_iff_eq.mpr c25
      clear c25
      by_cases c26 : (t146.length : Int) = 1
      ·
       rw [if_pos c26] at H
       have c26b0 : ((t146.length : Int) == 1) = true := beq_iff_eq.mpr c26
       have c26b1 : ((t146.length : Int) != 1) = false := bne_eq_false_iff_eq.mpr c26
       clear c26
       by_cases c27 : 0 < (t146.length : Int)
       ·
        rw [if_pos c27] at H
        have c27b0 : decide (0 < (t146.length : Int)) = true := decide_eq_true c27
        have c27b1 : decide (0 < t146.length) = true := decide_eq_true (by omega)
        clear c27
        by_cases c28 : (rdOf ByteArray.empty t146 0).toList = t136.toList
        ·
         rw [if_pos c28] at H
         have c28b0 : ((rdOf ByteArray.empty t146 0).toList == t136.toList) = true := beq_iff_eq.mpr c28
         have c28b1 : ((rdOf ByteArray.empty t146 0).toList != t136.toList) = false := bne_eq_false_iff_eq.mpr c28
         clear c28
         replace H := Option.bind_eq_some_iff.mp H
         obtain ⟨t152, A290, H⟩ := H
         have A29 := Aside0.mk A290
         clear A290
         obtain rfl := Option.some.inj H
         have hcz30_0 := CA_ BK123
         have hcz30_1 := CB_ BK123
         have hfz30_0 := blk_frozen BK123.out 0
         have hfz30_1 := blk_frozen BK123.out 1
         go_wp2_with (first | ((with_reducible refine gate_callee (f := 20) rfl ?_); refine goesL_ (some 30) rfl rfl Tryz.func20 (by kernel_rfl) rfl #[.agg #[.slice A0_0 l0_0.length c0_0, .slice A0_1 l0_1.length c0_1], .string a1] rfl T2_ ?_; (with_reducible refine (tensor_Scale.calls _ _ l0_0 _ _ l0_1 a1 t127 t130 t133 _ (Err.Gs.below HGs.out T9_) ?side1 ?side2 ?side3 ?side4 A20.out).mono ?_); (case side1 => exact C1_ (Kd.C_below HR0_0.out HB.out)); (case side2 => exact HC0_0.out); (case side3 => exact C1_ (Kd.C_below HR0_1.out HB.out)); (case side4 => exact HC0_1.out); rintro e w31 ⟨v128, v131, rfl, ho0, ho1, hb⟩; refine ⟨_, rfl, ?_⟩; have HO129 := Aside0.mk (Kd.R_lower ho0 (below_size T9_)); have HO132 := Aside0.mk (Kd.R_lower ho1 (below_size T9_)); replace BK123 := BF_ BK123 hb; replace HB := Aside0.mk (below_step T9_ hb); (try clear hb); (try clear hb2); (try clear hk); (try clear hi); (try clear ho0); (try clear ho1)) | ((with_reducible refine gate_dst (N := 5) rfl ?_); (try (refine gate_guard (by rfl) ?_; dsimp only)); refine box_event ?hg (N := 5) ?hd (cs := #[.slice none 0 0, .slice none 0 0]) (t := 25) ?hr ?_; (case hd => rfl); (case hg => rfl); (case hr => exact T3_); intro gb134 hg w32 hbox hb; replace HO129 := RC_ HO129 hb; replace HO132 := RC_ HO132 hb; have BK134 := Aside0.mk (hbox); have GW134 := GE_ hg; have GE134 := GE_ hg; replace HB := Aside0.mk (below_step T9_ hb); have NB123_134 := NB_ BK123 hg; have NB134_123 := NC_ BK123 hg; replace BK123 := BF_ BK123 hb; clear hb hbox hg; obtain ⟨Ao33, co33, eo33⟩ := Kd.R_slice HO129.out; subst eo33; have hnb34 := NB134_123.out; have hnc34 := NB123_134.out; have hcz35_0 := CA_ BK134; have hcz35_1 := CB_ BK134; have hfz35_0 := blk_frozen BK134.out 0; have hfz35_1 := blk_frozen BK134.out 1; obtain ⟨Ao36, co36, eo36⟩ := Kd.R_slice HO132.out; subst eo36) | ((with_reducible refine gate_callee (f := 22) rfl ?_); refine goesL_ (some 44) rfl rfl Tryz.func22 (by kernel_rfl) rfl #[.agg #[.slice Ao33 t127.length co33, .slice Ao36 t130.length co36]] rfl T2_ ?_; (with_reducible refine (tensor_Sum.calls _ _ t127 _ _ t130 t136 t137 _ (Err.Gs.below HGs.out T9_) ?side1 ?side2 ?side3 ?side4 A22.out).mono ?_); (case side1 => exact C2_ HO129); (case side2 => exact (Kd.R_reads' HO129.out).2.1); (case side3 => exact C2_ HO132); (case side4 => exact (Kd.R_reads' HO132.out).2.1); rintro e w37 ⟨rfl, hb⟩; refine ⟨_, rfl, ?_⟩; replace HO129 := RC_ HO129 hb; replace HO132 := RC_ HO132 hb; replace BK123 := BG_ BK123 hb; replace BK134 := BP_ BK134 hb; replace HB := Aside0.mk (below_step T9_ hb); (try clear hb); (try clear hb2); (try clear hk); (try clear hi); have hcz38_0 := CA_ BK123; have hcz38_1 := CB_ BK123; have hfz38_0 := blk_frozen BK123.out 0; have hfz38_1 := blk_frozen BK123.out 1) | ((with_reducible refine gate_callee (f := 22) rfl ?_); refine goesL_ (some 49) rfl rfl Tryz.func22 (by kernel_rfl) rfl #[.agg #[.slice A0_0 l0_0.length c0_0, .slice A0_1 l0_1.length c0_1]] rfl T2_ ?_; (with_reducible refine (tensor_Sum.calls _ _ l0_0 _ _ l0_1 t138 t139 _ (Err.Gs.below HGs.out T9_) ?side1 ?side2 ?side3 ?side4 A23.out).mono ?_); (case side1 => exact C1_ (Kd.C_below HR0_0.out HB.out)); (case side2 => exact HC0_0.out); (case side3 => exact C1_ (Kd.C_below HR0_1.out HB.out)); (case side4 => exact HC0_1.out); rintro e w39 ⟨rfl, hb⟩; refine ⟨_, rfl, ?_⟩; replace HO129 := RC_ HO129 hb; replace HO132 := RC_ HO132 hb; replace BK123 := BF_ BK123 hb; replace BK134 := BF_ BK134 hb; replace HB := Aside0.mk (below_step T9_ hb); (try clear hb); (try clear hb2); (try clear hk); (try clear hi)) | ((with_reducible refine gate_dst (N := 54) rfl ?_); (try (refine gate_guard (by rfl) ?_; dsimp only)); refine Kd.R_lit Kd.string _ 9 ?hg (N := 54) ?hd (xs := ([t138] : List ByteArray)) (inner := [.string t138]) (ok := fun _ => True) (okp := fun _ => True) ?hr ?hp (fun _ hk => hk) trivial (Below.refl _ _) (Nat.le_refl _) (by simp) ?_; (case hd => rfl); (case hg => rfl); (case hr => exact T3_); (case hp => exact (Reps.one (show Kd.M Kd.string _ _ _ t138 [.string t138] from rfl) (Reps.none _ _))); intro v141 w40 ho41 hb hg_ hnew_; clear hg_ hnew_; (first | rw [← Ny140.out] at ho41 | (simp only [Int.reduceToNat] at ho41; rw [← Ny140.out] at ho41)); replace HO129 := RC_ HO129 hb; have HO142 := Aside0.mk (Kd.R_lower ho41 (below_size T9_)); replace HO132 := RC_ HO132 hb; replace BK123 := BF_ BK123 hb; replace BK134 := BF_ BK134 hb; replace HB := Aside0.mk (below_step T9_ hb); clear hb ho41; obtain ⟨Ao42, co42, eo42⟩ := Kd.R_slice HO142.out; subst eo42) | ((with_reducible refine gate_callee (f := 20) rfl ?_); refine goesL_ (some 57) rfl rfl Tryz.func20 (by kernel_rfl) rfl #[.agg #[.slice none 0 0, .slice Ao42 y140.length co42], .string a1] rfl T2_ ?_; (refine (tensor_Scale.calls _ _ ([] : List Int) _ _ y140 a1 t143 t146 t149 _ (Err.Gs.below HGs.out T9_) ?side1 ?side2 ?side3 ?side4 A24.out).mono ?_); (case side1 => exact Kd.C_nil _ _); (case side2 => exact Nat.le_refl _); (case side3 => exact C2_ HO142); (case side4 => exact (Kd.R_reads' HO142.out).2.1); rintro e w43 ⟨v144, v147, rfl, ho0, ho1, hb⟩; refine ⟨_, rfl, ?_⟩; have HO145 := Aside0.mk (Kd.R_lower ho0 (below_size T9_)); replace HO129 := RC_ HO129 hb; have HO148 := Aside0.mk (Kd.R_lower ho1 (below_size T9_)); replace HO132 := RC_ HO132 hb; replace HO142 := RC_ HO142 hb; replace BK123 := BF_ BK123 hb; replace BK134 := BF_ BK134 hb; replace HB := Aside0.mk (below_step T9_ hb); (try clear hb); (try clear hb2); (try clear hk); (try clear hi); (try clear ho0); (try clear ho1)) | ((with_reducible refine gate_dst (N := 11) rfl ?_); (try (refine gate_guard (by rfl) ?_; dsimp only)); refine box_event ?hg (N := 11) ?hd (cs := #[.slice none 0 0, .slice none 0 0]) (t := 25) ?hr ?_; (case hd => rfl); (case hg => rfl); (case hr => exact T3_); intro gb150 hg w44 hbox hb; replace HO129 := RC_ HO129 hb; replace HO132 := RC_ HO132 hb; replace HO142 := RC_ HO142 hb; replace HO145 := RC_ HO145 hb; replace HO148 := RC_ HO148 hb; have BK150 := Aside0.mk (hbox); have GW150 := GE_ hg; have GE150 := GE_ hg; replace HB := Aside0.mk (below_step T9_ hb); have NB123_150 := NB_ BK123 hg; have NB150_123 := NC_ BK123 hg; replace BK123 := BF_ BK123 hb; have NB134_150 := NB_ BK134 hg; have NB150_134 := NC_ BK134 hg; replace BK134 := BF_ BK134 hb; clear hb hbox hg; obtain ⟨Ao45, co45, eo45⟩ := Kd.R_slice HO145.out; subst eo45; have hnb46 := NB150_123.out; have hnc46 := NB123_150.out; have hnb47 := NB150_134.out; have hnc47 := NB134_150.out; have hcz48_0 : w44.cell? ⟨gb150, 0, none⟩ = some (.slice none 0 0) := (blk_cell BK150.out 0).trans rfl; have hcz48_1 : w44.cell? ⟨gb150, 1, none⟩ = some (.slice none 0 0) := (blk_cell BK150.out 1).trans rfl; have hfz48_0 := blk_frozen BK150.out 0; have hfz48_1 := blk_frozen BK150.out 1; obtain ⟨Ao49, co49, eo49⟩ := Kd.R_slice HO148.out; subst eo49; have p151 : 0 ≤ (0 : Int) := (by omega); have q151 : 0 < (t146.length : Int) := of_decide_eq_true (by first | (with_reducible assumption) | assumption); obtain ⟨ad151, e151, hx151_0⟩ := Kd.at_string (Kd.R_reads' HO148.out).2.2 0 p151 q151; cases e151; have qi151 : (0 < t146.length) = True := eq_true (by omega); (try rw [show ((0 : Int)).toNat = 0 from rfl] at hx151_0); (try rw [Addr.add_zero'] at hx151_0); have hn151_0 : ad151.block ≠ gb150 := Kd.own_blk (Kd.R_ne HO148.out BK150.out (by decide)); have hn151_1 : ad151.block ≠ gb150 := Kd.own_blk (Kd.R_ne HO148.out BK150.out (by decide)); replace hx151_0 := (cell_far (p := ⟨gb150, 0, none⟩) (by first | (rw [add_block]; exact hn151_0) | (show (Addr.add _ _).block ≠ _; rw [add_block]; exact hn151_0) | exact hn151_0) (.slice Ao45 t143.length co45)).trans hx151_0; replace hx151_0 := (cell_far (p := ⟨gb150, 1, none⟩) (by first | (rw [add_block]; exact hn151_1) | (show (Addr.add _ _).block ≠ _; rw [add_block]; exact hn151_1) | exact hn151_1) (.slice (some ad151) t146.length co49)).trans hx151_0; clear hn151_0; clear hn151_1; replace p151 := eq_true p151; replace q151 := eq_true q151) | (go_at_call 13; (with_reducible refine (tapewrightlaw05_awake.calls  t152 _ (Err.Gs.below HGs.out T9_) A29.out).mono ?_); rintro e w50 ⟨rfl, hb⟩; replace HO129 := RC_ HO129 hb; replace HO132 := RC_ HO132 hb; replace HO142 := RC_ HO142 hb; replace HO145 := RC_ HO145 hb; replace HO148 := RC_ HO148 hb; replace BK123 := BG_ BK123 hb; replace BK134 := BG_ BK134 hb; replace BK150 := BP_ BK150 hb; replace HB := Aside0.mk (below_step T9_ hb); (try clear hb); (try clear hb2); (try clear hk); (try clear hi)))
         go_ret
         exact ⟨T4_, T9_⟩
        ·
         rw [if_neg c28] at H
         have c28b0 : ((rdOf ByteArray.empty t146 0).toList == t136.toList) = false := beq_eq_false_iff_ne.mpr c28
         have c28b1 : ((rdOf ByteArray.empty t146 0).toList != t136.toList) = true := bne_iff_ne.mpr c28
         exact absurd ((Option.some.inj H).trans HRT.out) (by decide)
       ·
        rw [if_neg c27] at H
        exact absurd H (by simp)
      ·
       rw [if_neg c26] at H
       have c26b0 : ((t146.length : Int) == 1) = false := beq_eq_false_iff_ne.mpr c26
       have c26b1 : ((t146.length : Int) != 1) = true := bne_iff_ne.mpr c26
       exact absurd ((Option.some.inj H).trans HRT.out) (by decide)
     ·
      rw [if_neg c25] at H
      have c25b0 : (t149 == 0) = false := beq_eq_false_iff_ne.mpr c25
      have c25b1 : (t149 != 0) = true := bne_iff_ne.mpr c25
      exact absurd ((Option.some.inj H).trans HRT.out) (by decide)
    ·
     rw [if_neg c21] at H
     have c21b0 : (t133 == 0) = false := beq_eq_false_iff_ne.mpr c21
     have c21b1 : (t133 != 0) = true := bne_iff_ne.mpr c21
     by_cases c51 : (t130.length : Int) = 0
     ·
      rw [if_pos c51] at H
      have c51b0 : ((t130.length : Int) == 0) = true := beq_iff_eq.mpr c51
      have c51b1 : ((t130.length : Int) != 0) = false := bne_eq_false_iff_eq.mpr c51
      clear c51
      replace H := Option.bind_eq_some_iff.mp H
      obtain ⟨t135, A520, H⟩ := H
      have A52 := Aside0.mk A520
      clear A520
      obtain rfl := Option.some.inj H
      have hcz53_0 := CA_ BK123
      have hcz53_1 := CB_ BK123
      have hfz53_0 := blk_frozen BK123.out 0
      have hfz53_1 := blk_frozen BK123.out 1
      go_wp2_with (first | ((with_reducible refine gate_callee (f := 20) rfl ?_); refine goesL_ (some 30) rfl rfl Tryz.func20 (by kernel_rfl) rfl #[.agg #[.slice A0_0 l0_0.length c0_0, .slice A0_1 l0_1.length c0_1], .string a1] rfl T2_ ?_; (with_reducible refine (tensor_Scale.calls _ _ l0_0 _ _ l0_1 a1 t127 t130 t133 _ (Err.Gs.below HGs.out T9_) ?side1 ?side2 ?side3 ?side4 A20.out).mono ?_); (case side1 => exact C1_ (Kd.C_below HR0_0.out HB.out)); (case side2 => exact HC0_0.out); (case side3 => exact C1_ (Kd.C_below HR0_1.out HB.out)); (case side4 => exact HC0_1.out); rintro e w54 ⟨v128, v131, rfl, ho0, ho1, hb⟩; refine ⟨_, rfl, ?_⟩; have HO129 := Aside0.mk (Kd.R_lower ho0 (below_size T9_)); have HO132 := Aside0.mk (Kd.R_lower ho1 (below_size T9_)); replace BK123 := BF_ BK123 hb; replace HB := Aside0.mk (below_step T9_ hb); (try clear hb); (try clear hb2); (try clear hk); (try clear hi); (try clear ho0); (try clear ho1)) | ((with_reducible refine gate_dst (N := 5) rfl ?_); (try (refine gate_guard (by rfl) ?_; dsimp only)); refine box_event ?hg (N := 5) ?hd (cs := #[.slice none 0 0, .slice none 0 0]) (t := 25) ?hr ?_; (case hd => rfl); (case hg => rfl); (case hr => exact T3_); intro gb134 hg w55 hbox hb; replace HO129 := RC_ HO129 hb; replace HO132 := RC_ HO132 hb; have BK134 := Aside0.mk (hbox); have GW134 := GE_ hg; have GE134 := GE_ hg; replace HB := Aside0.mk (below_step T9_ hb); have NB123_134 := NB_ BK123 hg; have NB134_123 := NC_ BK123 hg; replace BK123 := BF_ BK123 hb; clear hb hbox hg; obtain ⟨Ao56, co56, eo56⟩ := Kd.R_slice HO129.out; subst eo56; have hnb57 := NB134_123.out; have hnc57 := NB123_134.out; have hcz58_0 := CA_ BK134; have hcz58_1 := CB_ BK134; have hfz58_0 := blk_frozen BK134.out 0; have hfz58_1 := blk_frozen BK134.out 1; obtain ⟨Ao59, co59, eo59⟩ := Kd.R_slice HO132.out; subst eo59) | (go_at_call 13; (with_reducible refine (tapewrightlaw05_awake.calls  t135 _ (Err.Gs.below HGs.out T9_) A52.out).mono ?_); rintro e w60 ⟨rfl, hb⟩; replace HO129 := RC_ HO129 hb; replace HO132 := RC_ HO132 hb; replace BK123 := BG_ BK123 hb; replace BK134 := BP_ BK134 hb; replace HB := Aside0.mk (below_step T9_ hb); (try clear hb); (try clear hb2); (try clear hk); (try clear hi)))
      go_ret
      exact ⟨T4_, T9_⟩
     ·
      rw [if_neg c51] at H
      have c51b0 : ((t130.length : Int) == 0) = false := beq_eq_false_iff_ne.mpr c51
      have c51b1 : ((t130.length : Int) != 0) = true := bne_iff_ne.mpr c51
      have c51b2 : ¬ (t130 = []) := fun h_ => c51 (by rw [h_]; rfl)
      exact absurd ((Option.some.inj H).trans HRT.out) (by decide)
end Go.Proofs.YtlglpffoijdgbaaGreatDoor.PQS
