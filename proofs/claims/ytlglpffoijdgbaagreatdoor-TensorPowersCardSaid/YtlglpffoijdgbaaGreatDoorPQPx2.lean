-- by wip/tool/mine.py of this repo (the kit's printer with given contracts)
import Derived.Test.YtlglpffoijdgbaaGreatDoorPQPx0
import Derived.Test.YtlglpffoijdgbaaGreatDoorPQPx1
namespace Go.Proofs.YtlglpffoijdgbaaGreatDoor.PQP
set_option maxHeartbeats 8000000
set_option maxRecDepth 100000
open Go.RowKit Go.Proofs.YtlglpffoijdgbaaGreatDoorW.PrintWords Go.Proofs.YtlglpffoijdgbaaGreatDoorW.PrintLast Go.Proofs.YtlglpffoijdgbaaGreatDoorW.PrintMore
attribute [local go_sem] max2_int min2_int max_two min_two max_three min_three max_four min_four   -- for this text's walks alone
set_option linter.unusedVariables false
set_option linter.unusedSimpArgs false

/-! ### tapewrightlaw05_TensorPowers: function 10 -/
noncomputable def tapewrightlaw05_TensorPowers.j0 : Nat → Bool → List Int → List ByteArray → Option (Bool)
 | 0, _, _, _ => none
 | k + 1, x24, x124000, x124001 => if x24 = true then ((tapewrightlaw05_awake.f).bind fun t126 => (some t126)) else ((tensor_Power.f x124000 x124001 1).bind fun bt127 => ((tensor_Power.f x124000 x124001 0).bind fun bt135 => ((tensor_Power.f x124000 x124001 2).bind fun bt143 => ((tensor_Zip.f (⟨#[109, 117, 108]⟩ : ByteArray) x124000 x124001 x124000 x124001).bind fun bt151 => ((tensor_Scale.f x124000 x124001 (⟨#[48]⟩ : ByteArray)).bind fun bt159 => ((tensor_Fill.f x124000 (⟨#[49]⟩ : ByteArray)).bind fun bt167 => ((tensor_Fill.f x124000 (⟨#[48]⟩ : ByteArray)).bind fun bt175 => ((tapewrightref05_Equal.f bt127.1 bt127.2.1 x124000 x124001).bind fun t183 => (if t183 = true then ((tapewrightref05_Equal.f bt135.1 bt135.2.1 bt167.1 bt167.2.1).bind fun t184 => (if t184 = true then ((tapewrightref05_Equal.f bt143.1 bt143.2.1 bt151.1 bt151.2.1).bind fun t185 => (if t185 = true then ((tapewrightref05_Equal.f bt159.1 bt159.2.1 bt175.1 bt175.2.1).bind fun t186 => (if t186 = true then (if bt143.2.2 = 0 then (if bt151.2.2 = 0 then ((tapewrightlaw05_awake.f).bind fun t187 => (some t187)) else (some false)) else (some false)) else (some false))) else (some false))) else (some false))) else (some false))))))))))
noncomputable def tapewrightlaw05_TensorPowers.f (k : Nat) (l0_0 : List Int) (l0_1 : List ByteArray) : Option (Bool) := (tapewrightref05_Small.f l0_0 l0_1).bind fun t124 => (if t124 = true then ((tensor_Right.f l0_0 l0_1).bind fun t125 => (tapewrightlaw05_TensorPowers.j0 k (!t125) l0_0 l0_1)) else (tapewrightlaw05_TensorPowers.j0 k true l0_0 l0_1))
theorem tapewrightlaw05_TensorPowers.calls (k : Nat) (A0_0 : Option Addr) (c0_0 : Nat) (l0_0 : List Int) (A0_1 : Option Addr) (c0_1 : Nat) (l0_1 : List ByteArray) (r : Bool) (w : World) (hG : Err.Gs w) (hrt : r = true) (hr0_0 : Kd.C (Kd.int .i64) w A0_0 l0_0.length l0_0) (hc0_0 : l0_0.length ≤ c0_0) (hr0_1 : Kd.C Kd.string w A0_1 l0_1.length l0_1) (hc0_1 : l0_1.length ≤ c0_1) (h : tapewrightlaw05_TensorPowers.f k l0_0 l0_1 = some r) :
  Calls Tryz.prog 10 #[.agg #[.slice A0_0 l0_0.length c0_0, .slice A0_1 l0_1.length c0_1]] w fun e w' => e = .returned (.bool r) ∧ Below w.heap.size w w' := by
 have hu25 := Tryz.underlying25
 have HR0_0 := Aside0.mk hr0_0
 have HC0_0 := Aside0.mk hc0_0
 clear hr0_0 hc0_0
 have HR0_1 := Aside0.mk hr0_1
 have HC0_1 := Aside0.mk hc0_1
 clear hr0_1 hc0_1
 have HB := Aside0.mk (Below.refl w.heap.size w)
 have HGs := Aside0.mk hG
 clear hG
 have HRT := Aside0.mk hrt
 clear hrt
 unfold tapewrightlaw05_TensorPowers.f at h
 have H := h
 clear h
 have HC2 := Aside0.mk H
 clear H
 go_enter Tryz.func10, Tryz.ntmps10
 go_upto_region 1 with (first | ((with_reducible refine gate_dst (N := 1) rfl ?_); refine box_event ?hg (N := 1) ?hd (cs := #[.slice A0_0 l0_0.length c0_0, .slice A0_1 l0_1.length c0_1]) (t := 25) ?hr ?_; (case hd => rfl); (case hg => rfl); (case hr => exact T3_); intro gb123 hg w3 hbox hb; have BK123 := Aside0.mk (hbox); have GW123 := GE_ hg; have GE123 := GE_ hg; replace HB := Aside0.mk (below_step T1_ hb); clear hb hbox hg))
 (try simp only [Act.put, List.setIfInBounds_toArray, List.set_cons_zero, List.set_cons_succ])
 go_cut [24] (fun v24 wc => ∃ (kq : Nat) (x24_1 : Bool), v24 = .bool x24_1 ∧ Aside0 (tapewrightlaw05_TensorPowers.j0 kq x24_1 l0_0 l0_1 = some r) ∧ Aside0 (kq ≤ k) ∧ Aside0 (wc.heap[gb123]? = some (.cells #[(.slice A0_0 l0_0.length c0_0), (.slice A0_1 l0_1.length c0_1)] 25 (0, 0))) ∧ Aside0 (Below w.heap.size w wc))
 case first =>
  have H := HC2.out
  clear HC2
  replace H := Option.bind_eq_some_iff.mp H
  obtain ⟨t124, A40, H⟩ := H
  have A4 := Aside0.mk A40
  clear A40
  by_cases c5 : t124 = true
  ·
   subst c5
   rw [if_pos rfl] at H
   replace H := Option.bind_eq_some_iff.mp H
   obtain ⟨t125, A60, H⟩ := H
   have A6 := Aside0.mk A60
   clear A60
   have H' := Aside0.mk H
   clear H
   have hcz7_0 := CA_ BK123
   have hcz7_1 := CB_ BK123
   have hfz7_0 := blk_frozen BK123.out 0
   have hfz7_1 := blk_frozen BK123.out 1
   go_wp2_with (first | ((with_reducible refine gate_callee (f := 12) rfl ?_); refine goesL_ (some 18) rfl rfl Tryz.func12 (by kernel_rfl) rfl #[.agg #[.slice A0_0 l0_0.length c0_0, .slice A0_1 l0_1.length c0_1]] rfl T2_ ?_; (with_reducible refine (tapewrightref05_Small.calls _ _ l0_0 _ _ l0_1 true _ ?side1 ?side2 ?side3 ?side4 A4.out).mono ?_); (case side1 => exact C1_ (Kd.C_below HR0_0.out HB.out)); (case side2 => exact HC0_0.out); (case side3 => exact C1_ (Kd.C_below HR0_1.out HB.out)); (case side4 => exact HC0_1.out); rintro e w8 ⟨rfl, hb⟩; refine ⟨_, rfl, ?_⟩; replace BK123 := BF_ BK123 hb; replace HB := Aside0.mk (below_step T9_ hb); (try clear hb); (try clear hb2); (try clear hk); (try clear hi); have hcz9_0 := CA_ BK123; have hcz9_1 := CB_ BK123; have hfz9_0 := blk_frozen BK123.out 0; have hfz9_1 := blk_frozen BK123.out 1) | (go_at_call 15; (with_reducible refine (tensor_Right.calls _ _ l0_0 _ _ l0_1 t125 _ (Err.Gs.below HGs.out T9_) ?side1 ?side2 ?side3 ?side4 A6.out).mono ?_); (case side1 => exact C1_ (Kd.C_below HR0_0.out HB.out)); (case side2 => exact HC0_0.out); (case side3 => exact C1_ (Kd.C_below HR0_1.out HB.out)); (case side4 => exact HC0_1.out); rintro e w10 ⟨rfl, hb⟩; replace BK123 := BF_ BK123 hb; replace HB := Aside0.mk (below_step T9_ hb); (try clear hb); (try clear hb2); (try clear hk); (try clear hi)))
   go_meet
   case rel => exact ⟨_, (!t125), (by first | rfl | (simp; done) | (simp [*]; done)), H', ⟨by first | omega | exact Nat.le_refl _⟩, ⟨by (with_reducible repeat (first | refine blk_drewN ?_ _ | refine blk_drew ?_ | refine blk_alloc ?_ _)); exact BK123.out⟩, ⟨by repeat (first | (with_reducible first | exact HB.out | apply below_alloc | apply pw_below_drewN | apply below_drew1 | refine below_set ?_ GE123.out) | exact HB.out)⟩⟩
  ·
   replace c5 := Bool.eq_false_iff.mpr c5
   subst c5
   rw [if_neg (show ¬ (false = true) by decide)] at H
   have H' := Aside0.mk H
   clear H
   have hcz11_0 := CA_ BK123
   have hcz11_1 := CB_ BK123
   have hfz11_0 := blk_frozen BK123.out 0
   have hfz11_1 := blk_frozen BK123.out 1
   go_wp2_with (first | ((with_reducible refine gate_callee (f := 12) rfl ?_); refine goesL_ (some 18) rfl rfl Tryz.func12 (by kernel_rfl) rfl #[.agg #[.slice A0_0 l0_0.length c0_0, .slice A0_1 l0_1.length c0_1]] rfl T2_ ?_; (with_reducible refine (tapewrightref05_Small.calls _ _ l0_0 _ _ l0_1 false _ ?side1 ?side2 ?side3 ?side4 A4.out).mono ?_); (case side1 => exact C1_ (Kd.C_below HR0_0.out HB.out)); (case side2 => exact HC0_0.out); (case side3 => exact C1_ (Kd.C_below HR0_1.out HB.out)); (case side4 => exact HC0_1.out); rintro e w12 ⟨rfl, hb⟩; refine ⟨_, rfl, ?_⟩; replace BK123 := BF_ BK123 hb; replace HB := Aside0.mk (below_step T9_ hb); (try clear hb); (try clear hb2); (try clear hk); (try clear hi)))
   go_meet
   case rel => exact ⟨_, (true), (by first | rfl | (simp; done) | (simp [*]; done)), H', ⟨by first | omega | exact Nat.le_refl _⟩, ⟨by (with_reducible repeat (first | refine blk_drewN ?_ _ | refine blk_drew ?_ | refine blk_alloc ?_ _)); exact BK123.out⟩, ⟨by repeat (first | (with_reducible first | exact HB.out | apply below_alloc | apply pw_below_drewN | apply below_drew1 | refine below_set ?_ GE123.out) | exact HB.out)⟩⟩
 case rest =>
  clear HC2
  try clear c1
  try clear p2
  try clear c5
  try clear c10
  try clear c12
  try clear hcz11_0
  try clear hcz11_1
  try clear hcz7_0
  try clear hcz7_1
  try clear hcz9_0
  try clear hcz9_1
  try clear hfz11_0
  try clear hfz11_1
  try clear hfz7_0
  try clear hfz7_1
  try clear hfz9_0
  try clear hfz9_1
  obtain ⟨kq, x24_1, rfl, HA, HJ1, BK123, HB⟩ := hcut
  cases kq with
  | zero => exact absurd HA.out (by simp [tapewrightlaw05_TensorPowers.j0])
  | succ kj1 =>
   have H := HA.out
   clear HA
   simp only [tapewrightlaw05_TensorPowers.j0] at H
   by_cases c13 : x24_1 = true
   ·
    subst c13
    rw [if_pos rfl] at H
    replace H := Option.bind_eq_some_iff.mp H
    obtain ⟨t126, A140, H⟩ := H
    have A14 := Aside0.mk A140
    clear A140
    obtain rfl := Option.some.inj H
    go_wp2_with (first | ((with_reducible refine gate_callee (f := 13) rfl ?_); refine goesL_ (some 25) rfl rfl Tryz.func13 (by kernel_rfl) rfl #[] rfl T2_ ?_; (with_reducible refine (tapewrightlaw05_awake.calls  t126 _ (Err.Gs.below HGs.out T9_) A14.out).mono ?_); rintro e w15 ⟨rfl, hb⟩; refine ⟨_, rfl, ?_⟩; replace BK123 := BF_ BK123 hb; replace HB := Aside0.mk (below_step T9_ hb); (try clear hb); (try clear hb2); (try clear hk); (try clear hi)))
    go_ret
    exact ⟨T4_, T9_⟩
   ·
    replace c13 := Bool.eq_false_iff.mpr c13
    subst c13
    rw [if_neg (show ¬ (false = true) by decide)] at H
    replace H := Option.bind_eq_some_iff.mp H
    obtain ⟨⟨t127, t130, t133⟩, A160, H⟩ := H
    have A16 := Aside0.mk A160
    clear A160
    replace H := Option.bind_eq_some_iff.mp H
    obtain ⟨⟨t135, t138, t141⟩, A170, H⟩ := H
    have A17 := Aside0.mk A170
    clear A170
    replace H := Option.bind_eq_some_iff.mp H
    obtain ⟨⟨t143, t146, t149⟩, A180, H⟩ := H
    have A18 := Aside0.mk A180
    clear A180
    replace H := Option.bind_eq_some_iff.mp H
    obtain ⟨⟨t151, t154, t157⟩, A190, H⟩ := H
    have A19 := Aside0.mk A190
    clear A190
    replace H := Option.bind_eq_some_iff.mp H
    obtain ⟨⟨t159, t162, t165⟩, A200, H⟩ := H
    have A20 := Aside0.mk A200
    clear A200
    replace H := Option.bind_eq_some_iff.mp H
    obtain ⟨⟨t167, t170, t173⟩, A210, H⟩ := H
    have A21 := Aside0.mk A210
    clear A210
    replace H := Option.bind_eq_some_iff.mp H
    obtain ⟨⟨t175, t178, t181⟩, A220, H⟩ := H
    have A22 := Aside0.mk A220
    clear A220
    replace H := Option.bind_eq_some_iff.mp H
    obtain ⟨t183, A230, H⟩ := H
    have A23 := Aside0.mk A230
    clear A230
    by_cases c24 : t183 = true
    ·
     subst c24
     rw [if_pos rfl] at H
     replace H := Option.bind_eq_some_iff.mp H
     obtain ⟨t184, A250, H⟩ := H
     have A25 := Aside0.mk A250
     clear A250
     by_cases c26 : t184 = true
     ·
      subst c26
      rw [if_pos rfl] at H
      replace H := Option.bind_eq_some_iff.mp H
      obtain ⟨t185, A270, H⟩ := H
      have A27 := Aside0.mk A270
      clear A270
      by_cases c28 : t185 = true
      ·
       subst c28
       rw [if_pos rfl] at H
       replace H := Option.bind_eq_some_iff.mp H
       obtain ⟨t186, A290, H⟩ := H
       have A29 := Aside0.mk A290
       clear A290
       by_cases c30 : t186 = true
       ·
        subst c30
        rw [if_pos rfl] at H
        by_cases c31 : t149 = 0
        ·
         rw [if_pos c31] at H
         have c31b0 : (t149 == 0) = true := beq_iff_eq.mpr c31
         have c31b1 : (t149 != 0) = false := bne_eq_false_iff_eq.mpr c31
         clear c31
         by_cases c32 : t157 = 0
         ·
          rw [if_pos c32] at H
          have c32b0 : (t157 == 0) = true := beq_iff_eq.mpr c32
          have c32b1 : (t157 != 0) = false := bne_eq_false_iff_eq.mpr c32
          clear c32
          replace H := Option.bind_eq_some_iff.mp H
          obtain ⟨t187, A330, H⟩ := H
          have A33 := Aside0.mk A330
          clear A330
          obtain rfl := Option.some.inj H
          have hcz34_0 := CA_ BK123
          have hcz34_1 := CB_ BK123
          have hfz34_0 := blk_frozen BK123.out 0
          have hfz34_1 := blk_frozen BK123.out 1
          go_wp2_with (first | ((with_reducible refine gate_callee (f := 23) rfl ?_); refine goesL_ (some 28) rfl rfl Tryz.func23 (by kernel_rfl) rfl #[.agg #[.slice A0_0 l0_0.length c0_0, .slice A0_1 l0_1.length c0_1], .int .i64 1] rfl T2_ ?_; (with_reducible refine (tensor_Power.calls _ _ l0_0 _ _ l0_1 1 t127 t130 t133 _ (Err.Gs.below HGs.out T9_) ?side1 ?side2 ?side3 ?side4 A16.out).mono ?_); (case side1 => exact C1_ (Kd.C_below HR0_0.out HB.out)); (case side2 => exact HC0_0.out); (case side3 => exact C1_ (Kd.C_below HR0_1.out HB.out)); (case side4 => exact HC0_1.out); rintro e w35 ⟨v128, v131, rfl, ho0, ho1, hb⟩; refine ⟨_, rfl, ?_⟩; have HO129 := Aside0.mk (Kd.R_lower ho0 (below_size T9_)); have HO132 := Aside0.mk (Kd.R_lower ho1 (below_size T9_)); replace BK123 := BF_ BK123 hb; replace HB := Aside0.mk (below_step T9_ hb); (try clear hb); (try clear hb2); (try clear hk); (try clear hi); (try clear ho0); (try clear ho1)) | ((with_reducible refine gate_dst (N := 3) rfl ?_); refine box_event ?hg (N := 3) ?hd (cs := #[.slice none 0 0, .slice none 0 0]) (t := 25) ?hr ?_; (case hd => rfl); (case hg => rfl); (case hr => exact T3_); intro gb134 hg w36 hbox hb; replace HO129 := RC_ HO129 hb; replace HO132 := RC_ HO132 hb; have BK134 := Aside0.mk (hbox); have GW134 := GE_ hg; have GE134 := GE_ hg; replace HB := Aside0.mk (below_step T9_ hb); have NB123_134 := NB_ BK123 hg; have NB134_123 := NC_ BK123 hg; replace BK123 := BF_ BK123 hb; clear hb hbox hg; obtain ⟨Ao37, co37, eo37⟩ := Kd.R_slice HO129.out; subst eo37; have hnb38 := NB134_123.out; have hnc38 := NB123_134.out; have hcz39_0 := CA_ BK134; have hcz39_1 := CB_ BK134; have hfz39_0 := blk_frozen BK134.out 0; have hfz39_1 := blk_frozen BK134.out 1; obtain ⟨Ao40, co40, eo40⟩ := Kd.R_slice HO132.out; subst eo40; have hcz41_0 := CA_ BK123; have hcz41_1 := CB_ BK123; have hfz41_0 := blk_frozen BK123.out 0; have hfz41_1 := blk_frozen BK123.out 1) | ((with_reducible refine gate_callee (f := 23) rfl ?_); refine goesL_ (some 33) rfl rfl Tryz.func23 (by kernel_rfl) rfl #[.agg #[.slice A0_0 l0_0.length c0_0, .slice A0_1 l0_1.length c0_1], .int .i64 0] rfl T2_ ?_; (with_reducible refine (tensor_Power.calls _ _ l0_0 _ _ l0_1 0 t135 t138 t141 _ (Err.Gs.below HGs.out T9_) ?side1 ?side2 ?side3 ?side4 A17.out).mono ?_); (case side1 => exact Kd.C_below HR0_0.out T9_); (case side2 => exact HC0_0.out); (case side3 => exact Kd.C_below HR0_1.out T9_); (case side4 => exact HC0_1.out); rintro e w42 ⟨v136, v139, rfl, ho0, ho1, hb⟩; refine ⟨_, rfl, ?_⟩; have HO137 := Aside0.mk (Kd.R_lower ho0 (below_size T9_)); replace HO129 := RC_ HO129 hb; have HO140 := Aside0.mk (Kd.R_lower ho1 (below_size T9_)); replace HO132 := RC_ HO132 hb; replace BK123 := BG_ BK123 hb; replace BK134 := BP_ BK134 hb; replace HB := Aside0.mk (below_step T9_ hb); (try clear hb); (try clear hb2); (try clear hk); (try clear hi); (try clear ho0); (try clear ho1)) | ((with_reducible refine gate_dst (N := 5) rfl ?_); refine box_event ?hg (N := 5) ?hd (cs := #[.slice none 0 0, .slice none 0 0]) (t := 25) ?hr ?_; (case hd => rfl); (case hg => rfl); (case hr => exact T3_); intro gb142 hg w43 hbox hb; replace HO129 := RC_ HO129 hb; replace HO132 := RC_ HO132 hb; replace HO137 := RC_ HO137 hb; replace HO140 := RC_ HO140 hb; have BK142 := Aside0.mk (hbox); have GW142 := GE_ hg; have GE142 := GE_ hg; replace HB := Aside0.mk (below_step T9_ hb); have NB123_142 := NB_ BK123 hg; have NB142_123 := NC_ BK123 hg; replace BK123 := BF_ BK123 hb; have NB134_142 := NB_ BK134 hg; have NB142_134 := NC_ BK134 hg; replace BK134 := BF_ BK134 hb; clear hb hbox hg; obtain ⟨Ao44, co44, eo44⟩ := Kd.R_slice HO137.out; subst eo44; have hnb45 := NB142_123.out; have hnc45 := NB123_142.out; have hnb46 := NB142_134.out; have hnc46 := NB134_142.out; have hcz47_0 : w43.cell? ⟨gb142, 0, none⟩ = some (.slice none 0 0) := (blk_cell BK142.out 0).trans rfl; have hcz47_1 : w43.cell? ⟨gb142, 1, none⟩ = some (.slice none 0 0) := (blk_cell BK142.out 1).trans rfl; have hfz47_0 := blk_frozen BK142.out 0; have hfz47_1 := blk_frozen BK142.out 1; obtain ⟨Ao48, co48, eo48⟩ := Kd.R_slice HO140.out; subst eo48; have hcz49_0 := CA_ BK123; have hcz49_1 := CB_ BK123; have hfz49_0 := blk_frozen BK123.out 0; have hfz49_1 := blk_frozen BK123.out 1) | ((with_reducible refine gate_callee (f := 23) rfl ?_); refine goesL_ (some 38) rfl rfl Tryz.func23 (by kernel_rfl) rfl #[.agg #[.slice A0_0 l0_0.length c0_0, .slice A0_1 l0_1.length c0_1], .int .i64 2] rfl T2_ ?_; (with_reducible refine (tensor_Power.calls _ _ l0_0 _ _ l0_1 2 t143 t146 t149 _ (Err.Gs.below HGs.out T9_) ?side1 ?side2 ?side3 ?side4 A18.out).mono ?_); (case side1 => exact Kd.C_below HR0_0.out T9_); (case side2 => exact HC0_0.out); (case side3 => exact Kd.C_below HR0_1.out T9_); (case side4 => exact HC0_1.out); rintro e w50 ⟨v144, v147, rfl, ho0, ho1, hb⟩; refine ⟨_, rfl, ?_⟩; have HO145 := Aside0.mk (Kd.R_lower ho0 (below_size T9_)); replace HO129 := RC_ HO129 hb; replace HO137 := RC_ HO137 hb; have HO148 := Aside0.mk (Kd.R_lower ho1 (below_size T9_)); replace HO132 := RC_ HO132 hb; replace HO140 := RC_ HO140 hb; replace BK123 := BG_ BK123 hb; replace BK134 := BG_ BK134 hb; replace BK142 := BP_ BK142 hb; replace HB := Aside0.mk (below_step T9_ hb); (try clear hb); (try clear hb2); (try clear hk); (try clear hi); (try clear ho0); (try clear ho1)) | ((with_reducible refine gate_dst (N := 7) rfl ?_); refine box_event ?hg (N := 7) ?hd (cs := #[.slice none 0 0, .slice none 0 0]) (t := 25) ?hr ?_; (case hd => rfl); (case hg => rfl); (case hr => exact T3_); intro gb150 hg w51 hbox hb; replace HO129 := RC_ HO129 hb; replace HO132 := RC_ HO132 hb; replace HO137 := RC_ HO137 hb; replace HO140 := RC_ HO140 hb; replace HO145 := RC_ HO145 hb; replace HO148 := RC_ HO148 hb; have BK150 := Aside0.mk (hbox); have GW150 := GE_ hg; have GE150 := GE_ hg; replace HB := Aside0.mk (below_step T9_ hb); have NB123_150 := NB_ BK123 hg; have NB150_123 := NC_ BK123 hg; replace BK123 := BF_ BK123 hb; have NB134_150 := NB_ BK134 hg; have NB150_134 := NC_ BK134 hg; replace BK134 := BF_ BK134 hb; have NB142_150 := NB_ BK142 hg; have NB150_142 := NC_ BK142 hg; replace BK142 := BF_ BK142 hb; clear hb hbox hg; obtain ⟨Ao52, co52, eo52⟩ := Kd.R_slice HO145.out; subst eo52; have hnb53 := NB150_123.out; have hnc53 := NB123_150.out; have hnb54 := NB150_134.out; have hnc54 := NB134_150.out; have hnb55 := NB150_142.out; have hnc55 := NB142_150.out; have hcz56_0 : w51.cell? ⟨gb150, 0, none⟩ = some (.slice none 0 0) := (blk_cell BK150.out 0).trans rfl; have hcz56_1 : w51.cell? ⟨gb150, 1, none⟩ = some (.slice none 0 0) := (blk_cell BK150.out 1).trans rfl; have hfz56_0 := blk_frozen BK150.out 0; have hfz56_1 := blk_frozen BK150.out 1; obtain ⟨Ao57, co57, eo57⟩ := Kd.R_slice HO148.out; subst eo57; have hcz58_0 := CA_ BK123; have hcz58_1 := CB_ BK123; have hfz58_0 := blk_frozen BK123.out 0; have hfz58_1 := blk_frozen BK123.out 1) | ((with_reducible refine gate_callee (f := 14) rfl ?_); refine goesL_ (some 44) rfl rfl Tryz.func14 (by kernel_rfl) rfl #[.string (⟨#[109, 117, 108]⟩ : ByteArray), .agg #[.slice A0_0 l0_0.length c0_0, .slice A0_1 l0_1.length c0_1], .agg #[.slice A0_0 l0_0.length c0_0, .slice A0_1 l0_1.length c0_1]] rfl T2_ ?_; (with_reducible refine (tensor_Zip.calls (⟨#[109, 117, 108]⟩ : ByteArray) _ _ l0_0 _ _ l0_1 _ _ l0_0 _ _ l0_1 t151 t154 t157 _ (Err.Gs.below HGs.out T9_) ?side1 ?side2 ?side3 ?side4 ?side5 ?side6 ?side7 ?side8 A19.out).mono ?_); (case side1 => exact Kd.C_below HR0_0.out T9_); (case side2 => exact HC0_0.out); (case side3 => exact Kd.C_below HR0_1.out T9_); (case side4 => exact HC0_1.out); (case side5 => exact Kd.C_below HR0_0.out T9_); (case side6 => exact HC0_0.out); (case side7 => exact Kd.C_below HR0_1.out T9_); (case side8 => exact HC0_1.out); rintro e w59 ⟨v152, v155, rfl, ho0, ho1, hb⟩; refine ⟨_, rfl, ?_⟩; have HO153 := Aside0.mk (Kd.R_lower ho0 (below_size T9_)); replace HO129 := RC_ HO129 hb; replace HO137 := RC_ HO137 hb; replace HO145 := RC_ HO145 hb; have HO156 := Aside0.mk (Kd.R_lower ho1 (below_size T9_)); replace HO132 := RC_ HO132 hb; replace HO140 := RC_ HO140 hb; replace HO148 := RC_ HO148 hb; replace BK123 := BG_ BK123 hb; replace BK134 := BG_ BK134 hb; replace BK142 := BG_ BK142 hb; replace BK150 := BP_ BK150 hb; replace HB := Aside0.mk (below_step T9_ hb); (try clear hb); (try clear hb2); (try clear hk); (try clear hi); (try clear ho0); (try clear ho1)) | ((with_reducible refine gate_dst (N := 9) rfl ?_); refine box_event ?hg (N := 9) ?hd (cs := #[.slice none 0 0, .slice none 0 0]) (t := 25) ?hr ?_; (case hd => rfl); (case hg => rfl); (case hr => exact T3_); intro gb158 hg w60 hbox hb; replace HO129 := RC_ HO129 hb; replace HO132 := RC_ HO132 hb; replace HO137 := RC_ HO137 hb; replace HO140 := RC_ HO140 hb; replace HO145 := RC_ HO145 hb; replace HO148 := RC_ HO148 hb; replace HO153 := RC_ HO153 hb; replace HO156 := RC_ HO156 hb; have BK158 := Aside0.mk (hbox); have GW158 := GE_ hg; have GE158 := GE_ hg; replace HB := Aside0.mk (below_step T9_ hb); have NB123_158 := NB_ BK123 hg; have NB158_123 := NC_ BK123 hg; replace BK123 := BF_ BK123 hb; have NB134_158 := NB_ BK134 hg; have NB158_134 := NC_ BK134 hg; replace BK134 := BF_ BK134 hb; have NB142_158 := NB_ BK142 hg; have NB158_142 := NC_ BK142 hg; replace BK142 := BF_ BK142 hb; have NB150_158 := NB_ BK150 hg; have NB158_150 := NC_ BK150 hg; replace BK150 := BF_ BK150 hb; clear hb hbox hg; obtain ⟨Ao61, co61, eo61⟩ := Kd.R_slice HO153.out; subst eo61; have hnb62 := NB158_123.out; have hnc62 := NB123_158.out; have hnb63 := NB158_134.out; have hnc63 := NB134_158.out; have hnb64 := NB158_142.out; have hnc64 := NB142_158.out; have hnb65 := NB158_150.out; have hnc65 := NB150_158.out; have hcz66_0 : w60.cell? ⟨gb158, 0, none⟩ = some (.slice none 0 0) := (blk_cell BK158.out 0).trans rfl; have hcz66_1 : w60.cell? ⟨gb158, 1, none⟩ = some (.slice none 0 0) := (blk_cell BK158.out 1).trans rfl; have hfz66_0 := blk_frozen BK158.out 0; have hfz66_1 := blk_frozen BK158.out 1; obtain ⟨Ao67, co67, eo67⟩ := Kd.R_slice HO156.out; subst eo67; have hcz68_0 := CA_ BK123; have hcz68_1 := CB_ BK123; have hfz68_0 := blk_frozen BK123.out 0; have hfz68_1 := blk_frozen BK123.out 1) | ((with_reducible refine gate_callee (f := 20) rfl ?_); refine goesL_ (some 49) rfl rfl Tryz.func20 (by kernel_rfl) rfl #[.agg #[.slice A0_0 l0_0.length c0_0, .slice A0_1 l0_1.length c0_1], .string (⟨#[48]⟩ : ByteArray)] rfl T2_ ?_; (with_reducible refine (tensor_Scale.calls _ _ l0_0 _ _ l0_1 (⟨#[48]⟩ : ByteArray) t159 t162 t165 _ (Err.Gs.below HGs.out T9_) ?side1 ?side2 ?side3 ?side4 A20.out).mono ?_); (case side1 => exact Kd.C_below HR0_0.out T9_); (case side2 => exact HC0_0.out); (case side3 => exact Kd.C_below HR0_1.out T9_); (case side4 => exact HC0_1.out); rintro e w69 ⟨v160, v163, rfl, ho0, ho1, hb⟩; refine ⟨_, rfl, ?_⟩; have HO161 := Aside0.mk (Kd.R_lower ho0 (below_size T9_)); replace HO129 := RC_ HO129 hb; replace HO137 := RC_ HO137 hb; replace HO145 := RC_ HO145 hb; replace HO153 := RC_ HO153 hb; have HO164 := Aside0.mk (Kd.R_lower ho1 (below_size T9_)); replace HO132 := RC_ HO132 hb; replace HO140 := RC_ HO140 hb; replace HO148 := RC_ HO148 hb; replace HO156 := RC_ HO156 hb; replace BK123 := BG_ BK123 hb; replace BK134 := BG_ BK134 hb; replace BK142 := BG_ BK142 hb; replace BK150 := BG_ BK150 hb; replace BK158 := BP_ BK158 hb; replace HB := Aside0.mk (below_step T9_ hb); (try clear hb); (try clear hb2); (try clear hk); (try clear hi); (try clear ho0); (try clear ho1)) | ((with_reducible refine gate_dst (N := 11) rfl ?_); refine box_event ?hg (N := 11) ?hd (cs := #[.slice none 0 0, .slice none 0 0]) (t := 25) ?hr ?_; (case hd => rfl); (case hg => rfl); (case hr => exact T3_); intro gb166 hg w70 hbox hb; replace HO129 := RC_ HO129 hb; replace HO132 := RC_ HO132 hb; replace HO137 := RC_ HO137 hb; replace HO140 := RC_ HO140 hb; replace HO145 := RC_ HO145 hb; replace HO148 := RC_ HO148 hb; replace HO153 := RC_ HO153 hb; replace HO156 := RC_ HO156 hb; replace HO161 := RC_ HO161 hb; replace HO164 := RC_ HO164 hb; have BK166 := Aside0.mk (hbox); have GW166 := GE_ hg; have GE166 := GE_ hg; replace HB := Aside0.mk (below_step T9_ hb); have NB123_166 := NB_ BK123 hg; have NB166_123 := NC_ BK123 hg; replace BK123 := BF_ BK123 hb; have NB134_166 := NB_ BK134 hg; have NB166_134 := NC_ BK134 hg; replace BK134 := BF_ BK134 hb; have NB142_166 := NB_ BK142 hg; have NB166_142 := NC_ BK142 hg; replace BK142 := BF_ BK142 hb; have NB150_166 := NB_ BK150 hg; have NB166_150 := NC_ BK150 hg; replace BK150 := BF_ BK150 hb; have NB158_166 := NB_ BK158 hg; have NB166_158 := NC_ BK158 hg; replace BK158 := BF_ BK158 hb; clear hb hbox hg; obtain ⟨Ao71, co71, eo71⟩ := Kd.R_slice HO161.out; subst eo71; have hnb72 := NB166_123.out; have hnc72 := NB123_166.out; have hnb73 := NB166_134.out; have hnc73 := NB134_166.out; have hnb74 := NB166_142.out; have hnc74 := NB142_166.out; have hnb75 := NB166_150.out; have hnc75 := NB150_166.out; have hnb76 := NB166_158.out; have hnc76 := NB158_166.out; have hcz77_0 : w70.cell? ⟨gb166, 0, none⟩ = some (.slice none 0 0) := (blk_cell BK166.out 0).trans rfl; have hcz77_1 : w70.cell? ⟨gb166, 1, none⟩ = some (.slice none 0 0) := (blk_cell BK166.out 1).trans rfl; have hfz77_0 := blk_frozen BK166.out 0; have hfz77_1 := blk_frozen BK166.out 1; obtain ⟨Ao78, co78, eo78⟩ := Kd.R_slice HO164.out; subst eo78; have hcz79_0 := CA_ BK123; have hcz79_1 := CB_ BK123; have hfz79_0 := blk_frozen BK123.out 0; have hfz79_1 := blk_frozen BK123.out 1) | ((with_reducible refine gate_callee (f := 24) rfl ?_); refine goesL_ (some 55) rfl rfl Tryz.func24 (by kernel_rfl) rfl #[.slice A0_0 l0_0.length c0_0, .string (⟨#[49]⟩ : ByteArray)] rfl T2_ ?_; (with_reducible refine (tensor_Fill.calls _ _ l0_0 (⟨#[49]⟩ : ByteArray) t167 t170 t173 _ (Err.Gs.below HGs.out T9_) ?side1 ?side2 A21.out).mono ?_); (case side1 => exact Kd.C_below HR0_0.out T9_); (case side2 => exact HC0_0.out); rintro e w80 ⟨v168, v171, rfl, ho0, ho1, hb⟩; refine ⟨_, rfl, ?_⟩; have HO169 := Aside0.mk (Kd.R_lower ho0 (below_size T9_)); replace HO129 := RC_ HO129 hb; replace HO137 := RC_ HO137 hb; replace HO145 := RC_ HO145 hb; replace HO153 := RC_ HO153 hb; replace HO161 := RC_ HO161 hb; have HO172 := Aside0.mk (Kd.R_lower ho1 (below_size T9_)); replace HO132 := RC_ HO132 hb; replace HO140 := RC_ HO140 hb; replace HO148 := RC_ HO148 hb; replace HO156 := RC_ HO156 hb; replace HO164 := RC_ HO164 hb; replace BK123 := BG_ BK123 hb; replace BK134 := BG_ BK134 hb; replace BK142 := BG_ BK142 hb; replace BK150 := BG_ BK150 hb; replace BK158 := BG_ BK158 hb; replace BK166 := BP_ BK166 hb; replace HB := Aside0.mk (below_step T9_ hb); (try clear hb); (try clear hb2); (try clear hk); (try clear hi); (try clear ho0); (try clear ho1)) | ((with_reducible refine gate_dst (N := 13) rfl ?_); refine box_event ?hg (N := 13) ?hd (cs := #[.slice none 0 0, .slice none 0 0]) (t := 25) ?hr ?_; (case hd => rfl); (case hg => rfl); (case hr => exact T3_); intro gb174 hg w81 hbox hb; replace HO129 := RC_ HO129 hb; replace HO132 := RC_ HO132 hb; replace HO137 := RC_ HO137 hb; replace HO140 := RC_ HO140 hb; replace HO145 := RC_ HO145 hb; replace HO148 := RC_ HO148 hb; replace HO153 := RC_ HO153 hb; replace HO156 := RC_ HO156 hb; replace HO161 := RC_ HO161 hb; replace HO164 := RC_ HO164 hb; replace HO169 := RC_ HO169 hb; replace HO172 := RC_ HO172 hb; have BK174 := Aside0.mk (hbox); have GW174 := GE_ hg; have GE174 := GE_ hg; replace HB := Aside0.mk (below_step T9_ hb); have NB123_174 := NB_ BK123 hg; have NB174_123 := NC_ BK123 hg; replace BK123 := BF_ BK123 hb; have NB134_174 := NB_ BK134 hg; have NB174_134 := NC_ BK134 hg; replace BK134 := BF_ BK134 hb; have NB142_174 := NB_ BK142 hg; have NB174_142 := NC_ BK142 hg; replace BK142 := BF_ BK142 hb; have NB150_174 := NB_ BK150 hg; have NB174_150 := NC_ BK150 hg; replace BK150 := BF_ BK150 hb; have NB158_174 := NB_ BK158 hg; have NB174_158 := NC_ BK158 hg; replace BK158 := BF_ BK158 hb; have NB166_174 := NB_ BK166 hg; have NB174_166 := NC_ BK166 hg; replace BK166 := BF_ BK166 hb; clear hb hbox hg; obtain ⟨Ao82, co82, eo82⟩ := Kd.R_slice HO169.out; subst eo82; have hnb83 := NB174_123.out; have hnc83 := NB123_174.out; have hnb84 := NB174_134.out; have hnc84 := NB134_174.out; have hnb85 := NB174_142.out; have hnc85 := NB142_174.out; have hnb86 := NB174_150.out; have hnc86 := NB150_174.out; have hnb87 := NB174_158.out; have hnc87 := NB158_174.out; have hnb88 := NB174_166.out; have hnc88 := NB166_174.out; have hcz89_0 : w81.cell? ⟨gb174, 0, none⟩ = some (.slice none 0 0) := (blk_cell BK174.out 0).trans rfl; have hcz89_1 : w81.cell? ⟨gb174, 1, none⟩ = some (.slice none 0 0) := (blk_cell BK174.out 1).trans rfl; have hfz89_0 := blk_frozen BK174.out 0; have hfz89_1 := blk_frozen BK174.out 1; obtain ⟨Ao90, co90, eo90⟩ := Kd.R_slice HO172.out; subst eo90; have hcz91_0 := CA_ BK123; have hcz91_1 := CB_ BK123; have hfz91_0 := blk_frozen BK123.out 0; have hfz91_1 := blk_frozen BK123.out 1) | ((with_reducible refine gate_callee (f := 24) rfl ?_); refine goesL_ (some 61) rfl rfl Tryz.func24 (by kernel_rfl) rfl #[.slice A0_0 l0_0.length c0_0, .string (⟨#[48]⟩ : ByteArray)] rfl T2_ ?_; (with_reducible refine (tensor_Fill.calls _ _ l0_0 (⟨#[48]⟩ : ByteArray) t175 t178 t181 _ (Err.Gs.below HGs.out T9_) ?side1 ?side2 A22.out).mono ?_); (case side1 => exact Kd.C_below HR0_0.out T9_); (case side2 => exact HC0_0.out); rintro e w92 ⟨v176, v179, rfl, ho0, ho1, hb⟩; refine ⟨_, rfl, ?_⟩; have HO177 := Aside0.mk (Kd.R_lower ho0 (below_size T9_)); replace HO129 := RC_ HO129 hb; replace HO137 := RC_ HO137 hb; replace HO145 := RC_ HO145 hb; replace HO153 := RC_ HO153 hb; replace HO161 := RC_ HO161 hb; replace HO169 := RC_ HO169 hb; have HO180 := Aside0.mk (Kd.R_lower ho1 (below_size T9_)); replace HO132 := RC_ HO132 hb; replace HO140 := RC_ HO140 hb; replace HO148 := RC_ HO148 hb; replace HO156 := RC_ HO156 hb; replace HO164 := RC_ HO164 hb; replace HO172 := RC_ HO172 hb; replace BK123 := BG_ BK123 hb; replace BK134 := BG_ BK134 hb; replace BK142 := BG_ BK142 hb; replace BK150 := BG_ BK150 hb; replace BK158 := BG_ BK158 hb; replace BK166 := BG_ BK166 hb; replace BK174 := BP_ BK174 hb; replace HB := Aside0.mk (below_step T9_ hb); (try clear hb); (try clear hb2); (try clear hk); (try clear hi); (try clear ho0); (try clear ho1)) | ((with_reducible refine gate_dst (N := 15) rfl ?_); refine box_event ?hg (N := 15) ?hd (cs := #[.slice none 0 0, .slice none 0 0]) (t := 25) ?hr ?_; (case hd => rfl); (case hg => rfl); (case hr => exact T3_); intro gb182 hg w93 hbox hb; replace HO129 := RC_ HO129 hb; replace HO132 := RC_ HO132 hb; replace HO137 := RC_ HO137 hb; replace HO140 := RC_ HO140 hb; replace HO145 := RC_ HO145 hb; replace HO148 := RC_ HO148 hb; replace HO153 := RC_ HO153 hb; replace HO156 := RC_ HO156 hb; replace HO161 := RC_ HO161 hb; replace HO164 := RC_ HO164 hb; replace HO169 := RC_ HO169 hb; replace HO172 := RC_ HO172 hb; replace HO177 := RC_ HO177 hb; replace HO180 := RC_ HO180 hb; have BK182 := Aside0.mk (hbox); have GW182 := GE_ hg; have GE182 := GE_ hg; replace HB := Aside0.mk (below_step T9_ hb); have NB123_182 := NB_ BK123 hg; have NB182_123 := NC_ BK123 hg; replace BK123 := BF_ BK123 hb; have NB134_182 := NB_ BK134 hg; have NB182_134 := NC_ BK134 hg; replace BK134 := BF_ BK134 hb; have NB142_182 := NB_ BK142 hg; have NB182_142 := NC_ BK142 hg; replace BK142 := BF_ BK142 hb; have NB150_182 := NB_ BK150 hg; have NB182_150 := NC_ BK150 hg; replace BK150 := BF_ BK150 hb; have NB158_182 := NB_ BK158 hg; have NB182_158 := NC_ BK158 hg; replace BK158 := BF_ BK158 hb; have NB166_182 := NB_ BK166 hg; have NB182_166 := NC_ BK166 hg; replace BK166 := BF_ BK166 hb; have NB174_182 := NB_ BK174 hg; have NB182_174 := NC_ BK174 hg; replace BK174 := BF_ BK174 hb; clear hb hbox hg; obtain ⟨Ao94, co94, eo94⟩ := Kd.R_slice HO177.out; subst eo94; have hnb95 := NB182_123.out; have hnc95 := NB123_182.out; have hnb96 := NB182_134.out; have hnc96 := NB134_182.out; have hnb97 := NB182_142.out; have hnc97 := NB142_182.out; have hnb98 := NB182_150.out; have hnc98 := NB150_182.out; have hnb99 := NB182_158.out; have hnc99 := NB158_182.out; have hnb100 := NB182_166.out; have hnc100 := NB166_182.out; have hnb101 := NB182_174.out; have hnc101 := NB174_182.out; have hcz102_0 : w93.cell? ⟨gb182, 0, none⟩ = some (.slice none 0 0) := (blk_cell BK182.out 0).trans rfl; have hcz102_1 : w93.cell? ⟨gb182, 1, none⟩ = some (.slice none 0 0) := (blk_cell BK182.out 1).trans rfl; have hfz102_0 := blk_frozen BK182.out 0; have hfz102_1 := blk_frozen BK182.out 1; obtain ⟨Ao103, co103, eo103⟩ := Kd.R_slice HO180.out; subst eo103; have hcz104_0 := CA_ BK134; have hcz104_1 := CB_ BK134; have hfz104_0 := blk_frozen BK134.out 0; have hfz104_1 := blk_frozen BK134.out 1; have hcz105_0 := CA_ BK123; have hcz105_1 := CB_ BK123; have hfz105_0 := blk_frozen BK123.out 0; have hfz105_1 := blk_frozen BK123.out 1) | ((with_reducible refine gate_callee (f := 18) rfl ?_); refine goesL_ (some 66) rfl rfl Tryz.func18 (by kernel_rfl) rfl #[.agg #[.slice Ao37 t127.length co37, .slice Ao40 t130.length co40], .agg #[.slice A0_0 l0_0.length c0_0, .slice A0_1 l0_1.length c0_1]] rfl T2_ ?_; (with_reducible refine (tapewrightref05_Equal.calls _ _ t127 _ _ t130 _ _ l0_0 _ _ l0_1 true _ ?side1 ?side2 ?side3 ?side4 ?side5 ?side6 ?side7 ?side8 A23.out).mono ?_); (case side1 => exact C2_ HO129); (case side2 => exact (Kd.R_reads' HO129.out).2.1); (case side3 => exact C2_ HO132); (case side4 => exact (Kd.R_reads' HO132.out).2.1); (case side5 => exact Kd.C_below HR0_0.out T9_); (case side6 => exact HC0_0.out); (case side7 => exact Kd.C_below HR0_1.out T9_); (case side8 => exact HC0_1.out); rintro e w106 ⟨rfl, hb⟩; refine ⟨_, rfl, ?_⟩; replace HO129 := RC_ HO129 hb; replace HO132 := RC_ HO132 hb; replace HO137 := RC_ HO137 hb; replace HO140 := RC_ HO140 hb; replace HO145 := RC_ HO145 hb; replace HO148 := RC_ HO148 hb; replace HO153 := RC_ HO153 hb; replace HO156 := RC_ HO156 hb; replace HO161 := RC_ HO161 hb; replace HO164 := RC_ HO164 hb; replace HO169 := RC_ HO169 hb; replace HO172 := RC_ HO172 hb; replace HO177 := RC_ HO177 hb; replace HO180 := RC_ HO180 hb; replace BK123 := BG_ BK123 hb; replace BK134 := BG_ BK134 hb; replace BK142 := BG_ BK142 hb; replace BK150 := BG_ BK150 hb; replace BK158 := BG_ BK158 hb; replace BK166 := BG_ BK166 hb; replace BK174 := BG_ BK174 hb; replace BK182 := BP_ BK182 hb; replace HB := Aside0.mk (below_step T9_ hb); (try clear hb); (try clear hb2); (try clear hk); (try clear hi); have hcz107_0 : w106.cell? ⟨gb142, 0, none⟩ = some (.slice Ao44 t135.length co44) := (blk_cell BK142.out 0).trans rfl; have hcz107_1 : w106.cell? ⟨gb142, 1, none⟩ = some (.slice Ao48 t138.length co48) := (blk_cell BK142.out 1).trans rfl; have hfz107_0 := blk_frozen BK142.out 0; have hfz107_1 := blk_frozen BK142.out 1; have hcz108_0 : w106.cell? ⟨gb174, 0, none⟩ = some (.slice Ao82 t167.length co82) := (blk_cell BK174.out 0).trans rfl; have hcz108_1 : w106.cell? ⟨gb174, 1, none⟩ = some (.slice Ao90 t170.length co90) := (blk_cell BK174.out 1).trans rfl; have hfz108_0 := blk_frozen BK174.out 0; have hfz108_1 := blk_frozen BK174.out 1) | (go_at_call 18; (with_reducible refine (tapewrightref05_Equal.calls _ _ t135 _ _ t138 _ _ t167 _ _ t170 true _ ?side1 ?side2 ?side3 ?side4 ?side5 ?side6 ?side7 ?side8 A25.out).mono ?_); (case side1 => exact C2_ HO137); (case side2 => exact (Kd.R_reads' HO137.out).2.1); (case side3 => exact C2_ HO140); (case side4 => exact (Kd.R_reads' HO140.out).2.1); (case side5 => exact C2_ HO169); (case side6 => exact (Kd.R_reads' HO169.out).2.1); (case side7 => exact C2_ HO172); (case side8 => exact (Kd.R_reads' HO172.out).2.1); rintro e w109 ⟨rfl, hb⟩; replace HO129 := RC_ HO129 hb; replace HO132 := RC_ HO132 hb; replace HO137 := RC_ HO137 hb; replace HO140 := RC_ HO140 hb; replace HO145 := RC_ HO145 hb; replace HO148 := RC_ HO148 hb; replace HO153 := RC_ HO153 hb; replace HO156 := RC_ HO156 hb; replace HO161 := RC_ HO161 hb; replace HO164 := RC_ HO164 hb; replace HO169 := RC_ HO169 hb; replace HO172 := RC_ HO172 hb; replace HO177 := RC_ HO177 hb; replace HO180 := RC_ HO180 hb; replace BK123 := BF_ BK123 hb; replace BK134 := BF_ BK134 hb; replace BK142 := BF_ BK142 hb; replace BK150 := BF_ BK150 hb; replace BK158 := BF_ BK158 hb; replace BK166 := BF_ BK166 hb; replace BK174 := BF_ BK174 hb; replace BK182 := BF_ BK182 hb; replace HB := Aside0.mk (below_step T9_ hb); (try clear hb); (try clear hb2); (try clear hk); (try clear hi); have hcz110_0 : w109.cell? ⟨gb150, 0, none⟩ = some (.slice Ao52 t143.length co52) := (blk_cell BK150.out 0).trans rfl; have hcz110_1 : w109.cell? ⟨gb150, 1, none⟩ = some (.slice Ao57 t146.length co57) := (blk_cell BK150.out 1).trans rfl; have hfz110_0 := blk_frozen BK150.out 0; have hfz110_1 := blk_frozen BK150.out 1; have hcz111_0 : w109.cell? ⟨gb158, 0, none⟩ = some (.slice Ao61 t151.length co61) := (blk_cell BK158.out 0).trans rfl; have hcz111_1 : w109.cell? ⟨gb158, 1, none⟩ = some (.slice Ao67 t154.length co67) := (blk_cell BK158.out 1).trans rfl; have hfz111_0 := blk_frozen BK158.out 0; have hfz111_1 := blk_frozen BK158.out 1) | (go_at_call 18; (with_reducible refine (tapewrightref05_Equal.calls _ _ t143 _ _ t146 _ _ t151 _ _ t154 true _ ?side1 ?side2 ?side3 ?side4 ?side5 ?side6 ?side7 ?side8 A27.out).mono ?_); (case side1 => exact C2_ HO145); (case side2 => exact (Kd.R_reads' HO145.out).2.1); (case side3 => exact C2_ HO148); (case side4 => exact (Kd.R_reads' HO148.out).2.1); (case side5 => exact C2_ HO153); (case side6 => exact (Kd.R_reads' HO153.out).2.1); (case side7 => exact C2_ HO156); (case side8 => exact (Kd.R_reads' HO156.out).2.1); rintro e w112 ⟨rfl, hb⟩; replace HO129 := RC_ HO129 hb; replace HO132 := RC_ HO132 hb; replace HO137 := RC_ HO137 hb; replace HO140 := RC_ HO140 hb; replace HO145 := RC_ HO145 hb; replace HO148 := RC_ HO148 hb; replace HO153 := RC_ HO153 hb; replace HO156 := RC_ HO156 hb; replace HO161 := RC_ HO161 hb; replace HO164 := RC_ HO164 hb; replace HO169 := RC_ HO169 hb; replace HO172 := RC_ HO172 hb; replace HO177 := RC_ HO177 hb; replace HO180 := RC_ HO180 hb; replace BK123 := BF_ BK123 hb; replace BK134 := BF_ BK134 hb; replace BK142 := BF_ BK142 hb; replace BK150 := BF_ BK150 hb; replace BK158 := BF_ BK158 hb; replace BK166 := BF_ BK166 hb; replace BK174 := BF_ BK174 hb; replace BK182 := BF_ BK182 hb; replace HB := Aside0.mk (below_step T9_ hb); (try clear hb); (try clear hb2); (try clear hk); (try clear hi); have hcz113_0 : w112.cell? ⟨gb166, 0, none⟩ = some (.slice Ao71 t159.length co71) := (blk_cell BK166.out 0).trans rfl; have hcz113_1 : w112.cell? ⟨gb166, 1, none⟩ = some (.slice Ao78 t162.length co78) := (blk_cell BK166.out 1).trans rfl; have hfz113_0 := blk_frozen BK166.out 0; have hfz113_1 := blk_frozen BK166.out 1; have hcz114_0 : w112.cell? ⟨gb182, 0, none⟩ = some (.slice Ao94 t175.length co94) := (blk_cell BK182.out 0).trans rfl; have hcz114_1 : w112.cell? ⟨gb182, 1, none⟩ = some (.slice Ao103 t178.length co103) := (blk_cell BK182.out 1).trans rfl; have hfz114_0 := blk_frozen BK182.out 0; have hfz114_1 := blk_frozen BK182.out 1) | (go_at_call 18; (with_reducible refine (tapewrightref05_Equal.calls _ _ t159 _ _ t162 _ _ t175 _ _ t178 true _ ?side1 ?side2 ?side3 ?side4 ?side5 ?side6 ?side7 ?side8 A29.out).mono ?_); (case side1 => exact C2_ HO161); (case side2 => exact (Kd.R_reads' HO161.out).2.1); (case side3 => exact C2_ HO164); (case side4 => exact (Kd.R_reads' HO164.out).2.1); (case side5 => exact C2_ HO177); (case side6 => exact (Kd.R_reads' HO177.out).2.1); (case side7 => exact C2_ HO180); (case side8 => exact (Kd.R_reads' HO180.out).2.1); rintro e w115 ⟨rfl, hb⟩; replace HO129 := RC_ HO129 hb; replace HO132 := RC_ HO132 hb; replace HO137 := RC_ HO137 hb; replace HO140 := RC_ HO140 hb; replace HO145 := RC_ HO145 hb; replace HO148 := RC_ HO148 hb; replace HO153 := RC_ HO153 hb; replace HO156 := RC_ HO156 hb; replace HO161 := RC_ HO161 hb; replace HO164 := RC_ HO164 hb; replace HO169 := RC_ HO169 hb; replace HO172 := RC_ HO172 hb; replace HO177 := RC_ HO177 hb; replace HO180 := RC_ HO180 hb; replace BK123 := BF_ BK123 hb; replace BK134 := BF_ BK134 hb; replace BK142 := BF_ BK142 hb; replace BK150 := BF_ BK150 hb; replace BK158 := BF_ BK158 hb; replace BK166 := BF_ BK166 hb; replace BK174 := BF_ BK174 hb; replace BK182 := BF_ BK182 hb; replace HB := Aside0.mk (below_step T9_ hb); (try clear hb); (try clear hb2); (try clear hk); (try clear hi)) | (go_at_call 13; (with_reducible refine (tapewrightlaw05_awake.calls  t187 _ (Err.Gs.below HGs.out T9_) A33.out).mono ?_); rintro e w116 ⟨rfl, hb⟩; replace HO129 := RC_ HO129 hb; replace HO132 := RC_ HO132 hb; replace HO137 := RC_ HO137 hb; replace HO140 := RC_ HO140 hb; replace HO145 := RC_ HO145 hb; replace HO148 := RC_ HO148 hb; replace HO153 := RC_ HO153 hb; replace HO156 := RC_ HO156 hb; replace HO161 := RC_ HO161 hb; replace HO164 := RC_ HO164 hb; replace HO169 := RC_ HO169 hb; replace HO172 := RC_ HO172 hb; replace HO177 := RC_ HO177 hb; replace HO180 := RC_ HO180 hb; replace BK123 := BF_ BK123 hb; replace BK134 := BF_ BK134 hb; replace BK142 := BF_ BK142 hb; replace BK150 := BF_ BK150 hb; replace BK158 := BF_ BK158 hb; replace BK166 := BF_ BK166 hb; replace BK174 := BF_ BK174 hb; replace BK182 := BF_ BK182 hb; replace HB := Aside0.mk (below_step T9_ hb); (try clear hb); (try clear hb2); (try clear hk); (try clear hi)))
          go_ret
          exact ⟨T4_, T9_⟩
         ·
          rw [if_neg c32] at H
          have c32b0 : (t157 == 0) = false := beq_eq_false_iff_ne.mpr c32
          have c32b1 : (t157 != 0) = true := bne_iff_ne.mpr c32
          exact absurd ((Option.some.inj H).trans HRT.out) (by decide)
        ·
         rw [if_neg c31] at H
         have c31b0 : (t149 == 0) = false := beq_eq_false_iff_ne.mpr c31
         have c31b1 : (t149 != 0) = true := bne_iff_ne.mpr c31
         exact absurd ((Option.some.inj H).trans HRT.out) (by decide)
       ·
        replace c30 := Bool.eq_false_iff.mpr c30
        subst c30
        rw [if_neg (show ¬ (false = true) by decide)] at H
        exact absurd ((Option.some.inj H).trans HRT.out) (by decide)
      ·
       replace c28 := Bool.eq_false_iff.mpr c28
       subst c28
       rw [if_neg (show ¬ (false = true) by decide)] at H
       exact absurd ((Option.some.inj H).trans HRT.out) (by decide)
     ·
      replace c26 := Bool.eq_false_iff.mpr c26
      subst c26
      rw [if_neg (show ¬ (false = true) by decide)] at H
      exact absurd ((Option.some.inj H).trans HRT.out) (by decide)
    ·
     replace c24 := Bool.eq_false_iff.mpr c24
     subst c24
     rw [if_neg (show ¬ (false = true) by decide)] at H
     exact absurd ((Option.some.inj H).trans HRT.out) (by decide)
end Go.Proofs.YtlglpffoijdgbaaGreatDoor.PQP
