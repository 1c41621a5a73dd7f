-- by wip/tool/mine.py of this repo (the kit's printer with given contracts)
import Derived.Test.YtlglpffoijdgbaaGreatDoorPQNx0
import Derived.Test.YtlglpffoijdgbaaGreatDoorPQNx1
namespace Go.Proofs.YtlglpffoijdgbaaGreatDoor.PQN
set_option maxHeartbeats 8000000
set_option maxRecDepth 100000
open Go.RowKit Go.Proofs.YtlglpffoijdgbaaGreatDoorW.PrintWords Go.Proofs.YtlglpffoijdgbaaGreatDoorW.PrintLast Go.Proofs.YtlglpffoijdgbaaGreatDoorW.PrintMore
attribute [local go_sem] max2_int min2_int max_two min_two max_three min_three max_four min_four   -- for this text's walks alone
set_option linter.unusedVariables false
set_option linter.unusedSimpArgs false

/-! ### tapewrightlaw05_TensorNone: function 6 -/
noncomputable def tapewrightlaw05_TensorNone.l0 : Nat → List ByteArray → Int → Int → List Int → List ByteArray → List Int → List ByteArray → Option (Bool)
 | 0, _, _, _, _, _, _, _ => none
 | k + 1, x34, x35, x36, x124000, x124001, x134000, x134001 => if x36 < x35 then (if 0 ≤ x36 then (if x36 < (x34.length : Int) then (if (rdOf ByteArray.empty x34 x36).toList = ([48] : List UInt8) then (tapewrightlaw05_TensorNone.l0 k x34 x35 (wrap64 (x36 + 1)) x124000 x124001 x134000 x134001) else (some false)) else (none)) else (none)) else ((tensor_Sum.f x134000 x134001).bind fun bt137 => (if (x134001.length : Int) = (x124001.length : Int) then (if bt137.1.toList = ([48] : List UInt8) then (if bt137.2 = 0 then ((tapewrightlaw05_awake.f).bind fun t139 => (some t139)) else (some false)) else (some false)) else (some false)))
noncomputable def tapewrightlaw05_TensorNone.f (k : Nat) (l0_0 : List Int) (l0_1 : List ByteArray) : Option (Bool) := (tapewrightref05_Small.f l0_0 l0_1).bind fun t124 => (if t124 = true then ((tensor_Zip.f (⟨#[115, 117, 98]⟩ : ByteArray) l0_0 l0_1 l0_0 l0_1).bind fun bt126 => (if bt126.2.2 = 0 then (tapewrightlaw05_TensorNone.l0 k bt126.2.1 (bt126.2.1.length : Int) 0 l0_0 l0_1 bt126.1 bt126.2.1) else (if (bt126.2.1.length : Int) = 0 then ((tensor_Right.f l0_0 l0_1).bind fun t134 => (if t134 = true then (some false) else ((tapewrightlaw05_awake.f).bind fun t135 => (some t135)))) else (some false)))) else ((tapewrightlaw05_awake.f).bind fun t125 => (some t125)))
theorem tapewrightlaw05_TensorNone.calls (k : Nat) (A0_0 : Option Addr) (c0_0 : Nat) (l0_0 : List Int) (A0_1 : Option Addr) (c0_1 : Nat) (l0_1 : List ByteArray) (r : Bool) (w : World) (hG : Err.Gs w) (hrt : r = true) (hr0_0 : Kd.C (Kd.int .i64) w A0_0 l0_0.length l0_0) (hc0_0 : l0_0.length ≤ c0_0) (hr0_1 : Kd.C Kd.string w A0_1 l0_1.length l0_1) (hc0_1 : l0_1.length ≤ c0_1) (h : tapewrightlaw05_TensorNone.f k l0_0 l0_1 = some r) :
  Calls Tryz.prog 6 #[.agg #[.slice A0_0 l0_0.length c0_0, .slice A0_1 l0_1.length c0_1]] w fun e w' => e = .returned (.bool r) ∧ Below w.heap.size w w' := by
 have hu25 := Tryz.underlying25
 have HR0_0 := Aside0.mk hr0_0
 have HC0_0 := Aside0.mk hc0_0
 clear hr0_0 hc0_0
 have HR0_1 := Aside0.mk hr0_1
 have HC0_1 := Aside0.mk hc0_1
 clear hr0_1 hc0_1
 have HB := Aside0.mk (Below.refl w.heap.size w)
 have HGs := Aside0.mk hG
 clear hG
 have HRT := Aside0.mk hrt
 clear hrt
 unfold tapewrightlaw05_TensorNone.f at h
 have H := h
 clear h
 replace H := Option.bind_eq_some_iff.mp H
 obtain ⟨t124, A20, H⟩ := H
 have A2 := Aside0.mk A20
 clear A20
 by_cases c3 : t124 = true
 ·
  subst c3
  rw [if_pos rfl] at H
  replace H := Option.bind_eq_some_iff.mp H
  obtain ⟨⟨t126, t129, t132⟩, A40, H⟩ := H
  have A4 := Aside0.mk A40
  clear A40
  by_cases c5 : t132 = 0
  ·
   rw [if_pos c5] at H
   have c5b0 : (t132 == 0) = true := beq_iff_eq.mpr c5
   have c5b1 : (t132 != 0) = false := bne_eq_false_iff_eq.mpr c5
   clear c5
   have H' := Aside0.mk H
   clear H
   go_enter Tryz.func6, Tryz.ntmps6
   go_wp2_with (first | ((with_reducible refine gate_dst (N := 1) rfl ?_); refine box_event ?hg (N := 1) ?hd (cs := #[.slice A0_0 l0_0.length c0_0, .slice A0_1 l0_1.length c0_1]) (t := 25) ?hr ?_; (case hd => rfl); (case hg => rfl); (case hr => exact T3_); intro gb123 hg w6 hbox hb; have BK123 := Aside0.mk (hbox); have GW123 := GE_ hg; have GE123 := GE_ hg; replace HB := Aside0.mk (below_step T1_ hb); clear hb hbox hg; have hcz7_0 := CA_ BK123; have hcz7_1 := CB_ BK123; have hfz7_0 := blk_frozen BK123.out 0; have hfz7_1 := blk_frozen BK123.out 1) | ((with_reducible refine gate_callee (f := 12) rfl ?_); refine goesL_ (some 10) rfl rfl Tryz.func12 (by kernel_rfl) rfl #[.agg #[.slice A0_0 l0_0.length c0_0, .slice A0_1 l0_1.length c0_1]] rfl T2_ ?_; (with_reducible refine (tapewrightref05_Small.calls _ _ l0_0 _ _ l0_1 true _ ?side1 ?side2 ?side3 ?side4 A2.out).mono ?_); (case side1 => exact C1_ (Kd.C_below HR0_0.out HB.out)); (case side2 => exact HC0_0.out); (case side3 => exact C1_ (Kd.C_below HR0_1.out HB.out)); (case side4 => exact HC0_1.out); rintro e w8 ⟨rfl, hb⟩; refine ⟨_, rfl, ?_⟩; replace BK123 := BF_ BK123 hb; replace HB := Aside0.mk (below_step T9_ hb); (try clear hb); (try clear hb2); (try clear hk); (try clear hi); have hcz9_0 := CA_ BK123; have hcz9_1 := CB_ BK123; have hfz9_0 := blk_frozen BK123.out 0; have hfz9_1 := blk_frozen BK123.out 1) | ((with_reducible refine gate_callee (f := 14) rfl ?_); refine goesL_ (some 16) rfl rfl Tryz.func14 (by kernel_rfl) rfl #[.string (⟨#[115, 117, 98]⟩ : ByteArray), .agg #[.slice A0_0 l0_0.length c0_0, .slice A0_1 l0_1.length c0_1], .agg #[.slice A0_0 l0_0.length c0_0, .slice A0_1 l0_1.length c0_1]] rfl T2_ ?_; (with_reducible refine (tensor_Zip.calls (⟨#[115, 117, 98]⟩ : ByteArray) _ _ l0_0 _ _ l0_1 _ _ l0_0 _ _ l0_1 t126 t129 t132 _ (Err.Gs.below HGs.out T9_) ?side1 ?side2 ?side3 ?side4 ?side5 ?side6 ?side7 ?side8 A4.out).mono ?_); (case side1 => exact C1_ (Kd.C_below HR0_0.out HB.out)); (case side2 => exact HC0_0.out); (case side3 => exact C1_ (Kd.C_below HR0_1.out HB.out)); (case side4 => exact HC0_1.out); (case side5 => exact C1_ (Kd.C_below HR0_0.out HB.out)); (case side6 => exact HC0_0.out); (case side7 => exact C1_ (Kd.C_below HR0_1.out HB.out)); (case side8 => exact HC0_1.out); rintro e w10 ⟨v127, v130, rfl, ho0, ho1, hb⟩; refine ⟨_, rfl, ?_⟩; have HO128 := Aside0.mk (Kd.R_lower ho0 (below_size T9_)); have HO131 := Aside0.mk (Kd.R_lower ho1 (below_size T9_)); replace BK123 := BF_ BK123 hb; replace HB := Aside0.mk (below_step T9_ hb); (try clear hb); (try clear hb2); (try clear hk); (try clear hi); (try clear ho0); (try clear ho1)) | ((with_reducible refine gate_dst (N := 3) rfl ?_); refine box_event ?hg (N := 3) ?hd (cs := #[.slice none 0 0, .slice none 0 0]) (t := 25) ?hr ?_; (case hd => rfl); (case hg => rfl); (case hr => exact T3_); intro gb133 hg w11 hbox hb; replace HO128 := RC_ HO128 hb; replace HO131 := RC_ HO131 hb; have BK133 := Aside0.mk (hbox); have GW133 := GE_ hg; have GE133 := GE_ hg; replace HB := Aside0.mk (below_step T9_ hb); have NB123_133 := NB_ BK123 hg; have NB133_123 := NC_ BK123 hg; replace BK123 := BF_ BK123 hb; clear hb hbox hg; obtain ⟨Ao12, co12, eo12⟩ := Kd.R_slice HO128.out; subst eo12; have hnb13 := NB133_123.out; have hnc13 := NB123_133.out; have hcz14_0 : w11.cell? ⟨gb133, 0, none⟩ = some (.slice none 0 0) := (blk_cell BK133.out 0).trans rfl; have hcz14_1 : w11.cell? ⟨gb133, 1, none⟩ = some (.slice none 0 0) := (blk_cell BK133.out 1).trans rfl; have hfz14_0 := blk_frozen BK133.out 0; have hfz14_1 := blk_frozen BK133.out 1; obtain ⟨Ao15, co15, eo15⟩ := Kd.R_slice HO131.out; subst eo15))
   go_loopg [36] k (fun kq v36 w' => ∃ (x36_1 : Int), v36 = .int .i64 x36_1 ∧ Aside0 (tapewrightlaw05_TensorNone.l0 kq t129 (t129.length : Int) x36_1 l0_0 l0_1 t126 t129 = some r) ∧ Aside0 (kq ≤ k) ∧ Aside0 (Kd.R Kd.string 9 w' w.heap.size (fun _ => True) (.slice Ao15 t129.length co15) t129) ∧ Aside0 (Kd.R (Kd.int .i64) 3 w' w.heap.size (fun _ => True) (.slice Ao12 t126.length co12) t126) ∧ Aside0 (Kd.R Kd.string 9 w' w.heap.size (fun _ => True) (.slice Ao15 t129.length co15) t129) ∧ Aside0 (w'.heap[gb123]? = some (.cells #[(.slice A0_0 l0_0.length c0_0), (.slice A0_1 l0_1.length c0_1)] 25 (0, 0))) ∧ Aside0 (w'.heap[gb133]? = some (.cells #[(.slice Ao12 t126.length co12), (.slice Ao15 t129.length co15)] 25 (0, 0))) ∧ Aside0 (Below w.heap.size w w'))
   case atStart => exact ⟨(0), (by first | rfl | (simp; done) | (simp [*]; done)), H', ⟨Nat.le_refl _⟩, ⟨by (with_reducible repeat (first | apply Kd.R_alloc | apply Kd.R_drewN | apply Kd.R_drew)); exact Kd.R_mono (Kd.R_far (p := ⟨gb133, 1, none⟩) (Kd.R_far (p := ⟨gb133, 0, none⟩) (Kd.R_types HO131.out BK133.out (by decide)) (fun _ hk => hk.2) (.slice Ao12 t126.length co12)) (fun _ hk => hk.2) (.slice Ao15 t129.length co15)) (fun _ hk => trivial)⟩, ⟨by (with_reducible repeat (first | apply Kd.R_alloc | apply Kd.R_drewN | apply Kd.R_drew)); exact Kd.R_mono (Kd.R_far (p := ⟨gb133, 1, none⟩) (Kd.R_far (p := ⟨gb133, 0, none⟩) (Kd.R_types HO128.out BK133.out (by decide)) (fun _ hk => hk.2) (.slice Ao12 t126.length co12)) (fun _ hk => hk.2) (.slice Ao15 t129.length co15)) (fun _ hk => trivial)⟩, ⟨by (with_reducible repeat (first | apply Kd.R_alloc | apply Kd.R_drewN | apply Kd.R_drew)); exact Kd.R_mono (Kd.R_far (p := ⟨gb133, 1, none⟩) (Kd.R_far (p := ⟨gb133, 0, none⟩) (Kd.R_types HO131.out BK133.out (by decide)) (fun _ hk => hk.2) (.slice Ao12 t126.length co12)) (fun _ hk => hk.2) (.slice Ao15 t129.length co15)) (fun _ hk => trivial)⟩, ⟨by (with_reducible repeat (first | refine blk_drewN ?_ _ | refine blk_drew ?_ | refine blk_alloc ?_ _)); refine blk_far ?_ NB123_133.out _; (with_reducible repeat (first | refine blk_drewN ?_ _ | refine blk_drew ?_ | refine blk_alloc ?_ _)); refine blk_far ?_ NB123_133.out _; (with_reducible repeat (first | refine blk_drewN ?_ _ | refine blk_drew ?_ | refine blk_alloc ?_ _)); exact BK123.out⟩, ⟨by (with_reducible repeat (first | refine blk_drewN ?_ _ | refine blk_drew ?_ | refine blk_alloc ?_ _)); refine blk_put (cs := #[.slice Ao12 t126.length co12, .slice none 0 0]) ?_ 1 _ rfl; (with_reducible repeat (first | refine blk_drewN ?_ _ | refine blk_drew ?_ | refine blk_alloc ?_ _)); refine blk_put (cs := #[.slice none 0 0, .slice none 0 0]) ?_ 0 _ rfl; (with_reducible repeat (first | refine blk_drewN ?_ _ | refine blk_drew ?_ | refine blk_alloc ?_ _)); exact BK133.out⟩, ⟨by repeat (first | (with_reducible first | exact HB.out | apply below_alloc | apply pw_below_drewN | apply below_drew1 | refine below_set ?_ GE123.out | refine below_set ?_ GE133.out) | exact HB.out)⟩⟩
   case round =>
    clear H'
    try clear c1
    try clear p2
    try clear c3
    try clear c5
    try clear c5b0
    try clear c5b1
    try clear c6
    try clear c12
    try clear c13
    try clear c14
    try clear hcz14_0
    try clear hcz14_1
    try clear hcz7_0
    try clear hcz7_1
    try clear hcz9_0
    try clear hcz9_1
    try clear hfz14_0
    try clear hfz14_1
    try clear hfz7_0
    try clear hfz7_1
    try clear hfz9_0
    try clear hfz9_1
    obtain ⟨x36_1, rfl, HA, HK1, HO_34, HO_134000, HO_134001, BK123, BK133, HB⟩ := hrel
    cases gk with
    | zero => exact absurd HA.out (by simp [tapewrightlaw05_TensorNone.l0])
    | succ k1 =>
     have H := HA.out
     clear HA
     simp only [tapewrightlaw05_TensorNone.l0] at H
     by_cases c16 : x36_1 < (t129.length : Int)
     ·
      rw [if_pos c16] at H
      have c16b0 : decide (x36_1 < (t129.length : Int)) = true := decide_eq_true c16
      clear c16
      by_cases c17 : 0 ≤ x36_1
      ·
       rw [if_pos c17] at H
       have c17b0 : decide (0 ≤ x36_1) = true := decide_eq_true c17
       clear c17
       by_cases c18 : x36_1 < (t129.length : Int)
       ·
        rw [if_pos c18] at H
        have c18b0 : decide (x36_1 < (t129.length : Int)) = true := decide_eq_true c18
        clear c18
        by_cases c19 : (rdOf ByteArray.empty t129 x36_1).toList = ([48] : List UInt8)
        ·
         rw [if_pos c19] at H
         have c19b0 : ((rdOf ByteArray.empty t129 x36_1).toList == ([48] : List UInt8)) = true := beq_iff_eq.mpr c19
         have c19b1 : ((rdOf ByteArray.empty t129 x36_1).toList != ([48] : List UInt8)) = false := bne_eq_false_iff_eq.mpr c19
         clear c19
         have H' := Aside0.mk H
         clear H
         have p136 : 0 ≤ (x36_1 : Int) := of_decide_eq_true (by first | (with_reducible assumption) | assumption)
         have q136 : x36_1 < (t129.length : Int) := of_decide_eq_true (by first | (with_reducible assumption) | assumption)
         obtain ⟨ad136, e136, hx136_0⟩ := Kd.at_string (Kd.R_reads' HO_34.out).2.2 x36_1 p136 q136
         cases e136
         replace p136 := eq_true p136
         replace q136 := eq_true q136
         go_wp2
         go_roundg k1
         case measure => have := HK1.out; omega
         case rel => exact ⟨(wrap64 (x36_1 + 1)), (by first | rfl | (simp; done) | (simp [*]; done)), H', ⟨by have := HK1.out; omega⟩, ⟨by (with_reducible repeat (first | apply Kd.R_alloc | apply Kd.R_drewN | apply Kd.R_drew)); exact HO_34.out⟩, ⟨by (with_reducible repeat (first | apply Kd.R_alloc | apply Kd.R_drewN | apply Kd.R_drew)); exact HO_134000.out⟩, ⟨by (with_reducible repeat (first | apply Kd.R_alloc | apply Kd.R_drewN | apply Kd.R_drew)); exact HO_134001.out⟩, ⟨by (with_reducible repeat (first | refine blk_drewN ?_ _ | refine blk_drew ?_ | refine blk_alloc ?_ _)); exact BK123.out⟩, ⟨by (with_reducible repeat (first | refine blk_drewN ?_ _ | refine blk_drew ?_ | refine blk_alloc ?_ _)); exact BK133.out⟩, ⟨by repeat (first | (with_reducible first | exact HB.out | apply below_alloc | apply pw_below_drewN | apply below_drew1 | refine below_set ?_ GE123.out | refine below_set ?_ GE133.out) | exact HB.out)⟩⟩
        ·
         rw [if_neg c19] at H
         have c19b0 : ((rdOf ByteArray.empty t129 x36_1).toList == ([48] : List UInt8)) = false := beq_eq_false_iff_ne.mpr c19
         have c19b1 : ((rdOf ByteArray.empty t129 x36_1).toList != ([48] : List UInt8)) = true := bne_iff_ne.mpr c19
         exact absurd ((Option.some.inj H).trans HRT.out) (by decide)
       ·
        rw [if_neg c18] at H
        exact absurd H (by simp)
      ·
       rw [if_neg c17] at H
       exact absurd H (by simp)
     ·
      rw [if_neg c16] at H
      have c16b0 : decide (x36_1 < (t129.length : Int)) = false := decide_eq_false c16
      clear c16
      replace H := Option.bind_eq_some_iff.mp H
      obtain ⟨⟨t137, t138⟩, A200, H⟩ := H
      have A20 := Aside0.mk A200
      clear A200
      by_cases c21 : (t129.length : Int) = (l0_1.length : Int)
      ·
       rw [if_pos c21] at H
       have c21b0 : ((t129.length : Int) == (l0_1.length : Int)) = true := beq_iff_eq.mpr c21
       have c21b1 : ((t129.length : Int) != (l0_1.length : Int)) = false := bne_eq_false_iff_eq.mpr c21
       have c21b2 : (t129.length == l0_1.length) = true := by first | simpa using c21 | (simp at c21 ⊢; omega)
       clear c21
       by_cases c22 : t137.toList = ([48] : List UInt8)
       ·
        rw [if_pos c22] at H
        have c22b0 : (t137.toList == ([48] : List UInt8)) = true := beq_iff_eq.mpr c22
        have c22b1 : (t137.toList != ([48] : List UInt8)) = false := bne_eq_false_iff_eq.mpr c22
        clear c22
        by_cases c23 : t138 = 0
        ·
         rw [if_pos c23] at H
         have c23b0 : (t138 == 0) = true := beq_iff_eq.mpr c23
         have c23b1 : (t138 != 0) = false := bne_eq_false_iff_eq.mpr c23
         clear c23
         replace H := Option.bind_eq_some_iff.mp H
         obtain ⟨t139, A240, H⟩ := H
         have A24 := Aside0.mk A240
         clear A240
         obtain rfl := Option.some.inj H
         have hnb25 := NB133_123.out
         have hnc25 := NB123_133.out
         have hcz26_0 : wr.cell? ⟨gb133, 0, none⟩ = some (.slice Ao12 t126.length co12) := (blk_cell BK133.out 0).trans rfl
         have hcz26_1 : wr.cell? ⟨gb133, 1, none⟩ = some (.slice Ao15 t129.length co15) := (blk_cell BK133.out 1).trans rfl
         have hfz26_0 := blk_frozen BK133.out 0
         have hfz26_1 := blk_frozen BK133.out 1
         go_wp2_with (first | ((with_reducible refine gate_callee (f := 22) rfl ?_); refine goesL_ (some 45) rfl rfl Tryz.func22 (by kernel_rfl) rfl #[.agg #[.slice Ao12 t126.length co12, .slice Ao15 t129.length co15]] rfl T2_ ?_; (with_reducible refine (tensor_Sum.calls _ _ t126 _ _ t129 t137 t138 _ (Err.Gs.below HGs.out T9_) ?side1 ?side2 ?side3 ?side4 A20.out).mono ?_); (case side1 => exact C2_ HO_134000); (case side2 => exact (Kd.R_reads' HO_134000.out).2.1); (case side3 => exact C2_ HO_134001); (case side4 => exact (Kd.R_reads' HO_134001.out).2.1); rintro e w27 ⟨rfl, hb⟩; refine ⟨_, rfl, ?_⟩; replace HO_34 := RC_ HO_34 hb; replace HO_134000 := RC_ HO_134000 hb; replace HO_134001 := RC_ HO_134001 hb; replace BK123 := BF_ BK123 hb; replace BK133 := BF_ BK133 hb; replace HB := Aside0.mk (below_step T9_ hb); (try clear hb); (try clear hb2); (try clear hk); (try clear hi); have hcz28_0 : w27.cell? ⟨gb133, 0, none⟩ = some (.slice Ao12 t126.length co12) := (blk_cell BK133.out 0).trans rfl; have hcz28_1 : w27.cell? ⟨gb133, 1, none⟩ = some (.slice Ao15 t129.length co15) := (blk_cell BK133.out 1).trans rfl; have hfz28_0 := blk_frozen BK133.out 0; have hfz28_1 := blk_frozen BK133.out 1; have hcz29_0 := CA_ BK123; have hcz29_1 := CB_ BK123; have hfz29_0 := blk_frozen BK123.out 0; have hfz29_1 := blk_frozen BK123.out 1) | (go_at_call 13; (with_reducible refine (tapewrightlaw05_awake.calls  t139 _ (Err.Gs.below HGs.out T9_) A24.out).mono ?_); rintro e w30 ⟨rfl, hb⟩; replace HO_34 := RC_ HO_34 hb; replace HO_134000 := RC_ HO_134000 hb; replace HO_134001 := RC_ HO_134001 hb; replace BK123 := BF_ BK123 hb; replace BK133 := BF_ BK133 hb; replace HB := Aside0.mk (below_step T9_ hb); (try clear hb); (try clear hb2); (try clear hk); (try clear hi)))
         go_ret
         exact ⟨T4_, T9_⟩
        ·
         rw [if_neg c23] at H
         have c23b0 : (t138 == 0) = false := beq_eq_false_iff_ne.mpr c23
         have c23b1 : (t138 != 0) = true := bne_iff_ne.mpr c23
         exact absurd ((Option.some.inj H).trans HRT.out) (by decide)
       ·
        rw [if_neg c22] at H
        have c22b0 : (t137.toList == ([48] : List UInt8)) = false := beq_eq_false_iff_ne.mpr c22
        have c22b1 : (t137.toList != ([48] : List UInt8)) = true := bne_iff_ne.mpr c22
        exact absurd ((Option.some.inj H).trans HRT.out) (by decide)
      ·
       rw [if_neg c21] at H
       have c21b0 : ((t129.length : Int) == (l0_1.length : Int)) = false := beq_eq_false_iff_ne.mpr c21
       have c21b1 : ((t129.length : Int) != (l0_1.length : Int)) = true := bne_iff_ne.mpr c21
       have c21b2 : (t129.length == l0_1.length) = false := by first | simpa using c21 | (simp at c21 ⊢; omega)
       exact absurd ((Option.some.inj H).trans HRT.out) (by decide)
  ·
   rw [if_neg c5] at H
   have c5b0 : (t132 == 0) = false := beq_eq_false_iff_ne.mpr c5
   have c5b1 : (t132 != 0) = true := bne_iff_ne.mpr c5
   by_cases c31 : (t129.length : Int) = 0
   ·
    rw [if_pos c31] at H
    have c31b0 : ((t129.length : Int) == 0) = true := beq_iff_eq.mpr c31
    have c31b1 : ((t129.length : Int) != 0) = false := bne_eq_false_iff_eq.mpr c31
    clear c31
    replace H := Option.bind_eq_some_iff.mp H
    obtain ⟨t134, A320, H⟩ := H
    have A32 := Aside0.mk A320
    clear A320
    by_cases c33 : t134 = true
    ·
     subst c33
     rw [if_pos rfl] at H
     exact absurd ((Option.some.inj H).trans HRT.out) (by decide)
    ·
     replace c33 := Bool.eq_false_iff.mpr c33
     subst c33
     rw [if_neg (show ¬ (false = true) by decide)] at H
     replace H := Option.bind_eq_some_iff.mp H
     obtain ⟨t135, A340, H⟩ := H
     have A34 := Aside0.mk A340
     clear A340
     obtain rfl := Option.some.inj H
     go_enter Tryz.func6, Tryz.ntmps6
     go_wp2_with (first | ((with_reducible refine gate_dst (N := 1) rfl ?_); refine box_event ?hg (N := 1) ?hd (cs := #[.slice A0_0 l0_0.length c0_0, .slice A0_1 l0_1.length c0_1]) (t := 25) ?hr ?_; (case hd => rfl); (case hg => rfl); (case hr => exact T3_); intro gb123 hg w35 hbox hb; have BK123 := Aside0.mk (hbox); have GW123 := GE_ hg; have GE123 := GE_ hg; replace HB := Aside0.mk (below_step T1_ hb); clear hb hbox hg; have hcz36_0 := CA_ BK123; have hcz36_1 := CB_ BK123; have hfz36_0 := blk_frozen BK123.out 0; have hfz36_1 := blk_frozen BK123.out 1) | ((with_reducible refine gate_callee (f := 12) rfl ?_); refine goesL_ (some 10) rfl rfl Tryz.func12 (by kernel_rfl) rfl #[.agg #[.slice A0_0 l0_0.length c0_0, .slice A0_1 l0_1.length c0_1]] rfl T2_ ?_; (with_reducible refine (tapewrightref05_Small.calls _ _ l0_0 _ _ l0_1 true _ ?side1 ?side2 ?side3 ?side4 A2.out).mono ?_); (case side1 => exact C1_ (Kd.C_below HR0_0.out HB.out)); (case side2 => exact HC0_0.out); (case side3 => exact C1_ (Kd.C_below HR0_1.out HB.out)); (case side4 => exact HC0_1.out); rintro e w37 ⟨rfl, hb⟩; refine ⟨_, rfl, ?_⟩; replace BK123 := BF_ BK123 hb; replace HB := Aside0.mk (below_step T9_ hb); (try clear hb); (try clear hb2); (try clear hk); (try clear hi); have hcz38_0 := CA_ BK123; have hcz38_1 := CB_ BK123; have hfz38_0 := blk_frozen BK123.out 0; have hfz38_1 := blk_frozen BK123.out 1) | ((with_reducible refine gate_callee (f := 14) rfl ?_); refine goesL_ (some 16) rfl rfl Tryz.func14 (by kernel_rfl) rfl #[.string (⟨#[115, 117, 98]⟩ : ByteArray), .agg #[.slice A0_0 l0_0.length c0_0, .slice A0_1 l0_1.length c0_1], .agg #[.slice A0_0 l0_0.length c0_0, .slice A0_1 l0_1.length c0_1]] rfl T2_ ?_; (with_reducible refine (tensor_Zip.calls (⟨#[115, 117, 98]⟩ : ByteArray) _ _ l0_0 _ _ l0_1 _ _ l0_0 _ _ l0_1 t126 t129 t132 _ (Err.Gs.below HGs.out T9_) ?side1 ?side2 ?side3 ?side4 ?side5 ?side6 ?side7 ?side8 A4.out).mono ?_); (case side1 => exact C1_ (Kd.C_below HR0_0.out HB.out)); (case side2 => exact HC0_0.out); (case side3 => exact C1_ (Kd.C_below HR0_1.out HB.out)); (case side4 => exact HC0_1.out); (case side5 => exact C1_ (Kd.C_below HR0_0.out HB.out)); (case side6 => exact HC0_0.out); (case side7 => exact C1_ (Kd.C_below HR0_1.out HB.out)); (case side8 => exact HC0_1.out); rintro e w39 ⟨v127, v130, rfl, ho0, ho1, hb⟩; refine ⟨_, rfl, ?_⟩; have HO128 := Aside0.mk (Kd.R_lower ho0 (below_size T9_)); have HO131 := Aside0.mk (Kd.R_lower ho1 (below_size T9_)); replace BK123 := BF_ BK123 hb; replace HB := Aside0.mk (below_step T9_ hb); (try clear hb); (try clear hb2); (try clear hk); (try clear hi); (try clear ho0); (try clear ho1)) | ((with_reducible refine gate_dst (N := 3) rfl ?_); refine box_event ?hg (N := 3) ?hd (cs := #[.slice none 0 0, .slice none 0 0]) (t := 25) ?hr ?_; (case hd => rfl); (case hg => rfl); (case hr => exact T3_); intro gb133 hg w40 hbox hb; replace HO128 := RC_ HO128 hb; replace HO131 := RC_ HO131 hb; have BK133 := Aside0.mk (hbox); have GW133 := GE_ hg; have GE133 := GE_ hg; replace HB := Aside0.mk (below_step T9_ hb); have NB123_133 := NB_ BK123 hg; have NB133_123 := NC_ BK123 hg; replace BK123 := BF_ BK123 hb; clear hb hbox hg; obtain ⟨Ao41, co41, eo41⟩ := Kd.R_slice HO128.out; subst eo41; have hnb42 := NB133_123.out; have hnc42 := NB123_133.out; have hcz43_0 : w40.cell? ⟨gb133, 0, none⟩ = some (.slice none 0 0) := (blk_cell BK133.out 0).trans rfl; have hcz43_1 : w40.cell? ⟨gb133, 1, none⟩ = some (.slice none 0 0) := (blk_cell BK133.out 1).trans rfl; have hfz43_0 := blk_frozen BK133.out 0; have hfz43_1 := blk_frozen BK133.out 1; obtain ⟨Ao44, co44, eo44⟩ := Kd.R_slice HO131.out; subst eo44; have hcz45_0 := CA_ BK123; have hcz45_1 := CB_ BK123; have hfz45_0 := blk_frozen BK123.out 0; have hfz45_1 := blk_frozen BK123.out 1) | (go_at_call 15; (with_reducible refine (tensor_Right.calls _ _ l0_0 _ _ l0_1 false _ (Err.Gs.below HGs.out T9_) ?side1 ?side2 ?side3 ?side4 A32.out).mono ?_); (case side1 => exact Kd.C_below HR0_0.out T9_); (case side2 => exact HC0_0.out); (case side3 => exact Kd.C_below HR0_1.out T9_); (case side4 => exact HC0_1.out); rintro e w46 ⟨rfl, hb⟩; replace HO128 := RC_ HO128 hb; replace HO131 := RC_ HO131 hb; replace BK123 := BG_ BK123 hb; replace BK133 := BP_ BK133 hb; replace HB := Aside0.mk (below_step T9_ hb); (try clear hb); (try clear hb2); (try clear hk); (try clear hi)) | (go_at_call 13; (with_reducible refine (tapewrightlaw05_awake.calls  t135 _ (Err.Gs.below HGs.out T9_) A34.out).mono ?_); rintro e w47 ⟨rfl, hb⟩; replace HO128 := RC_ HO128 hb; replace HO131 := RC_ HO131 hb; replace BK123 := BF_ BK123 hb; replace BK133 := BF_ BK133 hb; replace HB := Aside0.mk (below_step T9_ hb); (try clear hb); (try clear hb2); (try clear hk); (try clear hi)))
     go_ret
     exact ⟨T4_, T9_⟩
   ·
    rw [if_neg c31] at H
    have c31b0 : ((t129.length : Int) == 0) = false := beq_eq_false_iff_ne.mpr c31
    have c31b1 : ((t129.length : Int) != 0) = true := bne_iff_ne.mpr c31
    have c31b2 : ¬ (t129 = []) := fun h_ => c31 (by rw [h_]; rfl)
    exact absurd ((Option.some.inj H).trans HRT.out) (by decide)
 ·
  replace c3 := Bool.eq_false_iff.mpr c3
  subst c3
  rw [if_neg (show ¬ (false = true) by decide)] at H
  replace H := Option.bind_eq_some_iff.mp H
  obtain ⟨t125, A480, H⟩ := H
  have A48 := Aside0.mk A480
  clear A480
  obtain rfl := Option.some.inj H
  go_enter Tryz.func6, Tryz.ntmps6
  go_wp2_with (first | ((with_reducible refine gate_dst (N := 1) rfl ?_); refine box_event ?hg (N := 1) ?hd (cs := #[.slice A0_0 l0_0.length c0_0, .slice A0_1 l0_1.length c0_1]) (t := 25) ?hr ?_; (case hd => rfl); (case hg => rfl); (case hr => exact T3_); intro gb123 hg w49 hbox hb; have BK123 := Aside0.mk (hbox); have GW123 := GE_ hg; have GE123 := GE_ hg; replace HB := Aside0.mk (below_step T1_ hb); clear hb hbox hg; have hcz50_0 := CA_ BK123; have hcz50_1 := CB_ BK123; have hfz50_0 := blk_frozen BK123.out 0; have hfz50_1 := blk_frozen BK123.out 1) | ((with_reducible refine gate_callee (f := 12) rfl ?_); refine goesL_ (some 10) rfl rfl Tryz.func12 (by kernel_rfl) rfl #[.agg #[.slice A0_0 l0_0.length c0_0, .slice A0_1 l0_1.length c0_1]] rfl T2_ ?_; (with_reducible refine (tapewrightref05_Small.calls _ _ l0_0 _ _ l0_1 false _ ?side1 ?side2 ?side3 ?side4 A2.out).mono ?_); (case side1 => exact C1_ (Kd.C_below HR0_0.out HB.out)); (case side2 => exact HC0_0.out); (case side3 => exact C1_ (Kd.C_below HR0_1.out HB.out)); (case side4 => exact HC0_1.out); rintro e w51 ⟨rfl, hb⟩; refine ⟨_, rfl, ?_⟩; replace BK123 := BF_ BK123 hb; replace HB := Aside0.mk (below_step T9_ hb); (try clear hb); (try clear hb2); (try clear hk); (try clear hi)) | ((with_reducible refine gate_callee (f := 13) rfl ?_); refine goesL_ (some 12) rfl rfl Tryz.func13 (by kernel_rfl) rfl #[] rfl T2_ ?_; (with_reducible refine (tapewrightlaw05_awake.calls  t125 _ (Err.Gs.below HGs.out T9_) A48.out).mono ?_); rintro e w52 ⟨rfl, hb⟩; refine ⟨_, rfl, ?_⟩; replace BK123 := BF_ BK123 hb; replace HB := Aside0.mk (below_step T9_ hb); (try clear hb); (try clear hb2); (try clear hk); (try clear hi)))
  go_ret
  exact ⟨T4_, T9_⟩

end Go.Proofs.YtlglpffoijdgbaaGreatDoor.PQN
