-- by wip/tool/mine.py of this repo (the kit's printer with given contracts)
import Derived.Test.YtlglpffoijdgbaaGreatDoorPQCx0
import Derived.Test.YtlglpffoijdgbaaGreatDoorPQCx1
namespace Go.Proofs.YtlglpffoijdgbaaGreatDoor.PQC
set_option maxHeartbeats 8000000
set_option maxRecDepth 100000
open Go.RowKit Go.Proofs.YtlglpffoijdgbaaGreatDoorW.PrintWords Go.Proofs.YtlglpffoijdgbaaGreatDoorW.PrintLast Go.Proofs.YtlglpffoijdgbaaGreatDoorW.PrintMore
attribute [local go_sem] max2_int min2_int max_two min_two max_three min_three max_four min_four   -- for this text's walks alone
set_option linter.unusedVariables false
set_option linter.unusedSimpArgs false

/-! ### tapewrightlaw05_TensorScales: function 5 -/
mutual
noncomputable def tapewrightlaw05_TensorScales.j0 : Nat → ByteArray → ByteArray → Bool → List Int → List ByteArray → Option (Bool)
 | 0, _, _, _, _, _ => none
 | k + 1, x1, x2, x29, x124000, x124001 => if x29 = true then ((tapewrightlaw05_awake.f).bind fun t125 => (some t125)) else ((tensor_Scale.f x124000 x124001 x1).bind fun bt126 => ((tensor_Scale.f bt126.1 bt126.2.1 x2).bind fun bt134 => ((rat_Mul.f x1 x2).bind fun bt142 => ((tensor_Scale.f x124000 x124001 bt142.1).bind fun bt144 => ((tensor_Scale.f x124000 x124001 (⟨#[49]⟩ : ByteArray)).bind fun bt152 => (if bt126.2.2 = 0 then (if bt134.2.2 = 0 then (tapewrightlaw05_TensorScales.j1 k bt144.2.2 bt152.2.2 (bt142.2 != 0) x124000 x124001 bt134.1 bt134.2.1 bt144.1 bt144.2.1 bt152.1 bt152.2.1) else (tapewrightlaw05_TensorScales.j1 k bt144.2.2 bt152.2.2 true x124000 x124001 bt134.1 bt134.2.1 bt144.1 bt144.2.1 bt152.1 bt152.2.1)) else (tapewrightlaw05_TensorScales.j1 k bt144.2.2 bt152.2.2 true x124000 x124001 bt134.1 bt134.2.1 bt144.1 bt144.2.1 bt152.1 bt152.2.1)))))))
noncomputable def tapewrightlaw05_TensorScales.j1 : Nat → Int → Int → Bool → List Int → List ByteArray → List Int → List ByteArray → List Int → List ByteArray → List Int → List ByteArray → Option (Bool)
 | 0, _, _, _, _, _, _, _, _, _, _, _ => none
 | k + 1, x14, x16, x69, x124000, x124001, x142000, x142001, x152000, x152001, x160000, x160001 => if x69 = true then (if x16 = 0 then ((tapewrightref05_Equal.f x160000 x160001 x124000 x124001).bind fun t160 => (if t160 = true then ((tapewrightlaw05_awake.f).bind fun t161 => (some t161)) else (some false))) else ((tapewrightlaw05_awake.f).bind fun t162 => (some t162))) else ((tapewrightref05_Equal.f x142000 x142001 x152000 x152001).bind fun t163 => (if t163 = true then (if x14 = 0 then ((tapewrightref05_Equal.f x160000 x160001 x124000 x124001).bind fun t164 => (if t164 = true then (if x16 = 0 then ((tapewrightlaw05_awake.f).bind fun t165 => (some t165)) else (some false)) else (some false))) else (some false)) else (some false)))
end
noncomputable def tapewrightlaw05_TensorScales.f (k : Nat) (l0_0 : List Int) (l0_1 : List ByteArray) (a1 : ByteArray) (a2 : ByteArray) : Option (Bool) := (tapewrightref05_Small.f l0_0 l0_1).bind fun t124 => (if t124 = true then (if (a1.size : Int) > 20 then (tapewrightlaw05_TensorScales.j0 k a1 a2 true l0_0 l0_1) else (tapewrightlaw05_TensorScales.j0 k a1 a2 (decide ((a2.size : Int) > 20)) l0_0 l0_1)) else (tapewrightlaw05_TensorScales.j0 k a1 a2 true l0_0 l0_1))
theorem tapewrightlaw05_TensorScales.calls (k : Nat) (A0_0 : Option Addr) (c0_0 : Nat) (l0_0 : List Int) (A0_1 : Option Addr) (c0_1 : Nat) (l0_1 : List ByteArray) (a1 : ByteArray) (a2 : ByteArray) (r : Bool) (w : World) (hG : Err.Gs w) (hrt : r = true) (hr0_0 : Kd.C (Kd.int .i64) w A0_0 l0_0.length l0_0) (hc0_0 : l0_0.length ≤ c0_0) (hr0_1 : Kd.C Kd.string w A0_1 l0_1.length l0_1) (hc0_1 : l0_1.length ≤ c0_1) (h : tapewrightlaw05_TensorScales.f k l0_0 l0_1 a1 a2 = some r) :
  Calls Tryz.prog 5 #[.agg #[.slice A0_0 l0_0.length c0_0, .slice A0_1 l0_1.length c0_1], .string a1, .string a2] w fun e w' => e = .returned (.bool r) ∧ Below w.heap.size w w' := by
 have hu25 := Tryz.underlying25
 have HR0_0 := Aside0.mk hr0_0
 have HC0_0 := Aside0.mk hc0_0
 clear hr0_0 hc0_0
 have HR0_1 := Aside0.mk hr0_1
 have HC0_1 := Aside0.mk hc0_1
 clear hr0_1 hc0_1
 have HB := Aside0.mk (Below.refl w.heap.size w)
 have HGs := Aside0.mk hG
 clear hG
 have HRT := Aside0.mk hrt
 clear hrt
 unfold tapewrightlaw05_TensorScales.f at h
 have H := h
 clear h
 have HC4 := Aside0.mk H
 clear H
 go_enter Tryz.func5, Tryz.ntmps5
 go_upto_region 1 with (first | ((with_reducible refine gate_dst (N := 3) rfl ?_); (try (refine gate_guard (by rfl) ?_; dsimp only)); refine box_event ?hg (N := 3) ?hd (cs := #[.slice A0_0 l0_0.length c0_0, .slice A0_1 l0_1.length c0_1]) (t := 25) ?hr ?_; (case hd => rfl); (case hg => rfl); (case hr => exact T3_); intro gb123 hg w5 hbox hb; have BK123 := Aside0.mk (hbox); have GW123 := GE_ hg; have GE123 := GE_ hg; replace HB := Aside0.mk (below_step T1_ hb); clear hb hbox hg))
 (try simp only [Act.put, List.setIfInBounds_toArray, List.set_cons_zero, List.set_cons_succ])
 go_cut [29] (fun v29 wc => ∃ (kq : Nat) (x29_3 : Bool), v29 = .bool x29_3 ∧ Aside0 (tapewrightlaw05_TensorScales.j0 kq a1 a2 x29_3 l0_0 l0_1 = some r) ∧ Aside0 (kq ≤ k) ∧ Aside0 (wc.heap[gb123]? = some (.cells #[(.slice A0_0 l0_0.length c0_0), (.slice A0_1 l0_1.length c0_1)] 25 (0, 0))) ∧ Aside0 (Below w.heap.size w wc))
 case first =>
  have H := HC4.out
  clear HC4
  replace H := Option.bind_eq_some_iff.mp H
  obtain ⟨t124, A60, H⟩ := H
  have A6 := Aside0.mk A60
  clear A60
  by_cases c7 : t124 = true
  ·
   subst c7
   rw [if_pos rfl] at H
   by_cases c8 : (a1.size : Int) > 20
   ·
    rw [if_pos c8] at H
    have c8b0 : decide (20 < (a1.size : Int)) = true := decide_eq_true c8
    have c8b1 : decide (20 < a1.size) = true := decide_eq_true (by omega)
    clear c8
    (first | rw [c8b0] | (simp only [i64_w, i32_w]; rw [c8b0]) | skip)
    have H' := Aside0.mk H
    clear H
    have hcz9_0 := CA_ BK123
    have hcz9_1 := CB_ BK123
    have hfz9_0 := blk_frozen BK123.out 0
    have hfz9_1 := blk_frozen BK123.out 1
    go_wp2_with (first | ((with_reducible refine gate_callee (f := 12) rfl ?_); refine goesL_ (some 18) rfl rfl Tryz.func12 (by kernel_rfl) rfl #[.agg #[.slice A0_0 l0_0.length c0_0, .slice A0_1 l0_1.length c0_1]] rfl T2_ ?_; (with_reducible refine (tapewrightref05_Small.calls _ _ l0_0 _ _ l0_1 true _ ?side1 ?side2 ?side3 ?side4 A6.out).mono ?_); (case side1 => exact C1_ (Kd.C_below HR0_0.out HB.out)); (case side2 => exact HC0_0.out); (case side3 => exact C1_ (Kd.C_below HR0_1.out HB.out)); (case side4 => exact HC0_1.out); rintro e w10 ⟨rfl, hb⟩; refine ⟨_, rfl, ?_⟩; replace BK123 := BF_ BK123 hb; replace HB := Aside0.mk (below_step T9_ hb); (try clear hb); (try clear hb2); (try clear hk); (try clear hi)))
    go_meet
    case rel => exact ⟨_, (true), (by first | rfl | (simp; done) | (simp [*]; done)), H', ⟨by first | omega | exact Nat.le_refl _⟩, ⟨by (with_reducible repeat (first | refine blk_drewN ?_ _ | refine blk_drew ?_ | refine blk_alloc ?_ _)); exact BK123.out⟩, ⟨by repeat (first | (with_reducible first | exact HB.out | apply below_alloc | apply pw_below_drewN | apply below_drew1 | refine below_set ?_ GE123.out) | exact HB.out)⟩⟩
   ·
    rw [if_neg c8] at H
    have c8b0 : decide (20 < (a1.size : Int)) = false := decide_eq_false c8
    have c8b1 : decide (20 < a1.size) = false := decide_eq_false (by omega)
    clear c8
    (first | rw [c8b0] | (simp only [i64_w, i32_w]; rw [c8b0]) | skip)
    have H' := Aside0.mk H
    clear H
    have hcz11_0 := CA_ BK123
    have hcz11_1 := CB_ BK123
    have hfz11_0 := blk_frozen BK123.out 0
    have hfz11_1 := blk_frozen BK123.out 1
    go_wp2_with (first | ((with_reducible refine gate_callee (f := 12) rfl ?_); refine goesL_ (some 18) rfl rfl Tryz.func12 (by kernel_rfl) rfl #[.agg #[.slice A0_0 l0_0.length c0_0, .slice A0_1 l0_1.length c0_1]] rfl T2_ ?_; (with_reducible refine (tapewrightref05_Small.calls _ _ l0_0 _ _ l0_1 true _ ?side1 ?side2 ?side3 ?side4 A6.out).mono ?_); (case side1 => exact C1_ (Kd.C_below HR0_0.out HB.out)); (case side2 => exact HC0_0.out); (case side3 => exact C1_ (Kd.C_below HR0_1.out HB.out)); (case side4 => exact HC0_1.out); rintro e w12 ⟨rfl, hb⟩; refine ⟨_, rfl, ?_⟩; replace BK123 := BF_ BK123 hb; replace HB := Aside0.mk (below_step T9_ hb); (try clear hb); (try clear hb2); (try clear hk); (try clear hi)))
    go_meet
    case rel => exact ⟨_, (decide ((a2.size : Int) > 20)), (by first | rfl | (simp; done) | (simp [*]; done)), H', ⟨by first | omega | exact Nat.le_refl _⟩, ⟨by (with_reducible repeat (first | refine blk_drewN ?_ _ | refine blk_drew ?_ | refine blk_alloc ?_ _)); exact BK123.out⟩, ⟨by repeat (first | (with_reducible first | exact HB.out | apply below_alloc | apply pw_below_drewN | apply below_drew1 | refine below_set ?_ GE123.out) | exact HB.out)⟩⟩
  ·
   replace c7 := Bool.eq_false_iff.mpr c7
   subst c7
   rw [if_neg (show ¬ (false = true) by decide)] at H
   have H' := Aside0.mk H
   clear H
   have hcz13_0 := CA_ BK123
   have hcz13_1 := CB_ BK123
   have hfz13_0 := blk_frozen BK123.out 0
   have hfz13_1 := blk_frozen BK123.out 1
   go_wp2_with (first | ((with_reducible refine gate_callee (f := 12) rfl ?_); refine goesL_ (some 18) rfl rfl Tryz.func12 (by kernel_rfl) rfl #[.agg #[.slice A0_0 l0_0.length c0_0, .slice A0_1 l0_1.length c0_1]] rfl T2_ ?_; (with_reducible refine (tapewrightref05_Small.calls _ _ l0_0 _ _ l0_1 false _ ?side1 ?side2 ?side3 ?side4 A6.out).mono ?_); (case side1 => exact C1_ (Kd.C_below HR0_0.out HB.out)); (case side2 => exact HC0_0.out); (case side3 => exact C1_ (Kd.C_below HR0_1.out HB.out)); (case side4 => exact HC0_1.out); rintro e w14 ⟨rfl, hb⟩; refine ⟨_, rfl, ?_⟩; replace BK123 := BF_ BK123 hb; replace HB := Aside0.mk (below_step T9_ hb); (try clear hb); (try clear hb2); (try clear hk); (try clear hi)))
   go_meet
   case rel => exact ⟨_, (true), (by first | rfl | (simp; done) | (simp [*]; done)), H', ⟨by first | omega | exact Nat.le_refl _⟩, ⟨by (with_reducible repeat (first | refine blk_drewN ?_ _ | refine blk_drew ?_ | refine blk_alloc ?_ _)); exact BK123.out⟩, ⟨by repeat (first | (with_reducible first | exact HB.out | apply below_alloc | apply pw_below_drewN | apply below_drew1 | refine below_set ?_ GE123.out) | exact HB.out)⟩⟩
 case rest =>
  clear HC4
  try clear c1
  try clear p2
  try clear c5
  try clear c7
  try clear c8
  try clear c8b0
  try clear c8b1
  try clear c12
  try clear hcz11_0
  try clear hcz11_1
  try clear hcz13_0
  try clear hcz13_1
  try clear hcz9_0
  try clear hcz9_1
  try clear hfz11_0
  try clear hfz11_1
  try clear hfz13_0
  try clear hfz13_1
  try clear hfz9_0
  try clear hfz9_1
  obtain ⟨kq, x29_3, rfl, HA, HJ3, BK123, HB⟩ := hcut
  cases kq with
  | zero => exact absurd HA.out (by simp [tapewrightlaw05_TensorScales.j0])
  | succ kj3 =>
   have H := HA.out
   clear HA
   simp only [tapewrightlaw05_TensorScales.j0] at H
   by_cases c15 : x29_3 = true
   ·
    subst c15
    rw [if_pos rfl] at H
    replace H := Option.bind_eq_some_iff.mp H
    obtain ⟨t125, A160, H⟩ := H
    have A16 := Aside0.mk A160
    clear A160
    obtain rfl := Option.some.inj H
    go_wp2_with (first | ((with_reducible refine gate_callee (f := 13) rfl ?_); refine goesL_ (some 30) rfl rfl Tryz.func13 (by kernel_rfl) rfl #[] rfl T2_ ?_; (with_reducible refine (tapewrightlaw05_awake.calls  t125 _ (Err.Gs.below HGs.out T9_) A16.out).mono ?_); rintro e w17 ⟨rfl, hb⟩; refine ⟨_, rfl, ?_⟩; replace BK123 := BF_ BK123 hb; replace HB := Aside0.mk (below_step T9_ hb); (try clear hb); (try clear hb2); (try clear hk); (try clear hi)))
    go_ret
    exact ⟨T4_, T9_⟩
   ·
    replace c15 := Bool.eq_false_iff.mpr c15
    subst c15
    rw [if_neg (show ¬ (false = true) by decide)] at H
    replace H := Option.bind_eq_some_iff.mp H
    obtain ⟨⟨t126, t129, t132⟩, A180, H⟩ := H
    have A18 := Aside0.mk A180
    clear A180
    replace H := Option.bind_eq_some_iff.mp H
    obtain ⟨⟨t134, t137, t140⟩, A190, H⟩ := H
    have A19 := Aside0.mk A190
    clear A190
    replace H := Option.bind_eq_some_iff.mp H
    obtain ⟨⟨t142, t143⟩, A200, H⟩ := H
    have A20 := Aside0.mk A200
    clear A200
    replace H := Option.bind_eq_some_iff.mp H
    obtain ⟨⟨t144, t147, t150⟩, A210, H⟩ := H
    have A21 := Aside0.mk A210
    clear A210
    replace H := Option.bind_eq_some_iff.mp H
    obtain ⟨⟨t152, t155, t158⟩, A220, H⟩ := H
    have A22 := Aside0.mk A220
    clear A220
    have HC23 := Aside0.mk H
    clear H
    have hcz24_0 := CA_ BK123
    have hcz24_1 := CB_ BK123
    have hfz24_0 := blk_frozen BK123.out 0
    have hfz24_1 := blk_frozen BK123.out 1
    go_upto_region 8 with (first | ((with_reducible refine gate_callee (f := 20) rfl ?_); refine goesL_ (some 34) rfl rfl Tryz.func20 (by kernel_rfl) rfl #[.agg #[.slice A0_0 l0_0.length c0_0, .slice A0_1 l0_1.length c0_1], .string a1] rfl T2_ ?_; (with_reducible refine (tensor_Scale.calls _ _ l0_0 _ _ l0_1 a1 t126 t129 t132 _ (Err.Gs.below HGs.out T9_) ?side1 ?side2 ?side3 ?side4 A18.out).mono ?_); (case side1 => exact C1_ (Kd.C_below HR0_0.out HB.out)); (case side2 => exact HC0_0.out); (case side3 => exact C1_ (Kd.C_below HR0_1.out HB.out)); (case side4 => exact HC0_1.out); rintro e w25 ⟨v127, v130, rfl, ho0, ho1, hb⟩; refine ⟨_, rfl, ?_⟩; have HO128 := Aside0.mk (Kd.R_lower ho0 (below_size T9_)); have HO131 := Aside0.mk (Kd.R_lower ho1 (below_size T9_)); replace BK123 := BF_ BK123 hb; replace HB := Aside0.mk (below_step T9_ hb); (try clear hb); (try clear hb2); (try clear hk); (try clear hi); (try clear ho0); (try clear ho1)) | ((with_reducible refine gate_dst (N := 7) rfl ?_); (try (refine gate_guard (by rfl) ?_; dsimp only)); refine box_event ?hg (N := 7) ?hd (cs := #[.slice none 0 0, .slice none 0 0]) (t := 25) ?hr ?_; (case hd => rfl); (case hg => rfl); (case hr => exact T3_); intro gb133 hg w26 hbox hb; replace HO128 := RC_ HO128 hb; replace HO131 := RC_ HO131 hb; have BK133 := Aside0.mk (hbox); have GW133 := GE_ hg; have GE133 := GE_ hg; replace HB := Aside0.mk (below_step T9_ hb); have NB123_133 := NB_ BK123 hg; have NB133_123 := NC_ BK123 hg; replace BK123 := BF_ BK123 hb; clear hb hbox hg; obtain ⟨Ao27, co27, eo27⟩ := Kd.R_slice HO128.out; subst eo27; have hnb28 := NB133_123.out; have hnc28 := NB123_133.out; have hcz29_0 := CA_ BK133; have hcz29_1 := CB_ BK133; have hfz29_0 := blk_frozen BK133.out 0; have hfz29_1 := blk_frozen BK133.out 1; obtain ⟨Ao30, co30, eo30⟩ := Kd.R_slice HO131.out; subst eo30) | ((with_reducible refine gate_callee (f := 20) rfl ?_); refine goesL_ (some 40) rfl rfl Tryz.func20 (by kernel_rfl) rfl #[.agg #[.slice Ao27 t126.length co27, .slice Ao30 t129.length co30], .string a2] rfl T2_ ?_; (with_reducible refine (tensor_Scale.calls _ _ t126 _ _ t129 a2 t134 t137 t140 _ (Err.Gs.below HGs.out T9_) ?side1 ?side2 ?side3 ?side4 A19.out).mono ?_); (case side1 => exact C2_ HO128); (case side2 => exact (Kd.R_reads' HO128.out).2.1); (case side3 => exact C2_ HO131); (case side4 => exact (Kd.R_reads' HO131.out).2.1); rintro e w31 ⟨v135, v138, rfl, ho0, ho1, hb⟩; refine ⟨_, rfl, ?_⟩; have HO136 := Aside0.mk (Kd.R_lower ho0 (below_size T9_)); replace HO128 := RC_ HO128 hb; have HO139 := Aside0.mk (Kd.R_lower ho1 (below_size T9_)); replace HO131 := RC_ HO131 hb; replace BK123 := BG_ BK123 hb; replace BK133 := BP_ BK133 hb; replace HB := Aside0.mk (below_step T9_ hb); (try clear hb); (try clear hb2); (try clear hk); (try clear hi); (try clear ho0); (try clear ho1)) | ((with_reducible refine gate_dst (N := 9) rfl ?_); (try (refine gate_guard (by rfl) ?_; dsimp only)); refine box_event ?hg (N := 9) ?hd (cs := #[.slice none 0 0, .slice none 0 0]) (t := 25) ?hr ?_; (case hd => rfl); (case hg => rfl); (case hr => exact T3_); intro gb141 hg w32 hbox hb; replace HO128 := RC_ HO128 hb; replace HO131 := RC_ HO131 hb; replace HO136 := RC_ HO136 hb; replace HO139 := RC_ HO139 hb; have BK141 := Aside0.mk (hbox); have GW141 := GE_ hg; have GE141 := GE_ hg; replace HB := Aside0.mk (below_step T9_ hb); have NB123_141 := NB_ BK123 hg; have NB141_123 := NC_ BK123 hg; replace BK123 := BF_ BK123 hb; have NB133_141 := NB_ BK133 hg; have NB141_133 := NC_ BK133 hg; replace BK133 := BF_ BK133 hb; clear hb hbox hg; obtain ⟨Ao33, co33, eo33⟩ := Kd.R_slice HO136.out; subst eo33; have hnb34 := NB141_123.out; have hnc34 := NB123_141.out; have hnb35 := NB141_133.out; have hnc35 := NB133_141.out; have hcz36_0 : w32.cell? ⟨gb141, 0, none⟩ = some (.slice none 0 0) := (blk_cell BK141.out 0).trans rfl; have hcz36_1 : w32.cell? ⟨gb141, 1, none⟩ = some (.slice none 0 0) := (blk_cell BK141.out 1).trans rfl; have hfz36_0 := blk_frozen BK141.out 0; have hfz36_1 := blk_frozen BK141.out 1; obtain ⟨Ao37, co37, eo37⟩ := Kd.R_slice HO139.out; subst eo37) | ((with_reducible refine gate_callee (f := 21) rfl ?_); refine goesL_ (some 46) rfl rfl Tryz.func21 (by kernel_rfl) rfl #[.string a1, .string a2] rfl T2_ ?_; (with_reducible refine (rat_Mul.calls a1 a2 t142 t143 _ (Err.Gs.below HGs.out T9_) A20.out).mono ?_); rintro e w38 ⟨rfl, hb⟩; refine ⟨_, rfl, ?_⟩; replace HO128 := RC_ HO128 hb; replace HO131 := RC_ HO131 hb; replace HO136 := RC_ HO136 hb; replace HO139 := RC_ HO139 hb; replace BK123 := BG_ BK123 hb; replace BK133 := BG_ BK133 hb; replace BK141 := BP_ BK141 hb; replace HB := Aside0.mk (below_step T9_ hb); (try clear hb); (try clear hb2); (try clear hk); (try clear hi); have hcz39_0 := CA_ BK123; have hcz39_1 := CB_ BK123; have hfz39_0 := blk_frozen BK123.out 0; have hfz39_1 := blk_frozen BK123.out 1) | ((with_reducible refine gate_callee (f := 20) rfl ?_); refine goesL_ (some 52) rfl rfl Tryz.func20 (by kernel_rfl) rfl #[.agg #[.slice A0_0 l0_0.length c0_0, .slice A0_1 l0_1.length c0_1], .string t142] rfl T2_ ?_; (with_reducible refine (tensor_Scale.calls _ _ l0_0 _ _ l0_1 t142 t144 t147 t150 _ (Err.Gs.below HGs.out T9_) ?side1 ?side2 ?side3 ?side4 A21.out).mono ?_); (case side1 => exact C1_ (Kd.C_below HR0_0.out HB.out)); (case side2 => exact HC0_0.out); (case side3 => exact C1_ (Kd.C_below HR0_1.out HB.out)); (case side4 => exact HC0_1.out); rintro e w40 ⟨v145, v148, rfl, ho0, ho1, hb⟩; refine ⟨_, rfl, ?_⟩; have HO146 := Aside0.mk (Kd.R_lower ho0 (below_size T9_)); replace HO128 := RC_ HO128 hb; replace HO136 := RC_ HO136 hb; have HO149 := Aside0.mk (Kd.R_lower ho1 (below_size T9_)); replace HO131 := RC_ HO131 hb; replace HO139 := RC_ HO139 hb; replace BK123 := BF_ BK123 hb; replace BK133 := BF_ BK133 hb; replace BK141 := BF_ BK141 hb; replace HB := Aside0.mk (below_step T9_ hb); (try clear hb); (try clear hb2); (try clear hk); (try clear hi); (try clear ho0); (try clear ho1)) | ((with_reducible refine gate_dst (N := 13) rfl ?_); (try (refine gate_guard (by rfl) ?_; dsimp only)); refine box_event ?hg (N := 13) ?hd (cs := #[.slice none 0 0, .slice none 0 0]) (t := 25) ?hr ?_; (case hd => rfl); (case hg => rfl); (case hr => exact T3_); intro gb151 hg w41 hbox hb; replace HO128 := RC_ HO128 hb; replace HO131 := RC_ HO131 hb; replace HO136 := RC_ HO136 hb; replace HO139 := RC_ HO139 hb; replace HO146 := RC_ HO146 hb; replace HO149 := RC_ HO149 hb; have BK151 := Aside0.mk (hbox); have GW151 := GE_ hg; have GE151 := GE_ hg; replace HB := Aside0.mk (below_step T9_ hb); have NB123_151 := NB_ BK123 hg; have NB151_123 := NC_ BK123 hg; replace BK123 := BF_ BK123 hb; have NB133_151 := NB_ BK133 hg; have NB151_133 := NC_ BK133 hg; replace BK133 := BF_ BK133 hb; have NB141_151 := NB_ BK141 hg; have NB151_141 := NC_ BK141 hg; replace BK141 := BF_ BK141 hb; clear hb hbox hg; obtain ⟨Ao42, co42, eo42⟩ := Kd.R_slice HO146.out; subst eo42; have hnb43 := NB151_123.out; have hnc43 := NB123_151.out; have hnb44 := NB151_133.out; have hnc44 := NB133_151.out; have hnb45 := NB151_141.out; have hnc45 := NB141_151.out; have hcz46_0 : w41.cell? ⟨gb151, 0, none⟩ = some (.slice none 0 0) := (blk_cell BK151.out 0).trans rfl; have hcz46_1 : w41.cell? ⟨gb151, 1, none⟩ = some (.slice none 0 0) := (blk_cell BK151.out 1).trans rfl; have hfz46_0 := blk_frozen BK151.out 0; have hfz46_1 := blk_frozen BK151.out 1; obtain ⟨Ao47, co47, eo47⟩ := Kd.R_slice HO149.out; subst eo47; have hcz48_0 := CA_ BK123; have hcz48_1 := CB_ BK123; have hfz48_0 := blk_frozen BK123.out 0; have hfz48_1 := blk_frozen BK123.out 1) | ((with_reducible refine gate_callee (f := 20) rfl ?_); refine goesL_ (some 57) rfl rfl Tryz.func20 (by kernel_rfl) rfl #[.agg #[.slice A0_0 l0_0.length c0_0, .slice A0_1 l0_1.length c0_1], .string (⟨#[49]⟩ : ByteArray)] rfl T2_ ?_; (with_reducible refine (tensor_Scale.calls _ _ l0_0 _ _ l0_1 (⟨#[49]⟩ : ByteArray) t152 t155 t158 _ (Err.Gs.below HGs.out T9_) ?side1 ?side2 ?side3 ?side4 A22.out).mono ?_); (case side1 => exact Kd.C_below HR0_0.out T9_); (case side2 => exact HC0_0.out); (case side3 => exact Kd.C_below HR0_1.out T9_); (case side4 => exact HC0_1.out); rintro e w49 ⟨v153, v156, rfl, ho0, ho1, hb⟩; refine ⟨_, rfl, ?_⟩; have HO154 := Aside0.mk (Kd.R_lower ho0 (below_size T9_)); replace HO128 := RC_ HO128 hb; replace HO136 := RC_ HO136 hb; replace HO146 := RC_ HO146 hb; have HO157 := Aside0.mk (Kd.R_lower ho1 (below_size T9_)); replace HO131 := RC_ HO131 hb; replace HO139 := RC_ HO139 hb; replace HO149 := RC_ HO149 hb; replace BK123 := BG_ BK123 hb; replace BK133 := BG_ BK133 hb; replace BK141 := BG_ BK141 hb; replace BK151 := BP_ BK151 hb; replace HB := Aside0.mk (below_step T9_ hb); (try clear hb); (try clear hb2); (try clear hk); (try clear hi); (try clear ho0); (try clear ho1)) | ((with_reducible refine gate_dst (N := 15) rfl ?_); (try (refine gate_guard (by rfl) ?_; dsimp only)); refine box_event ?hg (N := 15) ?hd (cs := #[.slice none 0 0, .slice none 0 0]) (t := 25) ?hr ?_; (case hd => rfl); (case hg => rfl); (case hr => exact T3_); intro gb159 hg w50 hbox hb; replace HO128 := RC_ HO128 hb; replace HO131 := RC_ HO131 hb; replace HO136 := RC_ HO136 hb; replace HO139 := RC_ HO139 hb; replace HO146 := RC_ HO146 hb; replace HO149 := RC_ HO149 hb; replace HO154 := RC_ HO154 hb; replace HO157 := RC_ HO157 hb; have BK159 := Aside0.mk (hbox); have GW159 := GE_ hg; have GE159 := GE_ hg; replace HB := Aside0.mk (below_step T9_ hb); have NB123_159 := NB_ BK123 hg; have NB159_123 := NC_ BK123 hg; replace BK123 := BF_ BK123 hb; have NB133_159 := NB_ BK133 hg; have NB159_133 := NC_ BK133 hg; replace BK133 := BF_ BK133 hb; have NB141_159 := NB_ BK141 hg; have NB159_141 := NC_ BK141 hg; replace BK141 := BF_ BK141 hb; have NB151_159 := NB_ BK151 hg; have NB159_151 := NC_ BK151 hg; replace BK151 := BF_ BK151 hb; clear hb hbox hg; obtain ⟨Ao51, co51, eo51⟩ := Kd.R_slice HO154.out; subst eo51; have hnb52 := NB159_123.out; have hnc52 := NB123_159.out; have hnb53 := NB159_133.out; have hnc53 := NB133_159.out; have hnb54 := NB159_141.out; have hnc54 := NB141_159.out; have hnb55 := NB159_151.out; have hnc55 := NB151_159.out; have hcz56_0 : w50.cell? ⟨gb159, 0, none⟩ = some (.slice none 0 0) := (blk_cell BK159.out 0).trans rfl; have hcz56_1 : w50.cell? ⟨gb159, 1, none⟩ = some (.slice none 0 0) := (blk_cell BK159.out 1).trans rfl; have hfz56_0 := blk_frozen BK159.out 0; have hfz56_1 := blk_frozen BK159.out 1; obtain ⟨Ao57, co57, eo57⟩ := Kd.R_slice HO157.out; subst eo57))
    (try simp only [Act.put, List.setIfInBounds_toArray, List.set_cons_zero, List.set_cons_succ])
    go_cut [69] (fun v69 wc => ∃ (kq : Nat) (x69_22 : Bool), v69 = .bool x69_22 ∧ Aside0 (tapewrightlaw05_TensorScales.j1 kq t150 t158 x69_22 l0_0 l0_1 t134 t137 t144 t147 t152 t155 = some r) ∧ Aside0 (kq ≤ kj3) ∧ Aside0 (Kd.R (Kd.int .i64) 3 wc w.heap.size (fun _ => True) (.slice Ao27 t126.length co27) t126) ∧ Aside0 (Kd.R Kd.string 9 wc w.heap.size (fun _ => True) (.slice Ao30 t129.length co30) t129) ∧ Aside0 (Kd.R (Kd.int .i64) 3 wc w.heap.size (fun _ => True) (.slice Ao33 t134.length co33) t134) ∧ Aside0 (Kd.R Kd.string 9 wc w.heap.size (fun _ => True) (.slice Ao37 t137.length co37) t137) ∧ Aside0 (Kd.R (Kd.int .i64) 3 wc w.heap.size (fun _ => True) (.slice Ao42 t144.length co42) t144) ∧ Aside0 (Kd.R Kd.string 9 wc w.heap.size (fun _ => True) (.slice Ao47 t147.length co47) t147) ∧ Aside0 (Kd.R (Kd.int .i64) 3 wc w.heap.size (fun _ => True) (.slice Ao51 t152.length co51) t152) ∧ Aside0 (Kd.R Kd.string 9 wc w.heap.size (fun _ => True) (.slice Ao57 t155.length co57) t155) ∧ Aside0 (wc.heap[gb123]? = some (.cells #[(.slice A0_0 l0_0.length c0_0), (.slice A0_1 l0_1.length c0_1)] 25 (0, 0))) ∧ Aside0 (wc.heap[gb133]? = some (.cells #[(.slice Ao27 t126.length co27), (.slice Ao30 t129.length co30)] 25 (0, 0))) ∧ Aside0 (wc.heap[gb141]? = some (.cells #[(.slice Ao33 t134.length co33), (.slice Ao37 t137.length co37)] 25 (0, 0))) ∧ Aside0 (wc.heap[gb151]? = some (.cells #[(.slice Ao42 t144.length co42), (.slice Ao47 t147.length co47)] 25 (0, 0))) ∧ Aside0 (wc.heap[gb159]? = some (.cells #[(.slice Ao51 t152.length co51), (.slice Ao57 t155.length co57)] 25 (0, 0))) ∧ Aside0 (Below w.heap.size w wc))
    case first =>
     have H := HC23.out
     clear HC23
     by_cases c58 : t132 = 0
     ·
      rw [if_pos c58] at H
      have c58b0 : (t132 == 0) = true := beq_iff_eq.mpr c58
      have c58b1 : (t132 != 0) = false := bne_eq_false_iff_eq.mpr c58
      clear c58
      (first | rw [c58b0] | (simp only [i64_w, i32_w]; rw [c58b0]) | skip)
      by_cases c59 : t140 = 0
      ·
       rw [if_pos c59] at H
       have c59b0 : (t140 == 0) = true := beq_iff_eq.mpr c59
       have c59b1 : (t140 != 0) = false := bne_eq_false_iff_eq.mpr c59
       clear c59
       have H' := Aside0.mk H
       clear H
       go_wp2
       go_meet
       case rel => exact ⟨_, ((t143 != 0)), (by first | rfl | (simp; done) | (simp [*]; done)), H', ⟨by have := HJ3.out; first | omega | exact Nat.le_refl _⟩, ⟨by (with_reducible repeat (first | apply Kd.R_alloc | apply Kd.R_drewN | apply Kd.R_drew)); exact Kd.R_mono (Kd.R_far (p := ⟨gb159, 1, none⟩) (Kd.R_far (p := ⟨gb159, 0, none⟩) (Kd.R_types HO128.out BK159.out (by decide)) (fun _ hk => hk.2) (.slice Ao51 t152.length co51)) (fun _ hk => hk.2) (.slice Ao57 t155.length co57)) (fun _ hk => trivial)⟩, ⟨by (with_reducible repeat (first | apply Kd.R_alloc | apply Kd.R_drewN | apply Kd.R_drew)); exact Kd.R_mono (Kd.R_far (p := ⟨gb159, 1, none⟩) (Kd.R_far (p := ⟨gb159, 0, none⟩) (Kd.R_types HO131.out BK159.out (by decide)) (fun _ hk => hk.2) (.slice Ao51 t152.length co51)) (fun _ hk => hk.2) (.slice Ao57 t155.length co57)) (fun _ hk => trivial)⟩, ⟨by (with_reducible repeat (first | apply Kd.R_alloc | apply Kd.R_drewN | apply Kd.R_drew)); exact Kd.R_mono (Kd.R_far (p := ⟨gb159, 1, none⟩) (Kd.R_far (p := ⟨gb159, 0, none⟩) (Kd.R_types HO136.out BK159.out (by decide)) (fun _ hk => hk.2) (.slice Ao51 t152.length co51)) (fun _ hk => hk.2) (.slice Ao57 t155.length co57)) (fun _ hk => trivial)⟩, ⟨by (with_reducible repeat (first | apply Kd.R_alloc | apply Kd.R_drewN | apply Kd.R_drew)); exact Kd.R_mono (Kd.R_far (p := ⟨gb159, 1, none⟩) (Kd.R_far (p := ⟨gb159, 0, none⟩) (Kd.R_types HO139.out BK159.out (by decide)) (fun _ hk => hk.2) (.slice Ao51 t152.length co51)) (fun _ hk => hk.2) (.slice Ao57 t155.length co57)) (fun _ hk => trivial)⟩, ⟨by (with_reducible repeat (first | apply Kd.R_alloc | apply Kd.R_drewN | apply Kd.R_drew)); exact Kd.R_mono (Kd.R_far (p := ⟨gb159, 1, none⟩) (Kd.R_far (p := ⟨gb159, 0, none⟩) (Kd.R_types HO146.out BK159.out (by decide)) (fun _ hk => hk.2) (.slice Ao51 t152.length co51)) (fun _ hk => hk.2) (.slice Ao57 t155.length co57)) (fun _ hk => trivial)⟩, ⟨by (with_reducible repeat (first | apply Kd.R_alloc | apply Kd.R_drewN | apply Kd.R_drew)); exact Kd.R_mono (Kd.R_far (p := ⟨gb159, 1, none⟩) (Kd.R_far (p := ⟨gb159, 0, none⟩) (Kd.R_types HO149.out BK159.out (by decide)) (fun _ hk => hk.2) (.slice Ao51 t152.length co51)) (fun _ hk => hk.2) (.slice Ao57 t155.length co57)) (fun _ hk => trivial)⟩, ⟨by (with_reducible repeat (first | apply Kd.R_alloc | apply Kd.R_drewN | apply Kd.R_drew)); exact Kd.R_mono (Kd.R_far (p := ⟨gb159, 1, none⟩) (Kd.R_far (p := ⟨gb159, 0, none⟩) (Kd.R_types HO154.out BK159.out (by decide)) (fun _ hk => hk.2) (.slice Ao51 t152.length co51)) (fun _ hk => hk.2) (.slice Ao57 t155.length co57)) (fun _ hk => trivial)⟩, ⟨by (with_reducible repeat (first | apply Kd.R_alloc | apply Kd.R_drewN | apply Kd.R_drew)); exact Kd.R_mono (Kd.R_far (p := ⟨gb159, 1, none⟩) (Kd.R_far (p := ⟨gb159, 0, none⟩) (Kd.R_types HO157.out BK159.out (by decide)) (fun _ hk => hk.2) (.slice Ao51 t152.length co51)) (fun _ hk => hk.2) (.slice Ao57 t155.length co57)) (fun _ hk => trivial)⟩, ⟨by (with_reducible repeat (first | refine blk_drewN ?_ _ | refine blk_drew ?_ | refine blk_alloc ?_ _)); refine blk_far ?_ NB123_159.out _; (with_reducible repeat (first | refine blk_drewN ?_ _ | refine blk_drew ?_ | refine blk_alloc ?_ _)); refine blk_far ?_ NB123_159.out _; (with_reducible repeat (first | refine blk_drewN ?_ _ | refine blk_drew ?_ | refine blk_alloc ?_ _)); exact BK123.out⟩, ⟨by (with_reducible repeat (first | refine blk_drewN ?_ _ | refine blk_drew ?_ | refine blk_alloc ?_ _)); refine blk_far ?_ NB133_159.out _; (with_reducible repeat (first | refine blk_drewN ?_ _ | refine blk_drew ?_ | refine blk_alloc ?_ _)); refine blk_far ?_ NB133_159.out _; (with_reducible repeat (first | refine blk_drewN ?_ _ | refine blk_drew ?_ | refine blk_alloc ?_ _)); exact BK133.out⟩, ⟨by (with_reducible repeat (first | refine blk_drewN ?_ _ | refine blk_drew ?_ | refine blk_alloc ?_ _)); refine blk_far ?_ NB141_159.out _; (with_reducible repeat (first | refine blk_drewN ?_ _ | refine blk_drew ?_ | refine blk_alloc ?_ _)); refine blk_far ?_ NB141_159.out _; (with_reducible repeat (first | refine blk_drewN ?_ _ | refine blk_drew ?_ | refine blk_alloc ?_ _)); exact BK141.out⟩, ⟨by (with_reducible repeat (first | refine blk_drewN ?_ _ | refine blk_drew ?_ | refine blk_alloc ?_ _)); refine blk_far ?_ NB151_159.out _; (with_reducible repeat (first | refine blk_drewN ?_ _ | refine blk_drew ?_ | refine blk_alloc ?_ _)); refine blk_far ?_ NB151_159.out _; (with_reducible repeat (first | refine blk_drewN ?_ _ | refine blk_drew ?_ | refine blk_alloc ?_ _)); exact BK151.out⟩, ⟨by (with_reducible repeat (first | refine blk_drewN ?_ _ | refine blk_drew ?_ | refine blk_alloc ?_ _)); refine blk_put (cs := #[.slice Ao51 t152.length co51, .slice none 0 0]) ?_ 1 _ rfl; (with_reducible repeat (first | refine blk_drewN ?_ _ | refine blk_drew ?_ | refine blk_alloc ?_ _)); refine blk_put (cs := #[.slice none 0 0, .slice none 0 0]) ?_ 0 _ rfl; (with_reducible repeat (first | refine blk_drewN ?_ _ | refine blk_drew ?_ | refine blk_alloc ?_ _)); exact BK159.out⟩, ⟨by repeat (first | (with_reducible first | exact HB.out | apply below_alloc | apply pw_below_drewN | apply below_drew1 | refine below_set ?_ GE123.out | refine below_set ?_ GE133.out | refine below_set ?_ GE141.out | refine below_set ?_ GE151.out | refine below_set ?_ GE159.out) | exact HB.out)⟩⟩
      ·
       rw [if_neg c59] at H
       have c59b0 : (t140 == 0) = false := beq_eq_false_iff_ne.mpr c59
       have c59b1 : (t140 != 0) = true := bne_iff_ne.mpr c59
       have H' := Aside0.mk H
       clear H
       go_wp2
       go_meet
       case rel => exact ⟨_, (true), (by first | rfl | (simp; done) | (simp [*]; done)), H', ⟨by have := HJ3.out; first | omega | exact Nat.le_refl _⟩, ⟨by (with_reducible repeat (first | apply Kd.R_alloc | apply Kd.R_drewN | apply Kd.R_drew)); exact Kd.R_mono (Kd.R_far (p := ⟨gb159, 1, none⟩) (Kd.R_far (p := ⟨gb159, 0, none⟩) (Kd.R_types HO128.out BK159.out (by decide)) (fun _ hk => hk.2) (.slice Ao51 t152.length co51)) (fun _ hk => hk.2) (.slice Ao57 t155.length co57)) (fun _ hk => trivial)⟩, ⟨by (with_reducible repeat (first | apply Kd.R_alloc | apply Kd.R_drewN | apply Kd.R_drew)); exact Kd.R_mono (Kd.R_far (p := ⟨gb159, 1, none⟩) (Kd.R_far (p := ⟨gb159, 0, none⟩) (Kd.R_types HO131.out BK159.out (by decide)) (fun _ hk => hk.2) (.slice Ao51 t152.length co51)) (fun _ hk => hk.2) (.slice Ao57 t155.length co57)) (fun _ hk => trivial)⟩, ⟨by (with_reducible repeat (first | apply Kd.R_alloc | apply Kd.R_drewN | apply Kd.R_drew)); exact Kd.R_mono (Kd.R_far (p := ⟨gb159, 1, none⟩) (Kd.R_far (p := ⟨gb159, 0, none⟩) (Kd.R_types HO136.out BK159.out (by decide)) (fun _ hk => hk.2) (.slice Ao51 t152.length co51)) (fun _ hk => hk.2) (.slice Ao57 t155.length co57)) (fun _ hk => trivial)⟩, ⟨by (with_reducible repeat (first | apply Kd.R_alloc | apply Kd.R_drewN | apply Kd.R_drew)); exact Kd.R_mono (Kd.R_far (p := ⟨gb159, 1, none⟩) (Kd.R_far (p := ⟨gb159, 0, none⟩) (Kd.R_types HO139.out BK159.out (by decide)) (fun _ hk => hk.2) (.slice Ao51 t152.length co51)) (fun _ hk => hk.2) (.slice Ao57 t155.length co57)) (fun _ hk => trivial)⟩, ⟨by (with_reducible repeat (first | apply Kd.R_alloc | apply Kd.R_drewN | apply Kd.R_drew)); exact Kd.R_mono (Kd.R_far (p := ⟨gb159, 1, none⟩) (Kd.R_far (p := ⟨gb159, 0, none⟩) (Kd.R_types HO146.out BK159.out (by decide)) (fun _ hk => hk.2) (.slice Ao51 t152.length co51)) (fun _ hk => hk.2) (.slice Ao57 t155.length co57)) (fun _ hk => trivial)⟩, ⟨by (with_reducible repeat (first | apply Kd.R_alloc | apply Kd.R_drewN | apply Kd.R_drew)); exact Kd.R_mono (Kd.R_far (p := ⟨gb159, 1, none⟩) (Kd.R_far (p := ⟨gb159, 0, none⟩) (Kd.R_types HO149.out BK159.out (by decide)) (fun _ hk => hk.2) (.slice Ao51 t152.length co51)) (fun _ hk => hk.2) (.slice Ao57 t155.length co57)) (fun _ hk => trivial)⟩, ⟨by (with_reducible repeat (first | apply Kd.R_alloc | apply Kd.R_drewN | apply Kd.R_drew)); exact Kd.R_mono (Kd.R_far (p := ⟨gb159, 1, none⟩) (Kd.R_far (p := ⟨gb159, 0, none⟩) (Kd.R_types HO154.out BK159.out (by decide)) (fun _ hk => hk.2) (.slice Ao51 t152.length co51)) (fun _ hk => hk.2) (.slice Ao57 t155.length co57)) (fun _ hk => trivial)⟩, ⟨by (with_reducible repeat (first | apply Kd.R_alloc | apply Kd.R_drewN | apply Kd.R_drew)); exact Kd.R_mono (Kd.R_far (p := ⟨gb159, 1, none⟩) (Kd.R_far (p := ⟨gb159, 0, none⟩) (Kd.R_types HO157.out BK159.out (by decide)) (fun _ hk => hk.2) (.slice Ao51 t152.length co51)) (fun _ hk => hk.2) (.slice Ao57 t155.length co57)) (fun _ hk => trivial)⟩, ⟨by (with_reducible repeat (first | refine blk_drewN ?_ _ | refine blk_drew ?_ | refine blk_alloc ?_ _)); refine blk_far ?_ NB123_159.out _; (with_reducible repeat (first | refine blk_drewN ?_ _ | refine blk_drew ?_ | refine blk_alloc ?_ _)); refine blk_far ?_ NB123_159.out _; (with_reducible repeat (first | refine blk_drewN ?_ _ | refine blk_drew ?_ | refine blk_alloc ?_ _)); exact BK123.out⟩, ⟨by (with_reducible repeat (first | refine blk_drewN ?_ _ | refine blk_drew ?_ | refine blk_alloc ?_ _)); refine blk_far ?_ NB133_159.out _; (with_reducible repeat (first | refine blk_drewN ?_ _ | refine blk_drew ?_ | refine blk_alloc ?_ _)); refine blk_far ?_ NB133_159.out _; (with_reducible repeat (first | refine blk_drewN ?_ _ | refine blk_drew ?_ | refine blk_alloc ?_ _)); exact BK133.out⟩, ⟨by (with_reducible repeat (first | refine blk_drewN ?_ _ | refine blk_drew ?_ | refine blk_alloc ?_ _)); refine blk_far ?_ NB141_159.out _; (with_reducible repeat (first | refine blk_drewN ?_ _ | refine blk_drew ?_ | refine blk_alloc ?_ _)); refine blk_far ?_ NB141_159.out _; (with_reducible repeat (first | refine blk_drewN ?_ _ | refine blk_drew ?_ | refine blk_alloc ?_ _)); exact BK141.out⟩, ⟨by (with_reducible repeat (first | refine blk_drewN ?_ _ | refine blk_drew ?_ | refine blk_alloc ?_ _)); refine blk_far ?_ NB151_159.out _; (with_reducible repeat (first | refine blk_drewN ?_ _ | refine blk_drew ?_ | refine blk_alloc ?_ _)); refine blk_far ?_ NB151_159.out _; (with_reducible repeat (first | refine blk_drewN ?_ _ | refine blk_drew ?_ | refine blk_alloc ?_ _)); exact BK151.out⟩, ⟨by (with_reducible repeat (first | refine blk_drewN ?_ _ | refine blk_drew ?_ | refine blk_alloc ?_ _)); refine blk_put (cs := #[.slice Ao51 t152.length co51, .slice none 0 0]) ?_ 1 _ rfl; (with_reducible repeat (first | refine blk_drewN ?_ _ | refine blk_drew ?_ | refine blk_alloc ?_ _)); refine blk_put (cs := #[.slice none 0 0, .slice none 0 0]) ?_ 0 _ rfl; (with_reducible repeat (first | refine blk_drewN ?_ _ | refine blk_drew ?_ | refine blk_alloc ?_ _)); exact BK159.out⟩, ⟨by repeat (first | (with_reducible first | exact HB.out | apply below_alloc | apply pw_below_drewN | apply below_drew1 | refine below_set ?_ GE123.out | refine below_set ?_ GE133.out | refine below_set ?_ GE141.out | refine below_set ?_ GE151.out | refine below_set ?_ GE159.out) | exact HB.out)⟩⟩
     ·
      rw [if_neg c58] at H
      have c58b0 : (t132 == 0) = false := beq_eq_false_iff_ne.mpr c58
      have c58b1 : (t132 != 0) = true := bne_iff_ne.mpr c58
      (first | rw [c58b0] | (simp only [i64_w, i32_w]; rw [c58b0]) | skip)
      have H' := Aside0.mk H
      clear H
      go_wp2
      go_meet
      case rel => exact ⟨_, (true), (by first | rfl | (simp; done) | (simp [*]; done)), H', ⟨by have := HJ3.out; first | omega | exact Nat.le_refl _⟩, ⟨by (with_reducible repeat (first | apply Kd.R_alloc | apply Kd.R_drewN | apply Kd.R_drew)); exact Kd.R_mono (Kd.R_far (p := ⟨gb159, 1, none⟩) (Kd.R_far (p := ⟨gb159, 0, none⟩) (Kd.R_types HO128.out BK159.out (by decide)) (fun _ hk => hk.2) (.slice Ao51 t152.length co51)) (fun _ hk => hk.2) (.slice Ao57 t155.length co57)) (fun _ hk => trivial)⟩, ⟨by (with_reducible repeat (first | apply Kd.R_alloc | apply Kd.R_drewN | apply Kd.R_drew)); exact Kd.R_mono (Kd.R_far (p := ⟨gb159, 1, none⟩) (Kd.R_far (p := ⟨gb159, 0, none⟩) (Kd.R_types HO131.out BK159.out (by decide)) (fun _ hk => hk.2) (.slice Ao51 t152.length co51)) (fun _ hk => hk.2) (.slice Ao57 t155.length co57)) (fun _ hk => trivial)⟩, ⟨by (with_reducible repeat (first | apply Kd.R_alloc | apply Kd.R_drewN | apply Kd.R_drew)); exact Kd.R_mono (Kd.R_far (p := ⟨gb159, 1, none⟩) (Kd.R_far (p := ⟨gb159, 0, none⟩) (Kd.R_types HO136.out BK159.out (by decide)) (fun _ hk => hk.2) (.slice Ao51 t152.length co51)) (fun _ hk => hk.2) (.slice Ao57 t155.length co57)) (fun _ hk => trivial)⟩, ⟨by (with_reducible repeat (first | apply Kd.R_alloc | apply Kd.R_drewN | apply Kd.R_drew)); exact Kd.R_mono (Kd.R_far (p := ⟨gb159, 1, none⟩) (Kd.R_far (p := ⟨gb159, 0, none⟩) (Kd.R_types HO139.out BK159.out (by decide)) (fun _ hk => hk.2) (.slice Ao51 t152.length co51)) (fun _ hk => hk.2) (.slice Ao57 t155.length co57)) (fun _ hk => trivial)⟩, ⟨by (with_reducible repeat (first | apply Kd.R_alloc | apply Kd.R_drewN | apply Kd.R_drew)); exact Kd.R_mono (Kd.R_far (p := ⟨gb159, 1, none⟩) (Kd.R_far (p := ⟨gb159, 0, none⟩) (Kd.R_types HO146.out BK159.out (by decide)) (fun _ hk => hk.2) (.slice Ao51 t152.length co51)) (fun _ hk => hk.2) (.slice Ao57 t155.length co57)) (fun _ hk => trivial)⟩, ⟨by (with_reducible repeat (first | apply Kd.R_alloc | apply Kd.R_drewN | apply Kd.R_drew)); exact Kd.R_mono (Kd.R_far (p := ⟨gb159, 1, none⟩) (Kd.R_far (p := ⟨gb159, 0, none⟩) (Kd.R_types HO149.out BK159.out (by decide)) (fun _ hk => hk.2) (.slice Ao51 t152.length co51)) (fun _ hk => hk.2) (.slice Ao57 t155.length co57)) (fun _ hk => trivial)⟩, ⟨by (with_reducible repeat (first | apply Kd.R_alloc | apply Kd.R_drewN | apply Kd.R_drew)); exact Kd.R_mono (Kd.R_far (p := ⟨gb159, 1, none⟩) (Kd.R_far (p := ⟨gb159, 0, none⟩) (Kd.R_types HO154.out BK159.out (by decide)) (fun _ hk => hk.2) (.slice Ao51 t152.length co51)) (fun _ hk => hk.2) (.slice Ao57 t155.length co57)) (fun _ hk => trivial)⟩, ⟨by (with_reducible repeat (first | apply Kd.R_alloc | apply Kd.R_drewN | apply Kd.R_drew)); exact Kd.R_mono (Kd.R_far (p := ⟨gb159, 1, none⟩) (Kd.R_far (p := ⟨gb159, 0, none⟩) (Kd.R_types HO157.out BK159.out (by decide)) (fun _ hk => hk.2) (.slice Ao51 t152.length co51)) (fun _ hk => hk.2) (.slice Ao57 t155.length co57)) (fun _ hk => trivial)⟩, ⟨by (with_reducible repeat (first | refine blk_drewN ?_ _ | refine blk_drew ?_ | refine blk_alloc ?_ _)); refine blk_far ?_ NB123_159.out _; (with_reducible repeat (first | refine blk_drewN ?_ _ | refine blk_drew ?_ | refine blk_alloc ?_ _)); refine blk_far ?_ NB123_159.out _; (with_reducible repeat (first | refine blk_drewN ?_ _ | refine blk_drew ?_ | refine blk_alloc ?_ _)); exact BK123.out⟩, ⟨by (with_reducible repeat (first | refine blk_drewN ?_ _ | refine blk_drew ?_ | refine blk_alloc ?_ _)); refine blk_far ?_ NB133_159.out _; (with_reducible repeat (first | refine blk_drewN ?_ _ | refine blk_drew ?_ | refine blk_alloc ?_ _)); refine blk_far ?_ NB133_159.out _; (with_reducible repeat (first | refine blk_drewN ?_ _ | refine blk_drew ?_ | refine blk_alloc ?_ _)); exact BK133.out⟩, ⟨by (with_reducible repeat (first | refine blk_drewN ?_ _ | refine blk_drew ?_ | refine blk_alloc ?_ _)); refine blk_far ?_ NB141_159.out _; (with_reducible repeat (first | refine blk_drewN ?_ _ | refine blk_drew ?_ | refine blk_alloc ?_ _)); refine blk_far ?_ NB141_159.out _; (with_reducible repeat (first | refine blk_drewN ?_ _ | refine blk_drew ?_ | refine blk_alloc ?_ _)); exact BK141.out⟩, ⟨by (with_reducible repeat (first | refine blk_drewN ?_ _ | refine blk_drew ?_ | refine blk_alloc ?_ _)); refine blk_far ?_ NB151_159.out _; (with_reducible repeat (first | refine blk_drewN ?_ _ | refine blk_drew ?_ | refine blk_alloc ?_ _)); refine blk_far ?_ NB151_159.out _; (with_reducible repeat (first | refine blk_drewN ?_ _ | refine blk_drew ?_ | refine blk_alloc ?_ _)); exact BK151.out⟩, ⟨by (with_reducible repeat (first | refine blk_drewN ?_ _ | refine blk_drew ?_ | refine blk_alloc ?_ _)); refine blk_put (cs := #[.slice Ao51 t152.length co51, .slice none 0 0]) ?_ 1 _ rfl; (with_reducible repeat (first | refine blk_drewN ?_ _ | refine blk_drew ?_ | refine blk_alloc ?_ _)); refine blk_put (cs := #[.slice none 0 0, .slice none 0 0]) ?_ 0 _ rfl; (with_reducible repeat (first | refine blk_drewN ?_ _ | refine blk_drew ?_ | refine blk_alloc ?_ _)); exact BK159.out⟩, ⟨by repeat (first | (with_reducible first | exact HB.out | apply below_alloc | apply pw_below_drewN | apply below_drew1 | refine below_set ?_ GE123.out | refine below_set ?_ GE133.out | refine below_set ?_ GE141.out | refine below_set ?_ GE151.out | refine below_set ?_ GE159.out) | exact HB.out)⟩⟩
    case rest =>
     clear HC23
     try clear c1
     try clear c2
     try clear p2
     try clear c3
     try clear c4
     try clear c5
     try clear c7
     try clear c8
     try clear c8b0
     try clear c8b1
     try clear c12
     try clear c13
     try clear c15
     try clear c20
     try clear c21
     try clear c28
     try clear c34
     try clear c35
     try clear c43
     try clear c44
     try clear c45
     try clear c52
     try clear c53
     try clear c54
     try clear c55
     try clear c58
     try clear c58b0
     try clear c58b1
     try clear c59
     try clear c59b0
     try clear c59b1
     try clear hcz11_0
     try clear hcz11_1
     try clear hcz13_0
     try clear hcz13_1
     try clear hcz24_0
     try clear hcz24_1
     try clear hcz29_0
     try clear hcz29_1
     try clear hcz36_0
     try clear hcz36_1
     try clear hcz39_0
     try clear hcz39_1
     try clear hcz46_0
     try clear hcz46_1
     try clear hcz48_0
     try clear hcz48_1
     try clear hcz56_0
     try clear hcz56_1
     try clear hcz9_0
     try clear hcz9_1
     try clear hfz11_0
     try clear hfz11_1
     try clear hfz13_0
     try clear hfz13_1
     try clear hfz24_0
     try clear hfz24_1
     try clear hfz29_0
     try clear hfz29_1
     try clear hfz36_0
     try clear hfz36_1
     try clear hfz39_0
     try clear hfz39_1
     try clear hfz46_0
     try clear hfz46_1
     try clear hfz48_0
     try clear hfz48_1
     try clear hfz56_0
     try clear hfz56_1
     try clear hfz9_0
     try clear hfz9_1
     try clear p2
     obtain ⟨kq, x69_22, rfl, HA, HJ22, HO_134000, HO_134001, HO_142000, HO_142001, HO_152000, HO_152001, HO_160000, HO_160001, BK123, BK133, BK141, BK151, BK159, HB⟩ := hcut
     cases kq with
     | zero => exact absurd HA.out (by simp [tapewrightlaw05_TensorScales.j1])
     | succ kj22 =>
      have H := HA.out
      clear HA
      simp only [tapewrightlaw05_TensorScales.j1] at H
      by_cases c60 : x69_22 = true
      ·
       subst c60
       rw [if_pos rfl] at H
       by_cases c61 : t158 = 0
       ·
        rw [if_pos c61] at H
        have c61b0 : (t158 == 0) = true := beq_iff_eq.mpr c61
        have c61b1 : (t158 != 0) = false := bne_eq_false_iff_eq.mpr c61
        clear c61
        replace H := Option.bind_eq_some_iff.mp H
        obtain ⟨t160, A620, H⟩ := H
        have A62 := Aside0.mk A620
        clear A620
        by_cases c63 : t160 = true
        ·
         subst c63
         rw [if_pos rfl] at H
         replace H := Option.bind_eq_some_iff.mp H
         obtain ⟨t161, A640, H⟩ := H
         have A64 := Aside0.mk A640
         clear A640
         obtain rfl := Option.some.inj H
         have hnb65 := NB159_123.out
         have hnc65 := NB123_159.out
         have hnb66 := NB159_133.out
         have hnc66 := NB133_159.out
         have hnb67 := NB159_141.out
         have hnc67 := NB141_159.out
         have hnb68 := NB159_151.out
         have hnc68 := NB151_159.out
         have hcz69_0 : wc.cell? ⟨gb159, 0, none⟩ = some (.slice Ao51 t152.length co51) := (blk_cell BK159.out 0).trans rfl
         have hcz69_1 : wc.cell? ⟨gb159, 1, none⟩ = some (.slice Ao57 t155.length co57) := (blk_cell BK159.out 1).trans rfl
         have hfz69_0 := blk_frozen BK159.out 0
         have hfz69_1 := blk_frozen BK159.out 1
         have hnb70 := NB123_133.out
         have hnc70 := NB133_123.out
         have hnb71 := NB123_141.out
         have hnc71 := NB141_123.out
         have hnb72 := NB123_151.out
         have hnc72 := NB151_123.out
         have hcz73_0 := CA_ BK123
         have hcz73_1 := CB_ BK123
         have hfz73_0 := blk_frozen BK123.out 0
         have hfz73_1 := blk_frozen BK123.out 1
         go_wp2_with (first | (go_at_call 18; (with_reducible refine (tapewrightref05_Equal.calls _ _ t152 _ _ t155 _ _ l0_0 _ _ l0_1 true _ ?side1 ?side2 ?side3 ?side4 ?side5 ?side6 ?side7 ?side8 A62.out).mono ?_); (case side1 => exact C2_ HO_160000); (case side2 => exact (Kd.R_reads' HO_160000.out).2.1); (case side3 => exact C2_ HO_160001); (case side4 => exact (Kd.R_reads' HO_160001.out).2.1); (case side5 => exact C1_ (Kd.C_below HR0_0.out HB.out)); (case side6 => exact HC0_0.out); (case side7 => exact C1_ (Kd.C_below HR0_1.out HB.out)); (case side8 => exact HC0_1.out); rintro e w74 ⟨rfl, hb⟩; replace HO_134000 := RC_ HO_134000 hb; replace HO_134001 := RC_ HO_134001 hb; replace HO_142000 := RC_ HO_142000 hb; replace HO_142001 := RC_ HO_142001 hb; replace HO_152000 := RC_ HO_152000 hb; replace HO_152001 := RC_ HO_152001 hb; replace HO_160000 := RC_ HO_160000 hb; replace HO_160001 := RC_ HO_160001 hb; replace BK123 := BF_ BK123 hb; replace BK133 := BF_ BK133 hb; replace BK141 := BF_ BK141 hb; replace BK151 := BF_ BK151 hb; replace BK159 := BF_ BK159 hb; replace HB := Aside0.mk (below_step T9_ hb); (try clear hb); (try clear hb2); (try clear hk); (try clear hi)) | (go_at_call 13; (with_reducible refine (tapewrightlaw05_awake.calls  t161 _ (Err.Gs.below HGs.out T9_) A64.out).mono ?_); rintro e w75 ⟨rfl, hb⟩; replace HO_134000 := RC_ HO_134000 hb; replace HO_134001 := RC_ HO_134001 hb; replace HO_142000 := RC_ HO_142000 hb; replace HO_142001 := RC_ HO_142001 hb; replace HO_152000 := RC_ HO_152000 hb; replace HO_152001 := RC_ HO_152001 hb; replace HO_160000 := RC_ HO_160000 hb; replace HO_160001 := RC_ HO_160001 hb; replace BK123 := BF_ BK123 hb; replace BK133 := BF_ BK133 hb; replace BK141 := BF_ BK141 hb; replace BK151 := BF_ BK151 hb; replace BK159 := BF_ BK159 hb; replace HB := Aside0.mk (below_step T9_ hb); (try clear hb); (try clear hb2); (try clear hk); (try clear hi)))
         go_ret
         exact ⟨T4_, T9_⟩
        ·
         replace c63 := Bool.eq_false_iff.mpr c63
         subst c63
         rw [if_neg (show ¬ (false = true) by decide)] at H
         exact absurd ((Option.some.inj H).trans HRT.out) (by decide)
       ·
        rw [if_neg c61] at H
        have c61b0 : (t158 == 0) = false := beq_eq_false_iff_ne.mpr c61
        have c61b1 : (t158 != 0) = true := bne_iff_ne.mpr c61
        replace H := Option.bind_eq_some_iff.mp H
        obtain ⟨t162, A760, H⟩ := H
        have A76 := Aside0.mk A760
        clear A760
        obtain rfl := Option.some.inj H
        go_wp2_with (first | (go_at_call 13; (with_reducible refine (tapewrightlaw05_awake.calls  t162 _ (Err.Gs.below HGs.out T9_) A76.out).mono ?_); rintro e w77 ⟨rfl, hb⟩; replace HO_134000 := RC_ HO_134000 hb; replace HO_134001 := RC_ HO_134001 hb; replace HO_142000 := RC_ HO_142000 hb; replace HO_142001 := RC_ HO_142001 hb; replace HO_152000 := RC_ HO_152000 hb; replace HO_152001 := RC_ HO_152001 hb; replace HO_160000 := RC_ HO_160000 hb; replace HO_160001 := RC_ HO_160001 hb; replace BK123 := BF_ BK123 hb; replace BK133 := BF_ BK133 hb; replace BK141 := BF_ BK141 hb; replace BK151 := BF_ BK151 hb; replace BK159 := BF_ BK159 hb; replace HB := Aside0.mk (below_step T9_ hb); (try clear hb); (try clear hb2); (try clear hk); (try clear hi)))
        go_ret
        exact ⟨T4_, T9_⟩
      ·
       replace c60 := Bool.eq_false_iff.mpr c60
       subst c60
       rw [if_neg (show ¬ (false = true) by decide)] at H
       replace H := Option.bind_eq_some_iff.mp H
       obtain ⟨t163, A780, H⟩ := H
       have A78 := Aside0.mk A780
       clear A780
       by_cases c79 : t163 = true
       ·
        subst c79
        rw [if_pos rfl] at H
        by_cases c80 : t150 = 0
        ·
         rw [if_pos c80] at H
         have c80b0 : (t150 == 0) = true := beq_iff_eq.mpr c80
         have c80b1 : (t150 != 0) = false := bne_eq_false_iff_eq.mpr c80
         clear c80
         replace H := Option.bind_eq_some_iff.mp H
         obtain ⟨t164, A810, H⟩ := H
         have A81 := Aside0.mk A810
         clear A810
         by_cases c82 : t164 = true
         ·
          subst c82
          rw [if_pos rfl] at H
          by_cases c83 : t158 = 0
          ·
           rw [if_pos c83] at H
           have c83b0 : (t158 == 0) = true := beq_iff_eq.mpr c83
           have c83b1 : (t158 != 0) = false := bne_eq_false_iff_eq.mpr c83
           clear c83
           replace H := Option.bind_eq_some_iff.mp H
           obtain ⟨t165, A840, H⟩ := H
           have A84 := Aside0.mk A840
           clear A840
           obtain rfl := Option.some.inj H
           have hnb85 := NB141_123.out
           have hnc85 := NB123_141.out
           have hnb86 := NB141_133.out
           have hnc86 := NB133_141.out
           have hnb87 := NB141_151.out
           have hnc87 := NB151_141.out
           have hnb88 := NB141_159.out
           have hnc88 := NB159_141.out
           have hcz89_0 : wc.cell? ⟨gb141, 0, none⟩ = some (.slice Ao33 t134.length co33) := (blk_cell BK141.out 0).trans rfl
           have hcz89_1 : wc.cell? ⟨gb141, 1, none⟩ = some (.slice Ao37 t137.length co37) := (blk_cell BK141.out 1).trans rfl
           have hfz89_0 := blk_frozen BK141.out 0
           have hfz89_1 := blk_frozen BK141.out 1
           have hnb90 := NB151_123.out
           have hnc90 := NB123_151.out
           have hnb91 := NB151_133.out
           have hnc91 := NB133_151.out
           have hnb92 := NB151_159.out
           have hnc92 := NB159_151.out
           have hcz93_0 : wc.cell? ⟨gb151, 0, none⟩ = some (.slice Ao42 t144.length co42) := (blk_cell BK151.out 0).trans rfl
           have hcz93_1 : wc.cell? ⟨gb151, 1, none⟩ = some (.slice Ao47 t147.length co47) := (blk_cell BK151.out 1).trans rfl
           have hfz93_0 := blk_frozen BK151.out 0
           have hfz93_1 := blk_frozen BK151.out 1
           go_wp2_with (first | ((with_reducible refine gate_callee (f := 18) rfl ?_); refine goesL_ (some 82) rfl rfl Tryz.func18 (by kernel_rfl) rfl #[.agg #[.slice Ao33 t134.length co33, .slice Ao37 t137.length co37], .agg #[.slice Ao42 t144.length co42, .slice Ao47 t147.length co47]] rfl T2_ ?_; (with_reducible refine (tapewrightref05_Equal.calls _ _ t134 _ _ t137 _ _ t144 _ _ t147 true _ ?side1 ?side2 ?side3 ?side4 ?side5 ?side6 ?side7 ?side8 A78.out).mono ?_); (case side1 => exact C2_ HO_142000); (case side2 => exact (Kd.R_reads' HO_142000.out).2.1); (case side3 => exact C2_ HO_142001); (case side4 => exact (Kd.R_reads' HO_142001.out).2.1); (case side5 => exact C2_ HO_152000); (case side6 => exact (Kd.R_reads' HO_152000.out).2.1); (case side7 => exact C2_ HO_152001); (case side8 => exact (Kd.R_reads' HO_152001.out).2.1); rintro e w94 ⟨rfl, hb⟩; refine ⟨_, rfl, ?_⟩; replace HO_134000 := RC_ HO_134000 hb; replace HO_134001 := RC_ HO_134001 hb; replace HO_142000 := RC_ HO_142000 hb; replace HO_142001 := RC_ HO_142001 hb; replace HO_152000 := RC_ HO_152000 hb; replace HO_152001 := RC_ HO_152001 hb; replace HO_160000 := RC_ HO_160000 hb; replace HO_160001 := RC_ HO_160001 hb; replace BK123 := BF_ BK123 hb; replace BK133 := BF_ BK133 hb; replace BK141 := BF_ BK141 hb; replace BK151 := BF_ BK151 hb; replace BK159 := BF_ BK159 hb; replace HB := Aside0.mk (below_step T9_ hb); (try clear hb); (try clear hb2); (try clear hk); (try clear hi); have hnb95 := NB159_123.out; have hnc95 := NB123_159.out; have hnb96 := NB159_133.out; have hnc96 := NB133_159.out; have hcz97_0 : w94.cell? ⟨gb159, 0, none⟩ = some (.slice Ao51 t152.length co51) := (blk_cell BK159.out 0).trans rfl; have hcz97_1 : w94.cell? ⟨gb159, 1, none⟩ = some (.slice Ao57 t155.length co57) := (blk_cell BK159.out 1).trans rfl; have hfz97_0 := blk_frozen BK159.out 0; have hfz97_1 := blk_frozen BK159.out 1; have hnb98 := NB123_133.out; have hnc98 := NB133_123.out; have hcz99_0 := CA_ BK123; have hcz99_1 := CB_ BK123; have hfz99_0 := blk_frozen BK123.out 0; have hfz99_1 := blk_frozen BK123.out 1) | (go_at_call 18; (with_reducible refine (tapewrightref05_Equal.calls _ _ t152 _ _ t155 _ _ l0_0 _ _ l0_1 true _ ?side1 ?side2 ?side3 ?side4 ?side5 ?side6 ?side7 ?side8 A81.out).mono ?_); (case side1 => exact C2_ HO_160000); (case side2 => exact (Kd.R_reads' HO_160000.out).2.1); (case side3 => exact C2_ HO_160001); (case side4 => exact (Kd.R_reads' HO_160001.out).2.1); (case side5 => exact C1_ (Kd.C_below HR0_0.out HB.out)); (case side6 => exact HC0_0.out); (case side7 => exact C1_ (Kd.C_below HR0_1.out HB.out)); (case side8 => exact HC0_1.out); rintro e w100 ⟨rfl, hb⟩; replace HO_134000 := RC_ HO_134000 hb; replace HO_134001 := RC_ HO_134001 hb; replace HO_142000 := RC_ HO_142000 hb; replace HO_142001 := RC_ HO_142001 hb; replace HO_152000 := RC_ HO_152000 hb; replace HO_152001 := RC_ HO_152001 hb; replace HO_160000 := RC_ HO_160000 hb; replace HO_160001 := RC_ HO_160001 hb; replace BK123 := BF_ BK123 hb; replace BK133 := BF_ BK133 hb; replace BK141 := BF_ BK141 hb; replace BK151 := BF_ BK151 hb; replace BK159 := BF_ BK159 hb; replace HB := Aside0.mk (below_step T9_ hb); (try clear hb); (try clear hb2); (try clear hk); (try clear hi)) | (go_at_call 13; (with_reducible refine (tapewrightlaw05_awake.calls  t165 _ (Err.Gs.below HGs.out T9_) A84.out).mono ?_); rintro e w101 ⟨rfl, hb⟩; replace HO_134000 := RC_ HO_134000 hb; replace HO_134001 := RC_ HO_134001 hb; replace HO_142000 := RC_ HO_142000 hb; replace HO_142001 := RC_ HO_142001 hb; replace HO_152000 := RC_ HO_152000 hb; replace HO_152001 := RC_ HO_152001 hb; replace HO_160000 := RC_ HO_160000 hb; replace HO_160001 := RC_ HO_160001 hb; replace BK123 := BF_ BK123 hb; replace BK133 := BF_ BK133 hb; replace BK141 := BF_ BK141 hb; replace BK151 := BF_ BK151 hb; replace BK159 := BF_ BK159 hb; replace HB := Aside0.mk (below_step T9_ hb); (try clear hb); (try clear hb2); (try clear hk); (try clear hi)))
           go_ret
           exact ⟨T4_, T9_⟩
          ·
           rw [if_neg c83] at H
           have c83b0 : (t158 == 0) = false := beq_eq_false_iff_ne.mpr c83
           have c83b1 : (t158 != 0) = true := bne_iff_ne.mpr c83
           exact absurd ((Option.some.inj H).trans HRT.out) (by decide)
         ·
          replace c82 := Bool.eq_false_iff.mpr c82
          subst c82
          rw [if_neg (show ¬ (false = true) by decide)] at H
          exact absurd ((Option.some.inj H).trans HRT.out) (by decide)
        ·
         rw [if_neg c80] at H
         have c80b0 : (t150 == 0) = false := beq_eq_false_iff_ne.mpr c80
         have c80b1 : (t150 != 0) = true := bne_iff_ne.mpr c80
         exact absurd ((Option.some.inj H).trans HRT.out) (by decide)
       ·
        replace c79 := Bool.eq_false_iff.mpr c79
        subst c79
        rw [if_neg (show ¬ (false = true) by decide)] at H
        exact absurd ((Option.some.inj H).trans HRT.out) (by decide)
end Go.Proofs.YtlglpffoijdgbaaGreatDoor.PQC
