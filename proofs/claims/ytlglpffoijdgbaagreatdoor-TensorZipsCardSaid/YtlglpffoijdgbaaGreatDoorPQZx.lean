-- by wip/tool/mine.py of this repo (the kit's printer with given contracts)
import Derived.Test.YtlglpffoijdgbaaGreatDoorPQZxa
namespace Go.Proofs.YtlglpffoijdgbaaGreatDoor.PQZ
open Go.RowKit Go.ZPWords Go.ZPLast Go.ZPMore
attribute [local go_sem] max2_int min2_int max_two min_two max_three min_three max_four min_four   -- for this text's walks alone
set_option linter.unusedVariables false
set_option linter.unusedSimpArgs false
set_option maxHeartbeats 8000000
set_option maxRecDepth 100000
/-! ### tapewrightlaw05_TensorZips: function 3 -/
mutual
noncomputable def tapewrightlaw05_TensorZips.j0 : Nat → ByteArray → Bool → List Int → List ByteArray → List Int → List ByteArray → Option (Bool)
 | 0, _, _, _, _, _, _ => none
 | k + 1, x0, x16, x148000, x148001, x149000, x149001 => if x16 = true then ((tapewrightlaw05_awake.f).bind fun t151 => (some t151)) else ((tensor_Zip.f x0 x148000 x148001 x149000 x149001).bind fun bt152 => ((tensor_Right.f x148000 x148001).bind fun t160 => ((tapewrightref05_Right.f x148000 x148001).bind fun t161 => (if (t160 != t161) = true then (some false) else (if x0.toList = ([97, 100, 100] : List UInt8) then ((tapewrightref05_Right.f x148000 x148001).bind fun t162 => (if t162 = true then ((tapewrightref05_Right.f x149000 x149001).bind fun t163 => (tapewrightlaw05_TensorZips.j1 k x0 bt152.2.2 (!t163) x148000 x148001 x149000 x149001 bt152.1 bt152.2.1)) else (tapewrightlaw05_TensorZips.j1 k x0 bt152.2.2 true x148000 x148001 x149000 x149001 bt152.1 bt152.2.1))) else (if x0.toList = ([115, 117, 98] : List UInt8) then ((tapewrightref05_Right.f x148000 x148001).bind fun t164 => (if t164 = true then ((tapewrightref05_Right.f x149000 x149001).bind fun t165 => (tapewrightlaw05_TensorZips.j1 k x0 bt152.2.2 (!t165) x148000 x148001 x149000 x149001 bt152.1 bt152.2.1)) else (tapewrightlaw05_TensorZips.j1 k x0 bt152.2.2 true x148000 x148001 x149000 x149001 bt152.1 bt152.2.1))) else (if x0.toList = ([109, 117, 108] : List UInt8) then ((tapewrightref05_Right.f x148000 x148001).bind fun t166 => (if t166 = true then ((tapewrightref05_Right.f x149000 x149001).bind fun t167 => (tapewrightlaw05_TensorZips.j1 k x0 bt152.2.2 (!t167) x148000 x148001 x149000 x149001 bt152.1 bt152.2.1)) else (tapewrightlaw05_TensorZips.j1 k x0 bt152.2.2 true x148000 x148001 x149000 x149001 bt152.1 bt152.2.1))) else (tapewrightlaw05_TensorZips.j1 k x0 bt152.2.2 true x148000 x148001 x149000 x149001 bt152.1 bt152.2.1))))))))
noncomputable def tapewrightlaw05_TensorZips.j1 : Nat → ByteArray → Int → Bool → List Int → List ByteArray → List Int → List ByteArray → List Int → List ByteArray → Option (Bool)
 | 0, _, _, _, _, _, _, _, _, _ => none
 | k + 1, x0, x8, x49, x148000, x148001, x149000, x149001, x160000, x160001 => if x49 = true then (if (x160001.length : Int) = 0 then (if x8 = 1 then ((tapewrightlaw05_awake.f).bind fun t168 => (some t168)) else (some false)) else (some false)) else ((tapewrightref04_Same.f x148000 x149000).bind fun t169 => (if t169 = true then ((tapewrightref05_Zip.f k x0 x148000 x148001 x149000 x149001).bind fun bt170 => ((tapewrightref05_Equal.f x160000 x160001 bt170.1 bt170.2).bind fun t176 => (if t176 = true then (if x8 = 0 then ((tapewrightlaw05_awake.f).bind fun t177 => (some t177)) else (some false)) else (some false)))) else (if (x160001.length : Int) = 0 then (if x8 = 4 then ((tapewrightlaw05_awake.f).bind fun t178 => (some t178)) else (some false)) else (some false))))
end
noncomputable def tapewrightlaw05_TensorZips.f (k : Nat) (a0 : ByteArray) (l1_0 : List Int) (l1_1 : List ByteArray) (l2_0 : List Int) (l2_1 : List ByteArray) : Option (Bool) := (tapewrightref05_Small.f l1_0 l1_1).bind fun t149 => (if t149 = true then ((tapewrightref05_Small.f l2_0 l2_1).bind fun t150 => (tapewrightlaw05_TensorZips.j0 k a0 (!t150) l1_0 l1_1 l2_0 l2_1)) else (tapewrightlaw05_TensorZips.j0 k a0 true l1_0 l1_1 l2_0 l2_1))
def tapewrightlaw05_TensorZips.T10 : Bool × List (List Nat × List Nat) := (true, [([], []), ([], []), ([], []), ([], []), ([1, 2, 3], [1, 2, 3]), ([0, 4, 4], [0, 4]), ([5, 5], [5]), ([6], [6]), ([7, 6], [6, 7]), ([6, 8], [6, 8]), ([9, 6], [9]), ([10, 10], [10]), ([10, 11], [10, 11]), ([12, 11, 0, 1, 2, 3, 4, 5, 6, 7, 8, 9, 10, 11, 12], [12])])
def tapewrightlaw05_TensorZips.B10 : List Nat := [0, 0, 0, 0, 14, 31, 63, 127, 255, 511, 1023, 2047, 4095, 8191]
theorem tapewrightlaw05_TensorZips.tab10 : rtab .any (opsOf Tryz.f3 10) = tapewrightlaw05_TensorZips.T10 := by kernel_rfl
theorem tapewrightlaw05_TensorZips.bits10 : waitsOk tapewrightlaw05_TensorZips.T10.2 tapewrightlaw05_TensorZips.B10 = true := by kernel_rfl
theorem tapewrightlaw05_TensorZips.calls (k : Nat) (a0 : ByteArray) (A1_0 : Option Addr) (c1_0 : Nat) (l1_0 : List Int) (A1_1 : Option Addr) (c1_1 : Nat) (l1_1 : List ByteArray) (A2_0 : Option Addr) (c2_0 : Nat) (l2_0 : List Int) (A2_1 : Option Addr) (c2_1 : Nat) (l2_1 : List ByteArray) (r : Bool) (w : World) (hG : Err.Gs w) (hrt : r = true) (hr1_0 : Kd.C (Kd.int .i64) w A1_0 l1_0.length l1_0) (hc1_0 : l1_0.length ≤ c1_0) (hr1_1 : Kd.C Kd.string w A1_1 l1_1.length l1_1) (hc1_1 : l1_1.length ≤ c1_1) (hr2_0 : Kd.C (Kd.int .i64) w A2_0 l2_0.length l2_0) (hc2_0 : l2_0.length ≤ c2_0) (hr2_1 : Kd.C Kd.string w A2_1 l2_1.length l2_1) (hc2_1 : l2_1.length ≤ c2_1) (h : tapewrightlaw05_TensorZips.f k a0 l1_0 l1_1 l2_0 l2_1 = some r) :
  Calls Tryz.prog 3 #[.string a0, .agg #[.slice A1_0 l1_0.length c1_0, .slice A1_1 l1_1.length c1_1], .agg #[.slice A2_0 l2_0.length c2_0, .slice A2_1 l2_1.length c2_1]] w fun e w' => e = .returned (.bool r) ∧ Below w.heap.size w w' := by
 have hu25 := Tryz.underlying25;have HR1_0 := A_ hr1_0;have HC1_0 := A_ hc1_0;clear hr1_0 hc1_0;have HR1_1 := A_ hr1_1;have HC1_1 := A_ hc1_1;clear hr1_1 hc1_1;have HR2_0 := A_ hr2_0;have HC2_0 := A_ hc2_0;clear hr2_0 hc2_0;have HR2_1 := A_ hr2_1;have HC2_1 := A_ hc2_1;clear hr2_1 hc2_1;have HB := A_ (Below.refl w.heap.size w);have HGs := A_ hG;clear hG;have HRT := A_ hrt;clear hrt;unfold tapewrightlaw05_TensorZips.f at h;have H := h;clear h;have HC4 := A_ H;clear H;go_enter Tryz.func3, Tryz.ntmps3
 go_upto_region 1 with (first | (refine BX_ 4 #[.slice A1_0 l1_0.length c1_0, .slice A1_1 l1_1.length c1_1] 25 ?_; intro gb147 hg w5 hbox hb; have BK147 := A_ (hbox); have GW147 := GE_ hg; have GE147 := GE_ hg; replace HB := BS_ hb; clear hb hbox hg) | (refine BX_ 5 #[.slice A2_0 l2_0.length c2_0, .slice A2_1 l2_1.length c2_1] 25 ?_; intro gb148 hg w6 hbox hb; have BK148 := A_ (hbox); have GW148 := GE_ hg; have GE148 := GE_ hg; replace HB := BU_ hb; have NB147_148 := NB_ BK147 hg; have NB148_147 := NC_ BK147 hg; replace BK147 := BF_ BK147 hb; clear hb hbox hg))
 (try simp only [Act.put, List.setIfInBounds_toArray, List.set_cons_zero, List.set_cons_succ])
 go_cut [16] (fun v16 wc => ∃ (kq : Nat) (x16_3 : Bool), v16 = .bool x16_3 ∧ Aside0 (tapewrightlaw05_TensorZips.j0 kq a0 x16_3 l1_0 l1_1 l2_0 l2_1 = some r) ∧ Aside0 (kq ≤ k) ∧ Aside0 (wc.heap[gb147]? = some (.cells #[(.slice A1_0 l1_0.length c1_0), (.slice A1_1 l1_1.length c1_1)] 25 (0, 0))) ∧ Aside0 (wc.heap[gb148]? = some (.cells #[(.slice A2_0 l2_0.length c2_0), (.slice A2_1 l2_1.length c2_1)] 25 (0, 0))) ∧ Aside0 (Below w.heap.size w wc))
 case first =>
  have H := HC4.out;clear HC4;replace H := BE_ H;obtain ⟨t149, A70, H⟩ := H;have A7 := A_ A70;clear A70
  by_cases c8 : t149 = true
  ·
   subst c8;rw [if_pos rfl] at H;replace H := BE_ H;obtain ⟨t150, A90, H⟩ := H;have A9 := A_ A90;clear A90;have H' := A_ H;clear H;have hnb10 := NB147_148.out;have hnc10 := NB148_147.out;have hcz11_0 := CA_ BK147;have hcz11_1 := CB_ BK147;have hfz11_0 := blk_frozen BK147.out 0;have hfz11_1 := blk_frozen BK147.out 1
   go_wp2_with (first | (refine GL_ 12 10 Tryz.func12 #[.agg #[.slice A1_0 l1_0.length c1_0, .slice A1_1 l1_1.length c1_1]] ?_; (with_reducible refine (tapewrightref05_Small.calls _ _ l1_0 _ _ l1_1 true _ (CW_ HR1_0) HC1_0.out (CW_ HR1_1) HC1_1.out A7.out).mono ?_); rintro e w12 ⟨rfl, hb⟩; refine ⟨_, rfl, ?_⟩; replace BK147 := BF_ BK147 hb; replace BK148 := BF_ BK148 hb; replace HB := BU_ hb; clear hb; have hcz13_0 := CA_ BK148; have hcz13_1 := CB_ BK148; have hfz13_0 := blk_frozen BK148.out 0; have hfz13_1 := blk_frozen BK148.out 1) | (go_at_call 12; (with_reducible refine (tapewrightref05_Small.calls _ _ l2_0 _ _ l2_1 t150 _ (CW_ HR2_0) HC2_0.out (CW_ HR2_1) HC2_1.out A9.out).mono ?_); rintro e w14 ⟨rfl, hb⟩; replace BK147 := BF_ BK147 hb; replace BK148 := BF_ BK148 hb; replace HB := BU_ hb; clear hb))
   go_meet
   case rel => exact ⟨_, (!t150), S1_, H', ⟨by first | omega | exact Nat.le_refl _⟩, BW_ BK147, BW_ BK148, ⟨T9_⟩⟩
  ·
   replace c8 := Bool.eq_false_iff.mpr c8;subst c8;rw [if_neg (show ¬ (false = true) by decide)] at H;have H' := A_ H;clear H;have hnb15 := NB147_148.out;have hnc15 := NB148_147.out;have hcz16_0 := CA_ BK147;have hcz16_1 := CB_ BK147;have hfz16_0 := blk_frozen BK147.out 0;have hfz16_1 := blk_frozen BK147.out 1
   go_wp2_with (first | (refine GL_ 12 10 Tryz.func12 #[.agg #[.slice A1_0 l1_0.length c1_0, .slice A1_1 l1_1.length c1_1]] ?_; (with_reducible refine (tapewrightref05_Small.calls _ _ l1_0 _ _ l1_1 false _ (CW_ HR1_0) HC1_0.out (CW_ HR1_1) HC1_1.out A7.out).mono ?_); rintro e w17 ⟨rfl, hb⟩; refine ⟨_, rfl, ?_⟩; replace BK147 := BF_ BK147 hb; replace BK148 := BF_ BK148 hb; replace HB := BU_ hb; clear hb))
   go_meet
   case rel => exact ⟨_, (true), S1_, H', ⟨by first | omega | exact Nat.le_refl _⟩, BW_ BK147, BW_ BK148, ⟨T9_⟩⟩
 case rest =>
  clear HC4
  try clear c1
  try clear c2
  try clear p2
  try clear c3
  try clear c8
  try clear c10
  try clear c12
  try clear c15
  try clear hcz11_0
  try clear hcz11_1
  try clear hcz13_0
  try clear hcz13_1
  try clear hcz16_0
  try clear hcz16_1
  try clear hfz11_0
  try clear hfz11_1
  try clear hfz13_0
  try clear hfz13_1
  try clear hfz16_0
  try clear hfz16_1
  obtain ⟨kq, x16_3, rfl, HA, HJ3, BK147, BK148, HB⟩ := hcut
  cases kq with
  | zero => exact absurd HA.out (by simp [tapewrightlaw05_TensorZips.j0])
  | succ kj3 =>
   have H := HA.out;clear HA;simp only [tapewrightlaw05_TensorZips.j0] at H
   by_cases c18 : x16_3 = true
   ·
    subst c18;rw [if_pos rfl] at H;replace H := BE_ H;obtain ⟨t151, A190, H⟩ := H;have A19 := A_ A190;clear A190;obtain rfl := Option.some.inj H
    go_wp2_with (first | (refine GL_ 13 17 Tryz.func13 #[] ?_; (with_reducible refine (tapewrightlaw05_awake.calls  t151 _ (Err.Gs.below HGs.out T9_) A19.out).mono ?_); rintro e w20 ⟨rfl, hb⟩; refine ⟨_, rfl, ?_⟩; replace BK147 := BF_ BK147 hb; replace BK148 := BF_ BK148 hb; replace HB := BU_ hb; clear hb))
    go_ret
    exact ⟨T4_, T9_⟩
   ·
    replace c18 := Bool.eq_false_iff.mpr c18;subst c18;rw [if_neg (show ¬ (false = true) by decide)] at H;replace H := BE_ H;obtain ⟨⟨t152, t155, t158⟩, A210, H⟩ := H;have A21 := A_ A210;clear A210;replace H := BE_ H;obtain ⟨t160, A220, H⟩ := H;have A22 := A_ A220;clear A220;replace H := BE_ H;obtain ⟨t161, A230, H⟩ := H;have A23 := A_ A230;clear A230
    by_cases c24 : (t160 != t161) = true
    ·
     rw [if_pos c24] at H;have c24b0 : (t160 != t161) = true := c24
     (try (have c24b1 : decide (t160 = t161) = false := by simpa using c24))
     (try (have c24b2 : (t160 == t161) = false := by simpa using c24))
     (try (have c24b3 : ¬ (t160 = t161) := by simpa using c24))
     clear c24;exact absurd ((Option.some.inj H).trans HRT.out) (by decide)
    ·
     rw [if_neg c24] at H
     have c24b0 : (t160 != t161) = false := by simpa using c24
     (try (have c24b1 : decide (t160 = t161) = true := by simpa using c24))
     (try (have c24b2 : (t160 == t161) = true := by simpa using c24))
     clear c24;have HC25 := A_ H;clear H;have hnb26 := NB147_148.out;have hnc26 := NB148_147.out;have hcz27_0 := CA_ BK147;have hcz27_1 := CB_ BK147;have hfz27_0 := blk_frozen BK147.out 0;have hfz27_1 := blk_frozen BK147.out 1;have hcz28_0 : wc.cell? ⟨gb148, 0, none⟩ = some (.slice A2_0 l2_0.length c2_0) := (blk_cell BK148.out 0).trans rfl;have hcz28_1 : wc.cell? ⟨gb148, 1, none⟩ = some (.slice A2_1 l2_1.length c2_1) := (blk_cell BK148.out 1).trans rfl;have hfz28_0 := blk_frozen BK148.out 0;have hfz28_1 := blk_frozen BK148.out 1
     try go_wp2_with (first | (refine GL_ 14 22 Tryz.func14 #[.string a0, .agg #[.slice A1_0 l1_0.length c1_0, .slice A1_1 l1_1.length c1_1], .agg #[.slice A2_0 l2_0.length c2_0, .slice A2_1 l2_1.length c2_1]] ?_; (with_reducible refine (tensor_Zip.calls a0 _ _ l1_0 _ _ l1_1 _ _ l2_0 _ _ l2_1 t152 t155 t158 _ (Err.Gs.below HGs.out T9_) (CW_ HR1_0) HC1_0.out (CW_ HR1_1) HC1_1.out (CW_ HR2_0) HC2_0.out (CW_ HR2_1) HC2_1.out A21.out).mono ?_); rintro e w29 ⟨v153, v156, rfl, ho0, ho1, hb⟩; refine ⟨_, rfl, ?_⟩; have HO154 := A_ (Kd.R_lower ho0 (below_size T9_)); have HO157 := A_ (Kd.R_lower ho1 (below_size T9_)); replace BK147 := BF_ BK147 hb; replace BK148 := BF_ BK148 hb; replace HB := BU_ hb; clear hb ho0 ho1) | (refine BX_ 7 #[.slice none 0 0, .slice none 0 0] 25 ?_; intro gb159 hg w30 hbox hb; replace HO154 := RC_ HO154 hb; replace HO157 := RC_ HO157 hb; have BK159 := A_ (hbox); have GW159 := GE_ hg; have GE159 := GE_ hg; replace HB := BU_ hb; have NB147_159 := NB_ BK147 hg; have NB159_147 := NC_ BK147 hg; replace BK147 := BF_ BK147 hb; have NB148_159 := NB_ BK148 hg; have NB159_148 := NC_ BK148 hg; replace BK148 := BF_ BK148 hb; clear hb hbox hg; obtain ⟨Ao31, co31, eo31⟩ := Kd.R_slice HO154.out; subst eo31; have hnb32 := NB159_147.out; have hnc32 := NB147_159.out; have hnb33 := NB159_148.out; have hnc33 := NB148_159.out; have hcz34_0 := CA_ BK159; have hcz34_1 := CB_ BK159; have hfz34_0 := blk_frozen BK159.out 0; have hfz34_1 := blk_frozen BK159.out 1; obtain ⟨Ao35, co35, eo35⟩ := Kd.R_slice HO157.out; subst eo35))
     have n0_ : Aside0 (Kd.R (Kd.int .i64) 3 ((w30.setCell ⟨gb159, 0, none⟩ (.slice Ao31 t152.length co31)).setCell ⟨gb159, 1, none⟩ (.slice Ao35 t155.length co35)) w.heap.size (fun _ => True) (.slice Ao31 t152.length co31) t152) := RW_ HO154;have n1_ : Aside0 (Kd.R Kd.string 9 ((w30.setCell ⟨gb159, 0, none⟩ (.slice Ao31 t152.length co31)).setCell ⟨gb159, 1, none⟩ (.slice Ao35 t155.length co35)) w.heap.size (fun _ => True) (.slice Ao35 t155.length co35) t155) := RW_ HO157;have n2_ : Aside0 (((w30.setCell ⟨gb159, 0, none⟩ (.slice Ao31 t152.length co31)).setCell ⟨gb159, 1, none⟩ (.slice Ao35 t155.length co35)).heap[gb147]? = some (.cells #[.slice A1_0 l1_0.length c1_0, .slice A1_1 l1_1.length c1_1] 25 (0, 0))) := BW_ BK147;have n3_ : Aside0 (((w30.setCell ⟨gb159, 0, none⟩ (.slice Ao31 t152.length co31)).setCell ⟨gb159, 1, none⟩ (.slice Ao35 t155.length co35)).heap[gb148]? = some (.cells #[.slice A2_0 l2_0.length c2_0, .slice A2_1 l2_1.length c2_1] 25 (0, 0))) := BW_ BK148;have n4_ : Aside0 (((w30.setCell ⟨gb159, 0, none⟩ (.slice Ao31 t152.length co31)).setCell ⟨gb159, 1, none⟩ (.slice Ao35 t155.length co35)).heap[gb159]? = some (.cells #[.slice Ao31 t152.length co31, .slice Ao35 t155.length co35] 25 (0, 0))) := ⟨by (with_reducible repeat (first | refine blk_drewN ?_ _ | refine blk_drew ?_ | refine blk_alloc ?_ _)); refine blk_put (cs := #[.slice Ao31 t152.length co31, .slice none 0 0]) ?_ 1 _ rfl; (with_reducible repeat (first | refine blk_drewN ?_ _ | refine blk_drew ?_ | refine blk_alloc ?_ _)); refine blk_put (cs := #[.slice none 0 0, .slice none 0 0]) ?_ 0 _ rfl; (with_reducible repeat (first | refine blk_drewN ?_ _ | refine blk_drew ?_ | refine blk_alloc ?_ _)); exact BK159.out⟩;have n5_ : Aside0 (Below w.heap.size w ((w30.setCell ⟨gb159, 0, none⟩ (.slice Ao31 t152.length co31)).setCell ⟨gb159, 1, none⟩ (.slice Ao35 t155.length co35))) := ⟨T9_⟩
     (try clear HO154)
     (try clear HO157)
     (try clear BK147)
     (try clear BK148)
     (try clear BK159)
     (try clear HB)
     generalize ((w30.setCell ⟨gb159, 0, none⟩ (.slice Ao31 t152.length co31)).setCell ⟨gb159, 1, none⟩ (.slice Ao35 t155.length co35)) = w36 at n0_ n1_ n2_ n3_ n4_ n5_ ⊢;have HO154 := n0_;have HO157 := n1_;have BK147 := n2_;have BK148 := n3_;have BK159 := n4_;have HB := n5_;clear n0_ n1_ n2_ n3_ n4_ n5_;have n0_ := A_ (Kd.R_drew HO154.out);have n1_ := A_ (Kd.R_drew HO157.out);have n2_ := A_ (blk_drew BK147.out);have n3_ := A_ (blk_drew BK148.out);have n4_ := A_ (blk_drew BK159.out);have n5_ := A_ (below_drew1 HB.out);clear HO154;clear HO157;clear BK147;clear BK148;clear BK159;clear HB;have HO154 := n0_;have HO157 := n1_;have BK147 := n2_;have BK148 := n3_;have BK159 := n4_;have HB := n5_;clear n0_ n1_ n2_ n3_ n4_ n5_;refine start_ (n := 5) (S := fun w' => w'.cell? ⟨gb147, 0, none⟩ = some (.slice A1_0 l1_0.length c1_0) ∧ w'.cell? ⟨gb147, 1, none⟩ = some (.slice A1_1 l1_1.length c1_1)) (ds := []) #[false, false, false, false, false] (by kernel_rfl) rfl rfl ⟨(blk_cell BK147.out 0).trans rfl, (blk_cell BK147.out 1).trans rfl⟩ (fun hHeld => ?_);generalize w36.drew = w37 at HO154 HO157 BK147 BK148 BK159 HB hHeld ⊢;refine take_ (i := 0) (N := some 25) (v := ?_) (a' := ?_) #[true, false, false, false, false] rfl rfl (by kernel_rfl) (fun _ _ _ h => h) (Or.inl ⟨by rfl, ?_⟩) hHeld ?_ ?_;rotate_left
     ·
      rintro w' ⟨s0, s1⟩;go_simp;with_reducible rfl
     rotate_left
     ·
      simp only [Act.put, List.setIfInBounds_toArray, List.set_cons_zero, List.set_cons_succ, i64_w, i32_w];rfl
     refine take_ (i := 2) (N := some 27) (v := ?_) (a' := ?_) #[true, false, true, false, false] rfl rfl (by kernel_rfl) (fun _ _ _ h => h) (Or.inl ⟨by rfl, ?_⟩) hHeld ?_ ?_;rotate_left
     ·
      rintro w' ⟨s0, s1⟩;go_simp;with_reducible rfl
     rotate_left
     ·
      simp only [Act.put, List.setIfInBounds_toArray, List.set_cons_zero, List.set_cons_succ, i64_w, i32_w];rfl
     refine one_ (i := 1) (N := some 26) #[true, true, true, false, false] rfl rfl (by kernel_rfl) (by decide) (fun K hK => ?_);refine goes_ Tryz.func15 (by kernel_rfl) rfl #[.agg #[.slice A1_0 l1_0.length c1_0, .slice A1_1 l1_1.length c1_1]] (by rfl) rfl rfl T2_ ?_
     with_reducible refine (tensor_Right.calls _ _ l1_0 _ _ l1_1 t160 _ (Err.Gs.below HGs.out T9_) ?side1 ?side2 ?side3 ?side4 A22.out).mono ?_
     (case side1 => exact CW_ HR1_0)
     (case side2 => exact HC1_0.out)
     (case side3 => exact CW_ HR1_1)
     (case side4 => exact HC1_1.out)
     rintro e w38 ⟨rfl, hb⟩;refine ⟨_, rfl, ?_⟩;have n0_ := A_ (Kd.R_below (K1_ HO154) hb);have n1_ := A_ (Kd.R_below (K1_ HO157) hb);have n2_ := A_ (blk_below (g := gb147) (o := .cells #[.slice A1_0 l1_0.length c1_0, .slice A1_1 l1_1.length c1_1] 25 (0, 0)) (B1_ BK147.out) hb);have n3_ := A_ (blk_below (g := gb148) (o := .cells #[.slice A2_0 l2_0.length c2_0, .slice A2_1 l2_1.length c2_1] 25 (0, 0)) (B1_ BK148.out) hb);have n4_ := A_ (blk_below (g := gb159) (o := .cells #[.slice Ao31 t152.length co31, .slice Ao35 t155.length co35] 25 (0, 0)) (B1_ BK159.out) hb);have n5_ := BU_ hb;clear HO154;clear HO157;clear BK147;clear BK148;clear BK159;clear HB;have HO154 := n0_;have HO157 := n1_;have BK147 := n2_;have BK148 := n3_;have BK159 := n4_;have HB := n5_;clear n0_ n1_ n2_ n3_ n4_ n5_
     (try clear hb)
     (try clear hb2)
     (try clear hk)
     (try clear hi)
     refine hK.out _ _ ⟨(blk_cell BK147.out 0).trans rfl, (blk_cell BK147.out 1).trans rfl⟩ (fun hHeld => ?_);clear hK K;refine norm_ (a' := ?_) ?_ ?_;rotate_left
     ·
      show Act.put _ (some 26) _ = _
      simp only [Act.put, List.setIfInBounds_toArray, List.set_cons_zero, List.set_cons_succ, i64_w, i32_w];rfl
     refine one_ (i := 3) (N := some 28) #[true, true, true, true, false] rfl rfl (by kernel_rfl) (by decide) (fun K hK => ?_);refine goes_ Tryz.func16 (by kernel_rfl) rfl #[.agg #[.slice A1_0 l1_0.length c1_0, .slice A1_1 l1_1.length c1_1]] (by rfl) rfl rfl T2_ ?_
     with_reducible refine (tapewrightref05_Right.calls _ _ l1_0 _ _ l1_1 t161 _ ?side1 ?side2 ?side3 ?side4 A23.out).mono ?_
     (case side1 => exact CW_ HR1_0)
     (case side2 => exact HC1_0.out)
     (case side3 => exact CW_ HR1_1)
     (case side4 => exact HC1_1.out)
     rintro e w39 ⟨rfl, hb⟩;refine ⟨_, rfl, ?_⟩;have n0_ := A_ (Kd.R_below (K1_ HO154) hb);have n1_ := A_ (Kd.R_below (K1_ HO157) hb);have n2_ := A_ (blk_below (g := gb147) (o := .cells #[.slice A1_0 l1_0.length c1_0, .slice A1_1 l1_1.length c1_1] 25 (0, 0)) (B1_ BK147.out) hb);have n3_ := A_ (blk_below (g := gb148) (o := .cells #[.slice A2_0 l2_0.length c2_0, .slice A2_1 l2_1.length c2_1] 25 (0, 0)) (B1_ BK148.out) hb);have n4_ := A_ (blk_below (g := gb159) (o := .cells #[.slice Ao31 t152.length co31, .slice Ao35 t155.length co35] 25 (0, 0)) (B1_ BK159.out) hb);have n5_ := BU_ hb;clear HO154;clear HO157;clear BK147;clear BK148;clear BK159;clear HB;have HO154 := n0_;have HO157 := n1_;have BK147 := n2_;have BK148 := n3_;have BK159 := n4_;have HB := n5_;clear n0_ n1_ n2_ n3_ n4_ n5_
     (try clear hb)
     (try clear hb2)
     (try clear hk)
     (try clear hi)
     refine hK.out _ _ ⟨(blk_cell BK147.out 0).trans rfl, (blk_cell BK147.out 1).trans rfl⟩ (fun hHeld => ?_);clear hK K;refine norm_ (a' := ?_) ?_ ?_;rotate_left
     ·
      show Act.put _ (some 28) _ = _
      simp only [Act.put, List.setIfInBounds_toArray, List.set_cons_zero, List.set_cons_succ, i64_w, i32_w];rfl
     refine pure_ (i := 4) (N := some 29) (v := ?_) (a' := ?_) #[true, true, true, true, true] rfl rfl (by kernel_rfl) (fun _ _ _ h => h) (Or.inl ⟨by rfl, ?_⟩) ?_ ?_;rotate_left
     ·
      intro w';go_simp;with_reducible rfl
     rotate_left
     ·
      simp only [Act.put, List.setIfInBounds_toArray, List.set_cons_zero, List.set_cons_succ, i64_w, i32_w];rfl
     refine done_ (by kernel_rfl) ?_
     go_upto_region 6 with (fail)
     go_cut [49] (fun v49 wc => ∃ (kq : Nat) (x49_24 : Bool), v49 = .bool x49_24 ∧ Aside0 (tapewrightlaw05_TensorZips.j1 kq a0 t158 x49_24 l1_0 l1_1 l2_0 l2_1 t152 t155 = some r) ∧ Aside0 (kq ≤ kj3) ∧ Aside0 (Kd.R (Kd.int .i64) 3 wc w.heap.size (fun _ => True) (.slice Ao31 t152.length co31) t152) ∧ Aside0 (Kd.R Kd.string 9 wc w.heap.size (fun _ => True) (.slice Ao35 t155.length co35) t155) ∧ Aside0 (wc.heap[gb147]? = some (.cells #[(.slice A1_0 l1_0.length c1_0), (.slice A1_1 l1_1.length c1_1)] 25 (0, 0))) ∧ Aside0 (wc.heap[gb148]? = some (.cells #[(.slice A2_0 l2_0.length c2_0), (.slice A2_1 l2_1.length c2_1)] 25 (0, 0))) ∧ Aside0 (wc.heap[gb159]? = some (.cells #[(.slice Ao31 t152.length co31), (.slice Ao35 t155.length co35)] 25 (0, 0))) ∧ Aside0 (Below w.heap.size w wc))
     case first =>
      have H := HC25.out;clear HC25
      by_cases c40 : a0.toList = ([97, 100, 100] : List UInt8)
      ·
       rw [if_pos c40] at H;have c40b0 : (a0.toList == ([97, 100, 100] : List UInt8)) = true := beq_iff_eq.mpr c40;have c40b1 : (a0.toList != ([97, 100, 100] : List UInt8)) = false := bne_eq_false_iff_eq.mpr c40;clear c40
       (first | rw [c40b0] | (simp only [i64_w, i32_w]; rw [c40b0]) | skip)
       replace H := BE_ H;obtain ⟨t162, A410, H⟩ := H;have A41 := A_ A410;clear A410
       by_cases c42 : t162 = true
       ·
        subst c42;rw [if_pos rfl] at H;replace H := BE_ H;obtain ⟨t163, A430, H⟩ := H;have A43 := A_ A430;clear A430;have H' := A_ H;clear H;have hnb44 := NB147_148.out;have hnc44 := NB148_147.out;have hnb45 := NB147_159.out;have hnc45 := NB159_147.out;have hcz46_0 := CA_ BK147;have hcz46_1 := CB_ BK147;have hfz46_0 := blk_frozen BK147.out 0;have hfz46_1 := blk_frozen BK147.out 1
        go_wp2_with (first | (go_at_call 16; (with_reducible refine (tapewrightref05_Right.calls _ _ l1_0 _ _ l1_1 true _ (CW_ HR1_0) HC1_0.out (CW_ HR1_1) HC1_1.out A41.out).mono ?_); rintro e w47 ⟨rfl, hb⟩; replace HO154 := RC_ HO154 hb; replace HO157 := RC_ HO157 hb; replace BK147 := BF_ BK147 hb; replace BK148 := BF_ BK148 hb; replace BK159 := BF_ BK159 hb; replace HB := BU_ hb; clear hb; have hnb48 := NB148_159.out; have hnc48 := NB159_148.out; have hcz49_0 := CA_ BK148; have hcz49_1 := CB_ BK148; have hfz49_0 := blk_frozen BK148.out 0; have hfz49_1 := blk_frozen BK148.out 1) | (go_at_call 16; (with_reducible refine (tapewrightref05_Right.calls _ _ l2_0 _ _ l2_1 t163 _ (CW_ HR2_0) HC2_0.out (CW_ HR2_1) HC2_1.out A43.out).mono ?_); rintro e w50 ⟨rfl, hb⟩; replace HO154 := RC_ HO154 hb; replace HO157 := RC_ HO157 hb; replace BK147 := BF_ BK147 hb; replace BK148 := BF_ BK148 hb; replace BK159 := BF_ BK159 hb; replace HB := BU_ hb; clear hb))
        go_meet
        case rel => exact ⟨_, (!t163), S1_, H', ⟨by have := HJ3.out; first | omega | exact Nat.le_refl _⟩, ⟨by (with_reducible repeat (first | apply Kd.R_alloc | apply Kd.R_drewN | apply Kd.R_drew)); exact HO154.out⟩, ⟨by (with_reducible repeat (first | apply Kd.R_alloc | apply Kd.R_drewN | apply Kd.R_drew)); exact HO157.out⟩, BW_ BK147, BW_ BK148, BW_ BK159, ⟨T9_⟩⟩
       ·
        replace c42 := Bool.eq_false_iff.mpr c42;subst c42;rw [if_neg (show ¬ (false = true) by decide)] at H;have H' := A_ H;clear H;have hnb51 := NB147_148.out;have hnc51 := NB148_147.out;have hnb52 := NB147_159.out;have hnc52 := NB159_147.out;have hcz53_0 := CA_ BK147;have hcz53_1 := CB_ BK147;have hfz53_0 := blk_frozen BK147.out 0;have hfz53_1 := blk_frozen BK147.out 1
        go_wp2_with (first | (go_at_call 16; (with_reducible refine (tapewrightref05_Right.calls _ _ l1_0 _ _ l1_1 false _ (CW_ HR1_0) HC1_0.out (CW_ HR1_1) HC1_1.out A41.out).mono ?_); rintro e w54 ⟨rfl, hb⟩; replace HO154 := RC_ HO154 hb; replace HO157 := RC_ HO157 hb; replace BK147 := BF_ BK147 hb; replace BK148 := BF_ BK148 hb; replace BK159 := BF_ BK159 hb; replace HB := BU_ hb; clear hb))
        go_meet
        case rel => exact ⟨_, (true), S1_, H', ⟨by have := HJ3.out; first | omega | exact Nat.le_refl _⟩, ⟨by (with_reducible repeat (first | apply Kd.R_alloc | apply Kd.R_drewN | apply Kd.R_drew)); exact HO154.out⟩, ⟨by (with_reducible repeat (first | apply Kd.R_alloc | apply Kd.R_drewN | apply Kd.R_drew)); exact HO157.out⟩, BW_ BK147, BW_ BK148, BW_ BK159, ⟨T9_⟩⟩
      ·
       rw [if_neg c40] at H;have c40b0 : (a0.toList == ([97, 100, 100] : List UInt8)) = false := beq_eq_false_iff_ne.mpr c40;have c40b1 : (a0.toList != ([97, 100, 100] : List UInt8)) = true := bne_iff_ne.mpr c40
       (first | rw [c40b0] | (simp only [i64_w, i32_w]; rw [c40b0]) | skip)
       by_cases c55 : a0.toList = ([115, 117, 98] : List UInt8)
       ·
        rw [if_pos c55] at H;have c55b0 : (a0.toList == ([115, 117, 98] : List UInt8)) = true := beq_iff_eq.mpr c55;have c55b1 : (a0.toList != ([115, 117, 98] : List UInt8)) = false := bne_eq_false_iff_eq.mpr c55;clear c55;replace H := BE_ H;obtain ⟨t164, A560, H⟩ := H;have A56 := A_ A560;clear A560
        by_cases c57 : t164 = true
        ·
         subst c57;rw [if_pos rfl] at H;replace H := BE_ H;obtain ⟨t165, A580, H⟩ := H;have A58 := A_ A580;clear A580;have H' := A_ H;clear H;have hnb59 := NB147_148.out;have hnc59 := NB148_147.out;have hnb60 := NB147_159.out;have hnc60 := NB159_147.out;have hcz61_0 := CA_ BK147;have hcz61_1 := CB_ BK147;have hfz61_0 := blk_frozen BK147.out 0;have hfz61_1 := blk_frozen BK147.out 1
         go_wp2_with (first | (go_at_call 16; (with_reducible refine (tapewrightref05_Right.calls _ _ l1_0 _ _ l1_1 true _ (CW_ HR1_0) HC1_0.out (CW_ HR1_1) HC1_1.out A56.out).mono ?_); rintro e w62 ⟨rfl, hb⟩; replace HO154 := RC_ HO154 hb; replace HO157 := RC_ HO157 hb; replace BK147 := BF_ BK147 hb; replace BK148 := BF_ BK148 hb; replace BK159 := BF_ BK159 hb; replace HB := BU_ hb; clear hb; have hnb63 := NB148_159.out; have hnc63 := NB159_148.out; have hcz64_0 := CA_ BK148; have hcz64_1 := CB_ BK148; have hfz64_0 := blk_frozen BK148.out 0; have hfz64_1 := blk_frozen BK148.out 1) | (go_at_call 16; (with_reducible refine (tapewrightref05_Right.calls _ _ l2_0 _ _ l2_1 t165 _ (CW_ HR2_0) HC2_0.out (CW_ HR2_1) HC2_1.out A58.out).mono ?_); rintro e w65 ⟨rfl, hb⟩; replace HO154 := RC_ HO154 hb; replace HO157 := RC_ HO157 hb; replace BK147 := BF_ BK147 hb; replace BK148 := BF_ BK148 hb; replace BK159 := BF_ BK159 hb; replace HB := BU_ hb; clear hb))
         go_meet
         case rel => exact ⟨_, (!t165), S1_, H', ⟨by have := HJ3.out; first | omega | exact Nat.le_refl _⟩, ⟨by (with_reducible repeat (first | apply Kd.R_alloc | apply Kd.R_drewN | apply Kd.R_drew)); exact HO154.out⟩, ⟨by (with_reducible repeat (first | apply Kd.R_alloc | apply Kd.R_drewN | apply Kd.R_drew)); exact HO157.out⟩, BW_ BK147, BW_ BK148, BW_ BK159, ⟨T9_⟩⟩
        ·
         replace c57 := Bool.eq_false_iff.mpr c57;subst c57;rw [if_neg (show ¬ (false = true) by decide)] at H;have H' := A_ H;clear H;have hnb66 := NB147_148.out;have hnc66 := NB148_147.out;have hnb67 := NB147_159.out;have hnc67 := NB159_147.out;have hcz68_0 := CA_ BK147;have hcz68_1 := CB_ BK147;have hfz68_0 := blk_frozen BK147.out 0;have hfz68_1 := blk_frozen BK147.out 1
         go_wp2_with (first | (go_at_call 16; (with_reducible refine (tapewrightref05_Right.calls _ _ l1_0 _ _ l1_1 false _ (CW_ HR1_0) HC1_0.out (CW_ HR1_1) HC1_1.out A56.out).mono ?_); rintro e w69 ⟨rfl, hb⟩; replace HO154 := RC_ HO154 hb; replace HO157 := RC_ HO157 hb; replace BK147 := BF_ BK147 hb; replace BK148 := BF_ BK148 hb; replace BK159 := BF_ BK159 hb; replace HB := BU_ hb; clear hb))
         go_meet
         case rel => exact ⟨_, (true), S1_, H', ⟨by have := HJ3.out; first | omega | exact Nat.le_refl _⟩, ⟨by (with_reducible repeat (first | apply Kd.R_alloc | apply Kd.R_drewN | apply Kd.R_drew)); exact HO154.out⟩, ⟨by (with_reducible repeat (first | apply Kd.R_alloc | apply Kd.R_drewN | apply Kd.R_drew)); exact HO157.out⟩, BW_ BK147, BW_ BK148, BW_ BK159, ⟨T9_⟩⟩
       ·
        rw [if_neg c55] at H;have c55b0 : (a0.toList == ([115, 117, 98] : List UInt8)) = false := beq_eq_false_iff_ne.mpr c55;have c55b1 : (a0.toList != ([115, 117, 98] : List UInt8)) = true := bne_iff_ne.mpr c55
        by_cases c70 : a0.toList = ([109, 117, 108] : List UInt8)
        ·
         rw [if_pos c70] at H;have c70b0 : (a0.toList == ([109, 117, 108] : List UInt8)) = true := beq_iff_eq.mpr c70;have c70b1 : (a0.toList != ([109, 117, 108] : List UInt8)) = false := bne_eq_false_iff_eq.mpr c70;clear c70;replace H := BE_ H;obtain ⟨t166, A710, H⟩ := H;have A71 := A_ A710;clear A710
         by_cases c72 : t166 = true
         ·
          subst c72;rw [if_pos rfl] at H;replace H := BE_ H;obtain ⟨t167, A730, H⟩ := H;have A73 := A_ A730;clear A730;have H' := A_ H;clear H;have hnb74 := NB147_148.out;have hnc74 := NB148_147.out;have hnb75 := NB147_159.out;have hnc75 := NB159_147.out;have hcz76_0 := CA_ BK147;have hcz76_1 := CB_ BK147;have hfz76_0 := blk_frozen BK147.out 0;have hfz76_1 := blk_frozen BK147.out 1
          go_wp2_with (first | (go_at_call 16; (with_reducible refine (tapewrightref05_Right.calls _ _ l1_0 _ _ l1_1 true _ (CW_ HR1_0) HC1_0.out (CW_ HR1_1) HC1_1.out A71.out).mono ?_); rintro e w77 ⟨rfl, hb⟩; replace HO154 := RC_ HO154 hb; replace HO157 := RC_ HO157 hb; replace BK147 := BF_ BK147 hb; replace BK148 := BF_ BK148 hb; replace BK159 := BF_ BK159 hb; replace HB := BU_ hb; clear hb; have hnb78 := NB148_159.out; have hnc78 := NB159_148.out; have hcz79_0 := CA_ BK148; have hcz79_1 := CB_ BK148; have hfz79_0 := blk_frozen BK148.out 0; have hfz79_1 := blk_frozen BK148.out 1) | (go_at_call 16; (with_reducible refine (tapewrightref05_Right.calls _ _ l2_0 _ _ l2_1 t167 _ (CW_ HR2_0) HC2_0.out (CW_ HR2_1) HC2_1.out A73.out).mono ?_); rintro e w80 ⟨rfl, hb⟩; replace HO154 := RC_ HO154 hb; replace HO157 := RC_ HO157 hb; replace BK147 := BF_ BK147 hb; replace BK148 := BF_ BK148 hb; replace BK159 := BF_ BK159 hb; replace HB := BU_ hb; clear hb))
          go_meet
          case rel => exact ⟨_, (!t167), S1_, H', ⟨by have := HJ3.out; first | omega | exact Nat.le_refl _⟩, ⟨by (with_reducible repeat (first | apply Kd.R_alloc | apply Kd.R_drewN | apply Kd.R_drew)); exact HO154.out⟩, ⟨by (with_reducible repeat (first | apply Kd.R_alloc | apply Kd.R_drewN | apply Kd.R_drew)); exact HO157.out⟩, BW_ BK147, BW_ BK148, BW_ BK159, ⟨T9_⟩⟩
         ·
          replace c72 := Bool.eq_false_iff.mpr c72;subst c72;rw [if_neg (show ¬ (false = true) by decide)] at H;have H' := A_ H;clear H;have hnb81 := NB147_148.out;have hnc81 := NB148_147.out;have hnb82 := NB147_159.out;have hnc82 := NB159_147.out;have hcz83_0 := CA_ BK147;have hcz83_1 := CB_ BK147;have hfz83_0 := blk_frozen BK147.out 0;have hfz83_1 := blk_frozen BK147.out 1
          go_wp2_with (first | (go_at_call 16; (with_reducible refine (tapewrightref05_Right.calls _ _ l1_0 _ _ l1_1 false _ (CW_ HR1_0) HC1_0.out (CW_ HR1_1) HC1_1.out A71.out).mono ?_); rintro e w84 ⟨rfl, hb⟩; replace HO154 := RC_ HO154 hb; replace HO157 := RC_ HO157 hb; replace BK147 := BF_ BK147 hb; replace BK148 := BF_ BK148 hb; replace BK159 := BF_ BK159 hb; replace HB := BU_ hb; clear hb))
          go_meet
          case rel => exact ⟨_, (true), S1_, H', ⟨by have := HJ3.out; first | omega | exact Nat.le_refl _⟩, ⟨by (with_reducible repeat (first | apply Kd.R_alloc | apply Kd.R_drewN | apply Kd.R_drew)); exact HO154.out⟩, ⟨by (with_reducible repeat (first | apply Kd.R_alloc | apply Kd.R_drewN | apply Kd.R_drew)); exact HO157.out⟩, BW_ BK147, BW_ BK148, BW_ BK159, ⟨T9_⟩⟩
        ·
         rw [if_neg c70] at H;have c70b0 : (a0.toList == ([109, 117, 108] : List UInt8)) = false := beq_eq_false_iff_ne.mpr c70;have c70b1 : (a0.toList != ([109, 117, 108] : List UInt8)) = true := bne_iff_ne.mpr c70;have H' := A_ H;clear H
         go_wp2
         go_meet
         case rel => exact ⟨_, (true), S1_, H', ⟨by have := HJ3.out; first | omega | exact Nat.le_refl _⟩, ⟨by (with_reducible repeat (first | apply Kd.R_alloc | apply Kd.R_drewN | apply Kd.R_drew)); exact HO154.out⟩, ⟨by (with_reducible repeat (first | apply Kd.R_alloc | apply Kd.R_drewN | apply Kd.R_drew)); exact HO157.out⟩, BW_ BK147, BW_ BK148, BW_ BK159, ⟨T9_⟩⟩
     case rest =>
      clear HC25
      try clear c1
      try clear c2
      try clear p2
      try clear c3
      try clear c4
      try clear c5
      try clear c6
      try clear c7
      try clear c8
      try clear c10
      try clear c12
      try clear c13
      try clear c14
      try clear c15
      try clear c16
      try clear c18
      try clear c24
      try clear c24b0
      try clear c24b1
      try clear c24b2
      try clear c26
      try clear c32
      try clear c33
      try clear c40
      try clear c40b0
      try clear c40b1
      try clear c42
      try clear c44
      try clear c45
      try clear c48
      try clear c51
      try clear c52
      try clear c55
      try clear c55b0
      try clear c55b1
      try clear c57
      try clear c59
      try clear c60
      try clear c63
      try clear c66
      try clear c67
      try clear c70
      try clear c70b0
      try clear c70b1
      try clear c72
      try clear c74
      try clear c75
      try clear c78
      try clear c81
      try clear c82
      try clear hcz11_0
      try clear hcz11_1
      try clear hcz13_0
      try clear hcz13_1
      try clear hcz16_0
      try clear hcz16_1
      try clear hcz27_0
      try clear hcz27_1
      try clear hcz28_0
      try clear hcz28_1
      try clear hcz34_0
      try clear hcz34_1
      try clear hcz46_0
      try clear hcz46_1
      try clear hcz49_0
      try clear hcz49_1
      try clear hcz53_0
      try clear hcz53_1
      try clear hcz61_0
      try clear hcz61_1
      try clear hcz64_0
      try clear hcz64_1
      try clear hcz68_0
      try clear hcz68_1
      try clear hcz76_0
      try clear hcz76_1
      try clear hcz79_0
      try clear hcz79_1
      try clear hcz83_0
      try clear hcz83_1
      try clear hfz11_0
      try clear hfz11_1
      try clear hfz13_0
      try clear hfz13_1
      try clear hfz16_0
      try clear hfz16_1
      try clear hfz27_0
      try clear hfz27_1
      try clear hfz28_0
      try clear hfz28_1
      try clear hfz34_0
      try clear hfz34_1
      try clear hfz46_0
      try clear hfz46_1
      try clear hfz49_0
      try clear hfz49_1
      try clear hfz53_0
      try clear hfz53_1
      try clear hfz61_0
      try clear hfz61_1
      try clear hfz64_0
      try clear hfz64_1
      try clear hfz68_0
      try clear hfz68_1
      try clear hfz76_0
      try clear hfz76_1
      try clear hfz79_0
      try clear hfz79_1
      try clear hfz83_0
      try clear hfz83_1
      try clear p2
      obtain ⟨kq, x49_24, rfl, HA, HJ24, HO_160000, HO_160001, BK147, BK148, BK159, HB⟩ := hcut
      cases kq with
      | zero => exact absurd HA.out (by simp [tapewrightlaw05_TensorZips.j1])
      | succ kj24 =>
       have H := HA.out;clear HA;simp only [tapewrightlaw05_TensorZips.j1] at H
       by_cases c85 : x49_24 = true
       ·
        subst c85;rw [if_pos rfl] at H
        by_cases c86 : (t155.length : Int) = 0
        ·
         rw [if_pos c86] at H;have c86b0 : ((t155.length : Int) == 0) = true := beq_iff_eq.mpr c86;have c86b1 : ((t155.length : Int) != 0) = false := bne_eq_false_iff_eq.mpr c86;clear c86
         by_cases c87 : t158 = 1
         ·
          rw [if_pos c87] at H;have c87b0 : (t158 == 1) = true := beq_iff_eq.mpr c87;have c87b1 : (t158 != 1) = false := bne_eq_false_iff_eq.mpr c87;clear c87;replace H := BE_ H;obtain ⟨t168, A880, H⟩ := H;have A88 := A_ A880;clear A880;obtain rfl := Option.some.inj H;have hnb89 := NB159_147.out;have hnc89 := NB147_159.out;have hnb90 := NB159_148.out;have hnc90 := NB148_159.out;have hcz91_0 := CA_ BK159;have hcz91_1 := CB_ BK159;have hfz91_0 := blk_frozen BK159.out 0;have hfz91_1 := blk_frozen BK159.out 1
          go_wp2_with (first | (go_at_call 13; (with_reducible refine (tapewrightlaw05_awake.calls  t168 _ (Err.Gs.below HGs.out T9_) A88.out).mono ?_); rintro e w92 ⟨rfl, hb⟩; replace HO_160000 := RC_ HO_160000 hb; replace HO_160001 := RC_ HO_160001 hb; replace BK147 := BF_ BK147 hb; replace BK148 := BF_ BK148 hb; replace BK159 := BF_ BK159 hb; replace HB := BU_ hb; clear hb))
          go_ret
          exact ⟨T4_, T9_⟩
         ·
          rw [if_neg c87] at H;have c87b0 : (t158 == 1) = false := beq_eq_false_iff_ne.mpr c87;have c87b1 : (t158 != 1) = true := bne_iff_ne.mpr c87;exact absurd ((Option.some.inj H).trans HRT.out) (by decide)
        ·
         rw [if_neg c86] at H;have c86b0 : ((t155.length : Int) == 0) = false := beq_eq_false_iff_ne.mpr c86;have c86b1 : ((t155.length : Int) != 0) = true := bne_iff_ne.mpr c86
         have c86b2 : ¬ (t155 = []) := fun h_ => c86 (by rw [h_]; rfl)
         exact absurd ((Option.some.inj H).trans HRT.out) (by decide)
       ·
        replace c85 := Bool.eq_false_iff.mpr c85;subst c85;rw [if_neg (show ¬ (false = true) by decide)] at H;replace H := BE_ H;obtain ⟨t169, A930, H⟩ := H;have A93 := A_ A930;clear A930
        by_cases c94 : t169 = true
        ·
         subst c94;rw [if_pos rfl] at H;replace H := BE_ H;obtain ⟨⟨t170, t173⟩, A950, H⟩ := H;have A95 := A_ A950;clear A950;replace H := BE_ H;obtain ⟨t176, A960, H⟩ := H;have A96 := A_ A960;clear A960
         by_cases c97 : t176 = true
         ·
          subst c97;rw [if_pos rfl] at H
          by_cases c98 : t158 = 0
          ·
           rw [if_pos c98] at H;have c98b0 : (t158 == 0) = true := beq_iff_eq.mpr c98;have c98b1 : (t158 != 0) = false := bne_eq_false_iff_eq.mpr c98;clear c98;replace H := BE_ H;obtain ⟨t177, A990, H⟩ := H;have A99 := A_ A990;clear A990;obtain rfl := Option.some.inj H;have hnb100 := NB147_148.out;have hnc100 := NB148_147.out;have hnb101 := NB147_159.out;have hnc101 := NB159_147.out;have hcz102_0 := CA_ BK147;have hcz102_1 := CB_ BK147;have hfz102_0 := blk_frozen BK147.out 0;have hfz102_1 := blk_frozen BK147.out 1;have hnb103 := NB148_159.out;have hnc103 := NB159_148.out;have hcz104_0 : wc.cell? ⟨gb148, 0, none⟩ = some (.slice A2_0 l2_0.length c2_0) := (blk_cell BK148.out 0).trans rfl;have hcz104_1 : wc.cell? ⟨gb148, 1, none⟩ = some (.slice A2_1 l2_1.length c2_1) := (blk_cell BK148.out 1).trans rfl;have hfz104_0 := blk_frozen BK148.out 0;have hfz104_1 := blk_frozen BK148.out 1
           try go_wp2_with (first | (refine GL_ 17 65 Tryz.func17 #[.slice A1_0 l1_0.length c1_0, .slice A2_0 l2_0.length c2_0] ?_; (with_reducible refine (tapewrightref04_Same.calls _ _ l1_0 _ _ l2_0 true _ (CW_ HR1_0) HC1_0.out (CW_ HR2_0) HC2_0.out A93.out).mono ?_); rintro e w105 ⟨rfl, hb⟩; refine ⟨_, rfl, ?_⟩; replace HO_160000 := RC_ HO_160000 hb; replace HO_160001 := RC_ HO_160001 hb; replace BK147 := BF_ BK147 hb; replace BK148 := BF_ BK148 hb; replace BK159 := BF_ BK159 hb; replace HB := BU_ hb; clear hb))
           have n0_ := A_ (Kd.R_drew HO_160000.out);have n1_ := A_ (Kd.R_drew HO_160001.out);have n2_ := A_ (blk_drew BK147.out);have n3_ := A_ (blk_drew BK148.out);have n4_ := A_ (blk_drew BK159.out);have n5_ := A_ (below_drew1 HB.out);clear HO_160000;clear HO_160001;clear BK147;clear BK148;clear BK159;clear HB;have HO_160000 := n0_;have HO_160001 := n1_;have BK147 := n2_;have BK148 := n3_;have BK159 := n4_;have HB := n5_;clear n0_ n1_ n2_ n3_ n4_ n5_;refine start_ (n := 14) (S := fun w' => w'.cell? ⟨gb159, 0, none⟩ = some (.slice Ao31 t152.length co31) ∧ w'.cell? ⟨gb159, 1, none⟩ = some (.slice Ao35 t155.length co35) ∧ w'.cell? ⟨gb147, 0, none⟩ = some (.slice A1_0 l1_0.length c1_0) ∧ w'.cell? ⟨gb147, 1, none⟩ = some (.slice A1_1 l1_1.length c1_1) ∧ w'.cell? ⟨gb148, 0, none⟩ = some (.slice A2_0 l2_0.length c2_0) ∧ w'.cell? ⟨gb148, 1, none⟩ = some (.slice A2_1 l2_1.length c2_1)) (ds := []) #[false, false, false, false, false, false, false, false, false, false, false, false, false, false] (by kernel_rfl) rfl rfl ⟨(blk_cell BK159.out 0).trans rfl, (blk_cell BK159.out 1).trans rfl, (blk_cell BK147.out 0).trans rfl, (blk_cell BK147.out 1).trans rfl, (blk_cell BK148.out 0).trans rfl, (blk_cell BK148.out 1).trans rfl⟩ (fun hHeld => ?_); refine with_tabW tapewrightlaw05_TensorZips.tab10 tapewrightlaw05_TensorZips.bits10 (fun HT_ HW_ => ?_);generalize w105.drew = w106 at HO_160000 HO_160001 BK147 BK148 BK159 HB hHeld ⊢;refine PU_ 1 79 ?_;refine TK_ 0 78 rfl (by rfl) (by rintro w' ⟨s0, s1, s2, s3, s4, s5⟩;go_simp;with_reducible rfl) hHeld ?_
           refine TK_ 2 80 rfl (by rfl) (by rintro w' ⟨s0, s1, s2, s3, s4, s5⟩;go_simp;with_reducible rfl) hHeld ?_
           refine TK_ 3 81 rfl (by rfl) (by rintro w' ⟨s0, s1, s2, s3, s4, s5⟩;go_simp;with_reducible rfl) hHeld ?_
           refine one_ (i := 4) (N := some 82) #[true, true, true, true, true, false, false, false, false, false, false, false, false, false] rfl rfl (one_of HT_.out (by kernel_rfl)) (by decide) (fun K hK => ?_);refine goes_ Tryz.func19 (by kernel_rfl) rfl #[.string a0, .agg #[.slice A1_0 l1_0.length c1_0, .slice A1_1 l1_1.length c1_1], .agg #[.slice A2_0 l2_0.length c2_0, .slice A2_1 l2_1.length c2_1]] (by rfl) rfl rfl T2_ ?_
           with_reducible refine (tapewrightref05_Zip.calls kj24 a0 (fun k_ => k_ < w.heap.size) _ _ l1_0 _ _ l1_1 _ _ l2_0 _ _ l2_1 t170 t173 _ (Err.Gs.below HGs.out T9_) ?side1 ?side2 ?side3 ?side4 ?side5 ?side6 ?side7 A95.out).mono ?_
           (case side1 => exact Kd.V_mk HC1_0.out (Kd.F_below (Kd.C_F (Kd.heap_int .i64) HR1_0.out) T9_))
           (case side2 => exact CW_ HR1_1)
           (case side3 => exact HC1_1.out)
           (case side4 => exact CW_ HR2_0)
           (case side5 => exact HC2_0.out)
           (case side6 => exact CW_ HR2_1)
           (case side7 => exact HC2_1.out)
           rintro e w107 ⟨v171, v174, rfl, ho0, ho1, hb⟩;refine ⟨_, rfl, ?_⟩;have n0_ := A_ (Kd.R_below (K1_ HO_160000) hb);have n1_ := A_ (Kd.R_elder' (K1_ HO_160001) (Kd.R_base ho1) hb);have n2_ := A_ (Kd.V_lower (Kd.V_mono (ok' := fun k_ => some k_ ≠ (v174 : Value).ownBlock ∧ some k_ ≠ (.slice Ao31 t152.length co31 : Value).ownBlock ∧ some k_ ≠ (.slice Ao35 t155.length co35 : Value).ownBlock ∧ k_ ≠ gb147 ∧ k_ ≠ gb148 ∧ k_ ≠ gb159) ho0 (fun k_ hk_ => ⟨hk_.2, Or.elim hk_.1 (fun hs_ => fun e_ => Nat.not_le.2 hs_ (Kd.R_base HO_160000.out k_ e_.symm)) (fun hn_ => (Kd.fresh' (Kd.R_lt (K1_ HO_160000)) k_ hn_)), Or.elim hk_.1 (fun hs_ => fun e_ => Nat.not_le.2 hs_ (Kd.R_base HO_160001.out k_ e_.symm)) (fun hn_ => (Kd.fresh' (Kd.R_lt (K1_ HO_160001)) k_ hn_)), Or.elim hk_.1 (fun hs_ => fun e_ => Nat.not_le.2 hs_ (by rw [e_]; exact GW147.out)) (fun hn_ => (Kd.freshB (g := gb147) (o := .cells #[.slice A1_0 l1_0.length c1_0, .slice A1_1 l1_1.length c1_1] 25 (0, 0)) (B1_ BK147.out) k_ hn_)), Or.elim hk_.1 (fun hs_ => fun e_ => Nat.not_le.2 hs_ (by rw [e_]; exact GW148.out)) (fun hn_ => (Kd.freshB (g := gb148) (o := .cells #[.slice A2_0 l2_0.length c2_0, .slice A2_1 l2_1.length c2_1] 25 (0, 0)) (B1_ BK148.out) k_ hn_)), Or.elim hk_.1 (fun hs_ => fun e_ => Nat.not_le.2 hs_ (by rw [e_]; exact GW159.out)) (fun hn_ => (Kd.freshB (g := gb159) (o := .cells #[.slice Ao31 t152.length co31, .slice Ao35 t155.length co35] 25 (0, 0)) (B1_ BK159.out) k_ hn_))⟩)) (below_size T9_));have n3_ := A_ (Kd.R_lower (Kd.R_new' (Kd.R_mono (ok' := fun k_ => True) ho1 (fun _ hk_ => trivial)) (Kd.R_lt (K1_ HO_160001))) (below_size T9_));have n4_ := A_ (blk_below (g := gb147) (o := .cells #[.slice A1_0 l1_0.length c1_0, .slice A1_1 l1_1.length c1_1] 25 (0, 0)) (B1_ BK147.out) hb);have n5_ := A_ (blk_below (g := gb148) (o := .cells #[.slice A2_0 l2_0.length c2_0, .slice A2_1 l2_1.length c2_1] 25 (0, 0)) (B1_ BK148.out) hb);have n6_ := A_ (blk_below (g := gb159) (o := .cells #[.slice Ao31 t152.length co31, .slice Ao35 t155.length co35] 25 (0, 0)) (B1_ BK159.out) hb);have n7_ := BU_ hb;clear HO_160000;clear HO_160001;clear BK147;clear BK148;clear BK159;clear HB;have HO_160000 := n0_;have HO_160001 := n1_;have HO172 := n2_;have HO175 := n3_;have BK147 := n4_;have BK148 := n5_;have BK159 := n6_;have HB := n7_;clear n0_ n1_ n2_ n3_ n4_ n5_ n6_ n7_
           (try clear hb)
           (try clear hb2)
           (try clear hk)
           (try clear hi)
           (try clear ho0)
           (try clear ho1)
           obtain ⟨Ao108, co108, eo108⟩ := Kd.V_slice HO172.out
           (first | subst eo108 | (injection eo108 with f1_ f2_ f3_; have f4_ := f1_.symm; have f5_ := f3_.symm; clear f1_ f2_ f3_; subst f4_; subst f5_))
           obtain ⟨Ao109, co109, eo109⟩ := Kd.R_slice HO175.out
           (first | subst eo109 | (injection eo109 with f1_ f2_ f3_; have f4_ := f1_.symm; have f5_ := f3_.symm; clear f1_ f2_ f3_; subst f4_; subst f5_))
           refine hK.out _ _ ⟨(blk_cell BK159.out 0).trans rfl, (blk_cell BK159.out 1).trans rfl, (blk_cell BK147.out 0).trans rfl, (blk_cell BK147.out 1).trans rfl, (blk_cell BK148.out 0).trans rfl, (blk_cell BK148.out 1).trans rfl⟩ (fun hHeld => ?_);clear hK K;refine norm_ (a' := ?_) ?_ ?_;rotate_left
           ·
            show Act.put _ (some 82) _ = _
            simp only [Act.put, List.setIfInBounds_toArray, List.set_cons_zero, List.set_cons_succ, i64_w, i32_w];rfl
           refine one_ (i := 5) (N := some 83) #[true, true, true, true, true, true, false, false, false, false, false, false, false, false] rfl rfl (one_of HT_.out (by kernel_rfl)) (by decide) (fun K hK => ?_);refine goes_ Tryz.func18 (by kernel_rfl) rfl #[.agg #[.slice Ao31 t152.length co31, .slice Ao35 t155.length co35], .agg #[.slice Ao108 t170.length co108, .slice Ao109 t173.length co109]] (by rfl) rfl rfl T2_ ?_
           with_reducible refine (tapewrightref05_Equal.calls _ _ t152 _ _ t155 _ _ t170 _ _ t173 true _ ?side1 ?side2 ?side3 ?side4 ?side5 ?side6 ?side7 ?side8 A96.out).mono ?_
           (case side1 => exact C2_ HO_160000)
           (case side2 => exact (Kd.R_reads' HO_160000.out).2.1)
           (case side3 => exact C2_ HO_160001)
           (case side4 => exact (Kd.R_reads' HO_160001.out).2.1)
           (case side5 => repeat (first | exact (Kd.V_reads' HO172.out).2.2 | (with_reducible refine Kd.C_alloc ?_ _) | (with_reducible refine Kd.C_drewN ?_ _) | (with_reducible refine Kd.C_drew ?_)))
           (case side6 => exact (Kd.V_reads' HO172.out).2.1)
           (case side7 => exact C2_ HO175)
           (case side8 => exact (Kd.R_reads' HO175.out).2.1)
           rintro e w110 ⟨rfl, hb⟩;refine ⟨_, rfl, ?_⟩;have n0_ := A_ (Kd.R_below (K1_ HO_160000) hb);have n1_ := A_ (Kd.R_below (K1_ HO_160001) hb);have n2_ := A_ (Kd.V_below (by (with_reducible repeat (first | apply Kd.V_alloc | apply Kd.V_drewN | apply Kd.V_drew)); exact HO172.out) hb);have n3_ := A_ (Kd.R_below (K1_ HO175) hb);have n4_ := A_ (blk_below (g := gb147) (o := .cells #[.slice A1_0 l1_0.length c1_0, .slice A1_1 l1_1.length c1_1] 25 (0, 0)) (B1_ BK147.out) hb);have n5_ := A_ (blk_below (g := gb148) (o := .cells #[.slice A2_0 l2_0.length c2_0, .slice A2_1 l2_1.length c2_1] 25 (0, 0)) (B1_ BK148.out) hb);have n6_ := A_ (blk_below (g := gb159) (o := .cells #[.slice Ao31 t152.length co31, .slice Ao35 t155.length co35] 25 (0, 0)) (B1_ BK159.out) hb);have n7_ := BU_ hb;clear HO_160000;clear HO_160001;clear HO172;clear HO175;clear BK147;clear BK148;clear BK159;clear HB;have HO_160000 := n0_;have HO_160001 := n1_;have HO172 := n2_;have HO175 := n3_;have BK147 := n4_;have BK148 := n5_;have BK159 := n6_;have HB := n7_;clear n0_ n1_ n2_ n3_ n4_ n5_ n6_ n7_
           (try clear hb)
           (try clear hb2)
           (try clear hk)
           (try clear hi)
           refine hK.out _ _ ⟨(blk_cell BK159.out 0).trans rfl, (blk_cell BK159.out 1).trans rfl, (blk_cell BK147.out 0).trans rfl, (blk_cell BK147.out 1).trans rfl, (blk_cell BK148.out 0).trans rfl, (blk_cell BK148.out 1).trans rfl⟩ (fun hHeld => ?_);clear hK K;refine norm_ (a' := ?_) ?_ ?_;rotate_left
           ·
            show Act.put _ (some 83) _ = _
            simp only [Act.put, List.setIfInBounds_toArray, List.set_cons_zero, List.set_cons_succ, i64_w, i32_w];rfl
           refine PU_ 6 84 ?_;refine PU_ 7 85 ?_;refine PU_ 8 86 ?_;refine PU_ 9 87 ?_;refine PU_ 10 88 ?_
           refine one_ (i := 11) (N := some 89) #[true, true, true, true, true, true, true, true, true, true, true, true, false, false] rfl rfl (one_of HT_.out (by kernel_rfl)) (by decide) (fun K hK => ?_);refine goes_ Tryz.func13 (by kernel_rfl) rfl #[] (by rfl) rfl rfl T2_ ?_
           with_reducible refine (tapewrightlaw05_awake.calls  t177 _ (Err.Gs.below HGs.out T9_) A99.out).mono ?_
           rintro e w111 ⟨rfl, hb⟩;refine ⟨_, rfl, ?_⟩;have n0_ := A_ (Kd.R_below (K1_ HO_160000) hb);have n1_ := A_ (Kd.R_below (K1_ HO_160001) hb);have n2_ := A_ (Kd.V_below (by (with_reducible repeat (first | apply Kd.V_alloc | apply Kd.V_drewN | apply Kd.V_drew)); exact HO172.out) hb);have n3_ := A_ (Kd.R_below (K1_ HO175) hb);have n4_ := A_ (blk_below (g := gb147) (o := .cells #[.slice A1_0 l1_0.length c1_0, .slice A1_1 l1_1.length c1_1] 25 (0, 0)) (B1_ BK147.out) hb);have n5_ := A_ (blk_below (g := gb148) (o := .cells #[.slice A2_0 l2_0.length c2_0, .slice A2_1 l2_1.length c2_1] 25 (0, 0)) (B1_ BK148.out) hb);have n6_ := A_ (blk_below (g := gb159) (o := .cells #[.slice Ao31 t152.length co31, .slice Ao35 t155.length co35] 25 (0, 0)) (B1_ BK159.out) hb);have n7_ := BU_ hb;clear HO_160000;clear HO_160001;clear HO172;clear HO175;clear BK147;clear BK148;clear BK159;clear HB;have HO_160000 := n0_;have HO_160001 := n1_;have HO172 := n2_;have HO175 := n3_;have BK147 := n4_;have BK148 := n5_;have BK159 := n6_;have HB := n7_;clear n0_ n1_ n2_ n3_ n4_ n5_ n6_ n7_
           (try clear hb)
           (try clear hb2)
           (try clear hk)
           (try clear hi)
           refine hK.out _ _ ⟨(blk_cell BK159.out 0).trans rfl, (blk_cell BK159.out 1).trans rfl, (blk_cell BK147.out 0).trans rfl, (blk_cell BK147.out 1).trans rfl, (blk_cell BK148.out 0).trans rfl, (blk_cell BK148.out 1).trans rfl⟩ (fun hHeld => ?_);clear hK K;refine norm_ (a' := ?_) ?_ ?_;rotate_left
           ·
            show Act.put _ (some 89) _ = _
            simp only [Act.put, List.setIfInBounds_toArray, List.set_cons_zero, List.set_cons_succ, i64_w, i32_w];rfl
           refine PU_ 12 90 ?_;refine PU_ 13 6 ?_
           refine done_ (done_of HT_.out (by kernel_rfl)) ?_
           try go_wp2
           go_ret
           exact ⟨T4_, T9_⟩
          ·
           rw [if_neg c98] at H;have c98b0 : (t158 == 0) = false := beq_eq_false_iff_ne.mpr c98;have c98b1 : (t158 != 0) = true := bne_iff_ne.mpr c98;exact absurd ((Option.some.inj H).trans HRT.out) (by decide)
         ·
          replace c97 := Bool.eq_false_iff.mpr c97;subst c97;rw [if_neg (show ¬ (false = true) by decide)] at H;exact absurd ((Option.some.inj H).trans HRT.out) (by decide)
        ·
         replace c94 := Bool.eq_false_iff.mpr c94;subst c94;rw [if_neg (show ¬ (false = true) by decide)] at H
         by_cases c112 : (t155.length : Int) = 0
         ·
          rw [if_pos c112] at H;have c112b0 : ((t155.length : Int) == 0) = true := beq_iff_eq.mpr c112;have c112b1 : ((t155.length : Int) != 0) = false := bne_eq_false_iff_eq.mpr c112;clear c112
          by_cases c113 : t158 = 4
          ·
           rw [if_pos c113] at H;have c113b0 : (t158 == 4) = true := beq_iff_eq.mpr c113;have c113b1 : (t158 != 4) = false := bne_eq_false_iff_eq.mpr c113;clear c113;replace H := BE_ H;obtain ⟨t178, A1140, H⟩ := H;have A114 := A_ A1140;clear A1140;obtain rfl := Option.some.inj H;have hnb115 := NB147_148.out;have hnc115 := NB148_147.out;have hnb116 := NB147_159.out;have hnc116 := NB159_147.out;have hcz117_0 := CA_ BK147;have hcz117_1 := CB_ BK147;have hfz117_0 := blk_frozen BK147.out 0;have hfz117_1 := blk_frozen BK147.out 1;have hnb118 := NB148_159.out;have hnc118 := NB159_148.out;have hcz119_0 : wc.cell? ⟨gb148, 0, none⟩ = some (.slice A2_0 l2_0.length c2_0) := (blk_cell BK148.out 0).trans rfl;have hcz119_1 : wc.cell? ⟨gb148, 1, none⟩ = some (.slice A2_1 l2_1.length c2_1) := (blk_cell BK148.out 1).trans rfl;have hfz119_0 := blk_frozen BK148.out 0;have hfz119_1 := blk_frozen BK148.out 1
           go_wp2_with (first | (refine GL_ 17 65 Tryz.func17 #[.slice A1_0 l1_0.length c1_0, .slice A2_0 l2_0.length c2_0] ?_; (with_reducible refine (tapewrightref04_Same.calls _ _ l1_0 _ _ l2_0 false _ (CW_ HR1_0) HC1_0.out (CW_ HR2_0) HC2_0.out A93.out).mono ?_); rintro e w120 ⟨rfl, hb⟩; refine ⟨_, rfl, ?_⟩; replace HO_160000 := RC_ HO_160000 hb; replace HO_160001 := RC_ HO_160001 hb; replace BK147 := BF_ BK147 hb; replace BK148 := BF_ BK148 hb; replace BK159 := BF_ BK159 hb; replace HB := BU_ hb; clear hb; have hcz121_0 := CA_ BK159; have hcz121_1 := CB_ BK159; have hfz121_0 := blk_frozen BK159.out 0; have hfz121_1 := blk_frozen BK159.out 1) | (go_at_call 13; (with_reducible refine (tapewrightlaw05_awake.calls  t178 _ (Err.Gs.below HGs.out T9_) A114.out).mono ?_); rintro e w122 ⟨rfl, hb⟩; replace HO_160000 := RC_ HO_160000 hb; replace HO_160001 := RC_ HO_160001 hb; replace BK147 := BF_ BK147 hb; replace BK148 := BF_ BK148 hb; replace BK159 := BF_ BK159 hb; replace HB := BU_ hb; clear hb))
           go_ret
           exact ⟨T4_, T9_⟩
          ·
           rw [if_neg c113] at H;have c113b0 : (t158 == 4) = false := beq_eq_false_iff_ne.mpr c113;have c113b1 : (t158 != 4) = true := bne_iff_ne.mpr c113;exact absurd ((Option.some.inj H).trans HRT.out) (by decide)
         ·
          rw [if_neg c112] at H;have c112b0 : ((t155.length : Int) == 0) = false := beq_eq_false_iff_ne.mpr c112;have c112b1 : ((t155.length : Int) != 0) = true := bne_iff_ne.mpr c112
          have c112b2 : ¬ (t155 = []) := fun h_ => c112 (by rw [h_]; rfl)
          exact absurd ((Option.some.inj H).trans HRT.out) (by decide)
end Go.Proofs.YtlglpffoijdgbaaGreatDoor.PQZ
