-- by wip/tool/mine.py of this repo (the kit's printer with given contracts)
import Derived.Test.YtmmonhgfnmeieaaGreatDoorWdB
import Derived.Test.YtmmonhgfnmeieaaGreatDoorProg
import Derived.Test.YtmmonhgfnmeieaaGreatDoorWd
import Derived.Below
import Derived.Deep.Draws
import Derived.Deep.AppendLies
import Derived.Maps.AppendAt
import Derived.OwnWalk
import Derived.Laws.BytesArg
import Derived.Laws.MakeOwn
import Derived.Laws.OwnMore
import Derived.Deep.OwnRows
import Derived.Tactics
import Derived.Lib.ConvBytes
import Derived.Laws.Slices
import Derived.WalkKit
import Derived.KernelRfl
import Derived.RowKit3
import Derived.Deep.LoopGhost
import Derived.Deep.QuietTactic
import Derived.BigQuiet
import Derived.WideLaws
import Derived.Deep.DeepCutAuto
import Derived.Deep.CutBlock
import Derived.Deep.RegionHeld3
import Derived.Laws.Rows
import Derived.Lib.AppendStr
import Derived.ArgAppend
import Derived.Laws.IdiomCopy
import Derived.OrdersHeld
import Derived.Laws.BitsLemmas
import Derived.RowKit
import Derived.Test.YtmmonhgfnmeieaaGreatDoorMine
import Derived.Test.YtmmonhgfnmeieaaGreatDoorArrM
namespace Go.Proofs.YtmmonhgfnmeieaaGreatDoor.PW
open Go.RowKit Go.Proofs.YtmmonhgfnmeieaaGreatDoorW.PrintWords Go.Proofs.YtmmonhgfnmeieaaGreatDoorW.PrintLast Go.Proofs.YtmmonhgfnmeieaaGreatDoorW.PrintMore
attribute [local go_sem] max2_int min2_int max_two min_two max_three min_three max_four min_four   -- for this text's walks alone
set_option linter.unusedVariables false
set_option linter.unusedSimpArgs false
set_option maxHeartbeats 8000000
set_option maxRecDepth 100000
def errW : Option Int → Value
 | none => .nilIface
 | some c => .iface 0 (.int .i64 c)
theorem errW_none : errW none = .nilIface := rfl
theorem errW_some (c : Int) : errW (some c) = .iface 0 (.int .i64 c) := rfl
theorem info3 : (Tryz.prog.info? 3).map (fun i => (i.zero, i.size, i.bytes)) = some (some (.int .i64 0), 1, 8) := by kernel_rfl
theorem info9 : (Tryz.prog.info? 9).map (fun i => (i.zero, i.size, i.bytes)) = some (some (.string ⟨#[]⟩), 1, 16) := by kernel_rfl
/-! ### array_MatMul: function 16 -/
open Classical in
noncomputable def array_MatMul.f (l0_0 : List Int) (l0_1 : List ByteArray) (l1_0 : List Int) (l1_1 : List ByteArray) : Option (List Int × List ByteArray × Int) := if Ten.Sm1 l0_0 l0_1 ∧ Ten.Sm1 l1_0 l1_1 then some ((Ten.tMat ⟨l0_0, l0_1⟩ ⟨l1_0, l1_1⟩).1.s, (Ten.tMat ⟨l0_0, l0_1⟩ ⟨l1_0, l1_1⟩).1.d, (Ten.tMat ⟨l0_0, l0_1⟩ ⟨l1_0, l1_1⟩).2) else none
theorem array_MatMul.calls (A0_0 : Option Addr) (c0_0 : Nat) (l0_0 : List Int) (A0_1 : Option Addr) (c0_1 : Nat) (l0_1 : List ByteArray) (A1_0 : Option Addr) (c1_0 : Nat) (l1_0 : List Int) (A1_1 : Option Addr) (c1_1 : Nat) (l1_1 : List ByteArray) (r1 : List Int) (r2 : List ByteArray) (r3 : Int) (w : World) (hG : Err.Gs w) (hr0_0 : Kd.C (Kd.int .i64) w A0_0 l0_0.length l0_0) (hc0_0 : l0_0.length ≤ c0_0) (hr0_1 : Kd.C Kd.string w A0_1 l0_1.length l0_1) (hc0_1 : l0_1.length ≤ c0_1) (hr1_0 : Kd.C (Kd.int .i64) w A1_0 l1_0.length l1_0) (hc1_0 : l1_0.length ≤ c1_0) (hr1_1 : Kd.C Kd.string w A1_1 l1_1.length l1_1) (hc1_1 : l1_1.length ≤ c1_1) (h : array_MatMul.f l0_0 l0_1 l1_0 l1_1 = some (r1, r2, r3)) :
  Calls Tryz.prog 16 #[.agg #[.slice A0_0 l0_0.length c0_0, .slice A0_1 l0_1.length c0_1], .agg #[.slice A1_0 l1_0.length c1_0, .slice A1_1 l1_1.length c1_1]] w fun e w' => ∃ v0_ v1_ : Value, e = .returned (.tuple #[.agg #[v0_, v1_], .int .i64 r3]) ∧ Kd.R (Kd.int .i64) 3 w' w.heap.size (fun _ => True) v0_ r1 ∧ Kd.R Kd.string 9 w' w.heap.size (fun _ => True) v1_ r2 ∧ Below w.heap.size w w' := by
 unfold array_MatMul.f at h
 split at h
 ·
  rename_i hl
  injection h with h;injection h with h1 h2;injection h2 with h2 h3;subst h1 h2 h3;exact Ten.matmul_calls A0_0 c0_0 A0_1 c0_1 l0_0 l0_1 A1_0 c1_0 A1_1 c1_1 l1_0 l1_1 w hG hr0_0 hc0_0 hr0_1 hc0_1 hl.1 hr1_0 hc1_0 hr1_1 hc1_1 hl.2
 ·
  cases h
theorem array_MatMul.of (l0_0 : List Int) (l0_1 : List ByteArray) (l1_0 : List Int) (l1_1 : List ByteArray) (h : Ten.Sm1 l0_0 l0_1 ∧ Ten.Sm1 l1_0 l1_1) : array_MatMul.f l0_0 l0_1 l1_0 l1_1 = some ((Ten.tMat ⟨l0_0, l0_1⟩ ⟨l1_0, l1_1⟩).1.s, (Ten.tMat ⟨l0_0, l0_1⟩ ⟨l1_0, l1_1⟩).1.d, (Ten.tMat ⟨l0_0, l0_1⟩ ⟨l1_0, l1_1⟩).2) := by rw [array_MatMul.f, if_pos h]
/-! ### tapewrightlaw06_awake: function 13 -/
noncomputable def tapewrightlaw06_awake.f  : Option (Bool) := (array_MatMul.f (([1, 2] : List Int)) (([(⟨#[49]⟩ : ByteArray), (⟨#[50]⟩ : ByteArray)] : List ByteArray)) (([2, 1] : List Int)) (([(⟨#[51]⟩ : ByteArray), (⟨#[52]⟩ : ByteArray)] : List ByteArray))).bind fun bt113 => (if (bt113.2.1.length : Int) = 1 then (if 0 < (bt113.2.1.length : Int) then (if (rdOf ByteArray.empty bt113.2.1 0).toList = ([49, 49] : List UInt8) then (some (bt113.2.2 == 0)) else (some false)) else (none)) else (some false))
theorem tapewrightlaw06_awake.calls  (r : Bool) (w : World) (hG : Err.Gs w) (hrt : r = true) (h : tapewrightlaw06_awake.f  = some r) :
  Calls Tryz.prog 13 #[] w fun e w' => e = .returned (.bool r) ∧ Below w.heap.size w w' := by
 have hu25 := Tryz.underlying25;have HB := Aside0.mk (Below.refl w.heap.size w);have HGs := Aside0.mk hG;clear hG;have HRT := Aside0.mk hrt;clear hrt;unfold tapewrightlaw06_awake.f at h;have H := h;clear h;obtain ⟨y101, hy101⟩ : ∃ y_ : List Int, y_ = (([1, 2] : List Int)) := ⟨_, rfl⟩
 replace H : ((array_MatMul.f y101 (([(⟨#[49]⟩ : ByteArray), (⟨#[50]⟩ : ByteArray)] : List ByteArray)) (([2, 1] : List Int)) (([(⟨#[51]⟩ : ByteArray), (⟨#[52]⟩ : ByteArray)] : List ByteArray))).bind fun bt113 => (if (bt113.2.1.length : Int) = 1 then (if 0 < (bt113.2.1.length : Int) then (if (rdOf ByteArray.empty bt113.2.1 0).toList = ([49, 49] : List UInt8) then (some (bt113.2.2 == 0)) else (some false)) else (none)) else (some false))) = some r := by first | (rw [hy101]; with_reducible exact H) | (have H2_ := (Option.bind_some _ _).symm.trans H; rw [hy101]; with_reducible exact H2_) | (have H2_ := (Option.bind_some _ _).symm.trans H; with_reducible exact H2_) | with_reducible exact H | (rw [hy101]; exact H) | exact H
 have Ny101 := Aside0.mk hy101;clear hy101;obtain ⟨y104, hy104⟩ : ∃ y_ : List ByteArray, y_ = (([(⟨#[49]⟩ : ByteArray), (⟨#[50]⟩ : ByteArray)] : List ByteArray)) := ⟨_, rfl⟩
 replace H : ((array_MatMul.f y101 y104 (([2, 1] : List Int)) (([(⟨#[51]⟩ : ByteArray), (⟨#[52]⟩ : ByteArray)] : List ByteArray))).bind fun bt113 => (if (bt113.2.1.length : Int) = 1 then (if 0 < (bt113.2.1.length : Int) then (if (rdOf ByteArray.empty bt113.2.1 0).toList = ([49, 49] : List UInt8) then (some (bt113.2.2 == 0)) else (some false)) else (none)) else (some false))) = some r := by first | (rw [hy104]; with_reducible exact H) | (have H2_ := (Option.bind_some _ _).symm.trans H; rw [hy104]; with_reducible exact H2_) | (have H2_ := (Option.bind_some _ _).symm.trans H; with_reducible exact H2_) | with_reducible exact H | (rw [hy104]; exact H) | exact H
 have Ny104 := Aside0.mk hy104;clear hy104;obtain ⟨y107, hy107⟩ : ∃ y_ : List Int, y_ = (([2, 1] : List Int)) := ⟨_, rfl⟩
 replace H : ((array_MatMul.f y101 y104 y107 (([(⟨#[51]⟩ : ByteArray), (⟨#[52]⟩ : ByteArray)] : List ByteArray))).bind fun bt113 => (if (bt113.2.1.length : Int) = 1 then (if 0 < (bt113.2.1.length : Int) then (if (rdOf ByteArray.empty bt113.2.1 0).toList = ([49, 49] : List UInt8) then (some (bt113.2.2 == 0)) else (some false)) else (none)) else (some false))) = some r := by first | (rw [hy107]; with_reducible exact H) | (have H2_ := (Option.bind_some _ _).symm.trans H; rw [hy107]; with_reducible exact H2_) | (have H2_ := (Option.bind_some _ _).symm.trans H; with_reducible exact H2_) | with_reducible exact H | (rw [hy107]; exact H) | exact H
 have Ny107 := Aside0.mk hy107;clear hy107;obtain ⟨y110, hy110⟩ : ∃ y_ : List ByteArray, y_ = (([(⟨#[51]⟩ : ByteArray), (⟨#[52]⟩ : ByteArray)] : List ByteArray)) := ⟨_, rfl⟩
 replace H : ((array_MatMul.f y101 y104 y107 y110).bind fun bt113 => (if (bt113.2.1.length : Int) = 1 then (if 0 < (bt113.2.1.length : Int) then (if (rdOf ByteArray.empty bt113.2.1 0).toList = ([49, 49] : List UInt8) then (some (bt113.2.2 == 0)) else (some false)) else (none)) else (some false))) = some r := by first | (rw [hy110]; with_reducible exact H) | (have H2_ := (Option.bind_some _ _).symm.trans H; rw [hy110]; with_reducible exact H2_) | (have H2_ := (Option.bind_some _ _).symm.trans H; with_reducible exact H2_) | with_reducible exact H | (rw [hy110]; exact H) | exact H
 have Ny110 := Aside0.mk hy110;clear hy110;replace H := Option.bind_eq_some_iff.mp H;obtain ⟨⟨t113, t116, t119⟩, A10, H⟩ := H;have A1 := Aside0.mk A10;clear A10
 by_cases c2 : (t116.length : Int) = 1
 ·
  rw [if_pos c2] at H;have c2b0 : ((t116.length : Int) == 1) = true := beq_iff_eq.mpr c2;have c2b1 : ((t116.length : Int) != 1) = false := bne_eq_false_iff_eq.mpr c2;clear c2
  by_cases c3 : 0 < (t116.length : Int)
  ·
   rw [if_pos c3] at H;have c3b0 : decide (0 < (t116.length : Int)) = true := decide_eq_true c3;have c3b1 : decide (0 < t116.length) = true := decide_eq_true (by omega);clear c3
   by_cases c4 : (rdOf ByteArray.empty t116 0).toList = ([49, 49] : List UInt8)
   ·
    rw [if_pos c4] at H;have c4b0 : ((rdOf ByteArray.empty t116 0).toList == ([49, 49] : List UInt8)) = true := beq_iff_eq.mpr c4;have c4b1 : ((rdOf ByteArray.empty t116 0).toList != ([49, 49] : List UInt8)) = false := bne_eq_false_iff_eq.mpr c4;clear c4;obtain rfl := Option.some.inj H;go_enter Tryz.func13, Tryz.ntmps13
    go_wp2_with (first | ((with_reducible refine gate_dst (N := 4) rfl ?_); refine Kd.R_lit (Kd.int .i64) _ 3 ?hg (N := 4) ?hd (xs := ([1, 2] : List Int)) (inner := [.int .i64 1, .int .i64 2]) (ok := fun _ => True) (okp := fun _ => True) ?hr ?hp (fun _ hk => hk) trivial (Below.refl _ _) (Nat.le_refl _) (by simp) ?_; (case hd => rfl); (case hg => rfl); (case hr => exact T3_); (case hp => exact (Reps.one (show Kd.M (Kd.int .i64) _ _ _ 1 [.int .i64 1] from rfl) (Reps.one (show Kd.M (Kd.int .i64) _ _ _ 2 [.int .i64 2] from rfl) (Reps.none _ _)))); intro v102 w5 ho6 hb hg_ hnew_; clear hg_ hnew_; (first | rw [← Ny101.out] at ho6 | (simp only [Int.reduceToNat] at ho6; rw [← Ny101.out] at ho6)); have HO103 := Aside0.mk (Kd.R_lower ho6 (below_size T1_)); replace HB := Aside0.mk (below_step T1_ hb); clear hb ho6) | ((with_reducible refine gate_dst (N := 5) rfl ?_); refine Kd.R_lit Kd.string _ 9 ?hg (N := 5) ?hd (xs := ([(⟨#[49]⟩ : ByteArray), (⟨#[50]⟩ : ByteArray)] : List ByteArray)) (inner := [.string (⟨#[49]⟩ : ByteArray), .string (⟨#[50]⟩ : ByteArray)]) (ok := fun _ => True) (okp := fun _ => True) ?hr ?hp (fun _ hk => hk) trivial (Below.refl _ _) (Nat.le_refl _) (by simp) ?_; (case hd => rfl); (case hg => rfl); (case hr => exact T3_); (case hp => exact (Reps.one (show Kd.M Kd.string _ _ _ (⟨#[49]⟩ : ByteArray) [.string (⟨#[49]⟩ : ByteArray)] from rfl) (Reps.one (show Kd.M Kd.string _ _ _ (⟨#[50]⟩ : ByteArray) [.string (⟨#[50]⟩ : ByteArray)] from rfl) (Reps.none _ _)))); intro v105 w7 ho8 hb hg_ hnew_; clear hg_ hnew_; (first | rw [← Ny104.out] at ho8 | (simp only [Int.reduceToNat] at ho8; rw [← Ny104.out] at ho8)); replace HO103 := RC_ HO103 hb; have HO106 := Aside0.mk (Kd.R_lower ho8 (below_size T1_)); replace HB := Aside0.mk (below_step T1_ hb); clear hb ho8; obtain ⟨Ao9, co9, eo9⟩ := Kd.R_slice HO106.out; subst eo9; obtain ⟨Ao10, co10, eo10⟩ := Kd.R_slice HO103.out; subst eo10) | ((with_reducible refine gate_dst (N := 7) rfl ?_); refine Kd.R_lit (Kd.int .i64) _ 3 ?hg (N := 7) ?hd (xs := ([2, 1] : List Int)) (inner := [.int .i64 2, .int .i64 1]) (ok := fun _ => True) (okp := fun _ => True) ?hr ?hp (fun _ hk => hk) trivial (Below.refl _ _) (Nat.le_refl _) (by simp) ?_; (case hd => rfl); (case hg => rfl); (case hr => exact T3_); (case hp => exact (Reps.one (show Kd.M (Kd.int .i64) _ _ _ 2 [.int .i64 2] from rfl) (Reps.one (show Kd.M (Kd.int .i64) _ _ _ 1 [.int .i64 1] from rfl) (Reps.none _ _)))); intro v108 w11 ho12 hb hg_ hnew_; clear hg_ hnew_; (first | rw [← Ny107.out] at ho12 | (simp only [Int.reduceToNat] at ho12; rw [← Ny107.out] at ho12)); replace HO106 := RC_ HO106 hb; have HO109 := Aside0.mk (Kd.R_lower ho12 (below_size T1_)); replace HO103 := RC_ HO103 hb; replace HB := Aside0.mk (below_step T1_ hb); clear hb ho12) | ((with_reducible refine gate_dst (N := 8) rfl ?_); refine Kd.R_lit Kd.string _ 9 ?hg (N := 8) ?hd (xs := ([(⟨#[51]⟩ : ByteArray), (⟨#[52]⟩ : ByteArray)] : List ByteArray)) (inner := [.string (⟨#[51]⟩ : ByteArray), .string (⟨#[52]⟩ : ByteArray)]) (ok := fun _ => True) (okp := fun _ => True) ?hr ?hp (fun _ hk => hk) trivial (Below.refl _ _) (Nat.le_refl _) (by simp) ?_; (case hd => rfl); (case hg => rfl); (case hr => exact T3_); (case hp => exact (Reps.one (show Kd.M Kd.string _ _ _ (⟨#[51]⟩ : ByteArray) [.string (⟨#[51]⟩ : ByteArray)] from rfl) (Reps.one (show Kd.M Kd.string _ _ _ (⟨#[52]⟩ : ByteArray) [.string (⟨#[52]⟩ : ByteArray)] from rfl) (Reps.none _ _)))); intro v111 w13 ho14 hb hg_ hnew_; clear hg_ hnew_; (first | rw [← Ny110.out] at ho14 | (simp only [Int.reduceToNat] at ho14; rw [← Ny110.out] at ho14)); replace HO103 := RC_ HO103 hb; replace HO109 := RC_ HO109 hb; have HO112 := Aside0.mk (Kd.R_lower ho14 (below_size T1_)); replace HO106 := RC_ HO106 hb; replace HB := Aside0.mk (below_step T1_ hb); clear hb ho14; obtain ⟨Ao15, co15, eo15⟩ := Kd.R_slice HO112.out; subst eo15; obtain ⟨Ao16, co16, eo16⟩ := Kd.R_slice HO109.out; subst eo16) | ((with_reducible refine gate_callee (f := 16) rfl ?_); refine goesL_ (some 10) rfl rfl Tryz.func16 (by kernel_rfl) rfl #[.agg #[.slice Ao10 y101.length co10, .slice Ao9 y104.length co9], .agg #[.slice Ao16 y107.length co16, .slice Ao15 y110.length co15]] rfl T2_ ?_; (with_reducible refine (array_MatMul.calls _ _ y101 _ _ y104 _ _ y107 _ _ y110 t113 t116 t119 _ (Err.Gs.below HGs.out T1_) ?side1 ?side2 ?side3 ?side4 ?side5 ?side6 ?side7 ?side8 A1.out).mono ?_); (case side1 => exact C2_ HO103); (case side2 => exact (Kd.R_reads' HO103.out).2.1); (case side3 => exact C2_ HO106); (case side4 => exact (Kd.R_reads' HO106.out).2.1); (case side5 => exact C2_ HO109); (case side6 => exact (Kd.R_reads' HO109.out).2.1); (case side7 => exact C2_ HO112); (case side8 => exact (Kd.R_reads' HO112.out).2.1); rintro e w17 ⟨v114, v117, rfl, ho0, ho1, hb⟩; refine ⟨_, rfl, ?_⟩; have HO115 := Aside0.mk (Kd.R_lower ho0 (below_size T1_)); replace HO103 := RC_ HO103 hb; replace HO109 := RC_ HO109 hb; have HO118 := Aside0.mk (Kd.R_lower ho1 (below_size T1_)); replace HO106 := RC_ HO106 hb; replace HO112 := RC_ HO112 hb; replace HB := Aside0.mk (below_step T1_ hb); clear hb ho0 ho1) | ((with_reducible refine gate_dst (N := 1) rfl ?_); refine box_event ?hg (N := 1) ?hd (cs := #[.slice none 0 0, .slice none 0 0]) (t := 25) ?hr ?_; (case hd => rfl); (case hg => rfl); (case hr => exact T3_); intro gb120 hg w18 hbox hb; replace HO103 := RC_ HO103 hb; replace HO106 := RC_ HO106 hb; replace HO109 := RC_ HO109 hb; replace HO112 := RC_ HO112 hb; replace HO115 := RC_ HO115 hb; replace HO118 := RC_ HO118 hb; have BK120 := Aside0.mk (hbox); have GW120 := GE_ hg; have GE120 := GE_ hg; replace HB := Aside0.mk (below_step T1_ hb); clear hb hbox hg; obtain ⟨Ao19, co19, eo19⟩ := Kd.R_slice HO115.out; subst eo19; have hcz20_0 := CA_ BK120; have hcz20_1 := CB_ BK120; have hfz20_0 := blk_frozen BK120.out 0; have hfz20_1 := blk_frozen BK120.out 1; obtain ⟨Ao21, co21, eo21⟩ := Kd.R_slice HO118.out; subst eo21; have p121 : 0 ≤ (0 : Int) := (by omega); have q121 : 0 < (t116.length : Int) := DA_; obtain ⟨ad121, e121, hx121_0⟩ := Kd.at_string (Kd.R_reads' HO118.out).2.2 0 p121 q121; cases e121; have qi121 : (0 < t116.length) = True := eq_true (by omega); (try rw [show ((0 : Int)).toNat = 0 from rfl] at hx121_0); (try rw [Addr.add_zero'] at hx121_0); have hn121_0 : ad121.block ≠ gb120 := Kd.own_blk (Kd.R_ne HO118.out BK120.out (by decide)); have hn121_1 : ad121.block ≠ gb120 := Kd.own_blk (Kd.R_ne HO118.out BK120.out (by decide)); replace hx121_0 := (cell_far (p := ⟨gb120, 0, none⟩) (by first | (rw [add_block]; exact hn121_0) | (show (Addr.add _ _).block ≠ _; rw [add_block]; exact hn121_0) | exact hn121_0) (.slice Ao19 t113.length co19)).trans hx121_0; replace hx121_0 := (cell_far (p := ⟨gb120, 1, none⟩) (by first | (rw [add_block]; exact hn121_1) | (show (Addr.add _ _).block ≠ _; rw [add_block]; exact hn121_1) | exact hn121_1) (.slice (some ad121) t116.length co21)).trans hx121_0; clear hn121_0; clear hn121_1; replace p121 := eq_true p121; replace q121 := eq_true q121))
    go_ret
    exact ⟨T4_, T9_⟩
   ·
    rw [if_neg c4] at H;have c4b0 : ((rdOf ByteArray.empty t116 0).toList == ([49, 49] : List UInt8)) = false := beq_eq_false_iff_ne.mpr c4;have c4b1 : ((rdOf ByteArray.empty t116 0).toList != ([49, 49] : List UInt8)) = true := bne_iff_ne.mpr c4;exact absurd ((Option.some.inj H).trans HRT.out) (by decide)
  ·
   rw [if_neg c3] at H;exact absurd H (by simp)
 ·
  rw [if_neg c2] at H;have c2b0 : ((t116.length : Int) == 1) = false := beq_eq_false_iff_ne.mpr c2;have c2b1 : ((t116.length : Int) != 1) = true := bne_iff_ne.mpr c2;exact absurd ((Option.some.inj H).trans HRT.out) (by decide)
/-- THE ONE PURE STATEMENT of tapewrightlaw06_awake: yours. -/
def tapewrightlaw06_awake.Pure : Prop := tapewrightlaw06_awake.f  = some true
theorem tapewrightlaw06_awake.walk (P : tapewrightlaw06_awake.Pure)  (w : World) (hG : Err.Gs w)  :
  Calls Tryz.prog 13 #[] w fun e w' => e = .returned (.bool true) ∧ Below w.heap.size w w' := by
 have h := P  ;refine (tapewrightlaw06_awake.calls  true w hG rfl h).mono ?_;rintro e w' ⟨rfl, hd⟩;exact ⟨rfl, hd⟩
end Go.Proofs.YtmmonhgfnmeieaaGreatDoor.PW
