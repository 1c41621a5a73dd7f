-- by wip/tool/mine.py of this repo (the kit's printer with given contracts)
import Derived.Test.YtmmonhgfnmeieaaGreatDoorProg
import Derived.Test.YtmmonhgfnmeieaaGreatDoorWd
import Derived.Below
import Derived.Deep.Draws
import Derived.Deep.AppendLies
import Derived.Maps.AppendAt
import Derived.OwnWalk
import Derived.Laws.BytesArg
import Derived.Laws.MakeOwn
import Derived.Laws.OwnMore
import Derived.Deep.OwnRows
import Derived.Tactics
import Derived.Lib.ConvBytes
import Derived.Laws.Slices
import Derived.WalkKit
import Derived.KernelRfl
import Derived.RowKit3
import Derived.Deep.LoopGhost
import Derived.Deep.QuietTactic
import Derived.BigQuiet
import Derived.WideLaws
import Derived.Deep.DeepCutAuto
import Derived.Deep.CutBlock
import Derived.Deep.RegionHeld3
import Derived.Laws.Rows
import Derived.Lib.AppendStr
import Derived.ArgAppend
import Derived.Laws.IdiomCopy
import Derived.OrdersHeld
import Derived.Laws.BitsLemmas
import Derived.RowKit
import Derived.Test.YtmmonhgfnmeieaaGreatDoorMine
import Derived.Test.YtmmonhgfnmeieaaGreatDoorTenU
namespace Go.Proofs.YtmmonhgfnmeieaaGreatDoor.PO
open Go.RowKit Go.Proofs.YtmmonhgfnmeieaaGreatDoorW.PrintWords Go.Proofs.YtmmonhgfnmeieaaGreatDoorW.PrintLast Go.Proofs.YtmmonhgfnmeieaaGreatDoorW.PrintMore
attribute [local go_sem] max2_int min2_int max_two min_two max_three min_three max_four min_four   -- for this text's walks alone
set_option linter.unusedVariables false
set_option linter.unusedSimpArgs false
set_option maxHeartbeats 8000000
set_option maxRecDepth 100000
def errW : Option Int → Value
 | none => .nilIface
 | some c => .iface 0 (.int .i64 c)
theorem errW_none : errW none = .nilIface := rfl
theorem errW_some (c : Int) : errW (some c) = .iface 0 (.int .i64 c) := rfl
theorem info9 : (Tryz.prog.info? 9).map (fun i => (i.zero, i.size, i.bytes)) = some (some (.string ⟨#[]⟩), 1, 16) := by kernel_rfl
/-! ### tensor_Sum: function 40 -/
open Classical in
noncomputable def tensor_Sum.f (l0_0 : List Int) (l0_1 : List ByteArray) : Option (ByteArray × Int) := if Ten.Sm l0_0 l0_1 ∧ ∀ p, (Ten.accS (l0_1.take p)).size ≤ 40000000000 then some (Ten.tSum ⟨l0_0, l0_1⟩) else none
theorem tensor_Sum.calls (A0_0 : Option Addr) (c0_0 : Nat) (l0_0 : List Int) (A0_1 : Option Addr) (c0_1 : Nat) (l0_1 : List ByteArray) (r1 : ByteArray) (r2 : Int) (w : World) (hG : Err.Gs w) (hr0_0 : Kd.C (Kd.int .i64) w A0_0 l0_0.length l0_0) (hc0_0 : l0_0.length ≤ c0_0) (hr0_1 : Kd.C Kd.string w A0_1 l0_1.length l0_1) (hc0_1 : l0_1.length ≤ c0_1) (h : tensor_Sum.f l0_0 l0_1 = some (r1, r2)) :
  Calls Tryz.prog 40 #[.agg #[.slice A0_0 l0_0.length c0_0, .slice A0_1 l0_1.length c0_1]] w fun e w' => e = .returned (.tuple #[.string r1, .int .i64 r2]) ∧ Below w.heap.size w w' := by
 unfold tensor_Sum.f at h
 split at h
 ·
  rename_i hl
  injection h with h;have := Ten.sum_calls A0_0 c0_0 A0_1 c0_1 l0_0 l0_1 w hG hr0_0 hc0_0 hr0_1 hl.1 hl.2;rw [h] at this;exact this
 ·
  cases h
theorem tensor_Sum.of (s : List Int) (d : List ByteArray) (h : Ten.Sm s d) (ha : ∀ p, (Ten.accS (d.take p)).size ≤ 40000000000) : tensor_Sum.f s d = some (Ten.tSum ⟨s, d⟩) := by rw [tensor_Sum.f, if_pos ⟨h, ha⟩]
/-! ### array_Total: function 22 -/
noncomputable def array_Total.f (l0_0 : List Int) (l0_1 : List ByteArray) : Option (List Int × List ByteArray × Int) := (tensor_Sum.f l0_0 l0_1).bind fun bt103 => (if bt103.2 = 0 then (some (([] : List Int), (([bt103.1] : List ByteArray)), 0)) else (some (([] : List Int), ([] : List ByteArray), bt103.2)))
theorem array_Total.calls (A0_0 : Option Addr) (c0_0 : Nat) (l0_0 : List Int) (A0_1 : Option Addr) (c0_1 : Nat) (l0_1 : List ByteArray) (r1 : List Int) (r2 : List ByteArray) (r3 : Int) (w : World) (hG : Err.Gs w) (hr0_0 : Kd.C (Kd.int .i64) w A0_0 l0_0.length l0_0) (hc0_0 : l0_0.length ≤ c0_0) (hr0_1 : Kd.C Kd.string w A0_1 l0_1.length l0_1) (hc0_1 : l0_1.length ≤ c0_1) (h : array_Total.f l0_0 l0_1 = some (r1, r2, r3)) :
  Calls Tryz.prog 22 #[.agg #[.slice A0_0 l0_0.length c0_0, .slice A0_1 l0_1.length c0_1]] w fun e w' => ∃ v0_ v1_ : Value, e = .returned (.tuple #[.agg #[v0_, v1_], .int .i64 r3]) ∧ Kd.R (Kd.int .i64) 3 w' w.heap.size (fun _ => True) v0_ r1 ∧ Kd.R Kd.string 9 w' w.heap.size (fun _ => True) v1_ r2 ∧ Below w.heap.size w w' := by
 have hu25 := Tryz.underlying25;have HR0_0 := Aside0.mk hr0_0;have HC0_0 := Aside0.mk hc0_0;clear hr0_0 hc0_0;have HR0_1 := Aside0.mk hr0_1;have HC0_1 := Aside0.mk hc0_1;clear hr0_1 hc0_1;have HB := Aside0.mk (Below.refl w.heap.size w);have HGs := Aside0.mk hG;clear hG;unfold array_Total.f at h;have H := h;clear h;replace H := Option.bind_eq_some_iff.mp H;obtain ⟨⟨t103, t104⟩, A20, H⟩ := H;have A2 := Aside0.mk A20;clear A20
 by_cases c3 : t104 = 0
 ·
  rw [if_pos c3] at H;have c3b0 : (t104 == 0) = true := beq_iff_eq.mpr c3;have c3b1 : (t104 != 0) = false := bne_eq_false_iff_eq.mpr c3;clear c3;obtain ⟨y105, hy105⟩ : ∃ y_ : List ByteArray, y_ = (([t103] : List ByteArray)) := ⟨_, rfl⟩
  replace H : (some (([] : List Int), y105, 0)) = some (r1, r2, r3) := by first | (rw [hy105]; with_reducible exact H) | (have H2_ := (Option.bind_some _ _).symm.trans H; rw [hy105]; with_reducible exact H2_) | (have H2_ := (Option.bind_some _ _).symm.trans H; with_reducible exact H2_) | with_reducible exact H | (rw [hy105]; exact H) | exact H
  have Ny105 := Aside0.mk hy105;clear hy105;simp only [Option.some.injEq, Prod.mk.injEq] at H;obtain ⟨rfl, rfl, rfl⟩ := H;go_enter Tryz.func22, Tryz.ntmps22
  go_wp2_with (first | ((with_reducible refine gate_dst (N := 1) rfl ?_); refine box_event ?hg (N := 1) ?hd (cs := #[.slice A0_0 l0_0.length c0_0, .slice A0_1 l0_1.length c0_1]) (t := 25) ?hr ?_; (case hd => rfl); (case hg => rfl); (case hr => exact T3_); intro gb101 hg w4 hbox hb; have BK101 := Aside0.mk (hbox); have GW101 := GE_ hg; have GE101 := GE_ hg; replace HB := Aside0.mk (below_step T1_ hb); clear hb hbox hg) | ((with_reducible refine gate_dst (N := 2) rfl ?_); refine box_event ?hg (N := 2) ?hd (cs := #[.slice none 0 0, .slice none 0 0]) (t := 25) ?hr ?_; (case hd => rfl); (case hg => rfl); (case hr => exact T3_); intro gb102 hg w5 hbox hb; have BK102 := Aside0.mk (hbox); have GW102 := GE_ hg; have GE102 := GE_ hg; replace HB := Aside0.mk (below_step T9_ hb); have NB101_102 := NB_ BK101 hg; have NB102_101 := NC_ BK101 hg; replace BK101 := BF_ BK101 hb; clear hb hbox hg; have hnb6 := NB101_102.out; have hnc6 := NB102_101.out; have hcz7_0 := CA_ BK101; have hcz7_1 := CB_ BK101; have hfz7_0 := blk_frozen BK101.out 0; have hfz7_1 := blk_frozen BK101.out 1) | ((with_reducible refine gate_callee (f := 40) rfl ?_); refine goesL_ (some 8) rfl rfl Tryz.func40 (by kernel_rfl) rfl #[.agg #[.slice A0_0 l0_0.length c0_0, .slice A0_1 l0_1.length c0_1]] rfl T2_ ?_; (with_reducible refine (tensor_Sum.calls _ _ l0_0 _ _ l0_1 t103 t104 _ (Err.Gs.below HGs.out T9_) ?side1 ?side2 ?side3 ?side4 A2.out).mono ?_); (case side1 => exact C1_ (Kd.C_below HR0_0.out HB.out)); (case side2 => exact HC0_0.out); (case side3 => exact C1_ (Kd.C_below HR0_1.out HB.out)); (case side4 => exact HC0_1.out); rintro e w8 ⟨rfl, hb⟩; refine ⟨_, rfl, ?_⟩; replace BK101 := BF_ BK101 hb; replace BK102 := BF_ BK102 hb; replace HB := Aside0.mk (below_step T9_ hb); clear hb) | ((with_reducible refine gate_dst (N := 16) rfl ?_); refine Kd.R_lit Kd.string _ 9 ?hg (N := 16) ?hd (xs := ([t103] : List ByteArray)) (inner := [.string t103]) (ok := fun _ => True) (okp := fun _ => True) ?hr ?hp (fun _ hk => hk) trivial (Below.refl _ _) (Nat.le_refl _) (by simp) ?_; (case hd => rfl); (case hg => rfl); (case hr => exact T3_); (case hp => exact (Reps.one (show Kd.M Kd.string _ _ _ t103 [.string t103] from rfl) (Reps.none _ _))); intro v106 w9 ho10 hb hg_ hnew_; clear hg_ hnew_; (first | rw [← Ny105.out] at ho10 | (simp only [Int.reduceToNat] at ho10; rw [← Ny105.out] at ho10)); have HO107 := Aside0.mk (Kd.R_lower ho10 (below_size T9_)); replace BK101 := BF_ BK101 hb; replace BK102 := BF_ BK102 hb; replace HB := Aside0.mk (below_step T9_ hb); clear hb ho10; obtain ⟨Ao11, co11, eo11⟩ := Kd.R_slice HO107.out; subst eo11; have hcz12_0 : w9.cell? ⟨gb102, 0, none⟩ = some (.slice none 0 0) := (blk_cell BK102.out 0).trans rfl; have hcz12_1 : w9.cell? ⟨gb102, 1, none⟩ = some (.slice none 0 0) := (blk_cell BK102.out 1).trans rfl; have hfz12_0 := blk_frozen BK102.out 0; have hfz12_1 := blk_frozen BK102.out 1))
  refine bodyPost_ret (results_ct rfl _ _ gb102 25 #[.slice none 0 0, .slice Ao11 y105.length co11] (0, 0) _ rfl (by (with_reducible repeat (first | refine blk_drewN ?_ _ | refine blk_drew ?_ | refine blk_alloc ?_ _)); refine blk_put (cs := #[.slice none 0 0, .slice none 0 0]) ?_ 1 _ rfl; (with_reducible repeat (first | refine blk_drewN ?_ _ | refine blk_drew ?_ | refine blk_alloc ?_ _)); refine blk_put (cs := #[.slice none 0 0, .slice none 0 0]) ?_ 0 _ rfl; (with_reducible repeat (first | refine blk_drewN ?_ _ | refine blk_drew ?_ | refine blk_alloc ?_ _)); exact BK102.out) Tryz.underlying25 rfl (by kernel_rfl)) rfl ?_;exact ⟨_, _, by first | rfl | (simp [errW_none, errW_some] <;> rfl) | (simp [*, errW_none, errW_some] <;> rfl), by first | exact Kd.R_nil _ _ _ _ _ | exact Kd.N_nil _ _ _ _ _ | exact Kd.V_nil _ _ _ _ _ | exact Kd.Q_nil _ _ _ _ _ | exact Kd.S_nil _ _ _ _ _, by (with_reducible repeat (first | apply Kd.R_alloc | apply Kd.R_drewN | apply Kd.R_drew)); exact Kd.R_mono (Kd.R_far (p := ⟨gb102, 1, none⟩) (Kd.R_far (p := ⟨gb102, 0, none⟩) (Kd.R_types HO107.out BK102.out (by decide)) (fun _ hk => hk.2) (.slice none 0 0)) (fun _ hk => hk.2) (.slice Ao11 y105.length co11)) (fun _ hk => trivial), T9_⟩
 ·
  rw [if_neg c3] at H;have c3b0 : (t104 == 0) = false := beq_eq_false_iff_ne.mpr c3;have c3b1 : (t104 != 0) = true := bne_iff_ne.mpr c3;simp only [Option.some.injEq, Prod.mk.injEq] at H;obtain ⟨rfl, rfl, rfl⟩ := H;go_enter Tryz.func22, Tryz.ntmps22
  go_wp2_with (first | ((with_reducible refine gate_dst (N := 1) rfl ?_); refine box_event ?hg (N := 1) ?hd (cs := #[.slice A0_0 l0_0.length c0_0, .slice A0_1 l0_1.length c0_1]) (t := 25) ?hr ?_; (case hd => rfl); (case hg => rfl); (case hr => exact T3_); intro gb101 hg w13 hbox hb; have BK101 := Aside0.mk (hbox); have GW101 := GE_ hg; have GE101 := GE_ hg; replace HB := Aside0.mk (below_step T1_ hb); clear hb hbox hg) | ((with_reducible refine gate_dst (N := 2) rfl ?_); refine box_event ?hg (N := 2) ?hd (cs := #[.slice none 0 0, .slice none 0 0]) (t := 25) ?hr ?_; (case hd => rfl); (case hg => rfl); (case hr => exact T3_); intro gb102 hg w14 hbox hb; have BK102 := Aside0.mk (hbox); have GW102 := GE_ hg; have GE102 := GE_ hg; replace HB := Aside0.mk (below_step T9_ hb); have NB101_102 := NB_ BK101 hg; have NB102_101 := NC_ BK101 hg; replace BK101 := BF_ BK101 hb; clear hb hbox hg; have hnb15 := NB101_102.out; have hnc15 := NB102_101.out; have hcz16_0 := CA_ BK101; have hcz16_1 := CB_ BK101; have hfz16_0 := blk_frozen BK101.out 0; have hfz16_1 := blk_frozen BK101.out 1) | ((with_reducible refine gate_callee (f := 40) rfl ?_); refine goesL_ (some 8) rfl rfl Tryz.func40 (by kernel_rfl) rfl #[.agg #[.slice A0_0 l0_0.length c0_0, .slice A0_1 l0_1.length c0_1]] rfl T2_ ?_; (with_reducible refine (tensor_Sum.calls _ _ l0_0 _ _ l0_1 t103 t104 _ (Err.Gs.below HGs.out T9_) ?side1 ?side2 ?side3 ?side4 A2.out).mono ?_); (case side1 => exact C1_ (Kd.C_below HR0_0.out HB.out)); (case side2 => exact HC0_0.out); (case side3 => exact C1_ (Kd.C_below HR0_1.out HB.out)); (case side4 => exact HC0_1.out); rintro e w17 ⟨rfl, hb⟩; refine ⟨_, rfl, ?_⟩; replace BK101 := BF_ BK101 hb; replace BK102 := BF_ BK102 hb; replace HB := Aside0.mk (below_step T9_ hb); clear hb; have hcz18_0 : w17.cell? ⟨gb102, 0, none⟩ = some (.slice none 0 0) := (blk_cell BK102.out 0).trans rfl; have hcz18_1 : w17.cell? ⟨gb102, 1, none⟩ = some (.slice none 0 0) := (blk_cell BK102.out 1).trans rfl; have hfz18_0 := blk_frozen BK102.out 0; have hfz18_1 := blk_frozen BK102.out 1))
  refine bodyPost_ret (results_ct rfl _ _ gb102 25 #[.slice none 0 0, .slice none 0 0] (0, 0) _ rfl (by (with_reducible repeat (first | refine blk_drewN ?_ _ | refine blk_drew ?_ | refine blk_alloc ?_ _)); refine blk_put (cs := #[.slice none 0 0, .slice none 0 0]) ?_ 1 _ rfl; (with_reducible repeat (first | refine blk_drewN ?_ _ | refine blk_drew ?_ | refine blk_alloc ?_ _)); refine blk_put (cs := #[.slice none 0 0, .slice none 0 0]) ?_ 0 _ rfl; (with_reducible repeat (first | refine blk_drewN ?_ _ | refine blk_drew ?_ | refine blk_alloc ?_ _)); exact BK102.out) Tryz.underlying25 rfl (by kernel_rfl)) rfl ?_;exact ⟨_, _, by first | rfl | (simp [errW_none, errW_some] <;> rfl) | (simp [*, errW_none, errW_some] <;> rfl), by first | exact Kd.R_nil _ _ _ _ _ | exact Kd.N_nil _ _ _ _ _ | exact Kd.V_nil _ _ _ _ _ | exact Kd.Q_nil _ _ _ _ _ | exact Kd.S_nil _ _ _ _ _, by first | exact Kd.R_nil _ _ _ _ _ | exact Kd.N_nil _ _ _ _ _ | exact Kd.V_nil _ _ _ _ _ | exact Kd.Q_nil _ _ _ _ _ | exact Kd.S_nil _ _ _ _ _, T9_⟩
end Go.Proofs.YtmmonhgfnmeieaaGreatDoor.PO
