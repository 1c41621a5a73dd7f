-- by wip/tool/mine.py of this repo (the kit's printer with given contracts)
import Derived.Test.YtmmonhgfnmeieaaGreatDoorProg
import Derived.Test.YtmmonhgfnmeieaaGreatDoorWd
import Derived.Below
import Derived.Deep.Draws
import Derived.Deep.AppendLies
import Derived.Maps.AppendAt
import Derived.OwnWalk
import Derived.Laws.BytesArg
import Derived.Laws.MakeOwn
import Derived.Laws.OwnMore
import Derived.Deep.OwnRows
import Derived.Tactics
import Derived.Lib.ConvBytes
import Derived.Laws.Slices
import Derived.WalkKit
import Derived.KernelRfl
import Derived.RowKit3
import Derived.Deep.LoopGhost
import Derived.Deep.QuietTactic
import Derived.BigQuiet
import Derived.WideLaws
import Derived.Deep.DeepCutAuto
import Derived.Deep.CutBlock
import Derived.Deep.RegionHeld3
import Derived.Laws.Rows
import Derived.Lib.AppendStr
import Derived.ArgAppend
import Derived.Laws.IdiomCopy
import Derived.OrdersHeld
import Derived.Laws.BitsLemmas
import Derived.RowKit
import Derived.Test.YtmmonhgfnmeieaaGreatDoorMine
import Derived.Test.YtmmonhgfnmeieaaGreatDoorTenF
namespace Go.Proofs.YtmmonhgfnmeieaaGreatDoor.PP
open Go.RowKit Go.Proofs.YtmmonhgfnmeieaaGreatDoorW.PrintWords Go.Proofs.YtmmonhgfnmeieaaGreatDoorW.PrintLast Go.Proofs.YtmmonhgfnmeieaaGreatDoorW.PrintMore
attribute [local go_sem] max2_int min2_int max_two min_two max_three min_three max_four min_four   -- for this text's walks alone
set_option linter.unusedVariables false
set_option linter.unusedSimpArgs false
set_option maxHeartbeats 8000000
set_option maxRecDepth 100000
def errW : Option Int → Value
 | none => .nilIface
 | some c => .iface 0 (.int .i64 c)
theorem errW_none : errW none = .nilIface := rfl
theorem errW_some (c : Int) : errW (some c) = .iface 0 (.int .i64 c) := rfl
/-! ### tensor_Right: function 29 -/
open Classical in
noncomputable def tensor_Right.f (l0_0 : List Int) (l0_1 : List ByteArray) : Option Bool := if Ten.Sm l0_0 l0_1 then some (Ten.tRight ⟨l0_0, l0_1⟩) else none
theorem tensor_Right.calls (A0_0 : Option Addr) (c0_0 : Nat) (l0_0 : List Int) (A0_1 : Option Addr) (c0_1 : Nat) (l0_1 : List ByteArray) (r : Bool) (w : World) (hG : Err.Gs w) (hr0_0 : Kd.C (Kd.int .i64) w A0_0 l0_0.length l0_0) (hc0_0 : l0_0.length ≤ c0_0) (hr0_1 : Kd.C Kd.string w A0_1 l0_1.length l0_1) (hc0_1 : l0_1.length ≤ c0_1) (h : tensor_Right.f l0_0 l0_1 = some r) :
  Calls Tryz.prog 29 #[.agg #[.slice A0_0 l0_0.length c0_0, .slice A0_1 l0_1.length c0_1]] w fun e w' => e = .returned (.bool r) ∧ Below w.heap.size w w' := by
 unfold tensor_Right.f at h
 split at h
 ·
  rename_i hl
  injection h with h;subst h;exact Ten.tright_calls A0_0 c0_0 A0_1 c0_1 ⟨l0_0, l0_1⟩ w hG hr0_0 hc0_0 hr0_1 hl.1 hl.2.1 hl.big
 ·
  cases h
theorem tensor_Right.of (s : List Int) (d : List ByteArray) (h : Ten.Sm s d) : tensor_Right.f s d = some (Ten.tRight ⟨s, d⟩) := by rw [tensor_Right.f, if_pos h]
/-! ### shape_Right: function 30 -/
noncomputable def shape_Right.f (l0 : List Int) : Option Bool := if l0.length ≤ 1000 then some (Ten.shOk l0) else none
theorem shape_Right.calls (A0 : Option Addr) (c0 : Nat) (l0 : List Int) (r : Bool) (w : World) (hr0 : Kd.C (Kd.int .i64) w A0 l0.length l0) (hc0 : l0.length ≤ c0) (h : shape_Right.f l0 = some r) :
  Calls Tryz.prog 30 #[.slice A0 l0.length c0] w fun e w' => e = .returned (.bool r) ∧ Below w.heap.size w w' := by
 unfold shape_Right.f at h
 split at h
 ·
  rename_i hl
  injection h with h;subst h
  exact (Ten.shRight_q A0 c0 l0 w hr0 hc0 hl).mono fun e w' hh => ⟨hh.1, hh.2.below⟩
 ·
  cases h
theorem shape_Right.of (s : List Int) (h : s.length ≤ 1000) : shape_Right.f s = some (Ten.shOk s) := by rw [shape_Right.f, if_pos h]
/-! ### tensor_Fill: function 45 -/
open Classical in
noncomputable def tensor_Fill.f (l0 : List Int) (a1 : ByteArray) : Option (List Int × List ByteArray × Int) := if l0.length ≤ 1000 ∧ a1.size ≤ 40000000000 then some ((Ten.tFill l0 a1).1.s, (Ten.tFill l0 a1).1.d, (Ten.tFill l0 a1).2) else none
theorem tensor_Fill.calls (A0 : Option Addr) (c0 : Nat) (l0 : List Int) (a1 : ByteArray) (r1 : List Int) (r2 : List ByteArray) (r3 : Int) (w : World) (hG : Err.Gs w) (hr0 : Kd.C (Kd.int .i64) w A0 l0.length l0) (hc0 : l0.length ≤ c0) (h : tensor_Fill.f l0 a1 = some (r1, r2, r3)) :
  Calls Tryz.prog 45 #[.slice A0 l0.length c0, .string a1] w fun e w' => ∃ v0_ v1_ : Value, e = .returned (.tuple #[.agg #[v0_, v1_], .int .i64 r3]) ∧ Kd.R (Kd.int .i64) 3 w' w.heap.size (fun _ => True) v0_ r1 ∧ Kd.R Kd.string 9 w' w.heap.size (fun _ => True) v1_ r2 ∧ Below w.heap.size w w' := by
 unfold tensor_Fill.f at h
 split at h
 ·
  rename_i hl
  injection h with h;injection h with h1 h2;injection h2 with h2 h3;subst h1 h2 h3;exact Ten.fill_calls A0 c0 l0 a1 w hG hr0 hc0 hl.1 hl.2
 ·
  cases h
theorem tensor_Fill.of (s : List Int) (k : ByteArray) (h : s.length ≤ 1000) (hk : k.size ≤ 40000000000) : tensor_Fill.f s k = some ((Ten.tFill s k).1.s, (Ten.tFill s k).1.d, (Ten.tFill s k).2) := by rw [tensor_Fill.f, if_pos ⟨h, hk⟩]
/-! ### array_Spread: function 24 -/
noncomputable def array_Spread.j0 : Nat → List Int → Bool → List Int → List ByteArray → Option (List Int × List ByteArray × Int)
 | 0, _, _, _, _ => none
 | k + 1, x1, x6, x102000, x102001 => if x6 = true then (some (([] : List Int), ([] : List ByteArray), 1)) else (if (x102000.length : Int) = 0 then (if 0 < (x102001.length : Int) then ((tensor_Fill.f x1 (rdOf ByteArray.empty x102001 0)).bind fun bt106 => (some (bt106.1, bt106.2.1, bt106.2.2))) else (none)) else (some (([] : List Int), ([] : List ByteArray), 4)))
noncomputable def array_Spread.f (k : Nat) (l0_0 : List Int) (l0_1 : List ByteArray) (l1 : List Int) : Option (List Int × List ByteArray × Int) := (tensor_Right.f l0_0 l0_1).bind fun t103 => (if t103 = true then ((shape_Right.f l1).bind fun t104 => (array_Spread.j0 k l1 (!t104) l0_0 l0_1)) else (array_Spread.j0 k l1 true l0_0 l0_1))
theorem array_Spread.calls (k : Nat) (A0_0 : Option Addr) (c0_0 : Nat) (l0_0 : List Int) (A0_1 : Option Addr) (c0_1 : Nat) (l0_1 : List ByteArray) (A1 : Option Addr) (c1 : Nat) (l1 : List Int) (r1 : List Int) (r2 : List ByteArray) (r3 : Int) (w : World) (hG : Err.Gs w) (hr0_0 : Kd.C (Kd.int .i64) w A0_0 l0_0.length l0_0) (hc0_0 : l0_0.length ≤ c0_0) (hr0_1 : Kd.C Kd.string w A0_1 l0_1.length l0_1) (hc0_1 : l0_1.length ≤ c0_1) (hr1 : Kd.C (Kd.int .i64) w A1 l1.length l1) (hc1 : l1.length ≤ c1) (h : array_Spread.f k l0_0 l0_1 l1 = some (r1, r2, r3)) :
  Calls Tryz.prog 24 #[.agg #[.slice A0_0 l0_0.length c0_0, .slice A0_1 l0_1.length c0_1], .slice A1 l1.length c1] w fun e w' => ∃ v0_ v1_ : Value, e = .returned (.tuple #[.agg #[v0_, v1_], .int .i64 r3]) ∧ Kd.R (Kd.int .i64) 3 w' w.heap.size (fun _ => True) v0_ r1 ∧ Kd.R Kd.string 9 w' w.heap.size (fun _ => True) v1_ r2 ∧ Below w.heap.size w w' := by
 have hu25 := Tryz.underlying25;have HR0_0 := Aside0.mk hr0_0;have HC0_0 := Aside0.mk hc0_0;clear hr0_0 hc0_0;have HR0_1 := Aside0.mk hr0_1;have HC0_1 := Aside0.mk hc0_1;clear hr0_1 hc0_1;have HR1 := Aside0.mk hr1;have HC1 := Aside0.mk hc1;clear hr1 hc1;have HB := Aside0.mk (Below.refl w.heap.size w);have HGs := Aside0.mk hG;clear hG;unfold array_Spread.f at h;have H := h;clear h;have HC3 := Aside0.mk H;clear H;go_enter Tryz.func24, Tryz.ntmps24
 go_upto_region 1 with (first | ((with_reducible refine gate_dst (N := 2) rfl ?_); refine box_event ?hg (N := 2) ?hd (cs := #[.slice A0_0 l0_0.length c0_0, .slice A0_1 l0_1.length c0_1]) (t := 25) ?hr ?_; (case hd => rfl); (case hg => rfl); (case hr => exact T3_); intro gb101 hg w4 hbox hb; have BK101 := Aside0.mk (hbox); have GW101 := GE_ hg; have GE101 := GE_ hg; replace HB := Aside0.mk (below_step T1_ hb); clear hb hbox hg) | ((with_reducible refine gate_dst (N := 4) rfl ?_); refine box_event ?hg (N := 4) ?hd (cs := #[.slice none 0 0, .slice none 0 0]) (t := 25) ?hr ?_; (case hd => rfl); (case hg => rfl); (case hr => exact T3_); intro gb102 hg w5 hbox hb; have BK102 := Aside0.mk (hbox); have GW102 := GE_ hg; have GE102 := GE_ hg; replace HB := Aside0.mk (below_step T9_ hb); have NB101_102 := NB_ BK101 hg; have NB102_101 := NC_ BK101 hg; replace BK101 := BF_ BK101 hb; clear hb hbox hg))
 (try simp only [Act.put, List.setIfInBounds_toArray, List.set_cons_zero, List.set_cons_succ])
 go_cut [6] (fun v6 wc => ∃ (kq : Nat) (x6_2 : Bool), v6 = .bool x6_2 ∧ Aside0 (array_Spread.j0 kq l1 x6_2 l0_0 l0_1 = some (r1, r2, r3)) ∧ Aside0 (kq ≤ k) ∧ Aside0 (wc.heap[gb101]? = some (.cells #[(.slice A0_0 l0_0.length c0_0), (.slice A0_1 l0_1.length c0_1)] 25 (0, 0))) ∧ Aside0 (wc.heap[gb102]? = some (.cells #[(.slice none 0 0), (.slice none 0 0)] 25 (0, 0))) ∧ Aside0 (Below w.heap.size w wc))
 case first =>
  have H := HC3.out;clear HC3;replace H := Option.bind_eq_some_iff.mp H;obtain ⟨t103, A60, H⟩ := H;have A6 := Aside0.mk A60;clear A60
  by_cases c7 : t103 = true
  ·
   subst c7;rw [if_pos rfl] at H;replace H := Option.bind_eq_some_iff.mp H;obtain ⟨t104, A80, H⟩ := H;have A8 := Aside0.mk A80;clear A80;have H' := Aside0.mk H;clear H;have hnb9 := NB101_102.out;have hnc9 := NB102_101.out;have hcz10_0 := CA_ BK101;have hcz10_1 := CB_ BK101;have hfz10_0 := blk_frozen BK101.out 0;have hfz10_1 := blk_frozen BK101.out 1
   go_wp2_with (first | ((with_reducible refine gate_callee (f := 29) rfl ?_); refine goesL_ (some 8) rfl rfl Tryz.func29 (by kernel_rfl) rfl #[.agg #[.slice A0_0 l0_0.length c0_0, .slice A0_1 l0_1.length c0_1]] rfl T2_ ?_; (with_reducible refine (tensor_Right.calls _ _ l0_0 _ _ l0_1 true _ (Err.Gs.below HGs.out T9_) ?side1 ?side2 ?side3 ?side4 A6.out).mono ?_); (case side1 => exact C1_ (Kd.C_below HR0_0.out HB.out)); (case side2 => exact HC0_0.out); (case side3 => exact C1_ (Kd.C_below HR0_1.out HB.out)); (case side4 => exact HC0_1.out); rintro e w11 ⟨rfl, hb⟩; refine ⟨_, rfl, ?_⟩; replace BK101 := BF_ BK101 hb; replace BK102 := BF_ BK102 hb; replace HB := Aside0.mk (below_step T9_ hb); clear hb) | (go_at_call 30; (with_reducible refine (shape_Right.calls _ _ l1 t104 _ ?side1 ?side2 A8.out).mono ?_); (case side1 => exact C1_ (Kd.C_below HR1.out HB.out)); (case side2 => exact HC1.out); rintro e w12 ⟨rfl, hb⟩; replace BK101 := BF_ BK101 hb; replace BK102 := BF_ BK102 hb; replace HB := Aside0.mk (below_step T9_ hb); clear hb))
   go_meet
   case rel => exact ⟨_, (!t104), S1_, H', ⟨by first | omega | exact Nat.le_refl _⟩, BW_ BK101, BW_ BK102, ⟨T9_⟩⟩
  ·
   replace c7 := Bool.eq_false_iff.mpr c7;subst c7;rw [if_neg (show ¬ (false = true) by decide)] at H;have H' := Aside0.mk H;clear H;have hnb13 := NB101_102.out;have hnc13 := NB102_101.out;have hcz14_0 := CA_ BK101;have hcz14_1 := CB_ BK101;have hfz14_0 := blk_frozen BK101.out 0;have hfz14_1 := blk_frozen BK101.out 1
   go_wp2_with (first | ((with_reducible refine gate_callee (f := 29) rfl ?_); refine goesL_ (some 8) rfl rfl Tryz.func29 (by kernel_rfl) rfl #[.agg #[.slice A0_0 l0_0.length c0_0, .slice A0_1 l0_1.length c0_1]] rfl T2_ ?_; (with_reducible refine (tensor_Right.calls _ _ l0_0 _ _ l0_1 false _ (Err.Gs.below HGs.out T9_) ?side1 ?side2 ?side3 ?side4 A6.out).mono ?_); (case side1 => exact C1_ (Kd.C_below HR0_0.out HB.out)); (case side2 => exact HC0_0.out); (case side3 => exact C1_ (Kd.C_below HR0_1.out HB.out)); (case side4 => exact HC0_1.out); rintro e w15 ⟨rfl, hb⟩; refine ⟨_, rfl, ?_⟩; replace BK101 := BF_ BK101 hb; replace BK102 := BF_ BK102 hb; replace HB := Aside0.mk (below_step T9_ hb); clear hb))
   go_meet
   case rel => exact ⟨_, (true), S1_, H', ⟨by first | omega | exact Nat.le_refl _⟩, BW_ BK101, BW_ BK102, ⟨T9_⟩⟩
 case rest =>
  clear HC3
  try clear c1
  try clear c2
  try clear p2
  try clear c7
  try clear c9
  try clear c13
  try clear hcz10_0
  try clear hcz10_1
  try clear hcz14_0
  try clear hcz14_1
  try clear hfz10_0
  try clear hfz10_1
  try clear hfz14_0
  try clear hfz14_1
  obtain ⟨kq, x6_2, rfl, HA, HJ2, BK101, BK102, HB⟩ := hcut
  cases kq with
  | zero => exact absurd HA.out (by simp [array_Spread.j0])
  | succ kj2 =>
   have H := HA.out;clear HA;simp only [array_Spread.j0] at H
   by_cases c16 : x6_2 = true
   ·
    subst c16;rw [if_pos rfl] at H;simp only [Option.some.injEq, Prod.mk.injEq] at H;obtain ⟨rfl, rfl, rfl⟩ := H;have hnb17 := NB102_101.out;have hnc17 := NB101_102.out;have hcz18_0 : wc.cell? ⟨gb102, 0, none⟩ = some (.slice none 0 0) := (blk_cell BK102.out 0).trans rfl;have hcz18_1 : wc.cell? ⟨gb102, 1, none⟩ = some (.slice none 0 0) := (blk_cell BK102.out 1).trans rfl;have hfz18_0 := blk_frozen BK102.out 0;have hfz18_1 := blk_frozen BK102.out 1
    go_wp2
    refine bodyPost_ret (results_ct rfl _ _ gb102 25 #[.slice none 0 0, .slice none 0 0] (0, 0) _ rfl (by (with_reducible repeat (first | refine blk_drewN ?_ _ | refine blk_drew ?_ | refine blk_alloc ?_ _)); refine blk_put (cs := #[.slice none 0 0, .slice none 0 0]) ?_ 1 _ rfl; (with_reducible repeat (first | refine blk_drewN ?_ _ | refine blk_drew ?_ | refine blk_alloc ?_ _)); refine blk_put (cs := #[.slice none 0 0, .slice none 0 0]) ?_ 0 _ rfl; (with_reducible repeat (first | refine blk_drewN ?_ _ | refine blk_drew ?_ | refine blk_alloc ?_ _)); exact BK102.out) Tryz.underlying25 rfl (by kernel_rfl)) rfl ?_;exact ⟨_, _, by first | rfl | (simp [errW_none, errW_some] <;> rfl) | (simp [*, errW_none, errW_some] <;> rfl), by first | exact Kd.R_nil _ _ _ _ _ | exact Kd.N_nil _ _ _ _ _ | exact Kd.V_nil _ _ _ _ _ | exact Kd.Q_nil _ _ _ _ _ | exact Kd.S_nil _ _ _ _ _, by first | exact Kd.R_nil _ _ _ _ _ | exact Kd.N_nil _ _ _ _ _ | exact Kd.V_nil _ _ _ _ _ | exact Kd.Q_nil _ _ _ _ _ | exact Kd.S_nil _ _ _ _ _, T9_⟩
   ·
    replace c16 := Bool.eq_false_iff.mpr c16;subst c16;rw [if_neg (show ¬ (false = true) by decide)] at H
    by_cases c19 : (l0_0.length : Int) = 0
    ·
     rw [if_pos c19] at H;have c19b0 : ((l0_0.length : Int) == 0) = true := beq_iff_eq.mpr c19;have c19b1 : ((l0_0.length : Int) != 0) = false := bne_eq_false_iff_eq.mpr c19;clear c19
     by_cases c20 : 0 < (l0_1.length : Int)
     ·
      rw [if_pos c20] at H;have c20b0 : decide (0 < (l0_1.length : Int)) = true := decide_eq_true c20;have c20b1 : decide (0 < l0_1.length) = true := decide_eq_true (by omega);clear c20;replace H := Option.bind_eq_some_iff.mp H;obtain ⟨⟨t106, t109, t112⟩, A210, H⟩ := H;have A21 := Aside0.mk A210;clear A210;simp only [Option.some.injEq, Prod.mk.injEq] at H;obtain ⟨rfl, rfl, rfl⟩ := H;have hnb22 := NB101_102.out;have hnc22 := NB102_101.out;have hcz23_0 := CA_ BK101;have hcz23_1 := CB_ BK101;have hfz23_0 := blk_frozen BK101.out 0;have hfz23_1 := blk_frozen BK101.out 1;have p105 : 0 ≤ (0 : Int) := (by omega);have q105 : 0 < (l0_1.length : Int) := DA_;obtain ⟨ad105, e105, hx105_0⟩ := Kd.at_string HR0_1.out 0 p105 q105
      cases e105
      have qi105 : (0 < l0_1.length) = True := eq_true (by omega)
      (try rw [show ((0 : Int)).toNat = 0 from rfl] at hx105_0)
      (try rw [Addr.add_zero'] at hx105_0)
      replace hx105_0 := (HB.out.cell (World.block_lt_of_cell? w _ hx105_0)).trans hx105_0;replace p105 := eq_true p105;replace q105 := eq_true q105
      go_wp2_with (first | ((with_reducible refine gate_callee (f := 45) rfl ?_); refine goesL_ (some 27) rfl rfl Tryz.func45 (by kernel_rfl) rfl #[.slice A1 l1.length c1, .string (rdOf ByteArray.empty l0_1 0)] rfl T2_ ?_; (with_reducible refine (tensor_Fill.calls _ _ l1 (rdOf ByteArray.empty l0_1 0) t106 t109 t112 _ (Err.Gs.below HGs.out T9_) ?side1 ?side2 A21.out).mono ?_); (case side1 => exact C1_ (Kd.C_below HR1.out HB.out)); (case side2 => exact HC1.out); rintro e w24 ⟨v107, v110, rfl, ho0, ho1, hb⟩; refine ⟨_, rfl, ?_⟩; have HO108 := Aside0.mk (Kd.R_lower ho0 (below_size T9_)); have HO111 := Aside0.mk (Kd.R_lower ho1 (below_size T9_)); replace BK101 := BF_ BK101 hb; replace BK102 := BF_ BK102 hb; replace HB := Aside0.mk (below_step T9_ hb); clear hb ho0 ho1; obtain ⟨Ao25, co25, eo25⟩ := Kd.R_slice HO108.out; subst eo25; have hcz26_0 : w24.cell? ⟨gb102, 0, none⟩ = some (.slice none 0 0) := (blk_cell BK102.out 0).trans rfl; have hcz26_1 : w24.cell? ⟨gb102, 1, none⟩ = some (.slice none 0 0) := (blk_cell BK102.out 1).trans rfl; have hfz26_0 := blk_frozen BK102.out 0; have hfz26_1 := blk_frozen BK102.out 1; obtain ⟨Ao27, co27, eo27⟩ := Kd.R_slice HO111.out; subst eo27))
      refine bodyPost_ret (results_ct rfl _ _ gb102 25 #[.slice Ao25 t106.length co25, .slice Ao27 t109.length co27] (0, 0) _ rfl (by (with_reducible repeat (first | refine blk_drewN ?_ _ | refine blk_drew ?_ | refine blk_alloc ?_ _)); refine blk_put (cs := #[.slice Ao25 t106.length co25, .slice none 0 0]) ?_ 1 _ rfl; (with_reducible repeat (first | refine blk_drewN ?_ _ | refine blk_drew ?_ | refine blk_alloc ?_ _)); refine blk_put (cs := #[.slice none 0 0, .slice none 0 0]) ?_ 0 _ rfl; (with_reducible repeat (first | refine blk_drewN ?_ _ | refine blk_drew ?_ | refine blk_alloc ?_ _)); exact BK102.out) Tryz.underlying25 rfl (by kernel_rfl)) rfl ?_;exact ⟨_, _, by first | rfl | (simp [errW_none, errW_some] <;> rfl) | (simp [*, errW_none, errW_some] <;> rfl), by (with_reducible repeat (first | apply Kd.R_alloc | apply Kd.R_drewN | apply Kd.R_drew)); exact Kd.R_mono (Kd.R_far (p := ⟨gb102, 1, none⟩) (Kd.R_far (p := ⟨gb102, 0, none⟩) (Kd.R_types HO108.out BK102.out (by decide)) (fun _ hk => hk.2) (.slice Ao25 t106.length co25)) (fun _ hk => hk.2) (.slice Ao27 t109.length co27)) (fun _ hk => trivial), by (with_reducible repeat (first | apply Kd.R_alloc | apply Kd.R_drewN | apply Kd.R_drew)); exact Kd.R_mono (Kd.R_far (p := ⟨gb102, 1, none⟩) (Kd.R_far (p := ⟨gb102, 0, none⟩) (Kd.R_types HO111.out BK102.out (by decide)) (fun _ hk => hk.2) (.slice Ao25 t106.length co25)) (fun _ hk => hk.2) (.slice Ao27 t109.length co27)) (fun _ hk => trivial), T9_⟩
     ·
      rw [if_neg c20] at H;exact absurd H (by simp)
    ·
     rw [if_neg c19] at H;have c19b0 : ((l0_0.length : Int) == 0) = false := beq_eq_false_iff_ne.mpr c19;have c19b1 : ((l0_0.length : Int) != 0) = true := bne_iff_ne.mpr c19
     have c19b2 : ¬ (l0_0 = []) := fun h_ => c19 (by rw [h_]; rfl)
     simp only [Option.some.injEq, Prod.mk.injEq] at H;obtain ⟨rfl, rfl, rfl⟩ := H;have hnb28 := NB101_102.out;have hnc28 := NB102_101.out;have hcz29_0 := CA_ BK101;have hcz29_1 := CB_ BK101;have hfz29_0 := blk_frozen BK101.out 0;have hfz29_1 := blk_frozen BK101.out 1;have hcz30_0 : wc.cell? ⟨gb102, 0, none⟩ = some (.slice none 0 0) := (blk_cell BK102.out 0).trans rfl;have hcz30_1 : wc.cell? ⟨gb102, 1, none⟩ = some (.slice none 0 0) := (blk_cell BK102.out 1).trans rfl;have hfz30_0 := blk_frozen BK102.out 0;have hfz30_1 := blk_frozen BK102.out 1
     go_wp2
     refine bodyPost_ret (results_ct rfl _ _ gb102 25 #[.slice none 0 0, .slice none 0 0] (0, 0) _ rfl (by (with_reducible repeat (first | refine blk_drewN ?_ _ | refine blk_drew ?_ | refine blk_alloc ?_ _)); refine blk_put (cs := #[.slice none 0 0, .slice none 0 0]) ?_ 1 _ rfl; (with_reducible repeat (first | refine blk_drewN ?_ _ | refine blk_drew ?_ | refine blk_alloc ?_ _)); refine blk_put (cs := #[.slice none 0 0, .slice none 0 0]) ?_ 0 _ rfl; (with_reducible repeat (first | refine blk_drewN ?_ _ | refine blk_drew ?_ | refine blk_alloc ?_ _)); exact BK102.out) Tryz.underlying25 rfl (by kernel_rfl)) rfl ?_;exact ⟨_, _, by first | rfl | (simp [errW_none, errW_some] <;> rfl) | (simp [*, errW_none, errW_some] <;> rfl), by first | exact Kd.R_nil _ _ _ _ _ | exact Kd.N_nil _ _ _ _ _ | exact Kd.V_nil _ _ _ _ _ | exact Kd.Q_nil _ _ _ _ _ | exact Kd.S_nil _ _ _ _ _, by first | exact Kd.R_nil _ _ _ _ _ | exact Kd.N_nil _ _ _ _ _ | exact Kd.V_nil _ _ _ _ _ | exact Kd.Q_nil _ _ _ _ _ | exact Kd.S_nil _ _ _ _ _, T9_⟩
end Go.Proofs.YtmmonhgfnmeieaaGreatDoor.PP
