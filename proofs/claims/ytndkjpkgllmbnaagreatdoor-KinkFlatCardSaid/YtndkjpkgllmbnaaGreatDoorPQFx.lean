-- by wip/tool/mine.py of this repo (the kit's printer with given contracts)
import Derived.Test.YtndkjpkgllmbnaaGreatDoorProg
import Derived.Test.YtndkjpkgllmbnaaGreatDoorWd
import Derived.Below
import Derived.Deep.Draws
import Derived.Deep.AppendLies
import Derived.Maps.AppendAt
import Derived.OwnWalk
import Derived.Laws.BytesArg
import Derived.Laws.MakeOwn
import Derived.Laws.OwnMore
import Derived.Deep.OwnRows
import Derived.Tactics
import Derived.Lib.ConvBytes
import Derived.Laws.Slices
import Derived.WalkKit
import Derived.KernelRfl
import Derived.RowKit3
import Derived.Deep.LoopGhost
import Derived.Deep.QuietTactic
import Derived.BigQuiet
import Derived.WideLaws
import Derived.Deep.DeepCutAuto
import Derived.Deep.CutBlock
import Derived.Deep.RegionHeld3
import Derived.Laws.Rows
import Derived.Lib.AppendStr
import Derived.ArgAppend
import Derived.Laws.IdiomCopy
import Derived.OrdersHeld
import Derived.Laws.BitsLemmas
import Derived.RowKit
import Derived.Test.YtndkjpkgllmbnaaGreatDoorMine
import Derived.Test.YtndkjpkgllmbnaaGreatDoorPureAwW
import Derived.Test.YtndkjpkgllmbnaaGreatDoorKinW
import Derived.Test.YtndkjpkgllmbnaaGreatDoorKinF
import Derived.Test.YtndkjpkgllmbnaaGreatDoorTenU
namespace Go.Proofs.YtndkjpkgllmbnaaGreatDoor.PQF
open Go.RowKit Go.Proofs.YtndkjpkgllmbnaaGreatDoorW.PrintWords Go.Proofs.YtndkjpkgllmbnaaGreatDoorW.PrintLast Go.Proofs.YtndkjpkgllmbnaaGreatDoorW.PrintMore
attribute [local go_sem] max2_int min2_int max_two min_two max_three min_three max_four min_four   -- for this text's walks alone
set_option linter.unusedVariables false
set_option linter.unusedSimpArgs false
set_option maxHeartbeats 8000000
set_option maxRecDepth 100000
def errW : Option Int → Value
 | none => .nilIface
 | some c => .iface 0 (.int .i64 c)
theorem errW_none : errW none = .nilIface := rfl
theorem errW_some (c : Int) : errW (some c) = .iface 0 (.int .i64 c) := rfl
/-! ### tapewrightref05_Small: function 11 -/
noncomputable def tapewrightref05_Small.f (l0_0 : List Int) (l0_1 : List ByteArray) : Option Bool := some (Ten.small ⟨l0_0, l0_1⟩)
theorem tapewrightref05_Small.calls (A0_0 : Option Addr) (c0_0 : Nat) (l0_0 : List Int) (A0_1 : Option Addr) (c0_1 : Nat) (l0_1 : List ByteArray) (r : Bool) (w : World) (hr0_0 : Kd.C (Kd.int .i64) w A0_0 l0_0.length l0_0) (hc0_0 : l0_0.length ≤ c0_0) (hr0_1 : Kd.C Kd.string w A0_1 l0_1.length l0_1) (hc0_1 : l0_1.length ≤ c0_1) (h : tapewrightref05_Small.f l0_0 l0_1 = some r) :
  Calls Tryz.prog 11 #[.agg #[.slice A0_0 l0_0.length c0_0, .slice A0_1 l0_1.length c0_1]] w fun e w' => e = .returned (.bool r) ∧ Below w.heap.size w w' := by
 obtain rfl := Option.some.inj h;obtain ⟨k, hk⟩ := (Ten.small_ev ⟨l0_0, l0_1⟩).rounds;exact PV.tapewrightref05_Small.calls k _ _ l0_0 _ _ l0_1 _ w hr0_0 hc0_0 hr0_1 hc0_1 hk
/-! ### tapewrightlaw07_awake: function 12 -/
noncomputable def tapewrightlaw07_awake.f : Option Bool := some true
theorem tapewrightlaw07_awake.calls (r : Bool) (w : World) (hG : Err.Gs w) (h : tapewrightlaw07_awake.f = some r) :
  Calls Tryz.prog 12 #[] w fun e w' => e = .returned (.bool r) ∧ Below w.heap.size w w' := by
 obtain rfl := Option.some.inj h;exact Pure.awake_calls w hG
/-! ### kink_Abs: function 17 -/
open Classical in
noncomputable def kink_Abs.f (l0_0 : List Int) (l0_1 : List ByteArray) : Option (List Int × List ByteArray × Int) := if Ten.Sm l0_0 l0_1 then some ((Ten.tEach 2 ⟨l0_0, l0_1⟩).1.s, (Ten.tEach 2 ⟨l0_0, l0_1⟩).1.d, (Ten.tEach 2 ⟨l0_0, l0_1⟩).2) else none
theorem kink_Abs.calls (A0_0 : Option Addr) (c0_0 : Nat) (l0_0 : List Int) (A0_1 : Option Addr) (c0_1 : Nat) (l0_1 : List ByteArray) (r1 : List Int) (r2 : List ByteArray) (r3 : Int) (w : World) (hG : Err.Gs w) (hr0_0 : Kd.C (Kd.int .i64) w A0_0 l0_0.length l0_0) (hc0_0 : l0_0.length ≤ c0_0) (hr0_1 : Kd.C Kd.string w A0_1 l0_1.length l0_1) (hc0_1 : l0_1.length ≤ c0_1) (h : kink_Abs.f l0_0 l0_1 = some (r1, r2, r3)) :
  Calls Tryz.prog 17 #[.agg #[.slice A0_0 l0_0.length c0_0, .slice A0_1 l0_1.length c0_1]] w fun e w' => ∃ v0_ v1_ : Value, e = .returned (.tuple #[.agg #[v0_, v1_], .int .i64 r3]) ∧ Kd.R (Kd.int .i64) 3 w' w.heap.size (fun _ => True) v0_ r1 ∧ Kd.R Kd.string 9 w' w.heap.size (fun _ => True) v1_ r2 ∧ Below w.heap.size w w' := by
 unfold kink_Abs.f at h
 split at h
 ·
  rename_i hl
  injection h with h;injection h with h1 h2;injection h2 with h2 h3;subst h1 h2 h3;exact Ten.kabs_calls A0_0 c0_0 A0_1 c0_1 l0_0 l0_1 w hG hr0_0 hc0_0 hr0_1 hc0_1 hl
 ·
  cases h
theorem kink_Abs.of (s : List Int) (d : List ByteArray) (h : Ten.Sm s d) : kink_Abs.f s d = some ((Ten.tEach 2 ⟨s, d⟩).1.s, (Ten.tEach 2 ⟨s, d⟩).1.d, (Ten.tEach 2 ⟨s, d⟩).2) := by rw [kink_Abs.f, if_pos h]
/-! ### kink_Flat: function 23 -/
open Classical in
noncomputable def kink_Flat.f (l0_0 : List Int) (l0_1 : List ByteArray) : Option (Bool × Int) := if Ten.Sm l0_0 l0_1 then some (Ten.tFlat ⟨l0_0, l0_1⟩) else none
theorem kink_Flat.calls (A0_0 : Option Addr) (c0_0 : Nat) (l0_0 : List Int) (A0_1 : Option Addr) (c0_1 : Nat) (l0_1 : List ByteArray) (r1 : Bool) (r2 : Int) (w : World) (hG : Err.Gs w) (hr0_0 : Kd.C (Kd.int .i64) w A0_0 l0_0.length l0_0) (hc0_0 : l0_0.length ≤ c0_0) (hr0_1 : Kd.C Kd.string w A0_1 l0_1.length l0_1) (hc0_1 : l0_1.length ≤ c0_1) (h : kink_Flat.f l0_0 l0_1 = some (r1, r2)) :
  Calls Tryz.prog 23 #[.agg #[.slice A0_0 l0_0.length c0_0, .slice A0_1 l0_1.length c0_1]] w fun e w' => e = .returned (.tuple #[.bool r1, .int .i64 r2]) ∧ Below w.heap.size w w' := by
 unfold kink_Flat.f at h
 split at h
 ·
  rename_i hl
  injection h with h;have := Ten.flat_calls A0_0 c0_0 A0_1 c0_1 l0_0 l0_1 w hG hr0_0 hc0_0 hr0_1 hc0_1 hl;rw [h] at this;exact this
 ·
  cases h
theorem kink_Flat.of (s : List Int) (d : List ByteArray) (h : Ten.Sm s d) : kink_Flat.f s d = some (Ten.tFlat ⟨s, d⟩) := by rw [kink_Flat.f, if_pos h]
/-! ### tensor_Sum: function 26 -/
open Classical in
noncomputable def tensor_Sum.f (l0_0 : List Int) (l0_1 : List ByteArray) : Option (ByteArray × Int) := if Ten.Sm l0_0 l0_1 ∧ ∀ p, (Ten.accS (l0_1.take p)).size ≤ 40000000000 then some (Ten.tSum ⟨l0_0, l0_1⟩) else none
theorem tensor_Sum.calls (A0_0 : Option Addr) (c0_0 : Nat) (l0_0 : List Int) (A0_1 : Option Addr) (c0_1 : Nat) (l0_1 : List ByteArray) (r1 : ByteArray) (r2 : Int) (w : World) (hG : Err.Gs w) (hr0_0 : Kd.C (Kd.int .i64) w A0_0 l0_0.length l0_0) (hc0_0 : l0_0.length ≤ c0_0) (hr0_1 : Kd.C Kd.string w A0_1 l0_1.length l0_1) (hc0_1 : l0_1.length ≤ c0_1) (h : tensor_Sum.f l0_0 l0_1 = some (r1, r2)) :
  Calls Tryz.prog 26 #[.agg #[.slice A0_0 l0_0.length c0_0, .slice A0_1 l0_1.length c0_1]] w fun e w' => e = .returned (.tuple #[.string r1, .int .i64 r2]) ∧ Below w.heap.size w w' := by
 unfold tensor_Sum.f at h
 split at h
 ·
  rename_i hl
  injection h with h;have := Ten.sum_calls A0_0 c0_0 A0_1 c0_1 l0_0 l0_1 w hG hr0_0 hc0_0 hr0_1 hl.1 hl.2;rw [h] at this;exact this
 ·
  cases h
theorem tensor_Sum.of (s : List Int) (d : List ByteArray) (h : Ten.Sm s d) (ha : ∀ p, (Ten.accS (d.take p)).size ≤ 40000000000) : tensor_Sum.f s d = some (Ten.tSum ⟨s, d⟩) := by rw [tensor_Sum.f, if_pos ⟨h, ha⟩]
/-! ### tapewrightlaw07_KinkFlat: function 7 -/
noncomputable def tapewrightlaw07_KinkFlat.l0 : Nat → Bool → Bool → Int → ByteArray → Bool → List ByteArray → Int → Int → Option (Bool)
 | 0, _, _, _, _, _, _, _, _ => none
 | k + 1, x5, x7, x8, x9, x11, x48, x49, x50 => if x50 < x49 then (if 0 ≤ x50 then (if x50 < (x48.length : Int) then (if x11 = true then (tapewrightlaw07_KinkFlat.l0 k x5 x7 x8 x9 ((rdOf ByteArray.empty x48 x50).toList == ([48] : List UInt8)) x48 x49 (wrap64 (x50 + 1))) else (tapewrightlaw07_KinkFlat.l0 k x5 x7 x8 x9 false x48 x49 (wrap64 (x50 + 1)))) else (none)) else (none)) else (if (x5 == x7) = true then (if ((x9.toList == ([48] : List UInt8)) == x11) = true then (if x11 = true then (if x5 = true then (if x8 = 0 then ((tapewrightlaw07_awake.f).bind fun t120 => (some t120)) else (some false)) else (some false)) else (if x8 = 0 then ((tapewrightlaw07_awake.f).bind fun t121 => (some t121)) else (some false))) else (some false)) else (some false))
noncomputable def tapewrightlaw07_KinkFlat.f (k : Nat) (l0_0 : List Int) (l0_1 : List ByteArray) : Option (Bool) := (tapewrightref05_Small.f l0_0 l0_1).bind fun t102 => (if t102 = true then ((kink_Abs.f l0_0 l0_1).bind fun bt104 => (if bt104.2.2 = 0 then ((kink_Flat.f l0_0 l0_1).bind fun bt113 => ((kink_Flat.f bt104.1 bt104.2.1).bind fun bt115 => ((tensor_Sum.f bt104.1 bt104.2.1).bind fun bt117 => (tapewrightlaw07_KinkFlat.l0 k bt113.1 bt115.1 bt115.2 bt117.1 true l0_1 (l0_1.length : Int) 0)))) else (if (bt104.2.1.length : Int) = 0 then ((tapewrightlaw07_awake.f).bind fun t112 => (some t112)) else (some false)))) else ((tapewrightlaw07_awake.f).bind fun t103 => (some t103)))
theorem tapewrightlaw07_KinkFlat.calls (k : Nat) (A0_0 : Option Addr) (c0_0 : Nat) (l0_0 : List Int) (A0_1 : Option Addr) (c0_1 : Nat) (l0_1 : List ByteArray) (r : Bool) (w : World) (hG : Err.Gs w) (hrt : r = true) (hr0_0 : Kd.C (Kd.int .i64) w A0_0 l0_0.length l0_0) (hc0_0 : l0_0.length ≤ c0_0) (hr0_1 : Kd.C Kd.string w A0_1 l0_1.length l0_1) (hc0_1 : l0_1.length ≤ c0_1) (h : tapewrightlaw07_KinkFlat.f k l0_0 l0_1 = some r) :
  Calls Tryz.prog 7 #[.agg #[.slice A0_0 l0_0.length c0_0, .slice A0_1 l0_1.length c0_1]] w fun e w' => e = .returned (.bool r) ∧ Below w.heap.size w w' := by
 have hu25 := Tryz.underlying25;have HR0_0 := Aside0.mk hr0_0;have HC0_0 := Aside0.mk hc0_0;clear hr0_0 hc0_0;have HR0_1 := Aside0.mk hr0_1;have HC0_1 := Aside0.mk hc0_1;clear hr0_1 hc0_1;have HB := Aside0.mk (Below.refl w.heap.size w);have HGs := Aside0.mk hG;clear hG;have HRT := Aside0.mk hrt;clear hrt;unfold tapewrightlaw07_KinkFlat.f at h;have H := h;clear h;replace H := Option.bind_eq_some_iff.mp H;obtain ⟨t102, A20, H⟩ := H;have A2 := Aside0.mk A20;clear A20
 by_cases c3 : t102 = true
 ·
  subst c3;rw [if_pos rfl] at H;replace H := Option.bind_eq_some_iff.mp H;obtain ⟨⟨t104, t107, t110⟩, A40, H⟩ := H;have A4 := Aside0.mk A40;clear A40
  by_cases c5 : t110 = 0
  ·
   rw [if_pos c5] at H;have c5b0 : (t110 == 0) = true := beq_iff_eq.mpr c5;have c5b1 : (t110 != 0) = false := bne_eq_false_iff_eq.mpr c5;clear c5;replace H := Option.bind_eq_some_iff.mp H;obtain ⟨⟨t113, t114⟩, A60, H⟩ := H;have A6 := Aside0.mk A60;clear A60;replace H := Option.bind_eq_some_iff.mp H;obtain ⟨⟨t115, t116⟩, A70, H⟩ := H;have A7 := Aside0.mk A70;clear A70;replace H := Option.bind_eq_some_iff.mp H;obtain ⟨⟨t117, t118⟩, A80, H⟩ := H;have A8 := Aside0.mk A80;clear A80;have H' := Aside0.mk H;clear H;go_enter Tryz.func7, Tryz.ntmps7
   go_wp2_with (first | ((with_reducible refine gate_dst (N := 1) rfl ?_); refine box_event ?hg (N := 1) ?hd (cs := #[.slice A0_0 l0_0.length c0_0, .slice A0_1 l0_1.length c0_1]) (t := 25) ?hr ?_; (case hd => rfl); (case hg => rfl); (case hr => exact T3_); intro gb101 hg w9 hbox hb; have BK101 := Aside0.mk (hbox); have GW101 := GE_ hg; have GE101 := GE_ hg; replace HB := Aside0.mk (below_step T1_ hb); clear hb hbox hg; have hcz10_0 := CA_ BK101; have hcz10_1 := CB_ BK101; have hfz10_0 := blk_frozen BK101.out 0; have hfz10_1 := blk_frozen BK101.out 1) | ((with_reducible refine gate_callee (f := 11) rfl ?_); refine goesL_ (some 15) rfl rfl Tryz.func11 (by kernel_rfl) rfl #[.agg #[.slice A0_0 l0_0.length c0_0, .slice A0_1 l0_1.length c0_1]] rfl T2_ ?_; (with_reducible refine (tapewrightref05_Small.calls _ _ l0_0 _ _ l0_1 true _ ?side1 ?side2 ?side3 ?side4 A2.out).mono ?_); (case side1 => exact C1_ (Kd.C_below HR0_0.out HB.out)); (case side2 => exact HC0_0.out); (case side3 => exact C1_ (Kd.C_below HR0_1.out HB.out)); (case side4 => exact HC0_1.out); rintro e w11 ⟨rfl, hb⟩; refine ⟨_, rfl, ?_⟩; replace BK101 := BF_ BK101 hb; replace HB := Aside0.mk (below_step T9_ hb); clear hb; have hcz12_0 := CA_ BK101; have hcz12_1 := CB_ BK101; have hfz12_0 := blk_frozen BK101.out 0; have hfz12_1 := blk_frozen BK101.out 1) | ((with_reducible refine gate_callee (f := 17) rfl ?_); refine goesL_ (some 20) rfl rfl Tryz.func17 (by kernel_rfl) rfl #[.agg #[.slice A0_0 l0_0.length c0_0, .slice A0_1 l0_1.length c0_1]] rfl T2_ ?_; (with_reducible refine (kink_Abs.calls _ _ l0_0 _ _ l0_1 t104 t107 t110 _ (Err.Gs.below HGs.out T9_) ?side1 ?side2 ?side3 ?side4 A4.out).mono ?_); (case side1 => exact C1_ (Kd.C_below HR0_0.out HB.out)); (case side2 => exact HC0_0.out); (case side3 => exact C1_ (Kd.C_below HR0_1.out HB.out)); (case side4 => exact HC0_1.out); rintro e w13 ⟨v105, v108, rfl, ho0, ho1, hb⟩; refine ⟨_, rfl, ?_⟩; have HO106 := Aside0.mk (Kd.R_lower ho0 (below_size T9_)); have HO109 := Aside0.mk (Kd.R_lower ho1 (below_size T9_)); replace BK101 := BF_ BK101 hb; replace HB := Aside0.mk (below_step T9_ hb); clear hb ho0 ho1) | ((with_reducible refine gate_dst (N := 3) rfl ?_); refine box_event ?hg (N := 3) ?hd (cs := #[.slice none 0 0, .slice none 0 0]) (t := 25) ?hr ?_; (case hd => rfl); (case hg => rfl); (case hr => exact T3_); intro gb111 hg w14 hbox hb; replace HO106 := RC_ HO106 hb; replace HO109 := RC_ HO109 hb; have BK111 := Aside0.mk (hbox); have GW111 := GE_ hg; have GE111 := GE_ hg; replace HB := Aside0.mk (below_step T9_ hb); have NB101_111 := NB_ BK101 hg; have NB111_101 := NC_ BK101 hg; replace BK101 := BF_ BK101 hb; clear hb hbox hg; obtain ⟨Ao15, co15, eo15⟩ := Kd.R_slice HO106.out; subst eo15; have hnb16 := NB111_101.out; have hnc16 := NB101_111.out; have hcz17_0 : w14.cell? ⟨gb111, 0, none⟩ = some (.slice none 0 0) := (blk_cell BK111.out 0).trans rfl; have hcz17_1 : w14.cell? ⟨gb111, 1, none⟩ = some (.slice none 0 0) := (blk_cell BK111.out 1).trans rfl; have hfz17_0 := blk_frozen BK111.out 0; have hfz17_1 := blk_frozen BK111.out 1; obtain ⟨Ao18, co18, eo18⟩ := Kd.R_slice HO109.out; subst eo18; have hcz19_0 := CA_ BK101; have hcz19_1 := CB_ BK101; have hfz19_0 := blk_frozen BK101.out 0; have hfz19_1 := blk_frozen BK101.out 1) | ((with_reducible refine gate_callee (f := 23) rfl ?_); refine goesL_ (some 34) rfl rfl Tryz.func23 (by kernel_rfl) rfl #[.agg #[.slice A0_0 l0_0.length c0_0, .slice A0_1 l0_1.length c0_1]] rfl T2_ ?_; (with_reducible refine (kink_Flat.calls _ _ l0_0 _ _ l0_1 t113 t114 _ (Err.Gs.below HGs.out T9_) ?side1 ?side2 ?side3 ?side4 A6.out).mono ?_); (case side1 => exact Kd.C_below HR0_0.out T9_); (case side2 => exact HC0_0.out); (case side3 => exact Kd.C_below HR0_1.out T9_); (case side4 => exact HC0_1.out); rintro e w20 ⟨rfl, hb⟩; refine ⟨_, rfl, ?_⟩; replace HO106 := RC_ HO106 hb; replace HO109 := RC_ HO109 hb; replace BK101 := BG_ BK101 hb; replace BK111 := BP_ BK111 hb; replace HB := Aside0.mk (below_step T9_ hb); clear hb; have hcz21_0 : w20.cell? ⟨gb111, 0, none⟩ = some (.slice Ao15 t104.length co15) := (blk_cell BK111.out 0).trans rfl; have hcz21_1 : w20.cell? ⟨gb111, 1, none⟩ = some (.slice Ao18 t107.length co18) := (blk_cell BK111.out 1).trans rfl; have hfz21_0 := blk_frozen BK111.out 0; have hfz21_1 := blk_frozen BK111.out 1) | ((with_reducible refine gate_callee (f := 23) rfl ?_); refine goesL_ (some 39) rfl rfl Tryz.func23 (by kernel_rfl) rfl #[.agg #[.slice Ao15 t104.length co15, .slice Ao18 t107.length co18]] rfl T2_ ?_; (with_reducible refine (kink_Flat.calls _ _ t104 _ _ t107 t115 t116 _ (Err.Gs.below HGs.out T9_) ?side1 ?side2 ?side3 ?side4 A7.out).mono ?_); (case side1 => exact C2_ HO106); (case side2 => exact (Kd.R_reads' HO106.out).2.1); (case side3 => exact C2_ HO109); (case side4 => exact (Kd.R_reads' HO109.out).2.1); rintro e w22 ⟨rfl, hb⟩; refine ⟨_, rfl, ?_⟩; replace HO106 := RC_ HO106 hb; replace HO109 := RC_ HO109 hb; replace BK101 := BF_ BK101 hb; replace BK111 := BF_ BK111 hb; replace HB := Aside0.mk (below_step T9_ hb); clear hb; have hcz23_0 : w22.cell? ⟨gb111, 0, none⟩ = some (.slice Ao15 t104.length co15) := (blk_cell BK111.out 0).trans rfl; have hcz23_1 : w22.cell? ⟨gb111, 1, none⟩ = some (.slice Ao18 t107.length co18) := (blk_cell BK111.out 1).trans rfl; have hfz23_0 := blk_frozen BK111.out 0; have hfz23_1 := blk_frozen BK111.out 1) | ((with_reducible refine gate_callee (f := 26) rfl ?_); refine goesL_ (some 44) rfl rfl Tryz.func26 (by kernel_rfl) rfl #[.agg #[.slice Ao15 t104.length co15, .slice Ao18 t107.length co18]] rfl T2_ ?_; (with_reducible refine (tensor_Sum.calls _ _ t104 _ _ t107 t117 t118 _ (Err.Gs.below HGs.out T9_) ?side1 ?side2 ?side3 ?side4 A8.out).mono ?_); (case side1 => exact C2_ HO106); (case side2 => exact (Kd.R_reads' HO106.out).2.1); (case side3 => exact C2_ HO109); (case side4 => exact (Kd.R_reads' HO109.out).2.1); rintro e w24 ⟨rfl, hb⟩; refine ⟨_, rfl, ?_⟩; replace HO106 := RC_ HO106 hb; replace HO109 := RC_ HO109 hb; replace BK101 := BF_ BK101 hb; replace BK111 := BF_ BK111 hb; replace HB := Aside0.mk (below_step T9_ hb); clear hb; have hcz25_0 := CA_ BK101; have hcz25_1 := CB_ BK101; have hfz25_0 := blk_frozen BK101.out 0; have hfz25_1 := blk_frozen BK101.out 1))
   go_loopg [11, 50] k (fun kq v11 v50 w' => ∃ (x11_1 : Bool) (x50_1 : Int), v11 = .bool x11_1 ∧ v50 = .int .i64 x50_1 ∧ Aside0 (tapewrightlaw07_KinkFlat.l0 kq t113 t115 t116 t117 x11_1 l0_1 (l0_1.length : Int) x50_1 = some r) ∧ Aside0 (kq ≤ k) ∧ Aside0 (Kd.R (Kd.int .i64) 3 w' w.heap.size (fun _ => True) (.slice Ao15 t104.length co15) t104) ∧ Aside0 (Kd.R Kd.string 9 w' w.heap.size (fun _ => True) (.slice Ao18 t107.length co18) t107) ∧ Aside0 (w'.heap[gb101]? = some (.cells #[(.slice A0_0 l0_0.length c0_0), (.slice A0_1 l0_1.length c0_1)] 25 (0, 0))) ∧ Aside0 (w'.heap[gb111]? = some (.cells #[(.slice Ao15 t104.length co15), (.slice Ao18 t107.length co18)] 25 (0, 0))) ∧ Aside0 (Below w.heap.size w w'))
   case atStart => exact ⟨(true), (0), S1_, S1_, H', ⟨Nat.le_refl _⟩, ⟨by (with_reducible repeat (first | apply Kd.R_alloc | apply Kd.R_drewN | apply Kd.R_drew)); exact HO106.out⟩, ⟨by (with_reducible repeat (first | apply Kd.R_alloc | apply Kd.R_drewN | apply Kd.R_drew)); exact HO109.out⟩, BW_ BK101, BW_ BK111, ⟨T9_⟩⟩
   case round =>
    clear H'
    try clear c1
    try clear c2
    try clear p2
    try clear c3
    try clear c5
    try clear c5b0
    try clear c5b1
    try clear c7
    try clear c11
    try clear c16
    try clear c17
    try clear c23
    try clear hcz10_0
    try clear hcz10_1
    try clear hcz12_0
    try clear hcz12_1
    try clear hcz17_0
    try clear hcz17_1
    try clear hcz19_0
    try clear hcz19_1
    try clear hcz21_0
    try clear hcz21_1
    try clear hcz23_0
    try clear hcz23_1
    try clear hcz25_0
    try clear hcz25_1
    try clear hfz10_0
    try clear hfz10_1
    try clear hfz12_0
    try clear hfz12_1
    try clear hfz17_0
    try clear hfz17_1
    try clear hfz19_0
    try clear hfz19_1
    try clear hfz21_0
    try clear hfz21_1
    try clear hfz23_0
    try clear hfz23_1
    try clear hfz25_0
    try clear hfz25_1
    obtain ⟨x11_1, x50_1, rfl, rfl, HA, HK1, HO_112000, HO_112001, BK101, BK111, HB⟩ := hrel
    cases gk with
    | zero => exact absurd HA.out (by simp [tapewrightlaw07_KinkFlat.l0])
    | succ k1 =>
     have H := HA.out;clear HA;simp only [tapewrightlaw07_KinkFlat.l0] at H
     by_cases c26 : x50_1 < (l0_1.length : Int)
     ·
      rw [if_pos c26] at H;have c26b0 : decide (x50_1 < (l0_1.length : Int)) = true := decide_eq_true c26;clear c26
      by_cases c27 : 0 ≤ x50_1
      ·
       rw [if_pos c27] at H;have c27b0 : decide (0 ≤ x50_1) = true := decide_eq_true c27;clear c27
       by_cases c28 : x50_1 < (l0_1.length : Int)
       ·
        rw [if_pos c28] at H;have c28b0 : decide (x50_1 < (l0_1.length : Int)) = true := decide_eq_true c28;clear c28
        by_cases c29 : x11_1 = true
        ·
         subst c29;rw [if_pos rfl] at H;have H' := Aside0.mk H;clear H;have p119 : 0 ≤ (x50_1 : Int) := DA_;have q119 : x50_1 < (l0_1.length : Int) := DA_;obtain ⟨ad119, e119, hx119_0⟩ := Kd.at_string HR0_1.out x50_1 p119 q119
         cases e119
         replace hx119_0 := (HB.out.cell (World.block_lt_of_cell? w _ hx119_0)).trans hx119_0;replace p119 := eq_true p119;replace q119 := eq_true q119
         go_wp2
         go_roundg k1
         case measure => have := HK1.out; omega
         case rel => exact ⟨(((rdOf ByteArray.empty l0_1 x50_1).toList == ([48] : List UInt8))), (wrap64 (x50_1 + 1)), S1_, S1_, H', ⟨by have := HK1.out; omega⟩, ⟨by (with_reducible repeat (first | apply Kd.R_alloc | apply Kd.R_drewN | apply Kd.R_drew)); exact HO_112000.out⟩, ⟨by (with_reducible repeat (first | apply Kd.R_alloc | apply Kd.R_drewN | apply Kd.R_drew)); exact HO_112001.out⟩, BW_ BK101, BW_ BK111, ⟨T9_⟩⟩
        ·
         replace c29 := Bool.eq_false_iff.mpr c29;subst c29;rw [if_neg (show ¬ (false = true) by decide)] at H;have H' := Aside0.mk H;clear H;have p119 : 0 ≤ (x50_1 : Int) := DA_;have q119 : x50_1 < (l0_1.length : Int) := DA_;obtain ⟨ad119, e119, hx119_0⟩ := Kd.at_string HR0_1.out x50_1 p119 q119
         cases e119
         replace hx119_0 := (HB.out.cell (World.block_lt_of_cell? w _ hx119_0)).trans hx119_0;replace p119 := eq_true p119;replace q119 := eq_true q119
         go_wp2
         go_roundg k1
         case measure => have := HK1.out; omega
         case rel => exact ⟨(false), (wrap64 (x50_1 + 1)), S1_, S1_, H', ⟨by have := HK1.out; omega⟩, ⟨by (with_reducible repeat (first | apply Kd.R_alloc | apply Kd.R_drewN | apply Kd.R_drew)); exact HO_112000.out⟩, ⟨by (with_reducible repeat (first | apply Kd.R_alloc | apply Kd.R_drewN | apply Kd.R_drew)); exact HO_112001.out⟩, BW_ BK101, BW_ BK111, ⟨T9_⟩⟩
       ·
        rw [if_neg c28] at H;exact absurd H (by simp)
      ·
       rw [if_neg c27] at H;exact absurd H (by simp)
     ·
      rw [if_neg c26] at H;have c26b0 : decide (x50_1 < (l0_1.length : Int)) = false := decide_eq_false c26;clear c26
      by_cases c30 : (t113 == t115) = true
      ·
       rw [if_pos c30] at H;have c30b0 : (t113 == t115) = true := c30
       (try (have c30b1 : decide (t113 = t115) = true := by simpa using c30))
       (try (have c30b2 : (t113 == t115) = true := by simpa using c30))
       clear c30
       by_cases c31 : ((t117.toList == ([48] : List UInt8)) == x11_1) = true
       ·
        rw [if_pos c31] at H;have c31b0 : ((t117.toList == ([48] : List UInt8)) == x11_1) = true := c31
        (try (have c31b1 : decide ((t117.toList == ([48] : List UInt8)) = x11_1) = true := by simpa using c31))
        (try (have c31b2 : ((t117.toList == ([48] : List UInt8)) == x11_1) = true := by simpa using c31))
        clear c31
        by_cases c32 : x11_1 = true
        ·
         subst c32;rw [if_pos rfl] at H
         by_cases c33 : t113 = true
         ·
          subst c33;rw [if_pos rfl] at H
          by_cases c34 : t116 = 0
          ·
           rw [if_pos c34] at H;have c34b0 : (t116 == 0) = true := beq_iff_eq.mpr c34;have c34b1 : (t116 != 0) = false := bne_eq_false_iff_eq.mpr c34;clear c34;replace H := Option.bind_eq_some_iff.mp H;obtain ⟨t120, A350, H⟩ := H;have A35 := Aside0.mk A350;clear A350;obtain rfl := Option.some.inj H
           go_wp2_with (first | (go_at_call 12; (with_reducible refine (tapewrightlaw07_awake.calls  t120 _ (Err.Gs.below HGs.out T9_) A35.out).mono ?_); rintro e w36 ⟨rfl, hb⟩; replace HO_112000 := RC_ HO_112000 hb; replace HO_112001 := RC_ HO_112001 hb; replace BK101 := BF_ BK101 hb; replace BK111 := BF_ BK111 hb; replace HB := Aside0.mk (below_step T9_ hb); clear hb))
           go_ret
           exact ⟨T4_, T9_⟩
          ·
           rw [if_neg c34] at H;have c34b0 : (t116 == 0) = false := beq_eq_false_iff_ne.mpr c34;have c34b1 : (t116 != 0) = true := bne_iff_ne.mpr c34;exact absurd ((Option.some.inj H).trans HRT.out) (by decide)
         ·
          replace c33 := Bool.eq_false_iff.mpr c33;subst c33;rw [if_neg (show ¬ (false = true) by decide)] at H;exact absurd ((Option.some.inj H).trans HRT.out) (by decide)
        ·
         replace c32 := Bool.eq_false_iff.mpr c32;subst c32;rw [if_neg (show ¬ (false = true) by decide)] at H
         by_cases c37 : t116 = 0
         ·
          rw [if_pos c37] at H;have c37b0 : (t116 == 0) = true := beq_iff_eq.mpr c37;have c37b1 : (t116 != 0) = false := bne_eq_false_iff_eq.mpr c37;clear c37;replace H := Option.bind_eq_some_iff.mp H;obtain ⟨t121, A380, H⟩ := H;have A38 := Aside0.mk A380;clear A380;obtain rfl := Option.some.inj H
          go_wp2_with (first | (go_at_call 12; (with_reducible refine (tapewrightlaw07_awake.calls  t121 _ (Err.Gs.below HGs.out T9_) A38.out).mono ?_); rintro e w39 ⟨rfl, hb⟩; replace HO_112000 := RC_ HO_112000 hb; replace HO_112001 := RC_ HO_112001 hb; replace BK101 := BF_ BK101 hb; replace BK111 := BF_ BK111 hb; replace HB := Aside0.mk (below_step T9_ hb); clear hb))
          go_ret
          exact ⟨T4_, T9_⟩
         ·
          rw [if_neg c37] at H;have c37b0 : (t116 == 0) = false := beq_eq_false_iff_ne.mpr c37;have c37b1 : (t116 != 0) = true := bne_iff_ne.mpr c37;exact absurd ((Option.some.inj H).trans HRT.out) (by decide)
       ·
        rw [if_neg c31] at H
        have c31b0 : ((t117.toList == ([48] : List UInt8)) == x11_1) = false := by simpa using c31
        (try (have c31b1 : decide ((t117.toList == ([48] : List UInt8)) = x11_1) = false := by simpa using c31))
        (try (have c31b2 : ((t117.toList == ([48] : List UInt8)) == x11_1) = false := by simpa using c31))
        (try (have c31b3 : ¬ ((t117.toList == ([48] : List UInt8)) = x11_1) := by simpa using c31))
        clear c31;exact absurd ((Option.some.inj H).trans HRT.out) (by decide)
      ·
       rw [if_neg c30] at H
       have c30b0 : (t113 == t115) = false := by simpa using c30
       (try (have c30b1 : decide (t113 = t115) = false := by simpa using c30))
       (try (have c30b2 : (t113 == t115) = false := by simpa using c30))
       (try (have c30b3 : ¬ (t113 = t115) := by simpa using c30))
       clear c30;exact absurd ((Option.some.inj H).trans HRT.out) (by decide)
  ·
   rw [if_neg c5] at H;have c5b0 : (t110 == 0) = false := beq_eq_false_iff_ne.mpr c5;have c5b1 : (t110 != 0) = true := bne_iff_ne.mpr c5
   by_cases c40 : (t107.length : Int) = 0
   ·
    rw [if_pos c40] at H;have c40b0 : ((t107.length : Int) == 0) = true := beq_iff_eq.mpr c40;have c40b1 : ((t107.length : Int) != 0) = false := bne_eq_false_iff_eq.mpr c40;clear c40;replace H := Option.bind_eq_some_iff.mp H;obtain ⟨t112, A410, H⟩ := H;have A41 := Aside0.mk A410;clear A410;obtain rfl := Option.some.inj H;go_enter Tryz.func7, Tryz.ntmps7
    go_wp2_with (first | ((with_reducible refine gate_dst (N := 1) rfl ?_); refine box_event ?hg (N := 1) ?hd (cs := #[.slice A0_0 l0_0.length c0_0, .slice A0_1 l0_1.length c0_1]) (t := 25) ?hr ?_; (case hd => rfl); (case hg => rfl); (case hr => exact T3_); intro gb101 hg w42 hbox hb; have BK101 := Aside0.mk (hbox); have GW101 := GE_ hg; have GE101 := GE_ hg; replace HB := Aside0.mk (below_step T1_ hb); clear hb hbox hg; have hcz43_0 := CA_ BK101; have hcz43_1 := CB_ BK101; have hfz43_0 := blk_frozen BK101.out 0; have hfz43_1 := blk_frozen BK101.out 1) | ((with_reducible refine gate_callee (f := 11) rfl ?_); refine goesL_ (some 15) rfl rfl Tryz.func11 (by kernel_rfl) rfl #[.agg #[.slice A0_0 l0_0.length c0_0, .slice A0_1 l0_1.length c0_1]] rfl T2_ ?_; (with_reducible refine (tapewrightref05_Small.calls _ _ l0_0 _ _ l0_1 true _ ?side1 ?side2 ?side3 ?side4 A2.out).mono ?_); (case side1 => exact C1_ (Kd.C_below HR0_0.out HB.out)); (case side2 => exact HC0_0.out); (case side3 => exact C1_ (Kd.C_below HR0_1.out HB.out)); (case side4 => exact HC0_1.out); rintro e w44 ⟨rfl, hb⟩; refine ⟨_, rfl, ?_⟩; replace BK101 := BF_ BK101 hb; replace HB := Aside0.mk (below_step T9_ hb); clear hb; have hcz45_0 := CA_ BK101; have hcz45_1 := CB_ BK101; have hfz45_0 := blk_frozen BK101.out 0; have hfz45_1 := blk_frozen BK101.out 1) | ((with_reducible refine gate_callee (f := 17) rfl ?_); refine goesL_ (some 20) rfl rfl Tryz.func17 (by kernel_rfl) rfl #[.agg #[.slice A0_0 l0_0.length c0_0, .slice A0_1 l0_1.length c0_1]] rfl T2_ ?_; (with_reducible refine (kink_Abs.calls _ _ l0_0 _ _ l0_1 t104 t107 t110 _ (Err.Gs.below HGs.out T9_) ?side1 ?side2 ?side3 ?side4 A4.out).mono ?_); (case side1 => exact C1_ (Kd.C_below HR0_0.out HB.out)); (case side2 => exact HC0_0.out); (case side3 => exact C1_ (Kd.C_below HR0_1.out HB.out)); (case side4 => exact HC0_1.out); rintro e w46 ⟨v105, v108, rfl, ho0, ho1, hb⟩; refine ⟨_, rfl, ?_⟩; have HO106 := Aside0.mk (Kd.R_lower ho0 (below_size T9_)); have HO109 := Aside0.mk (Kd.R_lower ho1 (below_size T9_)); replace BK101 := BF_ BK101 hb; replace HB := Aside0.mk (below_step T9_ hb); clear hb ho0 ho1) | ((with_reducible refine gate_dst (N := 3) rfl ?_); refine box_event ?hg (N := 3) ?hd (cs := #[.slice none 0 0, .slice none 0 0]) (t := 25) ?hr ?_; (case hd => rfl); (case hg => rfl); (case hr => exact T3_); intro gb111 hg w47 hbox hb; replace HO106 := RC_ HO106 hb; replace HO109 := RC_ HO109 hb; have BK111 := Aside0.mk (hbox); have GW111 := GE_ hg; have GE111 := GE_ hg; replace HB := Aside0.mk (below_step T9_ hb); have NB101_111 := NB_ BK101 hg; have NB111_101 := NC_ BK101 hg; replace BK101 := BF_ BK101 hb; clear hb hbox hg; obtain ⟨Ao48, co48, eo48⟩ := Kd.R_slice HO106.out; subst eo48; have hnb49 := NB111_101.out; have hnc49 := NB101_111.out; have hcz50_0 : w47.cell? ⟨gb111, 0, none⟩ = some (.slice none 0 0) := (blk_cell BK111.out 0).trans rfl; have hcz50_1 : w47.cell? ⟨gb111, 1, none⟩ = some (.slice none 0 0) := (blk_cell BK111.out 1).trans rfl; have hfz50_0 := blk_frozen BK111.out 0; have hfz50_1 := blk_frozen BK111.out 1; obtain ⟨Ao51, co51, eo51⟩ := Kd.R_slice HO109.out; subst eo51) | (go_at_call 12; (with_reducible refine (tapewrightlaw07_awake.calls  t112 _ (Err.Gs.below HGs.out T9_) A41.out).mono ?_); rintro e w52 ⟨rfl, hb⟩; replace HO106 := RC_ HO106 hb; replace HO109 := RC_ HO109 hb; replace BK101 := BG_ BK101 hb; replace BK111 := BP_ BK111 hb; replace HB := Aside0.mk (below_step T9_ hb); clear hb))
    go_ret
    exact ⟨T4_, T9_⟩
   ·
    rw [if_neg c40] at H;have c40b0 : ((t107.length : Int) == 0) = false := beq_eq_false_iff_ne.mpr c40;have c40b1 : ((t107.length : Int) != 0) = true := bne_iff_ne.mpr c40
    have c40b2 : ¬ (t107 = []) := fun h_ => c40 (by rw [h_]; rfl)
    exact absurd ((Option.some.inj H).trans HRT.out) (by decide)
 ·
  replace c3 := Bool.eq_false_iff.mpr c3;subst c3;rw [if_neg (show ¬ (false = true) by decide)] at H;replace H := Option.bind_eq_some_iff.mp H;obtain ⟨t103, A530, H⟩ := H;have A53 := Aside0.mk A530;clear A530;obtain rfl := Option.some.inj H;go_enter Tryz.func7, Tryz.ntmps7
  go_wp2_with (first | ((with_reducible refine gate_dst (N := 1) rfl ?_); refine box_event ?hg (N := 1) ?hd (cs := #[.slice A0_0 l0_0.length c0_0, .slice A0_1 l0_1.length c0_1]) (t := 25) ?hr ?_; (case hd => rfl); (case hg => rfl); (case hr => exact T3_); intro gb101 hg w54 hbox hb; have BK101 := Aside0.mk (hbox); have GW101 := GE_ hg; have GE101 := GE_ hg; replace HB := Aside0.mk (below_step T1_ hb); clear hb hbox hg; have hcz55_0 := CA_ BK101; have hcz55_1 := CB_ BK101; have hfz55_0 := blk_frozen BK101.out 0; have hfz55_1 := blk_frozen BK101.out 1) | ((with_reducible refine gate_callee (f := 11) rfl ?_); refine goesL_ (some 15) rfl rfl Tryz.func11 (by kernel_rfl) rfl #[.agg #[.slice A0_0 l0_0.length c0_0, .slice A0_1 l0_1.length c0_1]] rfl T2_ ?_; (with_reducible refine (tapewrightref05_Small.calls _ _ l0_0 _ _ l0_1 false _ ?side1 ?side2 ?side3 ?side4 A2.out).mono ?_); (case side1 => exact C1_ (Kd.C_below HR0_0.out HB.out)); (case side2 => exact HC0_0.out); (case side3 => exact C1_ (Kd.C_below HR0_1.out HB.out)); (case side4 => exact HC0_1.out); rintro e w56 ⟨rfl, hb⟩; refine ⟨_, rfl, ?_⟩; replace BK101 := BF_ BK101 hb; replace HB := Aside0.mk (below_step T9_ hb); clear hb) | ((with_reducible refine gate_callee (f := 12) rfl ?_); refine goesL_ (some 17) rfl rfl Tryz.func12 (by kernel_rfl) rfl #[] rfl T2_ ?_; (with_reducible refine (tapewrightlaw07_awake.calls  t103 _ (Err.Gs.below HGs.out T9_) A53.out).mono ?_); rintro e w57 ⟨rfl, hb⟩; refine ⟨_, rfl, ?_⟩; replace BK101 := BF_ BK101 hb; replace HB := Aside0.mk (below_step T9_ hb); clear hb))
  go_ret
  exact ⟨T4_, T9_⟩
end Go.Proofs.YtndkjpkgllmbnaaGreatDoor.PQF
