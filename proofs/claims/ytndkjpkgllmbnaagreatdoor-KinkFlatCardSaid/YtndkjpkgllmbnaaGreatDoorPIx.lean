-- by wip/tool/mine.py of this repo (the kit's printer with given contracts)
import Derived.Test.YtndkjpkgllmbnaaGreatDoorProg
import Derived.Test.YtndkjpkgllmbnaaGreatDoorWd
import Derived.Below
import Derived.Deep.Draws
import Derived.Deep.AppendLies
import Derived.Maps.AppendAt
import Derived.OwnWalk
import Derived.Laws.BytesArg
import Derived.Laws.MakeOwn
import Derived.Laws.OwnMore
import Derived.Deep.OwnRows
import Derived.Tactics
import Derived.Lib.ConvBytes
import Derived.Laws.Slices
import Derived.WalkKit
import Derived.KernelRfl
import Derived.RowKit3
import Derived.Deep.LoopGhost
import Derived.Deep.QuietTactic
import Derived.BigQuiet
import Derived.WideLaws
import Derived.Deep.DeepCutAuto
import Derived.Deep.CutBlock
import Derived.Deep.RegionHeld3
import Derived.Laws.Rows
import Derived.Lib.AppendStr
import Derived.ArgAppend
import Derived.Laws.IdiomCopy
import Derived.OrdersHeld
import Derived.Laws.BitsLemmas
import Derived.RowKit
import Derived.Test.YtndkjpkgllmbnaaGreatDoorMine
import Derived.Test.YtndkjpkgllmbnaaGreatDoorTenT
import Derived.Test.YtndkjpkgllmbnaaGreatDoorKinI
namespace Go.Proofs.YtndkjpkgllmbnaaGreatDoor.PI
open Go.RowKit Go.Proofs.YtndkjpkgllmbnaaGreatDoorW.PrintWords Go.Proofs.YtndkjpkgllmbnaaGreatDoorW.PrintLast Go.Proofs.YtndkjpkgllmbnaaGreatDoorW.PrintMore
attribute [local go_sem] max2_int min2_int max_two min_two max_three min_three max_four min_four   -- for this text's walks alone
set_option linter.unusedVariables false
set_option linter.unusedSimpArgs false
set_option maxHeartbeats 8000000
set_option maxRecDepth 100000
def errW : Option Int → Value
 | none => .nilIface
 | some c => .iface 0 (.int .i64 c)
theorem errW_none : errW none = .nilIface := rfl
theorem errW_some (c : Int) : errW (some c) = .iface 0 (.int .i64 c) := rfl
/-! ### tensor_Right: function 31 -/
open Classical in
noncomputable def tensor_Right.f (l0_0 : List Int) (l0_1 : List ByteArray) : Option Bool := if Ten.Sm l0_0 l0_1 then some (Ten.tRight ⟨l0_0, l0_1⟩) else none
theorem tensor_Right.calls (A0_0 : Option Addr) (c0_0 : Nat) (l0_0 : List Int) (A0_1 : Option Addr) (c0_1 : Nat) (l0_1 : List ByteArray) (r : Bool) (w : World) (hG : Err.Gs w) (hr0_0 : Kd.C (Kd.int .i64) w A0_0 l0_0.length l0_0) (hc0_0 : l0_0.length ≤ c0_0) (hr0_1 : Kd.C Kd.string w A0_1 l0_1.length l0_1) (hc0_1 : l0_1.length ≤ c0_1) (h : tensor_Right.f l0_0 l0_1 = some r) :
  Calls Tryz.prog 31 #[.agg #[.slice A0_0 l0_0.length c0_0, .slice A0_1 l0_1.length c0_1]] w fun e w' => e = .returned (.bool r) ∧ Below w.heap.size w w' := by
 unfold tensor_Right.f at h
 split at h
 ·
  rename_i hl
  injection h with h;subst h;exact Ten.tright_calls A0_0 c0_0 A0_1 c0_1 ⟨l0_0, l0_1⟩ w hG hr0_0 hc0_0 hr0_1 hl.1 hl.2.1 hl.big
 ·
  cases h
theorem tensor_Right.of (s : List Int) (d : List ByteArray) (h : Ten.Sm s d) : tensor_Right.f s d = some (Ten.tRight ⟨s, d⟩) := by rw [tensor_Right.f, if_pos h]
/-! ### slices_Contains_string_string: function 46 -/
open Classical in
noncomputable def slices_Contains_string_string.f (l0 : List ByteArray) (a1 : ByteArray) : Option Bool := if l0.length ≤ 1000 then some (decide (a1 ∈ l0)) else none
theorem slices_Contains_string_string.calls (A0 : Option Addr) (c0 : Nat) (l0 : List ByteArray) (a1 : ByteArray) (r : Bool) (w : World) (hr0 : Kd.C Kd.string w A0 l0.length l0) (hc0 : l0.length ≤ c0) (h : slices_Contains_string_string.f l0 a1 = some r) :
  Calls Tryz.prog 46 #[.slice A0 l0.length c0, .string a1] w fun e w' => e = .returned (.bool r) ∧ Below w.heap.size w w' := by
 unfold slices_Contains_string_string.f at h
 split at h
 ·
  rename_i hl
  injection h with h;subst h;exact Ten.has_calls A0 c0 l0 a1 w hr0 hc0 hl
 ·
  cases h
open Classical in
theorem slices_Contains_string_string.of (l : List ByteArray) (x : ByteArray) (h : l.length ≤ 1000) : slices_Contains_string_string.f l x = some (decide (x ∈ l)) := by rw [slices_Contains_string_string.f, if_pos h]
/-! ### kink_Flat: function 23 -/
noncomputable def kink_Flat.f (l0_0 : List Int) (l0_1 : List ByteArray) : Option (Bool × Int) := (tensor_Right.f l0_0 l0_1).bind fun t102 => (if t102 = true then ((slices_Contains_string_string.f l0_1 (⟨#[48]⟩ : ByteArray)).bind fun t103 => (some (t103, 0))) else (some (false, 1)))
theorem kink_Flat.calls (A0_0 : Option Addr) (c0_0 : Nat) (l0_0 : List Int) (A0_1 : Option Addr) (c0_1 : Nat) (l0_1 : List ByteArray) (r1 : Bool) (r2 : Int) (w : World) (hG : Err.Gs w) (hr0_0 : Kd.C (Kd.int .i64) w A0_0 l0_0.length l0_0) (hc0_0 : l0_0.length ≤ c0_0) (hr0_1 : Kd.C Kd.string w A0_1 l0_1.length l0_1) (hc0_1 : l0_1.length ≤ c0_1) (h : kink_Flat.f l0_0 l0_1 = some (r1, r2)) :
  Calls Tryz.prog 23 #[.agg #[.slice A0_0 l0_0.length c0_0, .slice A0_1 l0_1.length c0_1]] w fun e w' => e = .returned (.tuple #[.bool r1, .int .i64 r2]) ∧ Below w.heap.size w w' := by
 have hu25 := Tryz.underlying25;have HR0_0 := Aside0.mk hr0_0;have HC0_0 := Aside0.mk hc0_0;clear hr0_0 hc0_0;have HR0_1 := Aside0.mk hr0_1;have HC0_1 := Aside0.mk hc0_1;clear hr0_1 hc0_1;have HB := Aside0.mk (Below.refl w.heap.size w);have HGs := Aside0.mk hG;clear hG;unfold kink_Flat.f at h;have H := h;clear h;replace H := Option.bind_eq_some_iff.mp H;obtain ⟨t102, A20, H⟩ := H;have A2 := Aside0.mk A20;clear A20
 by_cases c3 : t102 = true
 ·
  subst c3;rw [if_pos rfl] at H;replace H := Option.bind_eq_some_iff.mp H;obtain ⟨t103, A40, H⟩ := H;have A4 := Aside0.mk A40;clear A40;simp only [Option.some.injEq, Prod.mk.injEq] at H;obtain ⟨rfl, rfl⟩ := H;go_enter Tryz.func23, Tryz.ntmps23
  go_wp2_with (first | ((with_reducible refine gate_dst (N := 1) rfl ?_); refine box_event ?hg (N := 1) ?hd (cs := #[.slice A0_0 l0_0.length c0_0, .slice A0_1 l0_1.length c0_1]) (t := 25) ?hr ?_; (case hd => rfl); (case hg => rfl); (case hr => exact T3_); intro gb101 hg w5 hbox hb; have BK101 := Aside0.mk (hbox); have GW101 := GE_ hg; have GE101 := GE_ hg; replace HB := Aside0.mk (below_step T1_ hb); clear hb hbox hg; have hcz6_0 := CA_ BK101; have hcz6_1 := CB_ BK101; have hfz6_0 := blk_frozen BK101.out 0; have hfz6_1 := blk_frozen BK101.out 1) | ((with_reducible refine gate_callee (f := 31) rfl ?_); refine goesL_ (some 5) rfl rfl Tryz.func31 (by kernel_rfl) rfl #[.agg #[.slice A0_0 l0_0.length c0_0, .slice A0_1 l0_1.length c0_1]] rfl T2_ ?_; (with_reducible refine (tensor_Right.calls _ _ l0_0 _ _ l0_1 true _ (Err.Gs.below HGs.out T9_) ?side1 ?side2 ?side3 ?side4 A2.out).mono ?_); (case side1 => exact C1_ (Kd.C_below HR0_0.out HB.out)); (case side2 => exact HC0_0.out); (case side3 => exact C1_ (Kd.C_below HR0_1.out HB.out)); (case side4 => exact HC0_1.out); rintro e w7 ⟨rfl, hb⟩; refine ⟨_, rfl, ?_⟩; replace BK101 := BF_ BK101 hb; replace HB := Aside0.mk (below_step T9_ hb); clear hb; have hcz8_0 := CA_ BK101; have hcz8_1 := CB_ BK101; have hfz8_0 := blk_frozen BK101.out 0; have hfz8_1 := blk_frozen BK101.out 1) | ((with_reducible refine gate_callee (f := 46) rfl ?_); refine goesL_ (some 9) rfl rfl Tryz.func46 (by kernel_rfl) rfl #[.slice A0_1 l0_1.length c0_1, .string (⟨#[48]⟩ : ByteArray)] rfl T2_ ?_; (with_reducible refine (slices_Contains_string_string.calls _ _ l0_1 (⟨#[48]⟩ : ByteArray) t103 _ ?side1 ?side2 A4.out).mono ?_); (case side1 => exact C1_ (Kd.C_below HR0_1.out HB.out)); (case side2 => exact HC0_1.out); rintro e w9 ⟨rfl, hb⟩; refine ⟨_, rfl, ?_⟩; replace BK101 := BF_ BK101 hb; replace HB := Aside0.mk (below_step T9_ hb); clear hb))
  go_ret2
  exact ⟨T4_, T9_⟩
 ·
  replace c3 := Bool.eq_false_iff.mpr c3;subst c3;rw [if_neg (show ¬ (false = true) by decide)] at H;simp only [Option.some.injEq, Prod.mk.injEq] at H;obtain ⟨rfl, rfl⟩ := H;go_enter Tryz.func23, Tryz.ntmps23
  go_wp2_with (first | ((with_reducible refine gate_dst (N := 1) rfl ?_); refine box_event ?hg (N := 1) ?hd (cs := #[.slice A0_0 l0_0.length c0_0, .slice A0_1 l0_1.length c0_1]) (t := 25) ?hr ?_; (case hd => rfl); (case hg => rfl); (case hr => exact T3_); intro gb101 hg w10 hbox hb; have BK101 := Aside0.mk (hbox); have GW101 := GE_ hg; have GE101 := GE_ hg; replace HB := Aside0.mk (below_step T1_ hb); clear hb hbox hg; have hcz11_0 := CA_ BK101; have hcz11_1 := CB_ BK101; have hfz11_0 := blk_frozen BK101.out 0; have hfz11_1 := blk_frozen BK101.out 1) | ((with_reducible refine gate_callee (f := 31) rfl ?_); refine goesL_ (some 5) rfl rfl Tryz.func31 (by kernel_rfl) rfl #[.agg #[.slice A0_0 l0_0.length c0_0, .slice A0_1 l0_1.length c0_1]] rfl T2_ ?_; (with_reducible refine (tensor_Right.calls _ _ l0_0 _ _ l0_1 false _ (Err.Gs.below HGs.out T9_) ?side1 ?side2 ?side3 ?side4 A2.out).mono ?_); (case side1 => exact C1_ (Kd.C_below HR0_0.out HB.out)); (case side2 => exact HC0_0.out); (case side3 => exact C1_ (Kd.C_below HR0_1.out HB.out)); (case side4 => exact HC0_1.out); rintro e w12 ⟨rfl, hb⟩; refine ⟨_, rfl, ?_⟩; replace BK101 := BF_ BK101 hb; replace HB := Aside0.mk (below_step T9_ hb); clear hb))
  go_ret2
  exact ⟨T4_, T9_⟩
end Go.Proofs.YtndkjpkgllmbnaaGreatDoor.PI
