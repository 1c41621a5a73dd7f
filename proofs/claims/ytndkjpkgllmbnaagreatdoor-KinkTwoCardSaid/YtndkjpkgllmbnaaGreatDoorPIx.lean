-- by wip/tool/mine.py of this repo (the kit's printer with given contracts)
import Derived.Test.YtndkjpkgllmbnaaGreatDoorKinI
namespace Go.Proofs.YtndkjpkgllmbnaaGreatDoor.PI
open Go.RowKit Go.ZPWords Go.ZPLast Go.ZPMore
attribute [local go_sem] max2_int min2_int max_two min_two max_three min_three max_four min_four   -- for this text's walks alone
set_option linter.unusedVariables false
set_option linter.unusedSimpArgs false
set_option maxHeartbeats 8000000
set_option maxRecDepth 100000
def errW : Option Int → Value
 | none => .nilIface
 | some c => .iface 0 (.int .i64 c)
theorem errW_none : errW none = .nilIface := rfl
theorem errW_some (c : Int) : errW (some c) = .iface 0 (.int .i64 c) := rfl
/-! ### tensor_Right: function 31 -/
open Classical in
noncomputable def tensor_Right.f (l0_0 : List Int) (l0_1 : List ByteArray) : Option Bool := if Ten.Sm l0_0 l0_1 then some (Ten.tRight ⟨l0_0, l0_1⟩) else none
theorem tensor_Right.calls (A0_0 : Option Addr) (c0_0 : Nat) (l0_0 : List Int) (A0_1 : Option Addr) (c0_1 : Nat) (l0_1 : List ByteArray) (r : Bool) (w : World) (hG : Err.Gs w) (hr0_0 : Kd.C (Kd.int .i64) w A0_0 l0_0.length l0_0) (hc0_0 : l0_0.length ≤ c0_0) (hr0_1 : Kd.C Kd.string w A0_1 l0_1.length l0_1) (hc0_1 : l0_1.length ≤ c0_1) (h : tensor_Right.f l0_0 l0_1 = some r) :
  Calls Tryz.prog 31 #[.agg #[.slice A0_0 l0_0.length c0_0, .slice A0_1 l0_1.length c0_1]] w fun e w' => e = .returned (.bool r) ∧ Below w.heap.size w w' := by
 unfold tensor_Right.f at h
 split at h
 ·
  rename_i hl
  injection h with h;subst h;exact Ten.tright_calls A0_0 c0_0 A0_1 c0_1 ⟨l0_0, l0_1⟩ w hG hr0_0 hc0_0 hr0_1 hl.1 hl.2.1 hl.big
 ·
  cases h
theorem tensor_Right.of (s : List Int) (d : List ByteArray) (h : Ten.Sm s d) : tensor_Right.f s d = some (Ten.tRight ⟨s, d⟩) := by rw [tensor_Right.f, if_pos h]
/-! ### slices_Contains_string_string: function 46 -/
open Classical in
noncomputable def slices_Contains_string_string.f (l0 : List ByteArray) (a1 : ByteArray) : Option Bool := if l0.length ≤ 1000 then some (decide (a1 ∈ l0)) else none
theorem slices_Contains_string_string.calls (A0 : Option Addr) (c0 : Nat) (l0 : List ByteArray) (a1 : ByteArray) (r : Bool) (w : World) (hr0 : Kd.C Kd.string w A0 l0.length l0) (hc0 : l0.length ≤ c0) (h : slices_Contains_string_string.f l0 a1 = some r) :
  Calls Tryz.prog 46 #[.slice A0 l0.length c0, .string a1] w fun e w' => e = .returned (.bool r) ∧ Below w.heap.size w w' := by
 unfold slices_Contains_string_string.f at h
 split at h
 ·
  rename_i hl
  injection h with h;subst h;exact Ten.has_calls A0 c0 l0 a1 w hr0 hc0 hl
 ·
  cases h
open Classical in
theorem slices_Contains_string_string.of (l : List ByteArray) (x : ByteArray) (h : l.length ≤ 1000) : slices_Contains_string_string.f l x = some (decide (x ∈ l)) := by rw [slices_Contains_string_string.f, if_pos h]
/-! ### kink_Flat: function 23 -/
noncomputable def kink_Flat.f (l0_0 : List Int) (l0_1 : List ByteArray) : Option (Bool × Int) := (tensor_Right.f l0_0 l0_1).bind fun t102 => (if t102 = true then ((slices_Contains_string_string.f l0_1 (⟨#[48]⟩ : ByteArray)).bind fun t103 => (some (t103, 0))) else (some (false, 1)))
theorem kink_Flat.calls (A0_0 : Option Addr) (c0_0 : Nat) (l0_0 : List Int) (A0_1 : Option Addr) (c0_1 : Nat) (l0_1 : List ByteArray) (r1 : Bool) (r2 : Int) (w : World) (hG : Err.Gs w) (hr0_0 : Kd.C (Kd.int .i64) w A0_0 l0_0.length l0_0) (hc0_0 : l0_0.length ≤ c0_0) (hr0_1 : Kd.C Kd.string w A0_1 l0_1.length l0_1) (hc0_1 : l0_1.length ≤ c0_1) (h : kink_Flat.f l0_0 l0_1 = some (r1, r2)) :
  Calls Tryz.prog 23 #[.agg #[.slice A0_0 l0_0.length c0_0, .slice A0_1 l0_1.length c0_1]] w fun e w' => e = .returned (.tuple #[.bool r1, .int .i64 r2]) ∧ Below w.heap.size w w' := by
 have hu25 := Tryz.underlying25;have HR0_0 := A_ hr0_0;have HC0_0 := A_ hc0_0;clear hr0_0 hc0_0;have HR0_1 := A_ hr0_1;have HC0_1 := A_ hc0_1;clear hr0_1 hc0_1;have HB := A_ (Below.refl w.heap.size w);have HGs := A_ hG;clear hG;unfold kink_Flat.f at h;have H := h;clear h;replace H := BE_ H;obtain ⟨t102, A20, H⟩ := H;have A2 := A_ A20;clear A20
 by_cases c3 : t102 = true
 ·
  subst c3;rw [if_pos rfl] at H;replace H := BE_ H;obtain ⟨t103, A40, H⟩ := H;have A4 := A_ A40;clear A40;simp only [Option.some.injEq, Prod.mk.injEq] at H;obtain ⟨rfl, rfl⟩ := H;go_enter Tryz.func23, Tryz.ntmps23
  go_wp2_with (first | (refine BX_ 1 #[.slice A0_0 l0_0.length c0_0, .slice A0_1 l0_1.length c0_1] 25 ?_; intro gb101 hg w5 hbox hb; have BK101 := A_ (hbox); have GE101 := GE_ hg; replace HB := BS_ hb; clear hb hbox hg; obtain ⟨hcz6_0, hcz6_1, hfz6_0, hfz6_1⟩ := CF_ BK101) | (refine GL_ 31 5 Tryz.func31 #[.agg #[.slice A0_0 l0_0.length c0_0, .slice A0_1 l0_1.length c0_1]] ?_; (with_reducible refine (tensor_Right.calls _ _ l0_0 _ _ l0_1 true _ (Err.Gs.below HGs.out T9_) (CW_ HR0_0) HC0_0.out (CW_ HR0_1) HC0_1.out A2.out).mono ?_); rintro e w7 ⟨rfl, hb⟩; refine ⟨_, rfl, ?_⟩; replace BK101 := BF_ BK101 hb; replace HB := BU_ hb; clear hb; obtain ⟨hcz8_0, hcz8_1, hfz8_0, hfz8_1⟩ := CF_ BK101) | (refine GL_ 46 9 Tryz.func46 #[.slice A0_1 l0_1.length c0_1, .string (⟨#[48]⟩ : ByteArray)] ?_; (with_reducible refine (slices_Contains_string_string.calls _ _ l0_1 (⟨#[48]⟩ : ByteArray) t103 _ (CW_ HR0_1) HC0_1.out A4.out).mono ?_); rintro e w9 ⟨rfl, hb⟩; refine ⟨_, rfl, ?_⟩; replace BK101 := BF_ BK101 hb; replace HB := BU_ hb; clear hb))
  go_ret2
  exact ⟨T4_, T9_⟩
 ·
  replace c3 := Bool.eq_false_iff.mpr c3;subst c3;rw [if_neg (show ¬ (false = true) by decide)] at H;simp only [Option.some.injEq, Prod.mk.injEq] at H;obtain ⟨rfl, rfl⟩ := H;go_enter Tryz.func23, Tryz.ntmps23
  go_wp2_with (first | (refine BX_ 1 #[.slice A0_0 l0_0.length c0_0, .slice A0_1 l0_1.length c0_1] 25 ?_; intro gb101 hg w10 hbox hb; have BK101 := A_ (hbox); have GE101 := GE_ hg; replace HB := BS_ hb; clear hb hbox hg; obtain ⟨hcz11_0, hcz11_1, hfz11_0, hfz11_1⟩ := CF_ BK101) | (refine GL_ 31 5 Tryz.func31 #[.agg #[.slice A0_0 l0_0.length c0_0, .slice A0_1 l0_1.length c0_1]] ?_; (with_reducible refine (tensor_Right.calls _ _ l0_0 _ _ l0_1 false _ (Err.Gs.below HGs.out T9_) (CW_ HR0_0) HC0_0.out (CW_ HR0_1) HC0_1.out A2.out).mono ?_); rintro e w12 ⟨rfl, hb⟩; refine ⟨_, rfl, ?_⟩; replace BK101 := BF_ BK101 hb; replace HB := BU_ hb; clear hb))
  go_ret2
  exact ⟨T4_, T9_⟩
end Go.Proofs.YtndkjpkgllmbnaaGreatDoor.PI
