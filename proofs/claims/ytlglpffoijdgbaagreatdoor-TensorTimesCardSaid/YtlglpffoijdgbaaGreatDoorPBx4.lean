-- by wip/tool/mine.py of this repo (the kit's printer with given contracts)
import Derived.Test.YtlglpffoijdgbaaGreatDoorPBx0
import Derived.Test.YtlglpffoijdgbaaGreatDoorPBx1
import Derived.Test.YtlglpffoijdgbaaGreatDoorPBx2
import Derived.Test.YtlglpffoijdgbaaGreatDoorPBx3
namespace Go.Proofs.YtlglpffoijdgbaaGreatDoor.PB
set_option maxHeartbeats 8000000
set_option maxRecDepth 100000
open Go.RowKit Go.Proofs.YtlglpffoijdgbaaGreatDoorW.PrintWords Go.Proofs.YtlglpffoijdgbaaGreatDoorW.PrintLast Go.Proofs.YtlglpffoijdgbaaGreatDoorW.PrintMore
attribute [local go_sem] max2_int min2_int max_two min_two max_three min_three max_four min_four   -- for this text's walks alone
set_option linter.unusedVariables false
set_option linter.unusedSimpArgs false

/-! ### whole_Mul: function 74 -/
def whole_Mul.f (a0 : ByteArray) (a1 : ByteArray) : Option (ByteArray × Int) := (whole_both.f a0 a1).bind fun bt140 => (if bt140.2.2.2.2 = true then ((nat_Mul.f bt140.2.1 bt140.2.2.2.1).bind fun bt147 => ((whole_number_text.f (bt140.1 != bt140.2.2.1) bt147.1).bind fun t149 => (some (t149, 0)))) else (some ((⟨#[]⟩ : ByteArray), 2)))
theorem whole_Mul.calls (a0 : ByteArray) (a1 : ByteArray) (r1 : ByteArray) (r2 : Int) (w : World) (h : whole_Mul.f a0 a1 = some (r1, r2)) :
  Calls Tryz.prog 74 #[.string a0, .string a1] w fun e w' => e = .returned (.tuple #[.string r1, .int .i64 r2]) ∧ Below w.heap.size w w' := by
 have hu102 := Tryz.underlying102
 have HB := Aside0.mk (Below.refl w.heap.size w)
 unfold whole_Mul.f at h
 have H := h
 clear h
 replace H := Option.bind_eq_some_iff.mp H
 obtain ⟨⟨t140, t141, t142, t143, t144⟩, A30, H⟩ := H
 have A3 := Aside0.mk A30
 clear A30
 by_cases c4 : t144 = true
 ·
  subst c4
  rw [if_pos rfl] at H
  replace H := Option.bind_eq_some_iff.mp H
  obtain ⟨⟨t147, t148⟩, A50, H⟩ := H
  have A5 := Aside0.mk A50
  clear A50
  replace H := Option.bind_eq_some_iff.mp H
  obtain ⟨t149, A60, H⟩ := H
  have A6 := Aside0.mk A60
  clear A60
  simp only [Option.some.injEq, Prod.mk.injEq] at H
  obtain ⟨rfl, rfl⟩ := H
  go_enter Tryz.func74, Tryz.ntmps74
  go_wp2_with (first | ((with_reducible refine gate_callee (f := 85) rfl ?_); refine goesL_ (some 14) rfl rfl Tryz.func85 (by kernel_rfl) rfl #[.string a0, .string a1] rfl T2_ ?_; (with_reducible refine (whole_both.calls a0 a1 t140 t141 t142 t143 true _ A3.out).mono ?_); rintro e w7 ⟨rfl, hb⟩; refine ⟨_, rfl, ?_⟩; replace HB := Aside0.mk (below_step T1_ hb); clear hb) | ((with_reducible refine gate_dst (N := 6) rfl ?_); refine box_event ?hg (N := 6) ?hd (cs := #[.bool false, .string (⟨#[]⟩ : ByteArray)]) (t := 102) ?hr ?_; (case hd => rfl); (case hg => rfl); (case hr => exact T3_); intro gb145 hg w8 hbox hb; have BK145 := Aside0.mk (hbox); have GW145 := GE_ hg; have GE145 := GE_ hg; replace HB := Aside0.mk (below_step T1_ hb); clear hb hbox hg) | ((with_reducible refine gate_dst (N := 7) rfl ?_); refine box_event ?hg (N := 7) ?hd (cs := #[.bool false, .string (⟨#[]⟩ : ByteArray)]) (t := 102) ?hr ?_; (case hd => rfl); (case hg => rfl); (case hr => exact T3_); intro gb146 hg w9 hbox hb; have BK146 := Aside0.mk (hbox); have GW146 := GE_ hg; have GE146 := GE_ hg; replace HB := Aside0.mk (below_step T9_ hb); have NB145_146 := NB_ BK145 hg; have NB146_145 := NC_ BK145 hg; replace BK145 := BF_ BK145 hb; clear hb hbox hg; have hnb10 := NB145_146.out; have hnc10 := NB146_145.out; have hcz11_0 := CA_ BK145; have hcz11_1 := CB_ BK145; have hfz11_0 := blk_frozen BK145.out 0; have hfz11_1 := blk_frozen BK145.out 1; have hcz12_0 : w9.cell? ⟨gb146, 0, none⟩ = some (.bool false) := (blk_cell BK146.out 0).trans rfl; have hcz12_1 : w9.cell? ⟨gb146, 1, none⟩ = some (.string (⟨#[]⟩ : ByteArray)) := (blk_cell BK146.out 1).trans rfl; have hfz12_0 := blk_frozen BK146.out 0; have hfz12_1 := blk_frozen BK146.out 1) | ((with_reducible refine gate_callee (f := 100) rfl ?_); refine goesL_ (some 25) rfl rfl Tryz.func100 (by kernel_rfl) rfl #[.string t141, .string t143] rfl T2_ ?_; (with_reducible refine (nat_Mul.calls t141 t143 t147 t148 _ A5.out).mono ?_); rintro e w13 ⟨rfl, hb⟩; refine ⟨_, rfl, ?_⟩; replace BK145 := Aside0.mk (blk_below (g := gb145) (o := .cells #[.bool t140, .string t141] 102 (0, 0)) (by (with_reducible repeat (first | refine blk_drewN ?_ _ | refine blk_drew ?_ | refine blk_alloc ?_ _)); refine blk_far ?_ NB145_146.out _; (with_reducible repeat (first | refine blk_drewN ?_ _ | refine blk_drew ?_ | refine blk_alloc ?_ _)); refine blk_far ?_ NB145_146.out _; (with_reducible repeat (first | refine blk_drewN ?_ _ | refine blk_drew ?_ | refine blk_alloc ?_ _)); refine blk_put (cs := #[.bool t140, .string (⟨#[]⟩ : ByteArray)]) ?_ 1 _ rfl; (with_reducible repeat (first | refine blk_drewN ?_ _ | refine blk_drew ?_ | refine blk_alloc ?_ _)); refine blk_put (cs := #[.bool false, .string (⟨#[]⟩ : ByteArray)]) ?_ 0 _ rfl; (with_reducible repeat (first | refine blk_drewN ?_ _ | refine blk_drew ?_ | refine blk_alloc ?_ _)); exact BK145.out) hb); replace BK146 := Aside0.mk (blk_below (g := gb146) (o := .cells #[.bool t142, .string t143] 102 (0, 0)) (by (with_reducible repeat (first | refine blk_drewN ?_ _ | refine blk_drew ?_ | refine blk_alloc ?_ _)); refine blk_put (cs := #[.bool t142, .string (⟨#[]⟩ : ByteArray)]) ?_ 1 _ rfl; (with_reducible repeat (first | refine blk_drewN ?_ _ | refine blk_drew ?_ | refine blk_alloc ?_ _)); refine blk_put (cs := #[.bool false, .string (⟨#[]⟩ : ByteArray)]) ?_ 0 _ rfl; (with_reducible repeat (first | refine blk_drewN ?_ _ | refine blk_drew ?_ | refine blk_alloc ?_ _)); refine blk_far ?_ NB146_145.out _; (with_reducible repeat (first | refine blk_drewN ?_ _ | refine blk_drew ?_ | refine blk_alloc ?_ _)); refine blk_far ?_ NB146_145.out _; (with_reducible repeat (first | refine blk_drewN ?_ _ | refine blk_drew ?_ | refine blk_alloc ?_ _)); exact BK146.out) hb); replace HB := Aside0.mk (below_step T9_ hb); (try clear hb); (try clear hb2); (try clear hk); (try clear hi); have hcz14_0 := CA_ BK145; have hcz14_1 := CB_ BK145; have hfz14_0 := blk_frozen BK145.out 0; have hfz14_1 := blk_frozen BK145.out 1; have hcz15_0 : w13.cell? ⟨gb146, 0, none⟩ = some (.bool t142) := (blk_cell BK146.out 0).trans rfl; have hcz15_1 : w13.cell? ⟨gb146, 1, none⟩ = some (.string t143) := (blk_cell BK146.out 1).trans rfl; have hfz15_0 := blk_frozen BK146.out 0; have hfz15_1 := blk_frozen BK146.out 1) | ((with_reducible refine gate_callee (f := 87) rfl ?_); refine goesL_ (some 35) rfl rfl Tryz.func87 (by kernel_rfl) rfl #[.agg #[.bool (t140 != t142), .string t147]] rfl T2_ ?_; (with_reducible refine (whole_number_text.calls (t140 != t142) t147 t149 _ A6.out).mono ?_); rintro e w16 ⟨rfl, hb⟩; refine ⟨_, rfl, ?_⟩; replace BK145 := BF_ BK145 hb; replace BK146 := BF_ BK146 hb; replace HB := Aside0.mk (below_step T9_ hb); (try clear hb); (try clear hb2); (try clear hk); (try clear hi)))
  go_ret2
  exact ⟨T4_, T9_⟩
 ·
  replace c4 := Bool.eq_false_iff.mpr c4
  subst c4
  rw [if_neg (show ¬ (false = true) by decide)] at H
  simp only [Option.some.injEq, Prod.mk.injEq] at H
  obtain ⟨rfl, rfl⟩ := H
  go_enter Tryz.func74, Tryz.ntmps74
  go_wp2_with (first | ((with_reducible refine gate_callee (f := 85) rfl ?_); refine goesL_ (some 14) rfl rfl Tryz.func85 (by kernel_rfl) rfl #[.string a0, .string a1] rfl T2_ ?_; (with_reducible refine (whole_both.calls a0 a1 t140 t141 t142 t143 false _ A3.out).mono ?_); rintro e w17 ⟨rfl, hb⟩; refine ⟨_, rfl, ?_⟩; replace HB := Aside0.mk (below_step T1_ hb); clear hb) | ((with_reducible refine gate_dst (N := 6) rfl ?_); refine box_event ?hg (N := 6) ?hd (cs := #[.bool false, .string (⟨#[]⟩ : ByteArray)]) (t := 102) ?hr ?_; (case hd => rfl); (case hg => rfl); (case hr => exact T3_); intro gb145 hg w18 hbox hb; have BK145 := Aside0.mk (hbox); have GW145 := GE_ hg; have GE145 := GE_ hg; replace HB := Aside0.mk (below_step T1_ hb); clear hb hbox hg) | ((with_reducible refine gate_dst (N := 7) rfl ?_); refine box_event ?hg (N := 7) ?hd (cs := #[.bool false, .string (⟨#[]⟩ : ByteArray)]) (t := 102) ?hr ?_; (case hd => rfl); (case hg => rfl); (case hr => exact T3_); intro gb146 hg w19 hbox hb; have BK146 := Aside0.mk (hbox); have GW146 := GE_ hg; have GE146 := GE_ hg; replace HB := Aside0.mk (below_step T9_ hb); have NB145_146 := NB_ BK145 hg; have NB146_145 := NC_ BK145 hg; replace BK145 := BF_ BK145 hb; clear hb hbox hg; have hnb20 := NB145_146.out; have hnc20 := NB146_145.out; have hcz21_0 := CA_ BK145; have hcz21_1 := CB_ BK145; have hfz21_0 := blk_frozen BK145.out 0; have hfz21_1 := blk_frozen BK145.out 1; have hcz22_0 : w19.cell? ⟨gb146, 0, none⟩ = some (.bool false) := (blk_cell BK146.out 0).trans rfl; have hcz22_1 : w19.cell? ⟨gb146, 1, none⟩ = some (.string (⟨#[]⟩ : ByteArray)) := (blk_cell BK146.out 1).trans rfl; have hfz22_0 := blk_frozen BK146.out 0; have hfz22_1 := blk_frozen BK146.out 1))
  go_ret2
  exact ⟨T4_, T9_⟩
/-! ### whole_Neg: function 70 -/
def whole_Neg.f (a0 : ByteArray) : Option (ByteArray × Int) := (whole_read.f a0).bind fun bt150 => (if bt150.2.2 = true then ((whole_number_text.f (!bt150.1) bt150.2.1).bind fun t154 => (some (t154, 0))) else (some ((⟨#[]⟩ : ByteArray), 2)))
theorem whole_Neg.calls (a0 : ByteArray) (r1 : ByteArray) (r2 : Int) (w : World) (h : whole_Neg.f a0 = some (r1, r2)) :
  Calls Tryz.prog 70 #[.string a0] w fun e w' => e = .returned (.tuple #[.string r1, .int .i64 r2]) ∧ Below w.heap.size w w' := by
 have hu102 := Tryz.underlying102
 have HB := Aside0.mk (Below.refl w.heap.size w)
 unfold whole_Neg.f at h
 have H := h
 clear h
 replace H := Option.bind_eq_some_iff.mp H
 obtain ⟨⟨t150, t151, t152⟩, A20, H⟩ := H
 have A2 := Aside0.mk A20
 clear A20
 by_cases c3 : t152 = true
 ·
  subst c3
  rw [if_pos rfl] at H
  replace H := Option.bind_eq_some_iff.mp H
  obtain ⟨t154, A40, H⟩ := H
  have A4 := Aside0.mk A40
  clear A40
  simp only [Option.some.injEq, Prod.mk.injEq] at H
  obtain ⟨rfl, rfl⟩ := H
  go_enter Tryz.func70, Tryz.ntmps70
  go_wp2_with (first | ((with_reducible refine gate_callee (f := 95) rfl ?_); refine goesL_ (some 8) rfl rfl Tryz.func95 (by kernel_rfl) rfl #[.string a0] rfl T2_ ?_; (with_reducible refine (whole_read.calls a0 t150 t151 true _ A2.out).mono ?_); rintro e w5 ⟨rfl, hb⟩; refine ⟨_, rfl, ?_⟩; replace HB := Aside0.mk (below_step T1_ hb); clear hb) | ((with_reducible refine gate_dst (N := 4) rfl ?_); refine box_event ?hg (N := 4) ?hd (cs := #[.bool false, .string (⟨#[]⟩ : ByteArray)]) (t := 102) ?hr ?_; (case hd => rfl); (case hg => rfl); (case hr => exact T3_); intro gb153 hg w6 hbox hb; have BK153 := Aside0.mk (hbox); have GW153 := GE_ hg; have GE153 := GE_ hg; replace HB := Aside0.mk (below_step T1_ hb); clear hb hbox hg; have hcz7_0 := CA_ BK153; have hcz7_1 := CB_ BK153; have hfz7_0 := blk_frozen BK153.out 0; have hfz7_1 := blk_frozen BK153.out 1) | ((with_reducible refine gate_callee (f := 87) rfl ?_); refine goesL_ (some 18) rfl rfl Tryz.func87 (by kernel_rfl) rfl #[.agg #[.bool (!t150), .string t151]] rfl T2_ ?_; (with_reducible refine (whole_number_text.calls (!t150) t151 t154 _ A4.out).mono ?_); rintro e w8 ⟨rfl, hb⟩; refine ⟨_, rfl, ?_⟩; replace BK153 := Aside0.mk (blk_below (g := gb153) (o := .cells #[.bool (!t150), .string t151] 102 (0, 0)) (by (with_reducible repeat (first | refine blk_drewN ?_ _ | refine blk_drew ?_ | refine blk_alloc ?_ _)); refine blk_put (cs := #[.bool t150, .string t151]) ?_ 0 _ rfl; (with_reducible repeat (first | refine blk_drewN ?_ _ | refine blk_drew ?_ | refine blk_alloc ?_ _)); refine blk_put (cs := #[.bool t150, .string (⟨#[]⟩ : ByteArray)]) ?_ 1 _ rfl; (with_reducible repeat (first | refine blk_drewN ?_ _ | refine blk_drew ?_ | refine blk_alloc ?_ _)); refine blk_put (cs := #[.bool false, .string (⟨#[]⟩ : ByteArray)]) ?_ 0 _ rfl; (with_reducible repeat (first | refine blk_drewN ?_ _ | refine blk_drew ?_ | refine blk_alloc ?_ _)); exact BK153.out) hb); replace HB := Aside0.mk (below_step T9_ hb); (try clear hb); (try clear hb2); (try clear hk); (try clear hi)))
  go_ret2
  exact ⟨T4_, T9_⟩
 ·
  replace c3 := Bool.eq_false_iff.mpr c3
  subst c3
  rw [if_neg (show ¬ (false = true) by decide)] at H
  simp only [Option.some.injEq, Prod.mk.injEq] at H
  obtain ⟨rfl, rfl⟩ := H
  go_enter Tryz.func70, Tryz.ntmps70
  go_wp2_with (first | ((with_reducible refine gate_callee (f := 95) rfl ?_); refine goesL_ (some 8) rfl rfl Tryz.func95 (by kernel_rfl) rfl #[.string a0] rfl T2_ ?_; (with_reducible refine (whole_read.calls a0 t150 t151 false _ A2.out).mono ?_); rintro e w9 ⟨rfl, hb⟩; refine ⟨_, rfl, ?_⟩; replace HB := Aside0.mk (below_step T1_ hb); clear hb) | ((with_reducible refine gate_dst (N := 4) rfl ?_); refine box_event ?hg (N := 4) ?hd (cs := #[.bool false, .string (⟨#[]⟩ : ByteArray)]) (t := 102) ?hr ?_; (case hd => rfl); (case hg => rfl); (case hr => exact T3_); intro gb153 hg w10 hbox hb; have BK153 := Aside0.mk (hbox); have GW153 := GE_ hg; have GE153 := GE_ hg; replace HB := Aside0.mk (below_step T1_ hb); clear hb hbox hg; have hcz11_0 := CA_ BK153; have hcz11_1 := CB_ BK153; have hfz11_0 := blk_frozen BK153.out 0; have hfz11_1 := blk_frozen BK153.out 1))
  go_ret2
  exact ⟨T4_, T9_⟩
/-! ### whole_Right: function 89 -/
def whole_Right.f (a0 : ByteArray) : Option (Bool) := (whole_read.f a0).bind fun bt155 => (some bt155.2.2)
theorem whole_Right.calls (a0 : ByteArray) (r : Bool) (w : World) (h : whole_Right.f a0 = some r) :
  Calls Tryz.prog 89 #[.string a0] w fun e w' => e = .returned (.bool r) ∧ Below w.heap.size w w' := by
 have hu102 := Tryz.underlying102
 have HB := Aside0.mk (Below.refl w.heap.size w)
 unfold whole_Right.f at h
 have H := h
 clear h
 replace H := Option.bind_eq_some_iff.mp H
 obtain ⟨⟨t155, t156, t157⟩, A20, H⟩ := H
 have A2 := Aside0.mk A20
 clear A20
 obtain rfl := Option.some.inj H
 go_enter Tryz.func89, Tryz.ntmps89
 go_wp2_with (first | ((with_reducible refine gate_callee (f := 95) rfl ?_); refine goesL_ (some 7) rfl rfl Tryz.func95 (by kernel_rfl) rfl #[.string a0] rfl T2_ ?_; (with_reducible refine (whole_read.calls a0 t155 t156 t157 _ A2.out).mono ?_); rintro e w3 ⟨rfl, hb⟩; refine ⟨_, rfl, ?_⟩; replace HB := Aside0.mk (below_step T1_ hb); clear hb) | ((with_reducible refine gate_dst (N := 3) rfl ?_); refine box_event ?hg (N := 3) ?hd (cs := #[.bool false, .string (⟨#[]⟩ : ByteArray)]) (t := 102) ?hr ?_; (case hd => rfl); (case hg => rfl); (case hr => exact T3_); intro gb158 hg w4 hbox hb; have BK158 := Aside0.mk (hbox); have GW158 := GE_ hg; have GE158 := GE_ hg; replace HB := Aside0.mk (below_step T1_ hb); clear hb hbox hg; have hcz5_0 := CA_ BK158; have hcz5_1 := CB_ BK158; have hfz5_0 := blk_frozen BK158.out 0; have hfz5_1 := blk_frozen BK158.out 1))
 go_ret
 exact ⟨T4_, T9_⟩
/-- THE ONE PURE STATEMENT of whole_Right: yours. -/
def whole_Right.Pure : Prop := ∀ (a0 : ByteArray), a0.size ≤ 140737488351232 → whole_Right.f a0 = some true
theorem whole_Right.walk (P : whole_Right.Pure) (a0 : ByteArray) (w : World) (w0 : a0.size ≤ 140737488351232) :
  Calls Tryz.prog 89 #[.string a0] w fun e w' => e = .returned (.bool true) ∧ Below w.heap.size w w' := by
 have h := P a0 w0
 refine (whole_Right.calls a0 true w h).mono ?_
 rintro e w' ⟨rfl, hd⟩
 exact ⟨rfl, hd⟩
/-! ### strings_HasPrefix: function 69 -/
def strings_HasPrefix.f (a0 : ByteArray) (a1 : ByteArray) : Option (Bool) := (stringslite_HasPrefix.f a0 a1).bind fun t159 => (some t159)
theorem strings_HasPrefix.calls (a0 : ByteArray) (a1 : ByteArray) (r : Bool) (w : World) (h : strings_HasPrefix.f a0 a1 = some r) :
  Calls Tryz.prog 69 #[.string a0, .string a1] w fun e w' => e = .returned (.bool r) ∧ Drawn0 w w' := by
 unfold strings_HasPrefix.f at h
 have H := h
 clear h
 replace H := Option.bind_eq_some_iff.mp H
 obtain ⟨t159, A30, H⟩ := H
 have A3 := Aside0.mk A30
 clear A30
 obtain rfl := Option.some.inj H
 go_enter Tryz.func69, Tryz.ntmps69
 go_wp2_with (first | ((with_reducible refine gate_callee (f := 94) rfl ?_); refine goesL_ (some 7) rfl rfl Tryz.func94 (by kernel_rfl) rfl #[.string a0, .string a1] rfl T2_ ?_; (with_reducible refine (stringslite_HasPrefix.calls a0 a1 t159 _ A3.out).mono ?_); rintro e w' ⟨rfl, ⟨nd, rfl⟩⟩; refine ⟨_, rfl, ?_⟩))
 go_ret
 exact ⟨by first | rfl | (simp; done) | (simp [*]; done), by repeat (first | exact Drawn0.refl _ | apply Drawn0.step)⟩
/-- THE ONE PURE STATEMENT of strings_HasPrefix: yours. -/
def strings_HasPrefix.Pure : Prop := ∀ (a0 : ByteArray) (a1 : ByteArray), a0.size ≤ 140737488351232 → a1.size ≤ 140737488351232 → strings_HasPrefix.f a0 a1 = some true
theorem strings_HasPrefix.walk (P : strings_HasPrefix.Pure) (a0 : ByteArray) (a1 : ByteArray) (w : World) (w0 : a0.size ≤ 140737488351232) (w1 : a1.size ≤ 140737488351232) :
  Calls Tryz.prog 69 #[.string a0, .string a1] w fun e w' => e = .returned (.bool true) ∧ Below w.heap.size w w' := by
 have h := P a0 a1 w0 w1
 refine (strings_HasPrefix.calls a0 a1 true w h).mono ?_
 rintro e w' ⟨rfl, hd⟩
 exact ⟨rfl, hd.below⟩
/-! ### stringslite_TrimPrefix: function 119 -/
def stringslite_TrimPrefix.f (a0 : ByteArray) (a1 : ByteArray) : Option (ByteArray) := (stringslite_HasPrefix.f a0 a1).bind fun t160 => (if t160 = true then (if 0 ≤ (a1.size : Int) then (if (a1.size : Int) ≤ (a0.size : Int) then (some (a0.extract ((a1.size : Int) : Int).toNat a0.size)) else (none)) else (none)) else (some a0))
theorem stringslite_TrimPrefix.calls (a0 : ByteArray) (a1 : ByteArray) (r : ByteArray) (w : World) (h : stringslite_TrimPrefix.f a0 a1 = some r) :
  Calls Tryz.prog 119 #[.string a0, .string a1] w fun e w' => e = .returned (.string r) ∧ Drawn0 w w' := by
 unfold stringslite_TrimPrefix.f at h
 have H := h
 clear h
 replace H := Option.bind_eq_some_iff.mp H
 obtain ⟨t160, A30, H⟩ := H
 have A3 := Aside0.mk A30
 clear A30
 by_cases c4 : t160 = true
 ·
  subst c4
  rw [if_pos rfl] at H
  by_cases c5 : 0 ≤ (a1.size : Int)
  ·
   rw [if_pos c5] at H
   have c5b0 := eq_true c5
   have c5b1 : decide (0 ≤ (a1.size : Int)) = true := decide_eq_true c5
   clear c5
   by_cases c6 : (a1.size : Int) ≤ (a0.size : Int)
   ·
    rw [if_pos c6] at H
    have c6b0 := eq_true c6
    have c6b1 : decide ((a1.size : Int) ≤ (a0.size : Int)) = true := decide_eq_true c6
    clear c6
    obtain rfl := Option.some.inj H
    go_enter Tryz.func119, Tryz.ntmps119
    go_wp2_with (first | ((with_reducible refine gate_callee (f := 94) rfl ?_); refine goesL_ (some 7) rfl rfl Tryz.func94 (by kernel_rfl) rfl #[.string a0, .string a1] rfl T2_ ?_; (with_reducible refine (stringslite_HasPrefix.calls a0 a1 true _ A3.out).mono ?_); rintro e w' ⟨rfl, ⟨nd, rfl⟩⟩; refine ⟨_, rfl, ?_⟩))
    go_ret
    exact ⟨by first | rfl | (simp; done) | (simp [*]; done), by repeat (first | exact Drawn0.refl _ | apply Drawn0.step)⟩
   ·
    rw [if_neg c6] at H
    exact absurd H (by simp)
  ·
   rw [if_neg c5] at H
   exact absurd H (by simp)
 ·
  replace c4 := Bool.eq_false_iff.mpr c4
  subst c4
  rw [if_neg (show ¬ (false = true) by decide)] at H
  obtain rfl := Option.some.inj H
  go_enter Tryz.func119, Tryz.ntmps119
  go_wp2_with (first | ((with_reducible refine gate_callee (f := 94) rfl ?_); refine goesL_ (some 7) rfl rfl Tryz.func94 (by kernel_rfl) rfl #[.string a0, .string a1] rfl T2_ ?_; (with_reducible refine (stringslite_HasPrefix.calls a0 a1 false _ A3.out).mono ?_); rintro e w' ⟨rfl, ⟨nd, rfl⟩⟩; refine ⟨_, rfl, ?_⟩))
  go_ret
  exact ⟨by first | rfl | (simp; done) | (simp [*]; done), by repeat (first | exact Drawn0.refl _ | apply Drawn0.step)⟩
/-! ### strings_TrimPrefix: function 96 -/
def strings_TrimPrefix.f (a0 : ByteArray) (a1 : ByteArray) : Option (ByteArray) := (stringslite_TrimPrefix.f a0 a1).bind fun t161 => (some t161)
theorem strings_TrimPrefix.calls (a0 : ByteArray) (a1 : ByteArray) (r : ByteArray) (w : World) (h : strings_TrimPrefix.f a0 a1 = some r) :
  Calls Tryz.prog 96 #[.string a0, .string a1] w fun e w' => e = .returned (.string r) ∧ Drawn0 w w' := by
 unfold strings_TrimPrefix.f at h
 have H := h
 clear h
 replace H := Option.bind_eq_some_iff.mp H
 obtain ⟨t161, A30, H⟩ := H
 have A3 := Aside0.mk A30
 clear A30
 obtain rfl := Option.some.inj H
 go_enter Tryz.func96, Tryz.ntmps96
 go_wp2_with (first | ((with_reducible refine gate_callee (f := 119) rfl ?_); refine goesL_ (some 7) rfl rfl Tryz.func119 (by kernel_rfl) rfl #[.string a0, .string a1] rfl T2_ ?_; (with_reducible refine (stringslite_TrimPrefix.calls a0 a1 t161 _ A3.out).mono ?_); rintro e w' ⟨rfl, ⟨nd, rfl⟩⟩; refine ⟨_, rfl, ?_⟩))
 go_ret
 exact ⟨by first | rfl | (simp; done) | (simp [*]; done), by repeat (first | exact Drawn0.refl _ | apply Drawn0.step)⟩
end Go.Proofs.YtlglpffoijdgbaaGreatDoor.PB
