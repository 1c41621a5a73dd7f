-- by wip/tool/mine.py of this repo (the kit's printer with given contracts)
import Derived.Test.YtlglpffoijdgbaaGreatDoorPBx0
import Derived.Test.YtlglpffoijdgbaaGreatDoorPBx2
namespace Go.Proofs.YtlglpffoijdgbaaGreatDoor.PB
set_option maxHeartbeats 8000000
set_option maxRecDepth 100000
open Go.RowKit Go.Proofs.YtlglpffoijdgbaaGreatDoorW.PrintWords Go.Proofs.YtlglpffoijdgbaaGreatDoorW.PrintLast Go.Proofs.YtlglpffoijdgbaaGreatDoorW.PrintMore
attribute [local go_sem] max2_int min2_int max_two min_two max_three min_three max_four min_four   -- for this text's walks alone
set_option linter.unusedVariables false
set_option linter.unusedSimpArgs false

/-! ### nat_Add: function 106 -/
def nat_Add.f (a0 : ByteArray) (a1 : ByteArray) : Option (ByteArray × Int) := if Th.Fit a0 ∧ Th.Fit a1 then some (Th.sAdd a0 a1) else none
theorem nat_Add.calls (a0 : ByteArray) (a1 : ByteArray) (r1 : ByteArray) (r2 : Int) (w : World) (h : nat_Add.f a0 a1 = some (r1, r2)) :
  Calls Tryz.prog 106 #[.string a0, .string a1] w fun e w' => e = .returned (.tuple #[.string r1, .int .i64 r2]) ∧ Below w.heap.size w w' := by
 unfold nat_Add.f at h
 by_cases c : Th.Fit a0 ∧ Th.Fit a1
 ·
  rw [if_pos c] at h
  obtain ⟨k, hk⟩ := (Th.add_spec a0 a1 c.1 c.2).rounds
  exact PA.nat_Add.calls k a0 a1 r1 r2 w (hk.trans h)
 ·
  rw [if_neg c] at h
  cases h
theorem nat_Add.txt {m n : Nat} (hm : Th.Fit (Th.txt m)) (hn : Th.Fit (Th.txt n)) : nat_Add.f (Th.txt m) (Th.txt n) = some (Th.txt (m + n), 0) := by
 rw [nat_Add.f, if_pos ⟨hm, hn⟩, Th.sAdd, Th.right_txt, Th.right_txt, Th.num_txt, Th.num_txt]
 rfl
/-! ### nat_Compare: function 107 -/
def nat_Compare.f (a0 : ByteArray) (a1 : ByteArray) : Option (Int × Int) := if Th.Fit a0 ∧ Th.Fit a1 then some (Th.sCompare a0 a1) else none
theorem nat_Compare.calls (a0 : ByteArray) (a1 : ByteArray) (r1 : Int) (r2 : Int) (w : World) (h : nat_Compare.f a0 a1 = some (r1, r2)) :
  Calls Tryz.prog 107 #[.string a0, .string a1] w fun e w' => e = .returned (.tuple #[.int .i64 r1, .int .i64 r2]) ∧ Below w.heap.size w w' := by
 unfold nat_Compare.f at h
 by_cases c : Th.Fit a0 ∧ Th.Fit a1
 ·
  rw [if_pos c] at h
  obtain ⟨k, hk⟩ := (Th.compare_spec a0 a1 c.1 c.2).rounds
  exact PA.nat_Compare.calls k a0 a1 r1 r2 w (hk.trans h)
 ·
  rw [if_neg c] at h
  cases h
theorem nat_Compare.txt {m n : Nat} (hm : Th.Fit (Th.txt m)) (hn : Th.Fit (Th.txt n)) : nat_Compare.f (Th.txt m) (Th.txt n) = some (Th.cmp (m : Int) (n : Int), 0) := by
 rw [nat_Compare.f, if_pos ⟨hm, hn⟩, Th.sCompare, Th.right_txt, Th.right_txt, Th.num_txt, Th.num_txt]
 rfl
/-! ### nat_Sub: function 108 -/
def nat_Sub.f (a0 : ByteArray) (a1 : ByteArray) : Option (ByteArray × Int) := if Th.Fit a0 ∧ Th.Fit a1 then some (Th.sSub a0 a1) else none
theorem nat_Sub.calls (a0 : ByteArray) (a1 : ByteArray) (r1 : ByteArray) (r2 : Int) (w : World) (h : nat_Sub.f a0 a1 = some (r1, r2)) :
  Calls Tryz.prog 108 #[.string a0, .string a1] w fun e w' => e = .returned (.tuple #[.string r1, .int .i64 r2]) ∧ Below w.heap.size w w' := by
 unfold nat_Sub.f at h
 by_cases c : Th.Fit a0 ∧ Th.Fit a1
 ·
  rw [if_pos c] at h
  obtain ⟨k, hk⟩ := (Th.sub_spec a0 a1 c.1 c.2).rounds
  exact PA.nat_Sub.calls k a0 a1 r1 r2 w (hk.trans h)
 ·
  rw [if_neg c] at h
  cases h
theorem nat_Sub.txt {m n : Nat} (hm : Th.Fit (Th.txt m)) (hn : Th.Fit (Th.txt n)) (h : n ≤ m) : nat_Sub.f (Th.txt m) (Th.txt n) = some (Th.txt (m - n), 0) := by
 rw [nat_Sub.f, if_pos ⟨hm, hn⟩, Th.sSub, Th.right_txt, Th.right_txt, Th.num_txt, Th.num_txt, if_neg (show ¬ m < n by omega)]
 rfl
theorem nat_Sub.txt_lt {m n : Nat} (hm : Th.Fit (Th.txt m)) (hn : Th.Fit (Th.txt n)) (h : m < n) : nat_Sub.f (Th.txt m) (Th.txt n) = some (⟨#[]⟩, 1) := by
 rw [nat_Sub.f, if_pos ⟨hm, hn⟩, Th.sSub, Th.right_txt, Th.right_txt, Th.num_txt, Th.num_txt, if_pos h]
 rfl
/-! ### whole_sum: function 86 -/
def whole_sum.f (a0_0 : Bool) (a0_1 : ByteArray) (a1_0 : Bool) (a1_1 : ByteArray) : Option (Bool × ByteArray) := if (a0_0 == a1_0) = true then ((nat_Add.f a0_1 a1_1).bind fun bt121 => (some (a0_0, bt121.1))) else ((nat_Compare.f a0_1 a1_1).bind fun bt123 => (if bt123.1 < 0 then ((nat_Sub.f a1_1 a0_1).bind fun bt125 => (some (a1_0, bt125.1))) else ((nat_Sub.f a0_1 a1_1).bind fun bt127 => (some (a0_0, bt127.1)))))
theorem whole_sum.calls (a0_0 : Bool) (a0_1 : ByteArray) (a1_0 : Bool) (a1_1 : ByteArray) (r1 : Bool) (r2 : ByteArray) (w : World) (h : whole_sum.f a0_0 a0_1 a1_0 a1_1 = some (r1, r2)) :
  Calls Tryz.prog 86 #[.agg #[.bool a0_0, .string a0_1], .agg #[.bool a1_0, .string a1_1]] w fun e w' => e = .returned (.agg #[.bool r1, .string r2]) ∧ Below w.heap.size w w' := by
 have hu102 := Tryz.underlying102
 have HB := Aside0.mk (Below.refl w.heap.size w)
 unfold whole_sum.f at h
 have H := h
 clear h
 by_cases c3 : (a0_0 == a1_0) = true
 ·
  rw [if_pos c3] at H
  have c3b0 : (a0_0 == a1_0) = true := c3
  (try (have c3b1 : decide (a0_0 = a1_0) = true := by simpa using c3))
  (try (have c3b2 : (a0_0 == a1_0) = true := by simpa using c3))
  clear c3
  replace H := Option.bind_eq_some_iff.mp H
  obtain ⟨⟨t121, t122⟩, A40, H⟩ := H
  have A4 := Aside0.mk A40
  clear A40
  simp only [Option.some.injEq, Prod.mk.injEq] at H
  obtain ⟨rfl, rfl⟩ := H
  go_enter Tryz.func86, Tryz.ntmps86
  go_wp2_with (first | ((with_reducible refine gate_dst (N := 2) rfl ?_); refine box_event ?hg (N := 2) ?hd (cs := #[.bool a0_0, .string a0_1]) (t := 102) ?hr ?_; (case hd => rfl); (case hg => rfl); (case hr => exact T3_); intro gb118 hg w5 hbox hb; have BK118 := Aside0.mk (hbox); have GW118 := GE_ hg; have GE118 := GE_ hg; replace HB := Aside0.mk (below_step T1_ hb); clear hb hbox hg) | ((with_reducible refine gate_dst (N := 3) rfl ?_); refine box_event ?hg (N := 3) ?hd (cs := #[.bool a1_0, .string a1_1]) (t := 102) ?hr ?_; (case hd => rfl); (case hg => rfl); (case hr => exact T3_); intro gb119 hg w6 hbox hb; have BK119 := Aside0.mk (hbox); have GW119 := GE_ hg; have GE119 := GE_ hg; replace HB := Aside0.mk (below_step T9_ hb); have NB118_119 := NB_ BK118 hg; have NB119_118 := NC_ BK118 hg; replace BK118 := BF_ BK118 hb; clear hb hbox hg) | ((with_reducible refine gate_dst (N := 4) rfl ?_); refine box_event ?hg (N := 4) ?hd (cs := #[.bool false, .string (⟨#[]⟩ : ByteArray)]) (t := 102) ?hr ?_; (case hd => rfl); (case hg => rfl); (case hr => exact T3_); intro gb120 hg w7 hbox hb; have BK120 := Aside0.mk (hbox); have GW120 := GE_ hg; have GE120 := GE_ hg; replace HB := Aside0.mk (below_step T9_ hb); have NB118_120 := NB_ BK118 hg; have NB120_118 := NC_ BK118 hg; replace BK118 := BF_ BK118 hb; have NB119_120 := NB_ BK119 hg; have NB120_119 := NC_ BK119 hg; replace BK119 := BF_ BK119 hb; clear hb hbox hg; have hnb8 := NB118_119.out; have hnc8 := NB119_118.out; have hnb9 := NB118_120.out; have hnc9 := NB120_118.out; have hcz10_0 := CA_ BK118; have hcz10_1 := CB_ BK118; have hfz10_0 := blk_frozen BK118.out 0; have hfz10_1 := blk_frozen BK118.out 1; have hnb11 := NB119_120.out; have hnc11 := NB120_119.out; have hcz12_0 : w7.cell? ⟨gb119, 0, none⟩ = some (.bool a1_0) := (blk_cell BK119.out 0).trans rfl; have hcz12_1 : w7.cell? ⟨gb119, 1, none⟩ = some (.string a1_1) := (blk_cell BK119.out 1).trans rfl; have hfz12_0 := blk_frozen BK119.out 0; have hfz12_1 := blk_frozen BK119.out 1) | ((with_reducible refine gate_callee (f := 106) rfl ?_); refine goesL_ (some 21) rfl rfl Tryz.func106 (by kernel_rfl) rfl #[.string a0_1, .string a1_1] rfl T2_ ?_; (with_reducible refine (nat_Add.calls a0_1 a1_1 t121 t122 _ A4.out).mono ?_); rintro e w13 ⟨rfl, hb⟩; refine ⟨_, rfl, ?_⟩; replace BK118 := BF_ BK118 hb; replace BK119 := BF_ BK119 hb; replace BK120 := BF_ BK120 hb; replace HB := Aside0.mk (below_step T9_ hb); (try clear hb); (try clear hb2); (try clear hk); (try clear hi); have hcz14_0 := CA_ BK118; have hcz14_1 := CB_ BK118; have hfz14_0 := blk_frozen BK118.out 0; have hfz14_1 := blk_frozen BK118.out 1; have hcz15_0 : w13.cell? ⟨gb120, 0, none⟩ = some (.bool false) := (blk_cell BK120.out 0).trans rfl; have hcz15_1 : w13.cell? ⟨gb120, 1, none⟩ = some (.string (⟨#[]⟩ : ByteArray)) := (blk_cell BK120.out 1).trans rfl; have hfz15_0 := blk_frozen BK120.out 0; have hfz15_1 := blk_frozen BK120.out 1))
  refine bodyPost_ret (results_cell_row rfl _ _ gb120 102 #[.bool a0_0, .string t121] (0, 0) _ rfl (by (with_reducible repeat (first | refine blk_drewN ?_ _ | refine blk_drew ?_ | refine blk_alloc ?_ _)); refine blk_put (cs := #[.bool a0_0, .string (⟨#[]⟩ : ByteArray)]) ?_ 1 _ rfl; (with_reducible repeat (first | refine blk_drewN ?_ _ | refine blk_drew ?_ | refine blk_alloc ?_ _)); refine blk_put (cs := #[.bool false, .string (⟨#[]⟩ : ByteArray)]) ?_ 0 _ rfl; (with_reducible repeat (first | refine blk_drewN ?_ _ | refine blk_drew ?_ | refine blk_alloc ?_ _)); exact BK120.out) Tryz.underlying102 rfl (by kernel_rfl)) rfl ?_
  exact ⟨T4_, T9_⟩
 ·
  rw [if_neg c3] at H
  have c3b0 : (a0_0 == a1_0) = false := by simpa using c3
  (try (have c3b1 : decide (a0_0 = a1_0) = false := by simpa using c3))
  (try (have c3b2 : (a0_0 == a1_0) = false := by simpa using c3))
  (try (have c3b3 : ¬ (a0_0 = a1_0) := by simpa using c3))
  clear c3
  replace H := Option.bind_eq_some_iff.mp H
  obtain ⟨⟨t123, t124⟩, A160, H⟩ := H
  have A16 := Aside0.mk A160
  clear A160
  by_cases c17 : t123 < 0
  ·
   rw [if_pos c17] at H
   have c17b0 : decide (t123 < 0) = true := decide_eq_true c17
   clear c17
   replace H := Option.bind_eq_some_iff.mp H
   obtain ⟨⟨t125, t126⟩, A180, H⟩ := H
   have A18 := Aside0.mk A180
   clear A180
   simp only [Option.some.injEq, Prod.mk.injEq] at H
   obtain ⟨rfl, rfl⟩ := H
   go_enter Tryz.func86, Tryz.ntmps86
   go_wp2_with (first | ((with_reducible refine gate_dst (N := 2) rfl ?_); refine box_event ?hg (N := 2) ?hd (cs := #[.bool a0_0, .string a0_1]) (t := 102) ?hr ?_; (case hd => rfl); (case hg => rfl); (case hr => exact T3_); intro gb118 hg w19 hbox hb; have BK118 := Aside0.mk (hbox); have GW118 := GE_ hg; have GE118 := GE_ hg; replace HB := Aside0.mk (below_step T1_ hb); clear hb hbox hg) | ((with_reducible refine gate_dst (N := 3) rfl ?_); refine box_event ?hg (N := 3) ?hd (cs := #[.bool a1_0, .string a1_1]) (t := 102) ?hr ?_; (case hd => rfl); (case hg => rfl); (case hr => exact T3_); intro gb119 hg w20 hbox hb; have BK119 := Aside0.mk (hbox); have GW119 := GE_ hg; have GE119 := GE_ hg; replace HB := Aside0.mk (below_step T9_ hb); have NB118_119 := NB_ BK118 hg; have NB119_118 := NC_ BK118 hg; replace BK118 := BF_ BK118 hb; clear hb hbox hg) | ((with_reducible refine gate_dst (N := 4) rfl ?_); refine box_event ?hg (N := 4) ?hd (cs := #[.bool false, .string (⟨#[]⟩ : ByteArray)]) (t := 102) ?hr ?_; (case hd => rfl); (case hg => rfl); (case hr => exact T3_); intro gb120 hg w21 hbox hb; have BK120 := Aside0.mk (hbox); have GW120 := GE_ hg; have GE120 := GE_ hg; replace HB := Aside0.mk (below_step T9_ hb); have NB118_120 := NB_ BK118 hg; have NB120_118 := NC_ BK118 hg; replace BK118 := BF_ BK118 hb; have NB119_120 := NB_ BK119 hg; have NB120_119 := NC_ BK119 hg; replace BK119 := BF_ BK119 hb; clear hb hbox hg; have hnb22 := NB118_119.out; have hnc22 := NB119_118.out; have hnb23 := NB118_120.out; have hnc23 := NB120_118.out; have hcz24_0 := CA_ BK118; have hcz24_1 := CB_ BK118; have hfz24_0 := blk_frozen BK118.out 0; have hfz24_1 := blk_frozen BK118.out 1; have hnb25 := NB119_120.out; have hnc25 := NB120_119.out; have hcz26_0 : w21.cell? ⟨gb119, 0, none⟩ = some (.bool a1_0) := (blk_cell BK119.out 0).trans rfl; have hcz26_1 : w21.cell? ⟨gb119, 1, none⟩ = some (.string a1_1) := (blk_cell BK119.out 1).trans rfl; have hfz26_0 := blk_frozen BK119.out 0; have hfz26_1 := blk_frozen BK119.out 1) | ((with_reducible refine gate_callee (f := 107) rfl ?_); refine goesL_ (some 33) rfl rfl Tryz.func107 (by kernel_rfl) rfl #[.string a0_1, .string a1_1] rfl T2_ ?_; (with_reducible refine (nat_Compare.calls a0_1 a1_1 t123 t124 _ A16.out).mono ?_); rintro e w27 ⟨rfl, hb⟩; refine ⟨_, rfl, ?_⟩; replace BK118 := BF_ BK118 hb; replace BK119 := BF_ BK119 hb; replace BK120 := BF_ BK120 hb; replace HB := Aside0.mk (below_step T9_ hb); (try clear hb); (try clear hb2); (try clear hk); (try clear hi); have hcz28_0 : w27.cell? ⟨gb119, 0, none⟩ = some (.bool a1_0) := (blk_cell BK119.out 0).trans rfl; have hcz28_1 : w27.cell? ⟨gb119, 1, none⟩ = some (.string a1_1) := (blk_cell BK119.out 1).trans rfl; have hfz28_0 := blk_frozen BK119.out 0; have hfz28_1 := blk_frozen BK119.out 1; have hcz29_0 := CA_ BK118; have hcz29_1 := CB_ BK118; have hfz29_0 := blk_frozen BK118.out 0; have hfz29_1 := blk_frozen BK118.out 1) | ((with_reducible refine gate_callee (f := 108) rfl ?_); refine goesL_ (some 45) rfl rfl Tryz.func108 (by kernel_rfl) rfl #[.string a1_1, .string a0_1] rfl T2_ ?_; (with_reducible refine (nat_Sub.calls a1_1 a0_1 t125 t126 _ A18.out).mono ?_); rintro e w30 ⟨rfl, hb⟩; refine ⟨_, rfl, ?_⟩; replace BK118 := Aside0.mk (blk_below (g := gb118) (o := .cells #[.bool a1_0, .string a1_1] 102 (0, 0)) (by (with_reducible repeat (first | refine blk_drewN ?_ _ | refine blk_drew ?_ | refine blk_alloc ?_ _)); refine blk_far ?_ NB118_119.out _; (with_reducible repeat (first | refine blk_drewN ?_ _ | refine blk_drew ?_ | refine blk_alloc ?_ _)); refine blk_far ?_ NB118_119.out _; (with_reducible repeat (first | refine blk_drewN ?_ _ | refine blk_drew ?_ | refine blk_alloc ?_ _)); refine blk_put (cs := #[.bool a1_0, .string a0_1]) ?_ 1 _ rfl; (with_reducible repeat (first | refine blk_drewN ?_ _ | refine blk_drew ?_ | refine blk_alloc ?_ _)); refine blk_put (cs := #[.bool a0_0, .string a0_1]) ?_ 0 _ rfl; (with_reducible repeat (first | refine blk_drewN ?_ _ | refine blk_drew ?_ | refine blk_alloc ?_ _)); exact BK118.out) hb); replace BK119 := Aside0.mk (blk_below (g := gb119) (o := .cells #[.bool a0_0, .string a0_1] 102 (0, 0)) (by (with_reducible repeat (first | refine blk_drewN ?_ _ | refine blk_drew ?_ | refine blk_alloc ?_ _)); refine blk_put (cs := #[.bool a0_0, .string a1_1]) ?_ 1 _ rfl; (with_reducible repeat (first | refine blk_drewN ?_ _ | refine blk_drew ?_ | refine blk_alloc ?_ _)); refine blk_put (cs := #[.bool a1_0, .string a1_1]) ?_ 0 _ rfl; (with_reducible repeat (first | refine blk_drewN ?_ _ | refine blk_drew ?_ | refine blk_alloc ?_ _)); refine blk_far ?_ NB119_118.out _; (with_reducible repeat (first | refine blk_drewN ?_ _ | refine blk_drew ?_ | refine blk_alloc ?_ _)); refine blk_far ?_ NB119_118.out _; (with_reducible repeat (first | refine blk_drewN ?_ _ | refine blk_drew ?_ | refine blk_alloc ?_ _)); exact BK119.out) hb); replace BK120 := BG_ BK120 hb; replace HB := Aside0.mk (below_step T9_ hb); (try clear hb); (try clear hb2); (try clear hk); (try clear hi); have hcz31_0 := CA_ BK118; have hcz31_1 := CB_ BK118; have hfz31_0 := blk_frozen BK118.out 0; have hfz31_1 := blk_frozen BK118.out 1; have hcz32_0 : w30.cell? ⟨gb120, 0, none⟩ = some (.bool false) := (blk_cell BK120.out 0).trans rfl; have hcz32_1 : w30.cell? ⟨gb120, 1, none⟩ = some (.string (⟨#[]⟩ : ByteArray)) := (blk_cell BK120.out 1).trans rfl; have hfz32_0 := blk_frozen BK120.out 0; have hfz32_1 := blk_frozen BK120.out 1))
   refine bodyPost_ret (results_cell_row rfl _ _ gb120 102 #[.bool a1_0, .string t125] (0, 0) _ rfl (by (with_reducible repeat (first | refine blk_drewN ?_ _ | refine blk_drew ?_ | refine blk_alloc ?_ _)); refine blk_put (cs := #[.bool a1_0, .string (⟨#[]⟩ : ByteArray)]) ?_ 1 _ rfl; (with_reducible repeat (first | refine blk_drewN ?_ _ | refine blk_drew ?_ | refine blk_alloc ?_ _)); refine blk_put (cs := #[.bool false, .string (⟨#[]⟩ : ByteArray)]) ?_ 0 _ rfl; (with_reducible repeat (first | refine blk_drewN ?_ _ | refine blk_drew ?_ | refine blk_alloc ?_ _)); exact BK120.out) Tryz.underlying102 rfl (by kernel_rfl)) rfl ?_
   exact ⟨T4_, T9_⟩
  ·
   rw [if_neg c17] at H
   have c17b0 : decide (t123 < 0) = false := decide_eq_false c17
   clear c17
   replace H := Option.bind_eq_some_iff.mp H
   obtain ⟨⟨t127, t128⟩, A330, H⟩ := H
   have A33 := Aside0.mk A330
   clear A330
   simp only [Option.some.injEq, Prod.mk.injEq] at H
   obtain ⟨rfl, rfl⟩ := H
   go_enter Tryz.func86, Tryz.ntmps86
   go_wp2_with (first | ((with_reducible refine gate_dst (N := 2) rfl ?_); refine box_event ?hg (N := 2) ?hd (cs := #[.bool a0_0, .string a0_1]) (t := 102) ?hr ?_; (case hd => rfl); (case hg => rfl); (case hr => exact T3_); intro gb118 hg w34 hbox hb; have BK118 := Aside0.mk (hbox); have GW118 := GE_ hg; have GE118 := GE_ hg; replace HB := Aside0.mk (below_step T1_ hb); clear hb hbox hg) | ((with_reducible refine gate_dst (N := 3) rfl ?_); refine box_event ?hg (N := 3) ?hd (cs := #[.bool a1_0, .string a1_1]) (t := 102) ?hr ?_; (case hd => rfl); (case hg => rfl); (case hr => exact T3_); intro gb119 hg w35 hbox hb; have BK119 := Aside0.mk (hbox); have GW119 := GE_ hg; have GE119 := GE_ hg; replace HB := Aside0.mk (below_step T9_ hb); have NB118_119 := NB_ BK118 hg; have NB119_118 := NC_ BK118 hg; replace BK118 := BF_ BK118 hb; clear hb hbox hg) | ((with_reducible refine gate_dst (N := 4) rfl ?_); refine box_event ?hg (N := 4) ?hd (cs := #[.bool false, .string (⟨#[]⟩ : ByteArray)]) (t := 102) ?hr ?_; (case hd => rfl); (case hg => rfl); (case hr => exact T3_); intro gb120 hg w36 hbox hb; have BK120 := Aside0.mk (hbox); have GW120 := GE_ hg; have GE120 := GE_ hg; replace HB := Aside0.mk (below_step T9_ hb); have NB118_120 := NB_ BK118 hg; have NB120_118 := NC_ BK118 hg; replace BK118 := BF_ BK118 hb; have NB119_120 := NB_ BK119 hg; have NB120_119 := NC_ BK119 hg; replace BK119 := BF_ BK119 hb; clear hb hbox hg; have hnb37 := NB118_119.out; have hnc37 := NB119_118.out; have hnb38 := NB118_120.out; have hnc38 := NB120_118.out; have hcz39_0 := CA_ BK118; have hcz39_1 := CB_ BK118; have hfz39_0 := blk_frozen BK118.out 0; have hfz39_1 := blk_frozen BK118.out 1; have hnb40 := NB119_120.out; have hnc40 := NB120_119.out; have hcz41_0 : w36.cell? ⟨gb119, 0, none⟩ = some (.bool a1_0) := (blk_cell BK119.out 0).trans rfl; have hcz41_1 : w36.cell? ⟨gb119, 1, none⟩ = some (.string a1_1) := (blk_cell BK119.out 1).trans rfl; have hfz41_0 := blk_frozen BK119.out 0; have hfz41_1 := blk_frozen BK119.out 1) | ((with_reducible refine gate_callee (f := 107) rfl ?_); refine goesL_ (some 33) rfl rfl Tryz.func107 (by kernel_rfl) rfl #[.string a0_1, .string a1_1] rfl T2_ ?_; (with_reducible refine (nat_Compare.calls a0_1 a1_1 t123 t124 _ A16.out).mono ?_); rintro e w42 ⟨rfl, hb⟩; refine ⟨_, rfl, ?_⟩; replace BK118 := BF_ BK118 hb; replace BK119 := BF_ BK119 hb; replace BK120 := BF_ BK120 hb; replace HB := Aside0.mk (below_step T9_ hb); (try clear hb); (try clear hb2); (try clear hk); (try clear hi); have hcz43_0 := CA_ BK118; have hcz43_1 := CB_ BK118; have hfz43_0 := blk_frozen BK118.out 0; have hfz43_1 := blk_frozen BK118.out 1; have hcz44_0 : w42.cell? ⟨gb119, 0, none⟩ = some (.bool a1_0) := (blk_cell BK119.out 0).trans rfl; have hcz44_1 : w42.cell? ⟨gb119, 1, none⟩ = some (.string a1_1) := (blk_cell BK119.out 1).trans rfl; have hfz44_0 := blk_frozen BK119.out 0; have hfz44_1 := blk_frozen BK119.out 1) | ((with_reducible refine gate_callee (f := 108) rfl ?_); refine goesL_ (some 45) rfl rfl Tryz.func108 (by kernel_rfl) rfl #[.string a0_1, .string a1_1] rfl T2_ ?_; (with_reducible refine (nat_Sub.calls a0_1 a1_1 t127 t128 _ A33.out).mono ?_); rintro e w45 ⟨rfl, hb⟩; refine ⟨_, rfl, ?_⟩; replace BK118 := BF_ BK118 hb; replace BK119 := BF_ BK119 hb; replace BK120 := BF_ BK120 hb; replace HB := Aside0.mk (below_step T9_ hb); (try clear hb); (try clear hb2); (try clear hk); (try clear hi); have hcz46_0 := CA_ BK118; have hcz46_1 := CB_ BK118; have hfz46_0 := blk_frozen BK118.out 0; have hfz46_1 := blk_frozen BK118.out 1; have hcz47_0 : w45.cell? ⟨gb120, 0, none⟩ = some (.bool false) := (blk_cell BK120.out 0).trans rfl; have hcz47_1 : w45.cell? ⟨gb120, 1, none⟩ = some (.string (⟨#[]⟩ : ByteArray)) := (blk_cell BK120.out 1).trans rfl; have hfz47_0 := blk_frozen BK120.out 0; have hfz47_1 := blk_frozen BK120.out 1))
   refine bodyPost_ret (results_cell_row rfl _ _ gb120 102 #[.bool a0_0, .string t127] (0, 0) _ rfl (by (with_reducible repeat (first | refine blk_drewN ?_ _ | refine blk_drew ?_ | refine blk_alloc ?_ _)); refine blk_put (cs := #[.bool a0_0, .string (⟨#[]⟩ : ByteArray)]) ?_ 1 _ rfl; (with_reducible repeat (first | refine blk_drewN ?_ _ | refine blk_drew ?_ | refine blk_alloc ?_ _)); refine blk_put (cs := #[.bool false, .string (⟨#[]⟩ : ByteArray)]) ?_ 0 _ rfl; (with_reducible repeat (first | refine blk_drewN ?_ _ | refine blk_drew ?_ | refine blk_alloc ?_ _)); exact BK120.out) Tryz.underlying102 rfl (by kernel_rfl)) rfl ?_
   exact ⟨T4_, T9_⟩
/-! ### whole_number_text: function 87 -/
def whole_number_text.f (a0_0 : Bool) (a0_1 : ByteArray) : Option (ByteArray) := if a0_0 = true then (if a0_1.toList = ([48] : List UInt8) then (some a0_1) else (if 1 + a0_1.size ≤ 9223372036854775807 then (some ((⟨#[45]⟩ : ByteArray) ++ a0_1)) else (none))) else (some a0_1)
theorem whole_number_text.calls (a0_0 : Bool) (a0_1 : ByteArray) (r : ByteArray) (w : World) (h : whole_number_text.f a0_0 a0_1 = some r) :
  Calls Tryz.prog 87 #[.agg #[.bool a0_0, .string a0_1]] w fun e w' => e = .returned (.string r) ∧ Below w.heap.size w w' := by
 have hu102 := Tryz.underlying102
 have HB := Aside0.mk (Below.refl w.heap.size w)
 unfold whole_number_text.f at h
 have H := h
 clear h
 by_cases c2 : a0_0 = true
 ·
  subst c2
  rw [if_pos rfl] at H
  by_cases c3 : a0_1.toList = ([48] : List UInt8)
  ·
   rw [if_pos c3] at H
   have c3b0 : (a0_1.toList == ([48] : List UInt8)) = true := beq_iff_eq.mpr c3
   have c3b1 : (a0_1.toList != ([48] : List UInt8)) = false := bne_eq_false_iff_eq.mpr c3
   clear c3
   obtain rfl := Option.some.inj H
   go_enter Tryz.func87, Tryz.ntmps87
   go_wp2_with (first | ((with_reducible refine gate_dst (N := 1) rfl ?_); refine box_event ?hg (N := 1) ?hd (cs := #[.bool true, .string a0_1]) (t := 102) ?hr ?_; (case hd => rfl); (case hg => rfl); (case hr => exact T3_); intro gb129 hg w4 hbox hb; have BK129 := Aside0.mk (hbox); have GW129 := GE_ hg; have GE129 := GE_ hg; replace HB := Aside0.mk (below_step T1_ hb); clear hb hbox hg; have hcz5_0 := CA_ BK129; have hcz5_1 := CB_ BK129; have hfz5_0 := blk_frozen BK129.out 0; have hfz5_1 := blk_frozen BK129.out 1))
   go_ret
   exact ⟨T4_, T9_⟩
  ·
   rw [if_neg c3] at H
   have c3b0 : (a0_1.toList == ([48] : List UInt8)) = false := beq_eq_false_iff_ne.mpr c3
   have c3b1 : (a0_1.toList != ([48] : List UInt8)) = true := bne_iff_ne.mpr c3
   by_cases c6 : 1 + a0_1.size ≤ 9223372036854775807
   ·
    rw [if_pos c6] at H
    have c6b0 := eq_true c6
    have c6b1 : decide (1 + a0_1.size ≤ 9223372036854775807) = true := decide_eq_true c6
    try have c6b2 : (9223372036854775807 < 1 + a0_1.size) = False := eq_false (Nat.not_lt.2 c6)
    obtain rfl := Option.some.inj H
    go_enter Tryz.func87, Tryz.ntmps87
    go_wp2_with (first | ((with_reducible refine gate_dst (N := 1) rfl ?_); refine box_event ?hg (N := 1) ?hd (cs := #[.bool true, .string a0_1]) (t := 102) ?hr ?_; (case hd => rfl); (case hg => rfl); (case hr => exact T3_); intro gb129 hg w7 hbox hb; have BK129 := Aside0.mk (hbox); have GW129 := GE_ hg; have GE129 := GE_ hg; replace HB := Aside0.mk (below_step T1_ hb); clear hb hbox hg; have hcz8_0 := CA_ BK129; have hcz8_1 := CB_ BK129; have hfz8_0 := blk_frozen BK129.out 0; have hfz8_1 := blk_frozen BK129.out 1))
    go_ret
    exact ⟨T4_, T9_⟩
   ·
    rw [if_neg c6] at H
    exact absurd H (by simp)
 ·
  replace c2 := Bool.eq_false_iff.mpr c2
  subst c2
  rw [if_neg (show ¬ (false = true) by decide)] at H
  obtain rfl := Option.some.inj H
  go_enter Tryz.func87, Tryz.ntmps87
  go_wp2_with (first | ((with_reducible refine gate_dst (N := 1) rfl ?_); refine box_event ?hg (N := 1) ?hd (cs := #[.bool false, .string a0_1]) (t := 102) ?hr ?_; (case hd => rfl); (case hg => rfl); (case hr => exact T3_); intro gb129 hg w9 hbox hb; have BK129 := Aside0.mk (hbox); have GW129 := GE_ hg; have GE129 := GE_ hg; replace HB := Aside0.mk (below_step T1_ hb); clear hb hbox hg; have hcz10_0 := CA_ BK129; have hcz10_1 := CB_ BK129; have hfz10_0 := blk_frozen BK129.out 0; have hfz10_1 := blk_frozen BK129.out 1))
  go_ret
  exact ⟨T4_, T9_⟩
/-! ### whole_Add: function 60 -/
def whole_Add.f (a0 : ByteArray) (a1 : ByteArray) : Option (ByteArray × Int) := (whole_both.f a0 a1).bind fun bt130 => (if bt130.2.2.2.2 = true then ((whole_sum.f bt130.1 bt130.2.1 bt130.2.2.1 bt130.2.2.2.1).bind fun bt137 => ((whole_number_text.f bt137.1 bt137.2).bind fun t139 => (some (t139, 0)))) else (some ((⟨#[]⟩ : ByteArray), 2)))
theorem whole_Add.calls (a0 : ByteArray) (a1 : ByteArray) (r1 : ByteArray) (r2 : Int) (w : World) (h : whole_Add.f a0 a1 = some (r1, r2)) :
  Calls Tryz.prog 60 #[.string a0, .string a1] w fun e w' => e = .returned (.tuple #[.string r1, .int .i64 r2]) ∧ Below w.heap.size w w' := by
 have hu102 := Tryz.underlying102
 have HB := Aside0.mk (Below.refl w.heap.size w)
 unfold whole_Add.f at h
 have H := h
 clear h
 replace H := Option.bind_eq_some_iff.mp H
 obtain ⟨⟨t130, t131, t132, t133, t134⟩, A30, H⟩ := H
 have A3 := Aside0.mk A30
 clear A30
 by_cases c4 : t134 = true
 ·
  subst c4
  rw [if_pos rfl] at H
  replace H := Option.bind_eq_some_iff.mp H
  obtain ⟨⟨t137, t138⟩, A50, H⟩ := H
  have A5 := Aside0.mk A50
  clear A50
  replace H := Option.bind_eq_some_iff.mp H
  obtain ⟨t139, A60, H⟩ := H
  have A6 := Aside0.mk A60
  clear A60
  simp only [Option.some.injEq, Prod.mk.injEq] at H
  obtain ⟨rfl, rfl⟩ := H
  go_enter Tryz.func60, Tryz.ntmps60
  go_wp2_with (first | ((with_reducible refine gate_callee (f := 85) rfl ?_); refine goesL_ (some 12) rfl rfl Tryz.func85 (by kernel_rfl) rfl #[.string a0, .string a1] rfl T2_ ?_; (with_reducible refine (whole_both.calls a0 a1 t130 t131 t132 t133 true _ A3.out).mono ?_); rintro e w7 ⟨rfl, hb⟩; refine ⟨_, rfl, ?_⟩; replace HB := Aside0.mk (below_step T1_ hb); clear hb) | ((with_reducible refine gate_dst (N := 6) rfl ?_); refine box_event ?hg (N := 6) ?hd (cs := #[.bool false, .string (⟨#[]⟩ : ByteArray)]) (t := 102) ?hr ?_; (case hd => rfl); (case hg => rfl); (case hr => exact T3_); intro gb135 hg w8 hbox hb; have BK135 := Aside0.mk (hbox); have GW135 := GE_ hg; have GE135 := GE_ hg; replace HB := Aside0.mk (below_step T1_ hb); clear hb hbox hg) | ((with_reducible refine gate_dst (N := 7) rfl ?_); refine box_event ?hg (N := 7) ?hd (cs := #[.bool false, .string (⟨#[]⟩ : ByteArray)]) (t := 102) ?hr ?_; (case hd => rfl); (case hg => rfl); (case hr => exact T3_); intro gb136 hg w9 hbox hb; have BK136 := Aside0.mk (hbox); have GW136 := GE_ hg; have GE136 := GE_ hg; replace HB := Aside0.mk (below_step T9_ hb); have NB135_136 := NB_ BK135 hg; have NB136_135 := NC_ BK135 hg; replace BK135 := BF_ BK135 hb; clear hb hbox hg; have hnb10 := NB135_136.out; have hnc10 := NB136_135.out; have hcz11_0 := CA_ BK135; have hcz11_1 := CB_ BK135; have hfz11_0 := blk_frozen BK135.out 0; have hfz11_1 := blk_frozen BK135.out 1; have hcz12_0 : w9.cell? ⟨gb136, 0, none⟩ = some (.bool false) := (blk_cell BK136.out 0).trans rfl; have hcz12_1 : w9.cell? ⟨gb136, 1, none⟩ = some (.string (⟨#[]⟩ : ByteArray)) := (blk_cell BK136.out 1).trans rfl; have hfz12_0 := blk_frozen BK136.out 0; have hfz12_1 := blk_frozen BK136.out 1) | ((with_reducible refine gate_callee (f := 86) rfl ?_); refine goesL_ (some 20) rfl rfl Tryz.func86 (by kernel_rfl) rfl #[.agg #[.bool t130, .string t131], .agg #[.bool t132, .string t133]] rfl T2_ ?_; (with_reducible refine (whole_sum.calls t130 t131 t132 t133 t137 t138 _ A5.out).mono ?_); rintro e w13 ⟨rfl, hb⟩; refine ⟨_, rfl, ?_⟩; replace BK135 := Aside0.mk (blk_below (g := gb135) (o := .cells #[.bool t130, .string t131] 102 (0, 0)) (by (with_reducible repeat (first | refine blk_drewN ?_ _ | refine blk_drew ?_ | refine blk_alloc ?_ _)); refine blk_far ?_ NB135_136.out _; (with_reducible repeat (first | refine blk_drewN ?_ _ | refine blk_drew ?_ | refine blk_alloc ?_ _)); refine blk_far ?_ NB135_136.out _; (with_reducible repeat (first | refine blk_drewN ?_ _ | refine blk_drew ?_ | refine blk_alloc ?_ _)); refine blk_put (cs := #[.bool t130, .string (⟨#[]⟩ : ByteArray)]) ?_ 1 _ rfl; (with_reducible repeat (first | refine blk_drewN ?_ _ | refine blk_drew ?_ | refine blk_alloc ?_ _)); refine blk_put (cs := #[.bool false, .string (⟨#[]⟩ : ByteArray)]) ?_ 0 _ rfl; (with_reducible repeat (first | refine blk_drewN ?_ _ | refine blk_drew ?_ | refine blk_alloc ?_ _)); exact BK135.out) hb); replace BK136 := Aside0.mk (blk_below (g := gb136) (o := .cells #[.bool t132, .string t133] 102 (0, 0)) (by (with_reducible repeat (first | refine blk_drewN ?_ _ | refine blk_drew ?_ | refine blk_alloc ?_ _)); refine blk_put (cs := #[.bool t132, .string (⟨#[]⟩ : ByteArray)]) ?_ 1 _ rfl; (with_reducible repeat (first | refine blk_drewN ?_ _ | refine blk_drew ?_ | refine blk_alloc ?_ _)); refine blk_put (cs := #[.bool false, .string (⟨#[]⟩ : ByteArray)]) ?_ 0 _ rfl; (with_reducible repeat (first | refine blk_drewN ?_ _ | refine blk_drew ?_ | refine blk_alloc ?_ _)); refine blk_far ?_ NB136_135.out _; (with_reducible repeat (first | refine blk_drewN ?_ _ | refine blk_drew ?_ | refine blk_alloc ?_ _)); refine blk_far ?_ NB136_135.out _; (with_reducible repeat (first | refine blk_drewN ?_ _ | refine blk_drew ?_ | refine blk_alloc ?_ _)); exact BK136.out) hb); replace HB := Aside0.mk (below_step T9_ hb); (try clear hb); (try clear hb2); (try clear hk); (try clear hi)) | ((with_reducible refine gate_callee (f := 87) rfl ?_); refine goesL_ (some 21) rfl rfl Tryz.func87 (by kernel_rfl) rfl #[.agg #[.bool t137, .string t138]] rfl T2_ ?_; (with_reducible refine (whole_number_text.calls t137 t138 t139 _ A6.out).mono ?_); rintro e w14 ⟨rfl, hb⟩; refine ⟨_, rfl, ?_⟩; replace BK135 := BF_ BK135 hb; replace BK136 := BF_ BK136 hb; replace HB := Aside0.mk (below_step T9_ hb); (try clear hb); (try clear hb2); (try clear hk); (try clear hi)))
  go_ret2
  exact ⟨T4_, T9_⟩
 ·
  replace c4 := Bool.eq_false_iff.mpr c4
  subst c4
  rw [if_neg (show ¬ (false = true) by decide)] at H
  simp only [Option.some.injEq, Prod.mk.injEq] at H
  obtain ⟨rfl, rfl⟩ := H
  go_enter Tryz.func60, Tryz.ntmps60
  go_wp2_with (first | ((with_reducible refine gate_callee (f := 85) rfl ?_); refine goesL_ (some 12) rfl rfl Tryz.func85 (by kernel_rfl) rfl #[.string a0, .string a1] rfl T2_ ?_; (with_reducible refine (whole_both.calls a0 a1 t130 t131 t132 t133 false _ A3.out).mono ?_); rintro e w15 ⟨rfl, hb⟩; refine ⟨_, rfl, ?_⟩; replace HB := Aside0.mk (below_step T1_ hb); clear hb) | ((with_reducible refine gate_dst (N := 6) rfl ?_); refine box_event ?hg (N := 6) ?hd (cs := #[.bool false, .string (⟨#[]⟩ : ByteArray)]) (t := 102) ?hr ?_; (case hd => rfl); (case hg => rfl); (case hr => exact T3_); intro gb135 hg w16 hbox hb; have BK135 := Aside0.mk (hbox); have GW135 := GE_ hg; have GE135 := GE_ hg; replace HB := Aside0.mk (below_step T1_ hb); clear hb hbox hg) | ((with_reducible refine gate_dst (N := 7) rfl ?_); refine box_event ?hg (N := 7) ?hd (cs := #[.bool false, .string (⟨#[]⟩ : ByteArray)]) (t := 102) ?hr ?_; (case hd => rfl); (case hg => rfl); (case hr => exact T3_); intro gb136 hg w17 hbox hb; have BK136 := Aside0.mk (hbox); have GW136 := GE_ hg; have GE136 := GE_ hg; replace HB := Aside0.mk (below_step T9_ hb); have NB135_136 := NB_ BK135 hg; have NB136_135 := NC_ BK135 hg; replace BK135 := BF_ BK135 hb; clear hb hbox hg; have hnb18 := NB135_136.out; have hnc18 := NB136_135.out; have hcz19_0 := CA_ BK135; have hcz19_1 := CB_ BK135; have hfz19_0 := blk_frozen BK135.out 0; have hfz19_1 := blk_frozen BK135.out 1; have hcz20_0 : w17.cell? ⟨gb136, 0, none⟩ = some (.bool false) := (blk_cell BK136.out 0).trans rfl; have hcz20_1 : w17.cell? ⟨gb136, 1, none⟩ = some (.string (⟨#[]⟩ : ByteArray)) := (blk_cell BK136.out 1).trans rfl; have hfz20_0 := blk_frozen BK136.out 0; have hfz20_1 := blk_frozen BK136.out 1))
  go_ret2
  exact ⟨T4_, T9_⟩
/-! ### whole_Sub: function 62 -/
def whole_Sub.f (a0 : ByteArray) (a1 : ByteArray) : Option (ByteArray × Int) := (whole_both.f a0 a1).bind fun bt140 => (if bt140.2.2.2.2 = true then ((whole_sum.f bt140.1 bt140.2.1 (!bt140.2.2.1) bt140.2.2.2.1).bind fun bt147 => ((whole_number_text.f bt147.1 bt147.2).bind fun t149 => (some (t149, 0)))) else (some ((⟨#[]⟩ : ByteArray), 2)))
theorem whole_Sub.calls (a0 : ByteArray) (a1 : ByteArray) (r1 : ByteArray) (r2 : Int) (w : World) (h : whole_Sub.f a0 a1 = some (r1, r2)) :
  Calls Tryz.prog 62 #[.string a0, .string a1] w fun e w' => e = .returned (.tuple #[.string r1, .int .i64 r2]) ∧ Below w.heap.size w w' := by
 have HB := Aside0.mk (Below.refl w.heap.size w)
 unfold whole_Sub.f at h
 have H := h
 clear h
 replace H := Option.bind_eq_some_iff.mp H
 obtain ⟨⟨t140, t141, t142, t143, t144⟩, A30, H⟩ := H
 have A3 := Aside0.mk A30
 clear A30
 by_cases c4 : t144 = true
 ·
  subst c4
  rw [if_pos rfl] at H
  replace H := Option.bind_eq_some_iff.mp H
  obtain ⟨⟨t147, t148⟩, A50, H⟩ := H
  have A5 := Aside0.mk A50
  clear A50
  replace H := Option.bind_eq_some_iff.mp H
  obtain ⟨t149, A60, H⟩ := H
  have A6 := Aside0.mk A60
  clear A60
  simp only [Option.some.injEq, Prod.mk.injEq] at H
  obtain ⟨rfl, rfl⟩ := H
  go_enter Tryz.func62, Tryz.ntmps62
  go_wp2_with (first | ((with_reducible refine gate_callee (f := 85) rfl ?_); refine goesL_ (some 12) rfl rfl Tryz.func85 (by kernel_rfl) rfl #[.string a0, .string a1] rfl T2_ ?_; (with_reducible refine (whole_both.calls a0 a1 t140 t141 t142 t143 true _ A3.out).mono ?_); rintro e w7 ⟨rfl, hb⟩; refine ⟨_, rfl, ?_⟩; replace HB := Aside0.mk (below_step T1_ hb); clear hb) | ((with_reducible refine gate_callee (f := 86) rfl ?_); refine goesL_ (some 24) rfl rfl Tryz.func86 (by kernel_rfl) rfl #[.agg #[.bool t140, .string t141], .agg #[.bool (!t142), .string t143]] rfl T2_ ?_; (with_reducible refine (whole_sum.calls t140 t141 (!t142) t143 t147 t148 _ A5.out).mono ?_); rintro e w13 ⟨rfl, hb⟩; refine ⟨_, rfl, ?_⟩; replace HB := Aside0.mk (below_step T1_ hb); clear hb) | ((with_reducible refine gate_callee (f := 87) rfl ?_); refine goesL_ (some 25) rfl rfl Tryz.func87 (by kernel_rfl) rfl #[.agg #[.bool t147, .string t148]] rfl T2_ ?_; (with_reducible refine (whole_number_text.calls t147 t148 t149 _ A6.out).mono ?_); rintro e w14 ⟨rfl, hb⟩; refine ⟨_, rfl, ?_⟩; replace HB := Aside0.mk (below_step T1_ hb); clear hb))
  go_ret2
  exact ⟨rfl, T1_⟩
 ·
  replace c4 := Bool.eq_false_iff.mpr c4
  subst c4
  rw [if_neg (show ¬ (false = true) by decide)] at H
  simp only [Option.some.injEq, Prod.mk.injEq] at H
  obtain ⟨rfl, rfl⟩ := H
  go_enter Tryz.func62, Tryz.ntmps62
  go_wp2_with (first | ((with_reducible refine gate_callee (f := 85) rfl ?_); refine goesL_ (some 12) rfl rfl Tryz.func85 (by kernel_rfl) rfl #[.string a0, .string a1] rfl T2_ ?_; (with_reducible refine (whole_both.calls a0 a1 t140 t141 t142 t143 false _ A3.out).mono ?_); rintro e w7 ⟨rfl, hb⟩; refine ⟨_, rfl, ?_⟩; replace HB := Aside0.mk (below_step T1_ hb); clear hb))
  go_ret2
  exact ⟨rfl, T1_⟩
/-! ### nat_Mul: function 100 -/
def nat_Mul.f (a0 : ByteArray) (a1 : ByteArray) : Option (ByteArray × Int) := if Th.Fit a0 ∧ Th.Fit a1 then some (Th.sMul a0 a1) else none
theorem nat_Mul.calls (a0 : ByteArray) (a1 : ByteArray) (r1 : ByteArray) (r2 : Int) (w : World) (h : nat_Mul.f a0 a1 = some (r1, r2)) :
  Calls Tryz.prog 100 #[.string a0, .string a1] w fun e w' => e = .returned (.tuple #[.string r1, .int .i64 r2]) ∧ Below w.heap.size w w' := by
 unfold nat_Mul.f at h
 by_cases c : Th.Fit a0 ∧ Th.Fit a1
 ·
  rw [if_pos c] at h
  obtain ⟨k, hk⟩ := (Th.mul_spec a0 a1 c.1 c.2).rounds
  exact PA.nat_Mul.calls k a0 a1 r1 r2 w (hk.trans h)
 ·
  rw [if_neg c] at h
  cases h
theorem nat_Mul.txt {m n : Nat} (hm : Th.Fit (Th.txt m)) (hn : Th.Fit (Th.txt n)) : nat_Mul.f (Th.txt m) (Th.txt n) = some (Th.txt (m * n), 0) := by
 rw [nat_Mul.f, if_pos ⟨hm, hn⟩, Th.sMul, Th.right_txt, Th.right_txt, Th.num_txt, Th.num_txt]
 rfl
end Go.Proofs.YtlglpffoijdgbaaGreatDoor.PB
