-- by wip/tool/mine.py of this repo (the kit's printer with given contracts)
import Derived.Test.YtlglpffoijdgbaaGreatDoorPBx0
import Derived.Test.YtlglpffoijdgbaaGreatDoorPBx1
namespace Go.Proofs.YtlglpffoijdgbaaGreatDoor.PB
set_option maxHeartbeats 8000000
set_option maxRecDepth 100000
open Go.RowKit Go.Proofs.YtlglpffoijdgbaaGreatDoorW.PrintWords Go.Proofs.YtlglpffoijdgbaaGreatDoorW.PrintLast Go.Proofs.YtlglpffoijdgbaaGreatDoorW.PrintMore
attribute [local go_sem] max2_int min2_int max_two min_two max_three min_three max_four min_four   -- for this text's walks alone
set_option linter.unusedVariables false
set_option linter.unusedSimpArgs false

/-! ### whole_both: function 85 -/
def whole_both.f (a0 : ByteArray) (a1 : ByteArray) : Option (Bool × ByteArray × Bool × ByteArray × Bool) := (whole_read.f a0).bind fun bt110 => ((whole_read.f a1).bind fun bt114 => (if bt110.2.2 = true then (some (bt110.1, bt110.2.1, bt114.1, bt114.2.1, bt114.2.2)) else (some (bt110.1, bt110.2.1, bt114.1, bt114.2.1, false))))
def whole_both.T3 : Bool × List (List Nat × List Nat) := (true, [([], []), ([], []), ([], []), ([2], [2]), ([3], [3]), ([3, 4], [3, 4]), ([0, 3, 0], [0]), ([1, 6, 0, 1, 6], [1]), ([5, 7, 0, 1, 2, 3, 4, 5, 6, 7], [5])])
def whole_both.B3 : List Nat := [0, 0, 0, 4, 12, 28, 13, 79, 255]
theorem whole_both.tab3 : rtab .any (opsOf Tryz.f85 3) = whole_both.T3 := by kernel_rfl
theorem whole_both.bits3 : waitsOk whole_both.T3.2 whole_both.B3 = true := by kernel_rfl
theorem whole_both.calls (a0 : ByteArray) (a1 : ByteArray) (r1 : Bool) (r2 : ByteArray) (r3 : Bool) (r4 : ByteArray) (r5 : Bool) (w : World) (h : whole_both.f a0 a1 = some (r1, r2, r3, r4, r5)) :
  Calls Tryz.prog 85 #[.string a0, .string a1] w fun e w' => e = .returned (.tuple #[.agg #[.bool r1, .string r2], .agg #[.bool r3, .string r4], .bool r5]) ∧ Below w.heap.size w w' := by
 have hu102 := Tryz.underlying102
 have HB := Aside0.mk (Below.refl w.heap.size w)
 unfold whole_both.f at h
 have H := h
 clear h
 replace H := Option.bind_eq_some_iff.mp H
 obtain ⟨⟨t110, t111, t112⟩, A30, H⟩ := H
 have A3 := Aside0.mk A30
 clear A30
 replace H := Option.bind_eq_some_iff.mp H
 obtain ⟨⟨t114, t115, t116⟩, A40, H⟩ := H
 have A4 := Aside0.mk A40
 clear A40
 by_cases c5 : t112 = true
 ·
  subst c5
  rw [if_pos rfl] at H
  simp only [Option.some.injEq, Prod.mk.injEq] at H
  obtain ⟨rfl, rfl, rfl, rfl, rfl⟩ := H
  go_enter Tryz.func85, Tryz.ntmps85
  try go_wp2_with (first | ((with_reducible refine gate_dst (N := 4) rfl ?_); refine box_event ?hg (N := 4) ?hd (cs := #[.bool false, .string (⟨#[]⟩ : ByteArray)]) (t := 102) ?hr ?_; (case hd => rfl); (case hg => rfl); (case hr => exact T3_); intro gb108 hg w6 hbox hb; have BK108 := Aside0.mk (hbox); have GW108 := GE_ hg; have GE108 := GE_ hg; replace HB := Aside0.mk (below_step T1_ hb); clear hb hbox hg) | ((with_reducible refine gate_dst (N := 5) rfl ?_); refine box_event ?hg (N := 5) ?hd (cs := #[.bool false, .string (⟨#[]⟩ : ByteArray)]) (t := 102) ?hr ?_; (case hd => rfl); (case hg => rfl); (case hr => exact T3_); intro gb109 hg w7 hbox hb; have BK109 := Aside0.mk (hbox); have GW109 := GE_ hg; have GE109 := GE_ hg; replace HB := Aside0.mk (below_step T9_ hb); have NB108_109 := NB_ BK108 hg; have NB109_108 := NC_ BK108 hg; replace BK108 := BF_ BK108 hb; clear hb hbox hg) | ((with_reducible refine gate_callee (f := 95) rfl ?_); refine goesL_ (some 13) rfl rfl Tryz.func95 (by kernel_rfl) rfl #[.string a0] rfl T2_ ?_; (with_reducible refine (whole_read.calls a0 t110 t111 true _ A3.out).mono ?_); rintro e w8 ⟨rfl, hb⟩; refine ⟨_, rfl, ?_⟩; replace BK108 := BF_ BK108 hb; replace BK109 := BF_ BK109 hb; replace HB := Aside0.mk (below_step T9_ hb); (try clear hb); (try clear hb2); (try clear hk); (try clear hi)) | ((with_reducible refine gate_dst (N := 7) rfl ?_); refine box_event ?hg (N := 7) ?hd (cs := #[.bool false, .string (⟨#[]⟩ : ByteArray)]) (t := 102) ?hr ?_; (case hd => rfl); (case hg => rfl); (case hr => exact T3_); intro gb113 hg w9 hbox hb; have BK113 := Aside0.mk (hbox); have GW113 := GE_ hg; have GE113 := GE_ hg; replace HB := Aside0.mk (below_step T9_ hb); have NB108_113 := NB_ BK108 hg; have NB113_108 := NC_ BK108 hg; replace BK108 := BF_ BK108 hb; have NB109_113 := NB_ BK109 hg; have NB113_109 := NC_ BK109 hg; replace BK109 := BF_ BK109 hb; clear hb hbox hg; have hnb10 := NB113_108.out; have hnc10 := NB108_113.out; have hnb11 := NB113_109.out; have hnc11 := NB109_113.out; have hcz12_0 : w9.cell? ⟨gb113, 0, none⟩ = some (.bool false) := (blk_cell BK113.out 0).trans rfl; have hcz12_1 : w9.cell? ⟨gb113, 1, none⟩ = some (.string (⟨#[]⟩ : ByteArray)) := (blk_cell BK113.out 1).trans rfl; have hfz12_0 := blk_frozen BK113.out 0; have hfz12_1 := blk_frozen BK113.out 1) | ((with_reducible refine gate_callee (f := 95) rfl ?_); refine goesL_ (some 18) rfl rfl Tryz.func95 (by kernel_rfl) rfl #[.string a1] rfl T2_ ?_; (with_reducible refine (whole_read.calls a1 t114 t115 t116 _ A4.out).mono ?_); rintro e w13 ⟨rfl, hb⟩; refine ⟨_, rfl, ?_⟩; replace BK108 := BG_ BK108 hb; replace BK109 := BG_ BK109 hb; replace BK113 := BP_ BK113 hb; replace HB := Aside0.mk (below_step T9_ hb); (try clear hb); (try clear hb2); (try clear hk); (try clear hi)) | ((with_reducible refine gate_dst (N := 9) rfl ?_); refine box_event ?hg (N := 9) ?hd (cs := #[.bool false, .string (⟨#[]⟩ : ByteArray)]) (t := 102) ?hr ?_; (case hd => rfl); (case hg => rfl); (case hr => exact T3_); intro gb117 hg w14 hbox hb; have BK117 := Aside0.mk (hbox); have GW117 := GE_ hg; have GE117 := GE_ hg; replace HB := Aside0.mk (below_step T9_ hb); have NB108_117 := NB_ BK108 hg; have NB117_108 := NC_ BK108 hg; replace BK108 := BF_ BK108 hb; have NB109_117 := NB_ BK109 hg; have NB117_109 := NC_ BK109 hg; replace BK109 := BF_ BK109 hb; have NB113_117 := NB_ BK113 hg; have NB117_113 := NC_ BK113 hg; replace BK113 := BF_ BK113 hb; clear hb hbox hg; have hnb15 := NB117_108.out; have hnc15 := NB108_117.out; have hnb16 := NB117_109.out; have hnc16 := NB109_117.out; have hnb17 := NB117_113.out; have hnc17 := NB113_117.out; have hcz18_0 : w14.cell? ⟨gb117, 0, none⟩ = some (.bool false) := (blk_cell BK117.out 0).trans rfl; have hcz18_1 : w14.cell? ⟨gb117, 1, none⟩ = some (.string (⟨#[]⟩ : ByteArray)) := (blk_cell BK117.out 1).trans rfl; have hfz18_0 := blk_frozen BK117.out 0; have hfz18_1 := blk_frozen BK117.out 1))
  have n0_ : Aside0 (((w14.setCell ⟨gb117, 0, none⟩ (.bool t114)).setCell ⟨gb117, 1, none⟩ (.string t115)).heap[gb108]? = some (.cells #[.bool false, .string (⟨#[]⟩ : ByteArray)] 102 (0, 0))) := ⟨by (with_reducible repeat (first | refine blk_drewN ?_ _ | refine blk_drew ?_ | refine blk_alloc ?_ _)); refine blk_far ?_ NB108_117.out _; (with_reducible repeat (first | refine blk_drewN ?_ _ | refine blk_drew ?_ | refine blk_alloc ?_ _)); refine blk_far ?_ NB108_117.out _; (with_reducible repeat (first | refine blk_drewN ?_ _ | refine blk_drew ?_ | refine blk_alloc ?_ _)); exact BK108.out⟩
  have n1_ : Aside0 (((w14.setCell ⟨gb117, 0, none⟩ (.bool t114)).setCell ⟨gb117, 1, none⟩ (.string t115)).heap[gb109]? = some (.cells #[.bool false, .string (⟨#[]⟩ : ByteArray)] 102 (0, 0))) := ⟨by (with_reducible repeat (first | refine blk_drewN ?_ _ | refine blk_drew ?_ | refine blk_alloc ?_ _)); refine blk_far ?_ NB109_117.out _; (with_reducible repeat (first | refine blk_drewN ?_ _ | refine blk_drew ?_ | refine blk_alloc ?_ _)); refine blk_far ?_ NB109_117.out _; (with_reducible repeat (first | refine blk_drewN ?_ _ | refine blk_drew ?_ | refine blk_alloc ?_ _)); exact BK109.out⟩
  have n2_ : Aside0 (((w14.setCell ⟨gb117, 0, none⟩ (.bool t114)).setCell ⟨gb117, 1, none⟩ (.string t115)).heap[gb113]? = some (.cells #[.bool t110, .string t111] 102 (0, 0))) := ⟨by (with_reducible repeat (first | refine blk_drewN ?_ _ | refine blk_drew ?_ | refine blk_alloc ?_ _)); refine blk_far ?_ NB113_117.out _; (with_reducible repeat (first | refine blk_drewN ?_ _ | refine blk_drew ?_ | refine blk_alloc ?_ _)); refine blk_far ?_ NB113_117.out _; (with_reducible repeat (first | refine blk_drewN ?_ _ | refine blk_drew ?_ | refine blk_alloc ?_ _)); exact BK113.out⟩
  have n3_ : Aside0 (((w14.setCell ⟨gb117, 0, none⟩ (.bool t114)).setCell ⟨gb117, 1, none⟩ (.string t115)).heap[gb117]? = some (.cells #[.bool t114, .string t115] 102 (0, 0))) := ⟨by (with_reducible repeat (first | refine blk_drewN ?_ _ | refine blk_drew ?_ | refine blk_alloc ?_ _)); refine blk_put (cs := #[.bool t114, .string (⟨#[]⟩ : ByteArray)]) ?_ 1 _ rfl; (with_reducible repeat (first | refine blk_drewN ?_ _ | refine blk_drew ?_ | refine blk_alloc ?_ _)); refine blk_put (cs := #[.bool false, .string (⟨#[]⟩ : ByteArray)]) ?_ 0 _ rfl; (with_reducible repeat (first | refine blk_drewN ?_ _ | refine blk_drew ?_ | refine blk_alloc ?_ _)); exact BK117.out⟩
  have n4_ : Aside0 (Below w.heap.size w ((w14.setCell ⟨gb117, 0, none⟩ (.bool t114)).setCell ⟨gb117, 1, none⟩ (.string t115))) := ⟨by repeat (first | (with_reducible first | exact HB.out | apply below_alloc | apply pw_below_drewN | apply below_drew1 | refine below_set ?_ GE108.out | refine below_set ?_ GE109.out | refine below_set ?_ GE113.out | refine below_set ?_ GE117.out) | exact HB.out)⟩
  (try clear BK108)
  (try clear BK109)
  (try clear BK113)
  (try clear BK117)
  (try clear HB)
  generalize ((w14.setCell ⟨gb117, 0, none⟩ (.bool t114)).setCell ⟨gb117, 1, none⟩ (.string t115)) = w19 at n0_ n1_ n2_ n3_ n4_ ⊢
  have BK108 := n0_
  have BK109 := n1_
  have BK113 := n2_
  have BK117 := n3_
  have HB := n4_
  clear n0_ n1_ n2_ n3_ n4_
  have n0_ := Aside0.mk (blk_drew BK108.out)
  have n1_ := Aside0.mk (blk_drew BK109.out)
  have n2_ := Aside0.mk (blk_drew BK113.out)
  have n3_ := Aside0.mk (blk_drew BK117.out)
  have n4_ := Aside0.mk (below_drew1 HB.out)
  clear BK108
  clear BK109
  clear BK113
  clear BK117
  clear HB
  have BK108 := n0_
  have BK109 := n1_
  have BK113 := n2_
  have BK117 := n3_
  have HB := n4_
  clear n0_ n1_ n2_ n3_ n4_
  refine start_ (n := 9) (S := fun w' => w'.cell? ⟨gb113, 0, none⟩ = some (.bool t110) ∧ w'.cell? ⟨gb113, 1, none⟩ = some (.string t111) ∧ w'.cell? ⟨gb117, 0, none⟩ = some (.bool t114) ∧ w'.cell? ⟨gb117, 1, none⟩ = some (.string t115)) (ds := []) #[false, false, false, false, false, false, false, false, false] (by kernel_rfl) rfl rfl ⟨(blk_cell BK113.out 0).trans rfl, (blk_cell BK113.out 1).trans rfl, (blk_cell BK117.out 0).trans rfl, (blk_cell BK117.out 1).trans rfl⟩ (fun hHeld => ?_); refine with_tabW whole_both.tab3 whole_both.bits3 (fun HT_ HW_ => ?_)
  generalize w19.drew = w20 at BK108 BK109 BK113 BK117 HB hHeld ⊢
  refine pure_ (i := 2) (N := some 23) (v := ?_) (a' := ?_) #[false, false, true, false, false, false, false, false, false] rfl rfl (any_of HT_.out (by kernel_rfl)) (fun _ _ _ h => h) (Or.inl ⟨by rfl, ?_⟩) ?_ ?_
  rotate_left
  ·
   intro w'
   go_simp
   with_reducible rfl
  rotate_left
  ·
   simp only [Act.put, List.setIfInBounds_toArray, List.set_cons_zero, List.set_cons_succ, i64_w, i32_w]
   rfl
  refine pure_ (i := 3) (N := some 24) (v := ?_) (a' := ?_) #[false, false, true, true, false, false, false, false, false] rfl rfl (any_of HT_.out (by kernel_rfl)) (fun _ _ _ h => h) (Or.inl ⟨by rfl, ?_⟩) ?_ ?_
  rotate_left
  ·
   intro w'
   go_simp
   with_reducible rfl
  rotate_left
  ·
   simp only [Act.put, List.setIfInBounds_toArray, List.set_cons_zero, List.set_cons_succ, i64_w, i32_w]
   rfl
  refine pure_ (i := 4) (N := some 25) (v := ?_) (a' := ?_) #[false, false, true, true, true, false, false, false, false] rfl rfl (any_of HT_.out (by kernel_rfl)) (fun _ _ _ h => h) (Or.inl ⟨by rfl, ?_⟩) ?_ ?_
  rotate_left
  ·
   intro w'
   go_simp
   with_reducible rfl
  rotate_left
  ·
   simp only [Act.put, List.setIfInBounds_toArray, List.set_cons_zero, List.set_cons_succ, i64_w, i32_w]
   rfl
  refine pure_ (i := 5) (N := some 26) (v := ?_) (a' := ?_) #[false, false, true, true, true, true, false, false, false] rfl rfl (any_of HT_.out (by kernel_rfl)) (fun _ _ _ h => h) (Or.inl ⟨by rfl, ?_⟩) ?_ ?_
  rotate_left
  ·
   intro w'
   go_simp
   with_reducible rfl
  rotate_left
  ·
   simp only [Act.put, List.setIfInBounds_toArray, List.set_cons_zero, List.set_cons_succ, i64_w, i32_w]
   rfl
  refine take_ (i := 0) (N := some 21) (v := ?_) (a' := ?_) #[true, false, true, true, true, true, false, false, false] rfl rfl (take_ofW HT_.out HW_.out (by kernel_rfl)) (fun _ _ _ h => h) (Or.inl ⟨by rfl, ?_⟩) hHeld ?_ ?_
  rotate_left
  ·
   rintro w' ⟨s0, s1, s2, s3⟩
   go_simp
   with_reducible rfl
  rotate_left
  ·
   simp only [Act.put, List.setIfInBounds_toArray, List.set_cons_zero, List.set_cons_succ, i64_w, i32_w]
   rfl
  refine take_ (i := 1) (N := some 22) (v := ?_) (a' := ?_) #[true, true, true, true, true, true, false, false, false] rfl rfl (take_ofW HT_.out HW_.out (by kernel_rfl)) (fun _ _ _ h => h) (Or.inl ⟨by rfl, ?_⟩) hHeld ?_ ?_
  rotate_left
  ·
   rintro w' ⟨s0, s1, s2, s3⟩
   go_simp
   with_reducible rfl
  rotate_left
  ·
   simp only [Act.put, List.setIfInBounds_toArray, List.set_cons_zero, List.set_cons_succ, i64_w, i32_w]
   rfl
  refine one_ (i := 6) (N := none) #[true, true, true, true, true, true, true, false, false] rfl rfl (one_of HT_.out (by kernel_rfl)) (by decide) (fun K hK => ?_)
  have hs21 : w20.cell? ⟨gb108, 0, none⟩ = some (.bool false) := (blk_cell BK108.out 0).trans rfl
  have hfs21 := blk_frozen BK108.out 0
  have hns21_1 := NB109_108.out
  have hns21_2 := NB113_108.out
  have hns21_3 := NB117_108.out
  have hms21_1 := NB108_109.out
  have hms21_2 := NB108_113.out
  have hms21_3 := NB108_117.out
  have hs22 : w20.cell? ⟨gb108, 1, none⟩ = some (.string (⟨#[]⟩ : ByteArray)) := (blk_cell BK108.out 1).trans rfl
  have hfs22 := blk_frozen BK108.out 1
  have hns22_1 := NB109_108.out
  have hns22_2 := NB113_108.out
  have hns22_3 := NB117_108.out
  have hms22_1 := NB108_109.out
  have hms22_2 := NB108_113.out
  have hms22_3 := NB108_117.out
  refine skip_ (w1 := ?_) (by rfl) rfl ?_ ?_
  rotate_left
  ·
   go_simp
   rfl
  refine hK.out _ _ ⟨((cell_far (p := ⟨gb108, _, none⟩) NB113_108.out _).trans (((cell_far (p := ⟨gb108, _, none⟩) NB113_108.out _).trans (hHeld.1)))), ((cell_far (p := ⟨gb108, _, none⟩) NB113_108.out _).trans (((cell_far (p := ⟨gb108, _, none⟩) NB113_108.out _).trans (hHeld.2.1)))), ((cell_far (p := ⟨gb108, _, none⟩) NB117_108.out _).trans (((cell_far (p := ⟨gb108, _, none⟩) NB117_108.out _).trans (hHeld.2.2.1)))), ((cell_far (p := ⟨gb108, _, none⟩) NB117_108.out _).trans (((cell_far (p := ⟨gb108, _, none⟩) NB117_108.out _).trans (hHeld.2.2.2))))⟩ (fun hHeld => ?_)
  clear hK K
  refine one_ (i := 7) (N := none) #[true, true, true, true, true, true, true, true, false] rfl rfl (one_of HT_.out (by kernel_rfl)) (by decide) (fun K hK => ?_)
  have hs23 : w20.cell? ⟨gb109, 0, none⟩ = some (.bool false) := (blk_cell BK109.out 0).trans rfl
  have hfs23 := blk_frozen BK109.out 0
  have hns23_0 := NB108_109.out
  have hns23_2 := NB113_109.out
  have hns23_3 := NB117_109.out
  have hms23_0 := NB109_108.out
  have hms23_2 := NB109_113.out
  have hms23_3 := NB109_117.out
  have hs24 : w20.cell? ⟨gb109, 1, none⟩ = some (.string (⟨#[]⟩ : ByteArray)) := (blk_cell BK109.out 1).trans rfl
  have hfs24 := blk_frozen BK109.out 1
  have hns24_0 := NB108_109.out
  have hns24_2 := NB113_109.out
  have hns24_3 := NB117_109.out
  have hms24_0 := NB109_108.out
  have hms24_2 := NB109_113.out
  have hms24_3 := NB109_117.out
  refine skip_ (w1 := ?_) (by rfl) rfl ?_ ?_
  rotate_left
  ·
   go_simp
   rfl
  refine hK.out _ _ ⟨((cell_far (p := ⟨gb109, _, none⟩) NB113_109.out _).trans (((cell_far (p := ⟨gb109, _, none⟩) NB113_109.out _).trans (hHeld.1)))), ((cell_far (p := ⟨gb109, _, none⟩) NB113_109.out _).trans (((cell_far (p := ⟨gb109, _, none⟩) NB113_109.out _).trans (hHeld.2.1)))), ((cell_far (p := ⟨gb109, _, none⟩) NB117_109.out _).trans (((cell_far (p := ⟨gb109, _, none⟩) NB117_109.out _).trans (hHeld.2.2.1)))), ((cell_far (p := ⟨gb109, _, none⟩) NB117_109.out _).trans (((cell_far (p := ⟨gb109, _, none⟩) NB117_109.out _).trans (hHeld.2.2.2))))⟩ (fun hHeld => ?_)
  clear hK K
  refine pure_ (i := 8) (N := some 6) (v := ?_) (a' := ?_) #[true, true, true, true, true, true, true, true, true] rfl rfl (any_of HT_.out (by kernel_rfl)) (fun _ _ _ h => h) (Or.inl ⟨by rfl, ?_⟩) ?_ ?_
  rotate_left
  ·
   intro w'
   go_simp
   with_reducible rfl
  rotate_left
  ·
   simp only [Act.put, List.setIfInBounds_toArray, List.set_cons_zero, List.set_cons_succ, i64_w, i32_w]
   rfl
  refine done_ (done_of HT_.out (by kernel_rfl)) ?_
  try go_wp2
  refine bodyPost_ret (results_list (rs := [.cell 4 102, .cell 5 102, .tmp 6]) rfl (by simp) (.cell gb108 102 #[.bool t110, .string t111] (0, 0) _ rfl (by (with_reducible repeat (first | refine blk_drewN ?_ _ | refine blk_drew ?_ | refine blk_alloc ?_ _)); refine blk_far ?_ NB108_109.out _; (with_reducible repeat (first | refine blk_drewN ?_ _ | refine blk_drew ?_ | refine blk_alloc ?_ _)); refine blk_far ?_ NB108_109.out _; (with_reducible repeat (first | refine blk_drewN ?_ _ | refine blk_drew ?_ | refine blk_alloc ?_ _)); refine blk_put (cs := #[.bool t110, .string (⟨#[]⟩ : ByteArray)]) ?_ 1 _ rfl; (with_reducible repeat (first | refine blk_drewN ?_ _ | refine blk_drew ?_ | refine blk_alloc ?_ _)); refine blk_put (cs := #[.bool false, .string (⟨#[]⟩ : ByteArray)]) ?_ 0 _ rfl; (with_reducible repeat (first | refine blk_drewN ?_ _ | refine blk_drew ?_ | refine blk_alloc ?_ _)); exact BK108.out) Tryz.underlying102 rfl (by kernel_rfl) (.cell gb109 102 #[.bool t114, .string t115] (0, 0) _ rfl (by (with_reducible repeat (first | refine blk_drewN ?_ _ | refine blk_drew ?_ | refine blk_alloc ?_ _)); refine blk_put (cs := #[.bool t114, .string (⟨#[]⟩ : ByteArray)]) ?_ 1 _ rfl; (with_reducible repeat (first | refine blk_drewN ?_ _ | refine blk_drew ?_ | refine blk_alloc ?_ _)); refine blk_put (cs := #[.bool false, .string (⟨#[]⟩ : ByteArray)]) ?_ 0 _ rfl; (with_reducible repeat (first | refine blk_drewN ?_ _ | refine blk_drew ?_ | refine blk_alloc ?_ _)); refine blk_far ?_ NB109_108.out _; (with_reducible repeat (first | refine blk_drewN ?_ _ | refine blk_drew ?_ | refine blk_alloc ?_ _)); refine blk_far ?_ NB109_108.out _; (with_reducible repeat (first | refine blk_drewN ?_ _ | refine blk_drew ?_ | refine blk_alloc ?_ _)); exact BK109.out) Tryz.underlying102 rfl (by kernel_rfl) (.tmp .nil)))) rfl ?_
  exact ⟨T4_, T9_⟩
 ·
  replace c5 := Bool.eq_false_iff.mpr c5
  subst c5
  rw [if_neg (show ¬ (false = true) by decide)] at H
  simp only [Option.some.injEq, Prod.mk.injEq] at H
  obtain ⟨rfl, rfl, rfl, rfl, rfl⟩ := H
  go_enter Tryz.func85, Tryz.ntmps85
  try go_wp2_with (first | ((with_reducible refine gate_dst (N := 4) rfl ?_); refine box_event ?hg (N := 4) ?hd (cs := #[.bool false, .string (⟨#[]⟩ : ByteArray)]) (t := 102) ?hr ?_; (case hd => rfl); (case hg => rfl); (case hr => exact T3_); intro gb108 hg w25 hbox hb; have BK108 := Aside0.mk (hbox); have GW108 := GE_ hg; have GE108 := GE_ hg; replace HB := Aside0.mk (below_step T1_ hb); clear hb hbox hg) | ((with_reducible refine gate_dst (N := 5) rfl ?_); refine box_event ?hg (N := 5) ?hd (cs := #[.bool false, .string (⟨#[]⟩ : ByteArray)]) (t := 102) ?hr ?_; (case hd => rfl); (case hg => rfl); (case hr => exact T3_); intro gb109 hg w26 hbox hb; have BK109 := Aside0.mk (hbox); have GW109 := GE_ hg; have GE109 := GE_ hg; replace HB := Aside0.mk (below_step T9_ hb); have NB108_109 := NB_ BK108 hg; have NB109_108 := NC_ BK108 hg; replace BK108 := BF_ BK108 hb; clear hb hbox hg) | ((with_reducible refine gate_callee (f := 95) rfl ?_); refine goesL_ (some 13) rfl rfl Tryz.func95 (by kernel_rfl) rfl #[.string a0] rfl T2_ ?_; (with_reducible refine (whole_read.calls a0 t110 t111 false _ A3.out).mono ?_); rintro e w27 ⟨rfl, hb⟩; refine ⟨_, rfl, ?_⟩; replace BK108 := BF_ BK108 hb; replace BK109 := BF_ BK109 hb; replace HB := Aside0.mk (below_step T9_ hb); (try clear hb); (try clear hb2); (try clear hk); (try clear hi)) | ((with_reducible refine gate_dst (N := 7) rfl ?_); refine box_event ?hg (N := 7) ?hd (cs := #[.bool false, .string (⟨#[]⟩ : ByteArray)]) (t := 102) ?hr ?_; (case hd => rfl); (case hg => rfl); (case hr => exact T3_); intro gb113 hg w28 hbox hb; have BK113 := Aside0.mk (hbox); have GW113 := GE_ hg; have GE113 := GE_ hg; replace HB := Aside0.mk (below_step T9_ hb); have NB108_113 := NB_ BK108 hg; have NB113_108 := NC_ BK108 hg; replace BK108 := BF_ BK108 hb; have NB109_113 := NB_ BK109 hg; have NB113_109 := NC_ BK109 hg; replace BK109 := BF_ BK109 hb; clear hb hbox hg; have hnb29 := NB113_108.out; have hnc29 := NB108_113.out; have hnb30 := NB113_109.out; have hnc30 := NB109_113.out; have hcz31_0 : w28.cell? ⟨gb113, 0, none⟩ = some (.bool false) := (blk_cell BK113.out 0).trans rfl; have hcz31_1 : w28.cell? ⟨gb113, 1, none⟩ = some (.string (⟨#[]⟩ : ByteArray)) := (blk_cell BK113.out 1).trans rfl; have hfz31_0 := blk_frozen BK113.out 0; have hfz31_1 := blk_frozen BK113.out 1) | ((with_reducible refine gate_callee (f := 95) rfl ?_); refine goesL_ (some 18) rfl rfl Tryz.func95 (by kernel_rfl) rfl #[.string a1] rfl T2_ ?_; (with_reducible refine (whole_read.calls a1 t114 t115 t116 _ A4.out).mono ?_); rintro e w32 ⟨rfl, hb⟩; refine ⟨_, rfl, ?_⟩; replace BK108 := BG_ BK108 hb; replace BK109 := BG_ BK109 hb; replace BK113 := BP_ BK113 hb; replace HB := Aside0.mk (below_step T9_ hb); (try clear hb); (try clear hb2); (try clear hk); (try clear hi)) | ((with_reducible refine gate_dst (N := 9) rfl ?_); refine box_event ?hg (N := 9) ?hd (cs := #[.bool false, .string (⟨#[]⟩ : ByteArray)]) (t := 102) ?hr ?_; (case hd => rfl); (case hg => rfl); (case hr => exact T3_); intro gb117 hg w33 hbox hb; have BK117 := Aside0.mk (hbox); have GW117 := GE_ hg; have GE117 := GE_ hg; replace HB := Aside0.mk (below_step T9_ hb); have NB108_117 := NB_ BK108 hg; have NB117_108 := NC_ BK108 hg; replace BK108 := BF_ BK108 hb; have NB109_117 := NB_ BK109 hg; have NB117_109 := NC_ BK109 hg; replace BK109 := BF_ BK109 hb; have NB113_117 := NB_ BK113 hg; have NB117_113 := NC_ BK113 hg; replace BK113 := BF_ BK113 hb; clear hb hbox hg; have hnb34 := NB117_108.out; have hnc34 := NB108_117.out; have hnb35 := NB117_109.out; have hnc35 := NB109_117.out; have hnb36 := NB117_113.out; have hnc36 := NB113_117.out; have hcz37_0 : w33.cell? ⟨gb117, 0, none⟩ = some (.bool false) := (blk_cell BK117.out 0).trans rfl; have hcz37_1 : w33.cell? ⟨gb117, 1, none⟩ = some (.string (⟨#[]⟩ : ByteArray)) := (blk_cell BK117.out 1).trans rfl; have hfz37_0 := blk_frozen BK117.out 0; have hfz37_1 := blk_frozen BK117.out 1))
  have n0_ : Aside0 (((w33.setCell ⟨gb117, 0, none⟩ (.bool t114)).setCell ⟨gb117, 1, none⟩ (.string t115)).heap[gb108]? = some (.cells #[.bool false, .string (⟨#[]⟩ : ByteArray)] 102 (0, 0))) := ⟨by (with_reducible repeat (first | refine blk_drewN ?_ _ | refine blk_drew ?_ | refine blk_alloc ?_ _)); refine blk_far ?_ NB108_117.out _; (with_reducible repeat (first | refine blk_drewN ?_ _ | refine blk_drew ?_ | refine blk_alloc ?_ _)); refine blk_far ?_ NB108_117.out _; (with_reducible repeat (first | refine blk_drewN ?_ _ | refine blk_drew ?_ | refine blk_alloc ?_ _)); exact BK108.out⟩
  have n1_ : Aside0 (((w33.setCell ⟨gb117, 0, none⟩ (.bool t114)).setCell ⟨gb117, 1, none⟩ (.string t115)).heap[gb109]? = some (.cells #[.bool false, .string (⟨#[]⟩ : ByteArray)] 102 (0, 0))) := ⟨by (with_reducible repeat (first | refine blk_drewN ?_ _ | refine blk_drew ?_ | refine blk_alloc ?_ _)); refine blk_far ?_ NB109_117.out _; (with_reducible repeat (first | refine blk_drewN ?_ _ | refine blk_drew ?_ | refine blk_alloc ?_ _)); refine blk_far ?_ NB109_117.out _; (with_reducible repeat (first | refine blk_drewN ?_ _ | refine blk_drew ?_ | refine blk_alloc ?_ _)); exact BK109.out⟩
  have n2_ : Aside0 (((w33.setCell ⟨gb117, 0, none⟩ (.bool t114)).setCell ⟨gb117, 1, none⟩ (.string t115)).heap[gb113]? = some (.cells #[.bool t110, .string t111] 102 (0, 0))) := ⟨by (with_reducible repeat (first | refine blk_drewN ?_ _ | refine blk_drew ?_ | refine blk_alloc ?_ _)); refine blk_far ?_ NB113_117.out _; (with_reducible repeat (first | refine blk_drewN ?_ _ | refine blk_drew ?_ | refine blk_alloc ?_ _)); refine blk_far ?_ NB113_117.out _; (with_reducible repeat (first | refine blk_drewN ?_ _ | refine blk_drew ?_ | refine blk_alloc ?_ _)); exact BK113.out⟩
  have n3_ : Aside0 (((w33.setCell ⟨gb117, 0, none⟩ (.bool t114)).setCell ⟨gb117, 1, none⟩ (.string t115)).heap[gb117]? = some (.cells #[.bool t114, .string t115] 102 (0, 0))) := ⟨by (with_reducible repeat (first | refine blk_drewN ?_ _ | refine blk_drew ?_ | refine blk_alloc ?_ _)); refine blk_put (cs := #[.bool t114, .string (⟨#[]⟩ : ByteArray)]) ?_ 1 _ rfl; (with_reducible repeat (first | refine blk_drewN ?_ _ | refine blk_drew ?_ | refine blk_alloc ?_ _)); refine blk_put (cs := #[.bool false, .string (⟨#[]⟩ : ByteArray)]) ?_ 0 _ rfl; (with_reducible repeat (first | refine blk_drewN ?_ _ | refine blk_drew ?_ | refine blk_alloc ?_ _)); exact BK117.out⟩
  have n4_ : Aside0 (Below w.heap.size w ((w33.setCell ⟨gb117, 0, none⟩ (.bool t114)).setCell ⟨gb117, 1, none⟩ (.string t115))) := ⟨by repeat (first | (with_reducible first | exact HB.out | apply below_alloc | apply pw_below_drewN | apply below_drew1 | refine below_set ?_ GE108.out | refine below_set ?_ GE109.out | refine below_set ?_ GE113.out | refine below_set ?_ GE117.out) | exact HB.out)⟩
  (try clear BK108)
  (try clear BK109)
  (try clear BK113)
  (try clear BK117)
  (try clear HB)
  generalize ((w33.setCell ⟨gb117, 0, none⟩ (.bool t114)).setCell ⟨gb117, 1, none⟩ (.string t115)) = w38 at n0_ n1_ n2_ n3_ n4_ ⊢
  have BK108 := n0_
  have BK109 := n1_
  have BK113 := n2_
  have BK117 := n3_
  have HB := n4_
  clear n0_ n1_ n2_ n3_ n4_
  have n0_ := Aside0.mk (blk_drew BK108.out)
  have n1_ := Aside0.mk (blk_drew BK109.out)
  have n2_ := Aside0.mk (blk_drew BK113.out)
  have n3_ := Aside0.mk (blk_drew BK117.out)
  have n4_ := Aside0.mk (below_drew1 HB.out)
  clear BK108
  clear BK109
  clear BK113
  clear BK117
  clear HB
  have BK108 := n0_
  have BK109 := n1_
  have BK113 := n2_
  have BK117 := n3_
  have HB := n4_
  clear n0_ n1_ n2_ n3_ n4_
  refine start_ (n := 9) (S := fun w' => w'.cell? ⟨gb113, 0, none⟩ = some (.bool t110) ∧ w'.cell? ⟨gb113, 1, none⟩ = some (.string t111) ∧ w'.cell? ⟨gb117, 0, none⟩ = some (.bool t114) ∧ w'.cell? ⟨gb117, 1, none⟩ = some (.string t115)) (ds := []) #[false, false, false, false, false, false, false, false, false] (by kernel_rfl) rfl rfl ⟨(blk_cell BK113.out 0).trans rfl, (blk_cell BK113.out 1).trans rfl, (blk_cell BK117.out 0).trans rfl, (blk_cell BK117.out 1).trans rfl⟩ (fun hHeld => ?_); refine with_tabW whole_both.tab3 whole_both.bits3 (fun HT_ HW_ => ?_)
  generalize w38.drew = w39 at BK108 BK109 BK113 BK117 HB hHeld ⊢
  refine pure_ (i := 2) (N := some 23) (v := ?_) (a' := ?_) #[false, false, true, false, false, false, false, false, false] rfl rfl (any_of HT_.out (by kernel_rfl)) (fun _ _ _ h => h) (Or.inl ⟨by rfl, ?_⟩) ?_ ?_
  rotate_left
  ·
   intro w'
   go_simp
   with_reducible rfl
  rotate_left
  ·
   simp only [Act.put, List.setIfInBounds_toArray, List.set_cons_zero, List.set_cons_succ, i64_w, i32_w]
   rfl
  refine pure_ (i := 3) (N := some 24) (v := ?_) (a' := ?_) #[false, false, true, true, false, false, false, false, false] rfl rfl (any_of HT_.out (by kernel_rfl)) (fun _ _ _ h => h) (Or.inl ⟨by rfl, ?_⟩) ?_ ?_
  rotate_left
  ·
   intro w'
   go_simp
   with_reducible rfl
  rotate_left
  ·
   simp only [Act.put, List.setIfInBounds_toArray, List.set_cons_zero, List.set_cons_succ, i64_w, i32_w]
   rfl
  refine pure_ (i := 4) (N := some 25) (v := undef) (a' := ?_) #[false, false, true, true, true, false, false, false, false] rfl rfl (any_of HT_.out (by kernel_rfl)) (fun _ _ _ h => h) (Or.inr ⟨by rfl, rfl⟩) ?_ ?_
  rotate_left
  ·
   simp only [Act.put, List.setIfInBounds_toArray, List.set_cons_zero, List.set_cons_succ, i64_w, i32_w]
   rfl
  refine pure_ (i := 5) (N := some 26) (v := ?_) (a' := ?_) #[false, false, true, true, true, true, false, false, false] rfl rfl (any_of HT_.out (by kernel_rfl)) (fun _ _ _ h => h) (Or.inl ⟨by rfl, ?_⟩) ?_ ?_
  rotate_left
  ·
   intro w'
   go_simp
   with_reducible rfl
  rotate_left
  ·
   simp only [Act.put, List.setIfInBounds_toArray, List.set_cons_zero, List.set_cons_succ, i64_w, i32_w]
   rfl
  refine take_ (i := 0) (N := some 21) (v := ?_) (a' := ?_) #[true, false, true, true, true, true, false, false, false] rfl rfl (take_ofW HT_.out HW_.out (by kernel_rfl)) (fun _ _ _ h => h) (Or.inl ⟨by rfl, ?_⟩) hHeld ?_ ?_
  rotate_left
  ·
   rintro w' ⟨s0, s1, s2, s3⟩
   go_simp
   with_reducible rfl
  rotate_left
  ·
   simp only [Act.put, List.setIfInBounds_toArray, List.set_cons_zero, List.set_cons_succ, i64_w, i32_w]
   rfl
  refine take_ (i := 1) (N := some 22) (v := ?_) (a' := ?_) #[true, true, true, true, true, true, false, false, false] rfl rfl (take_ofW HT_.out HW_.out (by kernel_rfl)) (fun _ _ _ h => h) (Or.inl ⟨by rfl, ?_⟩) hHeld ?_ ?_
  rotate_left
  ·
   rintro w' ⟨s0, s1, s2, s3⟩
   go_simp
   with_reducible rfl
  rotate_left
  ·
   simp only [Act.put, List.setIfInBounds_toArray, List.set_cons_zero, List.set_cons_succ, i64_w, i32_w]
   rfl
  refine one_ (i := 6) (N := none) #[true, true, true, true, true, true, true, false, false] rfl rfl (one_of HT_.out (by kernel_rfl)) (by decide) (fun K hK => ?_)
  have hs40 : w39.cell? ⟨gb108, 0, none⟩ = some (.bool false) := (blk_cell BK108.out 0).trans rfl
  have hfs40 := blk_frozen BK108.out 0
  have hns40_1 := NB109_108.out
  have hns40_2 := NB113_108.out
  have hns40_3 := NB117_108.out
  have hms40_1 := NB108_109.out
  have hms40_2 := NB108_113.out
  have hms40_3 := NB108_117.out
  have hs41 : w39.cell? ⟨gb108, 1, none⟩ = some (.string (⟨#[]⟩ : ByteArray)) := (blk_cell BK108.out 1).trans rfl
  have hfs41 := blk_frozen BK108.out 1
  have hns41_1 := NB109_108.out
  have hns41_2 := NB113_108.out
  have hns41_3 := NB117_108.out
  have hms41_1 := NB108_109.out
  have hms41_2 := NB108_113.out
  have hms41_3 := NB108_117.out
  refine skip_ (w1 := ?_) (by rfl) rfl ?_ ?_
  rotate_left
  ·
   go_simp
   rfl
  refine hK.out _ _ ⟨((cell_far (p := ⟨gb108, _, none⟩) NB113_108.out _).trans (((cell_far (p := ⟨gb108, _, none⟩) NB113_108.out _).trans (hHeld.1)))), ((cell_far (p := ⟨gb108, _, none⟩) NB113_108.out _).trans (((cell_far (p := ⟨gb108, _, none⟩) NB113_108.out _).trans (hHeld.2.1)))), ((cell_far (p := ⟨gb108, _, none⟩) NB117_108.out _).trans (((cell_far (p := ⟨gb108, _, none⟩) NB117_108.out _).trans (hHeld.2.2.1)))), ((cell_far (p := ⟨gb108, _, none⟩) NB117_108.out _).trans (((cell_far (p := ⟨gb108, _, none⟩) NB117_108.out _).trans (hHeld.2.2.2))))⟩ (fun hHeld => ?_)
  clear hK K
  refine one_ (i := 7) (N := none) #[true, true, true, true, true, true, true, true, false] rfl rfl (one_of HT_.out (by kernel_rfl)) (by decide) (fun K hK => ?_)
  have hs42 : w39.cell? ⟨gb109, 0, none⟩ = some (.bool false) := (blk_cell BK109.out 0).trans rfl
  have hfs42 := blk_frozen BK109.out 0
  have hns42_0 := NB108_109.out
  have hns42_2 := NB113_109.out
  have hns42_3 := NB117_109.out
  have hms42_0 := NB109_108.out
  have hms42_2 := NB109_113.out
  have hms42_3 := NB109_117.out
  have hs43 : w39.cell? ⟨gb109, 1, none⟩ = some (.string (⟨#[]⟩ : ByteArray)) := (blk_cell BK109.out 1).trans rfl
  have hfs43 := blk_frozen BK109.out 1
  have hns43_0 := NB108_109.out
  have hns43_2 := NB113_109.out
  have hns43_3 := NB117_109.out
  have hms43_0 := NB109_108.out
  have hms43_2 := NB109_113.out
  have hms43_3 := NB109_117.out
  refine skip_ (w1 := ?_) (by rfl) rfl ?_ ?_
  rotate_left
  ·
   go_simp
   rfl
  refine hK.out _ _ ⟨((cell_far (p := ⟨gb109, _, none⟩) NB113_109.out _).trans (((cell_far (p := ⟨gb109, _, none⟩) NB113_109.out _).trans (hHeld.1)))), ((cell_far (p := ⟨gb109, _, none⟩) NB113_109.out _).trans (((cell_far (p := ⟨gb109, _, none⟩) NB113_109.out _).trans (hHeld.2.1)))), ((cell_far (p := ⟨gb109, _, none⟩) NB117_109.out _).trans (((cell_far (p := ⟨gb109, _, none⟩) NB117_109.out _).trans (hHeld.2.2.1)))), ((cell_far (p := ⟨gb109, _, none⟩) NB117_109.out _).trans (((cell_far (p := ⟨gb109, _, none⟩) NB117_109.out _).trans (hHeld.2.2.2))))⟩ (fun hHeld => ?_)
  clear hK K
  refine pure_ (i := 8) (N := some 6) (v := ?_) (a' := ?_) #[true, true, true, true, true, true, true, true, true] rfl rfl (any_of HT_.out (by kernel_rfl)) (fun _ _ _ h => h) (Or.inl ⟨by rfl, ?_⟩) ?_ ?_
  rotate_left
  ·
   intro w'
   go_simp
   with_reducible rfl
  rotate_left
  ·
   simp only [Act.put, List.setIfInBounds_toArray, List.set_cons_zero, List.set_cons_succ, i64_w, i32_w]
   rfl
  refine done_ (done_of HT_.out (by kernel_rfl)) ?_
  try go_wp2
  refine bodyPost_ret (results_list (rs := [.cell 4 102, .cell 5 102, .tmp 6]) rfl (by simp) (.cell gb108 102 #[.bool t110, .string t111] (0, 0) _ rfl (by (with_reducible repeat (first | refine blk_drewN ?_ _ | refine blk_drew ?_ | refine blk_alloc ?_ _)); refine blk_far ?_ NB108_109.out _; (with_reducible repeat (first | refine blk_drewN ?_ _ | refine blk_drew ?_ | refine blk_alloc ?_ _)); refine blk_far ?_ NB108_109.out _; (with_reducible repeat (first | refine blk_drewN ?_ _ | refine blk_drew ?_ | refine blk_alloc ?_ _)); refine blk_put (cs := #[.bool t110, .string (⟨#[]⟩ : ByteArray)]) ?_ 1 _ rfl; (with_reducible repeat (first | refine blk_drewN ?_ _ | refine blk_drew ?_ | refine blk_alloc ?_ _)); refine blk_put (cs := #[.bool false, .string (⟨#[]⟩ : ByteArray)]) ?_ 0 _ rfl; (with_reducible repeat (first | refine blk_drewN ?_ _ | refine blk_drew ?_ | refine blk_alloc ?_ _)); exact BK108.out) Tryz.underlying102 rfl (by kernel_rfl) (.cell gb109 102 #[.bool t114, .string t115] (0, 0) _ rfl (by (with_reducible repeat (first | refine blk_drewN ?_ _ | refine blk_drew ?_ | refine blk_alloc ?_ _)); refine blk_put (cs := #[.bool t114, .string (⟨#[]⟩ : ByteArray)]) ?_ 1 _ rfl; (with_reducible repeat (first | refine blk_drewN ?_ _ | refine blk_drew ?_ | refine blk_alloc ?_ _)); refine blk_put (cs := #[.bool false, .string (⟨#[]⟩ : ByteArray)]) ?_ 0 _ rfl; (with_reducible repeat (first | refine blk_drewN ?_ _ | refine blk_drew ?_ | refine blk_alloc ?_ _)); refine blk_far ?_ NB109_108.out _; (with_reducible repeat (first | refine blk_drewN ?_ _ | refine blk_drew ?_ | refine blk_alloc ?_ _)); refine blk_far ?_ NB109_108.out _; (with_reducible repeat (first | refine blk_drewN ?_ _ | refine blk_drew ?_ | refine blk_alloc ?_ _)); exact BK109.out) Tryz.underlying102 rfl (by kernel_rfl) (.tmp .nil)))) rfl ?_
  exact ⟨T4_, T9_⟩
end Go.Proofs.YtlglpffoijdgbaaGreatDoor.PB
