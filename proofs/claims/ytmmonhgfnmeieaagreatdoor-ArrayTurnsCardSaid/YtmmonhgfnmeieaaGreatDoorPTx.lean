-- by wip/tool/mine.py of this repo (the kit's printer with given contracts)
import Derived.Test.YtmmonhgfnmeieaaGreatDoorProg
import Derived.Test.YtmmonhgfnmeieaaGreatDoorWd
import Derived.Below
import Derived.Deep.Draws
import Derived.Deep.AppendLies
import Derived.Maps.AppendAt
import Derived.OwnWalk
import Derived.Laws.BytesArg
import Derived.Laws.MakeOwn
import Derived.Laws.OwnMore
import Derived.Deep.OwnRows
import Derived.Tactics
import Derived.Lib.ConvBytes
import Derived.Laws.Slices
import Derived.WalkKit
import Derived.KernelRfl
import Derived.RowKit3
import Derived.Deep.LoopGhost
import Derived.Deep.QuietTactic
import Derived.BigQuiet
import Derived.WideLaws
import Derived.Deep.DeepCutAuto
import Derived.Deep.CutBlock
import Derived.Deep.RegionHeld3
import Derived.Laws.Rows
import Derived.Lib.AppendStr
import Derived.ArgAppend
import Derived.Laws.IdiomCopy
import Derived.OrdersHeld
import Derived.Laws.BitsLemmas
import Derived.RowKit
import Derived.Test.YtmmonhgfnmeieaaGreatDoorMine
import Derived.Test.YtmmonhgfnmeieaaGreatDoorTenT
namespace Go.Proofs.YtmmonhgfnmeieaaGreatDoor.PT
open Go.RowKit Go.Proofs.YtmmonhgfnmeieaaGreatDoorW.PrintWords Go.Proofs.YtmmonhgfnmeieaaGreatDoorW.PrintLast Go.Proofs.YtmmonhgfnmeieaaGreatDoorW.PrintMore
attribute [local go_sem] max2_int min2_int max_two min_two max_three min_three max_four min_four   -- for this text's walks alone
set_option linter.unusedVariables false
set_option linter.unusedSimpArgs false
set_option maxHeartbeats 8000000
set_option maxRecDepth 100000
def errW : Option Int → Value
 | none => .nilIface
 | some c => .iface 0 (.int .i64 c)
theorem errW_none : errW none = .nilIface := rfl
theorem errW_some (c : Int) : errW (some c) = .iface 0 (.int .i64 c) := rfl
theorem info3 : (Tryz.prog.info? 3).map (fun i => (i.zero, i.size, i.bytes)) = some (some (.int .i64 0), 1, 8) := by kernel_rfl
theorem info9 : (Tryz.prog.info? 9).map (fun i => (i.zero, i.size, i.bytes)) = some (some (.string ⟨#[]⟩), 1, 16) := by kernel_rfl
/-! ### tensor_Right: function 29 -/
open Classical in
noncomputable def tensor_Right.f (l0_0 : List Int) (l0_1 : List ByteArray) : Option Bool := if Ten.Sm l0_0 l0_1 then some (Ten.tRight ⟨l0_0, l0_1⟩) else none
theorem tensor_Right.calls (A0_0 : Option Addr) (c0_0 : Nat) (l0_0 : List Int) (A0_1 : Option Addr) (c0_1 : Nat) (l0_1 : List ByteArray) (r : Bool) (w : World) (hG : Err.Gs w) (hr0_0 : Kd.C (Kd.int .i64) w A0_0 l0_0.length l0_0) (hc0_0 : l0_0.length ≤ c0_0) (hr0_1 : Kd.C Kd.string w A0_1 l0_1.length l0_1) (hc0_1 : l0_1.length ≤ c0_1) (h : tensor_Right.f l0_0 l0_1 = some r) :
  Calls Tryz.prog 29 #[.agg #[.slice A0_0 l0_0.length c0_0, .slice A0_1 l0_1.length c0_1]] w fun e w' => e = .returned (.bool r) ∧ Below w.heap.size w w' := by
 unfold tensor_Right.f at h
 split at h
 ·
  rename_i hl
  injection h with h;subst h;exact Ten.tright_calls A0_0 c0_0 A0_1 c0_1 ⟨l0_0, l0_1⟩ w hG hr0_0 hc0_0 hr0_1 hl.1 hl.2.1 hl.big
 ·
  cases h
theorem tensor_Right.of (s : List Int) (d : List ByteArray) (h : Ten.Sm s d) : tensor_Right.f s d = some (Ten.tRight ⟨s, d⟩) := by rw [tensor_Right.f, if_pos h]
/-! ### array_Transpose: function 17 -/
mutual
noncomputable def array_Transpose.l0 : Nat → Int → Int → List Int → List ByteArray → List Int → List ByteArray → Option (List Int × List ByteArray × Int)
 | 0, _, _, _, _, _, _ => none
 | k + 1, x31, x32, x102000, x102001, x110000, x110001 => if x32 < x31 then (if 0 < (x102000.length : Int) then (array_Transpose.l1 k x32 x31 x32 (rd x102000 0) 0 x102000 x102001 x110000 x110001) else (none)) else (some (x110000, x110001, 0))
noncomputable def array_Transpose.l1 : Nat → Int → Int → Int → Int → Int → List Int → List ByteArray → List Int → List ByteArray → Option (List Int × List ByteArray × Int)
 | 0, _, _, _, _, _, _, _, _, _ => none
 | k + 1, x5, x31, x32, x38, x39, x102000, x102001, x110000, x110001 => if x39 < x38 then (if 1 < (x102000.length : Int) then (if 0 ≤ (wrap64 ((wrap64 (x39 * (rd x102000 1))) + x5)) then (if (wrap64 ((wrap64 (x39 * (rd x102000 1))) + x5)) < (x102001.length : Int) then (if x110001.length < 8796093022208 then (array_Transpose.l1 k x5 x31 x32 x38 (wrap64 (x39 + 1)) x102000 x102001 x110000 (x110001 ++ [rdOf ByteArray.empty x102001 (wrap64 ((wrap64 (x39 * (rd x102000 1))) + x5))])) else (none)) else (none)) else (none)) else (none)) else (array_Transpose.l0 k x31 (wrap64 (x32 + 1)) x102000 x102001 x110000 x110001)
end
noncomputable def array_Transpose.f (k : Nat) (l0_0 : List Int) (l0_1 : List ByteArray) : Option (List Int × List ByteArray × Int) := (tensor_Right.f l0_0 l0_1).bind fun t103 => (if t103 = true then (if (l0_0.length : Int) = 2 then (if 1 < (l0_0.length : Int) then (if 0 < (l0_0.length : Int) then (array_Transpose.l0 k (rd l0_0 1) 0 l0_0 l0_1 (([rd l0_0 1, rd l0_0 0] : List Int)) ([] : List ByteArray)) else (none)) else (none)) else (some (([] : List Int), ([] : List ByteArray), 4))) else (some (([] : List Int), ([] : List ByteArray), 1)))
def array_Transpose.T5 : Bool × List (List Nat × List Nat) := (true, [([], []), ([0], [0]), ([1], [1]), ([2], [2]), ([], []), ([4], [4]), ([5], [5]), ([6], [6]), ([3, 7], [3, 7]), ([8], [8]), ([], []), ([10, 9, 0, 1, 2, 3, 4, 5, 6, 7, 8, 9, 10], [9, 10])])
def array_Transpose.B5 : List Nat := [0, 1, 3, 7, 0, 16, 48, 112, 255, 511, 0, 2047]
theorem array_Transpose.tab5 : rtab .any (opsOf Tryz.f17 5) = array_Transpose.T5 := by kernel_rfl
theorem array_Transpose.bits5 : waitsOk array_Transpose.T5.2 array_Transpose.B5 = true := by kernel_rfl
def array_Transpose.T12 : Bool × List (List Nat × List Nat) := (true, [([], []), ([0], [0]), ([], []), ([2], [2]), ([], []), ([], []), ([5], [5]), ([6], [6]), ([7], [7]), ([4, 8], [4, 8]), ([], []), ([9, 10], [9, 10]), ([3, 11], [3, 11]), ([12], [12]), ([13], [13]), ([1, 14], [1, 14]), ([0, 1, 2, 3, 4, 5, 6, 7, 8, 9, 10, 11, 12, 13, 14, 15], []), ([16, 15, 15, 0, 1, 2, 3, 4, 5, 6, 7, 8, 9, 10, 11, 12, 13, 14, 15], [15, 16])])
def array_Transpose.B12 : List Nat := [0, 1, 0, 4, 0, 0, 32, 96, 224, 496, 0, 2032, 4092, 8188, 16380, 32767, 65535, 131071]
theorem array_Transpose.tab12 : rtab .any (opsOf Tryz.f17 12) = array_Transpose.T12 := by kernel_rfl
theorem array_Transpose.bits12 : waitsOk array_Transpose.T12.2 array_Transpose.B12 = true := by kernel_rfl
theorem array_Transpose.calls (k : Nat) (A0_0 : Option Addr) (c0_0 : Nat) (l0_0 : List Int) (A0_1 : Option Addr) (c0_1 : Nat) (l0_1 : List ByteArray) (r1 : List Int) (r2 : List ByteArray) (r3 : Int) (w : World) (hG : Err.Gs w) (hr0_0 : Kd.C (Kd.int .i64) w A0_0 l0_0.length l0_0) (hc0_0 : l0_0.length ≤ c0_0) (hr0_1 : Kd.C Kd.string w A0_1 l0_1.length l0_1) (hc0_1 : l0_1.length ≤ c0_1) (h : array_Transpose.f k l0_0 l0_1 = some (r1, r2, r3)) :
  Calls Tryz.prog 17 #[.agg #[.slice A0_0 l0_0.length c0_0, .slice A0_1 l0_1.length c0_1]] w fun e w' => ∃ v0_ v1_ : Value, e = .returned (.tuple #[.agg #[v0_, v1_], .int .i64 r3]) ∧ Kd.R (Kd.int .i64) 3 w' w.heap.size (fun _ => True) v0_ r1 ∧ Kd.R Kd.string 9 w' w.heap.size (fun _ => True) v1_ r2 ∧ Below w.heap.size w w' := by
 have hu25 := Tryz.underlying25;have HR0_0 := Aside0.mk hr0_0;have HC0_0 := Aside0.mk hc0_0;clear hr0_0 hc0_0;have HR0_1 := Aside0.mk hr0_1;have HC0_1 := Aside0.mk hc0_1;clear hr0_1 hc0_1;have HB := Aside0.mk (Below.refl w.heap.size w);have HGs := Aside0.mk hG;clear hG;unfold array_Transpose.f at h;have H := h;clear h;replace H := Option.bind_eq_some_iff.mp H;obtain ⟨t103, A20, H⟩ := H;have A2 := Aside0.mk A20;clear A20
 by_cases c3 : t103 = true
 ·
  subst c3;rw [if_pos rfl] at H
  by_cases c4 : (l0_0.length : Int) = 2
  ·
   rw [if_pos c4] at H;have c4b0 : ((l0_0.length : Int) == 2) = true := beq_iff_eq.mpr c4;have c4b1 : ((l0_0.length : Int) != 2) = false := bne_eq_false_iff_eq.mpr c4;clear c4
   by_cases c5 : 1 < (l0_0.length : Int)
   ·
    rw [if_pos c5] at H;have c5b0 : decide (1 < (l0_0.length : Int)) = true := decide_eq_true c5;have c5b1 : decide (1 < l0_0.length) = true := decide_eq_true (by omega);clear c5
    by_cases c6 : 0 < (l0_0.length : Int)
    ·
     rw [if_pos c6] at H;have c6b0 : decide (0 < (l0_0.length : Int)) = true := decide_eq_true c6;have c6b1 : decide (0 < l0_0.length) = true := decide_eq_true (by omega);clear c6;obtain ⟨y106, hy106⟩ : ∃ y_ : List Int, y_ = (([rd l0_0 1, rd l0_0 0] : List Int)) := ⟨_, rfl⟩
     replace H : (array_Transpose.l0 k (rd l0_0 1) 0 l0_0 l0_1 y106 ([] : List ByteArray)) = some (r1, r2, r3) := by first | (rw [hy106]; with_reducible exact H) | (have H2_ := (Option.bind_some _ _).symm.trans H; rw [hy106]; with_reducible exact H2_) | (have H2_ := (Option.bind_some _ _).symm.trans H; with_reducible exact H2_) | with_reducible exact H | (rw [hy106]; exact H) | exact H
     have Ny106 := Aside0.mk hy106;clear hy106;have H' := Aside0.mk H;clear H;go_enter Tryz.func17, Tryz.ntmps17
     try go_wp2_with (first | ((with_reducible refine gate_dst (N := 1) rfl ?_); refine box_event ?hg (N := 1) ?hd (cs := #[.slice A0_0 l0_0.length c0_0, .slice A0_1 l0_1.length c0_1]) (t := 25) ?hr ?_; (case hd => rfl); (case hg => rfl); (case hr => exact T3_); intro gb101 hg w7 hbox hb; have BK101 := Aside0.mk (hbox); have GW101 := GE_ hg; have GE101 := GE_ hg; replace HB := Aside0.mk (below_step T1_ hb); clear hb hbox hg) | ((with_reducible refine gate_dst (N := 2) rfl ?_); refine box_event ?hg (N := 2) ?hd (cs := #[.slice none 0 0, .slice none 0 0]) (t := 25) ?hr ?_; (case hd => rfl); (case hg => rfl); (case hr => exact T3_); intro gb102 hg w8 hbox hb; have BK102 := Aside0.mk (hbox); have GW102 := GE_ hg; have GE102 := GE_ hg; replace HB := Aside0.mk (below_step T9_ hb); have NB101_102 := NB_ BK101 hg; have NB102_101 := NC_ BK101 hg; replace BK101 := BF_ BK101 hb; clear hb hbox hg; have hnb9 := NB101_102.out; have hnc9 := NB102_101.out; have hcz10_0 := CA_ BK101; have hcz10_1 := CB_ BK101; have hfz10_0 := blk_frozen BK101.out 0; have hfz10_1 := blk_frozen BK101.out 1) | ((with_reducible refine gate_callee (f := 29) rfl ?_); refine goesL_ (some 9) rfl rfl Tryz.func29 (by kernel_rfl) rfl #[.agg #[.slice A0_0 l0_0.length c0_0, .slice A0_1 l0_1.length c0_1]] rfl T2_ ?_; (with_reducible refine (tensor_Right.calls _ _ l0_0 _ _ l0_1 true _ (Err.Gs.below HGs.out T9_) ?side1 ?side2 ?side3 ?side4 A2.out).mono ?_); (case side1 => exact C1_ (Kd.C_below HR0_0.out HB.out)); (case side2 => exact HC0_0.out); (case side3 => exact C1_ (Kd.C_below HR0_1.out HB.out)); (case side4 => exact HC0_1.out); rintro e w11 ⟨rfl, hb⟩; refine ⟨_, rfl, ?_⟩; replace BK101 := BF_ BK101 hb; replace BK102 := BF_ BK102 hb; replace HB := Aside0.mk (below_step T9_ hb); clear hb; have hcz12_0 := CA_ BK101; have hcz12_1 := CB_ BK101; have hfz12_0 := blk_frozen BK101.out 0; have hfz12_1 := blk_frozen BK101.out 1))
     have n0_ := Aside0.mk (blk_drew BK101.out);have n1_ := Aside0.mk (blk_drew BK102.out);have n2_ := Aside0.mk (below_drew1 HB.out);clear BK101;clear BK102;clear HB;have BK101 := n0_;have BK102 := n1_;have HB := n2_;clear n0_ n1_ n2_;have p104 : 0 ≤ (1 : Int) := (by omega);have q104 : 1 < (l0_0.length : Int) := DA_;obtain ⟨ad104, e104, hx104_0⟩ := Kd.at_int HR0_0.out 1 p104 q104;have hw104_0 := hx104_0
     (try rw [show ((1 : Int)).toNat = 1 from rfl] at hw104_0)
     (try rw [show 1 * 1 = 1 from rfl] at hw104_0)
     (try simp only [Nat.reduceMul, Nat.reduceEqDiff, Go.Addr.add, ↓reduceIte] at hw104_0)
     cases e104
     (try simp only [show (1 : Int).toNat = 1 from rfl, Nat.reduceMul, Nat.reduceEqDiff, Go.Addr.add, ↓reduceIte] at hx104_0)
     have qi104 : (1 < l0_0.length) = True := eq_true (by omega)
     (try rw [show ((1 : Int)).toNat = 1 from rfl] at hx104_0)
     replace hx104_0 := (HB.out.cell (World.block_lt_of_cell? w _ hx104_0)).trans hx104_0;replace p104 := eq_true p104;replace q104 := eq_true q104;have p105 : 0 ≤ (0 : Int) := (by omega);have q105 : 0 < (l0_0.length : Int) := DA_;obtain ⟨ad105, e105, hx105_0⟩ := Kd.at_int HR0_0.out 0 p105 q105;have hw105_0 := hx105_0
     (try rw [show ((0 : Int)).toNat = 0 from rfl] at hw105_0)
     (try rw [show 0 * 1 = 0 from rfl] at hw105_0)
     (try rw [Addr.add_zero'] at hw105_0)
     obtain rfl : ad104 = ad105 := (by injection e105);have qi105 : (0 < l0_0.length) = True := eq_true (by omega)
     (try rw [show ((0 : Int)).toNat = 0 from rfl] at hx105_0)
     (try rw [Addr.add_zero'] at hx105_0)
     replace hx105_0 := (HB.out.cell (World.block_lt_of_cell? w _ hx105_0)).trans hx105_0;replace p105 := eq_true p105;replace q105 := eq_true q105;refine start_ (n := 12) (S := fun w' => w'.cell? ⟨gb101, 0, none⟩ = some (.slice (some ad104) l0_0.length c0_0) ∧ w'.cell? ⟨gb101, 1, none⟩ = some (.slice A0_1 l0_1.length c0_1) ∧ w'.cell? ⟨ad104.block, ad104.off + 1, none⟩ = some (.int .i64 (rd l0_0 1)) ∧ w'.cell? ad104 = some (.int .i64 (rd l0_0 0))) (ds := []) #[false, false, false, false, false, false, false, false, false, false, false, false] (by kernel_rfl) rfl rfl ⟨(blk_cell BK101.out 0).trans rfl, (blk_cell BK101.out 1).trans rfl, ((HB.out.cell (World.block_lt_of_cell? w _ hw104_0)).trans hw104_0), ((HB.out.cell (World.block_lt_of_cell? w _ hw105_0)).trans hw105_0)⟩ (fun hHeld => ?_); refine with_tabW array_Transpose.tab5 array_Transpose.bits5 (fun HT_ HW_ => ?_);generalize w11.drew = w13 at BK101 BK102 HB hx104_0 hx105_0 hHeld ⊢;refine pure_ (i := 0) (N := some 18) (v := ?_) (a' := ?_) #[true, false, false, false, false, false, false, false, false, false, false, false] rfl rfl (any_of HT_.out (by kernel_rfl)) (fun _ _ _ h => h) (Or.inl ⟨by rfl, ?_⟩) ?_ ?_;rotate_left
     ·
      intro w';go_simp;with_reducible rfl
     rotate_left
     ·
      simp only [Act.put, List.setIfInBounds_toArray, List.set_cons_zero, List.set_cons_succ, i64_w, i32_w];rfl
     refine pure_ (i := 4) (N := some 22) (v := ?_) (a' := ?_) #[true, false, false, false, true, false, false, false, false, false, false, false] rfl rfl (any_of HT_.out (by kernel_rfl)) (fun _ _ _ h => h) (Or.inl ⟨by rfl, ?_⟩) ?_ ?_;rotate_left
     ·
      intro w';go_simp;with_reducible rfl
     rotate_left
     ·
      simp only [Act.put, List.setIfInBounds_toArray, List.set_cons_zero, List.set_cons_succ, i64_w, i32_w];rfl
     refine take_ (i := 1) (N := some 19) (v := ?_) (a' := ?_) #[true, true, false, false, true, false, false, false, false, false, false, false] rfl rfl (take_ofW HT_.out HW_.out (by kernel_rfl)) (fun _ _ _ h => h) (Or.inl ⟨by rfl, ?_⟩) hHeld ?_ ?_;rotate_left
     ·
      rintro w' ⟨s0, s1, s2, s3⟩;go_simp;with_reducible rfl
     rotate_left
     ·
      simp only [Act.put, List.setIfInBounds_toArray, List.set_cons_zero, List.set_cons_succ, i64_w, i32_w];rfl
     refine pure_ (i := 2) (N := some 20) (v := ?_) (a' := ?_) #[true, true, true, false, true, false, false, false, false, false, false, false] rfl rfl (any_of HT_.out (by kernel_rfl)) (fun _ _ _ h => h) (Or.inl ⟨by rfl, ?_⟩) ?_ ?_;rotate_left
     ·
      intro w';go_simp;with_reducible rfl
     rotate_left
     ·
      simp only [Act.put, List.setIfInBounds_toArray, List.set_cons_zero, List.set_cons_succ, i64_w, i32_w];rfl
     refine take_ (i := 3) (N := some 21) (v := ?_) (a' := ?_) #[true, true, true, true, true, false, false, false, false, false, false, false] rfl rfl (take_ofW HT_.out HW_.out (by kernel_rfl)) (fun _ _ _ h => h) (Or.inl ⟨by rfl, ?_⟩) hHeld ?_ ?_;rotate_left
     ·
      rintro w' ⟨s0, s1, s2, s3⟩;go_simp;with_reducible rfl
     rotate_left
     ·
      simp only [Act.put, List.setIfInBounds_toArray, List.set_cons_zero, List.set_cons_succ, i64_w, i32_w];rfl
     refine take_ (i := 5) (N := some 23) (v := ?_) (a' := ?_) #[true, true, true, true, true, true, false, false, false, false, false, false] rfl rfl (take_ofW HT_.out HW_.out (by kernel_rfl)) (fun _ _ _ h => h) (Or.inl ⟨by rfl, ?_⟩) hHeld ?_ ?_;rotate_left
     ·
      rintro w' ⟨s0, s1, s2, s3⟩;go_simp;with_reducible rfl
     rotate_left
     ·
      simp only [Act.put, List.setIfInBounds_toArray, List.set_cons_zero, List.set_cons_succ, i64_w, i32_w];rfl
     refine pure_ (i := 6) (N := some 24) (v := ?_) (a' := ?_) #[true, true, true, true, true, true, true, false, false, false, false, false] rfl rfl (any_of HT_.out (by kernel_rfl)) (fun _ _ _ h => h) (Or.inl ⟨by rfl, ?_⟩) ?_ ?_;rotate_left
     ·
      intro w';go_simp;with_reducible rfl
     rotate_left
     ·
      simp only [Act.put, List.setIfInBounds_toArray, List.set_cons_zero, List.set_cons_succ, i64_w, i32_w];rfl
     refine take_ (i := 7) (N := some 25) (v := ?_) (a' := ?_) #[true, true, true, true, true, true, true, true, false, false, false, false] rfl rfl (take_ofW HT_.out HW_.out (by kernel_rfl)) (fun _ _ _ h => h) (Or.inl ⟨by rfl, ?_⟩) hHeld ?_ ?_;rotate_left
     ·
      rintro w' ⟨s0, s1, s2, s3⟩;go_simp;with_reducible rfl
     rotate_left
     ·
      simp only [Act.put, List.setIfInBounds_toArray, List.set_cons_zero, List.set_cons_succ, i64_w, i32_w];rfl
     refine join_ (σ := Value × Nat) 1 #[true, true, true, true, true, true, true, true, true, true, true, false] (fun s_ => [(26, s_.1), (4, .pointer (some ⟨s_.2, 0, none⟩)), (27, .agg #[s_.1, .slice none 0 0])]) (fun s_ w' => (w'.cell? ⟨gb101, 0, none⟩ = some (.slice (some ad104) l0_0.length c0_0) ∧ w'.cell? ⟨gb101, 1, none⟩ = some (.slice A0_1 l0_1.length c0_1) ∧ w'.cell? ⟨ad104.block, ad104.off + 1, none⟩ = some (.int .i64 (rd l0_0 1)) ∧ w'.cell? ad104 = some (.int .i64 (rd l0_0 0))) ∧ (Kd.R (Kd.int .i64) 3 w' w.heap.size (fun _ => True) s_.1 y106) ∧ (w'.heap[gb101]? = some (.cells #[.slice (some ad104) l0_0.length c0_0, .slice A0_1 l0_1.length c0_1] 25 (0, 0))) ∧ (w'.heap[gb102]? = some (.cells #[.slice none 0 0, .slice none 0 0] 25 (0, 0))) ∧ (w'.heap[s_.2]? = some (.cells #[.slice none 0 0, .slice none 0 0] 25 (0, 0))) ∧ (w.heap.size ≤ s_.2) ∧ (w.heap.size ≤ s_.2) ∧ (gb101 ≠ s_.2) ∧ (s_.2 ≠ gb101) ∧ (gb102 ≠ s_.2) ∧ (s_.2 ≠ gb102) ∧ (Below w.heap.size w w')) ?_ ?_;rotate_left
     ·
      intro hCont;refine two_ (i := 8) (j := 10) (Ni := some 26) (Nj := some 4) #[true, true, true, true, true, true, true, true, true, false, false, false] #[true, true, true, true, true, true, true, true, false, false, true, false] rfl rfl rfl rfl (two_of HT_.out (by kernel_rfl)) (by decide) (by decide) (fun K hK => ?_) (fun K hK => ?_)
      ·
       skip
       refine Kd.R_lit_step (Kd.int .i64) _ 3 ?hg (N := 26) ?hd (xs := ([rd l0_0 1, rd l0_0 0] : List Int)) (inner := [.int .i64 (rd l0_0 1), .int .i64 (rd l0_0 0)]) (ok := fun _ => True) (okp := fun _ => True) ?hr ?hp (fun _ hk => hk) trivial (Below.refl _ _) (Nat.le_refl _) (by simp) ?_; (case hd => rfl); (case hg => rfl); (case hr => exact T3_); (case hp => exact (Reps.one (show Kd.M (Kd.int .i64) _ _ _ (rd l0_0 1) [.int .i64 (rd l0_0 1)] from rfl) (Reps.one (show Kd.M (Kd.int .i64) _ _ _ (rd l0_0 0) [.int .i64 (rd l0_0 0)] from rfl) (Reps.none _ _))));intro v107 w14 ho15 hb hg_ hnew_;clear hg_ hnew_
       (first | rw [← Ny106.out] at ho15 | (simp only [Int.reduceToNat] at ho15; rw [← Ny106.out] at ho15))
       have n0_ := Aside0.mk (Kd.R_lower ho15 (below_size T9_));have n1_ := Aside0.mk (blk_below (g := gb101) (o := .cells #[.slice (some ad104) l0_0.length c0_0, .slice A0_1 l0_1.length c0_1] 25 (0, 0)) (B1_ BK101.out) hb);have n2_ := Aside0.mk (blk_below (g := gb102) (o := .cells #[.slice none 0 0, .slice none 0 0] 25 (0, 0)) (B1_ BK102.out) hb);have n3_ := Aside0.mk (below_step T9_ hb);clear BK101;clear BK102;clear HB;have HO108 := n0_;have BK101 := n1_;have BK102 := n2_;have HB := n3_;clear n0_ n1_ n2_ n3_;clear hb ho15;obtain ⟨Ao16, co16, eo16⟩ := Kd.R_slice HO108.out
       (first | subst eo16 | (injection eo16 with f1_ f2_ f3_; have f4_ := f1_.symm; have f5_ := f3_.symm; clear f1_ f2_ f3_; subst f4_; subst f5_))
       refine hK.out _ _ ⟨(blk_cell BK101.out 0).trans rfl, (blk_cell BK101.out 1).trans rfl, ((HB.out.cell (World.block_lt_of_cell? w _ hw104_0)).trans hw104_0), ((HB.out.cell (World.block_lt_of_cell? w _ hw105_0)).trans hw105_0)⟩ (fun hHeld => ?_);clear hK K;refine norm_ (a' := ?_) ?_ ?_;rotate_left
       ·
        show Act.put _ (some 26) _ = _
        simp only [Act.put, List.setIfInBounds_toArray, List.set_cons_zero, List.set_cons_succ, i64_w, i32_w];rfl
       refine pure_ (i := 9) (N := some 27) (v := ?_) (a' := ?_) #[true, true, true, true, true, true, true, true, true, true, false, false] rfl rfl (any_of HT_.out (by kernel_rfl)) (fun _ _ _ h => h) (Or.inl ⟨by rfl, ?_⟩) ?_ ?_;rotate_left
       ·
        intro w';go_simp;with_reducible rfl
       rotate_left
       ·
        simp only [Act.put, List.setIfInBounds_toArray, List.set_cons_zero, List.set_cons_succ, i64_w, i32_w];rfl
       refine one_ (i := 10) (N := some 4) #[true, true, true, true, true, true, true, true, true, true, true, false] rfl rfl (one_of HT_.out (by kernel_rfl)) (by decide) (fun K hK => ?_);refine box_step ?hg (N := 4) ?hd (cs := #[.slice none 0 0, .slice none 0 0]) (t := 25) ?hr ?_; (case hd => rfl); (case hg => rfl); (case hr => exact T3_);intro gb109 hg w17 hbox hb;have n0_ := Aside0.mk (Kd.R_below (K1_ HO108) hb);have n1_ := Aside0.mk (blk_below (g := gb101) (o := .cells #[.slice (some ad104) l0_0.length c0_0, .slice A0_1 l0_1.length c0_1] 25 (0, 0)) (B1_ BK101.out) hb);have n2_ := Aside0.mk (blk_below (g := gb102) (o := .cells #[.slice none 0 0, .slice none 0 0] 25 (0, 0)) (B1_ BK102.out) hb);have n3_ := Aside0.mk (below_step T9_ hb);have n4_ := Aside0.mk (hbox);have n5_ := Aside0.mk ((by rw [hg]; exact (below_size T9_) : w.heap.size ≤ gb109));have n6_ := Aside0.mk ((by rw [hg]; exact (below_size T9_) : w.heap.size ≤ gb109));have n7_ := Aside0.mk ((by rw [hg]; exact Nat.ne_of_lt (blk_lt (g := gb101) (o := .cells #[.slice (some ad104) l0_0.length c0_0, .slice A0_1 l0_1.length c0_1] 25 (0, 0)) (B1_ BK101.out)) : gb101 ≠ gb109));have n8_ := Aside0.mk ((by rw [hg]; exact Nat.ne_of_gt (blk_lt (g := gb101) (o := .cells #[.slice (some ad104) l0_0.length c0_0, .slice A0_1 l0_1.length c0_1] 25 (0, 0)) (B1_ BK101.out)) : gb109 ≠ gb101));have n9_ := Aside0.mk ((by rw [hg]; exact Nat.ne_of_lt (blk_lt (g := gb102) (o := .cells #[.slice none 0 0, .slice none 0 0] 25 (0, 0)) (B1_ BK102.out)) : gb102 ≠ gb109));have n10_ := Aside0.mk ((by rw [hg]; exact Nat.ne_of_gt (blk_lt (g := gb102) (o := .cells #[.slice none 0 0, .slice none 0 0] 25 (0, 0)) (B1_ BK102.out)) : gb109 ≠ gb102));clear HO108;clear BK101;clear BK102;clear HB;have HO108 := n0_;have BK101 := n1_;have BK102 := n2_;have HB := n3_;have BK109 := n4_;have GW109 := n5_;have GE109 := n6_;have NB101_109 := n7_;have NB109_101 := n8_;have NB102_109 := n9_;have NB109_102 := n10_;clear n0_ n1_ n2_ n3_ n4_ n5_ n6_ n7_ n8_ n9_ n10_;clear hb hbox hg;refine hK.out _ _ ⟨(blk_cell BK101.out 0).trans rfl, (blk_cell BK101.out 1).trans rfl, ((HB.out.cell (World.block_lt_of_cell? w _ hw104_0)).trans hw104_0), ((HB.out.cell (World.block_lt_of_cell? w _ hw105_0)).trans hw105_0)⟩ (fun hHeld => ?_);clear hK K;refine norm_ (a' := ?_) ?_ ?_;rotate_left
       ·
        show Act.put _ (some 4) _ = _
        simp only [Act.put, List.setIfInBounds_toArray, List.set_cons_zero, List.set_cons_succ, i64_w, i32_w];rfl
       exact norm_ (by simp only [putAll, Act.put, List.setIfInBounds_toArray, List.set_cons_zero, List.set_cons_succ]) (hCont (.slice Ao16 y106.length co16, gb109) _ ⟨hHeld, (K1_ HO108), (B1_ BK101.out), (B1_ BK102.out), (B1_ BK109.out), GW109.out, GE109.out, NB101_109.out, NB109_101.out, NB102_109.out, NB109_102.out, T9_⟩)
      ·
       skip
       refine box_step ?hg (N := 4) ?hd (cs := #[.slice none 0 0, .slice none 0 0]) (t := 25) ?hr ?_; (case hd => rfl); (case hg => rfl); (case hr => exact T3_);intro gb109 hg w14 hbox hb;have n0_ := Aside0.mk (blk_below (g := gb101) (o := .cells #[.slice (some ad104) l0_0.length c0_0, .slice A0_1 l0_1.length c0_1] 25 (0, 0)) (B1_ BK101.out) hb);have n1_ := Aside0.mk (blk_below (g := gb102) (o := .cells #[.slice none 0 0, .slice none 0 0] 25 (0, 0)) (B1_ BK102.out) hb);have n2_ := Aside0.mk (below_step T9_ hb);have n3_ := Aside0.mk (hbox);have n4_ := Aside0.mk ((by rw [hg]; exact (below_size T9_) : w.heap.size ≤ gb109));have n5_ := Aside0.mk ((by rw [hg]; exact (below_size T9_) : w.heap.size ≤ gb109));have n6_ := Aside0.mk ((by rw [hg]; exact Nat.ne_of_lt (blk_lt (g := gb101) (o := .cells #[.slice (some ad104) l0_0.length c0_0, .slice A0_1 l0_1.length c0_1] 25 (0, 0)) (B1_ BK101.out)) : gb101 ≠ gb109));have n7_ := Aside0.mk ((by rw [hg]; exact Nat.ne_of_gt (blk_lt (g := gb101) (o := .cells #[.slice (some ad104) l0_0.length c0_0, .slice A0_1 l0_1.length c0_1] 25 (0, 0)) (B1_ BK101.out)) : gb109 ≠ gb101));have n8_ := Aside0.mk ((by rw [hg]; exact Nat.ne_of_lt (blk_lt (g := gb102) (o := .cells #[.slice none 0 0, .slice none 0 0] 25 (0, 0)) (B1_ BK102.out)) : gb102 ≠ gb109));have n9_ := Aside0.mk ((by rw [hg]; exact Nat.ne_of_gt (blk_lt (g := gb102) (o := .cells #[.slice none 0 0, .slice none 0 0] 25 (0, 0)) (B1_ BK102.out)) : gb109 ≠ gb102));clear BK101;clear BK102;clear HB;have BK101 := n0_;have BK102 := n1_;have HB := n2_;have BK109 := n3_;have GW109 := n4_;have GE109 := n5_;have NB101_109 := n6_;have NB109_101 := n7_;have NB102_109 := n8_;have NB109_102 := n9_;clear n0_ n1_ n2_ n3_ n4_ n5_ n6_ n7_ n8_ n9_;clear hb hbox hg;refine hK.out _ _ ⟨(blk_cell BK101.out 0).trans rfl, (blk_cell BK101.out 1).trans rfl, ((HB.out.cell (World.block_lt_of_cell? w _ hw104_0)).trans hw104_0), ((HB.out.cell (World.block_lt_of_cell? w _ hw105_0)).trans hw105_0)⟩ (fun hHeld => ?_);clear hK K;refine norm_ (a' := ?_) ?_ ?_;rotate_left
       ·
        show Act.put _ (some 4) _ = _
        simp only [Act.put, List.setIfInBounds_toArray, List.set_cons_zero, List.set_cons_succ, i64_w, i32_w];rfl
       refine one_ (i := 8) (N := some 26) #[true, true, true, true, true, true, true, true, true, false, true, false] rfl rfl (one_of HT_.out (by kernel_rfl)) (by decide) (fun K hK => ?_);refine Kd.R_lit_step (Kd.int .i64) _ 3 ?hg (N := 26) ?hd (xs := ([rd l0_0 1, rd l0_0 0] : List Int)) (inner := [.int .i64 (rd l0_0 1), .int .i64 (rd l0_0 0)]) (ok := fun _ => True) (okp := fun _ => True) ?hr ?hp (fun _ hk => hk) trivial (Below.refl _ _) (Nat.le_refl _) (by simp) ?_; (case hd => rfl); (case hg => rfl); (case hr => exact T3_); (case hp => exact (Reps.one (show Kd.M (Kd.int .i64) _ _ _ (rd l0_0 1) [.int .i64 (rd l0_0 1)] from rfl) (Reps.one (show Kd.M (Kd.int .i64) _ _ _ (rd l0_0 0) [.int .i64 (rd l0_0 0)] from rfl) (Reps.none _ _))));intro v107 w15 ho16 hb hg_ hnew_;clear hg_ hnew_
       (first | rw [← Ny106.out] at ho16 | (simp only [Int.reduceToNat] at ho16; rw [← Ny106.out] at ho16))
       have n0_ := Aside0.mk (Kd.R_lower ho16 (below_size T9_));have n1_ := Aside0.mk (blk_below (g := gb101) (o := .cells #[.slice (some ad104) l0_0.length c0_0, .slice A0_1 l0_1.length c0_1] 25 (0, 0)) (B1_ BK101.out) hb);have n2_ := Aside0.mk (blk_below (g := gb102) (o := .cells #[.slice none 0 0, .slice none 0 0] 25 (0, 0)) (B1_ BK102.out) hb);have n3_ := Aside0.mk (blk_below (g := gb109) (o := .cells #[.slice none 0 0, .slice none 0 0] 25 (0, 0)) (B1_ BK109.out) hb);have n4_ := Aside0.mk (below_step T9_ hb);clear BK101;clear BK102;clear BK109;clear HB;have HO108 := n0_;have BK101 := n1_;have BK102 := n2_;have BK109 := n3_;have HB := n4_;clear n0_ n1_ n2_ n3_ n4_;clear hb ho16;obtain ⟨Ao17, co17, eo17⟩ := Kd.R_slice HO108.out
       (first | subst eo17 | (injection eo17 with f1_ f2_ f3_; have f4_ := f1_.symm; have f5_ := f3_.symm; clear f1_ f2_ f3_; subst f4_; subst f5_))
       refine hK.out _ _ ⟨(blk_cell BK101.out 0).trans rfl, (blk_cell BK101.out 1).trans rfl, ((HB.out.cell (World.block_lt_of_cell? w _ hw104_0)).trans hw104_0), ((HB.out.cell (World.block_lt_of_cell? w _ hw105_0)).trans hw105_0)⟩ (fun hHeld => ?_);clear hK K;refine norm_ (a' := ?_) ?_ ?_;rotate_left
       ·
        show Act.put _ (some 26) _ = _
        simp only [Act.put, List.setIfInBounds_toArray, List.set_cons_zero, List.set_cons_succ, i64_w, i32_w];rfl
       refine pure_ (i := 9) (N := some 27) (v := ?_) (a' := ?_) #[true, true, true, true, true, true, true, true, true, true, true, false] rfl rfl (any_of HT_.out (by kernel_rfl)) (fun _ _ _ h => h) (Or.inl ⟨by rfl, ?_⟩) ?_ ?_;rotate_left
       ·
        intro w';go_simp;with_reducible rfl
       rotate_left
       ·
        simp only [Act.put, List.setIfInBounds_toArray, List.set_cons_zero, List.set_cons_succ, i64_w, i32_w];rfl
       exact norm_ (by simp only [putAll, Act.put, List.setIfInBounds_toArray, List.set_cons_zero, List.set_cons_succ]) (hCont (.slice Ao17 y106.length co17, gb109) _ ⟨hHeld, (K1_ HO108), (B1_ BK101.out), (B1_ BK102.out), (B1_ BK109.out), GW109.out, GE109.out, NB101_109.out, NB109_101.out, NB102_109.out, NB109_102.out, T9_⟩)
     rintro ⟨v107, gb109⟩ w18 ⟨hS_, h0_, h1_, h2_, h3_, h4_, h5_, h6_, h7_, h8_, h9_, h10_⟩;have n0_ : Aside0 (Kd.R (Kd.int .i64) 3 w18 w.heap.size (fun _ => True) v107 y106) := ⟨h0_⟩;have n1_ : Aside0 (w18.heap[gb101]? = some (.cells #[.slice (some ad104) l0_0.length c0_0, .slice A0_1 l0_1.length c0_1] 25 (0, 0))) := ⟨h1_⟩;have n2_ : Aside0 (w18.heap[gb102]? = some (.cells #[.slice none 0 0, .slice none 0 0] 25 (0, 0))) := ⟨h2_⟩;have n3_ : Aside0 (w18.heap[gb109]? = some (.cells #[.slice none 0 0, .slice none 0 0] 25 (0, 0))) := ⟨h3_⟩;have n4_ : Aside0 (w.heap.size ≤ gb109) := ⟨h4_⟩;have n5_ : Aside0 (w.heap.size ≤ gb109) := ⟨h5_⟩;have n6_ : Aside0 (gb101 ≠ gb109) := ⟨h6_⟩;have n7_ : Aside0 (gb109 ≠ gb101) := ⟨h7_⟩;have n8_ : Aside0 (gb102 ≠ gb109) := ⟨h8_⟩;have n9_ : Aside0 (gb109 ≠ gb102) := ⟨h9_⟩;have n10_ : Aside0 (Below w.heap.size w w18) := ⟨h10_⟩;clear BK101;clear BK102;clear HB;clear h0_ h1_ h2_ h3_ h4_ h5_ h6_ h7_ h8_ h9_ h10_;have HO108 := n0_;have BK101 := n1_;have BK102 := n2_;have BK109 := n3_;have GW109 := n4_;have GE109 := n5_;have NB101_109 := n6_;have NB109_101 := n7_;have NB102_109 := n8_;have NB109_102 := n9_;have HB := n10_;clear n0_ n1_ n2_ n3_ n4_ n5_ n6_ n7_ n8_ n9_ n10_;have hHeld : w18.cell? ⟨gb101, 0, none⟩ = some (.slice (some ad104) l0_0.length c0_0) ∧ w18.cell? ⟨gb101, 1, none⟩ = some (.slice A0_1 l0_1.length c0_1) ∧ w18.cell? ⟨ad104.block, ad104.off + 1, none⟩ = some (.int .i64 (rd l0_0 1)) ∧ w18.cell? ad104 = some (.int .i64 (rd l0_0 0)) := hS_;obtain ⟨Ao19, co19, eo19⟩ := Kd.R_slice HO108.out
     (first | subst eo19 | (injection eo19 with f1_ f2_ f3_; have f4_ := f1_.symm; have f5_ := f3_.symm; clear f1_ f2_ f3_; subst f4_; subst f5_))
     refine norm_ (a' := ?_) ?_ ?_;rotate_left
     ·
      simp only [putAll, Act.put, List.setIfInBounds_toArray, List.set_cons_zero, List.set_cons_succ];rfl
     refine one_ (i := 11) (N := none) #[true, true, true, true, true, true, true, true, true, true, true, true] rfl rfl (one_of HT_.out (by kernel_rfl)) (by decide) (fun K hK => ?_);have hs20 : w18.cell? ⟨gb109, 0, none⟩ = some (.slice none 0 0) := (blk_cell BK109.out 0).trans rfl;have hfs20 := blk_frozen BK109.out 0;have hns20_0 := NB101_109.out;have hns20_1 := NB102_109.out;have hms20_0 := NB109_101.out;have hms20_1 := NB109_102.out;have hs21 : w18.cell? ⟨gb109, 1, none⟩ = some (.slice none 0 0) := (blk_cell BK109.out 1).trans rfl;have hfs21 := blk_frozen BK109.out 1;have hns21_0 := NB101_109.out;have hns21_1 := NB102_109.out;have hms21_0 := NB109_101.out;have hms21_1 := NB109_102.out;refine skip_ (w1 := ?_) (by rfl) rfl ?_ ?_;rotate_left
     ·
      go_simp;rfl
     refine hK.out _ _ ⟨((cell_far (p := ⟨gb109, _, none⟩) NB101_109.out _).trans (((cell_far (p := ⟨gb109, _, none⟩) NB101_109.out _).trans (hHeld.1)))), ((cell_far (p := ⟨gb109, _, none⟩) NB101_109.out _).trans (((cell_far (p := ⟨gb109, _, none⟩) NB101_109.out _).trans (hHeld.2.1)))), ((cell_far (p := ⟨gb109, _, none⟩) (by first | exact Nat.ne_of_lt (Nat.lt_of_lt_of_le (by have := World.block_lt_of_cell? _ _ hw104_0; first | rwa [add_block] at this | exact this) GW109.out) | (rw [add_block]; exact Nat.ne_of_lt (Nat.lt_of_lt_of_le (by have := World.block_lt_of_cell? _ _ hw104_0; first | rwa [add_block] at this | exact this) GW109.out)) | (show (Addr.add _ _).block ≠ _; rw [add_block]; exact Nat.ne_of_lt (Nat.lt_of_lt_of_le (by have := World.block_lt_of_cell? _ _ hw104_0; first | rwa [add_block] at this | exact this) GW109.out)) | (dsimp only; exact Nat.ne_of_lt (Nat.lt_of_lt_of_le (by have := World.block_lt_of_cell? _ _ hw104_0; first | rwa [add_block] at this | exact this) GW109.out))) _).trans (((cell_far (p := ⟨gb109, _, none⟩) (by first | exact Nat.ne_of_lt (Nat.lt_of_lt_of_le (by have := World.block_lt_of_cell? _ _ hw104_0; first | rwa [add_block] at this | exact this) GW109.out) | (rw [add_block]; exact Nat.ne_of_lt (Nat.lt_of_lt_of_le (by have := World.block_lt_of_cell? _ _ hw104_0; first | rwa [add_block] at this | exact this) GW109.out)) | (show (Addr.add _ _).block ≠ _; rw [add_block]; exact Nat.ne_of_lt (Nat.lt_of_lt_of_le (by have := World.block_lt_of_cell? _ _ hw104_0; first | rwa [add_block] at this | exact this) GW109.out)) | (dsimp only; exact Nat.ne_of_lt (Nat.lt_of_lt_of_le (by have := World.block_lt_of_cell? _ _ hw104_0; first | rwa [add_block] at this | exact this) GW109.out))) _).trans (hHeld.2.2.1)))), ((cell_far (p := ⟨gb109, _, none⟩) (by first | exact Nat.ne_of_lt (Nat.lt_of_lt_of_le (by have := World.block_lt_of_cell? _ _ hw105_0; first | rwa [add_block] at this | exact this) GW109.out) | (rw [add_block]; exact Nat.ne_of_lt (Nat.lt_of_lt_of_le (by have := World.block_lt_of_cell? _ _ hw105_0; first | rwa [add_block] at this | exact this) GW109.out)) | (show (Addr.add _ _).block ≠ _; rw [add_block]; exact Nat.ne_of_lt (Nat.lt_of_lt_of_le (by have := World.block_lt_of_cell? _ _ hw105_0; first | rwa [add_block] at this | exact this) GW109.out)) | (dsimp only; exact Nat.ne_of_lt (Nat.lt_of_lt_of_le (by have := World.block_lt_of_cell? _ _ hw105_0; first | rwa [add_block] at this | exact this) GW109.out))) _).trans (((cell_far (p := ⟨gb109, _, none⟩) (by first | exact Nat.ne_of_lt (Nat.lt_of_lt_of_le (by have := World.block_lt_of_cell? _ _ hw105_0; first | rwa [add_block] at this | exact this) GW109.out) | (rw [add_block]; exact Nat.ne_of_lt (Nat.lt_of_lt_of_le (by have := World.block_lt_of_cell? _ _ hw105_0; first | rwa [add_block] at this | exact this) GW109.out)) | (show (Addr.add _ _).block ≠ _; rw [add_block]; exact Nat.ne_of_lt (Nat.lt_of_lt_of_le (by have := World.block_lt_of_cell? _ _ hw105_0; first | rwa [add_block] at this | exact this) GW109.out)) | (dsimp only; exact Nat.ne_of_lt (Nat.lt_of_lt_of_le (by have := World.block_lt_of_cell? _ _ hw105_0; first | rwa [add_block] at this | exact this) GW109.out))) _).trans (hHeld.2.2.2))))⟩ (fun hHeld => ?_);clear hK K;refine done_ (done_of HT_.out (by kernel_rfl)) ?_;have hnb22 := NB101_109.out;have hnc22 := NB109_101.out;have hcz23_0 := CA_ BK101;have hcz23_1 := CB_ BK101;have hfz23_0 := blk_frozen BK101.out 0;have hfz23_1 := blk_frozen BK101.out 1;have p110 : 0 ≤ (1 : Int) := (by omega);have q110 : 1 < (l0_0.length : Int) := DA_;obtain ⟨ad110, e110, hx110_0⟩ := Kd.at_int HR0_0.out 1 p110 q110;obtain rfl : ad104 = ad110 := (by injection e110)
     (try simp only [show (1 : Int).toNat = 1 from rfl, Nat.reduceMul, Nat.reduceEqDiff, Go.Addr.add, ↓reduceIte] at hx110_0)
     have qi110 : (1 < l0_0.length) = True := eq_true (by omega)
     (try rw [show ((1 : Int)).toNat = 1 from rfl] at hx110_0)
     have hn110_0 : ad104.block ≠ gb109 := Nat.ne_of_lt (Nat.lt_of_lt_of_le (by have := World.block_lt_of_cell? _ _ hx110_0; first | rwa [add_block] at this | exact this) GW109.out);have hn110_1 : ad104.block ≠ gb109 := Nat.ne_of_lt (Nat.lt_of_lt_of_le (by have := World.block_lt_of_cell? _ _ hx110_0; first | rwa [add_block] at this | exact this) GW109.out);replace hx110_0 := (HB.out.cell (World.block_lt_of_cell? w _ hx110_0)).trans hx110_0;replace hx110_0 := (cell_far (p := ⟨gb109, 0, none⟩) (by first | (rw [add_block]; exact hn110_0) | (show (Addr.add _ _).block ≠ _; rw [add_block]; exact hn110_0) | exact hn110_0) (.slice Ao19 y106.length co19)).trans hx110_0;replace hx110_0 := (cell_far (p := ⟨gb109, 1, none⟩) (by first | (rw [add_block]; exact hn110_1) | (show (Addr.add _ _).block ≠ _; rw [add_block]; exact hn110_1) | exact hn110_1) (.slice none 0 0)).trans hx110_0;clear hn110_0;clear hn110_1;replace p110 := eq_true p110;replace q110 := eq_true q110
     try go_wp2
     go_loopg [32] k (fun kq v32 w' => ∃ (x32_1 : Int) (x110001_1 : List ByteArray) (u110001 : Value), v32 = .int .i64 x32_1 ∧ Aside0 (array_Transpose.l0 kq (rd l0_0 1) x32_1 l0_0 l0_1 y106 x110001_1 = some (r1, r2, r3)) ∧ Aside0 (kq ≤ k) ∧ Aside0 (Kd.R (Kd.int .i64) 3 w' w.heap.size (fun _ => True) (.slice Ao19 y106.length co19) y106) ∧ Aside0 (Kd.R Kd.string 9 w' w.heap.size (fun _ => True) u110001 x110001_1) ∧ Aside0 (w'.heap[gb101]? = some (.cells #[(.slice (some ad104) l0_0.length c0_0), (.slice A0_1 l0_1.length c0_1)] 25 (0, 0))) ∧ Aside0 (w'.heap[gb102]? = some (.cells #[(.slice none 0 0), (.slice none 0 0)] 25 (0, 0))) ∧ Aside0 (w'.heap[gb109]? = some (.cells #[(.slice Ao19 y106.length co19), u110001] 25 (0, 0))) ∧ Aside0 (Below w.heap.size w w'))
     case atStart => exact ⟨(0), (([] : List ByteArray)), (.slice none 0 0), S1_, H', ⟨Nat.le_refl _⟩, RW_ HO108, ⟨by first | exact Kd.R_nil _ _ _ _ _ | exact Kd.N_nil _ _ _ _ _ | exact Kd.V_nil _ _ _ _ _ | exact Kd.Q_nil _ _ _ _ _ | exact Kd.S_nil _ _ _ _ _⟩, BW_ BK101, BW_ BK102, ⟨by (with_reducible repeat (first | refine blk_drewN ?_ _ | refine blk_drew ?_ | refine blk_alloc ?_ _)); refine blk_put (cs := #[.slice Ao19 y106.length co19, .slice none 0 0]) ?_ 1 _ rfl; (with_reducible repeat (first | refine blk_drewN ?_ _ | refine blk_drew ?_ | refine blk_alloc ?_ _)); refine blk_put (cs := #[.slice none 0 0, .slice none 0 0]) ?_ 0 _ rfl; (with_reducible repeat (first | refine blk_drewN ?_ _ | refine blk_drew ?_ | refine blk_alloc ?_ _)); exact BK109.out⟩, ⟨T9_⟩⟩
     case round =>
      clear H'
      try clear c1
      try clear p1
      try clear q1
      try clear hx1
      try clear qi1
      try clear c2
      try clear p2
      try clear c3
      try clear c4
      try clear c4b0
      try clear c4b1
      try clear c5
      try clear c5b0
      try clear c5b1
      try clear c6
      try clear c6b0
      try clear c6b1
      try clear c9
      try clear p10
      try clear q10
      try clear hx10
      try clear qi10
      try clear p11
      try clear q11
      try clear hx11
      try clear qi11
      try clear c17
      try clear c22
      try clear hcz10_0
      try clear hcz10_1
      try clear hcz12_0
      try clear hcz12_1
      try clear hcz23_0
      try clear hcz23_1
      try clear hfz10_0
      try clear hfz10_1
      try clear hfz12_0
      try clear hfz12_1
      try clear hfz23_0
      try clear hfz23_1
      try clear hx104_0
      try clear hx105_0
      try clear hx110_0
      try clear p104
      try clear p105
      try clear p110
      try clear q104
      try clear q105
      try clear q110
      obtain ⟨x32_1, x110001_1, u110001, rfl, HA, HK1, HO_110000, HO_110001, BK101, BK102, BK109, HB⟩ := hrel
      cases gk with
      | zero => exact absurd HA.out (by simp [array_Transpose.l0])
      | succ k1 =>
       have H := HA.out;clear HA;simp only [array_Transpose.l0] at H
       by_cases c24 : x32_1 < (rd l0_0 1)
       ·
        rw [if_pos c24] at H;have c24b0 : decide (x32_1 < (rd l0_0 1)) = true := decide_eq_true c24;clear c24
        by_cases c25 : 0 < (l0_0.length : Int)
        ·
         rw [if_pos c25] at H;have c25b0 : decide (0 < (l0_0.length : Int)) = true := decide_eq_true c25;have c25b1 : decide (0 < l0_0.length) = true := decide_eq_true (by omega);clear c25;have H' := Aside0.mk H;clear H;have hnb26 := NB101_102.out;have hnc26 := NB102_101.out;have hnb27 := NB101_109.out;have hnc27 := NB109_101.out;have hcz28_0 := CA_ BK101;have hcz28_1 := CB_ BK101;have hfz28_0 := blk_frozen BK101.out 0;have hfz28_1 := blk_frozen BK101.out 1;have p111 : 0 ≤ (0 : Int) := (by omega);have q111 : 0 < (l0_0.length : Int) := DA_;obtain ⟨ad111, e111, hx111_0⟩ := Kd.at_int HR0_0.out 0 p111 q111;obtain rfl : ad104 = ad111 := (by injection e111);have qi111 : (0 < l0_0.length) = True := eq_true (by omega)
         (try rw [show ((0 : Int)).toNat = 0 from rfl] at hx111_0)
         (try rw [Addr.add_zero'] at hx111_0)
         replace hx111_0 := (HB.out.cell (World.block_lt_of_cell? w _ hx111_0)).trans hx111_0;replace p111 := eq_true p111;replace q111 := eq_true q111
         go_wp2
         go_loopg [39] k1 (fun kq v39 w' => ∃ (x39_2 : Int) (x110001_2 : List ByteArray) (u110001 : Value), v39 = .int .i64 x39_2 ∧ Aside0 (array_Transpose.l1 kq x32_1 (rd l0_0 1) x32_1 (rd l0_0 0) x39_2 l0_0 l0_1 y106 x110001_2 = some (r1, r2, r3)) ∧ Aside0 (kq ≤ k1) ∧ Aside0 (Kd.R (Kd.int .i64) 3 w' w.heap.size (fun _ => True) (.slice Ao19 y106.length co19) y106) ∧ Aside0 (Kd.R Kd.string 9 w' w.heap.size (fun _ => True) u110001 x110001_2) ∧ Aside0 (w'.heap[gb101]? = some (.cells #[(.slice (some ad104) l0_0.length c0_0), (.slice A0_1 l0_1.length c0_1)] 25 (0, 0))) ∧ Aside0 (w'.heap[gb102]? = some (.cells #[(.slice none 0 0), (.slice none 0 0)] 25 (0, 0))) ∧ Aside0 (w'.heap[gb109]? = some (.cells #[(.slice Ao19 y106.length co19), u110001] 25 (0, 0))) ∧ Aside0 (Below w.heap.size w w'))
         case atStart => exact ⟨(0), (x110001_1), (u110001), S1_, H', ⟨Nat.le_refl _⟩, ⟨by (with_reducible repeat (first | apply Kd.R_alloc | apply Kd.R_drewN | apply Kd.R_drew)); exact HO_110000.out⟩, ⟨by (with_reducible repeat (first | apply Kd.R_alloc | apply Kd.R_drewN | apply Kd.R_drew)); exact HO_110001.out⟩, BW_ BK101, BW_ BK102, BW_ BK109, ⟨T9_⟩⟩
         case round =>
          clear H'
          try clear c1
          try clear p1
          try clear q1
          try clear hx1
          try clear qi1
          try clear c2
          try clear p2
          try clear c3
          try clear c4
          try clear c4b0
          try clear c4b1
          try clear c5
          try clear c5b0
          try clear c5b1
          try clear c6
          try clear c6b0
          try clear c6b1
          try clear c9
          try clear p10
          try clear q10
          try clear hx10
          try clear qi10
          try clear p11
          try clear q11
          try clear hx11
          try clear qi11
          try clear c17
          try clear c22
          try clear c24
          try clear c24b0
          try clear c25
          try clear c25b0
          try clear c25b1
          try clear c26
          try clear c27
          try clear hcz10_0
          try clear hcz10_1
          try clear hcz12_0
          try clear hcz12_1
          try clear hcz23_0
          try clear hcz23_1
          try clear hcz28_0
          try clear hcz28_1
          try clear hfz10_0
          try clear hfz10_1
          try clear hfz12_0
          try clear hfz12_1
          try clear hfz23_0
          try clear hfz23_1
          try clear hfz28_0
          try clear hfz28_1
          try clear hx104_0
          try clear hx105_0
          try clear hx110_0
          try clear hx111_0
          try clear p1
          try clear p10
          try clear p104
          try clear p105
          try clear p11
          try clear p110
          try clear p111
          try clear p2
          try clear q1
          try clear q10
          try clear q104
          try clear q105
          try clear q11
          try clear q110
          try clear q111
          obtain ⟨x39_2, x110001_2, u110001, rfl, HA, HK2, HO_110000, HO_110001, BK101, BK102, BK109, HB⟩ := hrel
          cases gk with
          | zero => exact absurd HA.out (by simp [array_Transpose.l1])
          | succ k2 =>
           have H := HA.out;clear HA;simp only [array_Transpose.l1] at H
           by_cases c29 : x39_2 < (rd l0_0 0)
           ·
            rw [if_pos c29] at H;have c29b0 : decide (x39_2 < (rd l0_0 0)) = true := decide_eq_true c29;clear c29
            by_cases c30 : 1 < (l0_0.length : Int)
            ·
             rw [if_pos c30] at H;have c30b0 : decide (1 < (l0_0.length : Int)) = true := decide_eq_true c30;have c30b1 : decide (1 < l0_0.length) = true := decide_eq_true (by omega);clear c30;obtain ⟨ji31, hji31⟩ : ∃ j_ : Int, (wrap64 ((wrap64 (x39_2 * (rd l0_0 1))) + x32_1)) = j_ := ⟨_, rfl⟩
             first | rw [hji31] at H | simp only [hji31] at H
             have hji31w : (IntKind.i64.wrap ((wrap64 (x39_2 * (rd l0_0 1))) + x32_1)) = ji31 := (i64_w _).trans hji31
             by_cases c32 : 0 ≤ (ji31)
             ·
              rw [if_pos c32] at H;have c32b0 : decide (0 ≤ (ji31)) = true := decide_eq_true c32;clear c32
              by_cases c33 : (ji31) < (l0_1.length : Int)
              ·
               rw [if_pos c33] at H;have c33b0 : decide ((ji31) < (l0_1.length : Int)) = true := decide_eq_true c33;clear c33
               by_cases c34 : x110001_2.length < 8796093022208
               ·
                rw [if_pos c34] at H;have LMc34 := Aside0.mk c34;clear c34;obtain ⟨y114, hy114⟩ : ∃ y_ : List ByteArray, y_ = (x110001_2 ++ [rdOf ByteArray.empty l0_1 (ji31)]) := ⟨_, rfl⟩
                replace H : (array_Transpose.l1 k2 x32_1 (rd l0_0 1) x32_1 (rd l0_0 0) (wrap64 (x39_2 + 1)) l0_0 l0_1 y106 y114) = some (r1, r2, r3) := by first | (rw [hy114]; with_reducible exact H) | (have H2_ := (Option.bind_some _ _).symm.trans H; rw [hy114]; with_reducible exact H2_) | (have H2_ := (Option.bind_some _ _).symm.trans H; with_reducible exact H2_) | with_reducible exact H | (rw [hy114]; exact H) | exact H
                have Ny114 := Aside0.mk hy114;clear hy114;have H' := Aside0.mk H;clear H
                try go_wp2
                have n0_ := Aside0.mk (Kd.R_drew HO_110000.out);have n1_ := Aside0.mk (Kd.R_drew HO_110001.out);have n2_ := Aside0.mk (blk_drew BK101.out);have n3_ := Aside0.mk (blk_drew BK102.out);have n4_ := Aside0.mk (blk_drew BK109.out);have n5_ := Aside0.mk (below_drew1 HB.out);clear HO_110000;clear HO_110001;clear BK101;clear BK102;clear BK109;clear HB;have HO_110000 := n0_;have HO_110001 := n1_;have BK101 := n2_;have BK102 := n3_;have BK109 := n4_;have HB := n5_;clear n0_ n1_ n2_ n3_ n4_ n5_;have p112 : 0 ≤ (1 : Int) := (by omega);have q112 : 1 < (l0_0.length : Int) := DA_;obtain ⟨ad112, e112, hx112_0⟩ := Kd.at_int HR0_0.out 1 p112 q112;have hw112_0 := hx112_0
                (try rw [show ((1 : Int)).toNat = 1 from rfl] at hw112_0)
                (try rw [show 1 * 1 = 1 from rfl] at hw112_0)
                (try simp only [Nat.reduceMul, Nat.reduceEqDiff, Go.Addr.add, ↓reduceIte] at hw112_0)
                obtain rfl : ad104 = ad112 := (by injection e112)
                (try simp only [show (1 : Int).toNat = 1 from rfl, Nat.reduceMul, Nat.reduceEqDiff, Go.Addr.add, ↓reduceIte] at hx112_0)
                have qi112 : (1 < l0_0.length) = True := eq_true (by omega)
                (try rw [show ((1 : Int)).toNat = 1 from rfl] at hx112_0)
                replace hx112_0 := (HB.out.cell (World.block_lt_of_cell? w _ hx112_0)).trans hx112_0;replace p112 := eq_true p112;replace q112 := eq_true q112;have p113 : 0 ≤ ((ji31) : Int) := DA_;have q113 : (ji31) < (l0_1.length : Int) := DA_;obtain ⟨ad113, e113, hx113_0⟩ := Kd.at_string HR0_1.out (ji31) p113 q113;have hw113_0 := hx113_0
                cases e113
                replace hx113_0 := (HB.out.cell (World.block_lt_of_cell? w _ hx113_0)).trans hx113_0;replace p113 := eq_true p113;replace q113 := eq_true q113;refine start_ (n := 18) (S := fun w' => w'.cell? ⟨gb109, 0, none⟩ = some (.slice Ao19 y106.length co19) ∧ w'.cell? ⟨gb109, 1, none⟩ = some (u110001) ∧ w'.cell? ⟨gb101, 0, none⟩ = some (.slice (some ad104) l0_0.length c0_0) ∧ w'.cell? ⟨gb101, 1, none⟩ = some (.slice (some ad113) l0_1.length c0_1) ∧ w'.cell? ⟨ad104.block, ad104.off + 1, none⟩ = some (.int .i64 (rd l0_0 1)) ∧ w'.cell? (ad113.add ((ji31)).toNat) = some (.string (rdOf ByteArray.empty l0_1 (ji31)))) (ds := [17]) #[false, false, false, false, false, false, false, false, false, false, false, false, false, false, false, false, false, false] (by kernel_rfl) rfl rfl ⟨(blk_cell BK109.out 0).trans rfl, (blk_cell BK109.out 1).trans rfl, (blk_cell BK101.out 0).trans rfl, (blk_cell BK101.out 1).trans rfl, ((HB.out.cell (World.block_lt_of_cell? w _ hw112_0)).trans hw112_0), ((HB.out.cell (World.block_lt_of_cell? w _ hw113_0)).trans hw113_0)⟩ (fun hHeld => ?_); refine with_tabW array_Transpose.tab12 array_Transpose.bits12 (fun HT_ HW_ => ?_);generalize wr.drew = w35 at HO_110000 HO_110001 BK101 BK102 BK109 HB hx112_0 hx113_0 hHeld ⊢;refine pure_ (i := 0) (N := some 42) (v := ?_) (a' := ?_) #[true, false, false, false, false, false, false, false, false, false, false, false, false, false, false, false, false, false] rfl rfl (any_of HT_.out (by kernel_rfl)) (fun _ _ _ h => h) (Or.inl ⟨by rfl, ?_⟩) ?_ ?_;rotate_left
                ·
                 intro w';go_simp;with_reducible rfl
                rotate_left
                ·
                 simp only [Act.put, List.setIfInBounds_toArray, List.set_cons_zero, List.set_cons_succ, i64_w, i32_w];rfl
                refine pure_ (i := 2) (N := some 44) (v := ?_) (a' := ?_) #[true, false, true, false, false, false, false, false, false, false, false, false, false, false, false, false, false, false] rfl rfl (any_of HT_.out (by kernel_rfl)) (fun _ _ _ h => h) (Or.inl ⟨by rfl, ?_⟩) ?_ ?_;rotate_left
                ·
                 intro w';go_simp;with_reducible rfl
                rotate_left
                ·
                 simp only [Act.put, List.setIfInBounds_toArray, List.set_cons_zero, List.set_cons_succ, i64_w, i32_w];rfl
                refine pure_ (i := 4) (N := some 46) (v := ?_) (a' := ?_) #[true, false, true, false, true, false, false, false, false, false, false, false, false, false, false, false, false, false] rfl rfl (any_of HT_.out (by kernel_rfl)) (fun _ _ _ h => h) (Or.inl ⟨by rfl, ?_⟩) ?_ ?_;rotate_left
                ·
                 intro w';go_simp;with_reducible rfl
                rotate_left
                ·
                 simp only [Act.put, List.setIfInBounds_toArray, List.set_cons_zero, List.set_cons_succ, i64_w, i32_w];rfl
                refine pure_ (i := 5) (N := some 47) (v := ?_) (a' := ?_) #[true, false, true, false, true, true, false, false, false, false, false, false, false, false, false, false, false, false] rfl rfl (any_of HT_.out (by kernel_rfl)) (fun _ _ _ h => h) (Or.inl ⟨by rfl, ?_⟩) ?_ ?_;rotate_left
                ·
                 intro w';go_simp;with_reducible rfl
                rotate_left
                ·
                 simp only [Act.put, List.setIfInBounds_toArray, List.set_cons_zero, List.set_cons_succ, i64_w, i32_w];rfl
                refine pure_ (i := 10) (N := some 52) (v := ?_) (a' := ?_) #[true, false, true, false, true, true, false, false, false, false, true, false, false, false, false, false, false, false] rfl rfl (any_of HT_.out (by kernel_rfl)) (fun _ _ _ h => h) (Or.inl ⟨by rfl, ?_⟩) ?_ ?_;rotate_left
                ·
                 intro w';go_simp;with_reducible rfl
                rotate_left
                ·
                 simp only [Act.put, List.setIfInBounds_toArray, List.set_cons_zero, List.set_cons_succ, i64_w, i32_w];rfl
                refine take_ (i := 1) (N := some 43) (v := ?_) (a' := ?_) #[true, true, true, false, true, true, false, false, false, false, true, false, false, false, false, false, false, false] rfl rfl (take_ofW HT_.out HW_.out (by kernel_rfl)) (fun _ _ _ h => h) (Or.inl ⟨by rfl, ?_⟩) hHeld ?_ ?_;rotate_left
                ·
                 rintro w' ⟨s0, s1, s2, s3, s4, s5⟩;go_simp;with_reducible rfl
                rotate_left
                ·
                 simp only [Act.put, List.setIfInBounds_toArray, List.set_cons_zero, List.set_cons_succ, i64_w, i32_w];rfl
                refine take_ (i := 3) (N := some 45) (v := ?_) (a' := ?_) #[true, true, true, true, true, true, false, false, false, false, true, false, false, false, false, false, false, false] rfl rfl (take_ofW HT_.out HW_.out (by kernel_rfl)) (fun _ _ _ h => h) (Or.inl ⟨by rfl, ?_⟩) hHeld ?_ ?_;rotate_left
                ·
                 rintro w' ⟨s0, s1, s2, s3, s4, s5⟩;go_simp;with_reducible rfl
                rotate_left
                ·
                 simp only [Act.put, List.setIfInBounds_toArray, List.set_cons_zero, List.set_cons_succ, i64_w, i32_w];rfl
                refine take_ (i := 6) (N := some 48) (v := ?_) (a' := ?_) #[true, true, true, true, true, true, true, false, false, false, true, false, false, false, false, false, false, false] rfl rfl (take_ofW HT_.out HW_.out (by kernel_rfl)) (fun _ _ _ h => h) (Or.inl ⟨by rfl, ?_⟩) hHeld ?_ ?_;rotate_left
                ·
                 rintro w' ⟨s0, s1, s2, s3, s4, s5⟩;go_simp;with_reducible rfl
                rotate_left
                ·
                 simp only [Act.put, List.setIfInBounds_toArray, List.set_cons_zero, List.set_cons_succ, i64_w, i32_w];rfl
                refine pure_ (i := 7) (N := some 49) (v := ?_) (a' := ?_) #[true, true, true, true, true, true, true, true, false, false, true, false, false, false, false, false, false, false] rfl rfl (any_of HT_.out (by kernel_rfl)) (fun _ _ _ h => h) (Or.inl ⟨by rfl, ?_⟩) ?_ ?_;rotate_left
                ·
                 intro w';go_simp;with_reducible rfl
                rotate_left
                ·
                 simp only [Act.put, List.setIfInBounds_toArray, List.set_cons_zero, List.set_cons_succ, i64_w, i32_w];rfl
                refine take_ (i := 8) (N := some 50) (v := ?_) (a' := ?_) #[true, true, true, true, true, true, true, true, true, false, true, false, false, false, false, false, false, false] rfl rfl (take_ofW HT_.out HW_.out (by kernel_rfl)) (fun _ _ _ h => h) (Or.inl ⟨by rfl, ?_⟩) hHeld ?_ ?_;rotate_left
                ·
                 rintro w' ⟨s0, s1, s2, s3, s4, s5⟩;go_simp;with_reducible rfl
                rotate_left
                ·
                 simp only [Act.put, List.setIfInBounds_toArray, List.set_cons_zero, List.set_cons_succ, i64_w, i32_w];rfl
                refine pure_ (i := 9) (N := some 51) (v := ?_) (a' := ?_) #[true, true, true, true, true, true, true, true, true, true, true, false, false, false, false, false, false, false] rfl rfl (any_of HT_.out (by kernel_rfl)) (fun _ _ _ h => h) (Or.inl ⟨by rfl, ?_⟩) ?_ ?_;rotate_left
                ·
                 intro w';go_simp;with_reducible rfl
                rotate_left
                ·
                 simp only [Act.put, List.setIfInBounds_toArray, List.set_cons_zero, List.set_cons_succ, i64_w, i32_w];rfl
                refine pure_ (i := 11) (N := some 53) (v := ?_) (a' := ?_) #[true, true, true, true, true, true, true, true, true, true, true, true, false, false, false, false, false, false] rfl rfl (any_of HT_.out (by kernel_rfl)) (fun _ _ _ h => h) (Or.inl ⟨by rfl, ?_⟩) ?_ ?_;rotate_left
                ·
                 intro w';go_simp;with_reducible rfl
                rotate_left
                ·
                 simp only [Act.put, List.setIfInBounds_toArray, List.set_cons_zero, List.set_cons_succ, i64_w, i32_w];rfl
                refine pure_ (i := 12) (N := some 54) (v := ?_) (a' := ?_) #[true, true, true, true, true, true, true, true, true, true, true, true, true, false, false, false, false, false] rfl rfl (any_of HT_.out (by kernel_rfl)) (fun _ _ _ h => h) (Or.inl ⟨by rfl, ?_⟩) ?_ ?_;rotate_left
                ·
                 intro w';go_simp;with_reducible rfl
                rotate_left
                ·
                 simp only [Act.put, List.setIfInBounds_toArray, List.set_cons_zero, List.set_cons_succ, i64_w, i32_w];rfl
                refine take_ (i := 13) (N := some 55) (v := ?_) (a' := ?_) #[true, true, true, true, true, true, true, true, true, true, true, true, true, true, false, false, false, false] rfl rfl (take_ofW HT_.out HW_.out (by kernel_rfl)) (fun _ _ _ h => h) (Or.inl ⟨by rfl, ?_⟩) hHeld ?_ ?_;rotate_left
                ·
                 rintro w' ⟨s0, s1, s2, s3, s4, s5⟩;go_simp;with_reducible rfl
                rotate_left
                ·
                 simp only [Act.put, List.setIfInBounds_toArray, List.set_cons_zero, List.set_cons_succ, i64_w, i32_w];rfl
                refine one_ (i := 14) (N := some 56) #[true, true, true, true, true, true, true, true, true, true, true, true, true, true, true, false, false, false] rfl rfl (one_of HT_.out (by kernel_rfl)) (by decide) (fun K hK => ?_);refine value_ (w1 := ?_) (v := ?_) (by rfl) rfl ?_ ?_;rotate_left 2
                ·
                 go_simp;constructor
                 ·
                  rfl
                 ·
                  rfl
                refine hK.out _ _ ⟨(blk_cell (blk_alloc BK109.out _) 0).trans rfl, (blk_cell (blk_alloc BK109.out _) 1).trans rfl, (blk_cell (blk_alloc BK101.out _) 0).trans rfl, (blk_cell (blk_alloc BK101.out _) 1).trans rfl, (World.cell?_alloc_lt _ _ _ (World.block_lt_of_cell? _ _ (((HB.out.cell (World.block_lt_of_cell? w _ hw112_0)).trans hw112_0)))).trans (((HB.out.cell (World.block_lt_of_cell? w _ hw112_0)).trans hw112_0)), (World.cell?_alloc_lt _ _ _ (World.block_lt_of_cell? _ _ (((HB.out.cell (World.block_lt_of_cell? w _ hw113_0)).trans hw113_0)))).trans (((HB.out.cell (World.block_lt_of_cell? w _ hw113_0)).trans hw113_0))⟩ (fun hHeld => ?_);clear hK K;refine norm_ (a' := ?_) ?_ ?_;rotate_left
                ·
                 show Act.put _ (some 56) _ = _
                 simp only [Act.put, List.setIfInBounds_toArray, List.set_cons_zero, List.set_cons_succ, i64_w, i32_w];rfl
                refine one_ (i := 15) (N := some 57) #[true, true, true, true, true, true, true, true, true, true, true, true, true, true, true, true, false, false] rfl rfl (one_of HT_.out (by kernel_rfl)) (by decide) (fun K hK => ?_);refine Kd.R_append_step Kd.string (w0 := w) w.heap.size (by rfl) (.tmp 43) (.tmp 56) 23 9 (.string ⟨#[]⟩) 16 rfl Tryz.underlying23 info9 rfl (by decide) (by omega) u110001 x110001_2 (rdOf ByteArray.empty l0_1 (ji31)) [.string (rdOf ByteArray.empty l0_1 (ji31))] (fun _ => True) (fun _ => False) rfl rfl ?aP (fun _ hk => hk.elim) ?aF ?aO ?aB ?aS ?aL ?_
                (case aP => exact rfl)
                (case aB => exact T9_)
                (case aF => exact (fun _ _ => trivial))
                (case aO => exact (K1_ HO_110001))
                (case aS => exact (below_size T9_))
                (case aL => have := LMc34.out; omega)
                intro v115 w36 ho hb hg hat;rw [← Ny114.out] at ho;have n0_ := Aside0.mk (Kd.R_over' (K1_ HO_110000) (Kd.R_typed (K1_ HO_110001)) (by decide) hg);have n1_ := Aside0.mk (blk_grown (g := gb101) (o := .cells #[.slice (some ad104) l0_0.length c0_0, .slice (some ad113) l0_1.length c0_1] 25 (0, 0)) (B1_ BK101.out) hg (Kd.R_ne HO_110001.out BK101.out (by decide)));have n2_ := Aside0.mk (blk_grown (g := gb102) (o := .cells #[.slice none 0 0, .slice none 0 0] 25 (0, 0)) (B1_ BK102.out) hg (Kd.R_ne HO_110001.out BK102.out (by decide)));have n3_ := Aside0.mk (blk_grown (g := gb109) (o := .cells #[.slice Ao19 y106.length co19, u110001] 25 (0, 0)) (B1_ BK109.out) hg (Kd.R_ne HO_110001.out BK109.out (by decide)));have n4_ := Aside0.mk (hb);have n5_ := Aside0.mk (ho);clear HO_110000;clear BK101;clear BK102;clear BK109;clear HB;clear HO_110001;have HO_110000 := n0_;have BK101 := n1_;have BK102 := n2_;have BK109 := n3_;have HB := n4_;have HO116 := n5_;clear n0_ n1_ n2_ n3_ n4_ n5_;clear ho hb hg hat;obtain ⟨Ao37, co37, eo37⟩ := Kd.R_slice HO116.out
                (first | subst eo37 | (injection eo37 with f1_ f2_ f3_; have f4_ := f1_.symm; have f5_ := f3_.symm; clear f1_ f2_ f3_; subst f4_; subst f5_))
                refine hK.out _ _ ⟨(blk_cell BK109.out 0).trans rfl, (blk_cell BK109.out 1).trans rfl, (blk_cell BK101.out 0).trans rfl, (blk_cell BK101.out 1).trans rfl, ((HB.out.cell (World.block_lt_of_cell? w _ hw112_0)).trans hw112_0), ((HB.out.cell (World.block_lt_of_cell? w _ hw113_0)).trans hw113_0)⟩ (fun hHeld => ?_);clear hK K;refine norm_ (a' := ?_) ?_ ?_;rotate_left
                ·
                 show Act.put _ (some 57) _ = _
                 simp only [Act.put, List.setIfInBounds_toArray, List.set_cons_zero, List.set_cons_succ, i64_w, i32_w];rfl
                refine pure_ (i := 16) (N := some 58) (v := ?_) (a' := ?_) #[true, true, true, true, true, true, true, true, true, true, true, true, true, true, true, true, true, false] rfl rfl (any_of HT_.out (by kernel_rfl)) (fun _ _ _ h => h) (Or.inl ⟨by rfl, ?_⟩) ?_ ?_;rotate_left
                ·
                 intro w';go_simp;with_reducible rfl
                rotate_left
                ·
                 simp only [Act.put, List.setIfInBounds_toArray, List.set_cons_zero, List.set_cons_succ, i64_w, i32_w];rfl
                refine last_ (i := 17) (N := none) #[true, true, true, true, true, true, true, true, true, true, true, true, true, true, true, true, true, true] rfl rfl (one_of HT_.out (by kernel_rfl)) (by decide) (fun K hK => ?_);have hs38 : w36.cell? ⟨gb109, 1, none⟩ = some (u110001) := (blk_cell BK109.out 1).trans rfl;have hfs38 := blk_frozen BK109.out 1;have hns38_0 := NB101_109.out;have hns38_1 := NB102_109.out;have hms38_0 := NB109_101.out;have hms38_1 := NB109_102.out;refine skip_ (w1 := ?_) (by rfl) rfl ?_ ?_;rotate_left
                ·
                 go_simp;rfl
                refine hK.out _ _ ?_;clear hK K;refine done_ (done_of HT_.out (by kernel_rfl)) ?_
                try go_wp2
                go_roundg k2
                case measure => have := HK1.out; have := HK2.out; omega
                case rel => exact ⟨(wrap64 (x39_2 + 1)), (y114), (.slice Ao37 y114.length co37), S1_, H', ⟨by have := HK1.out; have := HK2.out; omega⟩, RW_ HO_110000, RW_ HO116, BW_ BK101, BW_ BK102, ⟨by (with_reducible repeat (first | refine blk_drewN ?_ _ | refine blk_drew ?_ | refine blk_alloc ?_ _)); refine blk_put (cs := #[.slice Ao19 y106.length co19, u110001]) ?_ 1 _ rfl; (with_reducible repeat (first | refine blk_drewN ?_ _ | refine blk_drew ?_ | refine blk_alloc ?_ _)); exact BK109.out⟩, ⟨T9_⟩⟩
               ·
                rw [if_neg c34] at H;exact absurd H (by simp)
              ·
               rw [if_neg c33] at H;exact absurd H (by simp)
             ·
              rw [if_neg c32] at H;exact absurd H (by simp)
            ·
             rw [if_neg c30] at H;exact absurd H (by simp)
           ·
            rw [if_neg c29] at H;have c29b0 : decide (x39_2 < (rd l0_0 0)) = false := decide_eq_false c29;clear c29;have H' := Aside0.mk H;clear H
            go_wp2
            go_roundg k2
            case measure => have := HK1.out; have := HK2.out; omega
            case rel => exact ⟨(wrap64 (x32_1 + 1)), (x110001_2), (u110001), S1_, H', ⟨by have := HK1.out; have := HK2.out; omega⟩, ⟨by (with_reducible repeat (first | apply Kd.R_alloc | apply Kd.R_drewN | apply Kd.R_drew)); exact HO_110000.out⟩, ⟨by (with_reducible repeat (first | apply Kd.R_alloc | apply Kd.R_drewN | apply Kd.R_drew)); exact HO_110001.out⟩, BW_ BK101, BW_ BK102, BW_ BK109, ⟨T9_⟩⟩
        ·
         rw [if_neg c25] at H;exact absurd H (by simp)
       ·
        rw [if_neg c24] at H;have c24b0 : decide (x32_1 < (rd l0_0 1)) = false := decide_eq_false c24;clear c24;simp only [Option.some.injEq, Prod.mk.injEq] at H;obtain ⟨rfl, rfl, rfl⟩ := H;have hnb39 := NB109_101.out;have hnc39 := NB101_109.out;have hnb40 := NB109_102.out;have hnc40 := NB102_109.out;have hcz41_0 : wr.cell? ⟨gb109, 0, none⟩ = some (.slice Ao19 y106.length co19) := (blk_cell BK109.out 0).trans rfl;have hcz41_1 : wr.cell? ⟨gb109, 1, none⟩ = some (u110001) := (blk_cell BK109.out 1).trans rfl;have hfz41_0 := blk_frozen BK109.out 0;have hfz41_1 := blk_frozen BK109.out 1;have hnb42 := NB102_101.out;have hnc42 := NB101_102.out;have hcz43_0 : wr.cell? ⟨gb102, 0, none⟩ = some (.slice none 0 0) := (blk_cell BK102.out 0).trans rfl;have hcz43_1 : wr.cell? ⟨gb102, 1, none⟩ = some (.slice none 0 0) := (blk_cell BK102.out 1).trans rfl;have hfz43_0 := blk_frozen BK102.out 0;have hfz43_1 := blk_frozen BK102.out 1;obtain ⟨Ao44, co44, eo44⟩ := Kd.R_slice HO_110001.out;subst eo44
        go_wp2
        refine bodyPost_ret (results_ct rfl _ _ gb102 25 #[.slice Ao19 y106.length co19, .slice Ao44 x110001_1.length co44] (0, 0) _ rfl (by (with_reducible repeat (first | refine blk_drewN ?_ _ | refine blk_drew ?_ | refine blk_alloc ?_ _)); refine blk_put (cs := #[.slice Ao19 y106.length co19, .slice none 0 0]) ?_ 1 _ rfl; (with_reducible repeat (first | refine blk_drewN ?_ _ | refine blk_drew ?_ | refine blk_alloc ?_ _)); refine blk_put (cs := #[.slice none 0 0, .slice none 0 0]) ?_ 0 _ rfl; (with_reducible repeat (first | refine blk_drewN ?_ _ | refine blk_drew ?_ | refine blk_alloc ?_ _)); exact BK102.out) Tryz.underlying25 rfl (by kernel_rfl)) rfl ?_;exact ⟨_, _, by first | rfl | (simp [errW_none, errW_some] <;> rfl) | (simp [*, errW_none, errW_some] <;> rfl), by (with_reducible repeat (first | apply Kd.R_alloc | apply Kd.R_drewN | apply Kd.R_drew)); exact Kd.R_mono (Kd.R_far (p := ⟨gb102, 1, none⟩) (Kd.R_far (p := ⟨gb102, 0, none⟩) (Kd.R_types HO_110000.out BK102.out (by decide)) (fun _ hk => hk.2) (.slice Ao19 y106.length co19)) (fun _ hk => hk.2) (.slice Ao44 x110001_1.length co44)) (fun _ hk => trivial), by (with_reducible repeat (first | apply Kd.R_alloc | apply Kd.R_drewN | apply Kd.R_drew)); exact Kd.R_mono (Kd.R_far (p := ⟨gb102, 1, none⟩) (Kd.R_far (p := ⟨gb102, 0, none⟩) (Kd.R_types HO_110001.out BK102.out (by decide)) (fun _ hk => hk.2) (.slice Ao19 y106.length co19)) (fun _ hk => hk.2) (.slice Ao44 x110001_1.length co44)) (fun _ hk => trivial), T9_⟩
    ·
     rw [if_neg c6] at H;exact absurd H (by simp)
   ·
    rw [if_neg c5] at H;exact absurd H (by simp)
  ·
   rw [if_neg c4] at H;have c4b0 : ((l0_0.length : Int) == 2) = false := beq_eq_false_iff_ne.mpr c4;have c4b1 : ((l0_0.length : Int) != 2) = true := bne_iff_ne.mpr c4;simp only [Option.some.injEq, Prod.mk.injEq] at H;obtain ⟨rfl, rfl, rfl⟩ := H;go_enter Tryz.func17, Tryz.ntmps17
   go_wp2_with (first | ((with_reducible refine gate_dst (N := 1) rfl ?_); refine box_event ?hg (N := 1) ?hd (cs := #[.slice A0_0 l0_0.length c0_0, .slice A0_1 l0_1.length c0_1]) (t := 25) ?hr ?_; (case hd => rfl); (case hg => rfl); (case hr => exact T3_); intro gb101 hg w45 hbox hb; have BK101 := Aside0.mk (hbox); have GW101 := GE_ hg; have GE101 := GE_ hg; replace HB := Aside0.mk (below_step T1_ hb); clear hb hbox hg) | ((with_reducible refine gate_dst (N := 2) rfl ?_); refine box_event ?hg (N := 2) ?hd (cs := #[.slice none 0 0, .slice none 0 0]) (t := 25) ?hr ?_; (case hd => rfl); (case hg => rfl); (case hr => exact T3_); intro gb102 hg w46 hbox hb; have BK102 := Aside0.mk (hbox); have GW102 := GE_ hg; have GE102 := GE_ hg; replace HB := Aside0.mk (below_step T9_ hb); have NB101_102 := NB_ BK101 hg; have NB102_101 := NC_ BK101 hg; replace BK101 := BF_ BK101 hb; clear hb hbox hg; have hnb47 := NB101_102.out; have hnc47 := NB102_101.out; have hcz48_0 := CA_ BK101; have hcz48_1 := CB_ BK101; have hfz48_0 := blk_frozen BK101.out 0; have hfz48_1 := blk_frozen BK101.out 1) | ((with_reducible refine gate_callee (f := 29) rfl ?_); refine goesL_ (some 9) rfl rfl Tryz.func29 (by kernel_rfl) rfl #[.agg #[.slice A0_0 l0_0.length c0_0, .slice A0_1 l0_1.length c0_1]] rfl T2_ ?_; (with_reducible refine (tensor_Right.calls _ _ l0_0 _ _ l0_1 true _ (Err.Gs.below HGs.out T9_) ?side1 ?side2 ?side3 ?side4 A2.out).mono ?_); (case side1 => exact C1_ (Kd.C_below HR0_0.out HB.out)); (case side2 => exact HC0_0.out); (case side3 => exact C1_ (Kd.C_below HR0_1.out HB.out)); (case side4 => exact HC0_1.out); rintro e w49 ⟨rfl, hb⟩; refine ⟨_, rfl, ?_⟩; replace BK101 := BF_ BK101 hb; replace BK102 := BF_ BK102 hb; replace HB := Aside0.mk (below_step T9_ hb); clear hb; have hcz50_0 := CA_ BK101; have hcz50_1 := CB_ BK101; have hfz50_0 := blk_frozen BK101.out 0; have hfz50_1 := blk_frozen BK101.out 1; have hcz51_0 : w49.cell? ⟨gb102, 0, none⟩ = some (.slice none 0 0) := (blk_cell BK102.out 0).trans rfl; have hcz51_1 : w49.cell? ⟨gb102, 1, none⟩ = some (.slice none 0 0) := (blk_cell BK102.out 1).trans rfl; have hfz51_0 := blk_frozen BK102.out 0; have hfz51_1 := blk_frozen BK102.out 1))
   refine bodyPost_ret (results_ct rfl _ _ gb102 25 #[.slice none 0 0, .slice none 0 0] (0, 0) _ rfl (by (with_reducible repeat (first | refine blk_drewN ?_ _ | refine blk_drew ?_ | refine blk_alloc ?_ _)); refine blk_put (cs := #[.slice none 0 0, .slice none 0 0]) ?_ 1 _ rfl; (with_reducible repeat (first | refine blk_drewN ?_ _ | refine blk_drew ?_ | refine blk_alloc ?_ _)); refine blk_put (cs := #[.slice none 0 0, .slice none 0 0]) ?_ 0 _ rfl; (with_reducible repeat (first | refine blk_drewN ?_ _ | refine blk_drew ?_ | refine blk_alloc ?_ _)); exact BK102.out) Tryz.underlying25 rfl (by kernel_rfl)) rfl ?_;exact ⟨_, _, by first | rfl | (simp [errW_none, errW_some] <;> rfl) | (simp [*, errW_none, errW_some] <;> rfl), by first | exact Kd.R_nil _ _ _ _ _ | exact Kd.N_nil _ _ _ _ _ | exact Kd.V_nil _ _ _ _ _ | exact Kd.Q_nil _ _ _ _ _ | exact Kd.S_nil _ _ _ _ _, by first | exact Kd.R_nil _ _ _ _ _ | exact Kd.N_nil _ _ _ _ _ | exact Kd.V_nil _ _ _ _ _ | exact Kd.Q_nil _ _ _ _ _ | exact Kd.S_nil _ _ _ _ _, T9_⟩
 ·
  replace c3 := Bool.eq_false_iff.mpr c3;subst c3;rw [if_neg (show ¬ (false = true) by decide)] at H;simp only [Option.some.injEq, Prod.mk.injEq] at H;obtain ⟨rfl, rfl, rfl⟩ := H;go_enter Tryz.func17, Tryz.ntmps17
  go_wp2_with (first | ((with_reducible refine gate_dst (N := 1) rfl ?_); refine box_event ?hg (N := 1) ?hd (cs := #[.slice A0_0 l0_0.length c0_0, .slice A0_1 l0_1.length c0_1]) (t := 25) ?hr ?_; (case hd => rfl); (case hg => rfl); (case hr => exact T3_); intro gb101 hg w52 hbox hb; have BK101 := Aside0.mk (hbox); have GW101 := GE_ hg; have GE101 := GE_ hg; replace HB := Aside0.mk (below_step T1_ hb); clear hb hbox hg) | ((with_reducible refine gate_dst (N := 2) rfl ?_); refine box_event ?hg (N := 2) ?hd (cs := #[.slice none 0 0, .slice none 0 0]) (t := 25) ?hr ?_; (case hd => rfl); (case hg => rfl); (case hr => exact T3_); intro gb102 hg w53 hbox hb; have BK102 := Aside0.mk (hbox); have GW102 := GE_ hg; have GE102 := GE_ hg; replace HB := Aside0.mk (below_step T9_ hb); have NB101_102 := NB_ BK101 hg; have NB102_101 := NC_ BK101 hg; replace BK101 := BF_ BK101 hb; clear hb hbox hg; have hnb54 := NB101_102.out; have hnc54 := NB102_101.out; have hcz55_0 := CA_ BK101; have hcz55_1 := CB_ BK101; have hfz55_0 := blk_frozen BK101.out 0; have hfz55_1 := blk_frozen BK101.out 1) | ((with_reducible refine gate_callee (f := 29) rfl ?_); refine goesL_ (some 9) rfl rfl Tryz.func29 (by kernel_rfl) rfl #[.agg #[.slice A0_0 l0_0.length c0_0, .slice A0_1 l0_1.length c0_1]] rfl T2_ ?_; (with_reducible refine (tensor_Right.calls _ _ l0_0 _ _ l0_1 false _ (Err.Gs.below HGs.out T9_) ?side1 ?side2 ?side3 ?side4 A2.out).mono ?_); (case side1 => exact C1_ (Kd.C_below HR0_0.out HB.out)); (case side2 => exact HC0_0.out); (case side3 => exact C1_ (Kd.C_below HR0_1.out HB.out)); (case side4 => exact HC0_1.out); rintro e w56 ⟨rfl, hb⟩; refine ⟨_, rfl, ?_⟩; replace BK101 := BF_ BK101 hb; replace BK102 := BF_ BK102 hb; replace HB := Aside0.mk (below_step T9_ hb); clear hb; have hcz57_0 : w56.cell? ⟨gb102, 0, none⟩ = some (.slice none 0 0) := (blk_cell BK102.out 0).trans rfl; have hcz57_1 : w56.cell? ⟨gb102, 1, none⟩ = some (.slice none 0 0) := (blk_cell BK102.out 1).trans rfl; have hfz57_0 := blk_frozen BK102.out 0; have hfz57_1 := blk_frozen BK102.out 1))
  refine bodyPost_ret (results_ct rfl _ _ gb102 25 #[.slice none 0 0, .slice none 0 0] (0, 0) _ rfl (by (with_reducible repeat (first | refine blk_drewN ?_ _ | refine blk_drew ?_ | refine blk_alloc ?_ _)); refine blk_put (cs := #[.slice none 0 0, .slice none 0 0]) ?_ 1 _ rfl; (with_reducible repeat (first | refine blk_drewN ?_ _ | refine blk_drew ?_ | refine blk_alloc ?_ _)); refine blk_put (cs := #[.slice none 0 0, .slice none 0 0]) ?_ 0 _ rfl; (with_reducible repeat (first | refine blk_drewN ?_ _ | refine blk_drew ?_ | refine blk_alloc ?_ _)); exact BK102.out) Tryz.underlying25 rfl (by kernel_rfl)) rfl ?_;exact ⟨_, _, by first | rfl | (simp [errW_none, errW_some] <;> rfl) | (simp [*, errW_none, errW_some] <;> rfl), by first | exact Kd.R_nil _ _ _ _ _ | exact Kd.N_nil _ _ _ _ _ | exact Kd.V_nil _ _ _ _ _ | exact Kd.Q_nil _ _ _ _ _ | exact Kd.S_nil _ _ _ _ _, by first | exact Kd.R_nil _ _ _ _ _ | exact Kd.N_nil _ _ _ _ _ | exact Kd.V_nil _ _ _ _ _ | exact Kd.Q_nil _ _ _ _ _ | exact Kd.S_nil _ _ _ _ _, T9_⟩
end Go.Proofs.YtmmonhgfnmeieaaGreatDoor.PT
