-- by wip/tool/mine.py of this repo (the kit's printer with given contracts)
import Derived.Test.YtmmonhgfnmeieaaGreatDoorTenT
namespace Go.Proofs.YtmmonhgfnmeieaaGreatDoor.PM
open Go.RowKit Go.ZPWords Go.ZPLast Go.ZPMore
attribute [local go_sem] max2_int min2_int max_two min_two max_three min_three max_four min_four   -- for this text's walks alone
set_option linter.unusedVariables false
set_option linter.unusedSimpArgs false
set_option maxHeartbeats 8000000
set_option maxRecDepth 100000
def errW : Option Int → Value
 | none => .nilIface
 | some c => .iface 0 (.int .i64 c)
theorem errW_none : errW none = .nilIface := rfl
theorem errW_some (c : Int) : errW (some c) = .iface 0 (.int .i64 c) := rfl
theorem info3 : (Tryz.prog.info? 3).map (fun i => (i.zero, i.size, i.bytes)) = some (some (.int .i64 0), 1, 8) := by kernel_rfl
theorem info9 : (Tryz.prog.info? 9).map (fun i => (i.zero, i.size, i.bytes)) = some (some (.string ⟨#[]⟩), 1, 16) := by kernel_rfl
/-! ### rat_Add: function 25 -/
noncomputable def rat_Add.f (a0 : ByteArray) (a1 : ByteArray) : Option (ByteArray × Int) := if a0.size ≤ 40000000000 ∧ a1.size ≤ 40000000000 then some (Err.rAdd a0 a1) else none
theorem rat_Add.calls (a0 : ByteArray) (a1 : ByteArray) (r1 : ByteArray) (r2 : Int) (w : World) (hG : Err.Gs w) (h : rat_Add.f a0 a1 = some (r1, r2)) :
  Calls Tryz.prog 25 #[.string a0, .string a1] w fun e w' => e = .returned (.tuple #[.string r1, .int .i64 r2]) ∧ Below w.heap.size w w' := by
 unfold rat_Add.f at h
 by_cases c : a0.size ≤ 40000000000 ∧ a1.size ≤ 40000000000
 ·
  rw [if_pos c] at h;injection h with h;have := Err.add_calls a0 a1 c.1 c.2 w hG;rw [h] at this;exact this
 ·
  rw [if_neg c] at h
  cases h
theorem rat_Add.of (a b : ByteArray) (ha : a.size ≤ 40000000000) (hb : b.size ≤ 40000000000) : rat_Add.f a b = some (Err.rAdd a b) := by rw [rat_Add.f, if_pos ⟨ha, hb⟩]
theorem rat_Add.rt {x y : Rat} (hx : Err.Fr x) (hy : Err.Fr y) : rat_Add.f (Err.rt x) (Err.rt y) = some (Err.rt (x + y), 0) := by
 rw [rat_Add.of _ _ hx.size hy.size, Err.rAdd, Err.rv_rt, Err.rv_rt]
/-! ### tensor_Right: function 29 -/
open Classical in
noncomputable def tensor_Right.f (l0_0 : List Int) (l0_1 : List ByteArray) : Option Bool := if Ten.Sm l0_0 l0_1 then some (Ten.tRight ⟨l0_0, l0_1⟩) else none
theorem tensor_Right.calls (A0_0 : Option Addr) (c0_0 : Nat) (l0_0 : List Int) (A0_1 : Option Addr) (c0_1 : Nat) (l0_1 : List ByteArray) (r : Bool) (w : World) (hG : Err.Gs w) (hr0_0 : Kd.C (Kd.int .i64) w A0_0 l0_0.length l0_0) (hc0_0 : l0_0.length ≤ c0_0) (hr0_1 : Kd.C Kd.string w A0_1 l0_1.length l0_1) (hc0_1 : l0_1.length ≤ c0_1) (h : tensor_Right.f l0_0 l0_1 = some r) :
  Calls Tryz.prog 29 #[.agg #[.slice A0_0 l0_0.length c0_0, .slice A0_1 l0_1.length c0_1]] w fun e w' => e = .returned (.bool r) ∧ Below w.heap.size w w' := by
 unfold tensor_Right.f at h
 split at h
 ·
  rename_i hl
  injection h with h;subst h;exact Ten.tright_calls A0_0 c0_0 A0_1 c0_1 ⟨l0_0, l0_1⟩ w hG hr0_0 hc0_0 hr0_1 hl.1 hl.2.1 hl.big
 ·
  cases h
theorem tensor_Right.of (s : List Int) (d : List ByteArray) (h : Ten.Sm s d) : tensor_Right.f s d = some (Ten.tRight ⟨s, d⟩) := by rw [tensor_Right.f, if_pos h]
/-! ### shape_Right: function 30 -/
noncomputable def shape_Right.f (l0 : List Int) : Option Bool := if l0.length ≤ 1000 then some (Ten.shOk l0) else none
theorem shape_Right.calls (A0 : Option Addr) (c0 : Nat) (l0 : List Int) (r : Bool) (w : World) (hr0 : Kd.C (Kd.int .i64) w A0 l0.length l0) (hc0 : l0.length ≤ c0) (h : shape_Right.f l0 = some r) :
  Calls Tryz.prog 30 #[.slice A0 l0.length c0] w fun e w' => e = .returned (.bool r) ∧ Below w.heap.size w w' := by
 unfold shape_Right.f at h
 split at h
 ·
  rename_i hl
  injection h with h;subst h
  exact (Ten.shRight_q A0 c0 l0 w hr0 hc0 hl).mono fun e w' hh => ⟨hh.1, hh.2.below⟩
 ·
  cases h
theorem shape_Right.of (s : List Int) (h : s.length ≤ 1000) : shape_Right.f s = some (Ten.shOk s) := by rw [shape_Right.f, if_pos h]
/-! ### rat_Mul: function 34 -/
noncomputable def rat_Mul.f (a0 : ByteArray) (a1 : ByteArray) : Option (ByteArray × Int) := if a0.size ≤ 40000000000 ∧ a1.size ≤ 40000000000 then some (Err.rMul a0 a1) else none
theorem rat_Mul.calls (a0 : ByteArray) (a1 : ByteArray) (r1 : ByteArray) (r2 : Int) (w : World) (hG : Err.Gs w) (h : rat_Mul.f a0 a1 = some (r1, r2)) :
  Calls Tryz.prog 34 #[.string a0, .string a1] w fun e w' => e = .returned (.tuple #[.string r1, .int .i64 r2]) ∧ Below w.heap.size w w' := by
 unfold rat_Mul.f at h
 by_cases c : a0.size ≤ 40000000000 ∧ a1.size ≤ 40000000000
 ·
  rw [if_pos c] at h;injection h with h;have := Err.mul_calls a0 a1 c.1 c.2 w hG;rw [h] at this;exact this
 ·
  rw [if_neg c] at h
  cases h
theorem rat_Mul.of (a b : ByteArray) (ha : a.size ≤ 40000000000) (hb : b.size ≤ 40000000000) : rat_Mul.f a b = some (Err.rMul a b) := by rw [rat_Mul.f, if_pos ⟨ha, hb⟩]
theorem rat_Mul.rt {x y : Rat} (hx : Err.Fr x) (hy : Err.Fr y) : rat_Mul.f (Err.rt x) (Err.rt y) = some (Err.rt (x * y), 0) := by
 rw [rat_Mul.of _ _ hx.size hy.size, Err.rMul, Err.rv_rt, Err.rv_rt]
/-! ### array_MatMul: function 16 -/
mutual
noncomputable def array_MatMul.j0 : Nat → Bool → List Int → List ByteArray → List Int → List ByteArray → Option (List Int × List ByteArray × Int)
 | 0, _, _, _, _, _ => none
 | k + 1, x23, x102000, x102001, x103000, x103001 => if x23 = true then (some (([] : List Int), ([] : List ByteArray), 1)) else (if (x102000.length : Int) = 2 then (if (x103000.length : Int) = 2 then (if 1 < (x102000.length : Int) then (if 0 < (x103000.length : Int) then (array_MatMul.j1 k ((rd x102000 1) != (rd x103000 0)) x102000 x102001 x103000 x103001) else (none)) else (none)) else (array_MatMul.j1 k true x102000 x102001 x103000 x103001)) else (array_MatMul.j1 k true x102000 x102001 x103000 x103001))
noncomputable def array_MatMul.j1 : Nat → Bool → List Int → List ByteArray → List Int → List ByteArray → Option (List Int × List ByteArray × Int)
 | 0, _, _, _, _, _ => none
 | k + 1, x45, x102000, x102001, x103000, x103001 => if x45 = true then (some (([] : List Int), ([] : List ByteArray), 4)) else (if 0 < (x102000.length : Int) then (if 1 < (x102000.length : Int) then (if 1 < (x103000.length : Int) then ((some (([rd x102000 0, rd x103000 1] : List Int) : List Int)).bind fun y111 => ((shape_Right.f y111).bind fun t115 => (if t115 = true then (array_MatMul.l0 k (rd x102000 1) (rd x103000 1) (rd x102000 0) 0 x102000 x102001 x103000 x103001 y111 ([] : List ByteArray)) else (some (([] : List Int), ([] : List ByteArray), 4))))) else (none)) else (none)) else (none))
noncomputable def array_MatMul.l0 : Nat → Int → Int → Int → Int → List Int → List ByteArray → List Int → List ByteArray → List Int → List ByteArray → Option (List Int × List ByteArray × Int)
 | 0, _, _, _, _, _, _, _, _, _, _ => none
 | k + 1, x7, x8, x68, x69, x102000, x102001, x103000, x103001, x115000, x115001 => if x69 < x68 then (array_MatMul.l1 k x7 x8 x69 x68 x69 x8 0 x102000 x102001 x103000 x103001 x115000 x115001) else (some (x115000, x115001, 0))
noncomputable def array_MatMul.l1 : Nat → Int → Int → Int → Int → Int → Int → Int → List Int → List ByteArray → List Int → List ByteArray → List Int → List ByteArray → Option (List Int × List ByteArray × Int)
 | 0, _, _, _, _, _, _, _, _, _, _, _, _, _ => none
 | k + 1, x7, x8, x10, x68, x69, x72, x73, x102000, x102001, x103000, x103001, x115000, x115001 => if x73 < x72 then (array_MatMul.l2 k x7 x8 x10 x73 (⟨#[48]⟩ : ByteArray) x68 x69 x72 x73 x7 0 x102000 x102001 x103000 x103001 x115000 x115001) else (array_MatMul.l0 k x7 x8 x68 (wrap64 (x69 + 1)) x102000 x102001 x103000 x103001 x115000 x115001)
noncomputable def array_MatMul.l2 : Nat → Int → Int → Int → Int → ByteArray → Int → Int → Int → Int → Int → Int → List Int → List ByteArray → List Int → List ByteArray → List Int → List ByteArray → Option (List Int × List ByteArray × Int)
 | 0, _, _, _, _, _, _, _, _, _, _, _, _, _, _, _, _, _ => none
 | k + 1, x7, x8, x10, x11, x12, x68, x69, x72, x73, x76, x77, x102000, x102001, x103000, x103001, x115000, x115001 => if x77 < x76 then (if 0 ≤ (wrap64 ((wrap64 (x10 * x7)) + x77)) then (if (wrap64 ((wrap64 (x10 * x7)) + x77)) < (x102001.length : Int) then (if 0 ≤ (wrap64 ((wrap64 (x77 * x8)) + x11)) then (if (wrap64 ((wrap64 (x77 * x8)) + x11)) < (x103001.length : Int) then ((rat_Mul.f (rdOf ByteArray.empty x102001 (wrap64 ((wrap64 (x10 * x7)) + x77))) (rdOf ByteArray.empty x103001 (wrap64 ((wrap64 (x77 * x8)) + x11)))).bind fun bt118 => ((rat_Add.f x12 bt118.1).bind fun bt120 => (array_MatMul.l2 k x7 x8 x10 x11 bt120.1 x68 x69 x72 x73 x76 (wrap64 (x77 + 1)) x102000 x102001 x103000 x103001 x115000 x115001))) else (none)) else (none)) else (none)) else (none)) else (if x115001.length < 8796093022208 then (array_MatMul.l1 k x7 x8 x10 x68 x69 x72 (wrap64 (x73 + 1)) x102000 x102001 x103000 x103001 x115000 (x115001 ++ [x12])) else (none))
end
noncomputable def array_MatMul.f (k : Nat) (l0_0 : List Int) (l0_1 : List ByteArray) (l1_0 : List Int) (l1_1 : List ByteArray) : Option (List Int × List ByteArray × Int) := (tensor_Right.f l0_0 l0_1).bind fun t104 => (if t104 = true then ((tensor_Right.f l1_0 l1_1).bind fun t105 => (array_MatMul.j0 k (!t105) l0_0 l0_1 l1_0 l1_1)) else (array_MatMul.j0 k true l0_0 l0_1 l1_0 l1_1))
def array_MatMul.T3 : Bool × List (List Nat × List Nat) := (true, [([], []), ([0], [0]), ([1], [1]), ([2], [2]), ([3], [3]), ([4], [4]), ([5, 4], [4, 5]), ([6, 4], [4, 6]), ([7, 4], [4, 7]), ([4, 8], [4, 8]), ([9, 4], [9]), ([10], [10]), ([11, 10], [10, 11]), ([12, 10], [10, 12]), ([13, 10], [10, 13]), ([10], [10]), ([15, 10], [10, 15]), ([16, 10], [10, 16]), ([17, 10], [10, 17]), ([14, 18, 10], [10, 14, 18]), ([10, 19], [10, 19])])
def array_MatMul.B3 : List Nat := [0, 1, 3, 7, 15, 31, 63, 127, 255, 511, 1023, 2047, 4095, 8191, 16383, 2047, 34815, 100351, 231423, 524287, 1048575]
theorem array_MatMul.tab3 : rtab .any (opsOf Tryz.f16 3) = array_MatMul.T3 := by kernel_rfl
theorem array_MatMul.bits3 : waitsOk array_MatMul.T3.2 array_MatMul.B3 = true := by kernel_rfl
def array_MatMul.T5 : Bool × List (List Nat × List Nat) := (true, [([], []), ([0], [0]), ([1], [1]), ([2], [2]), ([], []), ([4], [4]), ([5], [5]), ([6], [6]), ([], []), ([8], [8]), ([9], [9]), ([10], [10]), ([3, 0, 1, 2, 3], [3]), ([7, 12, 0, 1, 2, 3, 4, 5, 6, 7, 12], [7]), ([11, 13, 0, 1, 2, 3, 4, 5, 6, 7, 8, 9, 10, 11, 12, 13], [11])])
def array_MatMul.B5 : List Nat := [0, 1, 3, 7, 0, 16, 48, 112, 0, 256, 768, 1792, 15, 4351, 16383]
theorem array_MatMul.tab5 : rtab .any (opsOf Tryz.f16 5) = array_MatMul.T5 := by kernel_rfl
theorem array_MatMul.bits5 : waitsOk array_MatMul.T5.2 array_MatMul.B5 = true := by kernel_rfl
def array_MatMul.T19 : Bool × List (List Nat × List Nat) := (true, [([], []), ([0], [0]), ([], []), ([], []), ([2, 3], [2, 3]), ([], []), ([4, 5], [4, 5]), ([1, 6], [1, 6]), ([7], [7]), ([], []), ([9], [9]), ([], []), ([], []), ([11, 12], [11, 12]), ([], []), ([13, 14], [13, 14]), ([10, 15], [10, 15]), ([16], [16]), ([8, 17], [8, 17]), ([18], [18]), ([19], [19]), ([19], [19]), ([20, 18, 0, 1, 2, 3, 4, 5, 6, 7, 8, 9, 10, 11, 12, 13, 14, 15, 16, 17, 18, 19, 20], [20]), ([21, 22, 0, 1, 2, 3, 4, 5, 6, 7, 8, 9, 10, 11, 12, 13, 14, 15, 16, 17, 18, 19, 20, 21, 22], [21])])
def array_MatMul.B19 : List Nat := [0, 1, 0, 0, 12, 0, 60, 127, 255, 0, 512, 0, 0, 6144, 0, 30720, 65024, 130560, 262143, 524287, 1048575, 1048575, 2097151, 8388607]
theorem array_MatMul.tab19 : rtab .any (opsOf Tryz.f16 19) = array_MatMul.T19 := by kernel_rfl
theorem array_MatMul.bits19 : waitsOk array_MatMul.T19.2 array_MatMul.B19 = true := by kernel_rfl
theorem array_MatMul.calls (k : Nat) (A0_0 : Option Addr) (c0_0 : Nat) (l0_0 : List Int) (A0_1 : Option Addr) (c0_1 : Nat) (l0_1 : List ByteArray) (A1_0 : Option Addr) (c1_0 : Nat) (l1_0 : List Int) (A1_1 : Option Addr) (c1_1 : Nat) (l1_1 : List ByteArray) (r1 : List Int) (r2 : List ByteArray) (r3 : Int) (w : World) (hG : Err.Gs w) (hr0_0 : Kd.C (Kd.int .i64) w A0_0 l0_0.length l0_0) (hc0_0 : l0_0.length ≤ c0_0) (hr0_1 : Kd.C Kd.string w A0_1 l0_1.length l0_1) (hc0_1 : l0_1.length ≤ c0_1) (hr1_0 : Kd.C (Kd.int .i64) w A1_0 l1_0.length l1_0) (hc1_0 : l1_0.length ≤ c1_0) (hr1_1 : Kd.C Kd.string w A1_1 l1_1.length l1_1) (hc1_1 : l1_1.length ≤ c1_1) (h : array_MatMul.f k l0_0 l0_1 l1_0 l1_1 = some (r1, r2, r3)) :
  Calls Tryz.prog 16 #[.agg #[.slice A0_0 l0_0.length c0_0, .slice A0_1 l0_1.length c0_1], .agg #[.slice A1_0 l1_0.length c1_0, .slice A1_1 l1_1.length c1_1]] w fun e w' => ∃ v0_ v1_ : Value, e = .returned (.tuple #[.agg #[v0_, v1_], .int .i64 r3]) ∧ Kd.R (Kd.int .i64) 3 w' w.heap.size (fun _ => True) v0_ r1 ∧ Kd.R Kd.string 9 w' w.heap.size (fun _ => True) v1_ r2 ∧ Below w.heap.size w w' := by
 have hu25 := Tryz.underlying25;have HR0_0 := A_ hr0_0;have HC0_0 := A_ hc0_0;clear hr0_0 hc0_0;have HR0_1 := A_ hr0_1;have HC0_1 := A_ hc0_1;clear hr0_1 hc0_1;have HR1_0 := A_ hr1_0;have HC1_0 := A_ hc1_0;clear hr1_0 hc1_0;have HR1_1 := A_ hr1_1;have HC1_1 := A_ hc1_1;clear hr1_1 hc1_1;have HB := A_ (Below.refl w.heap.size w);have HGs := A_ hG;clear hG;unfold array_MatMul.f at h;have H := h;clear h;have HC3 := A_ H;clear H;go_enter Tryz.func16, Tryz.ntmps16
 go_upto_region 1 with (first | ((with_reducible refine gate_dst (N := 2) rfl ?_); (try (refine gate_guard (by rfl) ?_; dsimp only)); refine BX_ 2 #[.slice A0_0 l0_0.length c0_0, .slice A0_1 l0_1.length c0_1] 25 ?_; intro gb101 hg w4 hbox hb; have BK101 := A_ (hbox); have GE101 := GE_ hg; replace HB := BS_ hb; clear hb hbox hg) | ((with_reducible refine gate_dst (N := 3) rfl ?_); (try (refine gate_guard (by rfl) ?_; dsimp only)); refine BX_ 3 #[.slice A1_0 l1_0.length c1_0, .slice A1_1 l1_1.length c1_1] 25 ?_; intro gb102 hg w5 hbox hb; have BK102 := A_ (hbox); have GE102 := GE_ hg; replace HB := BU_ hb; have NB101_102 := NB_ BK101 hg; have NB102_101 := NC_ BK101 hg; replace BK101 := BF_ BK101 hb; clear hb hbox hg) | ((with_reducible refine gate_dst (N := 4) rfl ?_); (try (refine gate_guard (by rfl) ?_; dsimp only)); refine BX_ 4 #[.slice none 0 0, .slice none 0 0] 25 ?_; intro gb103 hg w6 hbox hb; have BK103 := A_ (hbox); have GE103 := GE_ hg; replace HB := BU_ hb; have NB101_103 := NB_ BK101 hg; have NB103_101 := NC_ BK101 hg; replace BK101 := BF_ BK101 hb; have NB102_103 := NB_ BK102 hg; have NB103_102 := NC_ BK102 hg; replace BK102 := BF_ BK102 hb; clear hb hbox hg))
 (try simp only [Act.put, List.setIfInBounds_toArray, List.set_cons_zero, List.set_cons_succ])
 go_cut [23] (fun v23 wc => ∃ (kq : Nat) (x23_2 : Bool), v23 = .bool x23_2 ∧ Aside0 (array_MatMul.j0 kq x23_2 l0_0 l0_1 l1_0 l1_1 = some (r1, r2, r3)) ∧ Aside0 (kq ≤ k) ∧ Aside0 (wc.heap[gb101]? = some (.cells #[(.slice A0_0 l0_0.length c0_0), (.slice A0_1 l0_1.length c0_1)] 25 (0, 0))) ∧ Aside0 (wc.heap[gb102]? = some (.cells #[(.slice A1_0 l1_0.length c1_0), (.slice A1_1 l1_1.length c1_1)] 25 (0, 0))) ∧ Aside0 (wc.heap[gb103]? = some (.cells #[(.slice none 0 0), (.slice none 0 0)] 25 (0, 0))) ∧ Aside0 (Below w.heap.size w wc))
 case first =>
  have H := HC3.out;clear HC3;replace H := BE_ H;obtain ⟨t104, A70, H⟩ := H;have A7 := A_ A70;clear A70
  by_cases c8 : t104 = true
  ·
   subst c8;rw [if_pos rfl] at H;replace H := BE_ H;obtain ⟨t105, A90, H⟩ := H;have A9 := A_ A90;clear A90;have H' := A_ H;clear H;have hnb10 := NB101_102.out;have hnc10 := NB102_101.out;have hnb11 := NB101_103.out;have hnc11 := NB103_101.out;obtain ⟨hcz12_0, hcz12_1, hfz12_0, hfz12_1⟩ := CF_ BK101
   go_wp2_with (first | (refine GL_ 29 17 Tryz.func29 #[.agg #[.slice A0_0 l0_0.length c0_0, .slice A0_1 l0_1.length c0_1]] ?_; (with_reducible refine (tensor_Right.calls _ _ l0_0 _ _ l0_1 true _ (Err.Gs.below HGs.out T9_) (CW_ HR0_0) HC0_0.out (CW_ HR0_1) HC0_1.out A7.out).mono ?_); rintro e w13 ⟨rfl, hb⟩; refine ⟨_, rfl, ?_⟩; replace BK101 := BF_ BK101 hb; replace BK102 := BF_ BK102 hb; replace BK103 := BF_ BK103 hb; replace HB := BU_ hb; clear hb; have hnb14 := NB102_103.out; have hnc14 := NB103_102.out; obtain ⟨hcz15_0, hcz15_1, hfz15_0, hfz15_1⟩ := CF_ BK102) | (go_at_call 29; (with_reducible refine (tensor_Right.calls _ _ l1_0 _ _ l1_1 t105 _ (Err.Gs.below HGs.out T9_) (CW_ HR1_0) HC1_0.out (CW_ HR1_1) HC1_1.out A9.out).mono ?_); rintro e w16 ⟨rfl, hb⟩; replace BK101 := BF_ BK101 hb; replace BK102 := BF_ BK102 hb; replace BK103 := BF_ BK103 hb; replace HB := BU_ hb; clear hb))
   go_meet
   case rel => exact ⟨_, (!t105), S1_, H', ⟨by first | omega | exact Nat.le_refl _⟩, BW_ BK101, BW_ BK102, BW_ BK103, ⟨T9_⟩⟩
  ·
   replace c8 := Bool.eq_false_iff.mpr c8;subst c8;rw [if_neg (show ¬ (false = true) by decide)] at H;have H' := A_ H;clear H;have hnb17 := NB101_102.out;have hnc17 := NB102_101.out;have hnb18 := NB101_103.out;have hnc18 := NB103_101.out;obtain ⟨hcz19_0, hcz19_1, hfz19_0, hfz19_1⟩ := CF_ BK101
   go_wp2_with (first | (refine GL_ 29 17 Tryz.func29 #[.agg #[.slice A0_0 l0_0.length c0_0, .slice A0_1 l0_1.length c0_1]] ?_; (with_reducible refine (tensor_Right.calls _ _ l0_0 _ _ l0_1 false _ (Err.Gs.below HGs.out T9_) (CW_ HR0_0) HC0_0.out (CW_ HR0_1) HC0_1.out A7.out).mono ?_); rintro e w20 ⟨rfl, hb⟩; refine ⟨_, rfl, ?_⟩; replace BK101 := BF_ BK101 hb; replace BK102 := BF_ BK102 hb; replace BK103 := BF_ BK103 hb; replace HB := BU_ hb; clear hb))
   go_meet
   case rel => exact ⟨_, (true), S1_, H', ⟨by first | omega | exact Nat.le_refl _⟩, BW_ BK101, BW_ BK102, BW_ BK103, ⟨T9_⟩⟩
 case rest =>
  clear HC3
  obtain ⟨kq, x23_2, rfl, HA, HJ2, BK101, BK102, BK103, HB⟩ := hcut
  cases kq with
  | zero => exact absurd HA.out (by simp [array_MatMul.j0])
  | succ kj2 =>
   have H := HA.out;clear HA;simp only [array_MatMul.j0] at H
   by_cases c21 : x23_2 = true
   ·
    subst c21;rw [if_pos rfl] at H;simp only [Option.some.injEq, Prod.mk.injEq] at H;obtain ⟨rfl, rfl, rfl⟩ := H;have hnb22 := NB103_101.out;have hnc22 := NB101_103.out;have hnb23 := NB103_102.out;have hnc23 := NB102_103.out;have hcz24_0 : wc.cell? ⟨gb103, 0, none⟩ = some (.slice none 0 0) := (blk_cell BK103.out 0).trans rfl;have hcz24_1 : wc.cell? ⟨gb103, 1, none⟩ = some (.slice none 0 0) := (blk_cell BK103.out 1).trans rfl;have hfz24_0 := blk_frozen BK103.out 0;have hfz24_1 := blk_frozen BK103.out 1
    go_wp2
    refine bodyPost_ret (results_ct rfl _ _ gb103 25 #[.slice none 0 0, .slice none 0 0] (0, 0) _ rfl (by (with_reducible repeat (first | refine blk_drewN ?_ _ | refine blk_drew ?_ | refine blk_alloc ?_ _)); refine blk_put (cs := #[.slice none 0 0, .slice none 0 0]) ?_ 1 _ rfl; (with_reducible repeat (first | refine blk_drewN ?_ _ | refine blk_drew ?_ | refine blk_alloc ?_ _)); refine blk_put (cs := #[.slice none 0 0, .slice none 0 0]) ?_ 0 _ rfl; (with_reducible repeat (first | refine blk_drewN ?_ _ | refine blk_drew ?_ | refine blk_alloc ?_ _)); exact BK103.out) Tryz.underlying25 rfl (by kernel_rfl)) rfl ?_;exact ⟨_, _, by first | rfl | (simp [errW_none, errW_some] <;> rfl) | (simp [*, errW_none, errW_some] <;> rfl), by first | exact Kd.R_nil _ _ _ _ _ | exact Kd.N_nil _ _ _ _ _ | exact Kd.V_nil _ _ _ _ _ | exact Kd.Q_nil _ _ _ _ _ | exact Kd.S_nil _ _ _ _ _, by first | exact Kd.R_nil _ _ _ _ _ | exact Kd.N_nil _ _ _ _ _ | exact Kd.V_nil _ _ _ _ _ | exact Kd.Q_nil _ _ _ _ _ | exact Kd.S_nil _ _ _ _ _, T9_⟩
   ·
    replace c21 := Bool.eq_false_iff.mpr c21;subst c21;rw [if_neg (show ¬ (false = true) by decide)] at H;have HC25 := A_ H;clear H
    go_upto_region 3 with (fail)
    go_cut [45] (fun v45 wc => ∃ (kq : Nat) (x45_24 : Bool), v45 = .bool x45_24 ∧ Aside0 (array_MatMul.j1 kq x45_24 l0_0 l0_1 l1_0 l1_1 = some (r1, r2, r3)) ∧ Aside0 (kq ≤ kj2) ∧ Aside0 (wc.heap[gb101]? = some (.cells #[(.slice A0_0 l0_0.length c0_0), (.slice A0_1 l0_1.length c0_1)] 25 (0, 0))) ∧ Aside0 (wc.heap[gb102]? = some (.cells #[(.slice A1_0 l1_0.length c1_0), (.slice A1_1 l1_1.length c1_1)] 25 (0, 0))) ∧ Aside0 (wc.heap[gb103]? = some (.cells #[(.slice none 0 0), (.slice none 0 0)] 25 (0, 0))) ∧ Aside0 (Below w.heap.size w wc))
    case first =>
     have H := HC25.out;clear HC25
     by_cases c26 : (l0_0.length : Int) = 2
     ·
      rw [if_pos c26] at H;have c26b0 : ((l0_0.length : Int) == 2) = true := beq_iff_eq.mpr c26;have c26b1 : ((l0_0.length : Int) != 2) = false := bne_eq_false_iff_eq.mpr c26;clear c26
      (first | rw [c26b0] | (simp only [i64_w, i32_w]; rw [c26b0]) | skip)
      by_cases c27 : (l1_0.length : Int) = 2
      ·
       rw [if_pos c27] at H;have c27b0 : ((l1_0.length : Int) == 2) = true := beq_iff_eq.mpr c27;have c27b1 : ((l1_0.length : Int) != 2) = false := bne_eq_false_iff_eq.mpr c27;clear c27
       by_cases c28 : 1 < (l0_0.length : Int)
       ·
        rw [if_pos c28] at H;have c28b0 := decide_eq_true c28;have c28b1 : decide (1 < l0_0.length) = true := decide_eq_true (by omega);clear c28
        by_cases c29 : 0 < (l1_0.length : Int)
        ·
         rw [if_pos c29] at H;have c29b0 := decide_eq_true c29;have c29b1 : decide (0 < l1_0.length) = true := decide_eq_true (by omega);clear c29;have H' := A_ H;clear H
         try go_wp2
         replace BK101 := A_ (blk_drew BK101.out);replace BK102 := A_ (blk_drew BK102.out);replace BK103 := A_ (blk_drew BK103.out);replace HB := A_ (below_drew1 HB.out);have p106 : 0 ≤ (1 : Int) := (by omega);have q106 : 1 < (l0_0.length : Int) := DA_;obtain ⟨ad106, e106, hx106_0⟩ := Kd.at_int HR0_0.out 1 p106 q106;have hw106_0 := hx106_0
         (try rw [show ((1 : Int)).toNat = 1 from rfl] at hw106_0)
         (try rw [show 1 * 1 = 1 from rfl] at hw106_0)
         (try simp only [Nat.reduceMul, Nat.reduceEqDiff, Go.Addr.add, ↓reduceIte] at hw106_0)
         cases e106
         (try simp only [show (1 : Int).toNat = 1 from rfl, Nat.reduceMul, Nat.reduceEqDiff, Go.Addr.add, ↓reduceIte] at hx106_0)
         have qi106 : (1 < l0_0.length) = True := eq_true (by omega)
         (try rw [show ((1 : Int)).toNat = 1 from rfl] at hx106_0)
         replace hx106_0 := (HB.out.cell (World.block_lt_of_cell? w _ hx106_0)).trans hx106_0;replace p106 := eq_true p106;replace q106 := eq_true q106;have p107 : 0 ≤ (0 : Int) := (by omega);have q107 : 0 < (l1_0.length : Int) := DA_;obtain ⟨ad107, e107, hx107_0⟩ := Kd.at_int HR1_0.out 0 p107 q107;have hw107_0 := hx107_0
         (try rw [show ((0 : Int)).toNat = 0 from rfl] at hw107_0)
         (try rw [show 0 * 1 = 0 from rfl] at hw107_0)
         (try rw [Addr.add_zero'] at hw107_0)
         cases e107
         have qi107 : (0 < l1_0.length) = True := eq_true (by omega)
         (try rw [show ((0 : Int)).toNat = 0 from rfl] at hx107_0)
         (try rw [Addr.add_zero'] at hx107_0)
         replace hx107_0 := (HB.out.cell (World.block_lt_of_cell? w _ hx107_0)).trans hx107_0;replace p107 := eq_true p107;replace q107 := eq_true q107;refine start_ (n := 21) (S := fun w' => w'.cell? ⟨gb101, 0, none⟩ = some (.slice (some ad106) l0_0.length c0_0) ∧ w'.cell? ⟨gb101, 1, none⟩ = some (.slice A0_1 l0_1.length c0_1) ∧ w'.cell? ⟨gb102, 0, none⟩ = some (.slice (some ad107) l1_0.length c1_0) ∧ w'.cell? ⟨gb102, 1, none⟩ = some (.slice A1_1 l1_1.length c1_1) ∧ w'.cell? ⟨ad106.block, ad106.off + 1, none⟩ = some (.int .i64 (rd l0_0 1)) ∧ w'.cell? ad107 = some (.int .i64 (rd l1_0 0))) (ds := []) #[false, false, false, false, false, false, false, false, false, false, false, false, false, false, false, false, false, false, false, false, false] (by kernel_rfl) rfl rfl ⟨(blk_cell BK101.out 0).trans rfl, (blk_cell BK101.out 1).trans rfl, (blk_cell BK102.out 0).trans rfl, (blk_cell BK102.out 1).trans rfl, ((HB.out.cell (World.block_lt_of_cell? w _ hw106_0)).trans hw106_0), ((HB.out.cell (World.block_lt_of_cell? w _ hw107_0)).trans hw107_0)⟩ (fun hHeld => ?_); refine with_tabW array_MatMul.tab3 array_MatMul.bits3 (fun HT_ HW_ => ?_);generalize wc.drew = w30 at BK101 BK102 BK103 HB hx106_0 hx107_0 hHeld ⊢;refine PU_ 0 25 ?_;refine TK_ 1 26 rfl (by rfl) (by rintro w' ⟨s0, s1, s2, s3, s4, s5⟩;go_simp;with_reducible rfl) hHeld ?_
         refine PU_ 2 27 ?_;refine PU_ 3 28 ?_;refine PU_ 4 29 ?_;refine PU_ 5 30 ?_;refine TK_ 6 31 rfl (by rfl) (by rintro w' ⟨s0, s1, s2, s3, s4, s5⟩;go_simp;with_reducible rfl) hHeld ?_
         refine PU_ 7 32 ?_;refine PU_ 8 33 ?_;refine PU_ 9 34 ?_;refine PU_ 10 35 ?_;refine PU_ 11 36 ?_;refine PU_ 15 40 ?_;refine TK_ 12 37 rfl (by rfl) (by rintro w' ⟨s0, s1, s2, s3, s4, s5⟩;go_simp;with_reducible rfl) hHeld ?_
         refine PU_ 13 38 ?_;refine TK_ 14 39 rfl (by rfl) (by rintro w' ⟨s0, s1, s2, s3, s4, s5⟩;go_simp;with_reducible rfl) hHeld ?_
         refine TK_ 16 41 rfl (by rfl) (by rintro w' ⟨s0, s1, s2, s3, s4, s5⟩;go_simp;with_reducible rfl) hHeld ?_
         refine PU_ 17 42 ?_;refine TK_ 18 43 rfl (by rfl) (by rintro w' ⟨s0, s1, s2, s3, s4, s5⟩;go_simp;with_reducible rfl) hHeld ?_
         refine PU_ 19 44 ?_;refine PU_ 20 45 ?_
         refine done_ (done_of HT_.out (by kernel_rfl)) ?_
         try go_wp2
         go_meet
         case rel => exact ⟨_, (((rd l0_0 1) != (rd l1_0 0))), S1_, H', ⟨by have := HJ2.out; first | omega | exact Nat.le_refl _⟩, BW_ BK101, BW_ BK102, BW_ BK103, ⟨T9_⟩⟩
        ·
         rw [if_neg c29] at H;exact absurd H (by simp)
       ·
        rw [if_neg c28] at H;exact absurd H (by simp)
      ·
       rw [if_neg c27] at H;have c27b0 : ((l1_0.length : Int) == 2) = false := beq_eq_false_iff_ne.mpr c27;have c27b1 : ((l1_0.length : Int) != 2) = true := bne_iff_ne.mpr c27;have H' := A_ H;clear H
       try go_wp2
       replace BK101 := A_ (blk_drew BK101.out);replace BK102 := A_ (blk_drew BK102.out);replace BK103 := A_ (blk_drew BK103.out);replace HB := A_ (below_drew1 HB.out);refine start_ (n := 21) (S := fun w' => w'.cell? ⟨gb101, 0, none⟩ = some (.slice A0_0 l0_0.length c0_0) ∧ w'.cell? ⟨gb101, 1, none⟩ = some (.slice A0_1 l0_1.length c0_1) ∧ w'.cell? ⟨gb102, 0, none⟩ = some (.slice A1_0 l1_0.length c1_0) ∧ w'.cell? ⟨gb102, 1, none⟩ = some (.slice A1_1 l1_1.length c1_1)) (ds := []) #[false, false, false, false, false, false, false, false, false, false, false, false, false, false, false, false, false, false, false, false, false] (by kernel_rfl) rfl rfl ⟨(blk_cell BK101.out 0).trans rfl, (blk_cell BK101.out 1).trans rfl, (blk_cell BK102.out 0).trans rfl, (blk_cell BK102.out 1).trans rfl⟩ (fun hHeld => ?_); refine with_tabW array_MatMul.tab3 array_MatMul.bits3 (fun HT_ HW_ => ?_);generalize wc.drew = w31 at BK101 BK102 BK103 HB hHeld ⊢;refine PU_ 0 25 ?_;refine TK_ 1 26 rfl (by rfl) (by rintro w' ⟨s0, s1, s2, s3⟩;go_simp;with_reducible rfl) hHeld ?_
       refine PU_ 2 27 ?_;refine PU_ 3 28 ?_;refine PU_ 4 29 ?_;refine PU_ 5 30 ?_;refine TK_ 6 31 rfl (by rfl) (by rintro w' ⟨s0, s1, s2, s3⟩;go_simp;with_reducible rfl) hHeld ?_
       refine PU_ 7 32 ?_;refine PU_ 8 33 ?_;refine PU_ 9 34 ?_;refine PU_ 10 35 ?_
       refine pure_ (i := 11) (N := some 36) (v := undef) (a' := ?_) #[true, true, true, true, true, true, true, true, true, true, true, true, false, false, false, false, false, false, false, false, false] rfl rfl (any_of HT_.out (by kernel_rfl)) (fun _ _ _ h => h) (Or.inr ⟨by rfl, rfl⟩) ?_ ?_;rotate_left
       ·
        simp only [Act.put, List.setIfInBounds_toArray, List.set_cons_zero, List.set_cons_succ, i64_w, i32_w];rfl
       refine pure_ (i := 12) (N := some 37) (v := undef) (a' := ?_) #[true, true, true, true, true, true, true, true, true, true, true, true, true, false, false, false, false, false, false, false, false] rfl rfl (any_of HT_.out (by kernel_rfl)) (fun _ _ _ h => h) (Or.inr ⟨by rfl, rfl⟩) ?_ ?_;rotate_left
       ·
        simp only [Act.put, List.setIfInBounds_toArray, List.set_cons_zero, List.set_cons_succ, i64_w, i32_w];rfl
       refine pure_ (i := 13) (N := some 38) (v := undef) (a' := ?_) #[true, true, true, true, true, true, true, true, true, true, true, true, true, true, false, false, false, false, false, false, false] rfl rfl (any_of HT_.out (by kernel_rfl)) (fun _ _ _ h => h) (Or.inr ⟨by rfl, rfl⟩) ?_ ?_;rotate_left
       ·
        simp only [Act.put, List.setIfInBounds_toArray, List.set_cons_zero, List.set_cons_succ, i64_w, i32_w];rfl
       refine pure_ (i := 14) (N := some 39) (v := undef) (a' := ?_) #[true, true, true, true, true, true, true, true, true, true, true, true, true, true, true, false, false, false, false, false, false] rfl rfl (any_of HT_.out (by kernel_rfl)) (fun _ _ _ h => h) (Or.inr ⟨by rfl, rfl⟩) ?_ ?_;rotate_left
       ·
        simp only [Act.put, List.setIfInBounds_toArray, List.set_cons_zero, List.set_cons_succ, i64_w, i32_w];rfl
       refine pure_ (i := 15) (N := some 40) (v := undef) (a' := ?_) #[true, true, true, true, true, true, true, true, true, true, true, true, true, true, true, true, false, false, false, false, false] rfl rfl (any_of HT_.out (by kernel_rfl)) (fun _ _ _ h => h) (Or.inr ⟨by rfl, rfl⟩) ?_ ?_;rotate_left
       ·
        simp only [Act.put, List.setIfInBounds_toArray, List.set_cons_zero, List.set_cons_succ, i64_w, i32_w];rfl
       refine pure_ (i := 16) (N := some 41) (v := undef) (a' := ?_) #[true, true, true, true, true, true, true, true, true, true, true, true, true, true, true, true, true, false, false, false, false] rfl rfl (any_of HT_.out (by kernel_rfl)) (fun _ _ _ h => h) (Or.inr ⟨by rfl, rfl⟩) ?_ ?_;rotate_left
       ·
        simp only [Act.put, List.setIfInBounds_toArray, List.set_cons_zero, List.set_cons_succ, i64_w, i32_w];rfl
       refine pure_ (i := 17) (N := some 42) (v := undef) (a' := ?_) #[true, true, true, true, true, true, true, true, true, true, true, true, true, true, true, true, true, true, false, false, false] rfl rfl (any_of HT_.out (by kernel_rfl)) (fun _ _ _ h => h) (Or.inr ⟨by rfl, rfl⟩) ?_ ?_;rotate_left
       ·
        simp only [Act.put, List.setIfInBounds_toArray, List.set_cons_zero, List.set_cons_succ, i64_w, i32_w];rfl
       refine pure_ (i := 18) (N := some 43) (v := undef) (a' := ?_) #[true, true, true, true, true, true, true, true, true, true, true, true, true, true, true, true, true, true, true, false, false] rfl rfl (any_of HT_.out (by kernel_rfl)) (fun _ _ _ h => h) (Or.inr ⟨by rfl, rfl⟩) ?_ ?_;rotate_left
       ·
        simp only [Act.put, List.setIfInBounds_toArray, List.set_cons_zero, List.set_cons_succ, i64_w, i32_w];rfl
       refine pure_ (i := 19) (N := some 44) (v := undef) (a' := ?_) #[true, true, true, true, true, true, true, true, true, true, true, true, true, true, true, true, true, true, true, true, false] rfl rfl (any_of HT_.out (by kernel_rfl)) (fun _ _ _ h => h) (Or.inr ⟨by rfl, rfl⟩) ?_ ?_;rotate_left
       ·
        simp only [Act.put, List.setIfInBounds_toArray, List.set_cons_zero, List.set_cons_succ, i64_w, i32_w];rfl
       refine PU_ 20 45 ?_
       refine done_ (done_of HT_.out (by kernel_rfl)) ?_
       try go_wp2
       go_meet
       case rel => exact ⟨_, (true), S1_, H', ⟨by have := HJ2.out; first | omega | exact Nat.le_refl _⟩, BW_ BK101, BW_ BK102, BW_ BK103, ⟨T9_⟩⟩
     ·
      rw [if_neg c26] at H;have c26b0 : ((l0_0.length : Int) == 2) = false := beq_eq_false_iff_ne.mpr c26;have c26b1 : ((l0_0.length : Int) != 2) = true := bne_iff_ne.mpr c26
      (first | rw [c26b0] | (simp only [i64_w, i32_w]; rw [c26b0]) | skip)
      have H' := A_ H;clear H
      try go_wp2
      replace BK101 := A_ (blk_drew BK101.out);replace BK102 := A_ (blk_drew BK102.out);replace BK103 := A_ (blk_drew BK103.out);replace HB := A_ (below_drew1 HB.out);refine start_ (n := 21) (S := fun w' => w'.cell? ⟨gb101, 0, none⟩ = some (.slice A0_0 l0_0.length c0_0) ∧ w'.cell? ⟨gb101, 1, none⟩ = some (.slice A0_1 l0_1.length c0_1)) (ds := []) #[false, false, false, false, false, false, false, false, false, false, false, false, false, false, false, false, false, false, false, false, false] (by kernel_rfl) rfl rfl ⟨(blk_cell BK101.out 0).trans rfl, (blk_cell BK101.out 1).trans rfl⟩ (fun hHeld => ?_); refine with_tabW array_MatMul.tab3 array_MatMul.bits3 (fun HT_ HW_ => ?_);generalize wc.drew = w32 at BK101 BK102 BK103 HB hHeld ⊢;refine PU_ 0 25 ?_;refine TK_ 1 26 rfl (by rfl) (by rintro w' ⟨s0, s1⟩;go_simp;with_reducible rfl) hHeld ?_
      refine PU_ 2 27 ?_;refine PU_ 3 28 ?_;refine PU_ 4 29 ?_
      refine pure_ (i := 5) (N := some 30) (v := undef) (a' := ?_) #[true, true, true, true, true, true, false, false, false, false, false, false, false, false, false, false, false, false, false, false, false] rfl rfl (any_of HT_.out (by kernel_rfl)) (fun _ _ _ h => h) (Or.inr ⟨by rfl, rfl⟩) ?_ ?_;rotate_left
      ·
       simp only [Act.put, List.setIfInBounds_toArray, List.set_cons_zero, List.set_cons_succ, i64_w, i32_w];rfl
      refine pure_ (i := 6) (N := some 31) (v := undef) (a' := ?_) #[true, true, true, true, true, true, true, false, false, false, false, false, false, false, false, false, false, false, false, false, false] rfl rfl (any_of HT_.out (by kernel_rfl)) (fun _ _ _ h => h) (Or.inr ⟨by rfl, rfl⟩) ?_ ?_;rotate_left
      ·
       simp only [Act.put, List.setIfInBounds_toArray, List.set_cons_zero, List.set_cons_succ, i64_w, i32_w];rfl
      refine pure_ (i := 7) (N := some 32) (v := undef) (a' := ?_) #[true, true, true, true, true, true, true, true, false, false, false, false, false, false, false, false, false, false, false, false, false] rfl rfl (any_of HT_.out (by kernel_rfl)) (fun _ _ _ h => h) (Or.inr ⟨by rfl, rfl⟩) ?_ ?_;rotate_left
      ·
       simp only [Act.put, List.setIfInBounds_toArray, List.set_cons_zero, List.set_cons_succ, i64_w, i32_w];rfl
      refine pure_ (i := 8) (N := some 33) (v := undef) (a' := ?_) #[true, true, true, true, true, true, true, true, true, false, false, false, false, false, false, false, false, false, false, false, false] rfl rfl (any_of HT_.out (by kernel_rfl)) (fun _ _ _ h => h) (Or.inr ⟨by rfl, rfl⟩) ?_ ?_;rotate_left
      ·
       simp only [Act.put, List.setIfInBounds_toArray, List.set_cons_zero, List.set_cons_succ, i64_w, i32_w];rfl
      refine PU_ 9 34 ?_;refine PU_ 10 35 ?_
      refine pure_ (i := 11) (N := some 36) (v := undef) (a' := ?_) #[true, true, true, true, true, true, true, true, true, true, true, true, false, false, false, false, false, false, false, false, false] rfl rfl (any_of HT_.out (by kernel_rfl)) (fun _ _ _ h => h) (Or.inr ⟨by rfl, rfl⟩) ?_ ?_;rotate_left
      ·
       simp only [Act.put, List.setIfInBounds_toArray, List.set_cons_zero, List.set_cons_succ, i64_w, i32_w];rfl
      refine pure_ (i := 12) (N := some 37) (v := undef) (a' := ?_) #[true, true, true, true, true, true, true, true, true, true, true, true, true, false, false, false, false, false, false, false, false] rfl rfl (any_of HT_.out (by kernel_rfl)) (fun _ _ _ h => h) (Or.inr ⟨by rfl, rfl⟩) ?_ ?_;rotate_left
      ·
       simp only [Act.put, List.setIfInBounds_toArray, List.set_cons_zero, List.set_cons_succ, i64_w, i32_w];rfl
      refine pure_ (i := 13) (N := some 38) (v := undef) (a' := ?_) #[true, true, true, true, true, true, true, true, true, true, true, true, true, true, false, false, false, false, false, false, false] rfl rfl (any_of HT_.out (by kernel_rfl)) (fun _ _ _ h => h) (Or.inr ⟨by rfl, rfl⟩) ?_ ?_;rotate_left
      ·
       simp only [Act.put, List.setIfInBounds_toArray, List.set_cons_zero, List.set_cons_succ, i64_w, i32_w];rfl
      refine pure_ (i := 14) (N := some 39) (v := undef) (a' := ?_) #[true, true, true, true, true, true, true, true, true, true, true, true, true, true, true, false, false, false, false, false, false] rfl rfl (any_of HT_.out (by kernel_rfl)) (fun _ _ _ h => h) (Or.inr ⟨by rfl, rfl⟩) ?_ ?_;rotate_left
      ·
       simp only [Act.put, List.setIfInBounds_toArray, List.set_cons_zero, List.set_cons_succ, i64_w, i32_w];rfl
      refine pure_ (i := 15) (N := some 40) (v := undef) (a' := ?_) #[true, true, true, true, true, true, true, true, true, true, true, true, true, true, true, true, false, false, false, false, false] rfl rfl (any_of HT_.out (by kernel_rfl)) (fun _ _ _ h => h) (Or.inr ⟨by rfl, rfl⟩) ?_ ?_;rotate_left
      ·
       simp only [Act.put, List.setIfInBounds_toArray, List.set_cons_zero, List.set_cons_succ, i64_w, i32_w];rfl
      refine pure_ (i := 16) (N := some 41) (v := undef) (a' := ?_) #[true, true, true, true, true, true, true, true, true, true, true, true, true, true, true, true, true, false, false, false, false] rfl rfl (any_of HT_.out (by kernel_rfl)) (fun _ _ _ h => h) (Or.inr ⟨by rfl, rfl⟩) ?_ ?_;rotate_left
      ·
       simp only [Act.put, List.setIfInBounds_toArray, List.set_cons_zero, List.set_cons_succ, i64_w, i32_w];rfl
      refine pure_ (i := 17) (N := some 42) (v := undef) (a' := ?_) #[true, true, true, true, true, true, true, true, true, true, true, true, true, true, true, true, true, true, false, false, false] rfl rfl (any_of HT_.out (by kernel_rfl)) (fun _ _ _ h => h) (Or.inr ⟨by rfl, rfl⟩) ?_ ?_;rotate_left
      ·
       simp only [Act.put, List.setIfInBounds_toArray, List.set_cons_zero, List.set_cons_succ, i64_w, i32_w];rfl
      refine pure_ (i := 18) (N := some 43) (v := undef) (a' := ?_) #[true, true, true, true, true, true, true, true, true, true, true, true, true, true, true, true, true, true, true, false, false] rfl rfl (any_of HT_.out (by kernel_rfl)) (fun _ _ _ h => h) (Or.inr ⟨by rfl, rfl⟩) ?_ ?_;rotate_left
      ·
       simp only [Act.put, List.setIfInBounds_toArray, List.set_cons_zero, List.set_cons_succ, i64_w, i32_w];rfl
      refine pure_ (i := 19) (N := some 44) (v := undef) (a' := ?_) #[true, true, true, true, true, true, true, true, true, true, true, true, true, true, true, true, true, true, true, true, false] rfl rfl (any_of HT_.out (by kernel_rfl)) (fun _ _ _ h => h) (Or.inr ⟨by rfl, rfl⟩) ?_ ?_;rotate_left
      ·
       simp only [Act.put, List.setIfInBounds_toArray, List.set_cons_zero, List.set_cons_succ, i64_w, i32_w];rfl
      refine PU_ 20 45 ?_
      refine done_ (done_of HT_.out (by kernel_rfl)) ?_
      try go_wp2
      go_meet
      case rel => exact ⟨_, (true), S1_, H', ⟨by have := HJ2.out; first | omega | exact Nat.le_refl _⟩, BW_ BK101, BW_ BK102, BW_ BK103, ⟨T9_⟩⟩
    case rest =>
     clear HC25
     try clear c21
     obtain ⟨kq, x45_24, rfl, HA, HJ24, BK101, BK102, BK103, HB⟩ := hcut
     cases kq with
     | zero => exact absurd HA.out (by simp [array_MatMul.j1])
     | succ kj24 =>
      have H := HA.out;clear HA;simp only [array_MatMul.j1] at H
      by_cases c33 : x45_24 = true
      ·
       subst c33;rw [if_pos rfl] at H;simp only [Option.some.injEq, Prod.mk.injEq] at H;obtain ⟨rfl, rfl, rfl⟩ := H;have hnb34 := NB103_101.out;have hnc34 := NB101_103.out;have hnb35 := NB103_102.out;have hnc35 := NB102_103.out;have hcz36_0 : wc.cell? ⟨gb103, 0, none⟩ = some (.slice none 0 0) := (blk_cell BK103.out 0).trans rfl;have hcz36_1 : wc.cell? ⟨gb103, 1, none⟩ = some (.slice none 0 0) := (blk_cell BK103.out 1).trans rfl;have hfz36_0 := blk_frozen BK103.out 0;have hfz36_1 := blk_frozen BK103.out 1
       go_wp2
       refine bodyPost_ret (results_ct rfl _ _ gb103 25 #[.slice none 0 0, .slice none 0 0] (0, 0) _ rfl (by (with_reducible repeat (first | refine blk_drewN ?_ _ | refine blk_drew ?_ | refine blk_alloc ?_ _)); refine blk_put (cs := #[.slice none 0 0, .slice none 0 0]) ?_ 1 _ rfl; (with_reducible repeat (first | refine blk_drewN ?_ _ | refine blk_drew ?_ | refine blk_alloc ?_ _)); refine blk_put (cs := #[.slice none 0 0, .slice none 0 0]) ?_ 0 _ rfl; (with_reducible repeat (first | refine blk_drewN ?_ _ | refine blk_drew ?_ | refine blk_alloc ?_ _)); exact BK103.out) Tryz.underlying25 rfl (by kernel_rfl)) rfl ?_;exact ⟨_, _, by first | rfl | (simp [errW_none, errW_some] <;> rfl) | (simp [*, errW_none, errW_some] <;> rfl), by first | exact Kd.R_nil _ _ _ _ _ | exact Kd.N_nil _ _ _ _ _ | exact Kd.V_nil _ _ _ _ _ | exact Kd.Q_nil _ _ _ _ _ | exact Kd.S_nil _ _ _ _ _, by first | exact Kd.R_nil _ _ _ _ _ | exact Kd.N_nil _ _ _ _ _ | exact Kd.V_nil _ _ _ _ _ | exact Kd.Q_nil _ _ _ _ _ | exact Kd.S_nil _ _ _ _ _, T9_⟩
      ·
       replace c33 := Bool.eq_false_iff.mpr c33;subst c33;rw [if_neg (show ¬ (false = true) by decide)] at H
       by_cases c37 : 0 < (l0_0.length : Int)
       ·
        rw [if_pos c37] at H;have c37b0 := decide_eq_true c37;have c37b1 : decide (0 < l0_0.length) = true := decide_eq_true (by omega);clear c37
        by_cases c38 : 1 < (l0_0.length : Int)
        ·
         rw [if_pos c38] at H;have c38b0 := decide_eq_true c38;have c38b1 : decide (1 < l0_0.length) = true := decide_eq_true (by omega);clear c38
         by_cases c39 : 1 < (l1_0.length : Int)
         ·
          rw [if_pos c39] at H;have c39b0 := decide_eq_true c39;have c39b1 : decide (1 < l1_0.length) = true := decide_eq_true (by omega);clear c39;obtain ⟨y111, hy_⟩ : ∃ y_ : List Int, y_ = (([rd l0_0 0, rd l1_0 1] : List Int)) := ⟨_, rfl⟩
          replace H : ((shape_Right.f y111).bind fun t115 => (if t115 = true then (array_MatMul.l0 kj24 (rd l0_0 1) (rd l1_0 1) (rd l0_0 0) 0 l0_0 l0_1 l1_0 l1_1 y111 ([] : List ByteArray)) else (some (([] : List Int), ([] : List ByteArray), 4)))) = some (r1, r2, r3) := RH_
          have Ny111 := A_ hy_;clear hy_;replace H := BE_ H;obtain ⟨t115, A400, H⟩ := H;have A40 := A_ A400;clear A400
          by_cases c41 : t115 = true
          ·
           subst c41;rw [if_pos rfl] at H;have H' := A_ H;clear H
           try go_wp2
           replace BK101 := A_ (blk_drew BK101.out);replace BK102 := A_ (blk_drew BK102.out);replace BK103 := A_ (blk_drew BK103.out);replace HB := A_ (below_drew1 HB.out);have p108 : 0 ≤ (0 : Int) := (by omega);have q108 : 0 < (l0_0.length : Int) := DA_;obtain ⟨ad108, e108, hx108_0⟩ := Kd.at_int HR0_0.out 0 p108 q108;have hw108_0 := hx108_0
           (try rw [show ((0 : Int)).toNat = 0 from rfl] at hw108_0)
           (try rw [show 0 * 1 = 0 from rfl] at hw108_0)
           (try rw [Addr.add_zero'] at hw108_0)
           cases e108
           have qi108 : (0 < l0_0.length) = True := eq_true (by omega)
           (try rw [show ((0 : Int)).toNat = 0 from rfl] at hx108_0)
           (try rw [Addr.add_zero'] at hx108_0)
           replace hx108_0 := (HB.out.cell (World.block_lt_of_cell? w _ hx108_0)).trans hx108_0;replace p108 := eq_true p108;replace q108 := eq_true q108;have p109 : 0 ≤ (1 : Int) := (by omega);have q109 : 1 < (l0_0.length : Int) := DA_;obtain ⟨ad109, e109, hx109_0⟩ := Kd.at_int HR0_0.out 1 p109 q109;have hw109_0 := hx109_0
           (try rw [show ((1 : Int)).toNat = 1 from rfl] at hw109_0)
           (try rw [show 1 * 1 = 1 from rfl] at hw109_0)
           (try simp only [Nat.reduceMul, Nat.reduceEqDiff, Go.Addr.add, ↓reduceIte] at hw109_0)
           obtain rfl : ad108 = ad109 := (by injection e109)
           (try simp only [show (1 : Int).toNat = 1 from rfl, Nat.reduceMul, Nat.reduceEqDiff, Go.Addr.add, ↓reduceIte] at hx109_0)
           have qi109 : (1 < l0_0.length) = True := eq_true (by omega)
           (try rw [show ((1 : Int)).toNat = 1 from rfl] at hx109_0)
           replace hx109_0 := (HB.out.cell (World.block_lt_of_cell? w _ hx109_0)).trans hx109_0;replace p109 := eq_true p109;replace q109 := eq_true q109;have p110 : 0 ≤ (1 : Int) := (by omega);have q110 : 1 < (l1_0.length : Int) := DA_;obtain ⟨ad110, e110, hx110_0⟩ := Kd.at_int HR1_0.out 1 p110 q110;have hw110_0 := hx110_0
           (try rw [show ((1 : Int)).toNat = 1 from rfl] at hw110_0)
           (try rw [show 1 * 1 = 1 from rfl] at hw110_0)
           (try simp only [Nat.reduceMul, Nat.reduceEqDiff, Go.Addr.add, ↓reduceIte] at hw110_0)
           cases e110
           (try simp only [show (1 : Int).toNat = 1 from rfl, Nat.reduceMul, Nat.reduceEqDiff, Go.Addr.add, ↓reduceIte] at hx110_0)
           have qi110 : (1 < l1_0.length) = True := eq_true (by omega)
           (try rw [show ((1 : Int)).toNat = 1 from rfl] at hx110_0)
           replace hx110_0 := (HB.out.cell (World.block_lt_of_cell? w _ hx110_0)).trans hx110_0;replace p110 := eq_true p110;replace q110 := eq_true q110;refine start_ (n := 15) (S := fun w' => w'.cell? ⟨gb101, 0, none⟩ = some (.slice (some ad108) l0_0.length c0_0) ∧ w'.cell? ⟨gb101, 1, none⟩ = some (.slice A0_1 l0_1.length c0_1) ∧ w'.cell? ⟨gb102, 0, none⟩ = some (.slice (some ad110) l1_0.length c1_0) ∧ w'.cell? ⟨gb102, 1, none⟩ = some (.slice A1_1 l1_1.length c1_1) ∧ w'.cell? ad108 = some (.int .i64 (rd l0_0 0)) ∧ w'.cell? ⟨ad108.block, ad108.off + 1, none⟩ = some (.int .i64 (rd l0_0 1)) ∧ w'.cell? ⟨ad110.block, ad110.off + 1, none⟩ = some (.int .i64 (rd l1_0 1))) (ds := []) #[false, false, false, false, false, false, false, false, false, false, false, false, false, false, false] (by kernel_rfl) rfl rfl ⟨(blk_cell BK101.out 0).trans rfl, (blk_cell BK101.out 1).trans rfl, (blk_cell BK102.out 0).trans rfl, (blk_cell BK102.out 1).trans rfl, ((HB.out.cell (World.block_lt_of_cell? w _ hw108_0)).trans hw108_0), ((HB.out.cell (World.block_lt_of_cell? w _ hw109_0)).trans hw109_0), ((HB.out.cell (World.block_lt_of_cell? w _ hw110_0)).trans hw110_0)⟩ (fun hHeld => ?_); refine with_tabW array_MatMul.tab5 array_MatMul.bits5 (fun HT_ HW_ => ?_);generalize wc.drew = w42 at BK101 BK102 BK103 HB hx108_0 hx109_0 hx110_0 hHeld ⊢;refine PU_ 0 47 ?_;refine PU_ 4 51 ?_;refine PU_ 8 55 ?_;refine TK_ 1 48 rfl (by rfl) (by rintro w' ⟨s0, s1, s2, s3, s4, s5, s6⟩;go_simp;with_reducible rfl) hHeld ?_
           refine PU_ 2 49 ?_;refine TK_ 3 50 rfl (by rfl) (by rintro w' ⟨s0, s1, s2, s3, s4, s5, s6⟩;go_simp;with_reducible rfl) hHeld ?_
           refine PU_ 12 6 ?_;refine TK_ 5 52 rfl (by rfl) (by rintro w' ⟨s0, s1, s2, s3, s4, s5, s6⟩;go_simp;with_reducible rfl) hHeld ?_
           refine PU_ 6 53 ?_;refine TK_ 7 54 rfl (by rfl) (by rintro w' ⟨s0, s1, s2, s3, s4, s5, s6⟩;go_simp;with_reducible rfl) hHeld ?_
           refine PU_ 13 7 ?_;refine TK_ 9 56 rfl (by rfl) (by rintro w' ⟨s0, s1, s2, s3, s4, s5, s6⟩;go_simp;with_reducible rfl) hHeld ?_
           refine PU_ 10 57 ?_;refine TK_ 11 58 rfl (by rfl) (by rintro w' ⟨s0, s1, s2, s3, s4, s5, s6⟩;go_simp;with_reducible rfl) hHeld ?_
           refine PU_ 14 8 ?_
           refine done_ (done_of HT_.out (by kernel_rfl)) ?_
           try go_wp2_with (first | ((with_reducible refine gate_dst (N := 61) rfl ?_); (try (refine gate_guard (by rfl) ?_; dsimp only)); refine Kd.R_lit (Kd.int .i64) _ 3 ?hg (N := 61) ?hd (xs := ([rd l0_0 0, rd l1_0 1] : List Int)) (inner := [.int .i64 (rd l0_0 0), .int .i64 (rd l1_0 1)]) (ok := fun _ => True) (okp := fun _ => True) ?hr ?hp (fun _ hk => hk) trivial (Below.refl _ _) (Nat.le_refl _) (by simp) ?_; (case hd => rfl); (case hg => rfl); (case hr => exact T3_); (case hp => exact (Reps.one (show Kd.M (Kd.int .i64) _ _ _ (rd l0_0 0) [.int .i64 (rd l0_0 0)] from rfl) (Reps.one (show Kd.M (Kd.int .i64) _ _ _ (rd l1_0 1) [.int .i64 (rd l1_0 1)] from rfl) (Reps.none _ _)))); intro v112 w43 ho44 hb hg_ hnew_; clear hg_ hnew_; (first | rw [← Ny111.out] at ho44 | (simp only [Int.reduceToNat] at ho44; rw [← Ny111.out] at ho44)); have HO113 := A_ (Kd.R_lower ho44 (below_size T9_)); replace BK101 := BF_ BK101 hb; replace BK102 := BF_ BK102 hb; replace BK103 := BF_ BK103 hb; replace HB := BU_ hb; clear hb ho44; obtain ⟨Ao45, co45, eo45⟩ := Kd.R_slice HO113.out; subst eo45) | ((with_reducible refine gate_dst (N := 9) rfl ?_); (try (refine gate_guard (by rfl) ?_; dsimp only)); refine BX_ 9 #[.slice none 0 0, .slice none 0 0] 25 ?_; intro gb114 hg w46 hbox hb; replace HO113 := RC_ HO113 hb; have BK114 := A_ (hbox); have GE114 := GE_ hg; replace HB := BU_ hb; have NB101_114 := NB_ BK101 hg; have NB114_101 := NC_ BK101 hg; replace BK101 := BF_ BK101 hb; have NB102_114 := NB_ BK102 hg; have NB114_102 := NC_ BK102 hg; replace BK102 := BF_ BK102 hb; have NB103_114 := NB_ BK103 hg; have NB114_103 := NC_ BK103 hg; replace BK103 := BF_ BK103 hb; clear hb hbox hg; have hnb47 := NB114_101.out; have hnc47 := NB101_114.out; have hnb48 := NB114_102.out; have hnc48 := NB102_114.out; have hnb49 := NB114_103.out; have hnc49 := NB103_114.out; obtain ⟨hcz50_0, hcz50_1, hfz50_0, hfz50_1⟩ := CF_ BK114) | (refine GL_ 30 65 Tryz.func30 #[.slice Ao45 y111.length co45] ?_; (with_reducible refine (shape_Right.calls _ _ y111 true _ ?side1 ?side2 A40.out).mono ?_); (case side1 => refine (Kd.R_reads' (e := 3) (base := w.heap.size) (ok := fun k_ => True) (n := y111.length) (c := co45) ?_).2.2; exact (RW_ HO113).out); (case side2 => exact (Kd.R_reads' HO113.out).2.1); rintro e w51 ⟨rfl, hb⟩; refine ⟨_, rfl, ?_⟩; replace HO113 := RC_ HO113 hb; replace BK101 := BG_ BK101 hb; replace BK102 := BG_ BK102 hb; replace BK103 := BG_ BK103 hb; replace BK114 := BP_ BK114 hb; replace HB := BU_ hb; clear hb))
           go_loopg [69] kj24 (fun kq v69 w' => ∃ (x69_3 : Int) (x115001_3 : List ByteArray) (u115001 : Value), v69 = .int .i64 x69_3 ∧ Aside0 (array_MatMul.l0 kq (rd l0_0 1) (rd l1_0 1) (rd l0_0 0) x69_3 l0_0 l0_1 l1_0 l1_1 y111 x115001_3 = some (r1, r2, r3)) ∧ Aside0 (kq ≤ kj24) ∧ Aside0 (Kd.R (Kd.int .i64) 3 w' w.heap.size (fun _ => True) (.slice Ao45 y111.length co45) y111) ∧ Aside0 (Kd.R Kd.string 9 w' w.heap.size (fun _ => True) u115001 x115001_3) ∧ Aside0 (w'.heap[gb101]? = some (.cells #[(.slice (some ad108) l0_0.length c0_0), (.slice A0_1 l0_1.length c0_1)] 25 (0, 0))) ∧ Aside0 (w'.heap[gb102]? = some (.cells #[(.slice (some ad110) l1_0.length c1_0), (.slice A1_1 l1_1.length c1_1)] 25 (0, 0))) ∧ Aside0 (w'.heap[gb103]? = some (.cells #[(.slice none 0 0), (.slice none 0 0)] 25 (0, 0))) ∧ Aside0 (w'.heap[gb114]? = some (.cells #[(.slice Ao45 y111.length co45), u115001] 25 (0, 0))) ∧ Aside0 (Below w.heap.size w w'))
           case atStart => exact ⟨(0), (([] : List ByteArray)), (.slice none 0 0), S1_, H', ⟨Nat.le_refl _⟩, ⟨by (with_reducible repeat (first | apply Kd.R_alloc | apply Kd.R_drewN | apply Kd.R_drew)); exact HO113.out⟩, ⟨by first | exact Kd.R_nil _ _ _ _ _ | exact Kd.N_nil _ _ _ _ _ | exact Kd.V_nil _ _ _ _ _ | exact Kd.Q_nil _ _ _ _ _ | exact Kd.S_nil _ _ _ _ _⟩, BW_ BK101, BW_ BK102, BW_ BK103, BW_ BK114, ⟨T9_⟩⟩
           case round =>
            clear H'
            try clear c21
            try clear c33
            try clear c37
            try clear c37b0
            try clear c37b1
            try clear c38
            try clear c38b0
            try clear c38b1
            try clear c39
            try clear c39b0
            try clear c39b1
            try clear c41
            try clear hcz50_0
            try clear hcz50_1
            try clear hfz50_0
            try clear hfz50_1
            try clear hx108_0
            try clear hx109_0
            try clear hx110_0
            try clear p108
            try clear p109
            try clear p110
            try clear q108
            try clear q109
            try clear q110
            obtain ⟨x69_3, x115001_3, u115001, rfl, HA, HK3, HO_115000, HO_115001, BK101, BK102, BK103, BK114, HB⟩ := hrel
            cases gk with
            | zero => exact absurd HA.out (by simp [array_MatMul.l0])
            | succ k3 =>
             have H := HA.out;clear HA;simp only [array_MatMul.l0] at H
             by_cases c52 : x69_3 < (rd l0_0 0)
             ·
              rw [if_pos c52] at H;have c52b0 := decide_eq_true c52;clear c52;have H' := A_ H;clear H
              go_wp2
              go_loopg [73] k3 (fun kq v73 w' => ∃ (x73_4 : Int) (x115001_4 : List ByteArray) (u115001 : Value), v73 = .int .i64 x73_4 ∧ Aside0 (array_MatMul.l1 kq (rd l0_0 1) (rd l1_0 1) x69_3 (rd l0_0 0) x69_3 (rd l1_0 1) x73_4 l0_0 l0_1 l1_0 l1_1 y111 x115001_4 = some (r1, r2, r3)) ∧ Aside0 (kq ≤ k3) ∧ Aside0 (Kd.R (Kd.int .i64) 3 w' w.heap.size (fun _ => True) (.slice Ao45 y111.length co45) y111) ∧ Aside0 (Kd.R Kd.string 9 w' w.heap.size (fun _ => True) u115001 x115001_4) ∧ Aside0 (w'.heap[gb101]? = some (.cells #[(.slice (some ad108) l0_0.length c0_0), (.slice A0_1 l0_1.length c0_1)] 25 (0, 0))) ∧ Aside0 (w'.heap[gb102]? = some (.cells #[(.slice (some ad110) l1_0.length c1_0), (.slice A1_1 l1_1.length c1_1)] 25 (0, 0))) ∧ Aside0 (w'.heap[gb103]? = some (.cells #[(.slice none 0 0), (.slice none 0 0)] 25 (0, 0))) ∧ Aside0 (w'.heap[gb114]? = some (.cells #[(.slice Ao45 y111.length co45), u115001] 25 (0, 0))) ∧ Aside0 (Below w.heap.size w w'))
              case atStart => exact ⟨(0), (x115001_3), (u115001), S1_, H', ⟨Nat.le_refl _⟩, ⟨by (with_reducible repeat (first | apply Kd.R_alloc | apply Kd.R_drewN | apply Kd.R_drew)); exact HO_115000.out⟩, ⟨by (with_reducible repeat (first | apply Kd.R_alloc | apply Kd.R_drewN | apply Kd.R_drew)); exact HO_115001.out⟩, BW_ BK101, BW_ BK102, BW_ BK103, BW_ BK114, ⟨T9_⟩⟩
              case round =>
               clear H'
               try clear c21
               try clear c33
               try clear c37
               try clear c37b0
               try clear c37b1
               try clear c38
               try clear c38b0
               try clear c38b1
               try clear c39
               try clear c39b0
               try clear c39b1
               try clear c41
               try clear c52
               try clear c52b0
               try clear hcz50_0
               try clear hcz50_1
               try clear hfz50_0
               try clear hfz50_1
               try clear hx108_0
               try clear hx109_0
               try clear hx110_0
               try clear p108
               try clear p109
               try clear p110
               try clear q108
               try clear q109
               try clear q110
               obtain ⟨x73_4, x115001_4, u115001, rfl, HA, HK4, HO_115000, HO_115001, BK101, BK102, BK103, BK114, HB⟩ := hrel
               cases gk with
               | zero => exact absurd HA.out (by simp [array_MatMul.l1])
               | succ k4 =>
                have H := HA.out;clear HA;simp only [array_MatMul.l1] at H
                by_cases c53 : x73_4 < (rd l1_0 1)
                ·
                 rw [if_pos c53] at H;have c53b0 := decide_eq_true c53;clear c53;have H' := A_ H;clear H
                 go_wp2
                 go_loopg [12, 77] k4 (fun kq v12 v77 w' => ∃ (x12_5 : ByteArray) (x77_5 : Int), v12 = .string x12_5 ∧ v77 = .int .i64 x77_5 ∧ Aside0 (array_MatMul.l2 kq (rd l0_0 1) (rd l1_0 1) x69_3 x73_4 x12_5 (rd l0_0 0) x69_3 (rd l1_0 1) x73_4 (rd l0_0 1) x77_5 l0_0 l0_1 l1_0 l1_1 y111 x115001_4 = some (r1, r2, r3)) ∧ Aside0 (kq ≤ k4) ∧ Aside0 (Kd.R (Kd.int .i64) 3 w' w.heap.size (fun _ => True) (.slice Ao45 y111.length co45) y111) ∧ Aside0 (Kd.R Kd.string 9 w' w.heap.size (fun _ => True) u115001 x115001_4) ∧ Aside0 (w'.heap[gb101]? = some (.cells #[(.slice (some ad108) l0_0.length c0_0), (.slice A0_1 l0_1.length c0_1)] 25 (0, 0))) ∧ Aside0 (w'.heap[gb102]? = some (.cells #[(.slice (some ad110) l1_0.length c1_0), (.slice A1_1 l1_1.length c1_1)] 25 (0, 0))) ∧ Aside0 (w'.heap[gb103]? = some (.cells #[(.slice none 0 0), (.slice none 0 0)] 25 (0, 0))) ∧ Aside0 (w'.heap[gb114]? = some (.cells #[(.slice Ao45 y111.length co45), u115001] 25 (0, 0))) ∧ Aside0 (Below w.heap.size w w'))
                 case atStart => exact ⟨((⟨#[48]⟩ : ByteArray)), (0), S1_, S1_, H', ⟨Nat.le_refl _⟩, ⟨by (with_reducible repeat (first | apply Kd.R_alloc | apply Kd.R_drewN | apply Kd.R_drew)); exact HO_115000.out⟩, ⟨by (with_reducible repeat (first | apply Kd.R_alloc | apply Kd.R_drewN | apply Kd.R_drew)); exact HO_115001.out⟩, BW_ BK101, BW_ BK102, BW_ BK103, BW_ BK114, ⟨T9_⟩⟩
                 case round =>
                  clear H'
                  try clear c21
                  try clear c33
                  try clear c37
                  try clear c37b0
                  try clear c37b1
                  try clear c38
                  try clear c38b0
                  try clear c38b1
                  try clear c39
                  try clear c39b0
                  try clear c39b1
                  try clear c41
                  try clear c52
                  try clear c52b0
                  try clear c53
                  try clear c53b0
                  try clear hcz50_0
                  try clear hcz50_1
                  try clear hfz50_0
                  try clear hfz50_1
                  try clear hx108_0
                  try clear hx109_0
                  try clear hx110_0
                  try clear p108
                  try clear p109
                  try clear p110
                  try clear q108
                  try clear q109
                  try clear q110
                  obtain ⟨x12_5, x77_5, rfl, rfl, HA, HK5, HO_115000, HO_115001, BK101, BK102, BK103, BK114, HB⟩ := hrel
                  cases gk with
                  | zero => exact absurd HA.out (by simp [array_MatMul.l2])
                  | succ k5 =>
                   have H := HA.out;clear HA;simp only [array_MatMul.l2] at H
                   by_cases c54 : x77_5 < (rd l0_0 1)
                   ·
                    rw [if_pos c54] at H;have c54b0 := decide_eq_true c54;clear c54;obtain ⟨ji55, hji55⟩ : ∃ j_ : Int, (wrap64 ((wrap64 (x69_3 * (rd l0_0 1))) + x77_5)) = j_ := ⟨_, rfl⟩
                    first | rw [hji55] at H | simp only [hji55] at H
                    have hji55w : (IntKind.i64.wrap ((wrap64 (x69_3 * (rd l0_0 1))) + x77_5)) = ji55 := (i64_w _).trans hji55
                    by_cases c56 : 0 ≤ (ji55)
                    ·
                     rw [if_pos c56] at H;have c56b0 := decide_eq_true c56;clear c56
                     by_cases c57 : (ji55) < (l0_1.length : Int)
                     ·
                      rw [if_pos c57] at H;have c57b0 := decide_eq_true c57;clear c57;obtain ⟨ji58, hji58⟩ : ∃ j_ : Int, (wrap64 ((wrap64 (x77_5 * (rd l1_0 1))) + x73_4)) = j_ := ⟨_, rfl⟩
                      first | rw [hji58] at H | simp only [hji58] at H
                      have hji58w : (IntKind.i64.wrap ((wrap64 (x77_5 * (rd l1_0 1))) + x73_4)) = ji58 := (i64_w _).trans hji58
                      by_cases c59 : 0 ≤ (ji58)
                      ·
                       rw [if_pos c59] at H;have c59b0 := decide_eq_true c59;clear c59
                       by_cases c60 : (ji58) < (l1_1.length : Int)
                       ·
                        rw [if_pos c60] at H;have c60b0 := decide_eq_true c60;clear c60;replace H := BE_ H;obtain ⟨⟨t118, t119⟩, A610, H⟩ := H;have A61 := A_ A610;clear A610;replace H := BE_ H;obtain ⟨⟨t120, t121⟩, A620, H⟩ := H;have A62 := A_ A620;clear A620;have H' := A_ H;clear H
                        try go_wp2
                        replace HO_115000 := A_ (Kd.R_drew HO_115000.out);replace HO_115001 := A_ (Kd.R_drew HO_115001.out);replace BK101 := A_ (blk_drew BK101.out);replace BK102 := A_ (blk_drew BK102.out);replace BK103 := A_ (blk_drew BK103.out);replace BK114 := A_ (blk_drew BK114.out);replace HB := A_ (below_drew1 HB.out);have p116 : 0 ≤ ((ji55) : Int) := DA_;have q116 : (ji55) < (l0_1.length : Int) := DA_;obtain ⟨ad116, e116, hx116_0⟩ := Kd.at_string HR0_1.out (ji55) p116 q116;have hw116_0 := hx116_0
                        cases e116
                        replace hx116_0 := (HB.out.cell (World.block_lt_of_cell? w _ hx116_0)).trans hx116_0;replace p116 := eq_true p116;replace q116 := eq_true q116;have p117 : 0 ≤ ((ji58) : Int) := DA_;have q117 : (ji58) < (l1_1.length : Int) := DA_;obtain ⟨ad117, e117, hx117_0⟩ := Kd.at_string HR1_1.out (ji58) p117 q117;have hw117_0 := hx117_0
                        cases e117
                        replace hx117_0 := (HB.out.cell (World.block_lt_of_cell? w _ hx117_0)).trans hx117_0;replace p117 := eq_true p117;replace q117 := eq_true q117;refine start_ (n := 24) (S := fun w' => w'.cell? ⟨gb101, 0, none⟩ = some (.slice (some ad108) l0_0.length c0_0) ∧ w'.cell? ⟨gb101, 1, none⟩ = some (.slice (some ad116) l0_1.length c0_1) ∧ w'.cell? ⟨gb102, 0, none⟩ = some (.slice (some ad110) l1_0.length c1_0) ∧ w'.cell? ⟨gb102, 1, none⟩ = some (.slice (some ad117) l1_1.length c1_1) ∧ w'.cell? (ad116.add ((ji55)).toNat) = some (.string (rdOf ByteArray.empty l0_1 (ji55))) ∧ w'.cell? (ad117.add ((ji58)).toNat) = some (.string (rdOf ByteArray.empty l1_1 (ji58)))) (ds := []) #[false, false, false, false, false, false, false, false, false, false, false, false, false, false, false, false, false, false, false, false, false, false, false, false] (by kernel_rfl) rfl rfl ⟨(blk_cell BK101.out 0).trans rfl, (blk_cell BK101.out 1).trans rfl, (blk_cell BK102.out 0).trans rfl, (blk_cell BK102.out 1).trans rfl, ((HB.out.cell (World.block_lt_of_cell? w _ hw116_0)).trans hw116_0), ((HB.out.cell (World.block_lt_of_cell? w _ hw117_0)).trans hw117_0)⟩ (fun hHeld => ?_); refine with_tabW array_MatMul.tab19 array_MatMul.bits19 (fun HT_ HW_ => ?_);generalize wr.drew = w63 at HO_115000 HO_115001 BK101 BK102 BK103 BK114 HB hx116_0 hx117_0 hHeld ⊢;refine PU_ 0 81 ?_;refine PU_ 2 83 ?_;refine PU_ 3 84 ?_;refine PU_ 4 85 ?_;refine PU_ 5 86 ?_;refine PU_ 6 87 ?_;refine PU_ 9 90 ?_;refine PU_ 11 92 ?_;refine PU_ 12 93 ?_;refine PU_ 13 94 ?_;refine PU_ 14 95 ?_;refine PU_ 15 96 ?_;refine TK_ 1 82 rfl (by rfl) (by rintro w' ⟨s0, s1, s2, s3, s4, s5⟩;go_simp;with_reducible rfl) hHeld ?_
                        refine PU_ 7 88 ?_;refine TK_ 8 89 rfl (by rfl) (by rintro w' ⟨s0, s1, s2, s3, s4, s5⟩;go_simp;with_reducible rfl) hHeld ?_
                        refine TK_ 10 91 rfl (by rfl) (by rintro w' ⟨s0, s1, s2, s3, s4, s5⟩;go_simp;with_reducible rfl) hHeld ?_
                        refine PU_ 16 97 ?_;refine TK_ 17 98 rfl (by rfl) (by rintro w' ⟨s0, s1, s2, s3, s4, s5⟩;go_simp;with_reducible rfl) hHeld ?_
                        refine one_ (i := 18) (N := some 99) #[true, true, true, true, true, true, true, true, true, true, true, true, true, true, true, true, true, true, true, false, false, false, false, false] rfl rfl (one_of HT_.out (by kernel_rfl)) (by decide) (fun K hK => ?_);refine goes_ Tryz.func34 (by kernel_rfl) rfl #[.string (rdOf ByteArray.empty l0_1 (ji55)), .string (rdOf ByteArray.empty l1_1 (ji58))] (by rfl) rfl rfl (by (try simp only [List.map_toArray, List.map_cons, List.map_nil]); first | done | (simp only [hji55, hji58]; rfl) | rfl | (simp only [List.length_drop, List.length_take]; rfl)) ?_
                        with_reducible refine (rat_Mul.calls (rdOf ByteArray.empty l0_1 (ji55)) (rdOf ByteArray.empty l1_1 (ji58)) t118 t119 _ (Err.Gs.below HGs.out T9_) A61.out).mono ?_
                        rintro e w64 ⟨rfl, hb⟩;refine ⟨_, rfl, ?_⟩;replace HO_115000 := RC_ HO_115000 hb;replace HO_115001 := RC_ HO_115001 hb;replace BK101 := BF_ BK101 hb;replace BK102 := BF_ BK102 hb;replace BK103 := BF_ BK103 hb;replace BK114 := BF_ BK114 hb;replace HB := BU_ hb
                        (try clear hb)
                        (try clear hb2)
                        (try clear hk)
                        (try clear hi)
                        refine hK.out _ _ ⟨(blk_cell BK101.out 0).trans rfl, (blk_cell BK101.out 1).trans rfl, (blk_cell BK102.out 0).trans rfl, (blk_cell BK102.out 1).trans rfl, ((HB.out.cell (World.block_lt_of_cell? w _ hw116_0)).trans hw116_0), ((HB.out.cell (World.block_lt_of_cell? w _ hw117_0)).trans hw117_0)⟩ (fun hHeld => ?_);clear hK K;refine norm_ (a' := ?_) ?_ ?_;rotate_left
                        ·
                         show Act.put _ (some 99) _ = _
                         simp only [Act.put, List.setIfInBounds_toArray, List.set_cons_zero, List.set_cons_succ, i64_w, i32_w];rfl
                        refine PU_ 19 80 ?_;refine PU_ 20 100 ?_;refine PU_ 21 101 ?_;refine PU_ 22 14 ?_;refine PU_ 23 15 ?_
                        refine done_ (done_of HT_.out (by kernel_rfl)) ?_
                        try go_wp2_with (first | (refine GL_ 25 105 Tryz.func25 #[.string x12_5, .string t118] ?_; (with_reducible refine (rat_Add.calls x12_5 t118 t120 t121 _ (Err.Gs.below HGs.out T9_) A62.out).mono ?_); rintro e w65 ⟨rfl, hb⟩; refine ⟨_, rfl, ?_⟩; replace HO_115000 := RC_ HO_115000 hb; replace HO_115001 := RC_ HO_115001 hb; replace BK101 := BF_ BK101 hb; replace BK102 := BF_ BK102 hb; replace BK103 := BF_ BK103 hb; replace BK114 := BF_ BK114 hb; replace HB := BU_ hb; clear hb))
                        go_roundg k5
                        case measure => have := HJ2.out; have := HJ24.out; have := HK3.out; have := HK4.out; have := HK5.out; omega
                        case rel => exact ⟨(t120), (wrap64 (x77_5 + 1)), S1_, S1_, H', ⟨by have := HJ2.out; have := HJ24.out; have := HK3.out; have := HK4.out; have := HK5.out; omega⟩, ⟨by (with_reducible repeat (first | apply Kd.R_alloc | apply Kd.R_drewN | apply Kd.R_drew)); exact HO_115000.out⟩, ⟨by (with_reducible repeat (first | apply Kd.R_alloc | apply Kd.R_drewN | apply Kd.R_drew)); exact HO_115001.out⟩, BW_ BK101, BW_ BK102, BW_ BK103, BW_ BK114, ⟨T9_⟩⟩
                       ·
                        rw [if_neg c60] at H;exact absurd H (by simp)
                      ·
                       rw [if_neg c59] at H;exact absurd H (by simp)
                     ·
                      rw [if_neg c57] at H;exact absurd H (by simp)
                    ·
                     rw [if_neg c56] at H;exact absurd H (by simp)
                   ·
                    rw [if_neg c54] at H;have c54b0 := decide_eq_false c54;clear c54
                    by_cases c66 : x115001_4.length < 8796093022208
                    ·
                     rw [if_pos c66] at H;have LMc66 := A_ c66;clear c66;obtain ⟨y122, hy_⟩ : ∃ y_ : List ByteArray, y_ = (x115001_4 ++ [x12_5]) := ⟨_, rfl⟩
                     replace H : (array_MatMul.l1 k5 (rd l0_0 1) (rd l1_0 1) x69_3 (rd l0_0 0) x69_3 (rd l1_0 1) (wrap64 (x73_4 + 1)) l0_0 l0_1 l1_0 l1_1 y111 y122) = some (r1, r2, r3) := RH_
                     have Ny122 := A_ hy_;clear hy_;have H' := A_ H;clear H;have hnb67 := NB114_101.out;have hnc67 := NB101_114.out;have hnb68 := NB114_102.out;have hnc68 := NB102_114.out;have hnb69 := NB114_103.out;have hnc69 := NB103_114.out;obtain ⟨hcz70_0, hcz70_1, hfz70_0, hfz70_1⟩ := CF_ BK114
                     go_wp2_with (first | ((with_reducible refine gate_builtin (b := .append) (xs := #[.tmp 110, .tmp 112]) rfl ?_); (try (refine gate_guard (by rfl) ?_; dsimp only)); at_builtin; refine Kd.R_append Kd.string (w0 := w) w.heap.size rfl (.tmp 110) (.tmp 112) 23 9 (.string ⟨#[]⟩) 16 rfl Tryz.underlying23 info9 rfl (by decide) (by omega) u115001 x115001_4 x12_5 [.string x12_5] (fun _ => True) (fun _ => False) rfl rfl ?aP (fun _ hk => hk.elim) ?aF ?aO ?aB ?aS ?aL ?_; (case aP => exact rfl); (case aB => exact T9_); (case aF => exact (fun _ _ => trivial)); (case aO => exact (K1_ HO_115001)); (case aS => exact (below_size T9_)); (case aL => have := LMc66.out; omega); intro v123 w71 ho hb hg hat; rw [← Ny122.out] at ho; replace HO_115000 := A_ (Kd.R_over' (K1_ HO_115000) (Kd.R_typed (K1_ HO_115001)) (by decide) hg); have HO124 := A_ (ho); replace BK101 := A_ (blk_grown (g := gb101) (o := .cells #[.slice (some ad108) l0_0.length c0_0, .slice A0_1 l0_1.length c0_1] 25 (0, 0)) (B1_ BK101.out) hg (Kd.R_ne HO_115001.out BK101.out (by decide))); replace BK102 := A_ (blk_grown (g := gb102) (o := .cells #[.slice (some ad110) l1_0.length c1_0, .slice A1_1 l1_1.length c1_1] 25 (0, 0)) (B1_ BK102.out) hg (Kd.R_ne HO_115001.out BK102.out (by decide))); replace BK103 := A_ (blk_grown (g := gb103) (o := .cells #[.slice none 0 0, .slice none 0 0] 25 (0, 0)) (B1_ BK103.out) hg (Kd.R_ne HO_115001.out BK103.out (by decide))); replace BK114 := A_ (blk_grown (g := gb114) (o := .cells #[.slice Ao45 y111.length co45, u115001] 25 (0, 0)) (B1_ BK114.out) hg (Kd.R_ne HO_115001.out BK114.out (by decide))); replace HB := A_ (hb); clear HO_115001; clear ho hb hg hat; obtain ⟨Ao72, co72, eo72⟩ := Kd.R_slice HO124.out; subst eo72; obtain ⟨hcz73_0, hcz73_1, hfz73_0, hfz73_1⟩ := CF_ BK114))
                     go_roundg k5
                     case measure => have := HJ2.out; have := HJ24.out; have := HK3.out; have := HK4.out; have := HK5.out; omega
                     case rel => exact ⟨(wrap64 (x73_4 + 1)), (y122), (.slice Ao72 y122.length co72), S1_, H', ⟨by have := HJ2.out; have := HJ24.out; have := HK3.out; have := HK4.out; have := HK5.out; omega⟩, RW_ HO_115000, RW_ HO124, BW_ BK101, BW_ BK102, BW_ BK103, ⟨by (with_reducible repeat (first | refine blk_drewN ?_ _ | refine blk_drew ?_ | refine blk_alloc ?_ _)); refine blk_put (cs := #[.slice Ao45 y111.length co45, u115001]) ?_ 1 _ rfl; (with_reducible repeat (first | refine blk_drewN ?_ _ | refine blk_drew ?_ | refine blk_alloc ?_ _)); exact BK114.out⟩, ⟨T9_⟩⟩
                    ·
                     rw [if_neg c66] at H;exact absurd H (by simp)
                ·
                 rw [if_neg c53] at H;have c53b0 := decide_eq_false c53;clear c53;have H' := A_ H;clear H
                 go_wp2
                 go_roundg k4
                 case measure => have := HJ2.out; have := HJ24.out; have := HK3.out; have := HK4.out; omega
                 case rel => exact ⟨(wrap64 (x69_3 + 1)), (x115001_4), (u115001), S1_, H', ⟨by have := HJ2.out; have := HJ24.out; have := HK3.out; have := HK4.out; omega⟩, ⟨by (with_reducible repeat (first | apply Kd.R_alloc | apply Kd.R_drewN | apply Kd.R_drew)); exact HO_115000.out⟩, ⟨by (with_reducible repeat (first | apply Kd.R_alloc | apply Kd.R_drewN | apply Kd.R_drew)); exact HO_115001.out⟩, BW_ BK101, BW_ BK102, BW_ BK103, BW_ BK114, ⟨T9_⟩⟩
             ·
              rw [if_neg c52] at H;have c52b0 := decide_eq_false c52;clear c52;simp only [Option.some.injEq, Prod.mk.injEq] at H;obtain ⟨rfl, rfl, rfl⟩ := H;have hnb74 := NB114_101.out;have hnc74 := NB101_114.out;have hnb75 := NB114_102.out;have hnc75 := NB102_114.out;have hnb76 := NB114_103.out;have hnc76 := NB103_114.out;obtain ⟨hcz77_0, hcz77_1, hfz77_0, hfz77_1⟩ := CF_ BK114;have hnb78 := NB103_101.out;have hnc78 := NB101_103.out;have hnb79 := NB103_102.out;have hnc79 := NB102_103.out;have hcz80_0 : wr.cell? ⟨gb103, 0, none⟩ = some (.slice none 0 0) := (blk_cell BK103.out 0).trans rfl;have hcz80_1 : wr.cell? ⟨gb103, 1, none⟩ = some (.slice none 0 0) := (blk_cell BK103.out 1).trans rfl;have hfz80_0 := blk_frozen BK103.out 0;have hfz80_1 := blk_frozen BK103.out 1;obtain ⟨Ao81, co81, eo81⟩ := Kd.R_slice HO_115001.out;subst eo81
              go_wp2
              refine bodyPost_ret (results_ct rfl _ _ gb103 25 #[.slice Ao45 y111.length co45, .slice Ao81 x115001_3.length co81] (0, 0) _ rfl (by (with_reducible repeat (first | refine blk_drewN ?_ _ | refine blk_drew ?_ | refine blk_alloc ?_ _)); refine blk_put (cs := #[.slice Ao45 y111.length co45, .slice none 0 0]) ?_ 1 _ rfl; (with_reducible repeat (first | refine blk_drewN ?_ _ | refine blk_drew ?_ | refine blk_alloc ?_ _)); refine blk_put (cs := #[.slice none 0 0, .slice none 0 0]) ?_ 0 _ rfl; (with_reducible repeat (first | refine blk_drewN ?_ _ | refine blk_drew ?_ | refine blk_alloc ?_ _)); exact BK103.out) Tryz.underlying25 rfl (by kernel_rfl)) rfl ?_;exact ⟨_, _, by first | rfl | (simp [errW_none, errW_some] <;> rfl) | (simp [*, errW_none, errW_some] <;> rfl), by (with_reducible repeat (first | apply Kd.R_alloc | apply Kd.R_drewN | apply Kd.R_drew)); exact Kd.R_mono (Kd.R_far (p := ⟨gb103, 1, none⟩) (Kd.R_far (p := ⟨gb103, 0, none⟩) (Kd.R_types HO_115000.out BK103.out (by decide)) (fun _ hk => hk.2) (.slice Ao45 y111.length co45)) (fun _ hk => hk.2) (.slice Ao81 x115001_3.length co81)) (fun _ hk => trivial), by (with_reducible repeat (first | apply Kd.R_alloc | apply Kd.R_drewN | apply Kd.R_drew)); exact Kd.R_mono (Kd.R_far (p := ⟨gb103, 1, none⟩) (Kd.R_far (p := ⟨gb103, 0, none⟩) (Kd.R_types HO_115001.out BK103.out (by decide)) (fun _ hk => hk.2) (.slice Ao45 y111.length co45)) (fun _ hk => hk.2) (.slice Ao81 x115001_3.length co81)) (fun _ hk => trivial), T9_⟩
          ·
           replace c41 := Bool.eq_false_iff.mpr c41;subst c41;rw [if_neg (show ¬ (false = true) by decide)] at H;simp only [Option.some.injEq, Prod.mk.injEq] at H;obtain ⟨rfl, rfl, rfl⟩ := H
           try go_wp2
           replace BK101 := A_ (blk_drew BK101.out);replace BK102 := A_ (blk_drew BK102.out);replace BK103 := A_ (blk_drew BK103.out);replace HB := A_ (below_drew1 HB.out);have p108 : 0 ≤ (0 : Int) := (by omega);have q108 : 0 < (l0_0.length : Int) := DA_;obtain ⟨ad108, e108, hx108_0⟩ := Kd.at_int HR0_0.out 0 p108 q108;have hw108_0 := hx108_0
           (try rw [show ((0 : Int)).toNat = 0 from rfl] at hw108_0)
           (try rw [show 0 * 1 = 0 from rfl] at hw108_0)
           (try rw [Addr.add_zero'] at hw108_0)
           cases e108
           have qi108 : (0 < l0_0.length) = True := eq_true (by omega)
           (try rw [show ((0 : Int)).toNat = 0 from rfl] at hx108_0)
           (try rw [Addr.add_zero'] at hx108_0)
           replace hx108_0 := (HB.out.cell (World.block_lt_of_cell? w _ hx108_0)).trans hx108_0;replace p108 := eq_true p108;replace q108 := eq_true q108;have p109 : 0 ≤ (1 : Int) := (by omega);have q109 : 1 < (l0_0.length : Int) := DA_;obtain ⟨ad109, e109, hx109_0⟩ := Kd.at_int HR0_0.out 1 p109 q109;have hw109_0 := hx109_0
           (try rw [show ((1 : Int)).toNat = 1 from rfl] at hw109_0)
           (try rw [show 1 * 1 = 1 from rfl] at hw109_0)
           (try simp only [Nat.reduceMul, Nat.reduceEqDiff, Go.Addr.add, ↓reduceIte] at hw109_0)
           obtain rfl : ad108 = ad109 := (by injection e109)
           (try simp only [show (1 : Int).toNat = 1 from rfl, Nat.reduceMul, Nat.reduceEqDiff, Go.Addr.add, ↓reduceIte] at hx109_0)
           have qi109 : (1 < l0_0.length) = True := eq_true (by omega)
           (try rw [show ((1 : Int)).toNat = 1 from rfl] at hx109_0)
           replace hx109_0 := (HB.out.cell (World.block_lt_of_cell? w _ hx109_0)).trans hx109_0;replace p109 := eq_true p109;replace q109 := eq_true q109;have p110 : 0 ≤ (1 : Int) := (by omega);have q110 : 1 < (l1_0.length : Int) := DA_;obtain ⟨ad110, e110, hx110_0⟩ := Kd.at_int HR1_0.out 1 p110 q110;have hw110_0 := hx110_0
           (try rw [show ((1 : Int)).toNat = 1 from rfl] at hw110_0)
           (try rw [show 1 * 1 = 1 from rfl] at hw110_0)
           (try simp only [Nat.reduceMul, Nat.reduceEqDiff, Go.Addr.add, ↓reduceIte] at hw110_0)
           cases e110
           (try simp only [show (1 : Int).toNat = 1 from rfl, Nat.reduceMul, Nat.reduceEqDiff, Go.Addr.add, ↓reduceIte] at hx110_0)
           have qi110 : (1 < l1_0.length) = True := eq_true (by omega)
           (try rw [show ((1 : Int)).toNat = 1 from rfl] at hx110_0)
           replace hx110_0 := (HB.out.cell (World.block_lt_of_cell? w _ hx110_0)).trans hx110_0;replace p110 := eq_true p110;replace q110 := eq_true q110;refine start_ (n := 15) (S := fun w' => w'.cell? ⟨gb101, 0, none⟩ = some (.slice (some ad108) l0_0.length c0_0) ∧ w'.cell? ⟨gb101, 1, none⟩ = some (.slice A0_1 l0_1.length c0_1) ∧ w'.cell? ⟨gb102, 0, none⟩ = some (.slice (some ad110) l1_0.length c1_0) ∧ w'.cell? ⟨gb102, 1, none⟩ = some (.slice A1_1 l1_1.length c1_1) ∧ w'.cell? ad108 = some (.int .i64 (rd l0_0 0)) ∧ w'.cell? ⟨ad108.block, ad108.off + 1, none⟩ = some (.int .i64 (rd l0_0 1)) ∧ w'.cell? ⟨ad110.block, ad110.off + 1, none⟩ = some (.int .i64 (rd l1_0 1))) (ds := []) #[false, false, false, false, false, false, false, false, false, false, false, false, false, false, false] (by kernel_rfl) rfl rfl ⟨(blk_cell BK101.out 0).trans rfl, (blk_cell BK101.out 1).trans rfl, (blk_cell BK102.out 0).trans rfl, (blk_cell BK102.out 1).trans rfl, ((HB.out.cell (World.block_lt_of_cell? w _ hw108_0)).trans hw108_0), ((HB.out.cell (World.block_lt_of_cell? w _ hw109_0)).trans hw109_0), ((HB.out.cell (World.block_lt_of_cell? w _ hw110_0)).trans hw110_0)⟩ (fun hHeld => ?_); refine with_tabW array_MatMul.tab5 array_MatMul.bits5 (fun HT_ HW_ => ?_);generalize wc.drew = w82 at BK101 BK102 BK103 HB hx108_0 hx109_0 hx110_0 hHeld ⊢;refine PU_ 0 47 ?_;refine PU_ 4 51 ?_;refine PU_ 8 55 ?_;refine TK_ 1 48 rfl (by rfl) (by rintro w' ⟨s0, s1, s2, s3, s4, s5, s6⟩;go_simp;with_reducible rfl) hHeld ?_
           refine PU_ 2 49 ?_;refine TK_ 3 50 rfl (by rfl) (by rintro w' ⟨s0, s1, s2, s3, s4, s5, s6⟩;go_simp;with_reducible rfl) hHeld ?_
           refine PU_ 12 6 ?_;refine TK_ 5 52 rfl (by rfl) (by rintro w' ⟨s0, s1, s2, s3, s4, s5, s6⟩;go_simp;with_reducible rfl) hHeld ?_
           refine PU_ 6 53 ?_;refine TK_ 7 54 rfl (by rfl) (by rintro w' ⟨s0, s1, s2, s3, s4, s5, s6⟩;go_simp;with_reducible rfl) hHeld ?_
           refine PU_ 13 7 ?_;refine TK_ 9 56 rfl (by rfl) (by rintro w' ⟨s0, s1, s2, s3, s4, s5, s6⟩;go_simp;with_reducible rfl) hHeld ?_
           refine PU_ 10 57 ?_;refine TK_ 11 58 rfl (by rfl) (by rintro w' ⟨s0, s1, s2, s3, s4, s5, s6⟩;go_simp;with_reducible rfl) hHeld ?_
           refine PU_ 14 8 ?_
           refine done_ (done_of HT_.out (by kernel_rfl)) ?_
           try go_wp2_with (first | ((with_reducible refine gate_dst (N := 61) rfl ?_); (try (refine gate_guard (by rfl) ?_; dsimp only)); refine Kd.R_lit (Kd.int .i64) _ 3 ?hg (N := 61) ?hd (xs := ([rd l0_0 0, rd l1_0 1] : List Int)) (inner := [.int .i64 (rd l0_0 0), .int .i64 (rd l1_0 1)]) (ok := fun _ => True) (okp := fun _ => True) ?hr ?hp (fun _ hk => hk) trivial (Below.refl _ _) (Nat.le_refl _) (by simp) ?_; (case hd => rfl); (case hg => rfl); (case hr => exact T3_); (case hp => exact (Reps.one (show Kd.M (Kd.int .i64) _ _ _ (rd l0_0 0) [.int .i64 (rd l0_0 0)] from rfl) (Reps.one (show Kd.M (Kd.int .i64) _ _ _ (rd l1_0 1) [.int .i64 (rd l1_0 1)] from rfl) (Reps.none _ _)))); intro v112 w83 ho84 hb hg_ hnew_; clear hg_ hnew_; (first | rw [← Ny111.out] at ho84 | (simp only [Int.reduceToNat] at ho84; rw [← Ny111.out] at ho84)); have HO113 := A_ (Kd.R_lower ho84 (below_size T9_)); replace BK101 := BF_ BK101 hb; replace BK102 := BF_ BK102 hb; replace BK103 := BF_ BK103 hb; replace HB := BU_ hb; clear hb ho84; obtain ⟨Ao85, co85, eo85⟩ := Kd.R_slice HO113.out; subst eo85) | ((with_reducible refine gate_dst (N := 9) rfl ?_); (try (refine gate_guard (by rfl) ?_; dsimp only)); refine BX_ 9 #[.slice none 0 0, .slice none 0 0] 25 ?_; intro gb114 hg w86 hbox hb; replace HO113 := RC_ HO113 hb; have BK114 := A_ (hbox); have GE114 := GE_ hg; replace HB := BU_ hb; have NB101_114 := NB_ BK101 hg; have NB114_101 := NC_ BK101 hg; replace BK101 := BF_ BK101 hb; have NB102_114 := NB_ BK102 hg; have NB114_102 := NC_ BK102 hg; replace BK102 := BF_ BK102 hb; have NB103_114 := NB_ BK103 hg; have NB114_103 := NC_ BK103 hg; replace BK103 := BF_ BK103 hb; clear hb hbox hg; have hnb87 := NB114_101.out; have hnc87 := NB101_114.out; have hnb88 := NB114_102.out; have hnc88 := NB102_114.out; have hnb89 := NB114_103.out; have hnc89 := NB103_114.out; obtain ⟨hcz90_0, hcz90_1, hfz90_0, hfz90_1⟩ := CF_ BK114) | (refine GL_ 30 65 Tryz.func30 #[.slice Ao85 y111.length co85] ?_; (with_reducible refine (shape_Right.calls _ _ y111 false _ ?side1 ?side2 A40.out).mono ?_); (case side1 => refine (Kd.R_reads' (e := 3) (base := w.heap.size) (ok := fun k_ => True) (n := y111.length) (c := co85) ?_).2.2; exact (RW_ HO113).out); (case side2 => exact (Kd.R_reads' HO113.out).2.1); rintro e w91 ⟨rfl, hb⟩; refine ⟨_, rfl, ?_⟩; replace HO113 := RC_ HO113 hb; replace BK101 := BG_ BK101 hb; replace BK102 := BG_ BK102 hb; replace BK103 := BG_ BK103 hb; replace BK114 := BP_ BK114 hb; replace HB := BU_ hb; clear hb; have hnb92 := NB103_101.out; have hnc92 := NB101_103.out; have hnb93 := NB103_102.out; have hnc93 := NB102_103.out; obtain ⟨hcz94_0, hcz94_1, hfz94_0, hfz94_1⟩ := CF_ BK103))
           refine bodyPost_ret (results_ct rfl _ _ gb103 25 #[.slice none 0 0, .slice none 0 0] (0, 0) _ rfl (by (with_reducible repeat (first | refine blk_drewN ?_ _ | refine blk_drew ?_ | refine blk_alloc ?_ _)); refine blk_put (cs := #[.slice none 0 0, .slice none 0 0]) ?_ 1 _ rfl; (with_reducible repeat (first | refine blk_drewN ?_ _ | refine blk_drew ?_ | refine blk_alloc ?_ _)); refine blk_put (cs := #[.slice none 0 0, .slice none 0 0]) ?_ 0 _ rfl; (with_reducible repeat (first | refine blk_drewN ?_ _ | refine blk_drew ?_ | refine blk_alloc ?_ _)); exact BK103.out) Tryz.underlying25 rfl (by kernel_rfl)) rfl ?_;exact ⟨_, _, by first | rfl | (simp [errW_none, errW_some] <;> rfl) | (simp [*, errW_none, errW_some] <;> rfl), by first | exact Kd.R_nil _ _ _ _ _ | exact Kd.N_nil _ _ _ _ _ | exact Kd.V_nil _ _ _ _ _ | exact Kd.Q_nil _ _ _ _ _ | exact Kd.S_nil _ _ _ _ _, by first | exact Kd.R_nil _ _ _ _ _ | exact Kd.N_nil _ _ _ _ _ | exact Kd.V_nil _ _ _ _ _ | exact Kd.Q_nil _ _ _ _ _ | exact Kd.S_nil _ _ _ _ _, T9_⟩
         ·
          rw [if_neg c39] at H;exact absurd H (by simp)
        ·
         rw [if_neg c38] at H;exact absurd H (by simp)
       ·
        rw [if_neg c37] at H;exact absurd H (by simp)
end Go.Proofs.YtmmonhgfnmeieaaGreatDoor.PM
