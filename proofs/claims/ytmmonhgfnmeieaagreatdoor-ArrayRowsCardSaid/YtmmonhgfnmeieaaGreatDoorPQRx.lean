-- by wip/tool/mine.py of this repo (the kit's printer with given contracts)
import Derived.Test.YtmmonhgfnmeieaaGreatDoorRegI
import Derived.Test.YtmmonhgfnmeieaaGreatDoorPureAwW
import Derived.Test.YtmmonhgfnmeieaaGreatDoorTenY
import Derived.Test.YtmmonhgfnmeieaaGreatDoorArrO
namespace Go.Proofs.YtmmonhgfnmeieaaGreatDoor.PQR
open Go.RowKit Go.ZPWords Go.ZPLast Go.ZPMore
attribute [local go_sem] max2_int min2_int max_two min_two max_three min_three max_four min_four   -- for this text's walks alone
set_option linter.unusedVariables false
set_option linter.unusedSimpArgs false
set_option maxHeartbeats 8000000
set_option maxRecDepth 100000
def errW : Option Int → Value
 | none => .nilIface
 | some c => .iface 0 (.int .i64 c)
theorem errW_none : errW none = .nilIface := rfl
theorem errW_some (c : Int) : errW (some c) = .iface 0 (.int .i64 c) := rfl
theorem info3 : (Tryz.prog.info? 3).map (fun i => (i.zero, i.size, i.bytes)) = some (some (.int .i64 0), 1, 8) := by kernel_rfl
theorem info9 : (Tryz.prog.info? 9).map (fun i => (i.zero, i.size, i.bytes)) = some (some (.string ⟨#[]⟩), 1, 16) := by kernel_rfl
/-! ### rf5_Small: function 12 -/
noncomputable def rf5_Small.f (l0_0 : List Int) (l0_1 : List ByteArray) : Option Bool := some (Ten.small ⟨l0_0, l0_1⟩)
theorem rf5_Small.calls (A0_0 : Option Addr) (c0_0 : Nat) (l0_0 : List Int) (A0_1 : Option Addr) (c0_1 : Nat) (l0_1 : List ByteArray) (r : Bool) (w : World) (hr0_0 : Kd.C (Kd.int .i64) w A0_0 l0_0.length l0_0) (hc0_0 : l0_0.length ≤ c0_0) (hr0_1 : Kd.C Kd.string w A0_1 l0_1.length l0_1) (hc0_1 : l0_1.length ≤ c0_1) (h : rf5_Small.f l0_0 l0_1 = some r) :
  Calls Tryz.prog 12 #[.agg #[.slice A0_0 l0_0.length c0_0, .slice A0_1 l0_1.length c0_1]] w fun e w' => e = .returned (.bool r) ∧ Below w.heap.size w w' := by
 obtain rfl := Option.some.inj h;obtain ⟨k, hk⟩ := (Ten.small_ev ⟨l0_0, l0_1⟩).rounds;exact PV.rf5_Small.calls k _ _ l0_0 _ _ l0_1 _ w hr0_0 hc0_0 hr0_1 hc0_1 hk
/-! ### lw6_awake: function 13 -/
noncomputable def lw6_awake.f : Option Bool := some true
theorem lw6_awake.calls (r : Bool) (w : World) (hG : Err.Gs w) (h : lw6_awake.f = some r) :
  Calls Tryz.prog 13 #[] w fun e w' => e = .returned (.bool r) ∧ Below w.heap.size w w' := by
 obtain rfl := Option.some.inj h;exact Pure.awake_calls w hG
/-! ### array_MatMul: function 16 -/
open Classical in
noncomputable def array_MatMul.f (l0_0 : List Int) (l0_1 : List ByteArray) (l1_0 : List Int) (l1_1 : List ByteArray) : Option (List Int × List ByteArray × Int) := if Ten.Sm1 l0_0 l0_1 ∧ Ten.Sm1 l1_0 l1_1 then some ((Ten.tMat ⟨l0_0, l0_1⟩ ⟨l1_0, l1_1⟩).1.s, (Ten.tMat ⟨l0_0, l0_1⟩ ⟨l1_0, l1_1⟩).1.d, (Ten.tMat ⟨l0_0, l0_1⟩ ⟨l1_0, l1_1⟩).2) else none
theorem array_MatMul.calls (A0_0 : Option Addr) (c0_0 : Nat) (l0_0 : List Int) (A0_1 : Option Addr) (c0_1 : Nat) (l0_1 : List ByteArray) (A1_0 : Option Addr) (c1_0 : Nat) (l1_0 : List Int) (A1_1 : Option Addr) (c1_1 : Nat) (l1_1 : List ByteArray) (r1 : List Int) (r2 : List ByteArray) (r3 : Int) (w : World) (hG : Err.Gs w) (hr0_0 : Kd.C (Kd.int .i64) w A0_0 l0_0.length l0_0) (hc0_0 : l0_0.length ≤ c0_0) (hr0_1 : Kd.C Kd.string w A0_1 l0_1.length l0_1) (hc0_1 : l0_1.length ≤ c0_1) (hr1_0 : Kd.C (Kd.int .i64) w A1_0 l1_0.length l1_0) (hc1_0 : l1_0.length ≤ c1_0) (hr1_1 : Kd.C Kd.string w A1_1 l1_1.length l1_1) (hc1_1 : l1_1.length ≤ c1_1) (h : array_MatMul.f l0_0 l0_1 l1_0 l1_1 = some (r1, r2, r3)) :
  Calls Tryz.prog 16 #[.agg #[.slice A0_0 l0_0.length c0_0, .slice A0_1 l0_1.length c0_1], .agg #[.slice A1_0 l1_0.length c1_0, .slice A1_1 l1_1.length c1_1]] w fun e w' => ∃ v0_ v1_ : Value, e = .returned (.tuple #[.agg #[v0_, v1_], .int .i64 r3]) ∧ Kd.R (Kd.int .i64) 3 w' w.heap.size (fun _ => True) v0_ r1 ∧ Kd.R Kd.string 9 w' w.heap.size (fun _ => True) v1_ r2 ∧ Below w.heap.size w w' := by
 unfold array_MatMul.f at h
 split at h
 ·
  rename_i hl
  injection h with h;injection h with h1 h2;injection h2 with h2 h3;subst h1 h2 h3;exact Ten.matmul_calls A0_0 c0_0 A0_1 c0_1 l0_0 l0_1 A1_0 c1_0 A1_1 c1_1 l1_0 l1_1 w hG hr0_0 hc0_0 hr0_1 hc0_1 hl.1 hr1_0 hc1_0 hr1_1 hc1_1 hl.2
 ·
  cases h
theorem array_MatMul.of (l0_0 : List Int) (l0_1 : List ByteArray) (l1_0 : List Int) (l1_1 : List ByteArray) (h : Ten.Sm1 l0_0 l0_1 ∧ Ten.Sm1 l1_0 l1_1) : array_MatMul.f l0_0 l0_1 l1_0 l1_1 = some ((Ten.tMat ⟨l0_0, l0_1⟩ ⟨l1_0, l1_1⟩).1.s, (Ten.tMat ⟨l0_0, l0_1⟩ ⟨l1_0, l1_1⟩).1.d, (Ten.tMat ⟨l0_0, l0_1⟩ ⟨l1_0, l1_1⟩).2) := by rw [array_MatMul.f, if_pos h]
/-! ### rf5_Right: function 18 -/
open Classical in
noncomputable def rf5_Right.f (l0_0 : List Int) (l0_1 : List ByteArray) : Option Bool := if Ten.Sm l0_0 l0_1 then some (Ten.tRight ⟨l0_0, l0_1⟩) else none
theorem rf5_Right.calls (A0_0 : Option Addr) (c0_0 : Nat) (l0_0 : List Int) (A0_1 : Option Addr) (c0_1 : Nat) (l0_1 : List ByteArray) (r : Bool) (w : World) (hr0_0 : Kd.C (Kd.int .i64) w A0_0 l0_0.length l0_0) (hc0_0 : l0_0.length ≤ c0_0) (hr0_1 : Kd.C Kd.string w A0_1 l0_1.length l0_1) (hc0_1 : l0_1.length ≤ c0_1) (h : rf5_Right.f l0_0 l0_1 = some r) :
  Calls Tryz.prog 18 #[.agg #[.slice A0_0 l0_0.length c0_0, .slice A0_1 l0_1.length c0_1]] w fun e w' => e = .returned (.bool r) ∧ Below w.heap.size w w' := by
 unfold rf5_Right.f at h
 split at h
 ·
  rename_i hl
  injection h with h;subst h;exact Ten.r5right_calls A0_0 c0_0 A0_1 c0_1 ⟨l0_0, l0_1⟩ w hr0_0 hc0_0 hr0_1 hc0_1 hl
 ·
  cases h
theorem rf5_Right.of (s : List Int) (d : List ByteArray) (h : Ten.Sm s d) : rf5_Right.f s d = some (Ten.tRight ⟨s, d⟩) := by rw [rf5_Right.f, if_pos h]
/-! ### array_Total: function 22 -/
open Classical in
noncomputable def array_Total.f (l0_0 : List Int) (l0_1 : List ByteArray) : Option (List Int × List ByteArray × Int) := if Ten.Sm l0_0 l0_1 ∧ ∀ p, (Ten.accS (l0_1.take p)).size ≤ 40000000000 then some ((Ten.tTotal ⟨l0_0, l0_1⟩).1.s, (Ten.tTotal ⟨l0_0, l0_1⟩).1.d, (Ten.tTotal ⟨l0_0, l0_1⟩).2) else none
theorem array_Total.calls (A0_0 : Option Addr) (c0_0 : Nat) (l0_0 : List Int) (A0_1 : Option Addr) (c0_1 : Nat) (l0_1 : List ByteArray) (r1 : List Int) (r2 : List ByteArray) (r3 : Int) (w : World) (hG : Err.Gs w) (hr0_0 : Kd.C (Kd.int .i64) w A0_0 l0_0.length l0_0) (hc0_0 : l0_0.length ≤ c0_0) (hr0_1 : Kd.C Kd.string w A0_1 l0_1.length l0_1) (hc0_1 : l0_1.length ≤ c0_1) (h : array_Total.f l0_0 l0_1 = some (r1, r2, r3)) :
  Calls Tryz.prog 22 #[.agg #[.slice A0_0 l0_0.length c0_0, .slice A0_1 l0_1.length c0_1]] w fun e w' => ∃ v0_ v1_ : Value, e = .returned (.tuple #[.agg #[v0_, v1_], .int .i64 r3]) ∧ Kd.R (Kd.int .i64) 3 w' w.heap.size (fun _ => True) v0_ r1 ∧ Kd.R Kd.string 9 w' w.heap.size (fun _ => True) v1_ r2 ∧ Below w.heap.size w w' := by
 unfold array_Total.f at h
 split at h
 ·
  rename_i hl
  injection h with h;injection h with h1 h2;injection h2 with h2 h3;subst h1 h2 h3;exact Ten.total_calls A0_0 c0_0 A0_1 c0_1 l0_0 l0_1 w hG hr0_0 hc0_0 hr0_1 hc0_1 hl.1 hl.2
 ·
  cases h
theorem array_Total.of (l0_0 : List Int) (l0_1 : List ByteArray) (h : Ten.Sm l0_0 l0_1 ∧ ∀ p, (Ten.accS (l0_1.take p)).size ≤ 40000000000) : array_Total.f l0_0 l0_1 = some ((Ten.tTotal ⟨l0_0, l0_1⟩).1.s, (Ten.tTotal ⟨l0_0, l0_1⟩).1.d, (Ten.tTotal ⟨l0_0, l0_1⟩).2) := by rw [array_Total.f, if_pos h]
/-! ### lw6_ArrayRows: function 7 -/
mutual
noncomputable def lw6_ArrayRows.j0 : Nat → Bool → List Int → List ByteArray → Option (Bool)
 | 0, _, _, _ => none
 | k + 1, x24, x102000, x102001 => if x24 = true then ((lw6_awake.f).bind fun t104 => (some t104)) else (if 0 < (x102000.length : Int) then (if 1 < (x102000.length : Int) then (lw6_ArrayRows.l0 k (rd x102000 0) 0 x102000 x102001 (([1, rd x102000 0] : List Int)) ([] : List ByteArray) (([rd x102000 1, 1] : List Int))) else (none)) else (none))
noncomputable def lw6_ArrayRows.l0 : Nat → Int → Int → List Int → List ByteArray → List Int → List ByteArray → List Int → Option (Bool)
 | 0, _, _, _, _, _, _, _ => none
 | k + 1, x41, x42, x102000, x102001, x110000, x110001, x115000 => if x42 < x41 then (if x110001.length < 8796093022208 then (lw6_ArrayRows.l0 k x41 (wrap64 (x42 + 1)) x102000 x102001 x110000 (x110001 ++ [(⟨#[49]⟩ : ByteArray)]) x115000) else (none)) else (if 1 < (x102000.length : Int) then (lw6_ArrayRows.l1 k (rd x102000 1) 0 x102000 x102001 x110000 x110001 x115000 ([] : List ByteArray)) else (none))
noncomputable def lw6_ArrayRows.l1 : Nat → Int → Int → List Int → List ByteArray → List Int → List ByteArray → List Int → List ByteArray → Option (Bool)
 | 0, _, _, _, _, _, _, _, _ => none
 | k + 1, x53, x54, x102000, x102001, x110000, x110001, x115000, x115001 => if x54 < x53 then (if x115001.length < 8796093022208 then (lw6_ArrayRows.l1 k x53 (wrap64 (x54 + 1)) x102000 x102001 x110000 x110001 x115000 (x115001 ++ [(⟨#[49]⟩ : ByteArray)])) else (none)) else ((array_MatMul.f x110000 x110001 x102000 x102001).bind fun bt123 => ((array_MatMul.f bt123.1 bt123.2.1 x115000 x115001).bind fun bt131 => ((array_Total.f x102000 x102001).bind fun bt139 => (if bt123.2.2 = 0 then (if bt131.2.2 = 0 then (if bt139.2.2 = 0 then (if (bt131.2.1.length : Int) = 1 then (if (bt139.2.1.length : Int) = 1 then (if 0 < (bt131.2.1.length : Int) then (if 0 < (bt139.2.1.length : Int) then (if (rdOf ByteArray.empty bt131.2.1 0).toList = (rdOf ByteArray.empty bt139.2.1 0).toList then ((lw6_awake.f).bind fun t149 => (some t149)) else (some false)) else (none)) else (none)) else (some false)) else (some false)) else (some false)) else (some false)) else (some false)))))
end
noncomputable def lw6_ArrayRows.f (k : Nat) (l0_0 : List Int) (l0_1 : List ByteArray) : Option (Bool) := (rf5_Small.f l0_0 l0_1).bind fun t102 => (if t102 = true then ((rf5_Right.f l0_0 l0_1).bind fun t103 => (if t103 = true then (lw6_ArrayRows.j0 k ((l0_0.length : Int) != 2) l0_0 l0_1) else (lw6_ArrayRows.j0 k true l0_0 l0_1))) else (lw6_ArrayRows.j0 k true l0_0 l0_1))
def lw6_ArrayRows.T16 : Bool × List (List Nat × List Nat) := (true, [([], []), ([0], [0]), ([1], [1]), ([2], [2]), ([3, 2], [2, 3]), ([2, 4], [2, 4]), ([5, 2], [5]), ([6], [6]), ([7, 6], [6, 7]), ([6, 8], [6, 8]), ([9, 6], [9]), ([10], [10]), ([11, 10], [10, 11]), ([12, 10], [10, 12]), ([13, 10], [10, 13]), ([10, 14], [10, 14]), ([15, 10], [15]), ([16], [16]), ([17, 16], [16, 17]), ([18, 16], [16, 18]), ([19, 16], [16, 19]), ([16, 20], [16, 20]), ([21, 16], [21]), ([22], [22]), ([23, 22], [22, 23]), ([24, 22], [22, 24]), ([25, 22], [22, 25]), ([22], [22]), ([27, 22], [22, 27]), ([28, 22], [22, 28]), ([29, 22], [22, 29]), ([26, 30, 22], [22, 26, 30]), ([22, 31], [22, 31]), ([32, 22], [32]), ([33, 33], [33]), ([33, 34], [33, 34]), ([35, 34, 0, 1, 2, 3, 4, 5, 6, 7, 8, 9, 10, 11, 12, 13, 14, 15, 16, 17, 18, 19, 20, 21, 22, 23, 24, 25, 26, 27, 28, 29, 30, 31, 32, 33, 34, 35], [35])])
def lw6_ArrayRows.B16 : List Nat := [0, 1, 3, 7, 15, 31, 63, 127, 255, 511, 1023, 2047, 4095, 8191, 16383, 32767, 65535, 131071, 262143, 524287, 1048575, 2097151, 4194303, 8388607, 16777215, 33554431, 67108863, 8388607, 142606335, 411041791, 947912703, 2147483647, 4294967295, 8589934591, 17179869183, 34359738367, 68719476735]
theorem lw6_ArrayRows.tab16 : rtab .any (opsOf Tryz.f7 16) = lw6_ArrayRows.T16 := by kernel_rfl
theorem lw6_ArrayRows.bits16 : waitsOk lw6_ArrayRows.T16.2 lw6_ArrayRows.B16 = true := by kernel_rfl
theorem lw6_ArrayRows.calls (k : Nat) (A0_0 : Option Addr) (c0_0 : Nat) (l0_0 : List Int) (A0_1 : Option Addr) (c0_1 : Nat) (l0_1 : List ByteArray) (r : Bool) (w : World) (hG : Err.Gs w) (hrt : r = true) (hr0_0 : Kd.C (Kd.int .i64) w A0_0 l0_0.length l0_0) (hc0_0 : l0_0.length ≤ c0_0) (hr0_1 : Kd.C Kd.string w A0_1 l0_1.length l0_1) (hc0_1 : l0_1.length ≤ c0_1) (h : lw6_ArrayRows.f k l0_0 l0_1 = some r) :
  Calls Tryz.prog 7 #[.agg #[.slice A0_0 l0_0.length c0_0, .slice A0_1 l0_1.length c0_1]] w fun e w' => e = .returned (.bool r) ∧ Below w.heap.size w w' := by
 have hu25 := Tryz.underlying25;have HR0_0 := A_ hr0_0;have HC0_0 := A_ hc0_0;clear hr0_0 hc0_0;have HR0_1 := A_ hr0_1;have HC0_1 := A_ hc0_1;clear hr0_1 hc0_1;have HB := A_ (Below.refl w.heap.size w);have HGs := A_ hG;clear hG;have HRT := A_ hrt;clear hrt;unfold lw6_ArrayRows.f at h;have H := h;clear h;have HC2 := A_ H;clear H;go_enter Tryz.func7, Tryz.ntmps7
 go_upto_region 1 with (first | ((with_reducible refine gate_dst (N := 1) rfl ?_); (try (refine gate_guard (by rfl) ?_; dsimp only)); refine BX_ 1 #[.slice A0_0 l0_0.length c0_0, .slice A0_1 l0_1.length c0_1] 25 ?_; intro gb101 hg w3 hbox hb; have BK101 := A_ (hbox); have GE101 := GE_ hg; replace HB := BS_ hb; clear hb hbox hg))
 (try simp only [Act.put, List.setIfInBounds_toArray, List.set_cons_zero, List.set_cons_succ])
 go_cut [24] (fun v24 wc => ∃ (kq : Nat) (x24_1 : Bool), v24 = .bool x24_1 ∧ Aside0 (lw6_ArrayRows.j0 kq x24_1 l0_0 l0_1 = some r) ∧ Aside0 (kq ≤ k) ∧ Aside0 (wc.heap[gb101]? = some (.cells #[(.slice A0_0 l0_0.length c0_0), (.slice A0_1 l0_1.length c0_1)] 25 (0, 0))) ∧ Aside0 (Below w.heap.size w wc))
 case first =>
  have H := HC2.out;clear HC2;replace H := BE_ H;obtain ⟨t102, A40, H⟩ := H;have A4 := A_ A40;clear A40
  by_cases c5 : t102 = true
  ·
   subst c5;rw [if_pos rfl] at H;replace H := BE_ H;obtain ⟨t103, A60, H⟩ := H;have A6 := A_ A60;clear A60
   by_cases c7 : t103 = true
   ·
    subst c7;rw [if_pos rfl] at H;have H' := A_ H;clear H;obtain ⟨hcz8_0, hcz8_1, hfz8_0, hfz8_1⟩ := CF_ BK101
    go_wp2_with (first | (refine GL_ 12 12 Tryz.func12 #[.agg #[.slice A0_0 l0_0.length c0_0, .slice A0_1 l0_1.length c0_1]] ?_; (with_reducible refine (rf5_Small.calls _ _ l0_0 _ _ l0_1 true _ (CW_ HR0_0) HC0_0.out (CW_ HR0_1) HC0_1.out A4.out).mono ?_); rintro e w9 ⟨rfl, hb⟩; refine ⟨_, rfl, ?_⟩; replace BK101 := BF_ BK101 hb; replace HB := BU_ hb; clear hb; obtain ⟨hcz10_0, hcz10_1, hfz10_0, hfz10_1⟩ := CF_ BK101) | (go_at_call 18; (with_reducible refine (rf5_Right.calls _ _ l0_0 _ _ l0_1 true _ (CW_ HR0_0) HC0_0.out (CW_ HR0_1) HC0_1.out A6.out).mono ?_); rintro e w11 ⟨rfl, hb⟩; replace BK101 := BF_ BK101 hb; replace HB := BU_ hb; clear hb; obtain ⟨hcz12_0, hcz12_1, hfz12_0, hfz12_1⟩ := CF_ BK101))
    go_meet
    case rel => exact ⟨_, (((l0_0.length : Int) != 2)), S1_, H', ⟨by first | omega | exact Nat.le_refl _⟩, BW_ BK101, ⟨T9_⟩⟩
   ·
    replace c7 := Bool.eq_false_iff.mpr c7;subst c7;rw [if_neg (show ¬ (false = true) by decide)] at H;have H' := A_ H;clear H;obtain ⟨hcz13_0, hcz13_1, hfz13_0, hfz13_1⟩ := CF_ BK101
    go_wp2_with (first | (refine GL_ 12 12 Tryz.func12 #[.agg #[.slice A0_0 l0_0.length c0_0, .slice A0_1 l0_1.length c0_1]] ?_; (with_reducible refine (rf5_Small.calls _ _ l0_0 _ _ l0_1 true _ (CW_ HR0_0) HC0_0.out (CW_ HR0_1) HC0_1.out A4.out).mono ?_); rintro e w14 ⟨rfl, hb⟩; refine ⟨_, rfl, ?_⟩; replace BK101 := BF_ BK101 hb; replace HB := BU_ hb; clear hb; obtain ⟨hcz15_0, hcz15_1, hfz15_0, hfz15_1⟩ := CF_ BK101) | (go_at_call 18; (with_reducible refine (rf5_Right.calls _ _ l0_0 _ _ l0_1 false _ (CW_ HR0_0) HC0_0.out (CW_ HR0_1) HC0_1.out A6.out).mono ?_); rintro e w16 ⟨rfl, hb⟩; replace BK101 := BF_ BK101 hb; replace HB := BU_ hb; clear hb))
    go_meet
    case rel => exact ⟨_, (true), S1_, H', ⟨by first | omega | exact Nat.le_refl _⟩, BW_ BK101, ⟨T9_⟩⟩
  ·
   replace c5 := Bool.eq_false_iff.mpr c5;subst c5;rw [if_neg (show ¬ (false = true) by decide)] at H;have H' := A_ H;clear H;obtain ⟨hcz17_0, hcz17_1, hfz17_0, hfz17_1⟩ := CF_ BK101
   go_wp2_with (first | (refine GL_ 12 12 Tryz.func12 #[.agg #[.slice A0_0 l0_0.length c0_0, .slice A0_1 l0_1.length c0_1]] ?_; (with_reducible refine (rf5_Small.calls _ _ l0_0 _ _ l0_1 false _ (CW_ HR0_0) HC0_0.out (CW_ HR0_1) HC0_1.out A4.out).mono ?_); rintro e w18 ⟨rfl, hb⟩; refine ⟨_, rfl, ?_⟩; replace BK101 := BF_ BK101 hb; replace HB := BU_ hb; clear hb))
   go_meet
   case rel => exact ⟨_, (true), S1_, H', ⟨by first | omega | exact Nat.le_refl _⟩, BW_ BK101, ⟨T9_⟩⟩
 case rest =>
  clear HC2
  obtain ⟨kq, x24_1, rfl, HA, HJ1, BK101, HB⟩ := hcut
  cases kq with
  | zero => exact absurd HA.out (by simp [lw6_ArrayRows.j0])
  | succ kj1 =>
   have H := HA.out;clear HA;simp only [lw6_ArrayRows.j0] at H
   by_cases c19 : x24_1 = true
   ·
    subst c19;rw [if_pos rfl] at H;replace H := BE_ H;obtain ⟨t104, A200, H⟩ := H;have A20 := A_ A200;clear A200;obtain rfl := Option.some.inj H
    go_wp2_with (first | (refine GL_ 13 25 Tryz.func13 #[] ?_; (with_reducible refine (lw6_awake.calls  t104 _ (Err.Gs.below HGs.out T9_) A20.out).mono ?_); rintro e w21 ⟨rfl, hb⟩; refine ⟨_, rfl, ?_⟩; replace BK101 := BF_ BK101 hb; replace HB := BU_ hb; clear hb))
    go_ret
    exact ⟨T4_, T9_⟩
   ·
    replace c19 := Bool.eq_false_iff.mpr c19;subst c19;rw [if_neg (show ¬ (false = true) by decide)] at H
    by_cases c22 : 0 < (l0_0.length : Int)
    ·
     rw [if_pos c22] at H;have c22b0 := decide_eq_true c22;have c22b1 : decide (0 < l0_0.length) = true := decide_eq_true (by omega);clear c22;obtain ⟨y106, hy_⟩ : ∃ y_ : List Int, y_ = (([1, rd l0_0 0] : List Int)) := ⟨_, rfl⟩
     replace H : (if 1 < (l0_0.length : Int) then (lw6_ArrayRows.l0 kj1 (rd l0_0 0) 0 l0_0 l0_1 y106 ([] : List ByteArray) (([rd l0_0 1, 1] : List Int))) else (none)) = some r := RH_
     have Ny106 := A_ hy_;clear hy_
     by_cases c23 : 1 < (l0_0.length : Int)
     ·
      rw [if_pos c23] at H;have c23b0 := decide_eq_true c23;have c23b1 : decide (1 < l0_0.length) = true := decide_eq_true (by omega);clear c23;obtain ⟨y111, hy_⟩ : ∃ y_ : List Int, y_ = (([rd l0_0 1, 1] : List Int)) := ⟨_, rfl⟩
      replace H : (lw6_ArrayRows.l0 kj1 (rd l0_0 0) 0 l0_0 l0_1 y106 ([] : List ByteArray) y111) = some r := RH_
      have Ny111 := A_ hy_;clear hy_;have H' := A_ H;clear H;obtain ⟨hcz24_0, hcz24_1, hfz24_0, hfz24_1⟩ := CF_ BK101;have p105 : 0 ≤ (0 : Int) := (by omega);have q105 : 0 < (l0_0.length : Int) := DA_;obtain ⟨ad105, e105, hx105_0⟩ := Kd.at_int HR0_0.out 0 p105 q105
      cases e105
      have qi105 : (0 < l0_0.length) = True := eq_true (by omega)
      (try rw [show ((0 : Int)).toNat = 0 from rfl] at hx105_0)
      (try rw [Addr.add_zero'] at hx105_0)
      replace hx105_0 := (HB.out.cell (World.block_lt_of_cell? w _ hx105_0)).trans hx105_0;replace p105 := eq_true p105;replace q105 := eq_true q105
      go_wp2_with (first | ((with_reducible refine gate_dst (N := 30) rfl ?_); (try (refine gate_guard (by rfl) ?_; dsimp only)); refine Kd.R_lit (Kd.int .i64) _ 3 ?hg (N := 30) ?hd (xs := ([1, rd l0_0 0] : List Int)) (inner := [.int .i64 1, .int .i64 (rd l0_0 0)]) (ok := fun _ => True) (okp := fun _ => True) ?hr ?hp (fun _ hk => hk) trivial (Below.refl _ _) (Nat.le_refl _) (by simp) ?_; (case hd => rfl); (case hg => rfl); (case hr => exact T3_); (case hp => exact (Reps.one (show Kd.M (Kd.int .i64) _ _ _ 1 [.int .i64 1] from rfl) (Reps.one (show Kd.M (Kd.int .i64) _ _ _ (rd l0_0 0) [.int .i64 (rd l0_0 0)] from rfl) (Reps.none _ _)))); intro v107 w25 ho26 hb hg_ hnew_; clear hg_ hnew_; (first | rw [← Ny106.out] at ho26 | (simp only [Int.reduceToNat] at ho26; rw [← Ny106.out] at ho26)); have HO108 := A_ (Kd.R_lower ho26 (below_size T9_)); replace BK101 := BF_ BK101 hb; replace HB := BU_ hb; clear hb ho26; obtain ⟨Ao27, co27, eo27⟩ := Kd.R_slice HO108.out; subst eo27) | ((with_reducible refine gate_dst (N := 3) rfl ?_); (try (refine gate_guard (by rfl) ?_; dsimp only)); refine BX_ 3 #[.slice none 0 0, .slice none 0 0] 25 ?_; intro gb109 hg w28 hbox hb; replace HO108 := RC_ HO108 hb; have BK109 := A_ (hbox); have GW109 := GE_ hg; have GE109 := GE_ hg; replace HB := BU_ hb; have NB101_109 := NB_ BK101 hg; have NB109_101 := NC_ BK101 hg; replace BK101 := BF_ BK101 hb; clear hb hbox hg; have hnb29 := NB109_101.out; have hnc29 := NB101_109.out; obtain ⟨hcz30_0, hcz30_1, hfz30_0, hfz30_1⟩ := CF_ BK109; obtain ⟨hcz31_0, hcz31_1, hfz31_0, hfz31_1⟩ := CF_ BK101; have p110 : 0 ≤ (1 : Int) := (by omega); have q110 : 1 < (l0_0.length : Int) := DA_; obtain ⟨ad110, e110, hx110_0⟩ := Kd.at_int HR0_0.out 1 p110 q110; obtain rfl : ad105 = ad110 := (by injection e110); (try simp only [show (1 : Int).toNat = 1 from rfl, Nat.reduceMul, Nat.reduceEqDiff, Go.Addr.add, ↓reduceIte] at hx110_0); have qi110 : (1 < l0_0.length) = True := eq_true (by omega); (try rw [show ((1 : Int)).toNat = 1 from rfl] at hx110_0); have hn110_0 : ad105.block ≠ gb109 := Nat.ne_of_lt (Nat.lt_of_lt_of_le (by have := World.block_lt_of_cell? _ _ hx110_0; first | rwa [add_block] at this | exact this) GW109.out); have hn110_1 : ad105.block ≠ gb109 := Nat.ne_of_lt (Nat.lt_of_lt_of_le (by have := World.block_lt_of_cell? _ _ hx110_0; first | rwa [add_block] at this | exact this) GW109.out); replace hx110_0 := (HB.out.cell (World.block_lt_of_cell? w _ hx110_0)).trans hx110_0; replace hx110_0 := (cell_far (p := ⟨gb109, 0, none⟩) (by first | (rw [add_block]; exact hn110_0) | (show (Addr.add _ _).block ≠ _; rw [add_block]; exact hn110_0) | exact hn110_0) (.slice Ao27 y106.length co27)).trans hx110_0; replace hx110_0 := (cell_far (p := ⟨gb109, 1, none⟩) (by first | (rw [add_block]; exact hn110_1) | (show (Addr.add _ _).block ≠ _; rw [add_block]; exact hn110_1) | exact hn110_1) (.slice none 0 0)).trans hx110_0; clear hn110_0; clear hn110_1; replace p110 := eq_true p110; replace q110 := eq_true q110) | ((with_reducible refine gate_dst (N := 36) rfl ?_); (try (refine gate_guard (by rfl) ?_; dsimp only)); refine Kd.R_lit (Kd.int .i64) _ 3 ?hg (N := 36) ?hd (xs := ([rd l0_0 1, 1] : List Int)) (inner := [.int .i64 (rd l0_0 1), .int .i64 1]) (ok := fun _ => True) (okp := fun _ => True) ?hr ?hp (fun _ hk => hk) trivial (Below.refl _ _) (Nat.le_refl _) (by simp) ?_; (case hd => rfl); (case hg => rfl); (case hr => exact T3_); (case hp => exact (Reps.one (show Kd.M (Kd.int .i64) _ _ _ (rd l0_0 1) [.int .i64 (rd l0_0 1)] from rfl) (Reps.one (show Kd.M (Kd.int .i64) _ _ _ 1 [.int .i64 1] from rfl) (Reps.none _ _)))); intro v112 w32 ho33 hb hg_ hnew_; clear hg_ hnew_; (first | rw [← Ny111.out] at ho33 | (simp only [Int.reduceToNat] at ho33; rw [← Ny111.out] at ho33)); have HO113 := A_ (Kd.R_lower (Kd.R_new' ho33 (Kd.R_lt (RW_ HO108).out)) (below_size T9_)); replace HO108 := A_ (Kd.R_elder' (RW_ HO108).out (Kd.R_base ho33) hb); replace BK101 := BG_ BK101 hb; replace BK109 := BP_ BK109 hb; replace HB := BU_ hb; clear hb ho33; obtain ⟨Ao34, co34, eo34⟩ := Kd.R_slice HO113.out; subst eo34) | ((with_reducible refine gate_dst (N := 4) rfl ?_); (try (refine gate_guard (by rfl) ?_; dsimp only)); refine BX_ 4 #[.slice none 0 0, .slice none 0 0] 25 ?_; intro gb114 hg w35 hbox hb; replace HO108 := RC_ HO108 hb; replace HO113 := RC_ HO113 hb; have BK114 := A_ (hbox); have GW114 := GE_ hg; have GE114 := GE_ hg; replace HB := BU_ hb; have NB101_114 := NB_ BK101 hg; have NB114_101 := NC_ BK101 hg; replace BK101 := BF_ BK101 hb; have NB109_114 := NB_ BK109 hg; have NB114_109 := NC_ BK109 hg; replace BK109 := BF_ BK109 hb; clear hb hbox hg; have hnb36 := NB114_101.out; have hnc36 := NB101_114.out; have hnb37 := NB114_109.out; have hnc37 := NB109_114.out; obtain ⟨hcz38_0, hcz38_1, hfz38_0, hfz38_1⟩ := CF_ BK114; obtain ⟨hcz39_0, hcz39_1, hfz39_0, hfz39_1⟩ := CF_ BK101; have p115 : 0 ≤ (0 : Int) := (by omega); have q115 : 0 < (l0_0.length : Int) := DA_; obtain ⟨ad115, e115, hx115_0⟩ := Kd.at_int HR0_0.out 0 p115 q115; obtain rfl : ad105 = ad115 := (by injection e115); have qi115 : (0 < l0_0.length) = True := eq_true (by omega); (try rw [show ((0 : Int)).toNat = 0 from rfl] at hx115_0); (try rw [Addr.add_zero'] at hx115_0); have hn115_0 : ad105.block ≠ gb114 := Nat.ne_of_lt (Nat.lt_of_lt_of_le (by have := World.block_lt_of_cell? _ _ hx115_0; first | rwa [add_block] at this | exact this) GW114.out); have hn115_1 : ad105.block ≠ gb114 := Nat.ne_of_lt (Nat.lt_of_lt_of_le (by have := World.block_lt_of_cell? _ _ hx115_0; first | rwa [add_block] at this | exact this) GW114.out); replace hx115_0 := (HB.out.cell (World.block_lt_of_cell? w _ hx115_0)).trans hx115_0; replace hx115_0 := (cell_far (p := ⟨gb114, 0, none⟩) (by first | (rw [add_block]; exact hn115_0) | (show (Addr.add _ _).block ≠ _; rw [add_block]; exact hn115_0) | exact hn115_0) (.slice Ao34 y111.length co34)).trans hx115_0; replace hx115_0 := (cell_far (p := ⟨gb114, 1, none⟩) (by first | (rw [add_block]; exact hn115_1) | (show (Addr.add _ _).block ≠ _; rw [add_block]; exact hn115_1) | exact hn115_1) (.slice none 0 0)).trans hx115_0; clear hn115_0; clear hn115_1; replace p115 := eq_true p115; replace q115 := eq_true q115))
      go_loopg [42] kj1 (fun kq v42 w' => ∃ (x42_2 : Int) (x110001_2 : List ByteArray) (u110001 : Value), v42 = .int .i64 x42_2 ∧ Aside0 (lw6_ArrayRows.l0 kq (rd l0_0 0) x42_2 l0_0 l0_1 y106 x110001_2 y111 = some r) ∧ Aside0 (kq ≤ kj1) ∧ Aside0 (Kd.R (Kd.int .i64) 3 w' w.heap.size (fun k_ => some k_ ≠ ((.slice Ao34 y111.length co34) : Value).ownBlock) (.slice Ao27 y106.length co27) y106) ∧ Aside0 (Kd.R Kd.string 9 w' w.heap.size (fun _ => True) u110001 x110001_2) ∧ Aside0 (Kd.R (Kd.int .i64) 3 w' w.heap.size (fun k_ => some k_ ≠ ((.slice Ao27 y106.length co27) : Value).ownBlock) (.slice Ao34 y111.length co34) y111) ∧ Aside0 (w'.heap[gb101]? = some (.cells #[(.slice (some ad105) l0_0.length c0_0), (.slice A0_1 l0_1.length c0_1)] 25 (0, 0))) ∧ Aside0 (w'.heap[gb109]? = some (.cells #[(.slice Ao27 y106.length co27), u110001] 25 (0, 0))) ∧ Aside0 (w'.heap[gb114]? = some (.cells #[(.slice Ao34 y111.length co34), (.slice none 0 0)] 25 (0, 0))) ∧ Aside0 (Below w.heap.size w w'))
      case atStart => exact ⟨(0), (([] : List ByteArray)), (.slice none 0 0), S1_, H', ⟨Nat.le_refl _⟩, ⟨by (with_reducible repeat (first | apply Kd.R_alloc | apply Kd.R_drewN | apply Kd.R_drew)); exact Kd.R_mono (Kd.R_far (p := ⟨gb114, 1, none⟩) (Kd.R_far (p := ⟨gb114, 0, none⟩) (Kd.R_types HO108.out BK114.out (by decide)) (fun _ hk => hk.2) (.slice Ao34 y111.length co34)) (fun _ hk => hk.2) (.slice none 0 0)) (fun _ hk => hk.1.2)⟩, ⟨by first | exact Kd.R_nil _ _ _ _ _ | exact Kd.N_nil _ _ _ _ _ | exact Kd.V_nil _ _ _ _ _ | exact Kd.Q_nil _ _ _ _ _ | exact Kd.S_nil _ _ _ _ _⟩, ⟨by (with_reducible repeat (first | apply Kd.R_alloc | apply Kd.R_drewN | apply Kd.R_drew)); exact Kd.R_mono (Kd.R_far (p := ⟨gb114, 1, none⟩) (Kd.R_far (p := ⟨gb114, 0, none⟩) (Kd.R_types HO113.out BK114.out (by decide)) (fun _ hk => hk.2) (.slice Ao34 y111.length co34)) (fun _ hk => hk.2) (.slice none 0 0)) (fun _ hk => hk.1.2)⟩, BW_ BK101, BW_ BK109, ⟨by (with_reducible repeat (first | refine blk_drewN ?_ _ | refine blk_drew ?_ | refine blk_alloc ?_ _)); refine blk_put (cs := #[.slice Ao34 y111.length co34, .slice none 0 0]) ?_ 1 _ rfl; (with_reducible repeat (first | refine blk_drewN ?_ _ | refine blk_drew ?_ | refine blk_alloc ?_ _)); refine blk_put (cs := #[.slice none 0 0, .slice none 0 0]) ?_ 0 _ rfl; (with_reducible repeat (first | refine blk_drewN ?_ _ | refine blk_drew ?_ | refine blk_alloc ?_ _)); exact BK114.out⟩, ⟨T9_⟩⟩
      case round =>
       clear H'
       try clear c19
       try clear c22
       try clear c22b0
       try clear c22b1
       try clear c23
       try clear c23b0
       try clear c23b1
       try clear hcz24_0
       try clear hcz24_1
       try clear hcz30_0
       try clear hcz30_1
       try clear hcz31_0
       try clear hcz31_1
       try clear hcz38_0
       try clear hcz38_1
       try clear hcz39_0
       try clear hcz39_1
       try clear hfz24_0
       try clear hfz24_1
       try clear hfz30_0
       try clear hfz30_1
       try clear hfz31_0
       try clear hfz31_1
       try clear hfz38_0
       try clear hfz38_1
       try clear hfz39_0
       try clear hfz39_1
       try clear hx105_0
       try clear hx110_0
       try clear hx115_0
       try clear p105
       try clear p110
       try clear p115
       try clear q105
       try clear q110
       try clear q115
       obtain ⟨x42_2, x110001_2, u110001, rfl, HA, HK2, HO_110000, HO_110001, HO_115000, BK101, BK109, BK114, HB⟩ := hrel
       cases gk with
       | zero => exact absurd HA.out (by simp [lw6_ArrayRows.l0])
       | succ k2 =>
        have H := HA.out;clear HA;simp only [lw6_ArrayRows.l0] at H
        by_cases c40 : x42_2 < (rd l0_0 0)
        ·
         rw [if_pos c40] at H;have c40b0 := decide_eq_true c40;clear c40
         by_cases c41 : x110001_2.length < 8796093022208
         ·
          rw [if_pos c41] at H;have LMc41 := A_ c41;clear c41;obtain ⟨y116, hy_⟩ : ∃ y_ : List ByteArray, y_ = (x110001_2 ++ [(⟨#[49]⟩ : ByteArray)]) := ⟨_, rfl⟩
          replace H : (lw6_ArrayRows.l0 k2 (rd l0_0 0) (wrap64 (x42_2 + 1)) l0_0 l0_1 y106 y116 y111) = some r := RH_
          have Ny116 := A_ hy_;clear hy_;have H' := A_ H;clear H;have hnb42 := NB109_101.out;have hnc42 := NB101_109.out;have hnb43 := NB109_114.out;have hnc43 := NB114_109.out;obtain ⟨hcz44_0, hcz44_1, hfz44_0, hfz44_1⟩ := CF_ BK109
          go_wp2_with (first | ((with_reducible refine gate_builtin (b := .append) (xs := #[.tmp 45, .tmp 46]) rfl ?_); (try (refine gate_guard (by rfl) ?_; dsimp only)); at_builtin; refine Kd.R_append Kd.string (w0 := w) w.heap.size rfl (.tmp 45) (.tmp 46) 23 9 (.string ⟨#[]⟩) 16 rfl Tryz.underlying23 info9 rfl (by decide) (by omega) u110001 x110001_2 (⟨#[49]⟩ : ByteArray) [.string (⟨#[49]⟩ : ByteArray)] (fun _ => True) (fun _ => False) rfl rfl ?aP (fun _ hk => hk.elim) ?aF ?aO ?aB ?aS ?aL ?_; (case aP => exact rfl); (case aB => exact T9_); (case aF => exact (fun _ _ => trivial)); (case aO => exact (K1_ HO_110001)); (case aS => exact (below_size T9_)); (case aL => have := LMc41.out; omega); intro v117 w45 ho hb hg hat; rw [← Ny116.out] at ho; replace HO_110000 := A_ (Kd.R_over' (K1_ HO_110000) (Kd.R_typed (K1_ HO_110001)) (by decide) hg); replace HO_115000 := A_ (Kd.R_over' (K1_ HO_115000) (Kd.R_typed (K1_ HO_110001)) (by decide) hg); have HO118 := A_ (ho); replace BK101 := A_ (blk_grown (g := gb101) (o := .cells #[.slice (some ad105) l0_0.length c0_0, .slice A0_1 l0_1.length c0_1] 25 (0, 0)) (B1_ BK101.out) hg (Kd.R_ne HO_110001.out BK101.out (by decide))); replace BK109 := A_ (blk_grown (g := gb109) (o := .cells #[.slice Ao27 y106.length co27, u110001] 25 (0, 0)) (B1_ BK109.out) hg (Kd.R_ne HO_110001.out BK109.out (by decide))); replace BK114 := A_ (blk_grown (g := gb114) (o := .cells #[.slice Ao34 y111.length co34, .slice none 0 0] 25 (0, 0)) (B1_ BK114.out) hg (Kd.R_ne HO_110001.out BK114.out (by decide))); replace HB := A_ (hb); clear HO_110001; clear ho hb hg hat; obtain ⟨Ao46, co46, eo46⟩ := Kd.R_slice HO118.out; subst eo46; obtain ⟨hcz47_0, hcz47_1, hfz47_0, hfz47_1⟩ := CF_ BK109))
          go_roundg k2
          case measure => have := HJ1.out; have := HK2.out; omega
          case rel => exact ⟨(wrap64 (x42_2 + 1)), (y116), (.slice Ao46 y116.length co46), S1_, H', ⟨by have := HJ1.out; have := HK2.out; omega⟩, ⟨by (with_reducible repeat (first | apply Kd.R_alloc | apply Kd.R_drewN | apply Kd.R_drew)); exact Kd.R_mono (Kd.R_far (p := ⟨gb109, 1, none⟩) (Kd.R_types HO_110000.out BK109.out (by decide)) (fun _ hk => hk.2) (.slice Ao46 y116.length co46)) (fun _ hk => hk.1)⟩, RW_ HO118, ⟨by (with_reducible repeat (first | apply Kd.R_alloc | apply Kd.R_drewN | apply Kd.R_drew)); exact Kd.R_mono (Kd.R_far (p := ⟨gb109, 1, none⟩) (Kd.R_types HO_115000.out BK109.out (by decide)) (fun _ hk => hk.2) (.slice Ao46 y116.length co46)) (fun _ hk => hk.1)⟩, BW_ BK101, ⟨by (with_reducible repeat (first | refine blk_drewN ?_ _ | refine blk_drew ?_ | refine blk_alloc ?_ _)); refine blk_put (cs := #[.slice Ao27 y106.length co27, u110001]) ?_ 1 _ rfl; (with_reducible repeat (first | refine blk_drewN ?_ _ | refine blk_drew ?_ | refine blk_alloc ?_ _)); exact BK109.out⟩, BW_ BK114, ⟨T9_⟩⟩
         ·
          rw [if_neg c41] at H;exact absurd H (by simp)
        ·
         rw [if_neg c40] at H;have c40b0 := decide_eq_false c40;clear c40
         by_cases c48 : 1 < (l0_0.length : Int)
         ·
          rw [if_pos c48] at H;have c48b0 := decide_eq_true c48;have c48b1 : decide (1 < l0_0.length) = true := decide_eq_true (by omega);clear c48;have H' := A_ H;clear H;have hnb49 := NB101_109.out;have hnc49 := NB109_101.out;have hnb50 := NB101_114.out;have hnc50 := NB114_101.out;obtain ⟨hcz51_0, hcz51_1, hfz51_0, hfz51_1⟩ := CF_ BK101;have p119 : 0 ≤ (1 : Int) := (by omega);have q119 : 1 < (l0_0.length : Int) := DA_;obtain ⟨ad119, e119, hx119_0⟩ := Kd.at_int HR0_0.out 1 p119 q119;obtain rfl : ad105 = ad119 := (by injection e119)
          (try simp only [show (1 : Int).toNat = 1 from rfl, Nat.reduceMul, Nat.reduceEqDiff, Go.Addr.add, ↓reduceIte] at hx119_0)
          have qi119 : (1 < l0_0.length) = True := eq_true (by omega)
          (try rw [show ((1 : Int)).toNat = 1 from rfl] at hx119_0)
          replace hx119_0 := (HB.out.cell (World.block_lt_of_cell? w _ hx119_0)).trans hx119_0;replace p119 := eq_true p119;replace q119 := eq_true q119
          go_wp2
          go_loopg [54] k2 (fun kq v54 w' => ∃ (x54_3 : Int) (x115001_3 : List ByteArray) (u115001 : Value), v54 = .int .i64 x54_3 ∧ Aside0 (lw6_ArrayRows.l1 kq (rd l0_0 1) x54_3 l0_0 l0_1 y106 x110001_2 y111 x115001_3 = some r) ∧ Aside0 (kq ≤ k2) ∧ Aside0 (Kd.R (Kd.int .i64) 3 w' w.heap.size (fun k_ => some k_ ≠ ((.slice Ao34 y111.length co34) : Value).ownBlock) (.slice Ao27 y106.length co27) y106) ∧ Aside0 (Kd.R Kd.string 9 w' w.heap.size (fun k_ => some k_ ≠ (u115001 : Value).ownBlock) u110001 x110001_2) ∧ Aside0 (Kd.R (Kd.int .i64) 3 w' w.heap.size (fun k_ => some k_ ≠ ((.slice Ao27 y106.length co27) : Value).ownBlock) (.slice Ao34 y111.length co34) y111) ∧ Aside0 (Kd.R Kd.string 9 w' w.heap.size (fun k_ => some k_ ≠ (u110001 : Value).ownBlock) u115001 x115001_3) ∧ Aside0 (w'.heap[gb101]? = some (.cells #[(.slice (some ad105) l0_0.length c0_0), (.slice A0_1 l0_1.length c0_1)] 25 (0, 0))) ∧ Aside0 (w'.heap[gb109]? = some (.cells #[(.slice Ao27 y106.length co27), u110001] 25 (0, 0))) ∧ Aside0 (w'.heap[gb114]? = some (.cells #[(.slice Ao34 y111.length co34), u115001] 25 (0, 0))) ∧ Aside0 (Below w.heap.size w w'))
          case atStart => exact ⟨(0), (([] : List ByteArray)), (.slice none 0 0), S1_, H', ⟨Nat.le_refl _⟩, ⟨by (with_reducible repeat (first | apply Kd.R_alloc | apply Kd.R_drewN | apply Kd.R_drew)); exact HO_110000.out⟩, ⟨by (with_reducible repeat (first | apply Kd.R_alloc | apply Kd.R_drewN | apply Kd.R_drew)); exact Kd.R_mono HO_110001.out (fun _ hk => (by simp [Value.ownBlock]))⟩, ⟨by (with_reducible repeat (first | apply Kd.R_alloc | apply Kd.R_drewN | apply Kd.R_drew)); exact HO_115000.out⟩, ⟨by first | exact Kd.R_nil _ _ _ _ _ | exact Kd.N_nil _ _ _ _ _ | exact Kd.V_nil _ _ _ _ _ | exact Kd.Q_nil _ _ _ _ _ | exact Kd.S_nil _ _ _ _ _⟩, BW_ BK101, BW_ BK109, BW_ BK114, ⟨T9_⟩⟩
          case round =>
           clear H'
           try clear c19
           try clear c22
           try clear c22b0
           try clear c22b1
           try clear c23
           try clear c23b0
           try clear c23b1
           try clear c40
           try clear c40b0
           try clear c48
           try clear c48b0
           try clear c48b1
           try clear hcz24_0
           try clear hcz24_1
           try clear hcz30_0
           try clear hcz30_1
           try clear hcz31_0
           try clear hcz31_1
           try clear hcz38_0
           try clear hcz38_1
           try clear hcz39_0
           try clear hcz39_1
           try clear hcz51_0
           try clear hcz51_1
           try clear hfz24_0
           try clear hfz24_1
           try clear hfz30_0
           try clear hfz30_1
           try clear hfz31_0
           try clear hfz31_1
           try clear hfz38_0
           try clear hfz38_1
           try clear hfz39_0
           try clear hfz39_1
           try clear hfz51_0
           try clear hfz51_1
           try clear hx105_0
           try clear hx110_0
           try clear hx115_0
           try clear hx119_0
           try clear p105
           try clear p110
           try clear p115
           try clear p119
           try clear q105
           try clear q110
           try clear q115
           try clear q119
           obtain ⟨x54_3, x115001_3, u115001, rfl, HA, HK3, HO_110000, HO_110001, HO_115000, HO_115001, BK101, BK109, BK114, HB⟩ := hrel
           cases gk with
           | zero => exact absurd HA.out (by simp [lw6_ArrayRows.l1])
           | succ k3 =>
            have H := HA.out;clear HA;simp only [lw6_ArrayRows.l1] at H
            by_cases c52 : x54_3 < (rd l0_0 1)
            ·
             rw [if_pos c52] at H;have c52b0 := decide_eq_true c52;clear c52
             by_cases c53 : x115001_3.length < 8796093022208
             ·
              rw [if_pos c53] at H;have LMc53 := A_ c53;clear c53;obtain ⟨y120, hy_⟩ : ∃ y_ : List ByteArray, y_ = (x115001_3 ++ [(⟨#[49]⟩ : ByteArray)]) := ⟨_, rfl⟩
              replace H : (lw6_ArrayRows.l1 k3 (rd l0_0 1) (wrap64 (x54_3 + 1)) l0_0 l0_1 y106 x110001_2 y111 y120) = some r := RH_
              have Ny120 := A_ hy_;clear hy_;have H' := A_ H;clear H;have hnb54 := NB114_101.out;have hnc54 := NB101_114.out;have hnb55 := NB114_109.out;have hnc55 := NB109_114.out;have hcz56_0 : wr.cell? ⟨gb114, 0, none⟩ = some (.slice Ao34 y111.length co34) := (blk_cell BK114.out 0).trans rfl;have hcz56_1 : wr.cell? ⟨gb114, 1, none⟩ = some (u115001) := (blk_cell BK114.out 1).trans rfl;have hfz56_0 := blk_frozen BK114.out 0;have hfz56_1 := blk_frozen BK114.out 1
              go_wp2_with (first | ((with_reducible refine gate_builtin (b := .append) (xs := #[.tmp 57, .tmp 58]) rfl ?_); (try (refine gate_guard (by rfl) ?_; dsimp only)); at_builtin; refine Kd.R_append Kd.string (w0 := w) w.heap.size rfl (.tmp 57) (.tmp 58) 23 9 (.string ⟨#[]⟩) 16 rfl Tryz.underlying23 info9 rfl (by decide) (by omega) u115001 x115001_3 (⟨#[49]⟩ : ByteArray) [.string (⟨#[49]⟩ : ByteArray)] (fun k_ => some k_ ≠ (u110001 : Value).ownBlock) (fun _ => False) rfl rfl ?aP (fun _ hk => hk.elim) ?aF ?aO ?aB ?aS ?aL ?_; (case aP => exact rfl); (case aB => exact T9_); (case aF => exact (fun k_ hk => Kd.fresh' (Kd.R_lt (K1_ HO_110001)) k_ hk)); (case aO => exact (K1_ HO_115001)); (case aS => exact (below_size T9_)); (case aL => have := LMc53.out; omega); intro v121 w57 ho hb hg hat; rw [← Ny120.out] at ho; replace HO_110000 := A_ (Kd.R_over' (K1_ HO_110000) (Kd.R_typed (K1_ HO_115001)) (by decide) hg); replace HO_110001 := A_ (Kd.R_after (ok := (fun _ => True)) (by (with_reducible repeat (first | apply Kd.R_alloc | apply Kd.R_drewN | apply Kd.R_drew)); exact Kd.R_mono HO_110001.out (fun _ hk => ⟨trivial, hk⟩)) hg hat); replace HO_115000 := A_ (Kd.R_over' (K1_ HO_115000) (Kd.R_typed (K1_ HO_115001)) (by decide) hg); have HO122 := A_ (ho); replace BK101 := A_ (blk_grown (g := gb101) (o := .cells #[.slice (some ad105) l0_0.length c0_0, .slice A0_1 l0_1.length c0_1] 25 (0, 0)) (B1_ BK101.out) hg (Kd.R_ne HO_115001.out BK101.out (by decide))); replace BK109 := A_ (blk_grown (g := gb109) (o := .cells #[.slice Ao27 y106.length co27, u110001] 25 (0, 0)) (B1_ BK109.out) hg (Kd.R_ne HO_115001.out BK109.out (by decide))); replace BK114 := A_ (blk_grown (g := gb114) (o := .cells #[.slice Ao34 y111.length co34, u115001] 25 (0, 0)) (B1_ BK114.out) hg (Kd.R_ne HO_115001.out BK114.out (by decide))); replace HB := A_ (hb); clear HO_115001; clear ho hb hg hat; obtain ⟨Ao58, co58, eo58⟩ := Kd.R_slice HO122.out; subst eo58; have hcz59_0 : w57.cell? ⟨gb114, 0, none⟩ = some (.slice Ao34 y111.length co34) := (blk_cell BK114.out 0).trans rfl; have hcz59_1 : w57.cell? ⟨gb114, 1, none⟩ = some (u115001) := (blk_cell BK114.out 1).trans rfl; have hfz59_0 := blk_frozen BK114.out 0; have hfz59_1 := blk_frozen BK114.out 1))
              go_roundg k3
              case measure => have := HJ1.out; have := HK2.out; have := HK3.out; omega
              case rel => exact ⟨(wrap64 (x54_3 + 1)), (y120), (.slice Ao58 y120.length co58), S1_, H', ⟨by have := HJ1.out; have := HK2.out; have := HK3.out; omega⟩, ⟨by (with_reducible repeat (first | apply Kd.R_alloc | apply Kd.R_drewN | apply Kd.R_drew)); exact Kd.R_mono (Kd.R_far (p := ⟨gb114, 1, none⟩) (Kd.R_types HO_110000.out BK114.out (by decide)) (fun _ hk => hk.2) (.slice Ao58 y120.length co58)) (fun _ hk => hk.1)⟩, ⟨by (with_reducible repeat (first | apply Kd.R_alloc | apply Kd.R_drewN | apply Kd.R_drew)); exact Kd.R_mono (Kd.R_far (p := ⟨gb114, 1, none⟩) (Kd.R_types HO_110001.out BK114.out (by decide)) (fun _ hk => hk.2) (.slice Ao58 y120.length co58)) (fun _ hk => hk.1.2)⟩, ⟨by (with_reducible repeat (first | apply Kd.R_alloc | apply Kd.R_drewN | apply Kd.R_drew)); exact Kd.R_mono (Kd.R_far (p := ⟨gb114, 1, none⟩) (Kd.R_types HO_115000.out BK114.out (by decide)) (fun _ hk => hk.2) (.slice Ao58 y120.length co58)) (fun _ hk => hk.1)⟩, ⟨by (with_reducible repeat (first | apply Kd.R_alloc | apply Kd.R_drewN | apply Kd.R_drew)); exact Kd.R_mono (Kd.R_far (p := ⟨gb114, 1, none⟩) (Kd.R_types HO122.out BK114.out (by decide)) (fun _ hk => hk.2) (.slice Ao58 y120.length co58)) (fun _ hk => hk.1)⟩, BW_ BK101, BW_ BK109, ⟨by (with_reducible repeat (first | refine blk_drewN ?_ _ | refine blk_drew ?_ | refine blk_alloc ?_ _)); refine blk_put (cs := #[.slice Ao34 y111.length co34, u115001]) ?_ 1 _ rfl; (with_reducible repeat (first | refine blk_drewN ?_ _ | refine blk_drew ?_ | refine blk_alloc ?_ _)); exact BK114.out⟩, ⟨T9_⟩⟩
             ·
              rw [if_neg c53] at H;exact absurd H (by simp)
            ·
             rw [if_neg c52] at H;have c52b0 := decide_eq_false c52;clear c52;replace H := BE_ H;obtain ⟨⟨t123, t126, t129⟩, A600, H⟩ := H;have A60 := A_ A600;clear A600;replace H := BE_ H;obtain ⟨⟨t131, t134, t137⟩, A610, H⟩ := H;have A61 := A_ A610;clear A610;replace H := BE_ H;obtain ⟨⟨t139, t142, t145⟩, A620, H⟩ := H;have A62 := A_ A620;clear A620
             by_cases c63 : t129 = 0
             ·
              rw [if_pos c63] at H;have c63b0 : (t129 == 0) = true := beq_iff_eq.mpr c63;have c63b1 : (t129 != 0) = false := bne_eq_false_iff_eq.mpr c63;clear c63
              by_cases c64 : t137 = 0
              ·
               rw [if_pos c64] at H;have c64b0 : (t137 == 0) = true := beq_iff_eq.mpr c64;have c64b1 : (t137 != 0) = false := bne_eq_false_iff_eq.mpr c64;clear c64
               by_cases c65 : t145 = 0
               ·
                rw [if_pos c65] at H;have c65b0 : (t145 == 0) = true := beq_iff_eq.mpr c65;have c65b1 : (t145 != 0) = false := bne_eq_false_iff_eq.mpr c65;clear c65
                by_cases c66 : (t134.length : Int) = 1
                ·
                 rw [if_pos c66] at H;have c66b0 : ((t134.length : Int) == 1) = true := beq_iff_eq.mpr c66;have c66b1 : ((t134.length : Int) != 1) = false := bne_eq_false_iff_eq.mpr c66;clear c66
                 by_cases c67 : (t142.length : Int) = 1
                 ·
                  rw [if_pos c67] at H;have c67b0 : ((t142.length : Int) == 1) = true := beq_iff_eq.mpr c67;have c67b1 : ((t142.length : Int) != 1) = false := bne_eq_false_iff_eq.mpr c67;clear c67
                  by_cases c68 : 0 < (t134.length : Int)
                  ·
                   rw [if_pos c68] at H;have c68b0 := decide_eq_true c68;have c68b1 : decide (0 < t134.length) = true := decide_eq_true (by omega);clear c68
                   by_cases c69 : 0 < (t142.length : Int)
                   ·
                    rw [if_pos c69] at H;have c69b0 := decide_eq_true c69;have c69b1 : decide (0 < t142.length) = true := decide_eq_true (by omega);clear c69
                    by_cases c70 : (rdOf ByteArray.empty t134 0).toList = (rdOf ByteArray.empty t142 0).toList
                    ·
                     rw [if_pos c70] at H;have c70b0 : ((rdOf ByteArray.empty t134 0).toList == (rdOf ByteArray.empty t142 0).toList) = true := beq_iff_eq.mpr c70;have c70b1 : ((rdOf ByteArray.empty t134 0).toList != (rdOf ByteArray.empty t142 0).toList) = false := bne_eq_false_iff_eq.mpr c70;clear c70;replace H := BE_ H;obtain ⟨t149, A710, H⟩ := H;have A71 := A_ A710;clear A710;obtain rfl := Option.some.inj H;have hnb72 := NB109_101.out;have hnc72 := NB101_109.out;have hnb73 := NB109_114.out;have hnc73 := NB114_109.out;obtain ⟨hcz74_0, hcz74_1, hfz74_0, hfz74_1⟩ := CF_ BK109;have hnb75 := NB101_114.out;have hnc75 := NB114_101.out;obtain ⟨hcz76_0, hcz76_1, hfz76_0, hfz76_1⟩ := CF_ BK101;obtain ⟨Ao77, co77, eo77⟩ := Kd.R_slice HO_110001.out;subst eo77
                     try go_wp2_with (first | (refine GL_ 16 65 Tryz.func16 #[.agg #[.slice Ao27 y106.length co27, .slice Ao77 x110001_2.length co77], .agg #[.slice (some ad105) l0_0.length c0_0, .slice A0_1 l0_1.length c0_1]] ?_; (with_reducible refine (array_MatMul.calls _ _ y106 _ _ x110001_2 _ _ l0_0 _ _ l0_1 t123 t126 t129 _ (Err.Gs.below HGs.out T9_) (C1_ (Kd.R_reads' HO_110000.out).2.2) ((Kd.R_reads' HO_110000.out).2.1) (C1_ (Kd.R_reads' HO_110001.out).2.2) ((Kd.R_reads' HO_110001.out).2.1) (CW_ HR0_0) HC0_0.out (CW_ HR0_1) HC0_1.out A60.out).mono ?_); rintro e w78 ⟨v124, v127, rfl, ho0, ho1, hb⟩; refine ⟨_, rfl, ?_⟩; have HO125 := A_ (Kd.R_lower (Kd.R_new' (Kd.R_new' ho0 (Kd.R_lt (K1_ HO_110000))) (Kd.R_lt (K1_ HO_115000))) (below_size T9_)); replace HO_110000 := A_ (Kd.R_elder' (K1_ HO_110000) (Kd.R_base ho0) hb); replace HO_115000 := A_ (Kd.R_elder' (K1_ HO_115000) (Kd.R_base ho0) hb); have HO128 := A_ (Kd.R_lower (Kd.R_new' (Kd.R_new' ho1 (Kd.R_lt (K1_ HO_110001))) (Kd.R_lt (K1_ HO_115001))) (below_size T9_)); replace HO_110001 := A_ (Kd.R_elder' (K1_ HO_110001) (Kd.R_base ho1) hb); replace HO_115001 := A_ (Kd.R_elder' (K1_ HO_115001) (Kd.R_base ho1) hb); replace BK101 := BF_ BK101 hb; replace BK109 := BF_ BK109 hb; replace BK114 := BF_ BK114 hb; replace HB := BU_ hb; clear hb ho0 ho1) | ((with_reducible refine gate_dst (N := 5) rfl ?_); (try (refine gate_guard (by rfl) ?_; dsimp only)); refine BX_ 5 #[.slice none 0 0, .slice none 0 0] 25 ?_; intro gb130 hg w79 hbox hb; replace HO_110000 := RC_ HO_110000 hb; replace HO_110001 := RC_ HO_110001 hb; replace HO_115000 := RC_ HO_115000 hb; replace HO_115001 := RC_ HO_115001 hb; replace HO125 := RC_ HO125 hb; replace HO128 := RC_ HO128 hb; have BK130 := A_ (hbox); have GE130 := GE_ hg; replace HB := BU_ hb; have NB101_130 := NB_ BK101 hg; have NB130_101 := NC_ BK101 hg; replace BK101 := BF_ BK101 hb; have NB109_130 := NB_ BK109 hg; have NB130_109 := NC_ BK109 hg; replace BK109 := BF_ BK109 hb; have NB114_130 := NB_ BK114 hg; have NB130_114 := NC_ BK114 hg; replace BK114 := BF_ BK114 hb; clear hb hbox hg; obtain ⟨Ao80, co80, eo80⟩ := Kd.R_slice HO125.out; subst eo80; have hnb81 := NB130_101.out; have hnc81 := NB101_130.out; have hnb82 := NB130_109.out; have hnc82 := NB109_130.out; have hnb83 := NB130_114.out; have hnc83 := NB114_130.out; obtain ⟨hcz84_0, hcz84_1, hfz84_0, hfz84_1⟩ := CF_ BK130; obtain ⟨Ao85, co85, eo85⟩ := Kd.R_slice HO128.out; subst eo85; obtain ⟨hcz86_0, hcz86_1, hfz86_0, hfz86_1⟩ := CF_ BK114; obtain ⟨Ao87, co87, eo87⟩ := Kd.R_slice HO_115001.out; subst eo87) | (refine GL_ 16 71 Tryz.func16 #[.agg #[.slice Ao80 t123.length co80, .slice Ao85 t126.length co85], .agg #[.slice Ao34 y111.length co34, .slice Ao87 x115001_3.length co87]] ?_; (with_reducible refine (array_MatMul.calls _ _ t123 _ _ t126 _ _ y111 _ _ x115001_3 t131 t134 t137 _ (Err.Gs.below HGs.out T9_) ?side1 ?side2 ?side3 ?side4 ?side5 ?side6 ?side7 ?side8 A61.out).mono ?_); (case side1 => refine (Kd.R_reads' (e := 3) (base := w.heap.size) (ok := fun k_ => ((True ∧ some k_ ≠ (.slice Ao27 y106.length co27 : Value).ownBlock) ∧ some k_ ≠ (.slice Ao34 y111.length co34 : Value).ownBlock)) (n := t123.length) (c := co80) ?_).2.2; exact (RW_ HO125).out); (case side2 => exact (Kd.R_reads' HO125.out).2.1); (case side3 => refine (Kd.R_reads' (e := 9) (base := w.heap.size) (ok := fun k_ => ((True ∧ some k_ ≠ (.slice Ao77 x110001_2.length co77 : Value).ownBlock) ∧ some k_ ≠ (.slice Ao87 x115001_3.length co87 : Value).ownBlock)) (n := t126.length) (c := co85) ?_).2.2; exact (RW_ HO128).out); (case side4 => exact (Kd.R_reads' HO128.out).2.1); (case side5 => refine (Kd.R_reads' (e := 3) (base := w.heap.size) (ok := fun k_ => (some k_ ≠ (.slice Ao27 y106.length co27 : Value).ownBlock ∧ some k_ ≠ (.slice Ao80 t123.length co80 : Value).ownBlock)) (n := y111.length) (c := co34) ?_).2.2; exact (RW_ HO_115000).out); (case side6 => exact (Kd.R_reads' HO_115000.out).2.1); (case side7 => refine (Kd.R_reads' (e := 9) (base := w.heap.size) (ok := fun k_ => (some k_ ≠ (.slice Ao77 x110001_2.length co77 : Value).ownBlock ∧ some k_ ≠ (.slice Ao85 t126.length co85 : Value).ownBlock)) (n := x115001_3.length) (c := co87) ?_).2.2; exact (RW_ HO_115001).out); (case side8 => exact (Kd.R_reads' HO_115001.out).2.1); rintro e w88 ⟨v132, v135, rfl, ho0, ho1, hb⟩; refine ⟨_, rfl, ?_⟩; have HO133 := A_ (Kd.R_lower (Kd.R_new' (Kd.R_new' (Kd.R_new' ho0 (Kd.R_lt (RW_ HO_110000).out)) (Kd.R_lt (RW_ HO_115000).out)) (Kd.R_lt (RW_ HO125).out)) (below_size T9_)); replace HO_110000 := A_ (Kd.R_elder' (RW_ HO_110000).out (Kd.R_base ho0) hb); replace HO_115000 := A_ (Kd.R_elder' (RW_ HO_115000).out (Kd.R_base ho0) hb); replace HO125 := A_ (Kd.R_elder' (RW_ HO125).out (Kd.R_base ho0) hb); have HO136 := A_ (Kd.R_lower (Kd.R_new' (Kd.R_new' (Kd.R_new' ho1 (Kd.R_lt (RW_ HO_110001).out)) (Kd.R_lt (RW_ HO_115001).out)) (Kd.R_lt (RW_ HO128).out)) (below_size T9_)); replace HO_110001 := A_ (Kd.R_elder' (RW_ HO_110001).out (Kd.R_base ho1) hb); replace HO_115001 := A_ (Kd.R_elder' (RW_ HO_115001).out (Kd.R_base ho1) hb); replace HO128 := A_ (Kd.R_elder' (RW_ HO128).out (Kd.R_base ho1) hb); replace BK101 := BG_ BK101 hb; replace BK109 := BG_ BK109 hb; replace BK114 := BG_ BK114 hb; replace BK130 := BP_ BK130 hb; replace HB := BU_ hb; clear hb ho0 ho1) | ((with_reducible refine gate_dst (N := 7) rfl ?_); (try (refine gate_guard (by rfl) ?_; dsimp only)); refine BX_ 7 #[.slice none 0 0, .slice none 0 0] 25 ?_; intro gb138 hg w89 hbox hb; replace HO_110000 := RC_ HO_110000 hb; replace HO_110001 := RC_ HO_110001 hb; replace HO_115000 := RC_ HO_115000 hb; replace HO_115001 := RC_ HO_115001 hb; replace HO125 := RC_ HO125 hb; replace HO128 := RC_ HO128 hb; replace HO133 := RC_ HO133 hb; replace HO136 := RC_ HO136 hb; have BK138 := A_ (hbox); have GE138 := GE_ hg; replace HB := BU_ hb; have NB101_138 := NB_ BK101 hg; have NB138_101 := NC_ BK101 hg; replace BK101 := BF_ BK101 hb; have NB109_138 := NB_ BK109 hg; have NB138_109 := NC_ BK109 hg; replace BK109 := BF_ BK109 hb; have NB114_138 := NB_ BK114 hg; have NB138_114 := NC_ BK114 hg; replace BK114 := BF_ BK114 hb; have NB130_138 := NB_ BK130 hg; have NB138_130 := NC_ BK130 hg; replace BK130 := BF_ BK130 hb; clear hb hbox hg; obtain ⟨Ao90, co90, eo90⟩ := Kd.R_slice HO133.out; subst eo90; have hnb91 := NB138_101.out; have hnc91 := NB101_138.out; have hnb92 := NB138_109.out; have hnc92 := NB109_138.out; have hnb93 := NB138_114.out; have hnc93 := NB114_138.out; have hnb94 := NB138_130.out; have hnc94 := NB130_138.out; obtain ⟨hcz95_0, hcz95_1, hfz95_0, hfz95_1⟩ := CF_ BK138; obtain ⟨Ao96, co96, eo96⟩ := Kd.R_slice HO136.out; subst eo96; obtain ⟨hcz97_0, hcz97_1, hfz97_0, hfz97_1⟩ := CF_ BK101) | (refine GL_ 22 76 Tryz.func22 #[.agg #[.slice (some ad105) l0_0.length c0_0, .slice A0_1 l0_1.length c0_1]] ?_; (with_reducible refine (array_Total.calls _ _ l0_0 _ _ l0_1 t139 t142 t145 _ (Err.Gs.below HGs.out T9_) (Kd.C_below HR0_0.out T9_) HC0_0.out (Kd.C_below HR0_1.out T9_) HC0_1.out A62.out).mono ?_); rintro e w98 ⟨v140, v143, rfl, ho0, ho1, hb⟩; refine ⟨_, rfl, ?_⟩; have HO141 := A_ (Kd.R_lower (Kd.R_new' (Kd.R_new' (Kd.R_new' (Kd.R_new' ho0 (Kd.R_lt (RW_ HO_110000).out)) (Kd.R_lt (RW_ HO_115000).out)) (Kd.R_lt (RW_ HO125).out)) (Kd.R_lt (RW_ HO133).out)) (below_size T9_)); replace HO_110000 := A_ (Kd.R_elder' (RW_ HO_110000).out (Kd.R_base ho0) hb); replace HO_115000 := A_ (Kd.R_elder' (RW_ HO_115000).out (Kd.R_base ho0) hb); replace HO125 := A_ (Kd.R_elder' (RW_ HO125).out (Kd.R_base ho0) hb); replace HO133 := A_ (Kd.R_elder' (RW_ HO133).out (Kd.R_base ho0) hb); have HO144 := A_ (Kd.R_lower (Kd.R_new' (Kd.R_new' (Kd.R_new' (Kd.R_new' ho1 (Kd.R_lt (RW_ HO_110001).out)) (Kd.R_lt (RW_ HO_115001).out)) (Kd.R_lt (RW_ HO128).out)) (Kd.R_lt (RW_ HO136).out)) (below_size T9_)); replace HO_110001 := A_ (Kd.R_elder' (RW_ HO_110001).out (Kd.R_base ho1) hb); replace HO_115001 := A_ (Kd.R_elder' (RW_ HO_115001).out (Kd.R_base ho1) hb); replace HO128 := A_ (Kd.R_elder' (RW_ HO128).out (Kd.R_base ho1) hb); replace HO136 := A_ (Kd.R_elder' (RW_ HO136).out (Kd.R_base ho1) hb); replace BK101 := BG_ BK101 hb; replace BK109 := BG_ BK109 hb; replace BK114 := BG_ BK114 hb; replace BK130 := BG_ BK130 hb; replace BK138 := BP_ BK138 hb; replace HB := BU_ hb; clear hb ho0 ho1) | ((with_reducible refine gate_dst (N := 9) rfl ?_); (try (refine gate_guard (by rfl) ?_; dsimp only)); refine BX_ 9 #[.slice none 0 0, .slice none 0 0] 25 ?_; intro gb146 hg w99 hbox hb; replace HO_110000 := RC_ HO_110000 hb; replace HO_110001 := RC_ HO_110001 hb; replace HO_115000 := RC_ HO_115000 hb; replace HO_115001 := RC_ HO_115001 hb; replace HO125 := RC_ HO125 hb; replace HO128 := RC_ HO128 hb; replace HO133 := RC_ HO133 hb; replace HO136 := RC_ HO136 hb; replace HO141 := RC_ HO141 hb; replace HO144 := RC_ HO144 hb; have BK146 := A_ (hbox); have GE146 := GE_ hg; replace HB := BU_ hb; have NB101_146 := NB_ BK101 hg; have NB146_101 := NC_ BK101 hg; replace BK101 := BF_ BK101 hb; have NB109_146 := NB_ BK109 hg; have NB146_109 := NC_ BK109 hg; replace BK109 := BF_ BK109 hb; have NB114_146 := NB_ BK114 hg; have NB146_114 := NC_ BK114 hg; replace BK114 := BF_ BK114 hb; have NB130_146 := NB_ BK130 hg; have NB146_130 := NC_ BK130 hg; replace BK130 := BF_ BK130 hb; have NB138_146 := NB_ BK138 hg; have NB146_138 := NC_ BK138 hg; replace BK138 := BF_ BK138 hb; clear hb hbox hg; obtain ⟨Ao100, co100, eo100⟩ := Kd.R_slice HO141.out; subst eo100; have hnb101 := NB146_101.out; have hnc101 := NB101_146.out; have hnb102 := NB146_109.out; have hnc102 := NB109_146.out; have hnb103 := NB146_114.out; have hnc103 := NB114_146.out; have hnb104 := NB146_130.out; have hnc104 := NB130_146.out; have hnb105 := NB146_138.out; have hnc105 := NB138_146.out; obtain ⟨hcz106_0, hcz106_1, hfz106_0, hfz106_1⟩ := CF_ BK146; obtain ⟨Ao107, co107, eo107⟩ := Kd.R_slice HO144.out; subst eo107))
                     have n0_ : Aside0 (Kd.R (Kd.int .i64) 3 ((w99.setCell ⟨gb146, 0, none⟩ (.slice Ao100 t139.length co100)).setCell ⟨gb146, 1, none⟩ (.slice Ao107 t142.length co107)) w.heap.size (fun k_ => some k_ ≠ (.slice Ao34 y111.length co34 : Value).ownBlock ∧ some k_ ≠ (.slice Ao80 t123.length co80 : Value).ownBlock ∧ some k_ ≠ (.slice Ao90 t131.length co90 : Value).ownBlock ∧ some k_ ≠ (.slice Ao100 t139.length co100 : Value).ownBlock) (.slice Ao27 y106.length co27) y106) := ⟨by (with_reducible repeat (first | apply Kd.R_alloc | apply Kd.R_drewN | apply Kd.R_drew)); exact Kd.R_mono (Kd.R_far (p := ⟨gb146, 1, none⟩) (Kd.R_far (p := ⟨gb146, 0, none⟩) (Kd.R_types HO_110000.out BK146.out (by decide)) (fun _ hk => hk.2) (.slice Ao100 t139.length co100)) (fun _ hk => hk.2) (.slice Ao107 t142.length co107)) (fun _ hk => ⟨hk.1.1.1.1, ⟨hk.1.1.1.2, ⟨hk.1.1.2, hk.1.2⟩⟩⟩)⟩;have n1_ : Aside0 (Kd.R Kd.string 9 ((w99.setCell ⟨gb146, 0, none⟩ (.slice Ao100 t139.length co100)).setCell ⟨gb146, 1, none⟩ (.slice Ao107 t142.length co107)) w.heap.size (fun k_ => some k_ ≠ (.slice Ao87 x115001_3.length co87 : Value).ownBlock ∧ some k_ ≠ (.slice Ao85 t126.length co85 : Value).ownBlock ∧ some k_ ≠ (.slice Ao96 t134.length co96 : Value).ownBlock ∧ some k_ ≠ (.slice Ao107 t142.length co107 : Value).ownBlock) (.slice Ao77 x110001_2.length co77) x110001_2) := ⟨by (with_reducible repeat (first | apply Kd.R_alloc | apply Kd.R_drewN | apply Kd.R_drew)); exact Kd.R_mono (Kd.R_far (p := ⟨gb146, 1, none⟩) (Kd.R_far (p := ⟨gb146, 0, none⟩) (Kd.R_types HO_110001.out BK146.out (by decide)) (fun _ hk => hk.2) (.slice Ao100 t139.length co100)) (fun _ hk => hk.2) (.slice Ao107 t142.length co107)) (fun _ hk => ⟨hk.1.1.1.1, ⟨hk.1.1.1.2, ⟨hk.1.1.2, hk.1.2⟩⟩⟩)⟩;have n2_ : Aside0 (Kd.R (Kd.int .i64) 3 ((w99.setCell ⟨gb146, 0, none⟩ (.slice Ao100 t139.length co100)).setCell ⟨gb146, 1, none⟩ (.slice Ao107 t142.length co107)) w.heap.size (fun k_ => some k_ ≠ (.slice Ao27 y106.length co27 : Value).ownBlock ∧ some k_ ≠ (.slice Ao80 t123.length co80 : Value).ownBlock ∧ some k_ ≠ (.slice Ao90 t131.length co90 : Value).ownBlock ∧ some k_ ≠ (.slice Ao100 t139.length co100 : Value).ownBlock) (.slice Ao34 y111.length co34) y111) := ⟨by (with_reducible repeat (first | apply Kd.R_alloc | apply Kd.R_drewN | apply Kd.R_drew)); exact Kd.R_mono (Kd.R_far (p := ⟨gb146, 1, none⟩) (Kd.R_far (p := ⟨gb146, 0, none⟩) (Kd.R_types HO_115000.out BK146.out (by decide)) (fun _ hk => hk.2) (.slice Ao100 t139.length co100)) (fun _ hk => hk.2) (.slice Ao107 t142.length co107)) (fun _ hk => ⟨hk.1.1.1.1, ⟨hk.1.1.1.2, ⟨hk.1.1.2, hk.1.2⟩⟩⟩)⟩;have n3_ : Aside0 (Kd.R Kd.string 9 ((w99.setCell ⟨gb146, 0, none⟩ (.slice Ao100 t139.length co100)).setCell ⟨gb146, 1, none⟩ (.slice Ao107 t142.length co107)) w.heap.size (fun k_ => some k_ ≠ (.slice Ao77 x110001_2.length co77 : Value).ownBlock ∧ some k_ ≠ (.slice Ao85 t126.length co85 : Value).ownBlock ∧ some k_ ≠ (.slice Ao96 t134.length co96 : Value).ownBlock ∧ some k_ ≠ (.slice Ao107 t142.length co107 : Value).ownBlock) (.slice Ao87 x115001_3.length co87) x115001_3) := ⟨by (with_reducible repeat (first | apply Kd.R_alloc | apply Kd.R_drewN | apply Kd.R_drew)); exact Kd.R_mono (Kd.R_far (p := ⟨gb146, 1, none⟩) (Kd.R_far (p := ⟨gb146, 0, none⟩) (Kd.R_types HO_115001.out BK146.out (by decide)) (fun _ hk => hk.2) (.slice Ao100 t139.length co100)) (fun _ hk => hk.2) (.slice Ao107 t142.length co107)) (fun _ hk => ⟨hk.1.1.1.1, ⟨hk.1.1.1.2, ⟨hk.1.1.2, hk.1.2⟩⟩⟩)⟩;have n4_ : Aside0 (Kd.R (Kd.int .i64) 3 ((w99.setCell ⟨gb146, 0, none⟩ (.slice Ao100 t139.length co100)).setCell ⟨gb146, 1, none⟩ (.slice Ao107 t142.length co107)) w.heap.size (fun k_ => some k_ ≠ (.slice Ao27 y106.length co27 : Value).ownBlock ∧ some k_ ≠ (.slice Ao34 y111.length co34 : Value).ownBlock ∧ some k_ ≠ (.slice Ao90 t131.length co90 : Value).ownBlock ∧ some k_ ≠ (.slice Ao100 t139.length co100 : Value).ownBlock) (.slice Ao80 t123.length co80) t123) := ⟨by (with_reducible repeat (first | apply Kd.R_alloc | apply Kd.R_drewN | apply Kd.R_drew)); exact Kd.R_mono (Kd.R_far (p := ⟨gb146, 1, none⟩) (Kd.R_far (p := ⟨gb146, 0, none⟩) (Kd.R_types HO125.out BK146.out (by decide)) (fun _ hk => hk.2) (.slice Ao100 t139.length co100)) (fun _ hk => hk.2) (.slice Ao107 t142.length co107)) (fun _ hk => ⟨hk.1.1.1.1.2, ⟨hk.1.1.1.2, ⟨hk.1.1.2, hk.1.2⟩⟩⟩)⟩;have n5_ : Aside0 (Kd.R Kd.string 9 ((w99.setCell ⟨gb146, 0, none⟩ (.slice Ao100 t139.length co100)).setCell ⟨gb146, 1, none⟩ (.slice Ao107 t142.length co107)) w.heap.size (fun k_ => some k_ ≠ (.slice Ao77 x110001_2.length co77 : Value).ownBlock ∧ some k_ ≠ (.slice Ao87 x115001_3.length co87 : Value).ownBlock ∧ some k_ ≠ (.slice Ao96 t134.length co96 : Value).ownBlock ∧ some k_ ≠ (.slice Ao107 t142.length co107 : Value).ownBlock) (.slice Ao85 t126.length co85) t126) := ⟨by (with_reducible repeat (first | apply Kd.R_alloc | apply Kd.R_drewN | apply Kd.R_drew)); exact Kd.R_mono (Kd.R_far (p := ⟨gb146, 1, none⟩) (Kd.R_far (p := ⟨gb146, 0, none⟩) (Kd.R_types HO128.out BK146.out (by decide)) (fun _ hk => hk.2) (.slice Ao100 t139.length co100)) (fun _ hk => hk.2) (.slice Ao107 t142.length co107)) (fun _ hk => ⟨hk.1.1.1.1.2, ⟨hk.1.1.1.2, ⟨hk.1.1.2, hk.1.2⟩⟩⟩)⟩;have n6_ : Aside0 (Kd.R (Kd.int .i64) 3 ((w99.setCell ⟨gb146, 0, none⟩ (.slice Ao100 t139.length co100)).setCell ⟨gb146, 1, none⟩ (.slice Ao107 t142.length co107)) w.heap.size (fun k_ => some k_ ≠ (.slice Ao27 y106.length co27 : Value).ownBlock ∧ some k_ ≠ (.slice Ao34 y111.length co34 : Value).ownBlock ∧ some k_ ≠ (.slice Ao80 t123.length co80 : Value).ownBlock ∧ some k_ ≠ (.slice Ao100 t139.length co100 : Value).ownBlock) (.slice Ao90 t131.length co90) t131) := ⟨by (with_reducible repeat (first | apply Kd.R_alloc | apply Kd.R_drewN | apply Kd.R_drew)); exact Kd.R_mono (Kd.R_far (p := ⟨gb146, 1, none⟩) (Kd.R_far (p := ⟨gb146, 0, none⟩) (Kd.R_types HO133.out BK146.out (by decide)) (fun _ hk => hk.2) (.slice Ao100 t139.length co100)) (fun _ hk => hk.2) (.slice Ao107 t142.length co107)) (fun _ hk => ⟨hk.1.1.1.1.2, ⟨hk.1.1.1.2, ⟨hk.1.1.2, hk.1.2⟩⟩⟩)⟩;have n7_ : Aside0 (Kd.R Kd.string 9 ((w99.setCell ⟨gb146, 0, none⟩ (.slice Ao100 t139.length co100)).setCell ⟨gb146, 1, none⟩ (.slice Ao107 t142.length co107)) w.heap.size (fun k_ => some k_ ≠ (.slice Ao77 x110001_2.length co77 : Value).ownBlock ∧ some k_ ≠ (.slice Ao87 x115001_3.length co87 : Value).ownBlock ∧ some k_ ≠ (.slice Ao85 t126.length co85 : Value).ownBlock ∧ some k_ ≠ (.slice Ao107 t142.length co107 : Value).ownBlock) (.slice Ao96 t134.length co96) t134) := ⟨by (with_reducible repeat (first | apply Kd.R_alloc | apply Kd.R_drewN | apply Kd.R_drew)); exact Kd.R_mono (Kd.R_far (p := ⟨gb146, 1, none⟩) (Kd.R_far (p := ⟨gb146, 0, none⟩) (Kd.R_types HO136.out BK146.out (by decide)) (fun _ hk => hk.2) (.slice Ao100 t139.length co100)) (fun _ hk => hk.2) (.slice Ao107 t142.length co107)) (fun _ hk => ⟨hk.1.1.1.1.2, ⟨hk.1.1.1.2, ⟨hk.1.1.2, hk.1.2⟩⟩⟩)⟩;have n8_ : Aside0 (Kd.R (Kd.int .i64) 3 ((w99.setCell ⟨gb146, 0, none⟩ (.slice Ao100 t139.length co100)).setCell ⟨gb146, 1, none⟩ (.slice Ao107 t142.length co107)) w.heap.size (fun k_ => some k_ ≠ (.slice Ao27 y106.length co27 : Value).ownBlock ∧ some k_ ≠ (.slice Ao34 y111.length co34 : Value).ownBlock ∧ some k_ ≠ (.slice Ao80 t123.length co80 : Value).ownBlock ∧ some k_ ≠ (.slice Ao90 t131.length co90 : Value).ownBlock) (.slice Ao100 t139.length co100) t139) := ⟨by (with_reducible repeat (first | apply Kd.R_alloc | apply Kd.R_drewN | apply Kd.R_drew)); exact Kd.R_mono (Kd.R_far (p := ⟨gb146, 1, none⟩) (Kd.R_far (p := ⟨gb146, 0, none⟩) (Kd.R_types HO141.out BK146.out (by decide)) (fun _ hk => hk.2) (.slice Ao100 t139.length co100)) (fun _ hk => hk.2) (.slice Ao107 t142.length co107)) (fun _ hk => ⟨hk.1.1.1.1.2, ⟨hk.1.1.1.2, ⟨hk.1.1.2, hk.1.2⟩⟩⟩)⟩;have n9_ : Aside0 (Kd.R Kd.string 9 ((w99.setCell ⟨gb146, 0, none⟩ (.slice Ao100 t139.length co100)).setCell ⟨gb146, 1, none⟩ (.slice Ao107 t142.length co107)) w.heap.size (fun k_ => some k_ ≠ (.slice Ao77 x110001_2.length co77 : Value).ownBlock ∧ some k_ ≠ (.slice Ao87 x115001_3.length co87 : Value).ownBlock ∧ some k_ ≠ (.slice Ao85 t126.length co85 : Value).ownBlock ∧ some k_ ≠ (.slice Ao96 t134.length co96 : Value).ownBlock) (.slice Ao107 t142.length co107) t142) := ⟨by (with_reducible repeat (first | apply Kd.R_alloc | apply Kd.R_drewN | apply Kd.R_drew)); exact Kd.R_mono (Kd.R_far (p := ⟨gb146, 1, none⟩) (Kd.R_far (p := ⟨gb146, 0, none⟩) (Kd.R_types HO144.out BK146.out (by decide)) (fun _ hk => hk.2) (.slice Ao100 t139.length co100)) (fun _ hk => hk.2) (.slice Ao107 t142.length co107)) (fun _ hk => ⟨hk.1.1.1.1.2, ⟨hk.1.1.1.2, ⟨hk.1.1.2, hk.1.2⟩⟩⟩)⟩;have n10_ : Aside0 (((w99.setCell ⟨gb146, 0, none⟩ (.slice Ao100 t139.length co100)).setCell ⟨gb146, 1, none⟩ (.slice Ao107 t142.length co107)).heap[gb101]? = some (.cells #[.slice (some ad105) l0_0.length c0_0, .slice A0_1 l0_1.length c0_1] 25 (0, 0))) := BW_ BK101;have n11_ : Aside0 (((w99.setCell ⟨gb146, 0, none⟩ (.slice Ao100 t139.length co100)).setCell ⟨gb146, 1, none⟩ (.slice Ao107 t142.length co107)).heap[gb109]? = some (.cells #[.slice Ao27 y106.length co27, .slice Ao77 x110001_2.length co77] 25 (0, 0))) := BW_ BK109;have n12_ : Aside0 (((w99.setCell ⟨gb146, 0, none⟩ (.slice Ao100 t139.length co100)).setCell ⟨gb146, 1, none⟩ (.slice Ao107 t142.length co107)).heap[gb114]? = some (.cells #[.slice Ao34 y111.length co34, .slice Ao87 x115001_3.length co87] 25 (0, 0))) := BW_ BK114;have n13_ : Aside0 (((w99.setCell ⟨gb146, 0, none⟩ (.slice Ao100 t139.length co100)).setCell ⟨gb146, 1, none⟩ (.slice Ao107 t142.length co107)).heap[gb130]? = some (.cells #[.slice Ao80 t123.length co80, .slice Ao85 t126.length co85] 25 (0, 0))) := BW_ BK130;have n14_ : Aside0 (((w99.setCell ⟨gb146, 0, none⟩ (.slice Ao100 t139.length co100)).setCell ⟨gb146, 1, none⟩ (.slice Ao107 t142.length co107)).heap[gb138]? = some (.cells #[.slice Ao90 t131.length co90, .slice Ao96 t134.length co96] 25 (0, 0))) := BW_ BK138;have n15_ : Aside0 (((w99.setCell ⟨gb146, 0, none⟩ (.slice Ao100 t139.length co100)).setCell ⟨gb146, 1, none⟩ (.slice Ao107 t142.length co107)).heap[gb146]? = some (.cells #[.slice Ao100 t139.length co100, .slice Ao107 t142.length co107] 25 (0, 0))) := ⟨by (with_reducible repeat (first | refine blk_drewN ?_ _ | refine blk_drew ?_ | refine blk_alloc ?_ _)); refine blk_put (cs := #[.slice Ao100 t139.length co100, .slice none 0 0]) ?_ 1 _ rfl; (with_reducible repeat (first | refine blk_drewN ?_ _ | refine blk_drew ?_ | refine blk_alloc ?_ _)); refine blk_put (cs := #[.slice none 0 0, .slice none 0 0]) ?_ 0 _ rfl; (with_reducible repeat (first | refine blk_drewN ?_ _ | refine blk_drew ?_ | refine blk_alloc ?_ _)); exact BK146.out⟩;have n16_ : Aside0 (Below w.heap.size w ((w99.setCell ⟨gb146, 0, none⟩ (.slice Ao100 t139.length co100)).setCell ⟨gb146, 1, none⟩ (.slice Ao107 t142.length co107))) := ⟨T9_⟩
                     (try clear HO_110000)
                     (try clear HO_110001)
                     (try clear HO_115000)
                     (try clear HO_115001)
                     (try clear HO125)
                     (try clear HO128)
                     (try clear HO133)
                     (try clear HO136)
                     (try clear HO141)
                     (try clear HO144)
                     (try clear BK101)
                     (try clear BK109)
                     (try clear BK114)
                     (try clear BK130)
                     (try clear BK138)
                     (try clear BK146)
                     (try clear HB)
                     generalize ((w99.setCell ⟨gb146, 0, none⟩ (.slice Ao100 t139.length co100)).setCell ⟨gb146, 1, none⟩ (.slice Ao107 t142.length co107)) = w108 at n0_ n1_ n2_ n3_ n4_ n5_ n6_ n7_ n8_ n9_ n10_ n11_ n12_ n13_ n14_ n15_ n16_ ⊢;have HO_110000 := n0_;have HO_110001 := n1_;have HO_115000 := n2_;have HO_115001 := n3_;have HO125 := n4_;have HO128 := n5_;have HO133 := n6_;have HO136 := n7_;have HO141 := n8_;have HO144 := n9_;have BK101 := n10_;have BK109 := n11_;have BK114 := n12_;have BK130 := n13_;have BK138 := n14_;have BK146 := n15_;have HB := n16_;clear n0_ n1_ n2_ n3_ n4_ n5_ n6_ n7_ n8_ n9_ n10_ n11_ n12_ n13_ n14_ n15_ n16_;replace HO_110000 := A_ (Kd.R_drew HO_110000.out);replace HO_110001 := A_ (Kd.R_drew HO_110001.out);replace HO_115000 := A_ (Kd.R_drew HO_115000.out);replace HO_115001 := A_ (Kd.R_drew HO_115001.out);replace HO125 := A_ (Kd.R_drew HO125.out);replace HO128 := A_ (Kd.R_drew HO128.out);replace HO133 := A_ (Kd.R_drew HO133.out);replace HO136 := A_ (Kd.R_drew HO136.out);replace HO141 := A_ (Kd.R_drew HO141.out);replace HO144 := A_ (Kd.R_drew HO144.out);replace BK101 := A_ (blk_drew BK101.out);replace BK109 := A_ (blk_drew BK109.out);replace BK114 := A_ (blk_drew BK114.out);replace BK130 := A_ (blk_drew BK130.out);replace BK138 := A_ (blk_drew BK138.out);replace BK146 := A_ (blk_drew BK146.out);replace HB := A_ (below_drew1 HB.out);have p147 : 0 ≤ (0 : Int) := (by omega);have q147 : 0 < (t134.length : Int) := DA_;obtain ⟨ad147, e147, hx147_0⟩ := Kd.at_string (Kd.R_reads' HO136.out).2.2 0 p147 q147
                     cases e147
                     have qi147 : (0 < t134.length) = True := eq_true (by omega)
                     (try rw [show ((0 : Int)).toNat = 0 from rfl] at hx147_0)
                     (try rw [Addr.add_zero'] at hx147_0)
                     replace p147 := eq_true p147;replace q147 := eq_true q147;have p148 : 0 ≤ (0 : Int) := (by omega);have q148 : 0 < (t142.length : Int) := DA_;obtain ⟨ad148, e148, hx148_0⟩ := Kd.at_string (Kd.R_reads' HO144.out).2.2 0 p148 q148
                     cases e148
                     have qi148 : (0 < t142.length) = True := eq_true (by omega)
                     (try rw [show ((0 : Int)).toNat = 0 from rfl] at hx148_0)
                     (try rw [Addr.add_zero'] at hx148_0)
                     replace p148 := eq_true p148;replace q148 := eq_true q148;refine start_ (n := 37) (S := fun w' => w'.cell? ⟨gb138, 0, none⟩ = some (.slice Ao90 t131.length co90) ∧ w'.cell? ⟨gb138, 1, none⟩ = some (.slice (some ad147) t134.length co96) ∧ w'.cell? ⟨gb146, 0, none⟩ = some (.slice Ao100 t139.length co100) ∧ w'.cell? ⟨gb146, 1, none⟩ = some (.slice (some ad148) t142.length co107) ∧ w'.cell? ad147 = some (.string (rdOf ByteArray.empty t134 0)) ∧ w'.cell? ad148 = some (.string (rdOf ByteArray.empty t142 0))) (ds := []) #[false, false, false, false, false, false, false, false, false, false, false, false, false, false, false, false, false, false, false, false, false, false, false, false, false, false, false, false, false, false, false, false, false, false, false, false, false] (by kernel_rfl) rfl rfl ⟨(blk_cell BK138.out 0).trans rfl, (blk_cell BK138.out 1).trans rfl, (blk_cell BK146.out 0).trans rfl, (blk_cell BK146.out 1).trans rfl, hx147_0, hx148_0⟩ (fun hHeld => ?_); refine with_tabW lw6_ArrayRows.tab16 lw6_ArrayRows.bits16 (fun HT_ HW_ => ?_);generalize w108.drew = w109 at HO_110000 HO_110001 HO_115000 HO_115001 HO125 HO128 HO133 HO136 HO141 HO144 BK101 BK109 BK114 BK130 BK138 BK146 HB hx147_0 hx148_0 hHeld ⊢;refine PU_ 0 79 ?_;refine PU_ 1 80 ?_;refine PU_ 2 81 ?_;refine PU_ 3 82 ?_;refine PU_ 4 83 ?_;refine PU_ 5 84 ?_;refine PU_ 6 85 ?_;refine PU_ 7 86 ?_;refine PU_ 8 87 ?_;refine PU_ 9 88 ?_;refine PU_ 10 89 ?_;refine PU_ 11 90 ?_;refine TK_ 12 91 rfl (by rfl) (by rintro w' ⟨s0, s1, s2, s3, s4, s5⟩;go_simp;with_reducible rfl) hHeld ?_
                     refine PU_ 13 92 ?_;refine PU_ 14 93 ?_;refine PU_ 15 94 ?_;refine PU_ 16 95 ?_;refine PU_ 17 96 ?_;refine TK_ 18 97 rfl (by rfl) (by rintro w' ⟨s0, s1, s2, s3, s4, s5⟩;go_simp;with_reducible rfl) hHeld ?_
                     refine PU_ 19 98 ?_;refine PU_ 20 99 ?_;refine PU_ 21 100 ?_;refine PU_ 22 101 ?_;refine PU_ 23 102 ?_;refine PU_ 27 106 ?_;refine TK_ 24 103 rfl (by rfl) (by rintro w' ⟨s0, s1, s2, s3, s4, s5⟩;go_simp;with_reducible rfl) hHeld ?_
                     refine PU_ 25 104 ?_;refine TK_ 26 105 rfl (by rfl) (by rintro w' ⟨s0, s1, s2, s3, s4, s5⟩;go_simp;with_reducible rfl) hHeld ?_
                     refine TK_ 28 107 rfl (by rfl) (by rintro w' ⟨s0, s1, s2, s3, s4, s5⟩;go_simp;with_reducible rfl) hHeld ?_
                     refine PU_ 29 108 ?_;refine TK_ 30 109 rfl (by rfl) (by rintro w' ⟨s0, s1, s2, s3, s4, s5⟩;go_simp;with_reducible rfl) hHeld ?_
                     refine PU_ 31 110 ?_;refine PU_ 32 111 ?_;refine PU_ 33 112 ?_
                     refine one_ (i := 34) (N := some 113) #[true, true, true, true, true, true, true, true, true, true, true, true, true, true, true, true, true, true, true, true, true, true, true, true, true, true, true, true, true, true, true, true, true, true, true, false, false] rfl rfl (one_of HT_.out (by kernel_rfl)) (by decide) (fun K hK => ?_);refine goes_ Tryz.func13 (by kernel_rfl) rfl #[] (by rfl) rfl rfl T2_ ?_
                     with_reducible refine (lw6_awake.calls  t149 _ (Err.Gs.below HGs.out T9_) A71.out).mono ?_
                     rintro e w110 ⟨rfl, hb⟩;have HS4_ := (hb.cell (World.block_lt_of_cell? _ _ (hHeld.2.2.2.2.1))).trans (hHeld.2.2.2.2.1);have HS5_ := (hb.cell (World.block_lt_of_cell? _ _ (hHeld.2.2.2.2.2))).trans (hHeld.2.2.2.2.2);refine ⟨_, rfl, ?_⟩;replace HO_110000 := RC_ HO_110000 hb;replace HO_110001 := RC_ HO_110001 hb;replace HO_115000 := RC_ HO_115000 hb;replace HO_115001 := RC_ HO_115001 hb;replace HO125 := RC_ HO125 hb;replace HO128 := RC_ HO128 hb;replace HO133 := RC_ HO133 hb;replace HO136 := RC_ HO136 hb;replace HO141 := RC_ HO141 hb;replace HO144 := RC_ HO144 hb;replace BK101 := BF_ BK101 hb;replace BK109 := BF_ BK109 hb;replace BK114 := BF_ BK114 hb;replace BK130 := BF_ BK130 hb;replace BK138 := BF_ BK138 hb;replace BK146 := BF_ BK146 hb;replace HB := BU_ hb
                     (try clear hb)
                     (try clear hb2)
                     (try clear hk)
                     (try clear hi)
                     refine hK.out _ _ ⟨(blk_cell BK138.out 0).trans rfl, (blk_cell BK138.out 1).trans rfl, (blk_cell BK146.out 0).trans rfl, (blk_cell BK146.out 1).trans rfl, HS4_, HS5_⟩ (fun hHeld => ?_);clear hK K;refine norm_ (a' := ?_) ?_ ?_;rotate_left
                     ·
                      show Act.put _ (some 113) _ = _
                      simp only [Act.put, List.setIfInBounds_toArray, List.set_cons_zero, List.set_cons_succ, i64_w, i32_w];rfl
                     refine PU_ 35 114 ?_;refine PU_ 36 2 ?_
                     refine done_ (done_of HT_.out (by kernel_rfl)) ?_
                     try go_wp2
                     go_ret
                     exact ⟨T4_, T9_⟩
                    ·
                     rw [if_neg c70] at H;have c70b0 : ((rdOf ByteArray.empty t134 0).toList == (rdOf ByteArray.empty t142 0).toList) = false := beq_eq_false_iff_ne.mpr c70;have c70b1 : ((rdOf ByteArray.empty t134 0).toList != (rdOf ByteArray.empty t142 0).toList) = true := bne_iff_ne.mpr c70;exact absurd ((Option.some.inj H).trans HRT.out) (by decide)
                   ·
                    rw [if_neg c69] at H;exact absurd H (by simp)
                  ·
                   rw [if_neg c68] at H;exact absurd H (by simp)
                 ·
                  rw [if_neg c67] at H;have c67b0 : ((t142.length : Int) == 1) = false := beq_eq_false_iff_ne.mpr c67;have c67b1 : ((t142.length : Int) != 1) = true := bne_iff_ne.mpr c67;exact absurd ((Option.some.inj H).trans HRT.out) (by decide)
                ·
                 rw [if_neg c66] at H;have c66b0 : ((t134.length : Int) == 1) = false := beq_eq_false_iff_ne.mpr c66;have c66b1 : ((t134.length : Int) != 1) = true := bne_iff_ne.mpr c66;exact absurd ((Option.some.inj H).trans HRT.out) (by decide)
               ·
                rw [if_neg c65] at H;have c65b0 : (t145 == 0) = false := beq_eq_false_iff_ne.mpr c65;have c65b1 : (t145 != 0) = true := bne_iff_ne.mpr c65;exact absurd ((Option.some.inj H).trans HRT.out) (by decide)
              ·
               rw [if_neg c64] at H;have c64b0 : (t137 == 0) = false := beq_eq_false_iff_ne.mpr c64;have c64b1 : (t137 != 0) = true := bne_iff_ne.mpr c64;exact absurd ((Option.some.inj H).trans HRT.out) (by decide)
             ·
              rw [if_neg c63] at H;have c63b0 : (t129 == 0) = false := beq_eq_false_iff_ne.mpr c63;have c63b1 : (t129 != 0) = true := bne_iff_ne.mpr c63;exact absurd ((Option.some.inj H).trans HRT.out) (by decide)
         ·
          rw [if_neg c48] at H;exact absurd H (by simp)
     ·
      rw [if_neg c23] at H;exact absurd H (by simp)
    ·
     rw [if_neg c22] at H;exact absurd H (by simp)
end Go.Proofs.YtmmonhgfnmeieaaGreatDoor.PQR
