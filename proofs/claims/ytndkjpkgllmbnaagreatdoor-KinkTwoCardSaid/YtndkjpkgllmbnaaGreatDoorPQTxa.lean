-- by wip/tool/mine.py of this repo (the kit's printer with given contracts)
import Derived.Test.YtndkjpkgllmbnaaGreatDoorRegI
import Derived.Test.YtndkjpkgllmbnaaGreatDoorPureAwW
import Derived.Test.YtndkjpkgllmbnaaGreatDoorTenY
import Derived.Test.YtndkjpkgllmbnaaGreatDoorKinB
import Derived.Test.YtndkjpkgllmbnaaGreatDoorRX5
namespace Go.Proofs.YtndkjpkgllmbnaaGreatDoor.PQT
open Go.RowKit Go.ZPWords Go.ZPLast Go.ZPMore
attribute [local go_sem] max2_int min2_int max_two min_two max_three min_three max_four min_four   -- for this text's walks alone
set_option linter.unusedVariables false
set_option linter.unusedSimpArgs false
set_option maxHeartbeats 8000000
set_option maxRecDepth 100000
def errW : Option Int → Value
 | none => .nilIface
 | some c => .iface 0 (.int .i64 c)
theorem errW_none : errW none = .nilIface := rfl
theorem errW_some (c : Int) : errW (some c) = .iface 0 (.int .i64 c) := rfl
theorem info9 : (Tryz.prog.info? 9).map (fun i => (i.zero, i.size, i.bytes)) = some (some (.string ⟨#[]⟩), 1, 16) := by kernel_rfl
theorem info61 : (Tryz.prog.info? 61).map (fun i => (i.zero, i.size, i.bytes)) = some (some (.agg #[(.string ⟨#[]⟩), (.string ⟨#[]⟩)]), 2, 32) := by kernel_rfl
structure S61 where
 f0 : ByteArray
 f1 : ByteArray
def z61 : S61 := ⟨(⟨#[]⟩ : ByteArray), (⟨#[]⟩ : ByteArray)⟩
def k61 : Kd S61 := Kd.iso (Kd.pair Kd.string Kd.string) (fun x : S61 => (x.f0, x.f1))
theorem k61_open {w : World} {x : S61} {cs : List Value} (h : k61.K w x cs) : cs = [.string x.f0, .string x.f1] := by
 obtain ⟨_, _, rfl, rfl, rfl⟩ := h;exact rfl
theorem k61_mkM (w : World) (base : Nat) (ok : Nat → Prop) (x : S61)  : k61.M w base ok x [.string x.f0, .string x.f1] := ⟨[.string x.f0], [.string x.f1], rfl, rfl, rfl⟩
def rd_T61 (xs : List S61) (i : Int) : S61 := xs.getD i.toNat z61
theorem at_T61 {w : World} {A : Option Addr} {n : Nat} {xs : List S61} (h : Kd.C k61 w A n xs) (i : Int) (h0 : 0 ≤ i) (h1 : i < n) : ∃ ad , A = some ad ∧ w.cell? (ad.add (i.toNat * 2)) = some (.string (rd_T61 xs i).f0) ∧ w.cell? ⟨(ad.add (i.toNat * 2)).block, (ad.add (i.toNat * 2)).off + 1, none⟩ = some (.string (rd_T61 xs i).f1) := by
 obtain ⟨ad, c, e, _, hK, hc0⟩ := Kd.C_get h z61 i h0 h1;have hc : ∀ j u, c[j]? = some u → w.cell? (ad.add (i.toNat * 2 + j)) = some u := hc0;obtain rfl := k61_open hK;exact ⟨ad, e, hc 0 _ rfl, by rw [← add_field _ _ 1 (by omega)]; exact hc 1 _ rfl⟩
/-! ### rf5_Small: function 11 -/
noncomputable def rf5_Small.f (l0_0 : List Int) (l0_1 : List ByteArray) : Option Bool := some (Ten.small ⟨l0_0, l0_1⟩)
theorem rf5_Small.calls (A0_0 : Option Addr) (c0_0 : Nat) (l0_0 : List Int) (A0_1 : Option Addr) (c0_1 : Nat) (l0_1 : List ByteArray) (r : Bool) (w : World) (hr0_0 : Kd.C (Kd.int .i64) w A0_0 l0_0.length l0_0) (hc0_0 : l0_0.length ≤ c0_0) (hr0_1 : Kd.C Kd.string w A0_1 l0_1.length l0_1) (hc0_1 : l0_1.length ≤ c0_1) (h : rf5_Small.f l0_0 l0_1 = some r) :
  Calls Tryz.prog 11 #[.agg #[.slice A0_0 l0_0.length c0_0, .slice A0_1 l0_1.length c0_1]] w fun e w' => e = .returned (.bool r) ∧ Below w.heap.size w w' := by
 obtain rfl := Option.some.inj h;obtain ⟨k, hk⟩ := (Ten.small_ev ⟨l0_0, l0_1⟩).rounds;exact PV.rf5_Small.calls k _ _ l0_0 _ _ l0_1 _ w hr0_0 hc0_0 hr0_1 hc0_1 hk
/-! ### lw7_awake: function 12 -/
noncomputable def lw7_awake.f : Option Bool := some true
theorem lw7_awake.calls (r : Bool) (w : World) (hG : Err.Gs w) (h : lw7_awake.f = some r) :
  Calls Tryz.prog 12 #[] w fun e w' => e = .returned (.bool r) ∧ Below w.heap.size w w' := by
 obtain rfl := Option.some.inj h;exact Pure.awake_calls w hG
/-! ### kink_Max: function 13 -/
open Classical in
noncomputable def kink_Max.f (l0_0 : List Int) (l0_1 : List ByteArray) (l1_0 : List Int) (l1_1 : List ByteArray) : Option (List Int × List ByteArray × Int) := if Ten.Sm l0_0 l0_1 ∧ Ten.Sm l1_0 l1_1 then some ((Ten.tBoth Ten.pMax ⟨l0_0, l0_1⟩ ⟨l1_0, l1_1⟩).1.s, (Ten.tBoth Ten.pMax ⟨l0_0, l0_1⟩ ⟨l1_0, l1_1⟩).1.d, (Ten.tBoth Ten.pMax ⟨l0_0, l0_1⟩ ⟨l1_0, l1_1⟩).2) else none
theorem kink_Max.calls (A0_0 : Option Addr) (c0_0 : Nat) (l0_0 : List Int) (A0_1 : Option Addr) (c0_1 : Nat) (l0_1 : List ByteArray) (A1_0 : Option Addr) (c1_0 : Nat) (l1_0 : List Int) (A1_1 : Option Addr) (c1_1 : Nat) (l1_1 : List ByteArray) (r1 : List Int) (r2 : List ByteArray) (r3 : Int) (w : World) (hG : Err.Gs w) (hr0_0 : Kd.C (Kd.int .i64) w A0_0 l0_0.length l0_0) (hc0_0 : l0_0.length ≤ c0_0) (hr0_1 : Kd.C Kd.string w A0_1 l0_1.length l0_1) (hc0_1 : l0_1.length ≤ c0_1) (hr1_0 : Kd.C (Kd.int .i64) w A1_0 l1_0.length l1_0) (hc1_0 : l1_0.length ≤ c1_0) (hr1_1 : Kd.C Kd.string w A1_1 l1_1.length l1_1) (hc1_1 : l1_1.length ≤ c1_1) (h : kink_Max.f l0_0 l0_1 l1_0 l1_1 = some (r1, r2, r3)) :
  Calls Tryz.prog 13 #[.agg #[.slice A0_0 l0_0.length c0_0, .slice A0_1 l0_1.length c0_1], .agg #[.slice A1_0 l1_0.length c1_0, .slice A1_1 l1_1.length c1_1]] w fun e w' => ∃ v0_ v1_ : Value, e = .returned (.tuple #[.agg #[v0_, v1_], .int .i64 r3]) ∧ Kd.R (Kd.int .i64) 3 w' w.heap.size (fun _ => True) v0_ r1 ∧ Kd.R Kd.string 9 w' w.heap.size (fun _ => True) v1_ r2 ∧ Below w.heap.size w w' := by
 unfold kink_Max.f at h
 split at h
 ·
  rename_i hl
  injection h with h;injection h with h1 h2;injection h2 with h2 h3;subst h1 h2 h3;exact Ten.max_calls A0_0 c0_0 A0_1 c0_1 l0_0 l0_1 A1_0 c1_0 A1_1 c1_1 l1_0 l1_1 w hG hr0_0 hc0_0 hr0_1 hc0_1 hl.1 hr1_0 hc1_0 hr1_1 hc1_1 hl.2
 ·
  cases h
theorem kink_Max.of (s : List Int) (d : List ByteArray) (s2 : List Int) (d2 : List ByteArray) (h : Ten.Sm s d) (h' : Ten.Sm s2 d2) : kink_Max.f s d s2 d2 = some ((Ten.tBoth Ten.pMax ⟨s, d⟩ ⟨s2, d2⟩).1.s, (Ten.tBoth Ten.pMax ⟨s, d⟩ ⟨s2, d2⟩).1.d, (Ten.tBoth Ten.pMax ⟨s, d⟩ ⟨s2, d2⟩).2) := by rw [kink_Max.f, if_pos ⟨h, h'⟩]
/-! ### rf5_Equal: function 19 -/
noncomputable def rf5_Equal.f (l0_0 : List Int) (l0_1 : List ByteArray) (l1_0 : List Int) (l1_1 : List ByteArray) : Option Bool := if l0_0.length ≤ 1000000 ∧ l0_1.length ≤ 1000000 then some (decide (l0_0 = l1_0 ∧ l0_1 = l1_1)) else none
theorem rf5_Equal.calls (A0_0 : Option Addr) (c0_0 : Nat) (l0_0 : List Int) (A0_1 : Option Addr) (c0_1 : Nat) (l0_1 : List ByteArray) (A1_0 : Option Addr) (c1_0 : Nat) (l1_0 : List Int) (A1_1 : Option Addr) (c1_1 : Nat) (l1_1 : List ByteArray) (r : Bool) (w : World) (hr0_0 : Kd.C (Kd.int .i64) w A0_0 l0_0.length l0_0) (hc0_0 : l0_0.length ≤ c0_0) (hr0_1 : Kd.C Kd.string w A0_1 l0_1.length l0_1) (hc0_1 : l0_1.length ≤ c0_1) (hr1_0 : Kd.C (Kd.int .i64) w A1_0 l1_0.length l1_0) (hc1_0 : l1_0.length ≤ c1_0) (hr1_1 : Kd.C Kd.string w A1_1 l1_1.length l1_1) (hc1_1 : l1_1.length ≤ c1_1) (h : rf5_Equal.f l0_0 l0_1 l1_0 l1_1 = some r) :
  Calls Tryz.prog 19 #[.agg #[.slice A0_0 l0_0.length c0_0, .slice A0_1 l0_1.length c0_1], .agg #[.slice A1_0 l1_0.length c1_0, .slice A1_1 l1_1.length c1_1]] w fun e w' => e = .returned (.bool r) ∧ Below w.heap.size w w' := by
 unfold rf5_Equal.f at h
 split at h
 ·
  rename_i hl
  injection h with h;subst h;obtain ⟨k, hk⟩ := (Ten.equal_ev ⟨l0_0, l0_1⟩ ⟨l1_0, l1_1⟩ hl.1 hl.2).rounds;exact PV.rf5_Equal.calls k _ _ l0_0 _ _ l0_1 _ _ l1_0 _ _ l1_1 _ w hr0_0 hc0_0 hr0_1 hc0_1 hr1_0 hc1_0 hr1_1 hc1_1 hk
 ·
  cases h
theorem rf5_Equal.of (s : List Int) (d : List ByteArray) (s2 : List Int) (d2 : List ByteArray) (h : s.length ≤ 1000000 ∧ d.length ≤ 1000000) : rf5_Equal.f s d s2 d2 = some (decide (s = s2 ∧ d = d2)) := by rw [rf5_Equal.f, if_pos h]
/-! ### kink_Above: function 22 -/
open Classical in
noncomputable def kink_Above.f (l0_0 : List Int) (l0_1 : List ByteArray) (l1_0 : List Int) (l1_1 : List ByteArray) : Option (List Int × List ByteArray × Int) := if Ten.Sm l0_0 l0_1 ∧ Ten.Sm l1_0 l1_1 then some ((Ten.tBoth Ten.pAbove ⟨l0_0, l0_1⟩ ⟨l1_0, l1_1⟩).1.s, (Ten.tBoth Ten.pAbove ⟨l0_0, l0_1⟩ ⟨l1_0, l1_1⟩).1.d, (Ten.tBoth Ten.pAbove ⟨l0_0, l0_1⟩ ⟨l1_0, l1_1⟩).2) else none
theorem kink_Above.calls (A0_0 : Option Addr) (c0_0 : Nat) (l0_0 : List Int) (A0_1 : Option Addr) (c0_1 : Nat) (l0_1 : List ByteArray) (A1_0 : Option Addr) (c1_0 : Nat) (l1_0 : List Int) (A1_1 : Option Addr) (c1_1 : Nat) (l1_1 : List ByteArray) (r1 : List Int) (r2 : List ByteArray) (r3 : Int) (w : World) (hG : Err.Gs w) (hr0_0 : Kd.C (Kd.int .i64) w A0_0 l0_0.length l0_0) (hc0_0 : l0_0.length ≤ c0_0) (hr0_1 : Kd.C Kd.string w A0_1 l0_1.length l0_1) (hc0_1 : l0_1.length ≤ c0_1) (hr1_0 : Kd.C (Kd.int .i64) w A1_0 l1_0.length l1_0) (hc1_0 : l1_0.length ≤ c1_0) (hr1_1 : Kd.C Kd.string w A1_1 l1_1.length l1_1) (hc1_1 : l1_1.length ≤ c1_1) (h : kink_Above.f l0_0 l0_1 l1_0 l1_1 = some (r1, r2, r3)) :
  Calls Tryz.prog 22 #[.agg #[.slice A0_0 l0_0.length c0_0, .slice A0_1 l0_1.length c0_1], .agg #[.slice A1_0 l1_0.length c1_0, .slice A1_1 l1_1.length c1_1]] w fun e w' => ∃ v0_ v1_ : Value, e = .returned (.tuple #[.agg #[v0_, v1_], .int .i64 r3]) ∧ Kd.R (Kd.int .i64) 3 w' w.heap.size (fun _ => True) v0_ r1 ∧ Kd.R Kd.string 9 w' w.heap.size (fun _ => True) v1_ r2 ∧ Below w.heap.size w w' := by
 unfold kink_Above.f at h
 split at h
 ·
  rename_i hl
  injection h with h;injection h with h1 h2;injection h2 with h2 h3;subst h1 h2 h3;exact Ten.above_calls A0_0 c0_0 A0_1 c0_1 l0_0 l0_1 A1_0 c1_0 A1_1 c1_1 l1_0 l1_1 w hG hr0_0 hc0_0 hr0_1 hc0_1 hl.1 hr1_0 hc1_0 hr1_1 hc1_1 hl.2
 ·
  cases h
theorem kink_Above.of (s : List Int) (d : List ByteArray) (s2 : List Int) (d2 : List ByteArray) (h : Ten.Sm s d) (h' : Ten.Sm s2 d2) : kink_Above.f s d s2 d2 = some ((Ten.tBoth Ten.pAbove ⟨s, d⟩ ⟨s2, d2⟩).1.s, (Ten.tBoth Ten.pAbove ⟨s, d⟩ ⟨s2, d2⟩).1.d, (Ten.tBoth Ten.pAbove ⟨s, d⟩ ⟨s2, d2⟩).2) := by rw [kink_Above.f, if_pos ⟨h, h'⟩]
/-! ### rf5_Right: function 24 -/
open Classical in
noncomputable def rf5_Right.f (l0_0 : List Int) (l0_1 : List ByteArray) : Option Bool := if Ten.Sm l0_0 l0_1 then some (Ten.tRight ⟨l0_0, l0_1⟩) else none
theorem rf5_Right.calls (A0_0 : Option Addr) (c0_0 : Nat) (l0_0 : List Int) (A0_1 : Option Addr) (c0_1 : Nat) (l0_1 : List ByteArray) (r : Bool) (w : World) (hr0_0 : Kd.C (Kd.int .i64) w A0_0 l0_0.length l0_0) (hc0_0 : l0_0.length ≤ c0_0) (hr0_1 : Kd.C Kd.string w A0_1 l0_1.length l0_1) (hc0_1 : l0_1.length ≤ c0_1) (h : rf5_Right.f l0_0 l0_1 = some r) :
  Calls Tryz.prog 24 #[.agg #[.slice A0_0 l0_0.length c0_0, .slice A0_1 l0_1.length c0_1]] w fun e w' => e = .returned (.bool r) ∧ Below w.heap.size w w' := by
 unfold rf5_Right.f at h
 split at h
 ·
  rename_i hl
  injection h with h;subst h;exact Ten.r5right_calls A0_0 c0_0 A0_1 c0_1 ⟨l0_0, l0_1⟩ w hr0_0 hc0_0 hr0_1 hc0_1 hl
 ·
  cases h
theorem rf5_Right.of (s : List Int) (d : List ByteArray) (h : Ten.Sm s d) : rf5_Right.f s d = some (Ten.tRight ⟨s, d⟩) := by rw [rf5_Right.f, if_pos h]
/-! ### rf4_Same: function 27 -/
noncomputable def rf4_Same.f (l0 : List Int) (l1 : List Int) : Option Bool := if l0.length ≤ 1000 then some (decide (l0 = l1)) else none
theorem rf4_Same.calls (A0 : Option Addr) (c0 : Nat) (l0 : List Int) (A1 : Option Addr) (c1 : Nat) (l1 : List Int) (r : Bool) (w : World) (hr0 : Kd.C (Kd.int .i64) w A0 l0.length l0) (hc0 : l0.length ≤ c0) (hr1 : Kd.C (Kd.int .i64) w A1 l1.length l1) (hc1 : l1.length ≤ c1) (h : rf4_Same.f l0 l1 = some r) :
  Calls Tryz.prog 27 #[.slice A0 l0.length c0, .slice A1 l1.length c1] w fun e w' => e = .returned (.bool r) ∧ Below w.heap.size w w' := by
 unfold rf4_Same.f at h
 split at h
 ·
  rename_i hl
  injection h with h;subst h;exact Ten.same_calls A0 c0 l0 A1 c1 l1 w hr0 hc0 hr1 hc1 hl
 ·
  cases h
theorem rf4_Same.of (s t : List Int) (h : s.length ≤ 1000) : rf4_Same.f s t = some (decide (s = t)) := by rw [rf4_Same.f, if_pos h]
/-! ### rf3_Read: function 49 -/
noncomputable def rf3_Read.f (a0 : ByteArray) : Option (ByteArray × ByteArray × Bool) := if a0.size ≤ 40000000000 then some (Err.r3Read a0) else none
theorem rf3_Read.calls (a0 : ByteArray) (r1 : ByteArray) (r2 : ByteArray) (r3 : Bool) (w : World) (h : rf3_Read.f a0 = some (r1, r2, r3)) :
  Calls Tryz.prog 49 #[.string a0] w fun e w' => e = .returned (.tuple #[.agg #[.string r1, .string r2], .bool r3]) ∧ Below w.heap.size w w' := by
 unfold rf3_Read.f at h
 by_cases c : a0.size ≤ 40000000000
 ·
  rw [if_pos c] at h;obtain ⟨k, hk⟩ := (Err.r3Read_ev a0 c).rounds;exact PS.rf3_Read.calls k a0 r1 r2 r3 w (hk.trans h)
 ·
  rw [if_neg c] at h
  cases h
theorem rf3_Read.rt (x : Rat) (h : (Err.rt x).size ≤ 40000000000) : rf3_Read.f (Err.rt x) = some (Th.Wh.zt x.num, Th.txt x.den, true) := by rw [rf3_Read.f, if_pos h, Err.r3Read_rt x h]
theorem rf3_Read.no (s : ByteArray) (h : s.size ≤ 40000000000) (hs : Err.rv s = none) : ∃ p q, rf3_Read.f s = some (p, q, false) := ⟨(Err.r3Read s).1, (Err.r3Read s).2.1, by rw [rf3_Read.f, if_pos h, ← Err.r3Read_no s hs]⟩
/-! ### rf5_At: function 51 -/
noncomputable def rf5_At.f (l0_0 : List Int) (l0_1 : List ByteArray) (a1 : Int) : Option (ByteArray × ByteArray) := if 0 ≤ a1 then (if a1 < (l0_1.length : Int) then ((rf3_Read.f (rdOf ByteArray.empty l0_1 a1)).bind fun bt104 => (some (bt104.1, bt104.2.1))) else (none)) else (none)
theorem rf5_At.calls (A0_0 : Option Addr) (c0_0 : Nat) (l0_0 : List Int) (A0_1 : Option Addr) (c0_1 : Nat) (l0_1 : List ByteArray) (a1 : Int) (r1 : ByteArray) (r2 : ByteArray) (w : World) (hG : Err.Gs w) (hr0_0 : Kd.C (Kd.int .i64) w A0_0 l0_0.length l0_0) (hc0_0 : l0_0.length ≤ c0_0) (hr0_1 : Kd.C Kd.string w A0_1 l0_1.length l0_1) (hc0_1 : l0_1.length ≤ c0_1) (h : rf5_At.f l0_0 l0_1 a1 = some (r1, r2)) :
  Calls Tryz.prog 51 #[.agg #[.slice A0_0 l0_0.length c0_0, .slice A0_1 l0_1.length c0_1], .int .i64 a1] w fun e w' => e = .returned (.agg #[.string r1, .string r2]) ∧ Below w.heap.size w w' := by
 have hu25 := Tryz.underlying25;have hu61 := Tryz.underlying61;have HR0_0 := A_ hr0_0;have HC0_0 := A_ hc0_0;clear hr0_0 hc0_0;have HR0_1 := A_ hr0_1;have HC0_1 := A_ hc0_1;clear hr0_1 hc0_1;have HB := A_ (Below.refl w.heap.size w);have HGs := A_ hG;clear hG;unfold rf5_At.f at h;have H := h;clear h
 by_cases c3 : 0 ≤ a1
 ·
  rw [if_pos c3] at H;have c3b0 := decide_eq_true c3;clear c3
  by_cases c4 : a1 < (l0_1.length : Int)
  ·
   rw [if_pos c4] at H;have c4b0 := decide_eq_true c4;clear c4;replace H := BE_ H;obtain ⟨⟨t104, t105, t106⟩, A50, H⟩ := H;have A5 := A_ A50;clear A50;simp only [Option.some.injEq, Prod.mk.injEq] at H;obtain ⟨rfl, rfl⟩ := H;go_enter Tryz.func51, Tryz.ntmps51
   go_wp2_with (first | (refine BX_ 2 #[.slice A0_0 l0_0.length c0_0, .slice A0_1 l0_1.length c0_1] 25 ?_; intro gb101 hg w6 hbox hb; have BK101 := A_ (hbox); have GE101 := GE_ hg; replace HB := BS_ hb; clear hb hbox hg) | (refine BX_ 4 #[.string (⟨#[]⟩ : ByteArray), .string (⟨#[]⟩ : ByteArray)] 61 ?_; intro gb102 hg w7 hbox hb; have BK102 := A_ (hbox); have GE102 := GE_ hg; replace HB := BU_ hb; have NB101_102 := NB_ BK101 hg; have NB102_101 := NC_ BK101 hg; replace BK101 := BF_ BK101 hb; clear hb hbox hg; have hnb8 := NB101_102.out; have hnc8 := NB102_101.out; obtain ⟨hcz9_0, hcz9_1, hfz9_0, hfz9_1⟩ := CF_ BK101; have p103 : 0 ≤ (a1 : Int) := DA_; have q103 : a1 < (l0_1.length : Int) := DA_; obtain ⟨ad103, e103, hx103_0⟩ := Kd.at_string HR0_1.out a1 p103 q103; cases e103; replace hx103_0 := (HB.out.cell (World.block_lt_of_cell? w _ hx103_0)).trans hx103_0; replace p103 := eq_true p103; replace q103 := eq_true q103) | (refine GL_ 49 13 Tryz.func49 #[.string (rdOf ByteArray.empty l0_1 a1)] ?_; (with_reducible refine (rf3_Read.calls (rdOf ByteArray.empty l0_1 a1) t104 t105 t106 _ A5.out).mono ?_); rintro e w10 ⟨rfl, hb⟩; refine ⟨_, rfl, ?_⟩; replace BK101 := BF_ BK101 hb; replace BK102 := BF_ BK102 hb; replace HB := BU_ hb; clear hb) | (refine BX_ 5 #[.string (⟨#[]⟩ : ByteArray), .string (⟨#[]⟩ : ByteArray)] 61 ?_; intro gb107 hg w11 hbox hb; have BK107 := A_ (hbox); have GE107 := GE_ hg; replace HB := BU_ hb; have NB101_107 := NB_ BK101 hg; have NB107_101 := NC_ BK101 hg; replace BK101 := BF_ BK101 hb; have NB102_107 := NB_ BK102 hg; have NB107_102 := NC_ BK102 hg; replace BK102 := BF_ BK102 hb; clear hb hbox hg; have hnb12 := NB107_101.out; have hnc12 := NB101_107.out; have hnb13 := NB107_102.out; have hnc13 := NB102_107.out; obtain ⟨hcz14_0, hcz14_1, hfz14_0, hfz14_1⟩ := CF_ BK107; obtain ⟨hcz15_0, hcz15_1, hfz15_0, hfz15_1⟩ := CF_ BK102))
   refine bodyPost_ret (results_cell_row rfl _ _ gb102 61 #[.string t104, .string t105] (0, 0) _ rfl (by (with_reducible repeat (first | refine blk_drewN ?_ _ | refine blk_drew ?_ | refine blk_alloc ?_ _)); refine blk_put (cs := #[.string t104, .string (⟨#[]⟩ : ByteArray)]) ?_ 1 _ rfl; (with_reducible repeat (first | refine blk_drewN ?_ _ | refine blk_drew ?_ | refine blk_alloc ?_ _)); refine blk_put (cs := #[.string (⟨#[]⟩ : ByteArray), .string (⟨#[]⟩ : ByteArray)]) ?_ 0 _ rfl; (with_reducible repeat (first | refine blk_drewN ?_ _ | refine blk_drew ?_ | refine blk_alloc ?_ _)); refine blk_far ?_ NB102_107.out _; (with_reducible repeat (first | refine blk_drewN ?_ _ | refine blk_drew ?_ | refine blk_alloc ?_ _)); refine blk_far ?_ NB102_107.out _; (with_reducible repeat (first | refine blk_drewN ?_ _ | refine blk_drew ?_ | refine blk_alloc ?_ _)); exact BK102.out) Tryz.underlying61 rfl (by kernel_rfl)) rfl ?_;exact ⟨T4_, T9_⟩
  ·
   rw [if_neg c4] at H;exact absurd H (by simp)
 ·
  rw [if_neg c3] at H;exact absurd H (by simp)
/-! ### rf3_Text: function 73 -/
noncomputable def rf3_Text.f (a0_0 : ByteArray) (a0_1 : ByteArray) : Option (ByteArray) := PS.rf3_Text.f a0_0 a0_1
theorem rf3_Text.calls (a0_0 : ByteArray) (a0_1 : ByteArray) (r : ByteArray) (w : World) (h : rf3_Text.f a0_0 a0_1 = some r) :
  Calls Tryz.prog 73 #[.agg #[.string a0_0, .string a0_1]] w fun e w' => e = .returned (.string r) ∧ Below w.heap.size w w' := PS.rf3_Text.calls a0_0 a0_1 r w h
theorem rf3_Text.rt (x : Rat) (h : Err.qm x ≤ 100000000000) : rf3_Text.f (Th.Wh.zt x.num) (Th.txt x.den) = some (Err.rt x) := PS.rf3_Text.rt x h
/-! ### rf5_Of: function 52 -/
noncomputable def rf5_Of.l0 : Nat → List (S61) → Int → List Int → List ByteArray → Option (List Int × List ByteArray)
 | 0, _, _, _, _ => none
 | k + 1, x1, x6, x110000, x110001 => if x6 < (x1.length : Int) then (if 0 ≤ x6 then ((rf3_Text.f ((rd_T61 x1 x6).f0) ((rd_T61 x1 x6).f1)).bind fun t111 => (if x110001.length < 8796093022208 then (rf5_Of.l0 k x1 (wrap64 (x6 + 1)) x110000 (x110001 ++ [t111])) else (none))) else (none)) else (some (x110000, x110001))
noncomputable def rf5_Of.f (k : Nat) (l0 : List Int) (l1 : List (S61)) : Option (List Int × List ByteArray) := rf5_Of.l0 k l1 0 l0 ([] : List ByteArray)
def rf5_Of.T5 : Bool × List (List Nat × List Nat) := (true, [([], []), ([0], [0]), ([], []), ([], []), ([2, 3], [2, 3]), ([4], [4]), ([5], [5]), ([6], [6]), ([1, 7, 6], [1, 7]), ([0, 1, 2, 3, 4, 5, 6, 7, 8], []), ([9, 8, 8, 0, 1, 2, 3, 4, 5, 6, 7, 8], [8, 9])])
def rf5_Of.B5 : List Nat := [0, 1, 0, 0, 12, 28, 60, 124, 255, 511, 1023]
theorem rf5_Of.tab5 : rtab .any (opsOf Tryz.f52 5) = rf5_Of.T5 := by kernel_rfl
theorem rf5_Of.bits5 : waitsOk rf5_Of.T5.2 rf5_Of.B5 = true := by kernel_rfl
theorem rf5_Of.calls (k : Nat) (P0_ : Nat → Prop) (A0 : Option Addr) (c0 : Nat) (l0 : List Int) (A1 : Option Addr) (c1 : Nat) (l1 : List (S61)) (r1 : List Int) (r2 : List ByteArray) (w : World) (hG : Err.Gs w) (hs0 : Kd.V (Kd.int .i64) 3 w w.heap.size (fun k_ => P0_ k_) (.slice A0 l0.length c0) l0) (hr1 : Kd.C k61 w A1 l1.length l1) (hc1 : l1.length ≤ c1) (h : rf5_Of.f k l0 l1 = some (r1, r2)) :
  Calls Tryz.prog 52 #[.slice A0 l0.length c0, .slice A1 l1.length c1] w fun e w' => ∃ v0_ v1_ : Value, e = .returned (.agg #[v0_, v1_]) ∧ Kd.V (Kd.int .i64) 3 w' w.heap.size (fun k_ => (P0_ k_ ∨ w.heap.size ≤ k_) ∧ some k_ ≠ (v1_ : Value).ownBlock) v0_ r1 ∧ Kd.R Kd.string 9 w' w.heap.size (fun k_ => (w.heap.size ≤ k_)) v1_ r2 ∧ Below w.heap.size w w' := by
 have hu25 := Tryz.underlying25;have hu61 := Tryz.underlying61;have HO0 := A_ (show Kd.V (Kd.int .i64) 3 w w.heap.size (fun k_ => (P0_ k_ ∨ w.heap.size ≤ k_)) (.slice A0 l0.length c0) l0 from Kd.V_mono hs0 (fun k_ hk => .inl hk));have HR1 := A_ hr1;have HC1 := A_ hc1;clear hr1 hc1;have HB := A_ (Below.refl w.heap.size w);have HGs := A_ hG;clear hG;unfold rf5_Of.f at h;have H := h;clear h;have H' := A_ H;clear H;go_enter Tryz.func52, Tryz.ntmps52
 go_wp2_with (first | (refine BX_ 4 #[.slice none 0 0, .slice none 0 0] 25 ?_; intro gb108 hg w3 hbox hb; replace HO0 := A_ (Kd.V_below (Kd.V_elderB (by (with_reducible repeat (first | apply Kd.V_alloc | apply Kd.V_drewN | apply Kd.V_drew)); exact HO0.out) gb108 (Nat.le_of_eq hg.symm)) hb); have BK108 := A_ (hbox); have GE108 := GE_ hg; replace HB := BS_ hb; clear hb hbox hg) | (refine BX_ 5 #[.slice none 0 0, .slice none 0 0] 25 ?_; intro gb109 hg w4 hbox hb; replace HO0 := A_ (Kd.V_below (Kd.V_elderB (by (with_reducible repeat (first | apply Kd.V_alloc | apply Kd.V_drewN | apply Kd.V_drew)); exact HO0.out) gb109 (Nat.le_of_eq hg.symm)) hb); have BK109 := A_ (hbox); have GE109 := GE_ hg; replace HB := BU_ hb; have NB108_109 := NB_ BK108 hg; have NB109_108 := NC_ BK108 hg; replace BK108 := BF_ BK108 hb; clear hb hbox hg; have hnb5 := NB109_108.out; have hnc5 := NB108_109.out; obtain ⟨hcz6_0, hcz6_1, hfz6_0, hfz6_1⟩ := CF_ BK109))
 go_loopg [6] k (fun kq v6 w' => ∃ (x6_1 : Int) (x110001_1 : List ByteArray) (u110001 : Value), v6 = .int .i64 x6_1 ∧ Aside0 (rf5_Of.l0 kq l1 x6_1 l0 x110001_1 = some (r1, r2)) ∧ Aside0 (kq ≤ k) ∧ Aside0 (Kd.V (Kd.int .i64) 3 w' w.heap.size (fun k_ => (P0_ k_ ∨ w.heap.size ≤ k_) ∧ some k_ ≠ (u110001 : Value).ownBlock ∧ k_ ≠ gb108 ∧ k_ ≠ gb109) (.slice A0 l0.length c0) l0) ∧ Aside0 (Kd.R Kd.string 9 w' w.heap.size (fun k_ => (w.heap.size ≤ k_)) u110001 x110001_1) ∧ Aside0 (w'.heap[gb108]? = some (.cells #[(.slice none 0 0), (.slice none 0 0)] 25 (0, 0))) ∧ Aside0 (w'.heap[gb109]? = some (.cells #[(.slice A0 l0.length c0), u110001] 25 (0, 0))) ∧ Aside0 (Below w.heap.size w w'))
 case atStart => exact ⟨(0), (([] : List ByteArray)), (.slice none 0 0), S1_, H', ⟨Nat.le_refl _⟩, ⟨by (with_reducible repeat (first | apply Kd.V_alloc | apply Kd.V_drewN | apply Kd.V_drew)); exact Kd.V_mono (Kd.V_far (p := ⟨gb109, 1, none⟩) (Kd.V_far (p := ⟨gb109, 0, none⟩) (Kd.V_mono HO0.out (fun k_ hk => (⟨hk, hk.2⟩ : _ ∧ k_ ≠ gb109))) (fun _ hk => hk.2) (.slice A0 l0.length c0)) (fun _ hk => hk.2) (.slice none 0 0)) (fun _ hk => ⟨hk.1.1.1, ⟨(by simp [Value.ownBlock]), ⟨hk.1.1.2, hk.1.2⟩⟩⟩)⟩, ⟨by first | exact Kd.R_nil _ _ _ _ _ | exact Kd.N_nil _ _ _ _ _ | exact Kd.V_nil _ _ _ _ _ | exact Kd.Q_nil _ _ _ _ _ | exact Kd.S_nil _ _ _ _ _⟩, BW_ BK108, ⟨by (with_reducible repeat (first | refine blk_drewN ?_ _ | refine blk_drew ?_ | refine blk_alloc ?_ _)); refine blk_put (cs := #[.slice A0 l0.length c0, .slice none 0 0]) ?_ 1 _ rfl; (with_reducible repeat (first | refine blk_drewN ?_ _ | refine blk_drew ?_ | refine blk_alloc ?_ _)); refine blk_put (cs := #[.slice none 0 0, .slice none 0 0]) ?_ 0 _ rfl; (with_reducible repeat (first | refine blk_drewN ?_ _ | refine blk_drew ?_ | refine blk_alloc ?_ _)); exact BK109.out⟩, ⟨T9_⟩⟩
 case round =>
  clear H'
  try clear c1
  try clear hcz6_0
  try clear hcz6_1
  try clear hfz6_0
  try clear hfz6_1
  obtain ⟨x6_1, x110001_1, u110001, rfl, HA, HK1, HO_110000, HO_110001, BK108, BK109, HB⟩ := hrel
  cases gk with
  | zero => exact absurd HA.out (by simp [rf5_Of.l0])
  | succ k1 =>
   have H := HA.out;clear HA;simp only [rf5_Of.l0] at H
   by_cases c7 : x6_1 < (l1.length : Int)
   ·
    rw [if_pos c7] at H;have c7b0 := decide_eq_true c7;clear c7
    by_cases c8 : 0 ≤ x6_1
    ·
     rw [if_pos c8] at H;have c8b0 := decide_eq_true c8;clear c8;replace H := BE_ H;obtain ⟨t111, A90, H⟩ := H;have A9 := A_ A90;clear A90
     by_cases c10 : x110001_1.length < 8796093022208
     ·
      rw [if_pos c10] at H;have LMc10 := A_ c10;clear c10;obtain ⟨y112, hy_⟩ : ∃ y_ : List ByteArray, y_ = (x110001_1 ++ [t111]) := ⟨_, rfl⟩
      replace H : (rf5_Of.l0 k1 l1 (wrap64 (x6_1 + 1)) l0 y112) = some (r1, r2) := RH_
      have Ny112 := A_ hy_;clear hy_;have H' := A_ H;clear H
      try go_wp2
      replace HO_110000 := A_ (Kd.V_drew HO_110000.out);replace HO_110001 := A_ (Kd.R_drew HO_110001.out);replace BK108 := A_ (blk_drew BK108.out);replace BK109 := A_ (blk_drew BK109.out);replace HB := A_ (below_drew1 HB.out);have p110 : 0 ≤ (x6_1 : Int) := DA_;have q110 : x6_1 < (l1.length : Int) := DA_;obtain ⟨ad110, e110, hx110_0, hx110_1⟩ := at_T61 HR1.out x6_1 p110 q110;have hw110_1 := hx110_1;have hw110_0 := hx110_0
      cases e110
      replace hx110_0 := (HB.out.cell (World.block_lt_of_cell? w _ hx110_0)).trans hx110_0;replace hx110_1 := (HB.out.cell (World.block_lt_of_cell? w _ hx110_1)).trans hx110_1;replace p110 := eq_true p110;replace q110 := eq_true q110;refine start_ (n := 11) (S := fun w' => w'.cell? ⟨gb109, 0, none⟩ = some (.slice A0 l0.length c0) ∧ w'.cell? ⟨gb109, 1, none⟩ = some (u110001) ∧ w'.cell? (ad110.add ((x6_1).toNat * 2)) = some (.string ((rd_T61 l1 x6_1).f0)) ∧ w'.cell? ⟨(ad110.add ((x6_1).toNat * 2)).block, (ad110.add ((x6_1).toNat * 2)).off + 1, none⟩ = some (.string ((rd_T61 l1 x6_1).f1))) (ds := [10]) #[false, false, false, false, false, false, false, false, false, false, false] (by kernel_rfl) rfl rfl ⟨(blk_cell BK109.out 0).trans rfl, (blk_cell BK109.out 1).trans rfl, ((HB.out.cell (World.block_lt_of_cell? w _ hw110_0)).trans hw110_0), ((HB.out.cell (World.block_lt_of_cell? w _ hw110_1)).trans hw110_1)⟩ (fun hHeld => ?_); refine with_tabW rf5_Of.tab5 rf5_Of.bits5 (fun HT_ HW_ => ?_);generalize wr.drew = w11 at HO_110000 HO_110001 BK108 BK109 HB hx110_0 hx110_1 hHeld ⊢;refine PU_ 0 15 ?_;refine PU_ 2 17 ?_;refine PU_ 3 18 ?_;refine PU_ 4 19 ?_;refine TK_ 1 16 rfl (by rfl) (by rintro w' ⟨s0, s1, s2, s3⟩;go_simp;with_reducible rfl) hHeld ?_
      refine TK_ 5 20 rfl (by rfl) (by rintro w' ⟨s0, s1, s2, s3⟩;go_simp;with_reducible rfl) hHeld ?_
      refine one_ (i := 6) (N := some 21) #[true, true, true, true, true, true, true, false, false, false, false] rfl rfl (one_of HT_.out (by kernel_rfl)) (by decide) (fun K hK => ?_);refine goes_ Tryz.func73 (by kernel_rfl) rfl #[.agg #[.string ((rd_T61 l1 x6_1).f0), .string ((rd_T61 l1 x6_1).f1)]] (by rfl) rfl rfl T2_ ?_
      with_reducible refine (rf3_Text.calls ((rd_T61 l1 x6_1).f0) ((rd_T61 l1 x6_1).f1) t111 _ A9.out).mono ?_
      rintro e w12 ⟨rfl, hb⟩;refine ⟨_, rfl, ?_⟩;replace HO_110000 := A_ (Kd.V_below (by (with_reducible repeat (first | apply Kd.V_alloc | apply Kd.V_drewN | apply Kd.V_drew)); exact HO_110000.out) hb);replace HO_110001 := RC_ HO_110001 hb;replace BK108 := BF_ BK108 hb;replace BK109 := BF_ BK109 hb;replace HB := BU_ hb
      (try clear hb)
      (try clear hb2)
      (try clear hk)
      (try clear hi)
      refine hK.out _ _ ⟨(blk_cell BK109.out 0).trans rfl, (blk_cell BK109.out 1).trans rfl, ((HB.out.cell (World.block_lt_of_cell? w _ hw110_0)).trans hw110_0), ((HB.out.cell (World.block_lt_of_cell? w _ hw110_1)).trans hw110_1)⟩ (fun hHeld => ?_);clear hK K;refine norm_ (a' := ?_) ?_ ?_;rotate_left
      ·
       show Act.put _ (some 21) _ = _
       simp only [Act.put, List.setIfInBounds_toArray, List.set_cons_zero, List.set_cons_succ, i64_w, i32_w];rfl
      refine one_ (i := 7) (N := some 22) #[true, true, true, true, true, true, true, true, false, false, false] rfl rfl (one_of HT_.out (by kernel_rfl)) (by decide) (fun K hK => ?_);refine value_ (w1 := ?_) (v := ?_) (by rfl) rfl ?_ ?_;rotate_left 2
      ·
       go_simp;constructor
       ·
        rfl
       ·
        rfl
      refine hK.out _ _ ⟨(blk_cell (blk_alloc BK109.out _) 0).trans rfl, (blk_cell (blk_alloc BK109.out _) 1).trans rfl, (World.cell?_alloc_lt _ _ _ (World.block_lt_of_cell? _ _ (((HB.out.cell (World.block_lt_of_cell? w _ hw110_0)).trans hw110_0)))).trans (((HB.out.cell (World.block_lt_of_cell? w _ hw110_0)).trans hw110_0)), (World.cell?_alloc_lt _ _ _ (World.block_lt_of_cell? _ _ (((HB.out.cell (World.block_lt_of_cell? w _ hw110_1)).trans hw110_1)))).trans (((HB.out.cell (World.block_lt_of_cell? w _ hw110_1)).trans hw110_1))⟩ (fun hHeld => ?_);clear hK K;refine norm_ (a' := ?_) ?_ ?_;rotate_left
      ·
       show Act.put _ (some 22) _ = _
       simp only [Act.put, List.setIfInBounds_toArray, List.set_cons_zero, List.set_cons_succ, i64_w, i32_w];rfl
      refine one_ (i := 8) (N := some 23) #[true, true, true, true, true, true, true, true, true, false, false] rfl rfl (one_of HT_.out (by kernel_rfl)) (by decide) (fun K hK => ?_);refine Kd.R_append_step Kd.string (w0 := w) w.heap.size (by rfl) (.tmp 16) (.tmp 22) 23 9 (.string ⟨#[]⟩) 16 rfl Tryz.underlying23 info9 rfl (by decide) (by omega) u110001 x110001_1 t111 [.string t111] (fun k_ => (w.heap.size ≤ k_)) (fun _ => False) rfl rfl ?aP (fun _ hk => hk.elim) ?aF ?aO ?aB ?aS ?aL ?_
      (case aP => exact rfl)
      (case aB => exact T9_)
      (case aF => exact (fun k_ hk => (Nat.le_trans (below_size T9_) hk)))
      (case aO => exact (K1_ HO_110001))
      (case aS => exact (below_size T9_))
      (case aL => have := LMc10.out; omega)
      intro v113 w13 ho hb hg hat;rw [← Ny112.out] at ho;replace HO_110000 := A_ (Kd.V_afterv (ok := (fun k_ => (P0_ k_ ∨ w.heap.size ≤ k_) ∧ k_ ≠ gb108 ∧ k_ ≠ gb109)) (by (with_reducible repeat (first | apply Kd.V_alloc | apply Kd.V_drewN | apply Kd.V_drew)); exact Kd.V_mono HO_110000.out (fun _ hk => ⟨⟨hk.1, ⟨hk.2.2.1, hk.2.2.2⟩⟩, hk.2.1⟩)) hg hat);have HO114 := A_ (ho);replace BK108 := A_ (blk_grown (g := gb108) (o := .cells #[.slice none 0 0, .slice none 0 0] 25 (0, 0)) (B1_ BK108.out) hg (Kd.R_ne HO_110001.out BK108.out (by decide)));replace BK109 := A_ (blk_grown (g := gb109) (o := .cells #[.slice A0 l0.length c0, u110001] 25 (0, 0)) (B1_ BK109.out) hg (Kd.R_ne HO_110001.out BK109.out (by decide)));replace HB := A_ (hb);clear HO_110001;clear ho hb hg hat;obtain ⟨Ao14, co14, eo14⟩ := Kd.R_slice HO114.out
      (first | subst eo14 | (injection eo14 with f1_ f2_ f3_; have f4_ := f1_.symm; have f5_ := f3_.symm; clear f1_ f2_ f3_; subst f4_; subst f5_))
      refine hK.out _ _ ⟨(blk_cell BK109.out 0).trans rfl, (blk_cell BK109.out 1).trans rfl, ((HB.out.cell (World.block_lt_of_cell? w _ hw110_0)).trans hw110_0), ((HB.out.cell (World.block_lt_of_cell? w _ hw110_1)).trans hw110_1)⟩ (fun hHeld => ?_);clear hK K;refine norm_ (a' := ?_) ?_ ?_;rotate_left
      ·
       show Act.put _ (some 23) _ = _
       simp only [Act.put, List.setIfInBounds_toArray, List.set_cons_zero, List.set_cons_succ, i64_w, i32_w];rfl
      refine PU_ 9 24 ?_
      refine last_ (i := 10) (N := none) #[true, true, true, true, true, true, true, true, true, true, true] rfl rfl (one_of HT_.out (by kernel_rfl)) (by decide) (fun K hK => ?_);have hs15 : w13.cell? ⟨gb109, 1, none⟩ = some (u110001) := (blk_cell BK109.out 1).trans rfl;have hfs15 := blk_frozen BK109.out 1;have hns15_0 := NB108_109.out;have hms15_0 := NB109_108.out;refine skip_ (w1 := ?_) (by rfl) rfl ?_ ?_;rotate_left
      ·
       go_simp;rfl
      refine hK.out _ _ ?_;clear hK K;refine done_ (done_of HT_.out (by kernel_rfl)) ?_
      try go_wp2
      go_roundg k1
      case measure => have := HK1.out; omega
      case rel => exact ⟨(wrap64 (x6_1 + 1)), (y112), (.slice Ao14 y112.length co14), S1_, H', ⟨by have := HK1.out; omega⟩, ⟨by (with_reducible repeat (first | apply Kd.V_alloc | apply Kd.V_drewN | apply Kd.V_drew)); exact Kd.V_mono (Kd.V_far (p := ⟨gb109, 1, none⟩) (Kd.V_mono HO_110000.out (fun k_ hk => (⟨hk, hk.1.2.2⟩ : _ ∧ k_ ≠ gb109))) (fun _ hk => hk.2) (.slice Ao14 y112.length co14)) (fun _ hk => ⟨hk.1.1.1, ⟨hk.1.2, ⟨hk.1.1.2.1, hk.1.1.2.2⟩⟩⟩)⟩, ⟨by (with_reducible repeat (first | apply Kd.R_alloc | apply Kd.R_drewN | apply Kd.R_drew)); exact Kd.R_mono (Kd.R_far (p := ⟨gb109, 1, none⟩) (Kd.R_types HO114.out BK109.out (by decide)) (fun _ hk => hk.2) (.slice Ao14 y112.length co14)) (fun _ hk => hk.1)⟩, BW_ BK108, ⟨by (with_reducible repeat (first | refine blk_drewN ?_ _ | refine blk_drew ?_ | refine blk_alloc ?_ _)); refine blk_put (cs := #[.slice A0 l0.length c0, u110001]) ?_ 1 _ rfl; (with_reducible repeat (first | refine blk_drewN ?_ _ | refine blk_drew ?_ | refine blk_alloc ?_ _)); exact BK109.out⟩, ⟨T9_⟩⟩
     ·
      rw [if_neg c10] at H;exact absurd H (by simp)
    ·
     rw [if_neg c8] at H;exact absurd H (by simp)
   ·
    rw [if_neg c7] at H;have c7b0 := decide_eq_false c7;clear c7;simp only [Option.some.injEq, Prod.mk.injEq] at H;obtain ⟨rfl, rfl⟩ := H;have hnb16 := NB109_108.out;have hnc16 := NB108_109.out;have hcz17_0 : wr.cell? ⟨gb109, 0, none⟩ = some (.slice A0 l0.length c0) := (blk_cell BK109.out 0).trans rfl;have hcz17_1 : wr.cell? ⟨gb109, 1, none⟩ = some (u110001) := (blk_cell BK109.out 1).trans rfl;have hfz17_0 := blk_frozen BK109.out 0;have hfz17_1 := blk_frozen BK109.out 1;obtain ⟨hcz18_0, hcz18_1, hfz18_0, hfz18_1⟩ := CF_ BK108;obtain ⟨Ao19, co19, eo19⟩ := Kd.R_slice HO_110001.out;subst eo19
    go_wp2
    refine bodyPost_ret (results_cell_row rfl _ _ gb108 25 #[.slice A0 l0.length c0, .slice Ao19 x110001_1.length co19] (0, 0) _ rfl (by (with_reducible repeat (first | refine blk_drewN ?_ _ | refine blk_drew ?_ | refine blk_alloc ?_ _)); refine blk_put (cs := #[.slice A0 l0.length c0, .slice none 0 0]) ?_ 1 _ rfl; (with_reducible repeat (first | refine blk_drewN ?_ _ | refine blk_drew ?_ | refine blk_alloc ?_ _)); refine blk_put (cs := #[.slice none 0 0, .slice none 0 0]) ?_ 0 _ rfl; (with_reducible repeat (first | refine blk_drewN ?_ _ | refine blk_drew ?_ | refine blk_alloc ?_ _)); exact BK108.out) Tryz.underlying25 rfl (by kernel_rfl)) rfl ?_;exact ⟨_, _, by first | rfl | (simp [errW_none, errW_some] <;> rfl) | (simp [*, errW_none, errW_some] <;> rfl), by (with_reducible repeat (first | apply Kd.V_alloc | apply Kd.V_drewN | apply Kd.V_drew)); exact Kd.V_mono (Kd.V_far (p := ⟨gb108, 1, none⟩) (Kd.V_far (p := ⟨gb108, 0, none⟩) (Kd.V_mono HO_110000.out (fun k_ hk => (⟨hk, hk.2.2.1⟩ : _ ∧ k_ ≠ gb108))) (fun _ hk => hk.2) (.slice A0 l0.length c0)) (fun _ hk => hk.2) (.slice Ao19 x110001_1.length co19)) (fun _ hk => ⟨hk.1.1, hk.1.2.1⟩), by (with_reducible repeat (first | apply Kd.R_alloc | apply Kd.R_drewN | apply Kd.R_drew)); exact Kd.R_mono (Kd.R_far (p := ⟨gb108, 1, none⟩) (Kd.R_far (p := ⟨gb108, 0, none⟩) (Kd.R_types HO_110001.out BK108.out (by decide)) (fun _ hk => hk.2) (.slice A0 l0.length c0)) (fun _ hk => hk.2) (.slice Ao19 x110001_1.length co19)) (fun _ hk => hk.1), T9_⟩
/-! ### rf2_Sign: function 74 -/
noncomputable def rf2_Sign.f (a0 : ByteArray) : Option (Int) := PB.rf2_Sign.f a0
theorem rf2_Sign.calls (a0 : ByteArray) (r : Int) (w : World) (h : rf2_Sign.f a0 = some r) :
  Calls Tryz.prog 74 #[.string a0] w fun e w' => e = .returned (.int .i64 r) ∧ Drawn0 w w' := PB.rf2_Sign.calls a0 r w h
theorem rf2_Sign.zt (x : Int) : rf2_Sign.f (Th.Wh.zt x) = some (Th.Wh.sgn x) := Th.Wh.rsign_zt x
/-! ### rf3_Neg: function 75 -/
noncomputable def rf3_Neg.f (a0_0 : ByteArray) (a0_1 : ByteArray) : Option (ByteArray × ByteArray) := Err.r3Neg a0_0 a0_1
theorem rf3_Neg.calls (a0_0 : ByteArray) (a0_1 : ByteArray) (r1 : ByteArray) (r2 : ByteArray) (w : World) (h : rf3_Neg.f a0_0 a0_1 = some (r1, r2)) :
  Calls Tryz.prog 75 #[.agg #[.string a0_0, .string a0_1]] w fun e w' => e = .returned (.agg #[.string r1, .string r2]) ∧ Below w.heap.size w w' := Err.r3Neg_calls a0_0 a0_1 r1 r2 w h
theorem rf3_Neg.rt {x : Rat} (hx : Err.Fr x) : rf3_Neg.f (Th.Wh.zt x.num) (Th.txt x.den) = some (Th.Wh.zt (-x).num, Th.txt (-x).den) := Err.r3Neg_rt hx
/-! ### rf3_Add: function 76 -/
noncomputable def rf3_Add.f (a0_0 : ByteArray) (a0_1 : ByteArray) (a1_0 : ByteArray) (a1_1 : ByteArray) : Option (ByteArray × ByteArray) := Err.r3Add a0_0 a0_1 a1_0 a1_1
theorem rf3_Add.calls (a0_0 : ByteArray) (a0_1 : ByteArray) (a1_0 : ByteArray) (a1_1 : ByteArray) (r1 : ByteArray) (r2 : ByteArray) (w : World) (h : rf3_Add.f a0_0 a0_1 a1_0 a1_1 = some (r1, r2)) :
  Calls Tryz.prog 76 #[.agg #[.string a0_0, .string a0_1], .agg #[.string a1_0, .string a1_1]] w fun e w' => e = .returned (.agg #[.string r1, .string r2]) ∧ Below w.heap.size w w' := Err.r3Add_calls a0_0 a0_1 a1_0 a1_1 r1 r2 w h
theorem rf3_Add.rt {x y : Rat} (hx : Err.Fr x) (hy : Err.Fr y) : rf3_Add.f (Th.Wh.zt x.num) (Th.txt x.den) (Th.Wh.zt y.num) (Th.txt y.den) = some (Th.Wh.zt (x + y).num, Th.txt (x + y).den) := Err.r3Add_rt hx hy
@[go_sem] theorem fld (x y : Value) (w : World) : (Instr.field 61 (.agg #[x, y]) 0).run Tryz.prog w = .ok x w := by
 simp [Instr.field, run_underlying Tryz.underlying61, run_underlying Tryz.underlying9, part, isAgg, Result.andThen, asAgg]
/-! ### rf7_Less: function 53 -/
noncomputable def rf7_Less.f (a0_0 : ByteArray) (a0_1 : ByteArray) (a1_0 : ByteArray) (a1_1 : ByteArray) : Option (Bool) := (rf3_Neg.f a1_0 a1_1).bind fun bt117 => ((rf3_Add.f a0_0 a0_1 bt117.1 bt117.2).bind fun bt119 => ((rf2_Sign.f bt119.1).bind fun t121 => (some (decide (t121 < 0)))))
def rf7_Less.T1 : Bool × List (List Nat × List Nat) := (true, [([], []), ([], []), ([1], [1]), ([0, 2, 2], [0, 2]), ([3], [3]), ([4, 3], [4]), ([5], [5]), ([6, 5, 0, 1, 2, 3, 4, 5, 6], [6])])
def rf7_Less.B1 : List Nat := [0, 0, 2, 7, 15, 31, 63, 127]
theorem rf7_Less.tab1 : rtab .any (opsOf Tryz.f53 1) = rf7_Less.T1 := by kernel_rfl
theorem rf7_Less.bits1 : waitsOk rf7_Less.T1.2 rf7_Less.B1 = true := by kernel_rfl
theorem rf7_Less.calls (a0_0 : ByteArray) (a0_1 : ByteArray) (a1_0 : ByteArray) (a1_1 : ByteArray) (r : Bool) (w : World) (hG : Err.Gs w) (h : rf7_Less.f a0_0 a0_1 a1_0 a1_1 = some r) :
  Calls Tryz.prog 53 #[.agg #[.string a0_0, .string a0_1], .agg #[.string a1_0, .string a1_1]] w fun e w' => e = .returned (.bool r) ∧ Below w.heap.size w w' := by
 have hu61 := Tryz.underlying61;have HB := A_ (Below.refl w.heap.size w);have HGs := A_ hG;clear hG;unfold rf7_Less.f at h;have H := h;clear h;replace H := BE_ H;obtain ⟨⟨t117, t118⟩, A30, H⟩ := H;have A3 := A_ A30;clear A30;replace H := BE_ H;obtain ⟨⟨t119, t120⟩, A40, H⟩ := H;have A4 := A_ A40;clear A40;replace H := BE_ H;obtain ⟨t121, A50, H⟩ := H;have A5 := A_ A50;clear A50;obtain rfl := Option.some.inj H;go_enter Tryz.func53, Tryz.ntmps53
 try go_wp2_with (first | (refine BX_ 2 #[.string a0_0, .string a0_1] 61 ?_; intro gb115 hg w6 hbox hb; have BK115 := A_ (hbox); have GE115 := GE_ hg; replace HB := BS_ hb; clear hb hbox hg) | (refine BX_ 3 #[.string a1_0, .string a1_1] 61 ?_; intro gb116 hg w7 hbox hb; have BK116 := A_ (hbox); have GE116 := GE_ hg; replace HB := BU_ hb; have NB115_116 := NB_ BK115 hg; have NB116_115 := NC_ BK115 hg; replace BK115 := BF_ BK115 hb; clear hb hbox hg))
 replace BK115 := A_ (blk_drew BK115.out);replace BK116 := A_ (blk_drew BK116.out);replace HB := A_ (below_drew1 HB.out);refine start_ (n := 8) (S := fun w' => w'.cell? ⟨gb115, 0, none⟩ = some (.string a0_0) ∧ w'.cell? ⟨gb115, 1, none⟩ = some (.string a0_1) ∧ w'.cell? ⟨gb116, 0, none⟩ = some (.string a1_0) ∧ w'.cell? ⟨gb116, 1, none⟩ = some (.string a1_1)) (ds := []) #[false, false, false, false, false, false, false, false] (by kernel_rfl) rfl rfl ⟨(blk_cell BK115.out 0).trans rfl, (blk_cell BK115.out 1).trans rfl, (blk_cell BK116.out 0).trans rfl, (blk_cell BK116.out 1).trans rfl⟩ (fun hHeld => ?_); refine with_tabW rf7_Less.tab1 rf7_Less.bits1 (fun HT_ HW_ => ?_);generalize w7.drew = w8 at BK115 BK116 HB hHeld ⊢;refine TK_ 0 5 rfl (by rfl) (by rintro w' ⟨s0, s1, s2, s3⟩;go_simp;with_reducible rfl) hHeld ?_
 refine TK_ 1 6 rfl (by rfl) (by rintro w' ⟨s0, s1, s2, s3⟩;go_simp;with_reducible rfl) hHeld ?_
 refine one_ (i := 2) (N := some 7) #[true, true, true, false, false, false, false, false] rfl rfl (one_of HT_.out (by kernel_rfl)) (by decide) (fun K hK => ?_);refine goes_ Tryz.func75 (by kernel_rfl) rfl #[.agg #[.string a1_0, .string a1_1]] (by rfl) rfl rfl T2_ ?_
 with_reducible refine (rf3_Neg.calls a1_0 a1_1 t117 t118 _ A3.out).mono ?_
 rintro e w9 ⟨rfl, hb⟩;refine ⟨_, rfl, ?_⟩;replace BK115 := BF_ BK115 hb;replace BK116 := BF_ BK116 hb;replace HB := BU_ hb
 (try clear hb)
 (try clear hb2)
 (try clear hk)
 (try clear hi)
 refine hK.out _ _ ⟨(blk_cell BK115.out 0).trans rfl, (blk_cell BK115.out 1).trans rfl, (blk_cell BK116.out 0).trans rfl, (blk_cell BK116.out 1).trans rfl⟩ (fun hHeld => ?_);clear hK K;refine norm_ (a' := ?_) ?_ ?_;rotate_left
 ·
  show Act.put _ (some 7) _ = _
  simp only [Act.put, List.setIfInBounds_toArray, List.set_cons_zero, List.set_cons_succ, i64_w, i32_w];rfl
 refine one_ (i := 3) (N := some 8) #[true, true, true, true, false, false, false, false] rfl rfl (one_of HT_.out (by kernel_rfl)) (by decide) (fun K hK => ?_);refine goes_ Tryz.func76 (by kernel_rfl) rfl #[.agg #[.string a0_0, .string a0_1], .agg #[.string t117, .string t118]] (by rfl) rfl rfl T2_ ?_
 with_reducible refine (rf3_Add.calls a0_0 a0_1 t117 t118 t119 t120 _ A4.out).mono ?_
 rintro e w10 ⟨rfl, hb⟩;refine ⟨_, rfl, ?_⟩;replace BK115 := BF_ BK115 hb;replace BK116 := BF_ BK116 hb;replace HB := BU_ hb
 (try clear hb)
 (try clear hb2)
 (try clear hk)
 (try clear hi)
 refine hK.out _ _ ⟨(blk_cell BK115.out 0).trans rfl, (blk_cell BK115.out 1).trans rfl, (blk_cell BK116.out 0).trans rfl, (blk_cell BK116.out 1).trans rfl⟩ (fun hHeld => ?_);clear hK K;refine norm_ (a' := ?_) ?_ ?_;rotate_left
 ·
  show Act.put _ (some 8) _ = _
  simp only [Act.put, List.setIfInBounds_toArray, List.set_cons_zero, List.set_cons_succ, i64_w, i32_w];rfl
 refine PU_ 4 9 ?_
 refine one_ (i := 5) (N := some 10) #[true, true, true, true, true, true, false, false] rfl rfl (one_of HT_.out (by kernel_rfl)) (by decide) (fun K hK => ?_);refine goes_ Tryz.func74 (by kernel_rfl) rfl #[.string t119] (by rfl) rfl rfl T2_ ?_
 with_reducible refine (rf2_Sign.calls t119 t121 _ A5.out).mono ?_
 rintro e w' ⟨rfl, ⟨nd, rfl⟩⟩;refine ⟨_, rfl, ?_⟩;refine hK.out _ _ ⟨(blk_cell BK115.out 0).trans rfl, (blk_cell BK115.out 1).trans rfl, (blk_cell BK116.out 0).trans rfl, (blk_cell BK116.out 1).trans rfl⟩ (fun hHeld => ?_);clear hK K;refine norm_ (a' := ?_) ?_ ?_;rotate_left
 ·
  show Act.put _ (some 10) _ = _
  simp only [Act.put, List.setIfInBounds_toArray, List.set_cons_zero, List.set_cons_succ, i64_w, i32_w];rfl
 refine PU_ 6 11 ?_;refine PU_ 7 4 ?_
 refine done_ (done_of HT_.out (by kernel_rfl)) ?_
 try go_wp2
 go_ret
 exact ⟨T4_, T9_⟩
/-! ### rf7_Two: function 28 -/
noncomputable def rf7_Two.l0 : Nat → ByteArray → List (S61) → Int → List Int → List ByteArray → List Int → List ByteArray → Option (List Int × List ByteArray)
 | 0, _, _, _, _, _, _, _ => none
 | k + 1, x0, x7, x8, x123000, x123001, x124000, x124001 => if x8 < (x123001.length : Int) then ((rf5_At.f x123000 x123001 x8).bind fun bt131 => ((rf5_At.f x124000 x124001 x8).bind fun bt133 => ((rf7_Less.f bt131.1 bt131.2 bt133.1 bt133.2).bind fun t137 => (if x0.toList = ([97, 98, 111, 118, 101] : List UInt8) then (if t137 = true then (if x7.length < 4398046511104 then (rf7_Two.l0 k x0 (x7 ++ [(⟨(⟨#[48]⟩ : ByteArray), (⟨#[49]⟩ : ByteArray)⟩ : S61)]) (wrap64 (x8 + 1)) x123000 x123001 x124000 x124001) else (none)) else (if x7.length < 4398046511104 then (rf7_Two.l0 k x0 (x7 ++ [(⟨(⟨#[49]⟩ : ByteArray), (⟨#[49]⟩ : ByteArray)⟩ : S61)]) (wrap64 (x8 + 1)) x123000 x123001 x124000 x124001) else (none))) else (if t137 = true then (if x7.length < 4398046511104 then (rf7_Two.l0 k x0 (x7 ++ [(⟨bt133.1, bt133.2⟩ : S61)]) (wrap64 (x8 + 1)) x123000 x123001 x124000 x124001) else (none)) else (if x7.length < 4398046511104 then (rf7_Two.l0 k x0 (x7 ++ [(⟨bt131.1, bt131.2⟩ : S61)]) (wrap64 (x8 + 1)) x123000 x123001 x124000 x124001) else (none))))))) else ((rf5_Of.f k x123000 x7).bind fun bt125 => (some (bt125.1, bt125.2)))
noncomputable def rf7_Two.f (k : Nat) (a0 : ByteArray) (l1_0 : List Int) (l1_1 : List ByteArray) (l2_0 : List Int) (l2_1 : List ByteArray) : Option (List Int × List ByteArray) := rf7_Two.l0 k a0 ([] : List (S61)) 0 l1_0 l1_1 l2_0 l2_1
def rf7_Two.T5 : Bool × List (List Nat × List Nat) := (true, [([], []), ([], []), ([0, 1], [0, 1]), ([], []), ([], []), ([3, 4, 2], [3, 4]), ([], []), ([], []), ([6, 2, 5, 0, 1, 2, 6, 7], [2, 6]), ([7, 5, 8, 0, 1, 2, 3, 4, 5, 6, 7, 8], [5, 7])])
def rf7_Two.B5 : List Nat := [0, 0, 3, 0, 0, 31, 0, 0, 255, 511]
theorem rf7_Two.tab5 : rtab .any (opsOf Tryz.f28 5) = rf7_Two.T5 := by kernel_rfl
theorem rf7_Two.bits5 : waitsOk rf7_Two.T5.2 rf7_Two.B5 = true := by kernel_rfl
theorem rf7_Two.ready5 (c d a b p q : Bool) (i : Nat) (h : readyAt rf7_Two.T5.2 [true, true, c, true, true, d, a, b, p, q] i = true) : (i = 2 ∧ c = false) ∨ (i = 5 ∧ d = false) ∨ (i = 6 ∧ a = false) ∨ (i = 7 ∧ b = false) ∨ (i = 8 ∧ p = false ∧ c = true ∧ a = true) ∨ (i = 9 ∧ q = false ∧ d = true ∧ b = true) := by
 have k : ∀ c d a b p q : Bool, ∀ i : Fin 10, readyAt rf7_Two.T5.2 [true, true, c, true, true, d, a, b, p, q] i.1 = true → (i.1 = 2 ∧ c = false) ∨ (i.1 = 5 ∧ d = false) ∨ (i.1 = 6 ∧ a = false) ∨ (i.1 = 7 ∧ b = false) ∨ (i.1 = 8 ∧ p = false ∧ c = true ∧ a = true) ∨ (i.1 = 9 ∧ q = false ∧ d = true ∧ b = true) := by decide +kernel
 exact k c d a b p q ⟨i, readyAt_lt h⟩ h
theorem rf7_Two.done5 : ∀ c d a b p q : Bool, readyT rf7_Two.T5.2 [true, true, c, true, true, d, a, b, p, q] = [] → c = true ∧ d = true ∧ a = true ∧ b = true ∧ p = true ∧ q = true := by decide +kernel
theorem rf7_Two.calls (k : Nat) (a0 : ByteArray) (P1_0_ : Nat → Prop) (A1_0 : Option Addr) (c1_0 : Nat) (l1_0 : List Int) (A1_1 : Option Addr) (c1_1 : Nat) (l1_1 : List ByteArray) (A2_0 : Option Addr) (c2_0 : Nat) (l2_0 : List Int) (A2_1 : Option Addr) (c2_1 : Nat) (l2_1 : List ByteArray) (r1 : List Int) (r2 : List ByteArray) (w : World) (hG : Err.Gs w) (hs1_0 : Kd.V (Kd.int .i64) 3 w w.heap.size (fun k_ => P1_0_ k_) (.slice A1_0 l1_0.length c1_0) l1_0) (hr1_1 : Kd.C Kd.string w A1_1 l1_1.length l1_1) (hc1_1 : l1_1.length ≤ c1_1) (hr2_0 : Kd.C (Kd.int .i64) w A2_0 l2_0.length l2_0) (hc2_0 : l2_0.length ≤ c2_0) (hr2_1 : Kd.C Kd.string w A2_1 l2_1.length l2_1) (hc2_1 : l2_1.length ≤ c2_1) (h : rf7_Two.f k a0 l1_0 l1_1 l2_0 l2_1 = some (r1, r2)) :
  Calls Tryz.prog 28 #[.string a0, .agg #[.slice A1_0 l1_0.length c1_0, .slice A1_1 l1_1.length c1_1], .agg #[.slice A2_0 l2_0.length c2_0, .slice A2_1 l2_1.length c2_1]] w fun e w' => ∃ v0_ v1_ : Value, e = .returned (.agg #[v0_, v1_]) ∧ Kd.V (Kd.int .i64) 3 w' w.heap.size (fun k_ => (P1_0_ k_ ∨ w.heap.size ≤ k_) ∧ some k_ ≠ (v1_ : Value).ownBlock) v0_ r1 ∧ Kd.R Kd.string 9 w' w.heap.size (fun k_ => (w.heap.size ≤ k_)) v1_ r2 ∧ Below w.heap.size w w' := by
 have hu25 := Tryz.underlying25;have hu61 := Tryz.underlying61;have HO1_0 := A_ (show Kd.V (Kd.int .i64) 3 w w.heap.size (fun k_ => (P1_0_ k_ ∨ w.heap.size ≤ k_)) (.slice A1_0 l1_0.length c1_0) l1_0 from Kd.V_mono hs1_0 (fun k_ hk => .inl hk));have HR1_1 := A_ hr1_1;have HC1_1 := A_ hc1_1;clear hr1_1 hc1_1;have HR2_0 := A_ hr2_0;have HC2_0 := A_ hc2_0;clear hr2_0 hc2_0;have HR2_1 := A_ hr2_1;have HC2_1 := A_ hc2_1;clear hr2_1 hc2_1;have HB := A_ (Below.refl w.heap.size w);have HGs := A_ hG;clear hG;unfold rf7_Two.f at h;have H := h;clear h;have H' := A_ H;clear H;go_enter Tryz.func28, Tryz.ntmps28
 go_wp2_with (first | (refine BX_ 4 #[.slice A1_0 l1_0.length c1_0, .slice A1_1 l1_1.length c1_1] 25 ?_; intro gb122 hg w4 hbox hb; replace HO1_0 := A_ (Kd.V_below (Kd.V_elderB (by (with_reducible repeat (first | apply Kd.V_alloc | apply Kd.V_drewN | apply Kd.V_drew)); exact HO1_0.out) gb122 (Nat.le_of_eq hg.symm)) hb); have BK122 := A_ (hbox); have GE122 := GE_ hg; replace HB := BS_ hb; clear hb hbox hg) | (refine BX_ 5 #[.slice A2_0 l2_0.length c2_0, .slice A2_1 l2_1.length c2_1] 25 ?_; intro gb123 hg w5 hbox hb; replace HO1_0 := A_ (Kd.V_below (Kd.V_elderB (by (with_reducible repeat (first | apply Kd.V_alloc | apply Kd.V_drewN | apply Kd.V_drew)); exact HO1_0.out) gb123 (Nat.le_of_eq hg.symm)) hb); have BK123 := A_ (hbox); have GE123 := GE_ hg; replace HB := BU_ hb; have NB122_123 := NB_ BK122 hg; have NB123_122 := NC_ BK122 hg; replace BK122 := BF_ BK122 hb; clear hb hbox hg) | (refine BX_ 6 #[.slice none 0 0, .slice none 0 0] 25 ?_; intro gb124 hg w6 hbox hb; replace HO1_0 := A_ (Kd.V_below (Kd.V_elderB (by (with_reducible repeat (first | apply Kd.V_alloc | apply Kd.V_drewN | apply Kd.V_drew)); exact HO1_0.out) gb124 (Nat.le_of_eq hg.symm)) hb); have BK124 := A_ (hbox); have GE124 := GE_ hg; replace HB := BU_ hb; have NB122_124 := NB_ BK122 hg; have NB124_122 := NC_ BK122 hg; replace BK122 := BF_ BK122 hb; have NB123_124 := NB_ BK123 hg; have NB124_123 := NC_ BK123 hg; replace BK123 := BF_ BK123 hb; clear hb hbox hg))
 go_loopg [7, 8] k (fun kq v7 v8 w' => ∃ (x7_1 : List (S61)) (x8_1 : Int), v8 = .int .i64 x8_1 ∧ Aside0 (rf7_Two.l0 kq a0 x7_1 x8_1 l1_0 l1_1 l2_0 l2_1 = some (r1, r2)) ∧ Aside0 (kq ≤ k) ∧ Aside0 (Kd.R k61 61 w' w.heap.size (fun k_ => (w.heap.size ≤ k_)) v7 x7_1) ∧ Aside0 (Kd.V (Kd.int .i64) 3 w' w.heap.size (fun k_ => (P1_0_ k_ ∨ w.heap.size ≤ k_) ∧ some k_ ≠ (v7 : Value).ownBlock ∧ k_ ≠ gb122 ∧ k_ ≠ gb123 ∧ k_ ≠ gb124) (.slice A1_0 l1_0.length c1_0) l1_0) ∧ Aside0 (w'.heap[gb122]? = some (.cells #[(.slice A1_0 l1_0.length c1_0), (.slice A1_1 l1_1.length c1_1)] 25 (0, 0))) ∧ Aside0 (w'.heap[gb123]? = some (.cells #[(.slice A2_0 l2_0.length c2_0), (.slice A2_1 l2_1.length c2_1)] 25 (0, 0))) ∧ Aside0 (w'.heap[gb124]? = some (.cells #[(.slice none 0 0), (.slice none 0 0)] 25 (0, 0))) ∧ Aside0 (Below w.heap.size w w'))
 case atStart => exact ⟨(([] : List (S61))), (0), S1_, H', ⟨Nat.le_refl _⟩, ⟨by first | exact Kd.R_nil _ _ _ _ _ | exact Kd.N_nil _ _ _ _ _ | exact Kd.V_nil _ _ _ _ _ | exact Kd.Q_nil _ _ _ _ _ | exact Kd.S_nil _ _ _ _ _⟩, ⟨by (with_reducible repeat (first | apply Kd.V_alloc | apply Kd.V_drewN | apply Kd.V_drew)); exact Kd.V_mono HO1_0.out (fun _ hk => ⟨hk.1.1.1, ⟨(by simp [Value.ownBlock]), ⟨hk.1.1.2, ⟨hk.1.2, hk.2⟩⟩⟩⟩)⟩, BW_ BK122, BW_ BK123, BW_ BK124, ⟨T9_⟩⟩
 case round =>
  clear H'
  obtain ⟨x7_1, x8_1, rfl, HA, HK1, HO_7, HO_123000, BK122, BK123, BK124, HB⟩ := hrel
  cases gk with
  | zero => exact absurd HA.out (by simp [rf7_Two.l0])
  | succ k1 =>
   have H := HA.out;clear HA;simp only [rf7_Two.l0] at H
   by_cases c7 : x8_1 < (l1_1.length : Int)
   ·
    rw [if_pos c7] at H;have c7b0 := decide_eq_true c7;clear c7;replace H := BE_ H;obtain ⟨⟨t131, t132⟩, A80, H⟩ := H;have A8 := A_ A80;clear A80;replace H := BE_ H;obtain ⟨⟨t133, t134⟩, A90, H⟩ := H;have A9 := A_ A90;clear A90;replace H := BE_ H;obtain ⟨t137, A100, H⟩ := H;have A10 := A_ A100;clear A100
    have hnb1 := NB122_123.out;have hnc1 := NB123_122.out;have hnb2 := NB122_124.out;have hnc2 := NB124_122.out;obtain ⟨hcz1, hcz2, hfz1, hfz2⟩ := CF_ BK122
    try go_wp2
    replace HO_7 := A_ (Kd.R_drew HO_7.out);replace HO_123000 := A_ (Kd.V_drew HO_123000.out);replace BK122 := A_ (blk_drew BK122.out);replace BK123 := A_ (blk_drew BK123.out);replace BK124 := A_ (blk_drew BK124.out);replace HB := A_ (below_drew1 HB.out)
    refine start_ (n := 10) (S := fun w' => w'.cell? ⟨gb122, 0, none⟩ = some (.slice A1_0 l1_0.length c1_0) ∧ w'.cell? ⟨gb122, 1, none⟩ = some (.slice A1_1 l1_1.length c1_1) ∧ w'.cell? ⟨gb123, 0, none⟩ = some (.slice A2_0 l2_0.length c2_0) ∧ w'.cell? ⟨gb123, 1, none⟩ = some (.slice A2_1 l2_1.length c2_1)) (ds := []) #[false, false, false, false, false, false, false, false, false, false] (by kernel_rfl) rfl rfl ⟨CA_ BK122, CB_ BK122, CA_ BK123, CB_ BK123⟩ (fun hHeld => ?_); refine with_tabW rf7_Two.tab5 rf7_Two.bits5 (fun HT_ HW_ => ?_)
    generalize wr.drew = w16 at HO_7 HO_123000 BK122 BK123 BK124 HB hHeld ⊢
    refine PU_ 1 20 ?_;refine PU_ 4 23 ?_;refine TK_ 0 19 rfl (by rfl) (by rintro w' ⟨s0, s1, s2, s3⟩;go_simp;with_reducible rfl) hHeld ?_;refine TK_ 3 22 rfl (by rfl) (by rintro w' ⟨s0, s1, s2, s3⟩;go_simp;with_reducible rfl) hHeld ?_
    refine inv3_ HT_.out (fun s : R2 => [true, true, s.c, true, true, s.d, s.a, s.b, s.p, s.q]) (fun s : R2 => [(21, cond s.c (.agg #[.string t131, .string t132]) u21), (24, cond s.d (.agg #[.string t133, .string t134]) u24), (9, cond s.a (.pointer (some ⟨s.g, 0, none⟩)) u9), (10, cond s.b (.pointer (some ⟨s.h, 0, none⟩)) u10)]) (R2I w16 61 (.string t131) (.string t132) (.string t133) (.string t134) (.string (⟨#[]⟩ : ByteArray)) (.string (⟨#[]⟩ : ByteArray))) ⟨false, false, false, false, false, false, 0, 0⟩ rfl ?ha rfl .start ?hS ?hend ?hstep
    case ha => first | rfl | (simp only [putAll, Act.put, List.setIfInBounds_toArray, List.set_cons_zero, List.set_cons_succ]; rfl)
    case hS => exact fun s w' hI => ⟨CA_ (A_ (blk_below BK122.out hI.1)), CB_ (A_ (blk_below BK122.out hI.1)), CA_ (A_ (blk_below BK123.out hI.1)), CB_ (A_ (blk_below BK123.out hI.1))⟩
    case hstep =>
     rintro ⟨c, d, a, b, p, q, g, h⟩ w' hI i hi
     have hc := rf7_Two.ready5 c d a b p q i hi
     have hB2 : Below w16.heap.size w16 w' := hI.1;have HB' := below_step HB.out hB2;have hV := Kd.V_reads' (Kd.V_below HO_123000.out hB2)
     rcases hc with ⟨rfl, rfl⟩ | ⟨rfl, rfl⟩ | ⟨rfl, rfl⟩ | ⟨rfl, rfl⟩ | ⟨rfl, rfl, rfl, rfl⟩ | ⟨rfl, rfl, rfl, rfl⟩
     all_goals (refine wpOp_norm (a' := ?_) ?_ ?_; rotate_left; (simp only [putAll, Act.put, List.setIfInBounds_toArray, List.set_cons_zero, List.set_cons_succ]; rfl); refine wpOp_step rfl (fun K hK => ?_))
     ·
      refine goes_ Tryz.func51 (by kernel_rfl) rfl #[.agg #[.slice A1_0 l1_0.length c1_0, .slice A1_1 l1_1.length c1_1], .int .i64 x8_1] (by rfl) rfl rfl T2_ ?_
      with_reducible refine (rf5_At.calls _ _ l1_0 _ _ l1_1 x8_1 t131 t132 _ (Err.Gs.below HGs.out HB') hV.2.2 hV.2.1 (Kd.C_below HR1_1.out HB') HC1_1.out A8.out).mono ?_
      rintro e w17 ⟨rfl, hb⟩
      exact ⟨_, rfl, hK _ _ ⟨⟨true, d, a, b, p, q, g, h⟩, rfl, (by first | rfl | (simp only [putAll, Act.put, List.setIfInBounds_toArray, List.set_cons_zero, List.set_cons_succ]; rfl) | (simp only [putAll, Act.put, List.setIfInBounds_toArray, List.set_cons_zero, List.set_cons_succ]; done)), hI.callC hb⟩⟩
     ·
      refine goes_ Tryz.func51 (by kernel_rfl) rfl #[.agg #[.slice A2_0 l2_0.length c2_0, .slice A2_1 l2_1.length c2_1], .int .i64 x8_1] (by rfl) rfl rfl T2_ ?_
      with_reducible refine (rf5_At.calls _ _ l2_0 _ _ l2_1 x8_1 t133 t134 _ (Err.Gs.below HGs.out HB') (Kd.C_below HR2_0.out HB') HC2_0.out (Kd.C_below HR2_1.out HB') HC2_1.out A9.out).mono ?_
      rintro e w17 ⟨rfl, hb⟩
      exact ⟨_, rfl, hK _ _ ⟨⟨c, true, a, b, p, q, g, h⟩, rfl, (by first | rfl | (simp only [putAll, Act.put, List.setIfInBounds_toArray, List.set_cons_zero, List.set_cons_succ]; rfl) | (simp only [putAll, Act.put, List.setIfInBounds_toArray, List.set_cons_zero, List.set_cons_succ]; done)), hI.callD hb⟩⟩
     ·
      refine box_step (by rfl) (N := 9) rfl (cs := #[.string (⟨#[]⟩ : ByteArray), .string (⟨#[]⟩ : ByteArray)]) (t := 61) T3_ ?_
      intro g' hg w17 hbox hb
      exact hK _ _ ⟨⟨c, d, true, b, p, q, g', h⟩, rfl, (by first | rfl | (simp only [putAll, Act.put, List.setIfInBounds_toArray, List.set_cons_zero, List.set_cons_succ]; rfl) | (simp only [putAll, Act.put, List.setIfInBounds_toArray, List.set_cons_zero, List.set_cons_succ]; done)), hI.boxA hg hbox hb⟩
     ·
      refine box_step (by rfl) (N := 10) rfl (cs := #[.string (⟨#[]⟩ : ByteArray), .string (⟨#[]⟩ : ByteArray)]) (t := 61) T3_ ?_
      intro g' hg w17 hbox hb
      exact hK _ _ ⟨⟨c, d, a, true, p, q, g, g'⟩, rfl, (by first | rfl | (simp only [putAll, Act.put, List.setIfInBounds_toArray, List.set_cons_zero, List.set_cons_succ]; rfl) | (simp only [putAll, Act.put, List.setIfInBounds_toArray, List.set_cons_zero, List.set_cons_succ]; done)), hI.boxB hg hbox hb⟩
     ·
      have hx : w'.heap[g]? = some (.cells #[.string (⟨#[]⟩ : ByteArray), .string (⟨#[]⟩ : ByteArray)] 61 (0, 0)) := (hI.2.2.2.1 rfl).2
      have hz1 := CA_ (A_ hx);have hz2 := CB_ (A_ hx);have hf1 := blk_frozen hx 0;have hf2 := blk_frozen hx 1
      refine skip_ (w1 := ?_) (by rfl) rfl ?_ ?_;rotate_left
      ·
       go_simp;rfl
      exact hK _ _ ⟨⟨true, d, true, b, true, q, g, h⟩, rfl, (by first | rfl | (simp only [putAll, Act.put, List.setIfInBounds_toArray, List.set_cons_zero, List.set_cons_succ]; rfl) | (simp only [putAll, Act.put, List.setIfInBounds_toArray, List.set_cons_zero, List.set_cons_succ]; done)), hI.putA⟩
     ·
      have hx : w'.heap[h]? = some (.cells #[.string (⟨#[]⟩ : ByteArray), .string (⟨#[]⟩ : ByteArray)] 61 (0, 0)) := (hI.2.2.2.2.1 rfl).2
      have hz1 := CA_ (A_ hx);have hz2 := CB_ (A_ hx);have hf1 := blk_frozen hx 0;have hf2 := blk_frozen hx 1
      refine skip_ (w1 := ?_) (by rfl) rfl ?_ ?_;rotate_left
      ·
       go_simp;rfl
      exact hK _ _ ⟨⟨c, true, a, true, p, true, g, h⟩, rfl, (by first | rfl | (simp only [putAll, Act.put, List.setIfInBounds_toArray, List.set_cons_zero, List.set_cons_succ]; rfl) | (simp only [putAll, Act.put, List.setIfInBounds_toArray, List.set_cons_zero, List.set_cons_succ]; done)), hI.putB⟩
    rintro ⟨c, d, a, b, p, q, g, h⟩ w21 hI hr
    obtain ⟨rfl, rfl, rfl, rfl, rfl, rfl⟩ := rf7_Two.done5 c d a b p q hr
    obtain ⟨hb, -, -, h4, h5, h6⟩ := hI;have BKg : Aside0 (w21.heap[g]? = some (.cells #[.string t131, .string t132] 61 (0, 0))) := ⟨(h4 rfl).2⟩;have BKh : Aside0 (w21.heap[h]? = some (.cells #[.string t133, .string t134] 61 (0, 0))) := ⟨(h5 rfl).2⟩
    have hgh : g ≠ h := h6 rfl rfl;have hhg := Ne.symm hgh;have NGH := A_ hgh;have NHG := A_ hhg;have GEg := A_ (Nat.le_trans (below_size HB.out) (h4 rfl).1);have GEh := A_ (Nat.le_trans (below_size HB.out) (h5 rfl).1)
    have NG0 : Aside0 (gb122 ≠ g) := A_ (Nat.ne_of_lt (Nat.lt_of_lt_of_le (blk_lt BK122.out) (h4 rfl).1));have NH0 : Aside0 (gb122 ≠ h) := A_ (Nat.ne_of_lt (Nat.lt_of_lt_of_le (blk_lt BK122.out) (h5 rfl).1))
    have NG1 : Aside0 (gb123 ≠ g) := A_ (Nat.ne_of_lt (Nat.lt_of_lt_of_le (blk_lt BK123.out) (h4 rfl).1));have NH1 : Aside0 (gb123 ≠ h) := A_ (Nat.ne_of_lt (Nat.lt_of_lt_of_le (blk_lt BK123.out) (h5 rfl).1))
    have NG2 : Aside0 (gb124 ≠ g) := A_ (Nat.ne_of_lt (Nat.lt_of_lt_of_le (blk_lt BK124.out) (h4 rfl).1));have NH2 : Aside0 (gb124 ≠ h) := A_ (Nat.ne_of_lt (Nat.lt_of_lt_of_le (blk_lt BK124.out) (h5 rfl).1))
    replace HO_7 : Aside0 (Kd.R k61 61 w16 w.heap.size (fun k_ => w.heap.size ≤ k_ ∧ k_ ≠ g ∧ k_ ≠ h) u7 x7_1) := A_ (Kd.R_mono (Kd.R_bound HO_7.out) (fun k hk => ⟨hk.1, Nat.ne_of_lt (Nat.lt_of_lt_of_le hk.2.2.1 (h4 rfl).1), Nat.ne_of_lt (Nat.lt_of_lt_of_le hk.2.2.1 (h5 rfl).1)⟩))
    replace HO_123000 := A_ (Kd.V_mono (ok' := fun k_ => ((P1_0_ k_ ∨ w.heap.size ≤ k_) ∧ some k_ ≠ (u7 : Value).ownBlock ∧ k_ ≠ gb122 ∧ k_ ≠ gb123 ∧ k_ ≠ gb124) ∧ k_ ≠ g ∧ k_ ≠ h) (Kd.V_bound HO_123000.out) (fun k hk => ⟨hk.1, Nat.ne_of_lt (Nat.lt_of_lt_of_le hk.2 (h4 rfl).1), Nat.ne_of_lt (Nat.lt_of_lt_of_le hk.2 (h5 rfl).1)⟩))
    replace HO_7 := RC_ HO_7 hb;replace HO_123000 := A_ (Kd.V_below (V1_ HO_123000) hb);replace BK122 := BF_ BK122 hb;replace BK123 := BF_ BK123 hb;replace BK124 := BF_ BK124 hb;replace HB := BU_ hb;clear hb;clear hcz1 hcz2 hfz1 hfz2 h4 h5 h6 hr hHeld
    simp only [putAll, Act.put, List.setIfInBounds_toArray, List.set_cons_zero, List.set_cons_succ]
    obtain ⟨hz0, hz1, hf0, hf1⟩ := CF_ BKg;obtain ⟨hz2, hz3, hf2, hf3⟩ := CF_ BKh
    by_cases c11 : a0.toList = ([97, 98, 111, 118, 101] : List UInt8)
    ·
     rw [if_pos c11] at H;have c11b0 : (a0.toList == ([97, 98, 111, 118, 101] : List UInt8)) = true := beq_iff_eq.mpr c11;have c11b1 : (a0.toList != ([97, 98, 111, 118, 101] : List UInt8)) = false := bne_eq_false_iff_eq.mpr c11
     go_upto_region 9 with (first | (refine GL_ 53 27 Tryz.func53 #[.agg #[.string t131, .string t132], .agg #[.string t133, .string t134]] ?_; (with_reducible refine (rf7_Less.calls t131 t132 t133 t134 t137 _ (Err.Gs.below HGs.out T9_) A10.out).mono ?_); rintro e w36 ⟨rfl, hb⟩; refine ⟨_, rfl, ?_⟩; replace HO_7 := RC_ HO_7 hb; replace HO_123000 := A_ (Kd.V_below (V1_ HO_123000) hb); replace BK122 := BF_ BK122 hb; replace BK123 := BF_ BK123 hb; replace BK124 := BF_ BK124 hb; replace BKg := BF_ BKg hb; replace BKh := BF_ BKh hb; replace HB := BU_ hb; clear hb; obtain ⟨hz4, hz5, hf4, hf5⟩ := CF_ BKg; obtain ⟨hz6, hz7, hf6, hf7⟩ := CF_ BKh))
     (try simp only [Act.put, List.setIfInBounds_toArray, List.set_cons_zero, List.set_cons_succ])
     have n1 : Aside0 (((((w36.setCell ⟨g, 0, none⟩ (.string (⟨#[49]⟩ : ByteArray))).setCell ⟨g, 1, none⟩ (.string (⟨#[49]⟩ : ByteArray))).setCell ⟨h, 0, none⟩ (.string (⟨#[48]⟩ : ByteArray))).setCell ⟨h, 1, none⟩ (.string (⟨#[49]⟩ : ByteArray))).heap[g]? = some (.cells #[.string (⟨#[49]⟩ : ByteArray), .string (⟨#[49]⟩ : ByteArray)] 61 (0, 0))) := A_ (blk_far (blk_far (put2 BKg.out) hgh _) hgh _)
     have n2 : Aside0 (((((w36.setCell ⟨g, 0, none⟩ (.string (⟨#[49]⟩ : ByteArray))).setCell ⟨g, 1, none⟩ (.string (⟨#[49]⟩ : ByteArray))).setCell ⟨h, 0, none⟩ (.string (⟨#[48]⟩ : ByteArray))).setCell ⟨h, 1, none⟩ (.string (⟨#[49]⟩ : ByteArray))).heap[h]? = some (.cells #[.string (⟨#[48]⟩ : ByteArray), .string (⟨#[49]⟩ : ByteArray)] 61 (0, 0))) := A_ (put2 (blk_far (blk_far BKh.out hhg _) hhg _))
     have n3 : Aside0 (Kd.R k61 61 ((((w36.setCell ⟨g, 0, none⟩ (.string (⟨#[49]⟩ : ByteArray))).setCell ⟨g, 1, none⟩ (.string (⟨#[49]⟩ : ByteArray))).setCell ⟨h, 0, none⟩ (.string (⟨#[48]⟩ : ByteArray))).setCell ⟨h, 1, none⟩ (.string (⟨#[49]⟩ : ByteArray))) w.heap.size (fun k_ => w.heap.size ≤ k_ ∧ k_ ≠ g ∧ k_ ≠ h) u7 x7_1) := A_ (RF_ HO_7)
     have n4 : Aside0 (Kd.V (Kd.int .i64) 3 ((((w36.setCell ⟨g, 0, none⟩ (.string (⟨#[49]⟩ : ByteArray))).setCell ⟨g, 1, none⟩ (.string (⟨#[49]⟩ : ByteArray))).setCell ⟨h, 0, none⟩ (.string (⟨#[48]⟩ : ByteArray))).setCell ⟨h, 1, none⟩ (.string (⟨#[49]⟩ : ByteArray))) w.heap.size (fun k_ => ((P1_0_ k_ ∨ w.heap.size ≤ k_) ∧ some k_ ≠ (u7 : Value).ownBlock ∧ k_ ≠ gb122 ∧ k_ ≠ gb123 ∧ k_ ≠ gb124) ∧ k_ ≠ g ∧ k_ ≠ h) (.slice A1_0 l1_0.length c1_0) l1_0) := A_ (VF_ HO_123000)
     have n5 : Aside0 (((((w36.setCell ⟨g, 0, none⟩ (.string (⟨#[49]⟩ : ByteArray))).setCell ⟨g, 1, none⟩ (.string (⟨#[49]⟩ : ByteArray))).setCell ⟨h, 0, none⟩ (.string (⟨#[48]⟩ : ByteArray))).setCell ⟨h, 1, none⟩ (.string (⟨#[49]⟩ : ByteArray))).heap[gb122]? = some (.cells #[.slice A1_0 l1_0.length c1_0, .slice A1_1 l1_1.length c1_1] 25 (0, 0))) := BW_ BK122
     have n6 : Aside0 (((((w36.setCell ⟨g, 0, none⟩ (.string (⟨#[49]⟩ : ByteArray))).setCell ⟨g, 1, none⟩ (.string (⟨#[49]⟩ : ByteArray))).setCell ⟨h, 0, none⟩ (.string (⟨#[48]⟩ : ByteArray))).setCell ⟨h, 1, none⟩ (.string (⟨#[49]⟩ : ByteArray))).heap[gb123]? = some (.cells #[.slice A2_0 l2_0.length c2_0, .slice A2_1 l2_1.length c2_1] 25 (0, 0))) := BW_ BK123
     have n7 : Aside0 (((((w36.setCell ⟨g, 0, none⟩ (.string (⟨#[49]⟩ : ByteArray))).setCell ⟨g, 1, none⟩ (.string (⟨#[49]⟩ : ByteArray))).setCell ⟨h, 0, none⟩ (.string (⟨#[48]⟩ : ByteArray))).setCell ⟨h, 1, none⟩ (.string (⟨#[49]⟩ : ByteArray))).heap[gb124]? = some (.cells #[.slice none 0 0, .slice none 0 0] 25 (0, 0))) := BW_ BK124
     have n8 : Aside0 (Below w.heap.size w ((((w36.setCell ⟨g, 0, none⟩ (.string (⟨#[49]⟩ : ByteArray))).setCell ⟨g, 1, none⟩ (.string (⟨#[49]⟩ : ByteArray))).setCell ⟨h, 0, none⟩ (.string (⟨#[48]⟩ : ByteArray))).setCell ⟨h, 1, none⟩ (.string (⟨#[49]⟩ : ByteArray)))) := A_ T9_
     clear hz0 hz1 hz2 hz3 hf0 hf1 hf2 hf3 hz4 hz5 hz6 hz7 hf4 hf5 hf6 hf7 BKg BKh HO_7 HO_123000 BK122 BK123 BK124 HB
     generalize ((((w36.setCell ⟨g, 0, none⟩ (.string (⟨#[49]⟩ : ByteArray))).setCell ⟨g, 1, none⟩ (.string (⟨#[49]⟩ : ByteArray))).setCell ⟨h, 0, none⟩ (.string (⟨#[48]⟩ : ByteArray))).setCell ⟨h, 1, none⟩ (.string (⟨#[49]⟩ : ByteArray))) = w40 at n1 n2 n3 n4 n5 n6 n7 n8 ⊢
     have BKg := n1;have BKh := n2;have HO_7 := n3;have HO_123000 := n4;have BK122 := n5;have BK123 := n6;have BK124 := n7;have HB := n8;clear n1 n2 n3 n4 n5 n6 n7 n8;obtain ⟨hz0, hz1, hf0, hf1⟩ := CF_ BKg;obtain ⟨hz2, hz3, hf2, hf3⟩ := CF_ BKh;have LTg := A_ (blk_lt BKg.out);have LTh := A_ (blk_lt BKh.out)
     cases t137
     case true =>
      rw [if_pos rfl] at H
      by_cases c12 : x7_1.length < 4398046511104
      case neg => rw [if_neg c12] at H;exact absurd H (by simp)
      rw [if_pos c12] at H;have LM := A_ c12;clear c12;obtain ⟨y, hy⟩ : ∃ y_ : List (S61), y_ = (x7_1 ++ [(⟨(⟨#[48]⟩ : ByteArray), (⟨#[49]⟩ : ByteArray)⟩ : S61)]) := ⟨_, rfl⟩
      rw [← hy] at H;have Ny := A_ hy;clear hy;have H' := A_ H;clear H
      try go_wp2_with (first | ((with_reducible refine gate_builtin (b := .append) (xs := #[.tmp 34, .tmp 36]) rfl ?_); at_builtin; refine Kd.R_append k61 (w0 := w) w.heap.size rfl (.tmp 34) (.tmp 36) 64 61 (.agg #[(.string ⟨#[]⟩), (.string ⟨#[]⟩)]) 32 rfl Tryz.underlying64 info61 rfl (by decide) (by omega) u7 x7_1 (⟨(⟨#[48]⟩ : ByteArray), (⟨#[49]⟩ : ByteArray)⟩ : S61) [.string (⟨#[48]⟩ : ByteArray), .string (⟨#[49]⟩ : ByteArray)] (fun k_ => w.heap.size ≤ k_ ∧ k_ ≠ g ∧ k_ ≠ h) (fun _ => False) rfl (by first | (go_simp; done) | (go_simp; rfl)) (k61_mkM _ _ _ (⟨(⟨#[48]⟩ : ByteArray), (⟨#[49]⟩ : ByteArray)⟩ : S61)) (fun _ hk => hk.elim) (fun k_ hk => ⟨Nat.le_trans (below_size T9_) hk, Nat.ne_of_gt (Nat.lt_of_lt_of_le (SZ_ LTg.out) hk), Nat.ne_of_gt (Nat.lt_of_lt_of_le (SZ_ LTh.out) hk)⟩) (RF_ HO_7) T9_ (below_size T9_) (by have := LM.out; omega) ?_; intro v9 w37 ho hb hg hat; rw [← Ny.out] at ho; replace HO_123000 := A_ (Kd.V_afterv (ok := fun k_ => (P1_0_ k_ ∨ w.heap.size ≤ k_) ∧ k_ ≠ gb122 ∧ k_ ≠ gb123 ∧ k_ ≠ gb124) (Kd.V_mono (VF_ HO_123000) (fun _ hk => ⟨⟨hk.1.1, hk.1.2.2⟩, hk.1.2.1⟩)) hg hat); replace BK122 := A_ (blk_grown (BW_ BK122).out hg (Kd.R_ne HO_7.out BK122.out (by decide))); replace BK123 := A_ (blk_grown (BW_ BK123).out hg (Kd.R_ne HO_7.out BK123.out (by decide))); replace BK124 := A_ (blk_grown (BW_ BK124).out hg (Kd.R_ne HO_7.out BK124.out (by decide))); replace HB := A_ hb; replace HO_7 := A_ ho; clear ho hb hg hat))
      go_roundg k1
      case measure => have := HK1.out; omega
      case rel => exact ⟨y, (wrap64 (x8_1 + 1)), S1_, H', ⟨by have := HK1.out; omega⟩, ⟨K1_ (A_ (Kd.R_mono (ok' := fun k_ => w.heap.size ≤ k_) HO_7.out (fun _ hk => hk.1)))⟩, ⟨V1_ (A_ (Kd.V_mono (ok' := fun k_ => (P1_0_ k_ ∨ w.heap.size ≤ k_) ∧ some k_ ≠ (v9 : Value).ownBlock ∧ k_ ≠ gb122 ∧ k_ ≠ gb123 ∧ k_ ≠ gb124) HO_123000.out (fun _ hk => ⟨hk.1.1, hk.2, hk.1.2⟩)))⟩, BW_ BK122, BW_ BK123, BW_ BK124, ⟨T9_⟩⟩
     case false =>
      rw [if_neg (show ¬ (false = true) by decide)] at H
      by_cases c12 : x7_1.length < 4398046511104
      case neg => rw [if_neg c12] at H;exact absurd H (by simp)
      rw [if_pos c12] at H;have LM := A_ c12;clear c12;obtain ⟨y, hy⟩ : ∃ y_ : List (S61), y_ = (x7_1 ++ [(⟨(⟨#[49]⟩ : ByteArray), (⟨#[49]⟩ : ByteArray)⟩ : S61)]) := ⟨_, rfl⟩
      rw [← hy] at H;have Ny := A_ hy;clear hy;have H' := A_ H;clear H
      try go_wp2_with (first | ((with_reducible refine gate_builtin (b := .append) (xs := #[.tmp 34, .tmp 36]) rfl ?_); at_builtin; refine Kd.R_append k61 (w0 := w) w.heap.size rfl (.tmp 34) (.tmp 36) 64 61 (.agg #[(.string ⟨#[]⟩), (.string ⟨#[]⟩)]) 32 rfl Tryz.underlying64 info61 rfl (by decide) (by omega) u7 x7_1 (⟨(⟨#[49]⟩ : ByteArray), (⟨#[49]⟩ : ByteArray)⟩ : S61) [.string (⟨#[49]⟩ : ByteArray), .string (⟨#[49]⟩ : ByteArray)] (fun k_ => w.heap.size ≤ k_ ∧ k_ ≠ g ∧ k_ ≠ h) (fun _ => False) rfl (by first | (go_simp; done) | (go_simp; rfl)) (k61_mkM _ _ _ (⟨(⟨#[49]⟩ : ByteArray), (⟨#[49]⟩ : ByteArray)⟩ : S61)) (fun _ hk => hk.elim) (fun k_ hk => ⟨Nat.le_trans (below_size T9_) hk, Nat.ne_of_gt (Nat.lt_of_lt_of_le (SZ_ LTg.out) hk), Nat.ne_of_gt (Nat.lt_of_lt_of_le (SZ_ LTh.out) hk)⟩) (RF_ HO_7) T9_ (below_size T9_) (by have := LM.out; omega) ?_; intro v9 w37 ho hb hg hat; rw [← Ny.out] at ho; replace HO_123000 := A_ (Kd.V_afterv (ok := fun k_ => (P1_0_ k_ ∨ w.heap.size ≤ k_) ∧ k_ ≠ gb122 ∧ k_ ≠ gb123 ∧ k_ ≠ gb124) (Kd.V_mono (VF_ HO_123000) (fun _ hk => ⟨⟨hk.1.1, hk.1.2.2⟩, hk.1.2.1⟩)) hg hat); replace BK122 := A_ (blk_grown (BW_ BK122).out hg (Kd.R_ne HO_7.out BK122.out (by decide))); replace BK123 := A_ (blk_grown (BW_ BK123).out hg (Kd.R_ne HO_7.out BK123.out (by decide))); replace BK124 := A_ (blk_grown (BW_ BK124).out hg (Kd.R_ne HO_7.out BK124.out (by decide))); replace HB := A_ hb; replace HO_7 := A_ ho; clear ho hb hg hat))
      go_roundg k1
      case measure => have := HK1.out; omega
      case rel => exact ⟨y, (wrap64 (x8_1 + 1)), S1_, H', ⟨by have := HK1.out; omega⟩, ⟨K1_ (A_ (Kd.R_mono (ok' := fun k_ => w.heap.size ≤ k_) HO_7.out (fun _ hk => hk.1)))⟩, ⟨V1_ (A_ (Kd.V_mono (ok' := fun k_ => (P1_0_ k_ ∨ w.heap.size ≤ k_) ∧ some k_ ≠ (v9 : Value).ownBlock ∧ k_ ≠ gb122 ∧ k_ ≠ gb123 ∧ k_ ≠ gb124) HO_123000.out (fun _ hk => ⟨hk.1.1, hk.2, hk.1.2⟩)))⟩, BW_ BK122, BW_ BK123, BW_ BK124, ⟨T9_⟩⟩
    ·
     rw [if_neg c11] at H;have c11b0 : (a0.toList == ([97, 98, 111, 118, 101] : List UInt8)) = false := beq_eq_false_iff_ne.mpr c11;have c11b1 : (a0.toList != ([97, 98, 111, 118, 101] : List UInt8)) = true := bne_iff_ne.mpr c11
     cases t137
     case true =>
      rw [if_pos rfl] at H
      by_cases c12 : x7_1.length < 4398046511104
      case neg => rw [if_neg c12] at H;exact absurd H (by simp)
      rw [if_pos c12] at H;have LM := A_ c12;clear c12;obtain ⟨y, hy⟩ : ∃ y_ : List (S61), y_ = (x7_1 ++ [(⟨t133, t134⟩ : S61)]) := ⟨_, rfl⟩
      rw [← hy] at H;have Ny := A_ hy;clear hy;have H' := A_ H;clear H
      try go_wp2_with (first | (refine GL_ 53 27 Tryz.func53 #[.agg #[.string t131, .string t132], .agg #[.string t133, .string t134]] ?_; (with_reducible refine (rf7_Less.calls t131 t132 t133 t134 true _ (Err.Gs.below HGs.out T9_) A10.out).mono ?_); rintro e w36 ⟨rfl, hb⟩; refine ⟨_, rfl, ?_⟩; replace HO_7 := RC_ HO_7 hb; replace HO_123000 := A_ (Kd.V_below (V1_ HO_123000) hb); replace BK122 := BF_ BK122 hb; replace BK123 := BF_ BK123 hb; replace BK124 := BF_ BK124 hb; replace BKg := BF_ BKg hb; replace BKh := BF_ BKh hb; replace HB := BU_ hb; clear hb; obtain ⟨hz4, hz5, hf4, hf5⟩ := CF_ BKg; obtain ⟨hz6, hz7, hf6, hf7⟩ := CF_ BKh; have LTg := A_ (blk_lt BKg.out); have LTh := A_ (blk_lt BKh.out)) | ((with_reducible refine gate_builtin (b := .append) (xs := #[.tmp 34, .tmp 36]) rfl ?_); at_builtin; refine Kd.R_append k61 (w0 := w) w.heap.size rfl (.tmp 34) (.tmp 36) 64 61 (.agg #[(.string ⟨#[]⟩), (.string ⟨#[]⟩)]) 32 rfl Tryz.underlying64 info61 rfl (by decide) (by omega) u7 x7_1 (⟨t133, t134⟩ : S61) [.string t133, .string t134] (fun k_ => w.heap.size ≤ k_ ∧ k_ ≠ g ∧ k_ ≠ h) (fun _ => False) rfl (by first | (go_simp; done) | (go_simp; rfl)) (k61_mkM _ _ _ (⟨t133, t134⟩ : S61)) (fun _ hk => hk.elim) (fun k_ hk => ⟨Nat.le_trans (below_size T9_) hk, Nat.ne_of_gt (Nat.lt_of_lt_of_le (SZ_ LTg.out) hk), Nat.ne_of_gt (Nat.lt_of_lt_of_le (SZ_ LTh.out) hk)⟩) (RF_ HO_7) T9_ (below_size T9_) (by have := LM.out; omega) ?_; intro v9 w37 ho hb hg hat; rw [← Ny.out] at ho; replace HO_123000 := A_ (Kd.V_afterv (ok := fun k_ => (P1_0_ k_ ∨ w.heap.size ≤ k_) ∧ k_ ≠ gb122 ∧ k_ ≠ gb123 ∧ k_ ≠ gb124) (Kd.V_mono (VF_ HO_123000) (fun _ hk => ⟨⟨hk.1.1, hk.1.2.2⟩, hk.1.2.1⟩)) hg hat); replace BK122 := A_ (blk_grown (BW_ BK122).out hg (Kd.R_ne HO_7.out BK122.out (by decide))); replace BK123 := A_ (blk_grown (BW_ BK123).out hg (Kd.R_ne HO_7.out BK123.out (by decide))); replace BK124 := A_ (blk_grown (BW_ BK124).out hg (Kd.R_ne HO_7.out BK124.out (by decide))); replace HB := A_ hb; replace HO_7 := A_ ho; clear ho hb hg hat))
      go_roundg k1
      case measure => have := HK1.out; omega
      case rel => exact ⟨y, (wrap64 (x8_1 + 1)), S1_, H', ⟨by have := HK1.out; omega⟩, ⟨K1_ (A_ (Kd.R_mono (ok' := fun k_ => w.heap.size ≤ k_) HO_7.out (fun _ hk => hk.1)))⟩, ⟨V1_ (A_ (Kd.V_mono (ok' := fun k_ => (P1_0_ k_ ∨ w.heap.size ≤ k_) ∧ some k_ ≠ (v9 : Value).ownBlock ∧ k_ ≠ gb122 ∧ k_ ≠ gb123 ∧ k_ ≠ gb124) HO_123000.out (fun _ hk => ⟨hk.1.1, hk.2, hk.1.2⟩)))⟩, BW_ BK122, BW_ BK123, BW_ BK124, ⟨T9_⟩⟩
     case false =>
      rw [if_neg (show ¬ (false = true) by decide)] at H
      by_cases c12 : x7_1.length < 4398046511104
      case neg => rw [if_neg c12] at H;exact absurd H (by simp)
      rw [if_pos c12] at H;have LM := A_ c12;clear c12;obtain ⟨y, hy⟩ : ∃ y_ : List (S61), y_ = (x7_1 ++ [(⟨t131, t132⟩ : S61)]) := ⟨_, rfl⟩
      rw [← hy] at H;have Ny := A_ hy;clear hy;have H' := A_ H;clear H
      try go_wp2_with (first | (refine GL_ 53 27 Tryz.func53 #[.agg #[.string t131, .string t132], .agg #[.string t133, .string t134]] ?_; (with_reducible refine (rf7_Less.calls t131 t132 t133 t134 false _ (Err.Gs.below HGs.out T9_) A10.out).mono ?_); rintro e w36 ⟨rfl, hb⟩; refine ⟨_, rfl, ?_⟩; replace HO_7 := RC_ HO_7 hb; replace HO_123000 := A_ (Kd.V_below (V1_ HO_123000) hb); replace BK122 := BF_ BK122 hb; replace BK123 := BF_ BK123 hb; replace BK124 := BF_ BK124 hb; replace BKg := BF_ BKg hb; replace BKh := BF_ BKh hb; replace HB := BU_ hb; clear hb; obtain ⟨hz4, hz5, hf4, hf5⟩ := CF_ BKg; obtain ⟨hz6, hz7, hf6, hf7⟩ := CF_ BKh; have LTg := A_ (blk_lt BKg.out); have LTh := A_ (blk_lt BKh.out)) | ((with_reducible refine gate_builtin (b := .append) (xs := #[.tmp 34, .tmp 36]) rfl ?_); at_builtin; refine Kd.R_append k61 (w0 := w) w.heap.size rfl (.tmp 34) (.tmp 36) 64 61 (.agg #[(.string ⟨#[]⟩), (.string ⟨#[]⟩)]) 32 rfl Tryz.underlying64 info61 rfl (by decide) (by omega) u7 x7_1 (⟨t131, t132⟩ : S61) [.string t131, .string t132] (fun k_ => w.heap.size ≤ k_ ∧ k_ ≠ g ∧ k_ ≠ h) (fun _ => False) rfl (by first | (go_simp; done) | (go_simp; rfl)) (k61_mkM _ _ _ (⟨t131, t132⟩ : S61)) (fun _ hk => hk.elim) (fun k_ hk => ⟨Nat.le_trans (below_size T9_) hk, Nat.ne_of_gt (Nat.lt_of_lt_of_le (SZ_ LTg.out) hk), Nat.ne_of_gt (Nat.lt_of_lt_of_le (SZ_ LTh.out) hk)⟩) (RF_ HO_7) T9_ (below_size T9_) (by have := LM.out; omega) ?_; intro v9 w37 ho hb hg hat; rw [← Ny.out] at ho; replace HO_123000 := A_ (Kd.V_afterv (ok := fun k_ => (P1_0_ k_ ∨ w.heap.size ≤ k_) ∧ k_ ≠ gb122 ∧ k_ ≠ gb123 ∧ k_ ≠ gb124) (Kd.V_mono (VF_ HO_123000) (fun _ hk => ⟨⟨hk.1.1, hk.1.2.2⟩, hk.1.2.1⟩)) hg hat); replace BK122 := A_ (blk_grown (BW_ BK122).out hg (Kd.R_ne HO_7.out BK122.out (by decide))); replace BK123 := A_ (blk_grown (BW_ BK123).out hg (Kd.R_ne HO_7.out BK123.out (by decide))); replace BK124 := A_ (blk_grown (BW_ BK124).out hg (Kd.R_ne HO_7.out BK124.out (by decide))); replace HB := A_ hb; replace HO_7 := A_ ho; clear ho hb hg hat))
      go_roundg k1
      case measure => have := HK1.out; omega
      case rel => exact ⟨y, (wrap64 (x8_1 + 1)), S1_, H', ⟨by have := HK1.out; omega⟩, ⟨K1_ (A_ (Kd.R_mono (ok' := fun k_ => w.heap.size ≤ k_) HO_7.out (fun _ hk => hk.1)))⟩, ⟨V1_ (A_ (Kd.V_mono (ok' := fun k_ => (P1_0_ k_ ∨ w.heap.size ≤ k_) ∧ some k_ ≠ (v9 : Value).ownBlock ∧ k_ ≠ gb122 ∧ k_ ≠ gb123 ∧ k_ ≠ gb124) HO_123000.out (fun _ hk => ⟨hk.1.1, hk.2, hk.1.2⟩)))⟩, BW_ BK122, BW_ BK123, BW_ BK124, ⟨T9_⟩⟩
   ·
    rw [if_neg c7] at H;have c7b0 := decide_eq_false c7;clear c7;replace H := BE_ H;obtain ⟨⟨t125, t128⟩, A1210, H⟩ := H;have A121 := A_ A1210;clear A1210;simp only [Option.some.injEq, Prod.mk.injEq] at H;obtain ⟨rfl, rfl⟩ := H;have hnb122 := NB122_123.out;have hnc122 := NB123_122.out;have hnb123 := NB122_124.out;have hnc123 := NB124_122.out;obtain ⟨hcz124_0, hcz124_1, hfz124_0, hfz124_1⟩ := CF_ BK122;obtain ⟨Ao125, co125, eo125⟩ := Kd.R_slice HO_7.out;subst eo125
    go_wp2_with (first | (refine GL_ 52 41 Tryz.func52 #[.slice A1_0 l1_0.length c1_0, .slice Ao125 x7_1.length co125] ?_; (with_reducible refine (rf5_Of.calls k1 (fun k_ => ((P1_0_ k_ ∨ w.heap.size ≤ k_) ∧ (some k_ ≠ (.slice Ao125 x7_1.length co125 : Value).ownBlock ∧ (k_ ≠ gb122 ∧ (k_ ≠ gb123 ∧ k_ ≠ gb124))))) _ _ l1_0 _ _ x7_1 t125 t128 _ (Err.Gs.below HGs.out T9_) HO_123000.out (C1_ (Kd.R_reads' HO_7.out).2.2) ((Kd.R_reads' HO_7.out).2.1) A121.out).mono ?_); rintro e w126 ⟨v126, v129, rfl, ho0, ho1, hb⟩; refine ⟨_, rfl, ?_⟩; replace HO_123000 := A_ (Kd.V_elder' (by (with_reducible repeat (first | apply Kd.V_alloc | apply Kd.V_drewN | apply Kd.V_drew)); exact HO_123000.out) (Kd.R_base ho1) hb); have HO127 := A_ (Kd.V_lower (Kd.V_mono (ok' := fun k_ => (P1_0_ k_ ∨ w.heap.size ≤ k_) ∧ some k_ ≠ (v129 : Value).ownBlock ∧ some k_ ≠ (.slice Ao125 x7_1.length co125 : Value).ownBlock ∧ k_ ≠ gb122 ∧ k_ ≠ gb123 ∧ k_ ≠ gb124) ho0 (fun k_ hk_ => ⟨Or.elim hk_.1 (fun hs_ => hs_.1) (fun hn_ => (.inr (Nat.le_trans (below_size T9_) hn_))), hk_.2, Or.elim hk_.1 (fun hs_ => hs_.2.1) (fun hn_ => (Kd.fresh' (Kd.R_lt (K1_ HO_7)) k_ hn_)), Or.elim hk_.1 (fun hs_ => hs_.2.2.1) (fun hn_ => (Kd.freshB (g := gb122) (o := .cells #[.slice A1_0 l1_0.length c1_0, .slice A1_1 l1_1.length c1_1] 25 (0, 0)) (B1_ BK122.out) k_ hn_)), Or.elim hk_.1 (fun hs_ => hs_.2.2.2.1) (fun hn_ => (Kd.freshB (g := gb123) (o := .cells #[.slice A2_0 l2_0.length c2_0, .slice A2_1 l2_1.length c2_1] 25 (0, 0)) (B1_ BK123.out) k_ hn_)), Or.elim hk_.1 (fun hs_ => hs_.2.2.2.2) (fun hn_ => (Kd.freshB (g := gb124) (o := .cells #[.slice none 0 0, .slice none 0 0] 25 (0, 0)) (B1_ BK124.out) k_ hn_))⟩)) (below_size T9_)); replace HO_7 := RC_ HO_7 hb; have HO130 := A_ (Kd.R_lower (Kd.R_newM (M := fun k_ => (w.heap.size ≤ k_)) (Kd.R_mono (ok' := fun k_ => True) ho1 (fun _ hk_ => trivial)) (below_size T9_) (fun k_ h_ => h_)) (below_size T9_)); replace BK122 := BF_ BK122 hb; replace BK123 := BF_ BK123 hb; replace BK124 := BF_ BK124 hb; replace HB := BU_ hb; clear hb ho0 ho1; obtain ⟨Ao127, co127, eo127⟩ := Kd.V_slice HO127.out; subst eo127; have hnb128 := NB124_123.out; have hnc128 := NB123_124.out; obtain ⟨hcz129_0, hcz129_1, hfz129_0, hfz129_1⟩ := CF_ BK124; obtain ⟨Ao130, co130, eo130⟩ := Kd.R_slice HO130.out; subst eo130))
    refine bodyPost_ret (results_cell_row rfl _ _ gb124 25 #[.slice Ao127 t125.length co127, .slice Ao130 t128.length co130] (0, 0) _ rfl (by (with_reducible repeat (first | refine blk_drewN ?_ _ | refine blk_drew ?_ | refine blk_alloc ?_ _)); refine blk_put (cs := #[.slice Ao127 t125.length co127, .slice none 0 0]) ?_ 1 _ rfl; (with_reducible repeat (first | refine blk_drewN ?_ _ | refine blk_drew ?_ | refine blk_alloc ?_ _)); refine blk_put (cs := #[.slice none 0 0, .slice none 0 0]) ?_ 0 _ rfl; (with_reducible repeat (first | refine blk_drewN ?_ _ | refine blk_drew ?_ | refine blk_alloc ?_ _)); exact BK124.out) Tryz.underlying25 rfl (by kernel_rfl)) rfl ?_;exact ⟨_, _, by first | rfl | (simp [errW_none, errW_some] <;> rfl) | (simp [*, errW_none, errW_some] <;> rfl), by (with_reducible repeat (first | apply Kd.V_alloc | apply Kd.V_drewN | apply Kd.V_drew)); exact Kd.V_mono (Kd.V_far (p := ⟨gb124, 1, none⟩) (Kd.V_far (p := ⟨gb124, 0, none⟩) (Kd.V_mono HO127.out (fun k_ hk => (⟨hk, hk.2.2.2.2.2⟩ : _ ∧ k_ ≠ gb124))) (fun _ hk => hk.2) (.slice Ao127 t125.length co127)) (fun _ hk => hk.2) (.slice Ao130 t128.length co130)) (fun _ hk => ⟨hk.1.1, hk.1.2.1⟩), by (with_reducible repeat (first | apply Kd.R_alloc | apply Kd.R_drewN | apply Kd.R_drew)); exact Kd.R_mono (Kd.R_far (p := ⟨gb124, 1, none⟩) (Kd.R_far (p := ⟨gb124, 0, none⟩) (Kd.R_types HO130.out BK124.out (by decide)) (fun _ hk => hk.2) (.slice Ao127 t125.length co127)) (fun _ hk => hk.2) (.slice Ao130 t128.length co130)) (fun _ hk => hk.1.1), T9_⟩
end Go.Proofs.YtndkjpkgllmbnaaGreatDoor.PQT
