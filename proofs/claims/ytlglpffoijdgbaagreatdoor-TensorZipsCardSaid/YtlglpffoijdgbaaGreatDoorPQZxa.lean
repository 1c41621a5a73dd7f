-- by wip/tool/mine.py of this repo (the kit's printer with given contracts)
import Derived.Test.YtlglpffoijdgbaaGreatDoorPureAwW
import Derived.Test.YtlglpffoijdgbaaGreatDoorRegI
import Derived.Test.YtlglpffoijdgbaaGreatDoorTenY
import Derived.Test.YtlglpffoijdgbaaGreatDoorRX5
namespace Go.Proofs.YtlglpffoijdgbaaGreatDoor.PQZ
open Go.RowKit Go.ZPWords Go.ZPLast Go.ZPMore
attribute [local go_sem] max2_int min2_int max_two min_two max_three min_three max_four min_four   -- for this text's walks alone
set_option linter.unusedVariables false
set_option linter.unusedSimpArgs false
set_option maxHeartbeats 8000000
set_option maxRecDepth 100000
def errW : Option Int → Value
 | none => .nilIface
 | some c => .iface 0 (.int .i64 c)
theorem errW_none : errW none = .nilIface := rfl
theorem errW_some (c : Int) : errW (some c) = .iface 0 (.int .i64 c) := rfl
theorem info9 : (Tryz.prog.info? 9).map (fun i => (i.zero, i.size, i.bytes)) = some (some (.string ⟨#[]⟩), 1, 16) := by kernel_rfl
theorem info46 : (Tryz.prog.info? 46).map (fun i => (i.zero, i.size, i.bytes)) = some (some (.agg #[(.string ⟨#[]⟩), (.string ⟨#[]⟩)]), 2, 32) := by kernel_rfl
structure S46 where
 f0 : ByteArray
 f1 : ByteArray
def z46 : S46 := ⟨(⟨#[]⟩ : ByteArray), (⟨#[]⟩ : ByteArray)⟩
def k46 : Kd S46 := Kd.iso (Kd.pair Kd.string Kd.string) (fun x : S46 => (x.f0, x.f1))
theorem k46_open {w : World} {x : S46} {cs : List Value} (h : k46.K w x cs) : cs = [.string x.f0, .string x.f1] := by
 obtain ⟨_, _, rfl, rfl, rfl⟩ := h;exact rfl
theorem k46_mkM (w : World) (base : Nat) (ok : Nat → Prop) (x : S46)  : k46.M w base ok x [.string x.f0, .string x.f1] := ⟨[.string x.f0], [.string x.f1], rfl, rfl, rfl⟩
def rd_T46 (xs : List S46) (i : Int) : S46 := xs.getD i.toNat z46
theorem at_T46 {w : World} {A : Option Addr} {n : Nat} {xs : List S46} (h : Kd.C k46 w A n xs) (i : Int) (h0 : 0 ≤ i) (h1 : i < n) : ∃ ad , A = some ad ∧ w.cell? (ad.add (i.toNat * 2)) = some (.string (rd_T46 xs i).f0) ∧ w.cell? ⟨(ad.add (i.toNat * 2)).block, (ad.add (i.toNat * 2)).off + 1, none⟩ = some (.string (rd_T46 xs i).f1) := by
 obtain ⟨ad, c, e, _, hK, hc0⟩ := Kd.C_get h z46 i h0 h1;have hc : ∀ j u, c[j]? = some u → w.cell? (ad.add (i.toNat * 2 + j)) = some u := hc0;obtain rfl := k46_open hK;exact ⟨ad, e, hc 0 _ rfl, by rw [← add_field _ _ 1 (by omega)]; exact hc 1 _ rfl⟩
/-! ### tapewrightref05_Small: function 12 -/
noncomputable def tapewrightref05_Small.f (l0_0 : List Int) (l0_1 : List ByteArray) : Option Bool := some (Ten.small ⟨l0_0, l0_1⟩)
theorem tapewrightref05_Small.calls (A0_0 : Option Addr) (c0_0 : Nat) (l0_0 : List Int) (A0_1 : Option Addr) (c0_1 : Nat) (l0_1 : List ByteArray) (r : Bool) (w : World) (hr0_0 : Kd.C (Kd.int .i64) w A0_0 l0_0.length l0_0) (hc0_0 : l0_0.length ≤ c0_0) (hr0_1 : Kd.C Kd.string w A0_1 l0_1.length l0_1) (hc0_1 : l0_1.length ≤ c0_1) (h : tapewrightref05_Small.f l0_0 l0_1 = some r) :
  Calls Tryz.prog 12 #[.agg #[.slice A0_0 l0_0.length c0_0, .slice A0_1 l0_1.length c0_1]] w fun e w' => e = .returned (.bool r) ∧ Below w.heap.size w w' := by
 obtain rfl := Option.some.inj h;obtain ⟨k, hk⟩ := (Ten.small_ev ⟨l0_0, l0_1⟩).rounds;exact PV.tapewrightref05_Small.calls k _ _ l0_0 _ _ l0_1 _ w hr0_0 hc0_0 hr0_1 hc0_1 hk
/-! ### tapewrightlaw05_awake: function 13 -/
noncomputable def tapewrightlaw05_awake.f : Option Bool := some true
theorem tapewrightlaw05_awake.calls (r : Bool) (w : World) (hG : Err.Gs w) (h : tapewrightlaw05_awake.f = some r) :
  Calls Tryz.prog 13 #[] w fun e w' => e = .returned (.bool r) ∧ Below w.heap.size w w' := by
 obtain rfl := Option.some.inj h;exact Pure.awake_calls w hG
/-! ### tensor_Zip: function 14 -/
open Classical in
noncomputable def tensor_Zip.f (a0 : ByteArray) (l1_0 : List Int) (l1_1 : List ByteArray) (l2_0 : List Int) (l2_1 : List ByteArray) : Option (List Int × List ByteArray × Int) := if Ten.Sm l1_0 l1_1 ∧ Ten.Sm l2_0 l2_1 then some ((Ten.tZip a0 ⟨l1_0, l1_1⟩ ⟨l2_0, l2_1⟩).1.s, (Ten.tZip a0 ⟨l1_0, l1_1⟩ ⟨l2_0, l2_1⟩).1.d, (Ten.tZip a0 ⟨l1_0, l1_1⟩ ⟨l2_0, l2_1⟩).2) else none
theorem tensor_Zip.calls (a0 : ByteArray) (A1_0 : Option Addr) (c1_0 : Nat) (l1_0 : List Int) (A1_1 : Option Addr) (c1_1 : Nat) (l1_1 : List ByteArray) (A2_0 : Option Addr) (c2_0 : Nat) (l2_0 : List Int) (A2_1 : Option Addr) (c2_1 : Nat) (l2_1 : List ByteArray) (r1 : List Int) (r2 : List ByteArray) (r3 : Int) (w : World) (hG : Err.Gs w) (hr1_0 : Kd.C (Kd.int .i64) w A1_0 l1_0.length l1_0) (hc1_0 : l1_0.length ≤ c1_0) (hr1_1 : Kd.C Kd.string w A1_1 l1_1.length l1_1) (hc1_1 : l1_1.length ≤ c1_1) (hr2_0 : Kd.C (Kd.int .i64) w A2_0 l2_0.length l2_0) (hc2_0 : l2_0.length ≤ c2_0) (hr2_1 : Kd.C Kd.string w A2_1 l2_1.length l2_1) (hc2_1 : l2_1.length ≤ c2_1) (h : tensor_Zip.f a0 l1_0 l1_1 l2_0 l2_1 = some (r1, r2, r3)) :
  Calls Tryz.prog 14 #[.string a0, .agg #[.slice A1_0 l1_0.length c1_0, .slice A1_1 l1_1.length c1_1], .agg #[.slice A2_0 l2_0.length c2_0, .slice A2_1 l2_1.length c2_1]] w fun e w' => ∃ v0_ v1_ : Value, e = .returned (.tuple #[.agg #[v0_, v1_], .int .i64 r3]) ∧ Kd.R (Kd.int .i64) 3 w' w.heap.size (fun _ => True) v0_ r1 ∧ Kd.R Kd.string 9 w' w.heap.size (fun _ => True) v1_ r2 ∧ Below w.heap.size w w' := by
 unfold tensor_Zip.f at h
 split at h
 ·
  rename_i hl
  injection h with h;injection h with h1 h2;injection h2 with h2 h3;subst h1 h2 h3;exact Ten.zip_calls a0 A1_0 c1_0 A1_1 c1_1 l1_0 l1_1 A2_0 c2_0 A2_1 c2_1 l2_0 l2_1 w hG hr1_0 hc1_0 hr1_1 hl.1 hr2_0 hc2_0 hr2_1 hl.2
 ·
  cases h
theorem tensor_Zip.of (op : ByteArray) (s : List Int) (d : List ByteArray) (s2 : List Int) (d2 : List ByteArray) (h : Ten.Sm s d) (h' : Ten.Sm s2 d2) : tensor_Zip.f op s d s2 d2 = some ((Ten.tZip op ⟨s, d⟩ ⟨s2, d2⟩).1.s, (Ten.tZip op ⟨s, d⟩ ⟨s2, d2⟩).1.d, (Ten.tZip op ⟨s, d⟩ ⟨s2, d2⟩).2) := by rw [tensor_Zip.f, if_pos ⟨h, h'⟩]
/-! ### tensor_Right: function 15 -/
open Classical in
noncomputable def tensor_Right.f (l0_0 : List Int) (l0_1 : List ByteArray) : Option Bool := if Ten.Sm l0_0 l0_1 then some (Ten.tRight ⟨l0_0, l0_1⟩) else none
theorem tensor_Right.calls (A0_0 : Option Addr) (c0_0 : Nat) (l0_0 : List Int) (A0_1 : Option Addr) (c0_1 : Nat) (l0_1 : List ByteArray) (r : Bool) (w : World) (hG : Err.Gs w) (hr0_0 : Kd.C (Kd.int .i64) w A0_0 l0_0.length l0_0) (hc0_0 : l0_0.length ≤ c0_0) (hr0_1 : Kd.C Kd.string w A0_1 l0_1.length l0_1) (hc0_1 : l0_1.length ≤ c0_1) (h : tensor_Right.f l0_0 l0_1 = some r) :
  Calls Tryz.prog 15 #[.agg #[.slice A0_0 l0_0.length c0_0, .slice A0_1 l0_1.length c0_1]] w fun e w' => e = .returned (.bool r) ∧ Below w.heap.size w w' := by
 unfold tensor_Right.f at h
 split at h
 ·
  rename_i hl
  injection h with h;subst h;exact Ten.tright_calls A0_0 c0_0 A0_1 c0_1 ⟨l0_0, l0_1⟩ w hG hr0_0 hc0_0 hr0_1 hl.1 hl.2.1 hl.big
 ·
  cases h
theorem tensor_Right.of (s : List Int) (d : List ByteArray) (h : Ten.Sm s d) : tensor_Right.f s d = some (Ten.tRight ⟨s, d⟩) := by rw [tensor_Right.f, if_pos h]
/-! ### tapewrightref05_Right: function 16 -/
open Classical in
noncomputable def tapewrightref05_Right.f (l0_0 : List Int) (l0_1 : List ByteArray) : Option Bool := if Ten.Sm l0_0 l0_1 then some (Ten.tRight ⟨l0_0, l0_1⟩) else none
theorem tapewrightref05_Right.calls (A0_0 : Option Addr) (c0_0 : Nat) (l0_0 : List Int) (A0_1 : Option Addr) (c0_1 : Nat) (l0_1 : List ByteArray) (r : Bool) (w : World) (hr0_0 : Kd.C (Kd.int .i64) w A0_0 l0_0.length l0_0) (hc0_0 : l0_0.length ≤ c0_0) (hr0_1 : Kd.C Kd.string w A0_1 l0_1.length l0_1) (hc0_1 : l0_1.length ≤ c0_1) (h : tapewrightref05_Right.f l0_0 l0_1 = some r) :
  Calls Tryz.prog 16 #[.agg #[.slice A0_0 l0_0.length c0_0, .slice A0_1 l0_1.length c0_1]] w fun e w' => e = .returned (.bool r) ∧ Below w.heap.size w w' := by
 unfold tapewrightref05_Right.f at h
 split at h
 ·
  rename_i hl
  injection h with h;subst h;exact Ten.r5right_calls A0_0 c0_0 A0_1 c0_1 ⟨l0_0, l0_1⟩ w hr0_0 hc0_0 hr0_1 hc0_1 hl
 ·
  cases h
theorem tapewrightref05_Right.of (s : List Int) (d : List ByteArray) (h : Ten.Sm s d) : tapewrightref05_Right.f s d = some (Ten.tRight ⟨s, d⟩) := by rw [tapewrightref05_Right.f, if_pos h]
/-! ### tapewrightref04_Same: function 17 -/
noncomputable def tapewrightref04_Same.f (l0 : List Int) (l1 : List Int) : Option Bool := if l0.length ≤ 1000 then some (decide (l0 = l1)) else none
theorem tapewrightref04_Same.calls (A0 : Option Addr) (c0 : Nat) (l0 : List Int) (A1 : Option Addr) (c1 : Nat) (l1 : List Int) (r : Bool) (w : World) (hr0 : Kd.C (Kd.int .i64) w A0 l0.length l0) (hc0 : l0.length ≤ c0) (hr1 : Kd.C (Kd.int .i64) w A1 l1.length l1) (hc1 : l1.length ≤ c1) (h : tapewrightref04_Same.f l0 l1 = some r) :
  Calls Tryz.prog 17 #[.slice A0 l0.length c0, .slice A1 l1.length c1] w fun e w' => e = .returned (.bool r) ∧ Below w.heap.size w w' := by
 unfold tapewrightref04_Same.f at h
 split at h
 ·
  rename_i hl
  injection h with h;subst h;exact Ten.same_calls A0 c0 l0 A1 c1 l1 w hr0 hc0 hr1 hc1 hl
 ·
  cases h
theorem tapewrightref04_Same.of (s t : List Int) (h : s.length ≤ 1000) : tapewrightref04_Same.f s t = some (decide (s = t)) := by rw [tapewrightref04_Same.f, if_pos h]
/-! ### tapewrightref05_Equal: function 18 -/
noncomputable def tapewrightref05_Equal.f (l0_0 : List Int) (l0_1 : List ByteArray) (l1_0 : List Int) (l1_1 : List ByteArray) : Option Bool := if l0_0.length ≤ 1000000 ∧ l0_1.length ≤ 1000000 then some (decide (l0_0 = l1_0 ∧ l0_1 = l1_1)) else none
theorem tapewrightref05_Equal.calls (A0_0 : Option Addr) (c0_0 : Nat) (l0_0 : List Int) (A0_1 : Option Addr) (c0_1 : Nat) (l0_1 : List ByteArray) (A1_0 : Option Addr) (c1_0 : Nat) (l1_0 : List Int) (A1_1 : Option Addr) (c1_1 : Nat) (l1_1 : List ByteArray) (r : Bool) (w : World) (hr0_0 : Kd.C (Kd.int .i64) w A0_0 l0_0.length l0_0) (hc0_0 : l0_0.length ≤ c0_0) (hr0_1 : Kd.C Kd.string w A0_1 l0_1.length l0_1) (hc0_1 : l0_1.length ≤ c0_1) (hr1_0 : Kd.C (Kd.int .i64) w A1_0 l1_0.length l1_0) (hc1_0 : l1_0.length ≤ c1_0) (hr1_1 : Kd.C Kd.string w A1_1 l1_1.length l1_1) (hc1_1 : l1_1.length ≤ c1_1) (h : tapewrightref05_Equal.f l0_0 l0_1 l1_0 l1_1 = some r) :
  Calls Tryz.prog 18 #[.agg #[.slice A0_0 l0_0.length c0_0, .slice A0_1 l0_1.length c0_1], .agg #[.slice A1_0 l1_0.length c1_0, .slice A1_1 l1_1.length c1_1]] w fun e w' => e = .returned (.bool r) ∧ Below w.heap.size w w' := by
 unfold tapewrightref05_Equal.f at h
 split at h
 ·
  rename_i hl
  injection h with h;subst h;obtain ⟨k, hk⟩ := (Ten.equal_ev ⟨l0_0, l0_1⟩ ⟨l1_0, l1_1⟩ hl.1 hl.2).rounds;exact PV.tapewrightref05_Equal.calls k _ _ l0_0 _ _ l0_1 _ _ l1_0 _ _ l1_1 _ w hr0_0 hc0_0 hr0_1 hc0_1 hr1_0 hc1_0 hr1_1 hc1_1 hk
 ·
  cases h
theorem tapewrightref05_Equal.of (s : List Int) (d : List ByteArray) (s2 : List Int) (d2 : List ByteArray) (h : s.length ≤ 1000000 ∧ d.length ≤ 1000000) : tapewrightref05_Equal.f s d s2 d2 = some (decide (s = s2 ∧ d = d2)) := by rw [tapewrightref05_Equal.f, if_pos h]
/-! ### tapewrightref03_Text: function 33 -/
noncomputable def tapewrightref03_Text.f (a0_0 : ByteArray) (a0_1 : ByteArray) : Option (ByteArray) := PS.tapewrightref03_Text.f a0_0 a0_1
theorem tapewrightref03_Text.calls (a0_0 : ByteArray) (a0_1 : ByteArray) (r : ByteArray) (w : World) (h : tapewrightref03_Text.f a0_0 a0_1 = some r) :
  Calls Tryz.prog 33 #[.agg #[.string a0_0, .string a0_1]] w fun e w' => e = .returned (.string r) ∧ Below w.heap.size w w' := PS.tapewrightref03_Text.calls a0_0 a0_1 r w h
theorem tapewrightref03_Text.rt (x : Rat) (h : Err.qm x ≤ 100000000000) : tapewrightref03_Text.f (Th.Wh.zt x.num) (Th.txt x.den) = some (Err.rt x) := PS.tapewrightref03_Text.rt x h
/-! ### tapewrightref05_Of: function 28 -/
noncomputable def tapewrightref05_Of.l0 : Nat → List (S46) → Int → List Int → List ByteArray → Option (List Int × List ByteArray)
 | 0, _, _, _, _ => none
 | k + 1, x1, x6, x103000, x103001 => if x6 < (x1.length : Int) then (if 0 ≤ x6 then ((tapewrightref03_Text.f ((rd_T46 x1 x6).f0) ((rd_T46 x1 x6).f1)).bind fun t104 => (if x103001.length < 8796093022208 then (tapewrightref05_Of.l0 k x1 (wrap64 (x6 + 1)) x103000 (x103001 ++ [t104])) else (none))) else (none)) else (some (x103000, x103001))
noncomputable def tapewrightref05_Of.f (k : Nat) (l0 : List Int) (l1 : List (S46)) : Option (List Int × List ByteArray) := tapewrightref05_Of.l0 k l1 0 l0 ([] : List ByteArray)
def tapewrightref05_Of.T5 : Bool × List (List Nat × List Nat) := (true, [([], []), ([0], [0]), ([], []), ([], []), ([2, 3], [2, 3]), ([4], [4]), ([5], [5]), ([6], [6]), ([1, 7, 6], [1, 7]), ([0, 1, 2, 3, 4, 5, 6, 7, 8], []), ([9, 8, 8, 0, 1, 2, 3, 4, 5, 6, 7, 8], [8, 9])])
def tapewrightref05_Of.B5 : List Nat := [0, 1, 0, 0, 12, 28, 60, 124, 255, 511, 1023]
theorem tapewrightref05_Of.tab5 : rtab .any (opsOf Tryz.f28 5) = tapewrightref05_Of.T5 := by kernel_rfl
theorem tapewrightref05_Of.bits5 : waitsOk tapewrightref05_Of.T5.2 tapewrightref05_Of.B5 = true := by kernel_rfl
theorem tapewrightref05_Of.calls (k : Nat) (P0_ : Nat → Prop) (A0 : Option Addr) (c0 : Nat) (l0 : List Int) (A1 : Option Addr) (c1 : Nat) (l1 : List (S46)) (r1 : List Int) (r2 : List ByteArray) (w : World) (hG : Err.Gs w) (hs0 : Kd.V (Kd.int .i64) 3 w w.heap.size (fun k_ => P0_ k_) (.slice A0 l0.length c0) l0) (hr1 : Kd.C k46 w A1 l1.length l1) (hc1 : l1.length ≤ c1) (h : tapewrightref05_Of.f k l0 l1 = some (r1, r2)) :
  Calls Tryz.prog 28 #[.slice A0 l0.length c0, .slice A1 l1.length c1] w fun e w' => ∃ v0_ v1_ : Value, e = .returned (.agg #[v0_, v1_]) ∧ Kd.V (Kd.int .i64) 3 w' w.heap.size (fun k_ => (P0_ k_ ∨ w.heap.size ≤ k_) ∧ some k_ ≠ (v1_ : Value).ownBlock) v0_ r1 ∧ Kd.R Kd.string 9 w' w.heap.size (fun k_ => (w.heap.size ≤ k_)) v1_ r2 ∧ Below w.heap.size w w' := by
 have hu25 := Tryz.underlying25;have hu46 := Tryz.underlying46;have HO0 := A_ (show Kd.V (Kd.int .i64) 3 w w.heap.size (fun k_ => (P0_ k_ ∨ w.heap.size ≤ k_)) (.slice A0 l0.length c0) l0 from Kd.V_mono hs0 (fun k_ hk => .inl hk));have HR1 := A_ hr1;have HC1 := A_ hc1;clear hr1 hc1;have HB := A_ (Below.refl w.heap.size w);have HGs := A_ hG;clear hG;unfold tapewrightref05_Of.f at h;have H := h;clear h;have H' := A_ H;clear H;go_enter Tryz.func28, Tryz.ntmps28
 go_wp2_with (first | (refine BX_ 4 #[.slice none 0 0, .slice none 0 0] 25 ?_; intro gb101 hg w3 hbox hb; replace HO0 := A_ (Kd.V_below (Kd.V_elderB (by (with_reducible repeat (first | apply Kd.V_alloc | apply Kd.V_drewN | apply Kd.V_drew)); exact HO0.out) gb101 (Nat.le_of_eq hg.symm)) hb); have BK101 := A_ (hbox); have GW101 := GE_ hg; have GE101 := GE_ hg; replace HB := BS_ hb; clear hb hbox hg) | (refine BX_ 5 #[.slice none 0 0, .slice none 0 0] 25 ?_; intro gb102 hg w4 hbox hb; replace HO0 := A_ (Kd.V_below (Kd.V_elderB (by (with_reducible repeat (first | apply Kd.V_alloc | apply Kd.V_drewN | apply Kd.V_drew)); exact HO0.out) gb102 (Nat.le_of_eq hg.symm)) hb); have BK102 := A_ (hbox); have GW102 := GE_ hg; have GE102 := GE_ hg; replace HB := BU_ hb; have NB101_102 := NB_ BK101 hg; have NB102_101 := NC_ BK101 hg; replace BK101 := BF_ BK101 hb; clear hb hbox hg; have hnb5 := NB102_101.out; have hnc5 := NB101_102.out; have hcz6_0 := CA_ BK102; have hcz6_1 := CB_ BK102; have hfz6_0 := blk_frozen BK102.out 0; have hfz6_1 := blk_frozen BK102.out 1))
 go_loopg [6] k (fun kq v6 w' => ∃ (x6_1 : Int) (x103001_1 : List ByteArray) (u103001 : Value), v6 = .int .i64 x6_1 ∧ Aside0 (tapewrightref05_Of.l0 kq l1 x6_1 l0 x103001_1 = some (r1, r2)) ∧ Aside0 (kq ≤ k) ∧ Aside0 (Kd.V (Kd.int .i64) 3 w' w.heap.size (fun k_ => (P0_ k_ ∨ w.heap.size ≤ k_) ∧ some k_ ≠ (u103001 : Value).ownBlock ∧ k_ ≠ gb101 ∧ k_ ≠ gb102) (.slice A0 l0.length c0) l0) ∧ Aside0 (Kd.R Kd.string 9 w' w.heap.size (fun k_ => (w.heap.size ≤ k_)) u103001 x103001_1) ∧ Aside0 (w'.heap[gb101]? = some (.cells #[(.slice none 0 0), (.slice none 0 0)] 25 (0, 0))) ∧ Aside0 (w'.heap[gb102]? = some (.cells #[(.slice A0 l0.length c0), u103001] 25 (0, 0))) ∧ Aside0 (Below w.heap.size w w'))
 case atStart => exact ⟨(0), (([] : List ByteArray)), (.slice none 0 0), S1_, H', ⟨Nat.le_refl _⟩, ⟨by (with_reducible repeat (first | apply Kd.V_alloc | apply Kd.V_drewN | apply Kd.V_drew)); exact Kd.V_mono (Kd.V_far (p := ⟨gb102, 1, none⟩) (Kd.V_far (p := ⟨gb102, 0, none⟩) (Kd.V_mono HO0.out (fun k_ hk => (⟨hk, hk.2⟩ : _ ∧ k_ ≠ gb102))) (fun _ hk => hk.2) (.slice A0 l0.length c0)) (fun _ hk => hk.2) (.slice none 0 0)) (fun _ hk => ⟨hk.1.1.1, ⟨(by simp [Value.ownBlock]), ⟨hk.1.1.2, hk.1.2⟩⟩⟩)⟩, ⟨by first | exact Kd.R_nil _ _ _ _ _ | exact Kd.N_nil _ _ _ _ _ | exact Kd.V_nil _ _ _ _ _ | exact Kd.Q_nil _ _ _ _ _ | exact Kd.S_nil _ _ _ _ _⟩, BW_ BK101, ⟨by (with_reducible repeat (first | refine blk_drewN ?_ _ | refine blk_drew ?_ | refine blk_alloc ?_ _)); refine blk_put (cs := #[.slice A0 l0.length c0, .slice none 0 0]) ?_ 1 _ rfl; (with_reducible repeat (first | refine blk_drewN ?_ _ | refine blk_drew ?_ | refine blk_alloc ?_ _)); refine blk_put (cs := #[.slice none 0 0, .slice none 0 0]) ?_ 0 _ rfl; (with_reducible repeat (first | refine blk_drewN ?_ _ | refine blk_drew ?_ | refine blk_alloc ?_ _)); exact BK102.out⟩, ⟨T9_⟩⟩
 case round =>
  clear H'
  try clear c1
  try clear c2
  try clear p2
  try clear c5
  try clear hcz6_0
  try clear hcz6_1
  try clear hfz6_0
  try clear hfz6_1
  obtain ⟨x6_1, x103001_1, u103001, rfl, HA, HK1, HO_103000, HO_103001, BK101, BK102, HB⟩ := hrel
  cases gk with
  | zero => exact absurd HA.out (by simp [tapewrightref05_Of.l0])
  | succ k1 =>
   have H := HA.out;clear HA;simp only [tapewrightref05_Of.l0] at H
   by_cases c7 : x6_1 < (l1.length : Int)
   ·
    rw [if_pos c7] at H;have c7b0 := decide_eq_true c7;clear c7
    by_cases c8 : 0 ≤ x6_1
    ·
     rw [if_pos c8] at H;have c8b0 := decide_eq_true c8;clear c8;replace H := BE_ H;obtain ⟨t104, A90, H⟩ := H;have A9 := A_ A90;clear A90
     by_cases c10 : x103001_1.length < 8796093022208
     ·
      rw [if_pos c10] at H;have LMc10 := A_ c10;clear c10;obtain ⟨y105, hy_⟩ : ∃ y_ : List ByteArray, y_ = (x103001_1 ++ [t104]) := ⟨_, rfl⟩
      replace H : (tapewrightref05_Of.l0 k1 l1 (wrap64 (x6_1 + 1)) l0 y105) = some (r1, r2) := RH_
      have Ny105 := A_ hy_;clear hy_;have H' := A_ H;clear H
      try go_wp2
      have n0_ := A_ (Kd.V_drew HO_103000.out);have n1_ := A_ (Kd.R_drew HO_103001.out);have n2_ := A_ (blk_drew BK101.out);have n3_ := A_ (blk_drew BK102.out);have n4_ := A_ (below_drew1 HB.out);clear HO_103000;clear HO_103001;clear BK101;clear BK102;clear HB;have HO_103000 := n0_;have HO_103001 := n1_;have BK101 := n2_;have BK102 := n3_;have HB := n4_;clear n0_ n1_ n2_ n3_ n4_;have p103 : 0 ≤ (x6_1 : Int) := DA_;have q103 : x6_1 < (l1.length : Int) := DA_;obtain ⟨ad103, e103, hx103_0, hx103_1⟩ := at_T46 HR1.out x6_1 p103 q103;have hw103_1 := hx103_1;have hw103_0 := hx103_0
      cases e103
      replace hx103_0 := (HB.out.cell (World.block_lt_of_cell? w _ hx103_0)).trans hx103_0;replace hx103_1 := (HB.out.cell (World.block_lt_of_cell? w _ hx103_1)).trans hx103_1;replace p103 := eq_true p103;replace q103 := eq_true q103;refine start_ (n := 11) (S := fun w' => w'.cell? ⟨gb102, 0, none⟩ = some (.slice A0 l0.length c0) ∧ w'.cell? ⟨gb102, 1, none⟩ = some (u103001) ∧ w'.cell? (ad103.add ((x6_1).toNat * 2)) = some (.string ((rd_T46 l1 x6_1).f0)) ∧ w'.cell? ⟨(ad103.add ((x6_1).toNat * 2)).block, (ad103.add ((x6_1).toNat * 2)).off + 1, none⟩ = some (.string ((rd_T46 l1 x6_1).f1))) (ds := [10]) #[false, false, false, false, false, false, false, false, false, false, false] (by kernel_rfl) rfl rfl ⟨(blk_cell BK102.out 0).trans rfl, (blk_cell BK102.out 1).trans rfl, ((HB.out.cell (World.block_lt_of_cell? w _ hw103_0)).trans hw103_0), ((HB.out.cell (World.block_lt_of_cell? w _ hw103_1)).trans hw103_1)⟩ (fun hHeld => ?_); refine with_tabW tapewrightref05_Of.tab5 tapewrightref05_Of.bits5 (fun HT_ HW_ => ?_);generalize wr.drew = w11 at HO_103000 HO_103001 BK101 BK102 HB hx103_0 hx103_1 hHeld ⊢;refine PU_ 0 15 ?_;refine PU_ 2 17 ?_;refine PU_ 3 18 ?_;refine PU_ 4 19 ?_;refine TK_ 1 16 rfl (by rfl) (by rintro w' ⟨s0, s1, s2, s3⟩;go_simp;with_reducible rfl) hHeld ?_
      refine TK_ 5 20 rfl (by rfl) (by rintro w' ⟨s0, s1, s2, s3⟩;go_simp;with_reducible rfl) hHeld ?_
      refine one_ (i := 6) (N := some 21) #[true, true, true, true, true, true, true, false, false, false, false] rfl rfl (one_of HT_.out (by kernel_rfl)) (by decide) (fun K hK => ?_);refine goes_ Tryz.func33 (by kernel_rfl) rfl #[.agg #[.string ((rd_T46 l1 x6_1).f0), .string ((rd_T46 l1 x6_1).f1)]] (by rfl) rfl rfl T2_ ?_
      with_reducible refine (tapewrightref03_Text.calls ((rd_T46 l1 x6_1).f0) ((rd_T46 l1 x6_1).f1) t104 _ A9.out).mono ?_
      rintro e w12 ⟨rfl, hb⟩;refine ⟨_, rfl, ?_⟩;have n0_ := A_ (Kd.V_below (by (with_reducible repeat (first | apply Kd.V_alloc | apply Kd.V_drewN | apply Kd.V_drew)); exact HO_103000.out) hb);have n1_ := A_ (Kd.R_below (K1_ HO_103001) hb);have n2_ := A_ (blk_below (g := gb101) (o := .cells #[.slice none 0 0, .slice none 0 0] 25 (0, 0)) (B1_ BK101.out) hb);have n3_ := A_ (blk_below (g := gb102) (o := .cells #[.slice A0 l0.length c0, u103001] 25 (0, 0)) (B1_ BK102.out) hb);have n4_ := BU_ hb;clear HO_103000;clear HO_103001;clear BK101;clear BK102;clear HB;have HO_103000 := n0_;have HO_103001 := n1_;have BK101 := n2_;have BK102 := n3_;have HB := n4_;clear n0_ n1_ n2_ n3_ n4_
      (try clear hb)
      (try clear hb2)
      (try clear hk)
      (try clear hi)
      refine hK.out _ _ ⟨(blk_cell BK102.out 0).trans rfl, (blk_cell BK102.out 1).trans rfl, ((HB.out.cell (World.block_lt_of_cell? w _ hw103_0)).trans hw103_0), ((HB.out.cell (World.block_lt_of_cell? w _ hw103_1)).trans hw103_1)⟩ (fun hHeld => ?_);clear hK K;refine norm_ (a' := ?_) ?_ ?_;rotate_left
      ·
       show Act.put _ (some 21) _ = _
       simp only [Act.put, List.setIfInBounds_toArray, List.set_cons_zero, List.set_cons_succ, i64_w, i32_w];rfl
      refine one_ (i := 7) (N := some 22) #[true, true, true, true, true, true, true, true, false, false, false] rfl rfl (one_of HT_.out (by kernel_rfl)) (by decide) (fun K hK => ?_);refine value_ (w1 := ?_) (v := ?_) (by rfl) rfl ?_ ?_;rotate_left 2
      ·
       go_simp;constructor
       ·
        rfl
       ·
        rfl
      refine hK.out _ _ ⟨(blk_cell (blk_alloc BK102.out _) 0).trans rfl, (blk_cell (blk_alloc BK102.out _) 1).trans rfl, (World.cell?_alloc_lt _ _ _ (World.block_lt_of_cell? _ _ (((HB.out.cell (World.block_lt_of_cell? w _ hw103_0)).trans hw103_0)))).trans (((HB.out.cell (World.block_lt_of_cell? w _ hw103_0)).trans hw103_0)), (World.cell?_alloc_lt _ _ _ (World.block_lt_of_cell? _ _ (((HB.out.cell (World.block_lt_of_cell? w _ hw103_1)).trans hw103_1)))).trans (((HB.out.cell (World.block_lt_of_cell? w _ hw103_1)).trans hw103_1))⟩ (fun hHeld => ?_);clear hK K;refine norm_ (a' := ?_) ?_ ?_;rotate_left
      ·
       show Act.put _ (some 22) _ = _
       simp only [Act.put, List.setIfInBounds_toArray, List.set_cons_zero, List.set_cons_succ, i64_w, i32_w];rfl
      refine one_ (i := 8) (N := some 23) #[true, true, true, true, true, true, true, true, true, false, false] rfl rfl (one_of HT_.out (by kernel_rfl)) (by decide) (fun K hK => ?_);refine Kd.R_append_step Kd.string (w0 := w) w.heap.size (by rfl) (.tmp 16) (.tmp 22) 23 9 (.string ⟨#[]⟩) 16 rfl Tryz.underlying23 info9 rfl (by decide) (by omega) u103001 x103001_1 t104 [.string t104] (fun k_ => (w.heap.size ≤ k_)) (fun _ => False) rfl rfl ?aP (fun _ hk => hk.elim) ?aF ?aO ?aB ?aS ?aL ?_
      (case aP => exact rfl)
      (case aB => exact T9_)
      (case aF => exact (fun k_ hk => (Nat.le_trans (below_size T9_) hk)))
      (case aO => exact (K1_ HO_103001))
      (case aS => exact (below_size T9_))
      (case aL => have := LMc10.out; omega)
      intro v106 w13 ho hb hg hat;rw [← Ny105.out] at ho;have n0_ := A_ (Kd.V_afterv (ok := (fun k_ => (P0_ k_ ∨ w.heap.size ≤ k_) ∧ k_ ≠ gb101 ∧ k_ ≠ gb102)) (by (with_reducible repeat (first | apply Kd.V_alloc | apply Kd.V_drewN | apply Kd.V_drew)); exact Kd.V_mono HO_103000.out (fun _ hk => ⟨⟨hk.1, ⟨hk.2.2.1, hk.2.2.2⟩⟩, hk.2.1⟩)) hg hat);have n1_ := A_ (blk_grown (g := gb101) (o := .cells #[.slice none 0 0, .slice none 0 0] 25 (0, 0)) (B1_ BK101.out) hg (Kd.R_ne HO_103001.out BK101.out (by decide)));have n2_ := A_ (blk_grown (g := gb102) (o := .cells #[.slice A0 l0.length c0, u103001] 25 (0, 0)) (B1_ BK102.out) hg (Kd.R_ne HO_103001.out BK102.out (by decide)));have n3_ := A_ (hb);have n4_ := A_ (ho);clear HO_103000;clear BK101;clear BK102;clear HB;clear HO_103001;have HO_103000 := n0_;have BK101 := n1_;have BK102 := n2_;have HB := n3_;have HO107 := n4_;clear n0_ n1_ n2_ n3_ n4_;clear ho hb hg hat;obtain ⟨Ao14, co14, eo14⟩ := Kd.R_slice HO107.out
      (first | subst eo14 | (injection eo14 with f1_ f2_ f3_; have f4_ := f1_.symm; have f5_ := f3_.symm; clear f1_ f2_ f3_; subst f4_; subst f5_))
      refine hK.out _ _ ⟨(blk_cell BK102.out 0).trans rfl, (blk_cell BK102.out 1).trans rfl, ((HB.out.cell (World.block_lt_of_cell? w _ hw103_0)).trans hw103_0), ((HB.out.cell (World.block_lt_of_cell? w _ hw103_1)).trans hw103_1)⟩ (fun hHeld => ?_);clear hK K;refine norm_ (a' := ?_) ?_ ?_;rotate_left
      ·
       show Act.put _ (some 23) _ = _
       simp only [Act.put, List.setIfInBounds_toArray, List.set_cons_zero, List.set_cons_succ, i64_w, i32_w];rfl
      refine PU_ 9 24 ?_
      refine last_ (i := 10) (N := none) #[true, true, true, true, true, true, true, true, true, true, true] rfl rfl (one_of HT_.out (by kernel_rfl)) (by decide) (fun K hK => ?_);have hs15 : w13.cell? ⟨gb102, 1, none⟩ = some (u103001) := (blk_cell BK102.out 1).trans rfl;have hfs15 := blk_frozen BK102.out 1;have hns15_0 := NB101_102.out;have hms15_0 := NB102_101.out;refine skip_ (w1 := ?_) (by rfl) rfl ?_ ?_;rotate_left
      ·
       go_simp;rfl
      refine hK.out _ _ ?_;clear hK K;refine done_ (done_of HT_.out (by kernel_rfl)) ?_
      try go_wp2
      go_roundg k1
      case measure => have := HK1.out; omega
      case rel => exact ⟨(wrap64 (x6_1 + 1)), (y105), (.slice Ao14 y105.length co14), S1_, H', ⟨by have := HK1.out; omega⟩, ⟨by (with_reducible repeat (first | apply Kd.V_alloc | apply Kd.V_drewN | apply Kd.V_drew)); exact Kd.V_mono (Kd.V_far (p := ⟨gb102, 1, none⟩) (Kd.V_mono HO_103000.out (fun k_ hk => (⟨hk, hk.1.2.2⟩ : _ ∧ k_ ≠ gb102))) (fun _ hk => hk.2) (.slice Ao14 y105.length co14)) (fun _ hk => ⟨hk.1.1.1, ⟨hk.1.2, ⟨hk.1.1.2.1, hk.1.1.2.2⟩⟩⟩)⟩, ⟨by (with_reducible repeat (first | apply Kd.R_alloc | apply Kd.R_drewN | apply Kd.R_drew)); exact Kd.R_mono (Kd.R_far (p := ⟨gb102, 1, none⟩) (Kd.R_types HO107.out BK102.out (by decide)) (fun _ hk => hk.2) (.slice Ao14 y105.length co14)) (fun _ hk => hk.1)⟩, BW_ BK101, ⟨by (with_reducible repeat (first | refine blk_drewN ?_ _ | refine blk_drew ?_ | refine blk_alloc ?_ _)); refine blk_put (cs := #[.slice A0 l0.length c0, u103001]) ?_ 1 _ rfl; (with_reducible repeat (first | refine blk_drewN ?_ _ | refine blk_drew ?_ | refine blk_alloc ?_ _)); exact BK102.out⟩, ⟨T9_⟩⟩
     ·
      rw [if_neg c10] at H;exact absurd H (by simp)
    ·
     rw [if_neg c8] at H;exact absurd H (by simp)
   ·
    rw [if_neg c7] at H;have c7b0 := decide_eq_false c7;clear c7;simp only [Option.some.injEq, Prod.mk.injEq] at H;obtain ⟨rfl, rfl⟩ := H;have hnb16 := NB102_101.out;have hnc16 := NB101_102.out;have hcz17_0 : wr.cell? ⟨gb102, 0, none⟩ = some (.slice A0 l0.length c0) := (blk_cell BK102.out 0).trans rfl;have hcz17_1 : wr.cell? ⟨gb102, 1, none⟩ = some (u103001) := (blk_cell BK102.out 1).trans rfl;have hfz17_0 := blk_frozen BK102.out 0;have hfz17_1 := blk_frozen BK102.out 1;have hcz18_0 := CA_ BK101;have hcz18_1 := CB_ BK101;have hfz18_0 := blk_frozen BK101.out 0;have hfz18_1 := blk_frozen BK101.out 1;obtain ⟨Ao19, co19, eo19⟩ := Kd.R_slice HO_103001.out;subst eo19
    go_wp2
    refine bodyPost_ret (results_cell_row rfl _ _ gb101 25 #[.slice A0 l0.length c0, .slice Ao19 x103001_1.length co19] (0, 0) _ rfl (by (with_reducible repeat (first | refine blk_drewN ?_ _ | refine blk_drew ?_ | refine blk_alloc ?_ _)); refine blk_put (cs := #[.slice A0 l0.length c0, .slice none 0 0]) ?_ 1 _ rfl; (with_reducible repeat (first | refine blk_drewN ?_ _ | refine blk_drew ?_ | refine blk_alloc ?_ _)); refine blk_put (cs := #[.slice none 0 0, .slice none 0 0]) ?_ 0 _ rfl; (with_reducible repeat (first | refine blk_drewN ?_ _ | refine blk_drew ?_ | refine blk_alloc ?_ _)); exact BK101.out) Tryz.underlying25 rfl (by kernel_rfl)) rfl ?_;exact ⟨_, _, by first | rfl | (simp [errW_none, errW_some] <;> rfl) | (simp [*, errW_none, errW_some] <;> rfl), by (with_reducible repeat (first | apply Kd.V_alloc | apply Kd.V_drewN | apply Kd.V_drew)); exact Kd.V_mono (Kd.V_far (p := ⟨gb101, 1, none⟩) (Kd.V_far (p := ⟨gb101, 0, none⟩) (Kd.V_mono HO_103000.out (fun k_ hk => (⟨hk, hk.2.2.1⟩ : _ ∧ k_ ≠ gb101))) (fun _ hk => hk.2) (.slice A0 l0.length c0)) (fun _ hk => hk.2) (.slice Ao19 x103001_1.length co19)) (fun _ hk => ⟨hk.1.1, hk.1.2.1⟩), by (with_reducible repeat (first | apply Kd.R_alloc | apply Kd.R_drewN | apply Kd.R_drew)); exact Kd.R_mono (Kd.R_far (p := ⟨gb101, 1, none⟩) (Kd.R_far (p := ⟨gb101, 0, none⟩) (Kd.R_types HO_103001.out BK101.out (by decide)) (fun _ hk => hk.2) (.slice A0 l0.length c0)) (fun _ hk => hk.2) (.slice Ao19 x103001_1.length co19)) (fun _ hk => hk.1), T9_⟩
/-! ### tapewrightref03_Read: function 25 -/
noncomputable def tapewrightref03_Read.f (a0 : ByteArray) : Option (ByteArray × ByteArray × Bool) := if a0.size ≤ 40000000000 then some (Err.r3Read a0) else none
theorem tapewrightref03_Read.calls (a0 : ByteArray) (r1 : ByteArray) (r2 : ByteArray) (r3 : Bool) (w : World) (h : tapewrightref03_Read.f a0 = some (r1, r2, r3)) :
  Calls Tryz.prog 25 #[.string a0] w fun e w' => e = .returned (.tuple #[.agg #[.string r1, .string r2], .bool r3]) ∧ Below w.heap.size w w' := by
 unfold tapewrightref03_Read.f at h
 by_cases c : a0.size ≤ 40000000000
 ·
  rw [if_pos c] at h;obtain ⟨k, hk⟩ := (Err.r3Read_ev a0 c).rounds;exact PS.tapewrightref03_Read.calls k a0 r1 r2 r3 w (hk.trans h)
 ·
  rw [if_neg c] at h
  cases h
theorem tapewrightref03_Read.rt (x : Rat) (h : (Err.rt x).size ≤ 40000000000) : tapewrightref03_Read.f (Err.rt x) = some (Th.Wh.zt x.num, Th.txt x.den, true) := by rw [tapewrightref03_Read.f, if_pos h, Err.r3Read_rt x h]
/-! ### tapewrightref05_At: function 29 -/
noncomputable def tapewrightref05_At.f (l0_0 : List Int) (l0_1 : List ByteArray) (a1 : Int) : Option (ByteArray × ByteArray) := if 0 ≤ a1 then (if a1 < (l0_1.length : Int) then ((tapewrightref03_Read.f (rdOf ByteArray.empty l0_1 a1)).bind fun bt111 => (some (bt111.1, bt111.2.1))) else (none)) else (none)
theorem tapewrightref05_At.calls (A0_0 : Option Addr) (c0_0 : Nat) (l0_0 : List Int) (A0_1 : Option Addr) (c0_1 : Nat) (l0_1 : List ByteArray) (a1 : Int) (r1 : ByteArray) (r2 : ByteArray) (w : World) (hG : Err.Gs w) (hr0_0 : Kd.C (Kd.int .i64) w A0_0 l0_0.length l0_0) (hc0_0 : l0_0.length ≤ c0_0) (hr0_1 : Kd.C Kd.string w A0_1 l0_1.length l0_1) (hc0_1 : l0_1.length ≤ c0_1) (h : tapewrightref05_At.f l0_0 l0_1 a1 = some (r1, r2)) :
  Calls Tryz.prog 29 #[.agg #[.slice A0_0 l0_0.length c0_0, .slice A0_1 l0_1.length c0_1], .int .i64 a1] w fun e w' => e = .returned (.agg #[.string r1, .string r2]) ∧ Below w.heap.size w w' := by
 have hu25 := Tryz.underlying25;have hu46 := Tryz.underlying46;have HR0_0 := A_ hr0_0;have HC0_0 := A_ hc0_0;clear hr0_0 hc0_0;have HR0_1 := A_ hr0_1;have HC0_1 := A_ hc0_1;clear hr0_1 hc0_1;have HB := A_ (Below.refl w.heap.size w);have HGs := A_ hG;clear hG;unfold tapewrightref05_At.f at h;have H := h;clear h
 by_cases c3 : 0 ≤ a1
 ·
  rw [if_pos c3] at H;have c3b0 := decide_eq_true c3;clear c3
  by_cases c4 : a1 < (l0_1.length : Int)
  ·
   rw [if_pos c4] at H;have c4b0 := decide_eq_true c4;clear c4;replace H := BE_ H;obtain ⟨⟨t111, t112, t113⟩, A50, H⟩ := H;have A5 := A_ A50;clear A50;simp only [Option.some.injEq, Prod.mk.injEq] at H;obtain ⟨rfl, rfl⟩ := H;go_enter Tryz.func29, Tryz.ntmps29
   go_wp2_with (first | (refine BX_ 2 #[.slice A0_0 l0_0.length c0_0, .slice A0_1 l0_1.length c0_1] 25 ?_; intro gb108 hg w6 hbox hb; have BK108 := A_ (hbox); have GW108 := GE_ hg; have GE108 := GE_ hg; replace HB := BS_ hb; clear hb hbox hg) | (refine BX_ 4 #[.string (⟨#[]⟩ : ByteArray), .string (⟨#[]⟩ : ByteArray)] 46 ?_; intro gb109 hg w7 hbox hb; have BK109 := A_ (hbox); have GW109 := GE_ hg; have GE109 := GE_ hg; replace HB := BU_ hb; have NB108_109 := NB_ BK108 hg; have NB109_108 := NC_ BK108 hg; replace BK108 := BF_ BK108 hb; clear hb hbox hg; have hnb8 := NB108_109.out; have hnc8 := NB109_108.out; have hcz9_0 := CA_ BK108; have hcz9_1 := CB_ BK108; have hfz9_0 := blk_frozen BK108.out 0; have hfz9_1 := blk_frozen BK108.out 1; have p110 : 0 ≤ (a1 : Int) := DA_; have q110 : a1 < (l0_1.length : Int) := DA_; obtain ⟨ad110, e110, hx110_0⟩ := Kd.at_string HR0_1.out a1 p110 q110; cases e110; replace hx110_0 := (HB.out.cell (World.block_lt_of_cell? w _ hx110_0)).trans hx110_0; replace p110 := eq_true p110; replace q110 := eq_true q110) | (refine GL_ 25 13 Tryz.func25 #[.string (rdOf ByteArray.empty l0_1 a1)] ?_; (with_reducible refine (tapewrightref03_Read.calls (rdOf ByteArray.empty l0_1 a1) t111 t112 t113 _ A5.out).mono ?_); rintro e w10 ⟨rfl, hb⟩; refine ⟨_, rfl, ?_⟩; replace BK108 := BF_ BK108 hb; replace BK109 := BF_ BK109 hb; replace HB := BU_ hb; clear hb) | (refine BX_ 5 #[.string (⟨#[]⟩ : ByteArray), .string (⟨#[]⟩ : ByteArray)] 46 ?_; intro gb114 hg w11 hbox hb; have BK114 := A_ (hbox); have GW114 := GE_ hg; have GE114 := GE_ hg; replace HB := BU_ hb; have NB108_114 := NB_ BK108 hg; have NB114_108 := NC_ BK108 hg; replace BK108 := BF_ BK108 hb; have NB109_114 := NB_ BK109 hg; have NB114_109 := NC_ BK109 hg; replace BK109 := BF_ BK109 hb; clear hb hbox hg; have hnb12 := NB114_108.out; have hnc12 := NB108_114.out; have hnb13 := NB114_109.out; have hnc13 := NB109_114.out; have hcz14_0 := CA_ BK114; have hcz14_1 := CB_ BK114; have hfz14_0 := blk_frozen BK114.out 0; have hfz14_1 := blk_frozen BK114.out 1; have hcz15_0 := CA_ BK109; have hcz15_1 := CB_ BK109; have hfz15_0 := blk_frozen BK109.out 0; have hfz15_1 := blk_frozen BK109.out 1))
   refine bodyPost_ret (results_cell_row rfl _ _ gb109 46 #[.string t111, .string t112] (0, 0) _ rfl (by (with_reducible repeat (first | refine blk_drewN ?_ _ | refine blk_drew ?_ | refine blk_alloc ?_ _)); refine blk_put (cs := #[.string t111, .string (⟨#[]⟩ : ByteArray)]) ?_ 1 _ rfl; (with_reducible repeat (first | refine blk_drewN ?_ _ | refine blk_drew ?_ | refine blk_alloc ?_ _)); refine blk_put (cs := #[.string (⟨#[]⟩ : ByteArray), .string (⟨#[]⟩ : ByteArray)]) ?_ 0 _ rfl; (with_reducible repeat (first | refine blk_drewN ?_ _ | refine blk_drew ?_ | refine blk_alloc ?_ _)); refine blk_far ?_ NB109_114.out _; (with_reducible repeat (first | refine blk_drewN ?_ _ | refine blk_drew ?_ | refine blk_alloc ?_ _)); refine blk_far ?_ NB109_114.out _; (with_reducible repeat (first | refine blk_drewN ?_ _ | refine blk_drew ?_ | refine blk_alloc ?_ _)); exact BK109.out) Tryz.underlying46 rfl (by kernel_rfl)) rfl ?_;exact ⟨T4_, T9_⟩
  ·
   rw [if_neg c4] at H;exact absurd H (by simp)
 ·
  rw [if_neg c3] at H;exact absurd H (by simp)
/-! ### tapewrightref03_Add: function 30 -/
noncomputable def tapewrightref03_Add.f (a0_0 : ByteArray) (a0_1 : ByteArray) (a1_0 : ByteArray) (a1_1 : ByteArray) : Option (ByteArray × ByteArray) := Err.r3Add a0_0 a0_1 a1_0 a1_1
theorem tapewrightref03_Add.calls (a0_0 : ByteArray) (a0_1 : ByteArray) (a1_0 : ByteArray) (a1_1 : ByteArray) (r1 : ByteArray) (r2 : ByteArray) (w : World) (h : tapewrightref03_Add.f a0_0 a0_1 a1_0 a1_1 = some (r1, r2)) :
  Calls Tryz.prog 30 #[.agg #[.string a0_0, .string a0_1], .agg #[.string a1_0, .string a1_1]] w fun e w' => e = .returned (.agg #[.string r1, .string r2]) ∧ Below w.heap.size w w' := Err.r3Add_calls a0_0 a0_1 a1_0 a1_1 r1 r2 w h
theorem tapewrightref03_Add.rt {x y : Rat} (hx : Err.Fr x) (hy : Err.Fr y) : tapewrightref03_Add.f (Th.Wh.zt x.num) (Th.txt x.den) (Th.Wh.zt y.num) (Th.txt y.den) = some (Th.Wh.zt (x + y).num, Th.txt (x + y).den) := Err.r3Add_rt hx hy
/-! ### tapewrightref03_Mul: function 31 -/
noncomputable def tapewrightref03_Mul.f (a0_0 : ByteArray) (a0_1 : ByteArray) (a1_0 : ByteArray) (a1_1 : ByteArray) : Option (ByteArray × ByteArray) := Err.r3Mul a0_0 a0_1 a1_0 a1_1
theorem tapewrightref03_Mul.calls (a0_0 : ByteArray) (a0_1 : ByteArray) (a1_0 : ByteArray) (a1_1 : ByteArray) (r1 : ByteArray) (r2 : ByteArray) (w : World) (h : tapewrightref03_Mul.f a0_0 a0_1 a1_0 a1_1 = some (r1, r2)) :
  Calls Tryz.prog 31 #[.agg #[.string a0_0, .string a0_1], .agg #[.string a1_0, .string a1_1]] w fun e w' => e = .returned (.agg #[.string r1, .string r2]) ∧ Below w.heap.size w w' := Err.r3Mul_calls a0_0 a0_1 a1_0 a1_1 r1 r2 w h
theorem tapewrightref03_Mul.rt {x y : Rat} (hx : Err.Fr x) (hy : Err.Fr y) : tapewrightref03_Mul.f (Th.Wh.zt x.num) (Th.txt x.den) (Th.Wh.zt y.num) (Th.txt y.den) = some (Th.Wh.zt (x * y).num, Th.txt (x * y).den) := Err.r3Mul_rt hx hy
/-! ### tapewrightref03_Neg: function 44 -/
noncomputable def tapewrightref03_Neg.f (a0_0 : ByteArray) (a0_1 : ByteArray) : Option (ByteArray × ByteArray) := Err.r3Neg a0_0 a0_1
theorem tapewrightref03_Neg.calls (a0_0 : ByteArray) (a0_1 : ByteArray) (r1 : ByteArray) (r2 : ByteArray) (w : World) (h : tapewrightref03_Neg.f a0_0 a0_1 = some (r1, r2)) :
  Calls Tryz.prog 44 #[.agg #[.string a0_0, .string a0_1]] w fun e w' => e = .returned (.agg #[.string r1, .string r2]) ∧ Below w.heap.size w w' := Err.r3Neg_calls a0_0 a0_1 r1 r2 w h
theorem tapewrightref03_Neg.rt {x : Rat} (hx : Err.Fr x) : tapewrightref03_Neg.f (Th.Wh.zt x.num) (Th.txt x.den) = some (Th.Wh.zt (-x).num, Th.txt (-x).den) := Err.r3Neg_rt hx
/-! ### tapewrightref05_Zip: function 19 -/
noncomputable def tapewrightref05_Zip.l0 : Nat → ByteArray → List (S46) → Int → List Int → List ByteArray → List Int → List ByteArray → Option (List Int × List ByteArray)
 | 0, _, _, _, _, _, _, _ => none
 | k + 1, x0, x7, x8, x116000, x116001, x117000, x117001 => if x8 < (x116001.length : Int) then ((tapewrightref05_At.f x116000 x116001 x8).bind fun bt124 => ((tapewrightref05_At.f x117000 x117001 x8).bind fun bt126 => (if x0.toList = ([97, 100, 100] : List UInt8) then ((tapewrightref03_Add.f bt124.1 bt124.2 bt126.1 bt126.2).bind fun bt130 => (if x7.length < 4398046511104 then (tapewrightref05_Zip.l0 k x0 (x7 ++ [(⟨bt130.1, bt130.2⟩ : S46)]) (wrap64 (x8 + 1)) x116000 x116001 x117000 x117001) else (none))) else (if x0.toList = ([115, 117, 98] : List UInt8) then ((tapewrightref03_Neg.f bt126.1 bt126.2).bind fun bt135 => ((tapewrightref03_Add.f bt124.1 bt124.2 bt135.1 bt135.2).bind fun bt137 => (if x7.length < 4398046511104 then (tapewrightref05_Zip.l0 k x0 (x7 ++ [(⟨bt137.1, bt137.2⟩ : S46)]) (wrap64 (x8 + 1)) x116000 x116001 x117000 x117001) else (none)))) else ((tapewrightref03_Mul.f bt124.1 bt124.2 bt126.1 bt126.2).bind fun bt142 => (if x7.length < 4398046511104 then (tapewrightref05_Zip.l0 k x0 (x7 ++ [(⟨bt142.1, bt142.2⟩ : S46)]) (wrap64 (x8 + 1)) x116000 x116001 x117000 x117001) else (none))))))) else ((tapewrightref05_Of.f k x116000 x7).bind fun bt118 => (some (bt118.1, bt118.2)))
noncomputable def tapewrightref05_Zip.f (k : Nat) (a0 : ByteArray) (l1_0 : List Int) (l1_1 : List ByteArray) (l2_0 : List Int) (l2_1 : List ByteArray) : Option (List Int × List ByteArray) := tapewrightref05_Zip.l0 k a0 ([] : List (S46)) 0 l1_0 l1_1 l2_0 l2_1
def tapewrightref05_Zip.T5 : Bool × List (List Nat × List Nat) := (true, [([], []), ([], []), ([0, 1], [0, 1]), ([], []), ([], []), ([3, 4, 2], [3, 4]), ([], []), ([], []), ([6, 2, 5, 0, 1, 2, 6, 7], [2, 6]), ([7, 5, 8, 0, 1, 2, 3, 4, 5, 6, 7, 8], [5, 7])])
def tapewrightref05_Zip.B5 : List Nat := [0, 0, 3, 0, 0, 31, 0, 0, 255, 511]
theorem tapewrightref05_Zip.tab5 : rtab .any (opsOf Tryz.f19 5) = tapewrightref05_Zip.T5 := by kernel_rfl
theorem tapewrightref05_Zip.bits5 : waitsOk tapewrightref05_Zip.T5.2 tapewrightref05_Zip.B5 = true := by kernel_rfl
def tapewrightref05_Zip.T11 : Bool × List (List Nat × List Nat) := (true, [([], []), ([], []), ([], []), ([2], [2]), ([1, 3, 3], [1, 3]), ([4], [4]), ([0, 5, 4], [0, 5]), ([6, 6, 0, 1, 2, 3, 4, 5, 6], [0, 6])])
def tapewrightref05_Zip.B11 : List Nat := [0, 0, 0, 4, 14, 30, 63, 127]
theorem tapewrightref05_Zip.tab11 : rtab .any (opsOf Tryz.f19 11) = tapewrightref05_Zip.T11 := by kernel_rfl
theorem tapewrightref05_Zip.bits11 : waitsOk tapewrightref05_Zip.T11.2 tapewrightref05_Zip.B11 = true := by kernel_rfl
theorem tapewrightref05_Zip.ready5 (c d a b p q : Bool) (i : Nat) (h : readyAt tapewrightref05_Zip.T5.2 [true, true, c, true, true, d, a, b, p, q] i = true) : (i = 2 ∧ c = false) ∨ (i = 5 ∧ d = false) ∨ (i = 6 ∧ a = false) ∨ (i = 7 ∧ b = false) ∨ (i = 8 ∧ p = false ∧ c = true ∧ a = true) ∨ (i = 9 ∧ q = false ∧ d = true ∧ b = true) := by
 have k : ∀ c d a b p q : Bool, ∀ i : Fin 10, readyAt tapewrightref05_Zip.T5.2 [true, true, c, true, true, d, a, b, p, q] i.1 = true → (i.1 = 2 ∧ c = false) ∨ (i.1 = 5 ∧ d = false) ∨ (i.1 = 6 ∧ a = false) ∨ (i.1 = 7 ∧ b = false) ∨ (i.1 = 8 ∧ p = false ∧ c = true ∧ a = true) ∨ (i.1 = 9 ∧ q = false ∧ d = true ∧ b = true) := by decide +kernel
 exact k c d a b p q ⟨i, readyAt_lt h⟩ h
theorem tapewrightref05_Zip.done5 : ∀ c d a b p q : Bool, readyT tapewrightref05_Zip.T5.2 [true, true, c, true, true, d, a, b, p, q] = [] → c = true ∧ d = true ∧ a = true ∧ b = true ∧ p = true ∧ q = true := by decide +kernel
theorem tapewrightref05_Zip.calls (k : Nat) (a0 : ByteArray) (P1_0_ : Nat → Prop) (A1_0 : Option Addr) (c1_0 : Nat) (l1_0 : List Int) (A1_1 : Option Addr) (c1_1 : Nat) (l1_1 : List ByteArray) (A2_0 : Option Addr) (c2_0 : Nat) (l2_0 : List Int) (A2_1 : Option Addr) (c2_1 : Nat) (l2_1 : List ByteArray) (r1 : List Int) (r2 : List ByteArray) (w : World) (hG : Err.Gs w) (hs1_0 : Kd.V (Kd.int .i64) 3 w w.heap.size (fun k_ => P1_0_ k_) (.slice A1_0 l1_0.length c1_0) l1_0) (hr1_1 : Kd.C Kd.string w A1_1 l1_1.length l1_1) (hc1_1 : l1_1.length ≤ c1_1) (hr2_0 : Kd.C (Kd.int .i64) w A2_0 l2_0.length l2_0) (hc2_0 : l2_0.length ≤ c2_0) (hr2_1 : Kd.C Kd.string w A2_1 l2_1.length l2_1) (hc2_1 : l2_1.length ≤ c2_1) (h : tapewrightref05_Zip.f k a0 l1_0 l1_1 l2_0 l2_1 = some (r1, r2)) :
  Calls Tryz.prog 19 #[.string a0, .agg #[.slice A1_0 l1_0.length c1_0, .slice A1_1 l1_1.length c1_1], .agg #[.slice A2_0 l2_0.length c2_0, .slice A2_1 l2_1.length c2_1]] w fun e w' => ∃ v0_ v1_ : Value, e = .returned (.agg #[v0_, v1_]) ∧ Kd.V (Kd.int .i64) 3 w' w.heap.size (fun k_ => (P1_0_ k_ ∨ w.heap.size ≤ k_) ∧ some k_ ≠ (v1_ : Value).ownBlock) v0_ r1 ∧ Kd.R Kd.string 9 w' w.heap.size (fun k_ => (w.heap.size ≤ k_)) v1_ r2 ∧ Below w.heap.size w w' := by
 have hu25 := Tryz.underlying25;have hu46 := Tryz.underlying46;have HO1_0 := A_ (show Kd.V (Kd.int .i64) 3 w w.heap.size (fun k_ => (P1_0_ k_ ∨ w.heap.size ≤ k_)) (.slice A1_0 l1_0.length c1_0) l1_0 from Kd.V_mono hs1_0 (fun k_ hk => .inl hk));have HR1_1 := A_ hr1_1;have HC1_1 := A_ hc1_1;clear hr1_1 hc1_1;have HR2_0 := A_ hr2_0;have HC2_0 := A_ hc2_0;clear hr2_0 hc2_0;have HR2_1 := A_ hr2_1;have HC2_1 := A_ hc2_1;clear hr2_1 hc2_1;have HB := A_ (Below.refl w.heap.size w);have HGs := A_ hG;clear hG;unfold tapewrightref05_Zip.f at h;have H := h;clear h;have H' := A_ H;clear H;go_enter Tryz.func19, Tryz.ntmps19
 go_wp2_with (first | (refine BX_ 4 #[.slice A1_0 l1_0.length c1_0, .slice A1_1 l1_1.length c1_1] 25 ?_; intro gb115 hg w4 hbox hb; replace HO1_0 := A_ (Kd.V_below (Kd.V_elderB (by (with_reducible repeat (first | apply Kd.V_alloc | apply Kd.V_drewN | apply Kd.V_drew)); exact HO1_0.out) gb115 (Nat.le_of_eq hg.symm)) hb); have BK115 := A_ (hbox); have GW115 := GE_ hg; have GE115 := GE_ hg; replace HB := BS_ hb; clear hb hbox hg) | (refine BX_ 5 #[.slice A2_0 l2_0.length c2_0, .slice A2_1 l2_1.length c2_1] 25 ?_; intro gb116 hg w5 hbox hb; replace HO1_0 := A_ (Kd.V_below (Kd.V_elderB (by (with_reducible repeat (first | apply Kd.V_alloc | apply Kd.V_drewN | apply Kd.V_drew)); exact HO1_0.out) gb116 (Nat.le_of_eq hg.symm)) hb); have BK116 := A_ (hbox); have GW116 := GE_ hg; have GE116 := GE_ hg; replace HB := BU_ hb; have NB115_116 := NB_ BK115 hg; have NB116_115 := NC_ BK115 hg; replace BK115 := BF_ BK115 hb; clear hb hbox hg) | (refine BX_ 6 #[.slice none 0 0, .slice none 0 0] 25 ?_; intro gb117 hg w6 hbox hb; replace HO1_0 := A_ (Kd.V_below (Kd.V_elderB (by (with_reducible repeat (first | apply Kd.V_alloc | apply Kd.V_drewN | apply Kd.V_drew)); exact HO1_0.out) gb117 (Nat.le_of_eq hg.symm)) hb); have BK117 := A_ (hbox); have GW117 := GE_ hg; have GE117 := GE_ hg; replace HB := BU_ hb; have NB115_117 := NB_ BK115 hg; have NB117_115 := NC_ BK115 hg; replace BK115 := BF_ BK115 hb; have NB116_117 := NB_ BK116 hg; have NB117_116 := NC_ BK116 hg; replace BK116 := BF_ BK116 hb; clear hb hbox hg))
 go_loopg [7, 8] k (fun kq v7 v8 w' => ∃ (x7_1 : List (S46)) (x8_1 : Int), v8 = .int .i64 x8_1 ∧ Aside0 (tapewrightref05_Zip.l0 kq a0 x7_1 x8_1 l1_0 l1_1 l2_0 l2_1 = some (r1, r2)) ∧ Aside0 (kq ≤ k) ∧ Aside0 (Kd.R k46 46 w' w.heap.size (fun k_ => (w.heap.size ≤ k_)) v7 x7_1) ∧ Aside0 (Kd.V (Kd.int .i64) 3 w' w.heap.size (fun k_ => (P1_0_ k_ ∨ w.heap.size ≤ k_) ∧ some k_ ≠ (v7 : Value).ownBlock ∧ k_ ≠ gb115 ∧ k_ ≠ gb116 ∧ k_ ≠ gb117) (.slice A1_0 l1_0.length c1_0) l1_0) ∧ Aside0 (w'.heap[gb115]? = some (.cells #[(.slice A1_0 l1_0.length c1_0), (.slice A1_1 l1_1.length c1_1)] 25 (0, 0))) ∧ Aside0 (w'.heap[gb116]? = some (.cells #[(.slice A2_0 l2_0.length c2_0), (.slice A2_1 l2_1.length c2_1)] 25 (0, 0))) ∧ Aside0 (w'.heap[gb117]? = some (.cells #[(.slice none 0 0), (.slice none 0 0)] 25 (0, 0))) ∧ Aside0 (Below w.heap.size w w'))
 case atStart => exact ⟨(([] : List (S46))), (0), S1_, H', ⟨Nat.le_refl _⟩, ⟨by first | exact Kd.R_nil _ _ _ _ _ | exact Kd.N_nil _ _ _ _ _ | exact Kd.V_nil _ _ _ _ _ | exact Kd.Q_nil _ _ _ _ _ | exact Kd.S_nil _ _ _ _ _⟩, ⟨by (with_reducible repeat (first | apply Kd.V_alloc | apply Kd.V_drewN | apply Kd.V_drew)); exact Kd.V_mono HO1_0.out (fun _ hk => ⟨hk.1.1.1, ⟨(by simp [Value.ownBlock]), ⟨hk.1.1.2, ⟨hk.1.2, hk.2⟩⟩⟩⟩)⟩, BW_ BK115, BW_ BK116, BW_ BK117, ⟨T9_⟩⟩
 case round =>
  clear H'
  try clear c1
  try clear c2
  try clear p2
  obtain ⟨x7_1, x8_1, rfl, HA, HK1, HO_7, HO_116000, BK115, BK116, BK117, HB⟩ := hrel
  cases gk with
  | zero => exact absurd HA.out (by simp [tapewrightref05_Zip.l0])
  | succ k1 =>
   have H := HA.out;clear HA;simp only [tapewrightref05_Zip.l0] at H
   by_cases c7 : x8_1 < (l1_1.length : Int)
   ·
    rw [if_pos c7] at H;have c7b0 := decide_eq_true c7;clear c7;replace H := BE_ H;obtain ⟨⟨t124, t125⟩, A80, H⟩ := H;have A8 := A_ A80;clear A80;replace H := BE_ H;obtain ⟨⟨t126, t127⟩, A90, H⟩ := H;have A9 := A_ A90;clear A90
    have hnb1 := NB115_116.out;have hnc1 := NB116_115.out;have hnb2 := NB115_117.out;have hnc2 := NB117_115.out;have hcz1 := CA_ BK115;have hcz2 := CB_ BK115;have hfz1 := blk_frozen BK115.out 0;have hfz2 := blk_frozen BK115.out 1
    try go_wp2
    replace HO_7 := A_ (Kd.R_drew HO_7.out);replace HO_116000 := A_ (Kd.V_drew HO_116000.out);replace BK115 := A_ (blk_drew BK115.out);replace BK116 := A_ (blk_drew BK116.out);replace BK117 := A_ (blk_drew BK117.out);replace HB := A_ (below_drew1 HB.out)
    refine start_ (n := 10) (S := fun w' => w'.cell? ⟨gb115, 0, none⟩ = some (.slice A1_0 l1_0.length c1_0) ∧ w'.cell? ⟨gb115, 1, none⟩ = some (.slice A1_1 l1_1.length c1_1) ∧ w'.cell? ⟨gb116, 0, none⟩ = some (.slice A2_0 l2_0.length c2_0) ∧ w'.cell? ⟨gb116, 1, none⟩ = some (.slice A2_1 l2_1.length c2_1)) (ds := []) #[false, false, false, false, false, false, false, false, false, false] (by kernel_rfl) rfl rfl ⟨CA_ BK115, CB_ BK115, CA_ BK116, CB_ BK116⟩ (fun hHeld => ?_); refine with_tabW tapewrightref05_Zip.tab5 tapewrightref05_Zip.bits5 (fun HT_ HW_ => ?_)
    generalize wr.drew = w16 at HO_7 HO_116000 BK115 BK116 BK117 HB hHeld ⊢
    refine PU_ 1 19 ?_;refine PU_ 4 22 ?_;refine TK_ 0 18 rfl (by rfl) (by rintro w' ⟨s0, s1, s2, s3⟩;go_simp;with_reducible rfl) hHeld ?_;refine TK_ 3 21 rfl (by rfl) (by rintro w' ⟨s0, s1, s2, s3⟩;go_simp;with_reducible rfl) hHeld ?_
    refine inv3_ HT_.out (fun s : R2 => [true, true, s.c, true, true, s.d, s.a, s.b, s.p, s.q]) (fun s : R2 => [(20, cond s.c (.agg #[.string t124, .string t125]) u20), (23, cond s.d (.agg #[.string t126, .string t127]) u23), (9, cond s.a (.pointer (some ⟨s.g, 0, none⟩)) u9), (10, cond s.b (.pointer (some ⟨s.h, 0, none⟩)) u10)]) (R2I w16 46 (.string t124) (.string t125) (.string t126) (.string t127) (.string (⟨#[]⟩ : ByteArray)) (.string (⟨#[]⟩ : ByteArray))) ⟨false, false, false, false, false, false, 0, 0⟩ rfl ?ha rfl .start ?hS ?hend ?hstep
    case ha => first | rfl | (simp only [putAll, Act.put, List.setIfInBounds_toArray, List.set_cons_zero, List.set_cons_succ]; rfl)
    case hS => exact fun s w' hI => ⟨CA_ (A_ (blk_below BK115.out hI.1)), CB_ (A_ (blk_below BK115.out hI.1)), CA_ (A_ (blk_below BK116.out hI.1)), CB_ (A_ (blk_below BK116.out hI.1))⟩
    case hstep =>
     rintro ⟨c, d, a, b, p, q, g, h⟩ w' hI i hi
     have hc := tapewrightref05_Zip.ready5 c d a b p q i hi
     have hB2 : Below w16.heap.size w16 w' := hI.1;have HB' := below_step HB.out hB2;have hV := Kd.V_reads' (Kd.V_below HO_116000.out hB2)
     rcases hc with ⟨rfl, rfl⟩ | ⟨rfl, rfl⟩ | ⟨rfl, rfl⟩ | ⟨rfl, rfl⟩ | ⟨rfl, rfl, rfl, rfl⟩ | ⟨rfl, rfl, rfl, rfl⟩
     all_goals (refine wpOp_norm (a' := ?_) ?_ ?_; rotate_left; (simp only [putAll, Act.put, List.setIfInBounds_toArray, List.set_cons_zero, List.set_cons_succ]; rfl); refine wpOp_step rfl (fun K hK => ?_))
     ·
      refine goes_ Tryz.func29 (by kernel_rfl) rfl #[.agg #[.slice A1_0 l1_0.length c1_0, .slice A1_1 l1_1.length c1_1], .int .i64 x8_1] (by rfl) rfl rfl T2_ ?_
      with_reducible refine (tapewrightref05_At.calls _ _ l1_0 _ _ l1_1 x8_1 t124 t125 _ (Err.Gs.below HGs.out HB') hV.2.2 hV.2.1 (Kd.C_below HR1_1.out HB') HC1_1.out A8.out).mono ?_
      rintro e w17 ⟨rfl, hb⟩
      exact ⟨_, rfl, hK _ _ ⟨⟨true, d, a, b, p, q, g, h⟩, rfl, (by first | rfl | (simp only [putAll, Act.put, List.setIfInBounds_toArray, List.set_cons_zero, List.set_cons_succ]; rfl) | (simp only [putAll, Act.put, List.setIfInBounds_toArray, List.set_cons_zero, List.set_cons_succ]; done)), hI.callC hb⟩⟩
     ·
      refine goes_ Tryz.func29 (by kernel_rfl) rfl #[.agg #[.slice A2_0 l2_0.length c2_0, .slice A2_1 l2_1.length c2_1], .int .i64 x8_1] (by rfl) rfl rfl T2_ ?_
      with_reducible refine (tapewrightref05_At.calls _ _ l2_0 _ _ l2_1 x8_1 t126 t127 _ (Err.Gs.below HGs.out HB') (Kd.C_below HR2_0.out HB') HC2_0.out (Kd.C_below HR2_1.out HB') HC2_1.out A9.out).mono ?_
      rintro e w17 ⟨rfl, hb⟩
      exact ⟨_, rfl, hK _ _ ⟨⟨c, true, a, b, p, q, g, h⟩, rfl, (by first | rfl | (simp only [putAll, Act.put, List.setIfInBounds_toArray, List.set_cons_zero, List.set_cons_succ]; rfl) | (simp only [putAll, Act.put, List.setIfInBounds_toArray, List.set_cons_zero, List.set_cons_succ]; done)), hI.callD hb⟩⟩
     ·
      refine box_step (by rfl) (N := 9) rfl (cs := #[.string (⟨#[]⟩ : ByteArray), .string (⟨#[]⟩ : ByteArray)]) (t := 46) T3_ ?_
      intro g' hg w17 hbox hb
      exact hK _ _ ⟨⟨c, d, true, b, p, q, g', h⟩, rfl, (by first | rfl | (simp only [putAll, Act.put, List.setIfInBounds_toArray, List.set_cons_zero, List.set_cons_succ]; rfl) | (simp only [putAll, Act.put, List.setIfInBounds_toArray, List.set_cons_zero, List.set_cons_succ]; done)), hI.boxA hg hbox hb⟩
     ·
      refine box_step (by rfl) (N := 10) rfl (cs := #[.string (⟨#[]⟩ : ByteArray), .string (⟨#[]⟩ : ByteArray)]) (t := 46) T3_ ?_
      intro g' hg w17 hbox hb
      exact hK _ _ ⟨⟨c, d, a, true, p, q, g, g'⟩, rfl, (by first | rfl | (simp only [putAll, Act.put, List.setIfInBounds_toArray, List.set_cons_zero, List.set_cons_succ]; rfl) | (simp only [putAll, Act.put, List.setIfInBounds_toArray, List.set_cons_zero, List.set_cons_succ]; done)), hI.boxB hg hbox hb⟩
     ·
      have hx : w'.heap[g]? = some (.cells #[.string (⟨#[]⟩ : ByteArray), .string (⟨#[]⟩ : ByteArray)] 46 (0, 0)) := (hI.2.2.2.1 rfl).2
      have hz1 := CA_ (A_ hx);have hz2 := CB_ (A_ hx);have hf1 := blk_frozen hx 0;have hf2 := blk_frozen hx 1
      refine skip_ (w1 := ?_) (by rfl) rfl ?_ ?_;rotate_left
      ·
       go_simp;rfl
      exact hK _ _ ⟨⟨true, d, true, b, true, q, g, h⟩, rfl, (by first | rfl | (simp only [putAll, Act.put, List.setIfInBounds_toArray, List.set_cons_zero, List.set_cons_succ]; rfl) | (simp only [putAll, Act.put, List.setIfInBounds_toArray, List.set_cons_zero, List.set_cons_succ]; done)), hI.putA⟩
     ·
      have hx : w'.heap[h]? = some (.cells #[.string (⟨#[]⟩ : ByteArray), .string (⟨#[]⟩ : ByteArray)] 46 (0, 0)) := (hI.2.2.2.2.1 rfl).2
      have hz1 := CA_ (A_ hx);have hz2 := CB_ (A_ hx);have hf1 := blk_frozen hx 0;have hf2 := blk_frozen hx 1
      refine skip_ (w1 := ?_) (by rfl) rfl ?_ ?_;rotate_left
      ·
       go_simp;rfl
      exact hK _ _ ⟨⟨c, true, a, true, p, true, g, h⟩, rfl, (by first | rfl | (simp only [putAll, Act.put, List.setIfInBounds_toArray, List.set_cons_zero, List.set_cons_succ]; rfl) | (simp only [putAll, Act.put, List.setIfInBounds_toArray, List.set_cons_zero, List.set_cons_succ]; done)), hI.putB⟩
    rintro ⟨c, d, a, b, p, q, g, h⟩ w21 hI hr
    obtain ⟨rfl, rfl, rfl, rfl, rfl, rfl⟩ := tapewrightref05_Zip.done5 c d a b p q hr
    obtain ⟨hb, -, -, h4, h5, h6⟩ := hI;have BKg : Aside0 (w21.heap[g]? = some (.cells #[.string t124, .string t125] 46 (0, 0))) := ⟨(h4 rfl).2⟩;have BKh : Aside0 (w21.heap[h]? = some (.cells #[.string t126, .string t127] 46 (0, 0))) := ⟨(h5 rfl).2⟩
    replace HO_7 : Aside0 (Kd.R k46 46 w16 w.heap.size (fun k_ => w.heap.size ≤ k_ ∧ k_ ≠ g ∧ k_ ≠ h) u7 x7_1) := A_ (Kd.R_mono (Kd.R_bound HO_7.out) (fun k hk => ⟨hk.1, Nat.ne_of_lt (Nat.lt_of_lt_of_le hk.2.2.1 (h4 rfl).1), Nat.ne_of_lt (Nat.lt_of_lt_of_le hk.2.2.1 (h5 rfl).1)⟩))
    replace HO_7 := A_ (Kd.R_below (K1_ HO_7) hb);replace HO_116000 := A_ (Kd.V_below (V1_ HO_116000) hb);replace BK115 := BF_ BK115 hb;replace BK116 := BF_ BK116 hb;replace BK117 := BF_ BK117 hb;replace HB := BU_ hb;clear hb;clear hcz1 hcz2 hfz1 hfz2 h4 h5 h6 hr hHeld
    simp only [putAll, Act.put, List.setIfInBounds_toArray, List.set_cons_zero, List.set_cons_succ]
    have hz0 := CA_ BKg;have hz1 := CB_ BKg;have hz2 := CA_ BKh;have hz3 := CB_ BKh;have hf0 := blk_frozen BKg.out 0;have hf1 := blk_frozen BKg.out 1;have hf2 := blk_frozen BKh.out 0;have hf3 := blk_frozen BKh.out 1
    by_cases c10 : a0.toList = ([97, 100, 100] : List UInt8)
    ·
     rw [if_pos c10] at H;have c10b0 : (a0.toList == ([97, 100, 100] : List UInt8)) = true := beq_iff_eq.mpr c10;have c10b1 : (a0.toList != ([97, 100, 100] : List UInt8)) = false := bne_eq_false_iff_eq.mpr c10
     replace H := BE_ H;obtain ⟨⟨ra, rb⟩, K10, H⟩ := H;have K1 := A_ K10;clear K10
     by_cases c12 : x7_1.length < 4398046511104
     case neg => rw [if_neg c12] at H;exact absurd H (by simp)
     rw [if_pos c12] at H;have LM := A_ c12;clear c12;obtain ⟨y, hy⟩ : ∃ y_ : List (S46), y_ = (x7_1 ++ [(⟨ra, rb⟩ : S46)]) := ⟨_, rfl⟩
     rw [← hy] at H;have Ny := A_ hy;clear hy;have H' := A_ H;clear H
     try go_wp2_with (first | (refine GL_ 30 36 Tryz.func30 #[.agg #[.string t124, .string t125], .agg #[.string t126, .string t127]] ?_; (with_reducible refine (tapewrightref03_Add.calls t124 t125 t126 t127 ra rb _ K1.out).mono ?_); rintro e w35 ⟨rfl, hb⟩; refine ⟨_, rfl, ?_⟩; replace HO_7 := A_ (Kd.R_below (K1_ HO_7) hb); replace HO_116000 := A_ (Kd.V_below (V1_ HO_116000) hb); replace BK115 := BF_ BK115 hb; replace BK116 := BF_ BK116 hb; replace BK117 := BF_ BK117 hb; replace BKg := BF_ BKg hb; replace BKh := BF_ BKh hb; replace HB := BU_ hb; clear hb) | ((with_reducible refine gate_builtin (b := .append) (xs := #[.tmp 33, .tmp 37]) rfl ?_); at_builtin; refine Kd.R_append k46 (w0 := w) w.heap.size rfl (.tmp 33) (.tmp 37) 50 46 (.agg #[(.string ⟨#[]⟩), (.string ⟨#[]⟩)]) 32 rfl Tryz.underlying50 info46 rfl (by decide) (by omega) u7 x7_1 (⟨ra, rb⟩ : S46) [.string ra, .string rb] (fun k_ => w.heap.size ≤ k_ ∧ k_ ≠ g ∧ k_ ≠ h) (fun _ => False) rfl rfl (k46_mkM _ _ _ (⟨ra, rb⟩ : S46)) (fun _ hk => hk.elim) (fun k_ hk => ⟨Nat.le_trans (below_size T9_) hk, Kd.freshB (g := g) (o := .cells #[.string t124, .string t125] 46 (0, 0)) (B1_ BKg.out) k_ hk, Kd.freshB (g := h) (o := .cells #[.string t126, .string t127] 46 (0, 0)) (B1_ BKh.out) k_ hk⟩) (K1_ HO_7) T9_ (below_size T9_) (by have := LM.out; omega) ?_; intro v9 w36 ho hb hg hat; rw [← Ny.out] at ho; replace HO_116000 := A_ (Kd.V_afterv (ok := (fun k_ => (P1_0_ k_ ∨ w.heap.size ≤ k_) ∧ k_ ≠ gb115 ∧ k_ ≠ gb116 ∧ k_ ≠ gb117)) (V1_ (A_ (Kd.V_mono (ok' := fun k_ => ((P1_0_ k_ ∨ w.heap.size ≤ k_) ∧ k_ ≠ gb115 ∧ k_ ≠ gb116 ∧ k_ ≠ gb117) ∧ some k_ ≠ (u7 : Value).ownBlock) HO_116000.out (fun _ hk => ⟨⟨hk.1, hk.2.2⟩, hk.2.1⟩)))) hg hat); replace BK115 := A_ (blk_grown (B1_ BK115.out) hg (Kd.R_ne HO_7.out BK115.out (by decide))); replace BK116 := A_ (blk_grown (B1_ BK116.out) hg (Kd.R_ne HO_7.out BK116.out (by decide))); replace BK117 := A_ (blk_grown (B1_ BK117.out) hg (Kd.R_ne HO_7.out BK117.out (by decide))); replace HB := A_ hb; replace HO_7 := A_ ho; clear ho hb hg hat))
     go_roundg k1
     case measure => have := HK1.out; omega
     case rel => exact ⟨y, (wrap64 (x8_1 + 1)), S1_, H', ⟨by have := HK1.out; omega⟩, ⟨K1_ (A_ (Kd.R_mono (ok' := fun k_ => w.heap.size ≤ k_) HO_7.out (fun _ hk => hk.1)))⟩, ⟨V1_ (A_ (Kd.V_mono (ok' := fun k_ => (P1_0_ k_ ∨ w.heap.size ≤ k_) ∧ some k_ ≠ (v9 : Value).ownBlock ∧ k_ ≠ gb115 ∧ k_ ≠ gb116 ∧ k_ ≠ gb117) HO_116000.out (fun _ hk => ⟨hk.1.1, hk.2, hk.1.2⟩)))⟩, BW_ BK115, BW_ BK116, BW_ BK117, ⟨T9_⟩⟩
    ·
     rw [if_neg c10] at H;have c10b0 : (a0.toList == ([97, 100, 100] : List UInt8)) = false := beq_eq_false_iff_ne.mpr c10;have c10b1 : (a0.toList != ([97, 100, 100] : List UInt8)) = true := bne_iff_ne.mpr c10
     by_cases c37 : a0.toList = ([115, 117, 98] : List UInt8)
     ·
      rw [if_pos c37] at H;have c37b0 : (a0.toList == ([115, 117, 98] : List UInt8)) = true := beq_iff_eq.mpr c37;have c37b1 : (a0.toList != ([115, 117, 98] : List UInt8)) = false := bne_eq_false_iff_eq.mpr c37
      replace H := BE_ H;obtain ⟨⟨na, nb⟩, K10, H⟩ := H;have K1 := A_ K10;clear K10;replace H := BE_ H;obtain ⟨⟨ra, rb⟩, K20, H⟩ := H;have K2 := A_ K20;clear K20
      by_cases c12 : x7_1.length < 4398046511104
      case neg => rw [if_neg c12] at H;exact absurd H (by simp)
      rw [if_pos c12] at H;have LM := A_ c12;clear c12;obtain ⟨y, hy⟩ : ∃ y_ : List (S46), y_ = (x7_1 ++ [(⟨ra, rb⟩ : S46)]) := ⟨_, rfl⟩
      rw [← hy] at H;have Ny := A_ hy;clear hy;have H' := A_ H;clear H
      try go_wp2
      replace HO_7 := A_ (Kd.R_drew HO_7.out);replace HO_116000 := A_ (Kd.V_drew HO_116000.out);replace BK115 := A_ (blk_drew BK115.out);replace BK116 := A_ (blk_drew BK116.out);replace BK117 := A_ (blk_drew BK117.out);replace BKg := A_ (blk_drew BKg.out);replace BKh := A_ (blk_drew BKh.out);replace HB := A_ (below_drew1 HB.out)
      clear hz0 hz1 hz2 hz3 hf0 hf1 hf2 hf3
      refine start_ (n := 8) (S := fun w' => w'.cell? ⟨g, 0, none⟩ = some (.string t124) ∧ w'.cell? ⟨g, 1, none⟩ = some (.string t125) ∧ w'.cell? ⟨h, 0, none⟩ = some (.string t126) ∧ w'.cell? ⟨h, 1, none⟩ = some (.string t127)) (ds := []) #[false, false, false, false, false, false, false, false] (by kernel_rfl) rfl rfl ⟨CA_ BKg, CB_ BKg, CA_ BKh, CB_ BKh⟩ (fun hHeld => ?_); refine with_tabW tapewrightref05_Zip.tab11 tapewrightref05_Zip.bits11 (fun HT_ HW_ => ?_);generalize w21.drew = w55 at HO_7 HO_116000 BK115 BK116 BK117 BKg BKh HB hHeld ⊢
      refine PU_ 0 41 ?_;refine TK_ 1 42 rfl (by rfl) (by rintro w' ⟨s0, s1, s2, s3⟩;go_simp;with_reducible rfl) hHeld ?_;refine TK_ 2 43 rfl (by rfl) (by rintro w' ⟨s0, s1, s2, s3⟩;go_simp;with_reducible rfl) hHeld ?_
      refine one_ (i := 3) (N := some 44) #[true, true, true, true, false, false, false, false] rfl rfl (one_of HT_.out (by kernel_rfl)) (by decide) (fun K hK => ?_);refine goes_ Tryz.func44 (by kernel_rfl) rfl #[.agg #[.string t126, .string t127]] (by rfl) rfl rfl T2_ ?_
      with_reducible refine (tapewrightref03_Neg.calls t126 t127 na nb _ K1.out).mono ?_
      rintro e w59 ⟨rfl, hb⟩;refine ⟨_, rfl, ?_⟩;replace HO_7 := A_ (Kd.R_below (K1_ HO_7) hb);replace HO_116000 := A_ (Kd.V_below (V1_ HO_116000) hb);replace BK115 := BF_ BK115 hb;replace BK116 := BF_ BK116 hb;replace BK117 := BF_ BK117 hb;replace BKg := BF_ BKg hb;replace BKh := BF_ BKh hb;replace HB := BU_ hb;clear hb
      refine hK.out _ _ ⟨CA_ BKg, CB_ BKg, CA_ BKh, CB_ BKh⟩ (fun hHeld => ?_);clear hK K
      refine norm_ (a' := ?_) ?_ ?_;rotate_left
      ·
       show Act.put _ (some 44) _ = _
       simp only [Act.put, List.setIfInBounds_toArray, List.set_cons_zero, List.set_cons_succ, i64_w, i32_w];rfl
      refine one_ (i := 4) (N := some 45) #[true, true, true, true, true, false, false, false] rfl rfl (one_of HT_.out (by kernel_rfl)) (by decide) (fun K hK => ?_);refine goes_ Tryz.func30 (by kernel_rfl) rfl #[.agg #[.string t124, .string t125], .agg #[.string na, .string nb]] (by rfl) rfl rfl T2_ ?_
      with_reducible refine (tapewrightref03_Add.calls t124 t125 na nb ra rb _ K2.out).mono ?_
      rintro e w60 ⟨rfl, hb⟩;refine ⟨_, rfl, ?_⟩;replace HO_7 := A_ (Kd.R_below (K1_ HO_7) hb);replace HO_116000 := A_ (Kd.V_below (V1_ HO_116000) hb);replace BK115 := BF_ BK115 hb;replace BK116 := BF_ BK116 hb;replace BK117 := BF_ BK117 hb;replace BKg := BF_ BKg hb;replace BKh := BF_ BKh hb;replace HB := BU_ hb;clear hb
      refine hK.out _ _ ⟨CA_ BKg, CB_ BKg, CA_ BKh, CB_ BKh⟩ (fun hHeld => ?_);clear hK K
      refine norm_ (a' := ?_) ?_ ?_;rotate_left
      ·
       show Act.put _ (some 45) _ = _
       simp only [Act.put, List.setIfInBounds_toArray, List.set_cons_zero, List.set_cons_succ, i64_w, i32_w];rfl
      refine one_ (i := 5) (N := some 46) #[true, true, true, true, true, true, false, false] rfl rfl (one_of HT_.out (by kernel_rfl)) (by decide) (fun K hK => ?_);refine value_ (w1 := ?_) (v := ?_) (by rfl) rfl ?_ ?_;rotate_left 2
      ·
       go_simp;constructor
       ·
        rfl
       ·
        rfl
      refine hK.out _ _ ⟨CA_ (A_ (blk_alloc BKg.out _)), CB_ (A_ (blk_alloc BKg.out _)), CA_ (A_ (blk_alloc BKh.out _)), CB_ (A_ (blk_alloc BKh.out _))⟩ (fun hHeld => ?_);clear hK K
      refine norm_ (a' := ?_) ?_ ?_;rotate_left
      ·
       show Act.put _ (some 46) _ = _
       simp only [Act.put, List.setIfInBounds_toArray, List.set_cons_zero, List.set_cons_succ, i64_w, i32_w];rfl
      refine one_ (i := 6) (N := some 47) #[true, true, true, true, true, true, true, false] rfl rfl (one_of HT_.out (by kernel_rfl)) (by decide) (fun K hK => ?_);refine Kd.R_append_step k46 (w0 := w) w.heap.size (by rfl) (.tmp 41) (.tmp 46) 50 46 (.agg #[(.string ⟨#[]⟩), (.string ⟨#[]⟩)]) 32 rfl Tryz.underlying50 info46 rfl (by decide) (by omega) u7 x7_1 (⟨ra, rb⟩ : S46) [.string ra, .string rb] (fun k_ => w.heap.size ≤ k_ ∧ k_ ≠ g ∧ k_ ≠ h) (fun _ => False) rfl rfl (k46_mkM _ _ _ (⟨ra, rb⟩ : S46)) (fun _ hk => hk.elim) (fun k_ hk => ⟨Nat.le_trans (below_size T9_) hk, Kd.freshB (g := g) (o := .cells #[.string t124, .string t125] 46 (0, 0)) (B1_ BKg.out) k_ hk, Kd.freshB (g := h) (o := .cells #[.string t126, .string t127] 46 (0, 0)) (B1_ BKh.out) k_ hk⟩) (K1_ HO_7) T9_ (below_size T9_) (by have := LM.out; omega) ?_
      intro v9 w36 ho hb hg hat; rw [← Ny.out] at ho; replace HO_116000 := A_ (Kd.V_afterv (ok := (fun k_ => (P1_0_ k_ ∨ w.heap.size ≤ k_) ∧ k_ ≠ gb115 ∧ k_ ≠ gb116 ∧ k_ ≠ gb117)) (V1_ (A_ (Kd.V_mono (ok' := fun k_ => ((P1_0_ k_ ∨ w.heap.size ≤ k_) ∧ k_ ≠ gb115 ∧ k_ ≠ gb116 ∧ k_ ≠ gb117) ∧ some k_ ≠ (u7 : Value).ownBlock) HO_116000.out (fun _ hk => ⟨⟨hk.1, hk.2.2⟩, hk.2.1⟩)))) hg hat); replace BK115 := A_ (blk_grown (B1_ BK115.out) hg (Kd.R_ne HO_7.out BK115.out (by decide))); replace BK116 := A_ (blk_grown (B1_ BK116.out) hg (Kd.R_ne HO_7.out BK116.out (by decide))); replace BK117 := A_ (blk_grown (B1_ BK117.out) hg (Kd.R_ne HO_7.out BK117.out (by decide))); replace BKg := A_ (blk_grown (B1_ BKg.out) hg (Kd.R_away HO_7.out (fun _ hk => hk.2.1))); replace BKh := A_ (blk_grown (B1_ BKh.out) hg (Kd.R_away HO_7.out (fun _ hk => hk.2.2))); replace HB := A_ hb; replace HO_7 := A_ ho; clear ho hb hg hat
      refine hK.out _ _ ⟨CA_ BKg, CB_ BKg, CA_ BKh, CB_ BKh⟩ (fun hHeld => ?_);clear hK K
      refine norm_ (a' := ?_) ?_ ?_;rotate_left
      ·
       show Act.put _ (some 47) _ = _
       simp only [Act.put, List.setIfInBounds_toArray, List.set_cons_zero, List.set_cons_succ, i64_w, i32_w];rfl
      refine PU_ 7 7 ?_
      refine done_ (done_of HT_.out (by kernel_rfl)) ?_
      try go_wp2
      go_roundg k1
      case measure => have := HK1.out; omega
      case rel => exact ⟨y, (wrap64 (x8_1 + 1)), S1_, H', ⟨by have := HK1.out; omega⟩, ⟨K1_ (A_ (Kd.R_mono (ok' := fun k_ => w.heap.size ≤ k_) HO_7.out (fun _ hk => hk.1)))⟩, ⟨V1_ (A_ (Kd.V_mono (ok' := fun k_ => (P1_0_ k_ ∨ w.heap.size ≤ k_) ∧ some k_ ≠ (v9 : Value).ownBlock ∧ k_ ≠ gb115 ∧ k_ ≠ gb116 ∧ k_ ≠ gb117) HO_116000.out (fun _ hk => ⟨hk.1.1, hk.2, hk.1.2⟩)))⟩, BW_ BK115, BW_ BK116, BW_ BK117, ⟨T9_⟩⟩
     ·
      rw [if_neg c37] at H;have c37b0 : (a0.toList == ([115, 117, 98] : List UInt8)) = false := beq_eq_false_iff_ne.mpr c37;have c37b1 : (a0.toList != ([115, 117, 98] : List UInt8)) = true := bne_iff_ne.mpr c37
      replace H := BE_ H;obtain ⟨⟨ra, rb⟩, K10, H⟩ := H;have K1 := A_ K10;clear K10
      by_cases c12 : x7_1.length < 4398046511104
      case neg => rw [if_neg c12] at H;exact absurd H (by simp)
      rw [if_pos c12] at H;have LM := A_ c12;clear c12;obtain ⟨y, hy⟩ : ∃ y_ : List (S46), y_ = (x7_1 ++ [(⟨ra, rb⟩ : S46)]) := ⟨_, rfl⟩
      rw [← hy] at H;have Ny := A_ hy;clear hy;have H' := A_ H;clear H
      try go_wp2_with (first | (refine GL_ 31 28 Tryz.func31 #[.agg #[.string t124, .string t125], .agg #[.string t126, .string t127]] ?_; (with_reducible refine (tapewrightref03_Mul.calls t124 t125 t126 t127 ra rb _ K1.out).mono ?_); rintro e w35 ⟨rfl, hb⟩; refine ⟨_, rfl, ?_⟩; replace HO_7 := A_ (Kd.R_below (K1_ HO_7) hb); replace HO_116000 := A_ (Kd.V_below (V1_ HO_116000) hb); replace BK115 := BF_ BK115 hb; replace BK116 := BF_ BK116 hb; replace BK117 := BF_ BK117 hb; replace BKg := BF_ BKg hb; replace BKh := BF_ BKh hb; replace HB := BU_ hb; clear hb) | ((with_reducible refine gate_builtin (b := .append) (xs := #[.tmp 25, .tmp 29]) rfl ?_); at_builtin; refine Kd.R_append k46 (w0 := w) w.heap.size rfl (.tmp 25) (.tmp 29) 50 46 (.agg #[(.string ⟨#[]⟩), (.string ⟨#[]⟩)]) 32 rfl Tryz.underlying50 info46 rfl (by decide) (by omega) u7 x7_1 (⟨ra, rb⟩ : S46) [.string ra, .string rb] (fun k_ => w.heap.size ≤ k_ ∧ k_ ≠ g ∧ k_ ≠ h) (fun _ => False) rfl rfl (k46_mkM _ _ _ (⟨ra, rb⟩ : S46)) (fun _ hk => hk.elim) (fun k_ hk => ⟨Nat.le_trans (below_size T9_) hk, Kd.freshB (g := g) (o := .cells #[.string t124, .string t125] 46 (0, 0)) (B1_ BKg.out) k_ hk, Kd.freshB (g := h) (o := .cells #[.string t126, .string t127] 46 (0, 0)) (B1_ BKh.out) k_ hk⟩) (K1_ HO_7) T9_ (below_size T9_) (by have := LM.out; omega) ?_; intro v9 w36 ho hb hg hat; rw [← Ny.out] at ho; replace HO_116000 := A_ (Kd.V_afterv (ok := (fun k_ => (P1_0_ k_ ∨ w.heap.size ≤ k_) ∧ k_ ≠ gb115 ∧ k_ ≠ gb116 ∧ k_ ≠ gb117)) (V1_ (A_ (Kd.V_mono (ok' := fun k_ => ((P1_0_ k_ ∨ w.heap.size ≤ k_) ∧ k_ ≠ gb115 ∧ k_ ≠ gb116 ∧ k_ ≠ gb117) ∧ some k_ ≠ (u7 : Value).ownBlock) HO_116000.out (fun _ hk => ⟨⟨hk.1, hk.2.2⟩, hk.2.1⟩)))) hg hat); replace BK115 := A_ (blk_grown (B1_ BK115.out) hg (Kd.R_ne HO_7.out BK115.out (by decide))); replace BK116 := A_ (blk_grown (B1_ BK116.out) hg (Kd.R_ne HO_7.out BK116.out (by decide))); replace BK117 := A_ (blk_grown (B1_ BK117.out) hg (Kd.R_ne HO_7.out BK117.out (by decide))); replace HB := A_ hb; replace HO_7 := A_ ho; clear ho hb hg hat))
      go_roundg k1
      case measure => have := HK1.out; omega
      case rel => exact ⟨y, (wrap64 (x8_1 + 1)), S1_, H', ⟨by have := HK1.out; omega⟩, ⟨K1_ (A_ (Kd.R_mono (ok' := fun k_ => w.heap.size ≤ k_) HO_7.out (fun _ hk => hk.1)))⟩, ⟨V1_ (A_ (Kd.V_mono (ok' := fun k_ => (P1_0_ k_ ∨ w.heap.size ≤ k_) ∧ some k_ ≠ (v9 : Value).ownBlock ∧ k_ ≠ gb115 ∧ k_ ≠ gb116 ∧ k_ ≠ gb117) HO_116000.out (fun _ hk => ⟨hk.1.1, hk.2, hk.1.2⟩)))⟩, BW_ BK115, BW_ BK116, BW_ BK117, ⟨T9_⟩⟩
   ·
    rw [if_neg c7] at H;have c7b0 := decide_eq_false c7;clear c7;replace H := BE_ H;obtain ⟨⟨t118, t121⟩, A850, H⟩ := H;have A85 := A_ A850;clear A850;simp only [Option.some.injEq, Prod.mk.injEq] at H;obtain ⟨rfl, rfl⟩ := H;have hnb86 := NB115_116.out;have hnc86 := NB116_115.out;have hnb87 := NB115_117.out;have hnc87 := NB117_115.out;have hcz88_0 := CA_ BK115;have hcz88_1 := CB_ BK115;have hfz88_0 := blk_frozen BK115.out 0;have hfz88_1 := blk_frozen BK115.out 1;obtain ⟨Ao89, co89, eo89⟩ := Kd.R_slice HO_7.out;subst eo89
    go_wp2_with (first | (refine GL_ 28 51 Tryz.func28 #[.slice A1_0 l1_0.length c1_0, .slice Ao89 x7_1.length co89] ?_; (with_reducible refine (tapewrightref05_Of.calls k1 (fun k_ => ((P1_0_ k_ ∨ w.heap.size ≤ k_) ∧ (some k_ ≠ (.slice Ao89 x7_1.length co89 : Value).ownBlock ∧ (k_ ≠ gb115 ∧ (k_ ≠ gb116 ∧ k_ ≠ gb117))))) _ _ l1_0 _ _ x7_1 t118 t121 _ (Err.Gs.below HGs.out T9_) HO_116000.out (C1_ (Kd.R_reads' HO_7.out).2.2) ((Kd.R_reads' HO_7.out).2.1) A85.out).mono ?_); rintro e w90 ⟨v119, v122, rfl, ho0, ho1, hb⟩; refine ⟨_, rfl, ?_⟩; replace HO_116000 := A_ (Kd.V_elder' (by (with_reducible repeat (first | apply Kd.V_alloc | apply Kd.V_drewN | apply Kd.V_drew)); exact HO_116000.out) (Kd.R_base ho1) hb); have HO120 := A_ (Kd.V_lower (Kd.V_mono (ok' := fun k_ => (P1_0_ k_ ∨ w.heap.size ≤ k_) ∧ some k_ ≠ (v122 : Value).ownBlock ∧ some k_ ≠ (.slice Ao89 x7_1.length co89 : Value).ownBlock ∧ k_ ≠ gb115 ∧ k_ ≠ gb116 ∧ k_ ≠ gb117) ho0 (fun k_ hk_ => ⟨Or.elim hk_.1 (fun hs_ => hs_.1) (fun hn_ => (.inr (Nat.le_trans (below_size T9_) hn_))), hk_.2, Or.elim hk_.1 (fun hs_ => hs_.2.1) (fun hn_ => (Kd.fresh' (Kd.R_lt (K1_ HO_7)) k_ hn_)), Or.elim hk_.1 (fun hs_ => hs_.2.2.1) (fun hn_ => (Kd.freshB (g := gb115) (o := .cells #[.slice A1_0 l1_0.length c1_0, .slice A1_1 l1_1.length c1_1] 25 (0, 0)) (B1_ BK115.out) k_ hn_)), Or.elim hk_.1 (fun hs_ => hs_.2.2.2.1) (fun hn_ => (Kd.freshB (g := gb116) (o := .cells #[.slice A2_0 l2_0.length c2_0, .slice A2_1 l2_1.length c2_1] 25 (0, 0)) (B1_ BK116.out) k_ hn_)), Or.elim hk_.1 (fun hs_ => hs_.2.2.2.2) (fun hn_ => (Kd.freshB (g := gb117) (o := .cells #[.slice none 0 0, .slice none 0 0] 25 (0, 0)) (B1_ BK117.out) k_ hn_))⟩)) (below_size T9_)); replace HO_7 := A_ (Kd.R_below (K1_ HO_7) hb); have HO123 := A_ (Kd.R_lower (Kd.R_newM (M := fun k_ => (w.heap.size ≤ k_)) (Kd.R_mono (ok' := fun k_ => True) ho1 (fun _ hk_ => trivial)) (below_size T9_) (fun k_ h_ => h_)) (below_size T9_)); replace BK115 := BF_ BK115 hb; replace BK116 := BF_ BK116 hb; replace BK117 := BF_ BK117 hb; replace HB := BU_ hb; clear hb ho0 ho1; obtain ⟨Ao91, co91, eo91⟩ := Kd.V_slice HO120.out; subst eo91; have hnb92 := NB117_116.out; have hnc92 := NB116_117.out; have hcz93_0 := CA_ BK117; have hcz93_1 := CB_ BK117; have hfz93_0 := blk_frozen BK117.out 0; have hfz93_1 := blk_frozen BK117.out 1; obtain ⟨Ao94, co94, eo94⟩ := Kd.R_slice HO123.out; subst eo94))
    refine bodyPost_ret (results_cell_row rfl _ _ gb117 25 #[.slice Ao91 t118.length co91, .slice Ao94 t121.length co94] (0, 0) _ rfl (by (with_reducible repeat (first | refine blk_drewN ?_ _ | refine blk_drew ?_ | refine blk_alloc ?_ _)); refine blk_put (cs := #[.slice Ao91 t118.length co91, .slice none 0 0]) ?_ 1 _ rfl; (with_reducible repeat (first | refine blk_drewN ?_ _ | refine blk_drew ?_ | refine blk_alloc ?_ _)); refine blk_put (cs := #[.slice none 0 0, .slice none 0 0]) ?_ 0 _ rfl; (with_reducible repeat (first | refine blk_drewN ?_ _ | refine blk_drew ?_ | refine blk_alloc ?_ _)); exact BK117.out) Tryz.underlying25 rfl (by kernel_rfl)) rfl ?_;exact ⟨_, _, by first | rfl | (simp [errW_none, errW_some] <;> rfl) | (simp [*, errW_none, errW_some] <;> rfl), by (with_reducible repeat (first | apply Kd.V_alloc | apply Kd.V_drewN | apply Kd.V_drew)); exact Kd.V_mono (Kd.V_far (p := ⟨gb117, 1, none⟩) (Kd.V_far (p := ⟨gb117, 0, none⟩) (Kd.V_mono HO120.out (fun k_ hk => (⟨hk, hk.2.2.2.2.2⟩ : _ ∧ k_ ≠ gb117))) (fun _ hk => hk.2) (.slice Ao91 t118.length co91)) (fun _ hk => hk.2) (.slice Ao94 t121.length co94)) (fun _ hk => ⟨hk.1.1, hk.1.2.1⟩), by (with_reducible repeat (first | apply Kd.R_alloc | apply Kd.R_drewN | apply Kd.R_drew)); exact Kd.R_mono (Kd.R_far (p := ⟨gb117, 1, none⟩) (Kd.R_far (p := ⟨gb117, 0, none⟩) (Kd.R_types HO123.out BK117.out (by decide)) (fun _ hk => hk.2) (.slice Ao91 t118.length co91)) (fun _ hk => hk.2) (.slice Ao94 t121.length co94)) (fun _ hk => hk.1.1), T9_⟩
end Go.Proofs.YtlglpffoijdgbaaGreatDoor.PQZ
