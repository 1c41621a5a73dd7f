-- by wip/tool/mine.py of this repo (the kit's printer with given contracts)
import Derived.Test.YtndkjpkgllmbnaaGreatDoorProg
import Derived.Test.YtndkjpkgllmbnaaGreatDoorWd
import Derived.Below
import Derived.Deep.Draws
import Derived.Deep.AppendLies
import Derived.Maps.AppendAt
import Derived.OwnWalk
import Derived.Laws.BytesArg
import Derived.Laws.MakeOwn
import Derived.Laws.OwnMore
import Derived.Deep.OwnRows
import Derived.Tactics
import Derived.Lib.ConvBytes
import Derived.Laws.Slices
import Derived.WalkKit
import Derived.KernelRfl
import Derived.RowKit3
import Derived.Deep.LoopGhost
import Derived.Deep.QuietTactic
import Derived.BigQuiet
import Derived.WideLaws
import Derived.Deep.DeepCutAuto
import Derived.Deep.CutBlock
import Derived.Deep.RegionHeld3
import Derived.Laws.Rows
import Derived.Lib.AppendStr
import Derived.ArgAppend
import Derived.Laws.IdiomCopy
import Derived.OrdersHeld
import Derived.Laws.BitsLemmas
import Derived.RowKit
import Derived.Test.YtndkjpkgllmbnaaGreatDoorMine
import Derived.Test.YtndkjpkgllmbnaaGreatDoorPureAwW
import Derived.Test.YtndkjpkgllmbnaaGreatDoorKinW
import Derived.Test.YtndkjpkgllmbnaaGreatDoorKinF
import Derived.Test.YtndkjpkgllmbnaaGreatDoorTenZ
import Derived.Test.YtndkjpkgllmbnaaGreatDoorTenU
namespace Go.Proofs.YtndkjpkgllmbnaaGreatDoor.PQG
open Go.RowKit Go.Proofs.YtndkjpkgllmbnaaGreatDoorW.PrintWords Go.Proofs.YtndkjpkgllmbnaaGreatDoorW.PrintLast Go.Proofs.YtndkjpkgllmbnaaGreatDoorW.PrintMore
attribute [local go_sem] max2_int min2_int max_two min_two max_three min_three max_four min_four   -- for this text's walks alone
set_option linter.unusedVariables false
set_option linter.unusedSimpArgs false
set_option maxHeartbeats 8000000
set_option maxRecDepth 100000
def errW : Option Int → Value
 | none => .nilIface
 | some c => .iface 0 (.int .i64 c)
theorem errW_none : errW none = .nilIface := rfl
theorem errW_some (c : Int) : errW (some c) = .iface 0 (.int .i64 c) := rfl
theorem info5 : (Tryz.prog.info? 5).map (fun i => (i.zero, i.size, i.bytes)) = some (some (.int .u8 0), 1, 1) := by kernel_rfl
/-! ### tapewrightref05_Small: function 11 -/
noncomputable def tapewrightref05_Small.f (l0_0 : List Int) (l0_1 : List ByteArray) : Option Bool := some (Ten.small ⟨l0_0, l0_1⟩)
theorem tapewrightref05_Small.calls (A0_0 : Option Addr) (c0_0 : Nat) (l0_0 : List Int) (A0_1 : Option Addr) (c0_1 : Nat) (l0_1 : List ByteArray) (r : Bool) (w : World) (hr0_0 : Kd.C (Kd.int .i64) w A0_0 l0_0.length l0_0) (hc0_0 : l0_0.length ≤ c0_0) (hr0_1 : Kd.C Kd.string w A0_1 l0_1.length l0_1) (hc0_1 : l0_1.length ≤ c0_1) (h : tapewrightref05_Small.f l0_0 l0_1 = some r) :
  Calls Tryz.prog 11 #[.agg #[.slice A0_0 l0_0.length c0_0, .slice A0_1 l0_1.length c0_1]] w fun e w' => e = .returned (.bool r) ∧ Below w.heap.size w w' := by
 obtain rfl := Option.some.inj h;obtain ⟨k, hk⟩ := (Ten.small_ev ⟨l0_0, l0_1⟩).rounds;exact PV.tapewrightref05_Small.calls k _ _ l0_0 _ _ l0_1 _ w hr0_0 hc0_0 hr0_1 hc0_1 hk
/-! ### tapewrightlaw07_awake: function 12 -/
noncomputable def tapewrightlaw07_awake.f : Option Bool := some true
theorem tapewrightlaw07_awake.calls (r : Bool) (w : World) (hG : Err.Gs w) (h : tapewrightlaw07_awake.f = some r) :
  Calls Tryz.prog 12 #[] w fun e w' => e = .returned (.bool r) ∧ Below w.heap.size w w' := by
 obtain rfl := Option.some.inj h;exact Pure.awake_calls w hG
/-! ### tensor_Zip: function 16 -/
open Classical in
noncomputable def tensor_Zip.f (a0 : ByteArray) (l1_0 : List Int) (l1_1 : List ByteArray) (l2_0 : List Int) (l2_1 : List ByteArray) : Option (List Int × List ByteArray × Int) := if Ten.Sm l1_0 l1_1 ∧ Ten.Sm l2_0 l2_1 then some ((Ten.tZip a0 ⟨l1_0, l1_1⟩ ⟨l2_0, l2_1⟩).1.s, (Ten.tZip a0 ⟨l1_0, l1_1⟩ ⟨l2_0, l2_1⟩).1.d, (Ten.tZip a0 ⟨l1_0, l1_1⟩ ⟨l2_0, l2_1⟩).2) else none
theorem tensor_Zip.calls (a0 : ByteArray) (A1_0 : Option Addr) (c1_0 : Nat) (l1_0 : List Int) (A1_1 : Option Addr) (c1_1 : Nat) (l1_1 : List ByteArray) (A2_0 : Option Addr) (c2_0 : Nat) (l2_0 : List Int) (A2_1 : Option Addr) (c2_1 : Nat) (l2_1 : List ByteArray) (r1 : List Int) (r2 : List ByteArray) (r3 : Int) (w : World) (hG : Err.Gs w) (hr1_0 : Kd.C (Kd.int .i64) w A1_0 l1_0.length l1_0) (hc1_0 : l1_0.length ≤ c1_0) (hr1_1 : Kd.C Kd.string w A1_1 l1_1.length l1_1) (hc1_1 : l1_1.length ≤ c1_1) (hr2_0 : Kd.C (Kd.int .i64) w A2_0 l2_0.length l2_0) (hc2_0 : l2_0.length ≤ c2_0) (hr2_1 : Kd.C Kd.string w A2_1 l2_1.length l2_1) (hc2_1 : l2_1.length ≤ c2_1) (h : tensor_Zip.f a0 l1_0 l1_1 l2_0 l2_1 = some (r1, r2, r3)) :
  Calls Tryz.prog 16 #[.string a0, .agg #[.slice A1_0 l1_0.length c1_0, .slice A1_1 l1_1.length c1_1], .agg #[.slice A2_0 l2_0.length c2_0, .slice A2_1 l2_1.length c2_1]] w fun e w' => ∃ v0_ v1_ : Value, e = .returned (.tuple #[.agg #[v0_, v1_], .int .i64 r3]) ∧ Kd.R (Kd.int .i64) 3 w' w.heap.size (fun _ => True) v0_ r1 ∧ Kd.R Kd.string 9 w' w.heap.size (fun _ => True) v1_ r2 ∧ Below w.heap.size w w' := by
 unfold tensor_Zip.f at h
 split at h
 ·
  rename_i hl
  injection h with h;injection h with h1 h2;injection h2 with h2 h3;subst h1 h2 h3;exact Ten.zip_calls a0 A1_0 c1_0 A1_1 c1_1 l1_0 l1_1 A2_0 c2_0 A2_1 c2_1 l2_0 l2_1 w hG hr1_0 hc1_0 hr1_1 hl.1 hr2_0 hc2_0 hr2_1 hl.2
 ·
  cases h
theorem tensor_Zip.of (op : ByteArray) (s : List Int) (d : List ByteArray) (s2 : List Int) (d2 : List ByteArray) (h : Ten.Sm s d) (h' : Ten.Sm s2 d2) : tensor_Zip.f op s d s2 d2 = some ((Ten.tZip op ⟨s, d⟩ ⟨s2, d2⟩).1.s, (Ten.tZip op ⟨s, d⟩ ⟨s2, d2⟩).1.d, (Ten.tZip op ⟨s, d⟩ ⟨s2, d2⟩).2) := by rw [tensor_Zip.f, if_pos ⟨h, h'⟩]
/-! ### tapewrightref05_Equal: function 19 -/
noncomputable def tapewrightref05_Equal.f (l0_0 : List Int) (l0_1 : List ByteArray) (l1_0 : List Int) (l1_1 : List ByteArray) : Option Bool := if l0_0.length ≤ 1000000 ∧ l0_1.length ≤ 1000000 then some (decide (l0_0 = l1_0 ∧ l0_1 = l1_1)) else none
theorem tapewrightref05_Equal.calls (A0_0 : Option Addr) (c0_0 : Nat) (l0_0 : List Int) (A0_1 : Option Addr) (c0_1 : Nat) (l0_1 : List ByteArray) (A1_0 : Option Addr) (c1_0 : Nat) (l1_0 : List Int) (A1_1 : Option Addr) (c1_1 : Nat) (l1_1 : List ByteArray) (r : Bool) (w : World) (hr0_0 : Kd.C (Kd.int .i64) w A0_0 l0_0.length l0_0) (hc0_0 : l0_0.length ≤ c0_0) (hr0_1 : Kd.C Kd.string w A0_1 l0_1.length l0_1) (hc0_1 : l0_1.length ≤ c0_1) (hr1_0 : Kd.C (Kd.int .i64) w A1_0 l1_0.length l1_0) (hc1_0 : l1_0.length ≤ c1_0) (hr1_1 : Kd.C Kd.string w A1_1 l1_1.length l1_1) (hc1_1 : l1_1.length ≤ c1_1) (h : tapewrightref05_Equal.f l0_0 l0_1 l1_0 l1_1 = some r) :
  Calls Tryz.prog 19 #[.agg #[.slice A0_0 l0_0.length c0_0, .slice A0_1 l0_1.length c0_1], .agg #[.slice A1_0 l1_0.length c1_0, .slice A1_1 l1_1.length c1_1]] w fun e w' => e = .returned (.bool r) ∧ Below w.heap.size w w' := by
 unfold tapewrightref05_Equal.f at h
 split at h
 ·
  rename_i hl
  injection h with h;subst h;obtain ⟨k, hk⟩ := (Ten.equal_ev ⟨l0_0, l0_1⟩ ⟨l1_0, l1_1⟩ hl.1 hl.2).rounds;exact PV.tapewrightref05_Equal.calls k _ _ l0_0 _ _ l0_1 _ _ l1_0 _ _ l1_1 _ w hr0_0 hc0_0 hr0_1 hc0_1 hr1_0 hc1_0 hr1_1 hc1_1 hk
 ·
  cases h
theorem tapewrightref05_Equal.of (s : List Int) (d : List ByteArray) (s2 : List Int) (d2 : List ByteArray) (h : s.length ≤ 1000000 ∧ d.length ≤ 1000000) : tapewrightref05_Equal.f s d s2 d2 = some (decide (s = s2 ∧ d = d2)) := by rw [tapewrightref05_Equal.f, if_pos h]
/-! ### kink_Step: function 20 -/
open Classical in
noncomputable def kink_Step.f (l0_0 : List Int) (l0_1 : List ByteArray) : Option (List Int × List ByteArray × Int) := if Ten.Sm l0_0 l0_1 then some ((Ten.tEach 1 ⟨l0_0, l0_1⟩).1.s, (Ten.tEach 1 ⟨l0_0, l0_1⟩).1.d, (Ten.tEach 1 ⟨l0_0, l0_1⟩).2) else none
theorem kink_Step.calls (A0_0 : Option Addr) (c0_0 : Nat) (l0_0 : List Int) (A0_1 : Option Addr) (c0_1 : Nat) (l0_1 : List ByteArray) (r1 : List Int) (r2 : List ByteArray) (r3 : Int) (w : World) (hG : Err.Gs w) (hr0_0 : Kd.C (Kd.int .i64) w A0_0 l0_0.length l0_0) (hc0_0 : l0_0.length ≤ c0_0) (hr0_1 : Kd.C Kd.string w A0_1 l0_1.length l0_1) (hc0_1 : l0_1.length ≤ c0_1) (h : kink_Step.f l0_0 l0_1 = some (r1, r2, r3)) :
  Calls Tryz.prog 20 #[.agg #[.slice A0_0 l0_0.length c0_0, .slice A0_1 l0_1.length c0_1]] w fun e w' => ∃ v0_ v1_ : Value, e = .returned (.tuple #[.agg #[v0_, v1_], .int .i64 r3]) ∧ Kd.R (Kd.int .i64) 3 w' w.heap.size (fun _ => True) v0_ r1 ∧ Kd.R Kd.string 9 w' w.heap.size (fun _ => True) v1_ r2 ∧ Below w.heap.size w w' := by
 unfold kink_Step.f at h
 split at h
 ·
  rename_i hl
  injection h with h;injection h with h1 h2;injection h2 with h2 h3;subst h1 h2 h3;exact Ten.kstep_calls A0_0 c0_0 A0_1 c0_1 l0_0 l0_1 w hG hr0_0 hc0_0 hr0_1 hc0_1 hl
 ·
  cases h
theorem kink_Step.of (s : List Int) (d : List ByteArray) (h : Ten.Sm s d) : kink_Step.f s d = some ((Ten.tEach 1 ⟨s, d⟩).1.s, (Ten.tEach 1 ⟨s, d⟩).1.d, (Ten.tEach 1 ⟨s, d⟩).2) := by rw [kink_Step.f, if_pos h]
/-! ### kink_Sign: function 21 -/
open Classical in
noncomputable def kink_Sign.f (l0_0 : List Int) (l0_1 : List ByteArray) : Option (List Int × List ByteArray × Int) := if Ten.Sm l0_0 l0_1 then some ((Ten.tEach 3 ⟨l0_0, l0_1⟩).1.s, (Ten.tEach 3 ⟨l0_0, l0_1⟩).1.d, (Ten.tEach 3 ⟨l0_0, l0_1⟩).2) else none
theorem kink_Sign.calls (A0_0 : Option Addr) (c0_0 : Nat) (l0_0 : List Int) (A0_1 : Option Addr) (c0_1 : Nat) (l0_1 : List ByteArray) (r1 : List Int) (r2 : List ByteArray) (r3 : Int) (w : World) (hG : Err.Gs w) (hr0_0 : Kd.C (Kd.int .i64) w A0_0 l0_0.length l0_0) (hc0_0 : l0_0.length ≤ c0_0) (hr0_1 : Kd.C Kd.string w A0_1 l0_1.length l0_1) (hc0_1 : l0_1.length ≤ c0_1) (h : kink_Sign.f l0_0 l0_1 = some (r1, r2, r3)) :
  Calls Tryz.prog 21 #[.agg #[.slice A0_0 l0_0.length c0_0, .slice A0_1 l0_1.length c0_1]] w fun e w' => ∃ v0_ v1_ : Value, e = .returned (.tuple #[.agg #[v0_, v1_], .int .i64 r3]) ∧ Kd.R (Kd.int .i64) 3 w' w.heap.size (fun _ => True) v0_ r1 ∧ Kd.R Kd.string 9 w' w.heap.size (fun _ => True) v1_ r2 ∧ Below w.heap.size w w' := by
 unfold kink_Sign.f at h
 split at h
 ·
  rename_i hl
  injection h with h;injection h with h1 h2;injection h2 with h2 h3;subst h1 h2 h3;exact Ten.ksign_calls A0_0 c0_0 A0_1 c0_1 l0_0 l0_1 w hG hr0_0 hc0_0 hr0_1 hc0_1 hl
 ·
  cases h
theorem kink_Sign.of (s : List Int) (d : List ByteArray) (h : Ten.Sm s d) : kink_Sign.f s d = some ((Ten.tEach 3 ⟨s, d⟩).1.s, (Ten.tEach 3 ⟨s, d⟩).1.d, (Ten.tEach 3 ⟨s, d⟩).2) := by rw [kink_Sign.f, if_pos h]
/-! ### kink_Flat: function 23 -/
open Classical in
noncomputable def kink_Flat.f (l0_0 : List Int) (l0_1 : List ByteArray) : Option (Bool × Int) := if Ten.Sm l0_0 l0_1 then some (Ten.tFlat ⟨l0_0, l0_1⟩) else none
theorem kink_Flat.calls (A0_0 : Option Addr) (c0_0 : Nat) (l0_0 : List Int) (A0_1 : Option Addr) (c0_1 : Nat) (l0_1 : List ByteArray) (r1 : Bool) (r2 : Int) (w : World) (hG : Err.Gs w) (hr0_0 : Kd.C (Kd.int .i64) w A0_0 l0_0.length l0_0) (hc0_0 : l0_0.length ≤ c0_0) (hr0_1 : Kd.C Kd.string w A0_1 l0_1.length l0_1) (hc0_1 : l0_1.length ≤ c0_1) (h : kink_Flat.f l0_0 l0_1 = some (r1, r2)) :
  Calls Tryz.prog 23 #[.agg #[.slice A0_0 l0_0.length c0_0, .slice A0_1 l0_1.length c0_1]] w fun e w' => e = .returned (.tuple #[.bool r1, .int .i64 r2]) ∧ Below w.heap.size w w' := by
 unfold kink_Flat.f at h
 split at h
 ·
  rename_i hl
  injection h with h;have := Ten.flat_calls A0_0 c0_0 A0_1 c0_1 l0_0 l0_1 w hG hr0_0 hc0_0 hr0_1 hc0_1 hl;rw [h] at this;exact this
 ·
  cases h
theorem kink_Flat.of (s : List Int) (d : List ByteArray) (h : Ten.Sm s d) : kink_Flat.f s d = some (Ten.tFlat ⟨s, d⟩) := by rw [kink_Flat.f, if_pos h]
/-! ### tensor_Sum: function 26 -/
open Classical in
noncomputable def tensor_Sum.f (l0_0 : List Int) (l0_1 : List ByteArray) : Option (ByteArray × Int) := if Ten.Sm l0_0 l0_1 ∧ ∀ p, (Ten.accS (l0_1.take p)).size ≤ 40000000000 then some (Ten.tSum ⟨l0_0, l0_1⟩) else none
theorem tensor_Sum.calls (A0_0 : Option Addr) (c0_0 : Nat) (l0_0 : List Int) (A0_1 : Option Addr) (c0_1 : Nat) (l0_1 : List ByteArray) (r1 : ByteArray) (r2 : Int) (w : World) (hG : Err.Gs w) (hr0_0 : Kd.C (Kd.int .i64) w A0_0 l0_0.length l0_0) (hc0_0 : l0_0.length ≤ c0_0) (hr0_1 : Kd.C Kd.string w A0_1 l0_1.length l0_1) (hc0_1 : l0_1.length ≤ c0_1) (h : tensor_Sum.f l0_0 l0_1 = some (r1, r2)) :
  Calls Tryz.prog 26 #[.agg #[.slice A0_0 l0_0.length c0_0, .slice A0_1 l0_1.length c0_1]] w fun e w' => e = .returned (.tuple #[.string r1, .int .i64 r2]) ∧ Below w.heap.size w w' := by
 unfold tensor_Sum.f at h
 split at h
 ·
  rename_i hl
  injection h with h;have := Ten.sum_calls A0_0 c0_0 A0_1 c0_1 l0_0 l0_1 w hG hr0_0 hc0_0 hr0_1 hl.1 hl.2;rw [h] at this;exact this
 ·
  cases h
theorem tensor_Sum.of (s : List Int) (d : List ByteArray) (h : Ten.Sm s d) (ha : ∀ p, (Ten.accS (d.take p)).size ≤ 40000000000) : tensor_Sum.f s d = some (Ten.tSum ⟨s, d⟩) := by rw [tensor_Sum.f, if_pos ⟨h, ha⟩]
/-! ### tapewrightlaw07_KinkSigns: function 9 -/
noncomputable def tapewrightlaw07_KinkSigns.l0 : Nat → Bool → Int → Bool → Int → ByteArray → Int → List ByteArray → Int → Int → List Int → List ByteArray → List Int → List ByteArray → Option (Bool)
 | 0, _, _, _, _, _, _, _, _, _, _, _, _, _ => none
 | k + 1, x11, x12, x13, x14, x15, x17, x71, x72, x73, x129000, x129001, x137000, x137001 => if x73 < x72 then (if 0 ≤ x73 then (if x73 < (x71.length : Int) then (if (rdOf ByteArray.empty x71 x73).toList = ([48] : List UInt8) then (tapewrightlaw07_KinkSigns.l0 k x11 x12 x13 x14 x15 x17 x71 x72 (wrap64 (x73 + 1)) x129000 x129001 x137000 x137001) else (tapewrightlaw07_KinkSigns.l0 k x11 x12 x13 x14 x15 (wrap64 (x17 + 1)) x71 x72 (wrap64 (x73 + 1)) x129000 x129001 x137000 x137001)) else (none)) else (none)) else ((some (([(wrap64 (48 + (wrap64 (Int.tdiv x17 10)))) % 256, (wrap64 (48 + (Int.tmod x17 10))) % 256] : List Int) : List Int)).bind fun y144 => (if x17 < 10 then (if 1 ≤ ((strOfNums y144).size : Int) then ((tapewrightref05_Equal.f x129000 x129001 x137000 x137001).bind fun t147 => (if t147 = true then (if (x11 == x13) = true then (if x15.toList = ((strOfNums y144).extract 1 (strOfNums y144).size).toList then (if x12 = 0 then (if x14 = 0 then ((tapewrightlaw07_awake.f).bind fun t148 => (some t148)) else (some false)) else (some false)) else (some false)) else (some false)) else (some false))) else (none)) else ((tapewrightref05_Equal.f x129000 x129001 x137000 x137001).bind fun t149 => (if t149 = true then (if (x11 == x13) = true then (if x15.toList = (strOfNums y144).toList then (if x12 = 0 then (if x14 = 0 then ((tapewrightlaw07_awake.f).bind fun t150 => (some t150)) else (some false)) else (some false)) else (some false)) else (some false)) else (some false)))))
noncomputable def tapewrightlaw07_KinkSigns.f (k : Nat) (l0_0 : List Int) (l0_1 : List ByteArray) : Option (Bool) := (tapewrightref05_Small.f l0_0 l0_1).bind fun t102 => (if t102 = true then ((kink_Sign.f l0_0 l0_1).bind fun bt104 => (if bt104.2.2 = 0 then ((tensor_Zip.f (⟨#[109, 117, 108]⟩ : ByteArray) bt104.1 bt104.2.1 bt104.1 bt104.2.1).bind fun bt113 => ((kink_Step.f l0_0 l0_1).bind fun bt121 => ((kink_Step.f bt104.1 bt104.2.1).bind fun bt129 => ((kink_Flat.f bt113.1 bt113.2.1).bind fun bt137 => ((kink_Flat.f l0_0 l0_1).bind fun bt139 => ((tensor_Sum.f bt113.1 bt113.2.1).bind fun bt141 => (tapewrightlaw07_KinkSigns.l0 k bt137.1 bt137.2 bt139.1 bt139.2 bt141.1 0 l0_1 (l0_1.length : Int) 0 bt121.1 bt121.2.1 bt129.1 bt129.2.1))))))) else (if (bt104.2.1.length : Int) = 0 then ((tapewrightlaw07_awake.f).bind fun t112 => (some t112)) else (some false)))) else ((tapewrightlaw07_awake.f).bind fun t103 => (some t103)))
theorem tapewrightlaw07_KinkSigns.calls (k : Nat) (A0_0 : Option Addr) (c0_0 : Nat) (l0_0 : List Int) (A0_1 : Option Addr) (c0_1 : Nat) (l0_1 : List ByteArray) (r : Bool) (w : World) (hG : Err.Gs w) (hrt : r = true) (hr0_0 : Kd.C (Kd.int .i64) w A0_0 l0_0.length l0_0) (hc0_0 : l0_0.length ≤ c0_0) (hr0_1 : Kd.C Kd.string w A0_1 l0_1.length l0_1) (hc0_1 : l0_1.length ≤ c0_1) (h : tapewrightlaw07_KinkSigns.f k l0_0 l0_1 = some r) :
  Calls Tryz.prog 9 #[.agg #[.slice A0_0 l0_0.length c0_0, .slice A0_1 l0_1.length c0_1]] w fun e w' => e = .returned (.bool r) ∧ Below w.heap.size w w' := by
 have hu25 := Tryz.underlying25;have HR0_0 := Aside0.mk hr0_0;have HC0_0 := Aside0.mk hc0_0;clear hr0_0 hc0_0;have HR0_1 := Aside0.mk hr0_1;have HC0_1 := Aside0.mk hc0_1;clear hr0_1 hc0_1;have HB := Aside0.mk (Below.refl w.heap.size w);have HGs := Aside0.mk hG;clear hG;have HRT := Aside0.mk hrt;clear hrt;unfold tapewrightlaw07_KinkSigns.f at h;have H := h;clear h;replace H := Option.bind_eq_some_iff.mp H;obtain ⟨t102, A20, H⟩ := H;have A2 := Aside0.mk A20;clear A20
 by_cases c3 : t102 = true
 ·
  subst c3;rw [if_pos rfl] at H;replace H := Option.bind_eq_some_iff.mp H;obtain ⟨⟨t104, t107, t110⟩, A40, H⟩ := H;have A4 := Aside0.mk A40;clear A40
  by_cases c5 : t110 = 0
  ·
   rw [if_pos c5] at H;have c5b0 : (t110 == 0) = true := beq_iff_eq.mpr c5;have c5b1 : (t110 != 0) = false := bne_eq_false_iff_eq.mpr c5;clear c5;replace H := Option.bind_eq_some_iff.mp H;obtain ⟨⟨t113, t116, t119⟩, A60, H⟩ := H;have A6 := Aside0.mk A60;clear A60;replace H := Option.bind_eq_some_iff.mp H;obtain ⟨⟨t121, t124, t127⟩, A70, H⟩ := H;have A7 := Aside0.mk A70;clear A70;replace H := Option.bind_eq_some_iff.mp H;obtain ⟨⟨t129, t132, t135⟩, A80, H⟩ := H;have A8 := Aside0.mk A80;clear A80;replace H := Option.bind_eq_some_iff.mp H;obtain ⟨⟨t137, t138⟩, A90, H⟩ := H;have A9 := Aside0.mk A90;clear A90;replace H := Option.bind_eq_some_iff.mp H;obtain ⟨⟨t139, t140⟩, A100, H⟩ := H;have A10 := Aside0.mk A100;clear A100;replace H := Option.bind_eq_some_iff.mp H;obtain ⟨⟨t141, t142⟩, A110, H⟩ := H;have A11 := Aside0.mk A110;clear A110;have H' := Aside0.mk H;clear H;go_enter Tryz.func9, Tryz.ntmps9
   go_wp2_with (first | ((with_reducible refine gate_dst (N := 1) rfl ?_); refine box_event ?hg (N := 1) ?hd (cs := #[.slice A0_0 l0_0.length c0_0, .slice A0_1 l0_1.length c0_1]) (t := 25) ?hr ?_; (case hd => rfl); (case hg => rfl); (case hr => exact T3_); intro gb101 hg w12 hbox hb; have BK101 := Aside0.mk (hbox); have GW101 := GE_ hg; have GE101 := GE_ hg; replace HB := Aside0.mk (below_step T1_ hb); clear hb hbox hg; have hcz13_0 := CA_ BK101; have hcz13_1 := CB_ BK101; have hfz13_0 := blk_frozen BK101.out 0; have hfz13_1 := blk_frozen BK101.out 1) | ((with_reducible refine gate_callee (f := 11) rfl ?_); refine goesL_ (some 22) rfl rfl Tryz.func11 (by kernel_rfl) rfl #[.agg #[.slice A0_0 l0_0.length c0_0, .slice A0_1 l0_1.length c0_1]] rfl T2_ ?_; (with_reducible refine (tapewrightref05_Small.calls _ _ l0_0 _ _ l0_1 true _ ?side1 ?side2 ?side3 ?side4 A2.out).mono ?_); (case side1 => exact C1_ (Kd.C_below HR0_0.out HB.out)); (case side2 => exact HC0_0.out); (case side3 => exact C1_ (Kd.C_below HR0_1.out HB.out)); (case side4 => exact HC0_1.out); rintro e w14 ⟨rfl, hb⟩; refine ⟨_, rfl, ?_⟩; replace BK101 := BF_ BK101 hb; replace HB := Aside0.mk (below_step T9_ hb); clear hb; have hcz15_0 := CA_ BK101; have hcz15_1 := CB_ BK101; have hfz15_0 := blk_frozen BK101.out 0; have hfz15_1 := blk_frozen BK101.out 1) | ((with_reducible refine gate_callee (f := 21) rfl ?_); refine goesL_ (some 27) rfl rfl Tryz.func21 (by kernel_rfl) rfl #[.agg #[.slice A0_0 l0_0.length c0_0, .slice A0_1 l0_1.length c0_1]] rfl T2_ ?_; (with_reducible refine (kink_Sign.calls _ _ l0_0 _ _ l0_1 t104 t107 t110 _ (Err.Gs.below HGs.out T9_) ?side1 ?side2 ?side3 ?side4 A4.out).mono ?_); (case side1 => exact C1_ (Kd.C_below HR0_0.out HB.out)); (case side2 => exact HC0_0.out); (case side3 => exact C1_ (Kd.C_below HR0_1.out HB.out)); (case side4 => exact HC0_1.out); rintro e w16 ⟨v105, v108, rfl, ho0, ho1, hb⟩; refine ⟨_, rfl, ?_⟩; have HO106 := Aside0.mk (Kd.R_lower ho0 (below_size T9_)); have HO109 := Aside0.mk (Kd.R_lower ho1 (below_size T9_)); replace BK101 := BF_ BK101 hb; replace HB := Aside0.mk (below_step T9_ hb); clear hb ho0 ho1) | ((with_reducible refine gate_dst (N := 3) rfl ?_); refine box_event ?hg (N := 3) ?hd (cs := #[.slice none 0 0, .slice none 0 0]) (t := 25) ?hr ?_; (case hd => rfl); (case hg => rfl); (case hr => exact T3_); intro gb111 hg w17 hbox hb; replace HO106 := RC_ HO106 hb; replace HO109 := RC_ HO109 hb; have BK111 := Aside0.mk (hbox); have GW111 := GE_ hg; have GE111 := GE_ hg; replace HB := Aside0.mk (below_step T9_ hb); have NB101_111 := NB_ BK101 hg; have NB111_101 := NC_ BK101 hg; replace BK101 := BF_ BK101 hb; clear hb hbox hg; obtain ⟨Ao18, co18, eo18⟩ := Kd.R_slice HO106.out; subst eo18; have hnb19 := NB111_101.out; have hnc19 := NB101_111.out; have hcz20_0 : w17.cell? ⟨gb111, 0, none⟩ = some (.slice none 0 0) := (blk_cell BK111.out 0).trans rfl; have hcz20_1 : w17.cell? ⟨gb111, 1, none⟩ = some (.slice none 0 0) := (blk_cell BK111.out 1).trans rfl; have hfz20_0 := blk_frozen BK111.out 0; have hfz20_1 := blk_frozen BK111.out 1; obtain ⟨Ao21, co21, eo21⟩ := Kd.R_slice HO109.out; subst eo21) | ((with_reducible refine gate_callee (f := 16) rfl ?_); refine goesL_ (some 42) rfl rfl Tryz.func16 (by kernel_rfl) rfl #[.string (⟨#[109, 117, 108]⟩ : ByteArray), .agg #[.slice Ao18 t104.length co18, .slice Ao21 t107.length co21], .agg #[.slice Ao18 t104.length co18, .slice Ao21 t107.length co21]] rfl T2_ ?_; (with_reducible refine (tensor_Zip.calls (⟨#[109, 117, 108]⟩ : ByteArray) _ _ t104 _ _ t107 _ _ t104 _ _ t107 t113 t116 t119 _ (Err.Gs.below HGs.out T9_) ?side1 ?side2 ?side3 ?side4 ?side5 ?side6 ?side7 ?side8 A6.out).mono ?_); (case side1 => exact C2_ HO106); (case side2 => exact (Kd.R_reads' HO106.out).2.1); (case side3 => exact C2_ HO109); (case side4 => exact (Kd.R_reads' HO109.out).2.1); (case side5 => exact C2_ HO106); (case side6 => exact (Kd.R_reads' HO106.out).2.1); (case side7 => exact C2_ HO109); (case side8 => exact (Kd.R_reads' HO109.out).2.1); rintro e w22 ⟨v114, v117, rfl, ho0, ho1, hb⟩; refine ⟨_, rfl, ?_⟩; have HO115 := Aside0.mk (Kd.R_lower ho0 (below_size T9_)); replace HO106 := RC_ HO106 hb; have HO118 := Aside0.mk (Kd.R_lower ho1 (below_size T9_)); replace HO109 := RC_ HO109 hb; replace BK101 := BG_ BK101 hb; replace BK111 := BP_ BK111 hb; replace HB := Aside0.mk (below_step T9_ hb); clear hb ho0 ho1) | ((with_reducible refine gate_dst (N := 5) rfl ?_); refine box_event ?hg (N := 5) ?hd (cs := #[.slice none 0 0, .slice none 0 0]) (t := 25) ?hr ?_; (case hd => rfl); (case hg => rfl); (case hr => exact T3_); intro gb120 hg w23 hbox hb; replace HO106 := RC_ HO106 hb; replace HO109 := RC_ HO109 hb; replace HO115 := RC_ HO115 hb; replace HO118 := RC_ HO118 hb; have BK120 := Aside0.mk (hbox); have GW120 := GE_ hg; have GE120 := GE_ hg; replace HB := Aside0.mk (below_step T9_ hb); have NB101_120 := NB_ BK101 hg; have NB120_101 := NC_ BK101 hg; replace BK101 := BF_ BK101 hb; have NB111_120 := NB_ BK111 hg; have NB120_111 := NC_ BK111 hg; replace BK111 := BF_ BK111 hb; clear hb hbox hg; obtain ⟨Ao24, co24, eo24⟩ := Kd.R_slice HO115.out; subst eo24; have hnb25 := NB120_101.out; have hnc25 := NB101_120.out; have hnb26 := NB120_111.out; have hnc26 := NB111_120.out; have hcz27_0 : w23.cell? ⟨gb120, 0, none⟩ = some (.slice none 0 0) := (blk_cell BK120.out 0).trans rfl; have hcz27_1 : w23.cell? ⟨gb120, 1, none⟩ = some (.slice none 0 0) := (blk_cell BK120.out 1).trans rfl; have hfz27_0 := blk_frozen BK120.out 0; have hfz27_1 := blk_frozen BK120.out 1; obtain ⟨Ao28, co28, eo28⟩ := Kd.R_slice HO118.out; subst eo28; have hcz29_0 := CA_ BK101; have hcz29_1 := CB_ BK101; have hfz29_0 := blk_frozen BK101.out 0; have hfz29_1 := blk_frozen BK101.out 1) | ((with_reducible refine gate_callee (f := 20) rfl ?_); refine goesL_ (some 47) rfl rfl Tryz.func20 (by kernel_rfl) rfl #[.agg #[.slice A0_0 l0_0.length c0_0, .slice A0_1 l0_1.length c0_1]] rfl T2_ ?_; (with_reducible refine (kink_Step.calls _ _ l0_0 _ _ l0_1 t121 t124 t127 _ (Err.Gs.below HGs.out T9_) ?side1 ?side2 ?side3 ?side4 A7.out).mono ?_); (case side1 => exact Kd.C_below HR0_0.out T9_); (case side2 => exact HC0_0.out); (case side3 => exact Kd.C_below HR0_1.out T9_); (case side4 => exact HC0_1.out); rintro e w30 ⟨v122, v125, rfl, ho0, ho1, hb⟩; refine ⟨_, rfl, ?_⟩; have HO123 := Aside0.mk (Kd.R_lower ho0 (below_size T9_)); replace HO106 := RC_ HO106 hb; replace HO115 := RC_ HO115 hb; have HO126 := Aside0.mk (Kd.R_lower ho1 (below_size T9_)); replace HO109 := RC_ HO109 hb; replace HO118 := RC_ HO118 hb; replace BK101 := BG_ BK101 hb; replace BK111 := BG_ BK111 hb; replace BK120 := BP_ BK120 hb; replace HB := Aside0.mk (below_step T9_ hb); clear hb ho0 ho1) | ((with_reducible refine gate_dst (N := 7) rfl ?_); refine box_event ?hg (N := 7) ?hd (cs := #[.slice none 0 0, .slice none 0 0]) (t := 25) ?hr ?_; (case hd => rfl); (case hg => rfl); (case hr => exact T3_); intro gb128 hg w31 hbox hb; replace HO106 := RC_ HO106 hb; replace HO109 := RC_ HO109 hb; replace HO115 := RC_ HO115 hb; replace HO118 := RC_ HO118 hb; replace HO123 := RC_ HO123 hb; replace HO126 := RC_ HO126 hb; have BK128 := Aside0.mk (hbox); have GW128 := GE_ hg; have GE128 := GE_ hg; replace HB := Aside0.mk (below_step T9_ hb); have NB101_128 := NB_ BK101 hg; have NB128_101 := NC_ BK101 hg; replace BK101 := BF_ BK101 hb; have NB111_128 := NB_ BK111 hg; have NB128_111 := NC_ BK111 hg; replace BK111 := BF_ BK111 hb; have NB120_128 := NB_ BK120 hg; have NB128_120 := NC_ BK120 hg; replace BK120 := BF_ BK120 hb; clear hb hbox hg; obtain ⟨Ao32, co32, eo32⟩ := Kd.R_slice HO123.out; subst eo32; have hnb33 := NB128_101.out; have hnc33 := NB101_128.out; have hnb34 := NB128_111.out; have hnc34 := NB111_128.out; have hnb35 := NB128_120.out; have hnc35 := NB120_128.out; have hcz36_0 : w31.cell? ⟨gb128, 0, none⟩ = some (.slice none 0 0) := (blk_cell BK128.out 0).trans rfl; have hcz36_1 : w31.cell? ⟨gb128, 1, none⟩ = some (.slice none 0 0) := (blk_cell BK128.out 1).trans rfl; have hfz36_0 := blk_frozen BK128.out 0; have hfz36_1 := blk_frozen BK128.out 1; obtain ⟨Ao37, co37, eo37⟩ := Kd.R_slice HO126.out; subst eo37; have hcz38_0 : w31.cell? ⟨gb111, 0, none⟩ = some (.slice Ao18 t104.length co18) := (blk_cell BK111.out 0).trans rfl; have hcz38_1 : w31.cell? ⟨gb111, 1, none⟩ = some (.slice Ao21 t107.length co21) := (blk_cell BK111.out 1).trans rfl; have hfz38_0 := blk_frozen BK111.out 0; have hfz38_1 := blk_frozen BK111.out 1) | ((with_reducible refine gate_callee (f := 20) rfl ?_); refine goesL_ (some 52) rfl rfl Tryz.func20 (by kernel_rfl) rfl #[.agg #[.slice Ao18 t104.length co18, .slice Ao21 t107.length co21]] rfl T2_ ?_; (with_reducible refine (kink_Step.calls _ _ t104 _ _ t107 t129 t132 t135 _ (Err.Gs.below HGs.out T9_) ?side1 ?side2 ?side3 ?side4 A8.out).mono ?_); (case side1 => exact C2_ HO106); (case side2 => exact (Kd.R_reads' HO106.out).2.1); (case side3 => exact C2_ HO109); (case side4 => exact (Kd.R_reads' HO109.out).2.1); rintro e w39 ⟨v130, v133, rfl, ho0, ho1, hb⟩; refine ⟨_, rfl, ?_⟩; have HO131 := Aside0.mk (Kd.R_lower ho0 (below_size T9_)); replace HO106 := RC_ HO106 hb; replace HO115 := RC_ HO115 hb; replace HO123 := RC_ HO123 hb; have HO134 := Aside0.mk (Kd.R_lower ho1 (below_size T9_)); replace HO109 := RC_ HO109 hb; replace HO118 := RC_ HO118 hb; replace HO126 := RC_ HO126 hb; replace BK101 := BG_ BK101 hb; replace BK111 := BG_ BK111 hb; replace BK120 := BG_ BK120 hb; replace BK128 := BP_ BK128 hb; replace HB := Aside0.mk (below_step T9_ hb); clear hb ho0 ho1) | ((with_reducible refine gate_dst (N := 9) rfl ?_); refine box_event ?hg (N := 9) ?hd (cs := #[.slice none 0 0, .slice none 0 0]) (t := 25) ?hr ?_; (case hd => rfl); (case hg => rfl); (case hr => exact T3_); intro gb136 hg w40 hbox hb; replace HO106 := RC_ HO106 hb; replace HO109 := RC_ HO109 hb; replace HO115 := RC_ HO115 hb; replace HO118 := RC_ HO118 hb; replace HO123 := RC_ HO123 hb; replace HO126 := RC_ HO126 hb; replace HO131 := RC_ HO131 hb; replace HO134 := RC_ HO134 hb; have BK136 := Aside0.mk (hbox); have GW136 := GE_ hg; have GE136 := GE_ hg; replace HB := Aside0.mk (below_step T9_ hb); have NB101_136 := NB_ BK101 hg; have NB136_101 := NC_ BK101 hg; replace BK101 := BF_ BK101 hb; have NB111_136 := NB_ BK111 hg; have NB136_111 := NC_ BK111 hg; replace BK111 := BF_ BK111 hb; have NB120_136 := NB_ BK120 hg; have NB136_120 := NC_ BK120 hg; replace BK120 := BF_ BK120 hb; have NB128_136 := NB_ BK128 hg; have NB136_128 := NC_ BK128 hg; replace BK128 := BF_ BK128 hb; clear hb hbox hg; obtain ⟨Ao41, co41, eo41⟩ := Kd.R_slice HO131.out; subst eo41; have hnb42 := NB136_101.out; have hnc42 := NB101_136.out; have hnb43 := NB136_111.out; have hnc43 := NB111_136.out; have hnb44 := NB136_120.out; have hnc44 := NB120_136.out; have hnb45 := NB136_128.out; have hnc45 := NB128_136.out; have hcz46_0 : w40.cell? ⟨gb136, 0, none⟩ = some (.slice none 0 0) := (blk_cell BK136.out 0).trans rfl; have hcz46_1 : w40.cell? ⟨gb136, 1, none⟩ = some (.slice none 0 0) := (blk_cell BK136.out 1).trans rfl; have hfz46_0 := blk_frozen BK136.out 0; have hfz46_1 := blk_frozen BK136.out 1; obtain ⟨Ao47, co47, eo47⟩ := Kd.R_slice HO134.out; subst eo47; have hcz48_0 : w40.cell? ⟨gb120, 0, none⟩ = some (.slice Ao24 t113.length co24) := (blk_cell BK120.out 0).trans rfl; have hcz48_1 : w40.cell? ⟨gb120, 1, none⟩ = some (.slice Ao28 t116.length co28) := (blk_cell BK120.out 1).trans rfl; have hfz48_0 := blk_frozen BK120.out 0; have hfz48_1 := blk_frozen BK120.out 1) | ((with_reducible refine gate_callee (f := 23) rfl ?_); refine goesL_ (some 57) rfl rfl Tryz.func23 (by kernel_rfl) rfl #[.agg #[.slice Ao24 t113.length co24, .slice Ao28 t116.length co28]] rfl T2_ ?_; (with_reducible refine (kink_Flat.calls _ _ t113 _ _ t116 t137 t138 _ (Err.Gs.below HGs.out T9_) ?side1 ?side2 ?side3 ?side4 A9.out).mono ?_); (case side1 => exact C2_ HO115); (case side2 => exact (Kd.R_reads' HO115.out).2.1); (case side3 => exact C2_ HO118); (case side4 => exact (Kd.R_reads' HO118.out).2.1); rintro e w49 ⟨rfl, hb⟩; refine ⟨_, rfl, ?_⟩; replace HO106 := RC_ HO106 hb; replace HO109 := RC_ HO109 hb; replace HO115 := RC_ HO115 hb; replace HO118 := RC_ HO118 hb; replace HO123 := RC_ HO123 hb; replace HO126 := RC_ HO126 hb; replace HO131 := RC_ HO131 hb; replace HO134 := RC_ HO134 hb; replace BK101 := BG_ BK101 hb; replace BK111 := BG_ BK111 hb; replace BK120 := BG_ BK120 hb; replace BK128 := BG_ BK128 hb; replace BK136 := BP_ BK136 hb; replace HB := Aside0.mk (below_step T9_ hb); clear hb; have hcz50_0 := CA_ BK101; have hcz50_1 := CB_ BK101; have hfz50_0 := blk_frozen BK101.out 0; have hfz50_1 := blk_frozen BK101.out 1) | ((with_reducible refine gate_callee (f := 23) rfl ?_); refine goesL_ (some 62) rfl rfl Tryz.func23 (by kernel_rfl) rfl #[.agg #[.slice A0_0 l0_0.length c0_0, .slice A0_1 l0_1.length c0_1]] rfl T2_ ?_; (with_reducible refine (kink_Flat.calls _ _ l0_0 _ _ l0_1 t139 t140 _ (Err.Gs.below HGs.out T9_) ?side1 ?side2 ?side3 ?side4 A10.out).mono ?_); (case side1 => exact C1_ (Kd.C_below HR0_0.out HB.out)); (case side2 => exact HC0_0.out); (case side3 => exact C1_ (Kd.C_below HR0_1.out HB.out)); (case side4 => exact HC0_1.out); rintro e w51 ⟨rfl, hb⟩; refine ⟨_, rfl, ?_⟩; replace HO106 := RC_ HO106 hb; replace HO109 := RC_ HO109 hb; replace HO115 := RC_ HO115 hb; replace HO118 := RC_ HO118 hb; replace HO123 := RC_ HO123 hb; replace HO126 := RC_ HO126 hb; replace HO131 := RC_ HO131 hb; replace HO134 := RC_ HO134 hb; replace BK101 := BF_ BK101 hb; replace BK111 := BF_ BK111 hb; replace BK120 := BF_ BK120 hb; replace BK128 := BF_ BK128 hb; replace BK136 := BF_ BK136 hb; replace HB := Aside0.mk (below_step T9_ hb); clear hb; have hcz52_0 : w51.cell? ⟨gb120, 0, none⟩ = some (.slice Ao24 t113.length co24) := (blk_cell BK120.out 0).trans rfl; have hcz52_1 : w51.cell? ⟨gb120, 1, none⟩ = some (.slice Ao28 t116.length co28) := (blk_cell BK120.out 1).trans rfl; have hfz52_0 := blk_frozen BK120.out 0; have hfz52_1 := blk_frozen BK120.out 1) | ((with_reducible refine gate_callee (f := 26) rfl ?_); refine goesL_ (some 67) rfl rfl Tryz.func26 (by kernel_rfl) rfl #[.agg #[.slice Ao24 t113.length co24, .slice Ao28 t116.length co28]] rfl T2_ ?_; (with_reducible refine (tensor_Sum.calls _ _ t113 _ _ t116 t141 t142 _ (Err.Gs.below HGs.out T9_) ?side1 ?side2 ?side3 ?side4 A11.out).mono ?_); (case side1 => exact C2_ HO115); (case side2 => exact (Kd.R_reads' HO115.out).2.1); (case side3 => exact C2_ HO118); (case side4 => exact (Kd.R_reads' HO118.out).2.1); rintro e w53 ⟨rfl, hb⟩; refine ⟨_, rfl, ?_⟩; replace HO106 := RC_ HO106 hb; replace HO109 := RC_ HO109 hb; replace HO115 := RC_ HO115 hb; replace HO118 := RC_ HO118 hb; replace HO123 := RC_ HO123 hb; replace HO126 := RC_ HO126 hb; replace HO131 := RC_ HO131 hb; replace HO134 := RC_ HO134 hb; replace BK101 := BF_ BK101 hb; replace BK111 := BF_ BK111 hb; replace BK120 := BF_ BK120 hb; replace BK128 := BF_ BK128 hb; replace BK136 := BF_ BK136 hb; replace HB := Aside0.mk (below_step T9_ hb); clear hb; have hcz54_0 := CA_ BK101; have hcz54_1 := CB_ BK101; have hfz54_0 := blk_frozen BK101.out 0; have hfz54_1 := blk_frozen BK101.out 1))
   go_loopg [17, 73] k (fun kq v17 v73 w' => ∃ (x17_1 : Int) (x73_1 : Int), v17 = .int .i64 x17_1 ∧ v73 = .int .i64 x73_1 ∧ Aside0 (tapewrightlaw07_KinkSigns.l0 kq t137 t138 t139 t140 t141 x17_1 l0_1 (l0_1.length : Int) x73_1 t121 t124 t129 t132 = some r) ∧ Aside0 (kq ≤ k) ∧ Aside0 (Kd.R (Kd.int .i64) 3 w' w.heap.size (fun _ => True) (.slice Ao18 t104.length co18) t104) ∧ Aside0 (Kd.R Kd.string 9 w' w.heap.size (fun _ => True) (.slice Ao21 t107.length co21) t107) ∧ Aside0 (Kd.R (Kd.int .i64) 3 w' w.heap.size (fun _ => True) (.slice Ao24 t113.length co24) t113) ∧ Aside0 (Kd.R Kd.string 9 w' w.heap.size (fun _ => True) (.slice Ao28 t116.length co28) t116) ∧ Aside0 (Kd.R (Kd.int .i64) 3 w' w.heap.size (fun _ => True) (.slice Ao32 t121.length co32) t121) ∧ Aside0 (Kd.R Kd.string 9 w' w.heap.size (fun _ => True) (.slice Ao37 t124.length co37) t124) ∧ Aside0 (Kd.R (Kd.int .i64) 3 w' w.heap.size (fun _ => True) (.slice Ao41 t129.length co41) t129) ∧ Aside0 (Kd.R Kd.string 9 w' w.heap.size (fun _ => True) (.slice Ao47 t132.length co47) t132) ∧ Aside0 (w'.heap[gb101]? = some (.cells #[(.slice A0_0 l0_0.length c0_0), (.slice A0_1 l0_1.length c0_1)] 25 (0, 0))) ∧ Aside0 (w'.heap[gb111]? = some (.cells #[(.slice Ao18 t104.length co18), (.slice Ao21 t107.length co21)] 25 (0, 0))) ∧ Aside0 (w'.heap[gb120]? = some (.cells #[(.slice Ao24 t113.length co24), (.slice Ao28 t116.length co28)] 25 (0, 0))) ∧ Aside0 (w'.heap[gb128]? = some (.cells #[(.slice Ao32 t121.length co32), (.slice Ao37 t124.length co37)] 25 (0, 0))) ∧ Aside0 (w'.heap[gb136]? = some (.cells #[(.slice Ao41 t129.length co41), (.slice Ao47 t132.length co47)] 25 (0, 0))) ∧ Aside0 (Below w.heap.size w w'))
   case atStart => exact ⟨(0), (0), S1_, S1_, H', ⟨Nat.le_refl _⟩, ⟨by (with_reducible repeat (first | apply Kd.R_alloc | apply Kd.R_drewN | apply Kd.R_drew)); exact Kd.R_mono HO106.out (fun _ hk => trivial)⟩, ⟨by (with_reducible repeat (first | apply Kd.R_alloc | apply Kd.R_drewN | apply Kd.R_drew)); exact Kd.R_mono HO109.out (fun _ hk => trivial)⟩, ⟨by (with_reducible repeat (first | apply Kd.R_alloc | apply Kd.R_drewN | apply Kd.R_drew)); exact Kd.R_mono HO115.out (fun _ hk => trivial)⟩, ⟨by (with_reducible repeat (first | apply Kd.R_alloc | apply Kd.R_drewN | apply Kd.R_drew)); exact Kd.R_mono HO118.out (fun _ hk => trivial)⟩, ⟨by (with_reducible repeat (first | apply Kd.R_alloc | apply Kd.R_drewN | apply Kd.R_drew)); exact Kd.R_mono HO123.out (fun _ hk => trivial)⟩, ⟨by (with_reducible repeat (first | apply Kd.R_alloc | apply Kd.R_drewN | apply Kd.R_drew)); exact Kd.R_mono HO126.out (fun _ hk => trivial)⟩, ⟨by (with_reducible repeat (first | apply Kd.R_alloc | apply Kd.R_drewN | apply Kd.R_drew)); exact Kd.R_mono HO131.out (fun _ hk => trivial)⟩, ⟨by (with_reducible repeat (first | apply Kd.R_alloc | apply Kd.R_drewN | apply Kd.R_drew)); exact Kd.R_mono HO134.out (fun _ hk => trivial)⟩, BW_ BK101, BW_ BK111, BW_ BK120, BW_ BK128, BW_ BK136, ⟨T9_⟩⟩
   case round =>
    clear H'
    try clear c1
    try clear c2
    try clear p2
    try clear c3
    try clear c4
    try clear c5
    try clear c5b0
    try clear c5b1
    try clear c9
    try clear c11
    try clear c16
    try clear c19
    try clear c20
    try clear c21
    try clear c23
    try clear c25
    try clear c26
    try clear c33
    try clear c34
    try clear c35
    try clear c42
    try clear c43
    try clear c44
    try clear c45
    try clear hcz13_0
    try clear hcz13_1
    try clear hcz15_0
    try clear hcz15_1
    try clear hcz20_0
    try clear hcz20_1
    try clear hcz27_0
    try clear hcz27_1
    try clear hcz29_0
    try clear hcz29_1
    try clear hcz36_0
    try clear hcz36_1
    try clear hcz38_0
    try clear hcz38_1
    try clear hcz46_0
    try clear hcz46_1
    try clear hcz48_0
    try clear hcz48_1
    try clear hcz50_0
    try clear hcz50_1
    try clear hcz52_0
    try clear hcz52_1
    try clear hcz54_0
    try clear hcz54_1
    try clear hfz13_0
    try clear hfz13_1
    try clear hfz15_0
    try clear hfz15_1
    try clear hfz20_0
    try clear hfz20_1
    try clear hfz27_0
    try clear hfz27_1
    try clear hfz29_0
    try clear hfz29_1
    try clear hfz36_0
    try clear hfz36_1
    try clear hfz38_0
    try clear hfz38_1
    try clear hfz46_0
    try clear hfz46_1
    try clear hfz48_0
    try clear hfz48_1
    try clear hfz50_0
    try clear hfz50_1
    try clear hfz52_0
    try clear hfz52_1
    try clear hfz54_0
    try clear hfz54_1
    obtain ⟨x17_1, x73_1, rfl, rfl, HA, HK1, HO_112000, HO_112001, HO_121000, HO_121001, HO_129000, HO_129001, HO_137000, HO_137001, BK101, BK111, BK120, BK128, BK136, HB⟩ := hrel
    cases gk with
    | zero => exact absurd HA.out (by simp [tapewrightlaw07_KinkSigns.l0])
    | succ k1 =>
     have H := HA.out;clear HA;simp only [tapewrightlaw07_KinkSigns.l0] at H
     by_cases c55 : x73_1 < (l0_1.length : Int)
     ·
      rw [if_pos c55] at H;have c55b0 : decide (x73_1 < (l0_1.length : Int)) = true := decide_eq_true c55;clear c55
      by_cases c56 : 0 ≤ x73_1
      ·
       rw [if_pos c56] at H;have c56b0 : decide (0 ≤ x73_1) = true := decide_eq_true c56;clear c56
       by_cases c57 : x73_1 < (l0_1.length : Int)
       ·
        rw [if_pos c57] at H;have c57b0 : decide (x73_1 < (l0_1.length : Int)) = true := decide_eq_true c57;clear c57
        by_cases c58 : (rdOf ByteArray.empty l0_1 x73_1).toList = ([48] : List UInt8)
        ·
         rw [if_pos c58] at H;have c58b0 : ((rdOf ByteArray.empty l0_1 x73_1).toList == ([48] : List UInt8)) = true := beq_iff_eq.mpr c58;have c58b1 : ((rdOf ByteArray.empty l0_1 x73_1).toList != ([48] : List UInt8)) = false := bne_eq_false_iff_eq.mpr c58;clear c58;have H' := Aside0.mk H;clear H;have p143 : 0 ≤ (x73_1 : Int) := DA_;have q143 : x73_1 < (l0_1.length : Int) := DA_;obtain ⟨ad143, e143, hx143_0⟩ := Kd.at_string HR0_1.out x73_1 p143 q143
         cases e143
         replace hx143_0 := (HB.out.cell (World.block_lt_of_cell? w _ hx143_0)).trans hx143_0;replace p143 := eq_true p143;replace q143 := eq_true q143
         go_wp2
         go_roundg k1
         case measure => have := HK1.out; omega
         case rel => exact ⟨(x17_1), (wrap64 (x73_1 + 1)), S1_, S1_, H', ⟨by have := HK1.out; omega⟩, ⟨by (with_reducible repeat (first | apply Kd.R_alloc | apply Kd.R_drewN | apply Kd.R_drew)); exact HO_112000.out⟩, ⟨by (with_reducible repeat (first | apply Kd.R_alloc | apply Kd.R_drewN | apply Kd.R_drew)); exact HO_112001.out⟩, ⟨by (with_reducible repeat (first | apply Kd.R_alloc | apply Kd.R_drewN | apply Kd.R_drew)); exact HO_121000.out⟩, ⟨by (with_reducible repeat (first | apply Kd.R_alloc | apply Kd.R_drewN | apply Kd.R_drew)); exact HO_121001.out⟩, ⟨by (with_reducible repeat (first | apply Kd.R_alloc | apply Kd.R_drewN | apply Kd.R_drew)); exact HO_129000.out⟩, ⟨by (with_reducible repeat (first | apply Kd.R_alloc | apply Kd.R_drewN | apply Kd.R_drew)); exact HO_129001.out⟩, ⟨by (with_reducible repeat (first | apply Kd.R_alloc | apply Kd.R_drewN | apply Kd.R_drew)); exact HO_137000.out⟩, ⟨by (with_reducible repeat (first | apply Kd.R_alloc | apply Kd.R_drewN | apply Kd.R_drew)); exact HO_137001.out⟩, BW_ BK101, BW_ BK111, BW_ BK120, BW_ BK128, BW_ BK136, ⟨T9_⟩⟩
        ·
         rw [if_neg c58] at H;have c58b0 : ((rdOf ByteArray.empty l0_1 x73_1).toList == ([48] : List UInt8)) = false := beq_eq_false_iff_ne.mpr c58;have c58b1 : ((rdOf ByteArray.empty l0_1 x73_1).toList != ([48] : List UInt8)) = true := bne_iff_ne.mpr c58;have H' := Aside0.mk H;clear H;have p143 : 0 ≤ (x73_1 : Int) := DA_;have q143 : x73_1 < (l0_1.length : Int) := DA_;obtain ⟨ad143, e143, hx143_0⟩ := Kd.at_string HR0_1.out x73_1 p143 q143
         cases e143
         replace hx143_0 := (HB.out.cell (World.block_lt_of_cell? w _ hx143_0)).trans hx143_0;replace p143 := eq_true p143;replace q143 := eq_true q143
         go_wp2
         go_roundg k1
         case measure => have := HK1.out; omega
         case rel => exact ⟨(wrap64 (x17_1 + 1)), (wrap64 (x73_1 + 1)), S1_, S1_, H', ⟨by have := HK1.out; omega⟩, ⟨by (with_reducible repeat (first | apply Kd.R_alloc | apply Kd.R_drewN | apply Kd.R_drew)); exact HO_112000.out⟩, ⟨by (with_reducible repeat (first | apply Kd.R_alloc | apply Kd.R_drewN | apply Kd.R_drew)); exact HO_112001.out⟩, ⟨by (with_reducible repeat (first | apply Kd.R_alloc | apply Kd.R_drewN | apply Kd.R_drew)); exact HO_121000.out⟩, ⟨by (with_reducible repeat (first | apply Kd.R_alloc | apply Kd.R_drewN | apply Kd.R_drew)); exact HO_121001.out⟩, ⟨by (with_reducible repeat (first | apply Kd.R_alloc | apply Kd.R_drewN | apply Kd.R_drew)); exact HO_129000.out⟩, ⟨by (with_reducible repeat (first | apply Kd.R_alloc | apply Kd.R_drewN | apply Kd.R_drew)); exact HO_129001.out⟩, ⟨by (with_reducible repeat (first | apply Kd.R_alloc | apply Kd.R_drewN | apply Kd.R_drew)); exact HO_137000.out⟩, ⟨by (with_reducible repeat (first | apply Kd.R_alloc | apply Kd.R_drewN | apply Kd.R_drew)); exact HO_137001.out⟩, BW_ BK101, BW_ BK111, BW_ BK120, BW_ BK128, BW_ BK136, ⟨T9_⟩⟩
       ·
        rw [if_neg c57] at H;exact absurd H (by simp)
      ·
       rw [if_neg c56] at H;exact absurd H (by simp)
     ·
      rw [if_neg c55] at H;have c55b0 : decide (x73_1 < (l0_1.length : Int)) = false := decide_eq_false c55;clear c55;obtain ⟨y144, hy144⟩ : ∃ y_ : List Int, y_ = (([(wrap64 (48 + (wrap64 (Int.tdiv x17_1 10)))) % 256, (wrap64 (48 + (Int.tmod x17_1 10))) % 256] : List Int)) := ⟨_, rfl⟩
      replace H : (if x17_1 < 10 then (if 1 ≤ ((strOfNums y144).size : Int) then ((tapewrightref05_Equal.f t121 t124 t129 t132).bind fun t147 => (if t147 = true then (if (t137 == t139) = true then (if t141.toList = ((strOfNums y144).extract 1 (strOfNums y144).size).toList then (if t138 = 0 then (if t140 = 0 then ((tapewrightlaw07_awake.f).bind fun t148 => (some t148)) else (some false)) else (some false)) else (some false)) else (some false)) else (some false))) else (none)) else ((tapewrightref05_Equal.f t121 t124 t129 t132).bind fun t149 => (if t149 = true then (if (t137 == t139) = true then (if t141.toList = (strOfNums y144).toList then (if t138 = 0 then (if t140 = 0 then ((tapewrightlaw07_awake.f).bind fun t150 => (some t150)) else (some false)) else (some false)) else (some false)) else (some false)) else (some false)))) = some r := by first | (rw [hy144]; with_reducible exact H) | (have H2_ := (Option.bind_some _ _).symm.trans H; rw [hy144]; with_reducible exact H2_) | (have H2_ := (Option.bind_some _ _).symm.trans H; with_reducible exact H2_) | with_reducible exact H | (rw [hy144]; exact H) | exact H
      have Ny144 := Aside0.mk hy144;clear hy144
      by_cases c59 : x17_1 < 10
      ·
       rw [if_pos c59] at H;have c59b0 : decide (x17_1 < 10) = true := decide_eq_true c59;clear c59
       by_cases c60 : 1 ≤ ((strOfNums y144).size : Int)
       ·
        rw [if_pos c60] at H;have c60b0 := eq_true c60;have c60b1 : decide (1 ≤ ((strOfNums y144).size : Int)) = true := decide_eq_true c60;clear c60;replace H := Option.bind_eq_some_iff.mp H;obtain ⟨t147, A610, H⟩ := H;have A61 := Aside0.mk A610;clear A610
        by_cases c62 : t147 = true
        ·
         subst c62;rw [if_pos rfl] at H
         by_cases c63 : (t137 == t139) = true
         ·
          rw [if_pos c63] at H;have c63b0 : (t137 == t139) = true := c63
          (try (have c63b1 : decide (t137 = t139) = true := by simpa using c63))
          (try (have c63b2 : (t137 == t139) = true := by simpa using c63))
          clear c63
          by_cases c64 : t141.toList = ((strOfNums y144).extract 1 (strOfNums y144).size).toList
          ·
           rw [if_pos c64] at H;have c64b0 : (t141.toList == ((strOfNums y144).extract 1 (strOfNums y144).size).toList) = true := beq_iff_eq.mpr c64;have c64b1 : (t141.toList != ((strOfNums y144).extract 1 (strOfNums y144).size).toList) = false := bne_eq_false_iff_eq.mpr c64;clear c64
           by_cases c65 : t138 = 0
           ·
            rw [if_pos c65] at H;have c65b0 : (t138 == 0) = true := beq_iff_eq.mpr c65;have c65b1 : (t138 != 0) = false := bne_eq_false_iff_eq.mpr c65;clear c65
            by_cases c66 : t140 = 0
            ·
             rw [if_pos c66] at H;have c66b0 : (t140 == 0) = true := beq_iff_eq.mpr c66;have c66b1 : (t140 != 0) = false := bne_eq_false_iff_eq.mpr c66;clear c66;replace H := Option.bind_eq_some_iff.mp H;obtain ⟨t148, A670, H⟩ := H;have A67 := Aside0.mk A670;clear A670;obtain rfl := Option.some.inj H
             go_wp2_with (first | ((with_reducible refine gate_dst (N := 90) rfl ?_); refine Kd.R_lit (Kd.int .u8) _ 5 ?hg (N := 90) ?hd (xs := ([(wrap64 (48 + (wrap64 (Int.tdiv x17_1 10)))) % 256, (wrap64 (48 + (Int.tmod x17_1 10))) % 256] : List Int)) (inner := [.int .u8 ((wrap64 (48 + (wrap64 (Int.tdiv x17_1 10)))) % 256), .int .u8 ((wrap64 (48 + (Int.tmod x17_1 10))) % 256)]) (ok := fun _ => True) (okp := fun _ => True) ?hr ?hp (fun _ hk => hk) trivial (Below.refl _ _) (Nat.le_refl _) (by simp) ?_; (case hd => rfl); (case hg => rfl); (case hr => exact T3_); (case hp => exact (Reps.one (show Kd.M (Kd.int .u8) _ _ _ ((wrap64 (48 + (wrap64 (Int.tdiv x17_1 10)))) % 256) [.int .u8 ((wrap64 (48 + (wrap64 (Int.tdiv x17_1 10)))) % 256)] from rfl) (Reps.one (show Kd.M (Kd.int .u8) _ _ _ ((wrap64 (48 + (Int.tmod x17_1 10))) % 256) [.int .u8 ((wrap64 (48 + (Int.tmod x17_1 10))) % 256)] from rfl) (Reps.none _ _)))); intro v145 w68 ho69 hb hg_ hnew_; clear hg_ hnew_; (first | rw [← Ny144.out] at ho69 | (simp only [Int.reduceToNat] at ho69; rw [← Ny144.out] at ho69)); replace HO_112000 := RC_ HO_112000 hb; replace HO_112001 := RC_ HO_112001 hb; replace HO_121000 := RC_ HO_121000 hb; replace HO_121001 := RC_ HO_121001 hb; replace HO_129000 := RC_ HO_129000 hb; replace HO_129001 := RC_ HO_129001 hb; replace HO_137000 := RC_ HO_137000 hb; replace HO_137001 := RC_ HO_137001 hb; have HO146 := Aside0.mk (Kd.R_lower ho69 (below_size T9_)); replace BK101 := BF_ BK101 hb; replace BK111 := BF_ BK111 hb; replace BK120 := BF_ BK120 hb; replace BK128 := BF_ BK128 hb; replace BK136 := BF_ BK136 hb; replace HB := Aside0.mk (below_step T9_ hb); clear hb ho69; have hcv70 := own_string (P := Tryz.prog) Tryz.underlying44 Tryz.underlying5 Tryz.underlying9 (Kd.own_of_R HO146.out); have hnb71 := NB128_101.out; have hnc71 := NB101_128.out; have hnb72 := NB128_111.out; have hnc72 := NB111_128.out; have hnb73 := NB128_120.out; have hnc73 := NB120_128.out; have hnb74 := NB128_136.out; have hnc74 := NB136_128.out; have hcz75_0 : w68.cell? ⟨gb128, 0, none⟩ = some (.slice Ao32 t121.length co32) := (blk_cell BK128.out 0).trans rfl; have hcz75_1 : w68.cell? ⟨gb128, 1, none⟩ = some (.slice Ao37 t124.length co37) := (blk_cell BK128.out 1).trans rfl; have hfz75_0 := blk_frozen BK128.out 0; have hfz75_1 := blk_frozen BK128.out 1; have hnb76 := NB136_101.out; have hnc76 := NB101_136.out; have hnb77 := NB136_111.out; have hnc77 := NB111_136.out; have hnb78 := NB136_120.out; have hnc78 := NB120_136.out; have hcz79_0 : w68.cell? ⟨gb136, 0, none⟩ = some (.slice Ao41 t129.length co41) := (blk_cell BK136.out 0).trans rfl; have hcz79_1 : w68.cell? ⟨gb136, 1, none⟩ = some (.slice Ao47 t132.length co47) := (blk_cell BK136.out 1).trans rfl; have hfz79_0 := blk_frozen BK136.out 0; have hfz79_1 := blk_frozen BK136.out 1) | ((with_reducible refine gate_callee (f := 19) rfl ?_); refine goesL_ (some 98) rfl rfl Tryz.func19 (by kernel_rfl) rfl #[.agg #[.slice Ao32 t121.length co32, .slice Ao37 t124.length co37], .agg #[.slice Ao41 t129.length co41, .slice Ao47 t132.length co47]] rfl T2_ ?_; (with_reducible refine (tapewrightref05_Equal.calls _ _ t121 _ _ t124 _ _ t129 _ _ t132 true _ ?side1 ?side2 ?side3 ?side4 ?side5 ?side6 ?side7 ?side8 A61.out).mono ?_); (case side1 => exact C2_ HO_129000); (case side2 => exact (Kd.R_reads' HO_129000.out).2.1); (case side3 => exact C2_ HO_129001); (case side4 => exact (Kd.R_reads' HO_129001.out).2.1); (case side5 => exact C2_ HO_137000); (case side6 => exact (Kd.R_reads' HO_137000.out).2.1); (case side7 => exact C2_ HO_137001); (case side8 => exact (Kd.R_reads' HO_137001.out).2.1); rintro e w80 ⟨rfl, hb⟩; refine ⟨_, rfl, ?_⟩; replace HO_112000 := RC_ HO_112000 hb; replace HO_112001 := RC_ HO_112001 hb; replace HO_121000 := RC_ HO_121000 hb; replace HO_121001 := RC_ HO_121001 hb; replace HO_129000 := RC_ HO_129000 hb; replace HO_129001 := RC_ HO_129001 hb; replace HO_137000 := RC_ HO_137000 hb; replace HO_137001 := RC_ HO_137001 hb; replace HO146 := RC_ HO146 hb; replace BK101 := BF_ BK101 hb; replace BK111 := BF_ BK111 hb; replace BK120 := BF_ BK120 hb; replace BK128 := BF_ BK128 hb; replace BK136 := BF_ BK136 hb; replace HB := Aside0.mk (below_step T9_ hb); clear hb) | (go_at_call 12; (with_reducible refine (tapewrightlaw07_awake.calls  t148 _ (Err.Gs.below HGs.out T9_) A67.out).mono ?_); rintro e w81 ⟨rfl, hb⟩; replace HO_112000 := RC_ HO_112000 hb; replace HO_112001 := RC_ HO_112001 hb; replace HO_121000 := RC_ HO_121000 hb; replace HO_121001 := RC_ HO_121001 hb; replace HO_129000 := RC_ HO_129000 hb; replace HO_129001 := RC_ HO_129001 hb; replace HO_137000 := RC_ HO_137000 hb; replace HO_137001 := RC_ HO_137001 hb; replace HO146 := RC_ HO146 hb; replace BK101 := BF_ BK101 hb; replace BK111 := BF_ BK111 hb; replace BK120 := BF_ BK120 hb; replace BK128 := BF_ BK128 hb; replace BK136 := BF_ BK136 hb; replace HB := Aside0.mk (below_step T9_ hb); clear hb))
             go_ret
             exact ⟨T4_, T9_⟩
            ·
             rw [if_neg c66] at H;have c66b0 : (t140 == 0) = false := beq_eq_false_iff_ne.mpr c66;have c66b1 : (t140 != 0) = true := bne_iff_ne.mpr c66;exact absurd ((Option.some.inj H).trans HRT.out) (by decide)
           ·
            rw [if_neg c65] at H;have c65b0 : (t138 == 0) = false := beq_eq_false_iff_ne.mpr c65;have c65b1 : (t138 != 0) = true := bne_iff_ne.mpr c65;exact absurd ((Option.some.inj H).trans HRT.out) (by decide)
          ·
           rw [if_neg c64] at H;have c64b0 : (t141.toList == ((strOfNums y144).extract 1 (strOfNums y144).size).toList) = false := beq_eq_false_iff_ne.mpr c64;have c64b1 : (t141.toList != ((strOfNums y144).extract 1 (strOfNums y144).size).toList) = true := bne_iff_ne.mpr c64;exact absurd ((Option.some.inj H).trans HRT.out) (by decide)
         ·
          rw [if_neg c63] at H
          have c63b0 : (t137 == t139) = false := by simpa using c63
          (try (have c63b1 : decide (t137 = t139) = false := by simpa using c63))
          (try (have c63b2 : (t137 == t139) = false := by simpa using c63))
          (try (have c63b3 : ¬ (t137 = t139) := by simpa using c63))
          clear c63;exact absurd ((Option.some.inj H).trans HRT.out) (by decide)
        ·
         replace c62 := Bool.eq_false_iff.mpr c62;subst c62;rw [if_neg (show ¬ (false = true) by decide)] at H;exact absurd ((Option.some.inj H).trans HRT.out) (by decide)
       ·
        rw [if_neg c60] at H;exact absurd H (by simp)
      ·
       rw [if_neg c59] at H;have c59b0 : decide (x17_1 < 10) = false := decide_eq_false c59;clear c59;replace H := Option.bind_eq_some_iff.mp H;obtain ⟨t149, A820, H⟩ := H;have A82 := Aside0.mk A820;clear A820
       by_cases c83 : t149 = true
       ·
        subst c83;rw [if_pos rfl] at H
        by_cases c84 : (t137 == t139) = true
        ·
         rw [if_pos c84] at H;have c84b0 : (t137 == t139) = true := c84
         (try (have c84b1 : decide (t137 = t139) = true := by simpa using c84))
         (try (have c84b2 : (t137 == t139) = true := by simpa using c84))
         clear c84
         by_cases c85 : t141.toList = (strOfNums y144).toList
         ·
          rw [if_pos c85] at H;have c85b0 : (t141.toList == (strOfNums y144).toList) = true := beq_iff_eq.mpr c85;have c85b1 : (t141.toList != (strOfNums y144).toList) = false := bne_eq_false_iff_eq.mpr c85;clear c85
          by_cases c86 : t138 = 0
          ·
           rw [if_pos c86] at H;have c86b0 : (t138 == 0) = true := beq_iff_eq.mpr c86;have c86b1 : (t138 != 0) = false := bne_eq_false_iff_eq.mpr c86;clear c86
           by_cases c87 : t140 = 0
           ·
            rw [if_pos c87] at H;have c87b0 : (t140 == 0) = true := beq_iff_eq.mpr c87;have c87b1 : (t140 != 0) = false := bne_eq_false_iff_eq.mpr c87;clear c87;replace H := Option.bind_eq_some_iff.mp H;obtain ⟨t150, A880, H⟩ := H;have A88 := Aside0.mk A880;clear A880;obtain rfl := Option.some.inj H
            go_wp2_with (first | ((with_reducible refine gate_dst (N := 90) rfl ?_); refine Kd.R_lit (Kd.int .u8) _ 5 ?hg (N := 90) ?hd (xs := ([(wrap64 (48 + (wrap64 (Int.tdiv x17_1 10)))) % 256, (wrap64 (48 + (Int.tmod x17_1 10))) % 256] : List Int)) (inner := [.int .u8 ((wrap64 (48 + (wrap64 (Int.tdiv x17_1 10)))) % 256), .int .u8 ((wrap64 (48 + (Int.tmod x17_1 10))) % 256)]) (ok := fun _ => True) (okp := fun _ => True) ?hr ?hp (fun _ hk => hk) trivial (Below.refl _ _) (Nat.le_refl _) (by simp) ?_; (case hd => rfl); (case hg => rfl); (case hr => exact T3_); (case hp => exact (Reps.one (show Kd.M (Kd.int .u8) _ _ _ ((wrap64 (48 + (wrap64 (Int.tdiv x17_1 10)))) % 256) [.int .u8 ((wrap64 (48 + (wrap64 (Int.tdiv x17_1 10)))) % 256)] from rfl) (Reps.one (show Kd.M (Kd.int .u8) _ _ _ ((wrap64 (48 + (Int.tmod x17_1 10))) % 256) [.int .u8 ((wrap64 (48 + (Int.tmod x17_1 10))) % 256)] from rfl) (Reps.none _ _)))); intro v145 w89 ho90 hb hg_ hnew_; clear hg_ hnew_; (first | rw [← Ny144.out] at ho90 | (simp only [Int.reduceToNat] at ho90; rw [← Ny144.out] at ho90)); replace HO_112000 := RC_ HO_112000 hb; replace HO_112001 := RC_ HO_112001 hb; replace HO_121000 := RC_ HO_121000 hb; replace HO_121001 := RC_ HO_121001 hb; replace HO_129000 := RC_ HO_129000 hb; replace HO_129001 := RC_ HO_129001 hb; replace HO_137000 := RC_ HO_137000 hb; replace HO_137001 := RC_ HO_137001 hb; have HO146 := Aside0.mk (Kd.R_lower ho90 (below_size T9_)); replace BK101 := BF_ BK101 hb; replace BK111 := BF_ BK111 hb; replace BK120 := BF_ BK120 hb; replace BK128 := BF_ BK128 hb; replace BK136 := BF_ BK136 hb; replace HB := Aside0.mk (below_step T9_ hb); clear hb ho90; have hcv91 := own_string (P := Tryz.prog) Tryz.underlying44 Tryz.underlying5 Tryz.underlying9 (Kd.own_of_R HO146.out); have hnb92 := NB128_101.out; have hnc92 := NB101_128.out; have hnb93 := NB128_111.out; have hnc93 := NB111_128.out; have hnb94 := NB128_120.out; have hnc94 := NB120_128.out; have hnb95 := NB128_136.out; have hnc95 := NB136_128.out; have hcz96_0 : w89.cell? ⟨gb128, 0, none⟩ = some (.slice Ao32 t121.length co32) := (blk_cell BK128.out 0).trans rfl; have hcz96_1 : w89.cell? ⟨gb128, 1, none⟩ = some (.slice Ao37 t124.length co37) := (blk_cell BK128.out 1).trans rfl; have hfz96_0 := blk_frozen BK128.out 0; have hfz96_1 := blk_frozen BK128.out 1; have hnb97 := NB136_101.out; have hnc97 := NB101_136.out; have hnb98 := NB136_111.out; have hnc98 := NB111_136.out; have hnb99 := NB136_120.out; have hnc99 := NB120_136.out; have hcz100_0 : w89.cell? ⟨gb136, 0, none⟩ = some (.slice Ao41 t129.length co41) := (blk_cell BK136.out 0).trans rfl; have hcz100_1 : w89.cell? ⟨gb136, 1, none⟩ = some (.slice Ao47 t132.length co47) := (blk_cell BK136.out 1).trans rfl; have hfz100_0 := blk_frozen BK136.out 0; have hfz100_1 := blk_frozen BK136.out 1) | ((with_reducible refine gate_callee (f := 19) rfl ?_); refine goesL_ (some 98) rfl rfl Tryz.func19 (by kernel_rfl) rfl #[.agg #[.slice Ao32 t121.length co32, .slice Ao37 t124.length co37], .agg #[.slice Ao41 t129.length co41, .slice Ao47 t132.length co47]] rfl T2_ ?_; (with_reducible refine (tapewrightref05_Equal.calls _ _ t121 _ _ t124 _ _ t129 _ _ t132 true _ ?side1 ?side2 ?side3 ?side4 ?side5 ?side6 ?side7 ?side8 A82.out).mono ?_); (case side1 => exact C2_ HO_129000); (case side2 => exact (Kd.R_reads' HO_129000.out).2.1); (case side3 => exact C2_ HO_129001); (case side4 => exact (Kd.R_reads' HO_129001.out).2.1); (case side5 => exact C2_ HO_137000); (case side6 => exact (Kd.R_reads' HO_137000.out).2.1); (case side7 => exact C2_ HO_137001); (case side8 => exact (Kd.R_reads' HO_137001.out).2.1); rintro e w101 ⟨rfl, hb⟩; refine ⟨_, rfl, ?_⟩; replace HO_112000 := RC_ HO_112000 hb; replace HO_112001 := RC_ HO_112001 hb; replace HO_121000 := RC_ HO_121000 hb; replace HO_121001 := RC_ HO_121001 hb; replace HO_129000 := RC_ HO_129000 hb; replace HO_129001 := RC_ HO_129001 hb; replace HO_137000 := RC_ HO_137000 hb; replace HO_137001 := RC_ HO_137001 hb; replace HO146 := RC_ HO146 hb; replace BK101 := BF_ BK101 hb; replace BK111 := BF_ BK111 hb; replace BK120 := BF_ BK120 hb; replace BK128 := BF_ BK128 hb; replace BK136 := BF_ BK136 hb; replace HB := Aside0.mk (below_step T9_ hb); clear hb) | (go_at_call 12; (with_reducible refine (tapewrightlaw07_awake.calls  t150 _ (Err.Gs.below HGs.out T9_) A88.out).mono ?_); rintro e w102 ⟨rfl, hb⟩; replace HO_112000 := RC_ HO_112000 hb; replace HO_112001 := RC_ HO_112001 hb; replace HO_121000 := RC_ HO_121000 hb; replace HO_121001 := RC_ HO_121001 hb; replace HO_129000 := RC_ HO_129000 hb; replace HO_129001 := RC_ HO_129001 hb; replace HO_137000 := RC_ HO_137000 hb; replace HO_137001 := RC_ HO_137001 hb; replace HO146 := RC_ HO146 hb; replace BK101 := BF_ BK101 hb; replace BK111 := BF_ BK111 hb; replace BK120 := BF_ BK120 hb; replace BK128 := BF_ BK128 hb; replace BK136 := BF_ BK136 hb; replace HB := Aside0.mk (below_step T9_ hb); clear hb))
            go_ret
            exact ⟨T4_, T9_⟩
           ·
            rw [if_neg c87] at H;have c87b0 : (t140 == 0) = false := beq_eq_false_iff_ne.mpr c87;have c87b1 : (t140 != 0) = true := bne_iff_ne.mpr c87;exact absurd ((Option.some.inj H).trans HRT.out) (by decide)
          ·
           rw [if_neg c86] at H;have c86b0 : (t138 == 0) = false := beq_eq_false_iff_ne.mpr c86;have c86b1 : (t138 != 0) = true := bne_iff_ne.mpr c86;exact absurd ((Option.some.inj H).trans HRT.out) (by decide)
         ·
          rw [if_neg c85] at H;have c85b0 : (t141.toList == (strOfNums y144).toList) = false := beq_eq_false_iff_ne.mpr c85;have c85b1 : (t141.toList != (strOfNums y144).toList) = true := bne_iff_ne.mpr c85;exact absurd ((Option.some.inj H).trans HRT.out) (by decide)
        ·
         rw [if_neg c84] at H
         have c84b0 : (t137 == t139) = false := by simpa using c84
         (try (have c84b1 : decide (t137 = t139) = false := by simpa using c84))
         (try (have c84b2 : (t137 == t139) = false := by simpa using c84))
         (try (have c84b3 : ¬ (t137 = t139) := by simpa using c84))
         clear c84;exact absurd ((Option.some.inj H).trans HRT.out) (by decide)
       ·
        replace c83 := Bool.eq_false_iff.mpr c83;subst c83;rw [if_neg (show ¬ (false = true) by decide)] at H;exact absurd ((Option.some.inj H).trans HRT.out) (by decide)
  ·
   rw [if_neg c5] at H;have c5b0 : (t110 == 0) = false := beq_eq_false_iff_ne.mpr c5;have c5b1 : (t110 != 0) = true := bne_iff_ne.mpr c5
   by_cases c103 : (t107.length : Int) = 0
   ·
    rw [if_pos c103] at H;have c103b0 : ((t107.length : Int) == 0) = true := beq_iff_eq.mpr c103;have c103b1 : ((t107.length : Int) != 0) = false := bne_eq_false_iff_eq.mpr c103;clear c103;replace H := Option.bind_eq_some_iff.mp H;obtain ⟨t112, A1040, H⟩ := H;have A104 := Aside0.mk A1040;clear A1040;obtain rfl := Option.some.inj H;go_enter Tryz.func9, Tryz.ntmps9
    go_wp2_with (first | ((with_reducible refine gate_dst (N := 1) rfl ?_); refine box_event ?hg (N := 1) ?hd (cs := #[.slice A0_0 l0_0.length c0_0, .slice A0_1 l0_1.length c0_1]) (t := 25) ?hr ?_; (case hd => rfl); (case hg => rfl); (case hr => exact T3_); intro gb101 hg w105 hbox hb; have BK101 := Aside0.mk (hbox); have GW101 := GE_ hg; have GE101 := GE_ hg; replace HB := Aside0.mk (below_step T1_ hb); clear hb hbox hg; have hcz106_0 := CA_ BK101; have hcz106_1 := CB_ BK101; have hfz106_0 := blk_frozen BK101.out 0; have hfz106_1 := blk_frozen BK101.out 1) | ((with_reducible refine gate_callee (f := 11) rfl ?_); refine goesL_ (some 22) rfl rfl Tryz.func11 (by kernel_rfl) rfl #[.agg #[.slice A0_0 l0_0.length c0_0, .slice A0_1 l0_1.length c0_1]] rfl T2_ ?_; (with_reducible refine (tapewrightref05_Small.calls _ _ l0_0 _ _ l0_1 true _ ?side1 ?side2 ?side3 ?side4 A2.out).mono ?_); (case side1 => exact C1_ (Kd.C_below HR0_0.out HB.out)); (case side2 => exact HC0_0.out); (case side3 => exact C1_ (Kd.C_below HR0_1.out HB.out)); (case side4 => exact HC0_1.out); rintro e w107 ⟨rfl, hb⟩; refine ⟨_, rfl, ?_⟩; replace BK101 := BF_ BK101 hb; replace HB := Aside0.mk (below_step T9_ hb); clear hb; have hcz108_0 := CA_ BK101; have hcz108_1 := CB_ BK101; have hfz108_0 := blk_frozen BK101.out 0; have hfz108_1 := blk_frozen BK101.out 1) | ((with_reducible refine gate_callee (f := 21) rfl ?_); refine goesL_ (some 27) rfl rfl Tryz.func21 (by kernel_rfl) rfl #[.agg #[.slice A0_0 l0_0.length c0_0, .slice A0_1 l0_1.length c0_1]] rfl T2_ ?_; (with_reducible refine (kink_Sign.calls _ _ l0_0 _ _ l0_1 t104 t107 t110 _ (Err.Gs.below HGs.out T9_) ?side1 ?side2 ?side3 ?side4 A4.out).mono ?_); (case side1 => exact C1_ (Kd.C_below HR0_0.out HB.out)); (case side2 => exact HC0_0.out); (case side3 => exact C1_ (Kd.C_below HR0_1.out HB.out)); (case side4 => exact HC0_1.out); rintro e w109 ⟨v105, v108, rfl, ho0, ho1, hb⟩; refine ⟨_, rfl, ?_⟩; have HO106 := Aside0.mk (Kd.R_lower ho0 (below_size T9_)); have HO109 := Aside0.mk (Kd.R_lower ho1 (below_size T9_)); replace BK101 := BF_ BK101 hb; replace HB := Aside0.mk (below_step T9_ hb); clear hb ho0 ho1) | ((with_reducible refine gate_dst (N := 3) rfl ?_); refine box_event ?hg (N := 3) ?hd (cs := #[.slice none 0 0, .slice none 0 0]) (t := 25) ?hr ?_; (case hd => rfl); (case hg => rfl); (case hr => exact T3_); intro gb111 hg w110 hbox hb; replace HO106 := RC_ HO106 hb; replace HO109 := RC_ HO109 hb; have BK111 := Aside0.mk (hbox); have GW111 := GE_ hg; have GE111 := GE_ hg; replace HB := Aside0.mk (below_step T9_ hb); have NB101_111 := NB_ BK101 hg; have NB111_101 := NC_ BK101 hg; replace BK101 := BF_ BK101 hb; clear hb hbox hg; obtain ⟨Ao111, co111, eo111⟩ := Kd.R_slice HO106.out; subst eo111; have hnb112 := NB111_101.out; have hnc112 := NB101_111.out; have hcz113_0 : w110.cell? ⟨gb111, 0, none⟩ = some (.slice none 0 0) := (blk_cell BK111.out 0).trans rfl; have hcz113_1 : w110.cell? ⟨gb111, 1, none⟩ = some (.slice none 0 0) := (blk_cell BK111.out 1).trans rfl; have hfz113_0 := blk_frozen BK111.out 0; have hfz113_1 := blk_frozen BK111.out 1; obtain ⟨Ao114, co114, eo114⟩ := Kd.R_slice HO109.out; subst eo114) | (go_at_call 12; (with_reducible refine (tapewrightlaw07_awake.calls  t112 _ (Err.Gs.below HGs.out T9_) A104.out).mono ?_); rintro e w115 ⟨rfl, hb⟩; replace HO106 := RC_ HO106 hb; replace HO109 := RC_ HO109 hb; replace BK101 := BG_ BK101 hb; replace BK111 := BP_ BK111 hb; replace HB := Aside0.mk (below_step T9_ hb); clear hb))
    go_ret
    exact ⟨T4_, T9_⟩
   ·
    rw [if_neg c103] at H;have c103b0 : ((t107.length : Int) == 0) = false := beq_eq_false_iff_ne.mpr c103;have c103b1 : ((t107.length : Int) != 0) = true := bne_iff_ne.mpr c103
    have c103b2 : ¬ (t107 = []) := fun h_ => c103 (by rw [h_]; rfl)
    exact absurd ((Option.some.inj H).trans HRT.out) (by decide)
 ·
  replace c3 := Bool.eq_false_iff.mpr c3;subst c3;rw [if_neg (show ¬ (false = true) by decide)] at H;replace H := Option.bind_eq_some_iff.mp H;obtain ⟨t103, A1160, H⟩ := H;have A116 := Aside0.mk A1160;clear A1160;obtain rfl := Option.some.inj H;go_enter Tryz.func9, Tryz.ntmps9
  go_wp2_with (first | ((with_reducible refine gate_dst (N := 1) rfl ?_); refine box_event ?hg (N := 1) ?hd (cs := #[.slice A0_0 l0_0.length c0_0, .slice A0_1 l0_1.length c0_1]) (t := 25) ?hr ?_; (case hd => rfl); (case hg => rfl); (case hr => exact T3_); intro gb101 hg w117 hbox hb; have BK101 := Aside0.mk (hbox); have GW101 := GE_ hg; have GE101 := GE_ hg; replace HB := Aside0.mk (below_step T1_ hb); clear hb hbox hg; have hcz118_0 := CA_ BK101; have hcz118_1 := CB_ BK101; have hfz118_0 := blk_frozen BK101.out 0; have hfz118_1 := blk_frozen BK101.out 1) | ((with_reducible refine gate_callee (f := 11) rfl ?_); refine goesL_ (some 22) rfl rfl Tryz.func11 (by kernel_rfl) rfl #[.agg #[.slice A0_0 l0_0.length c0_0, .slice A0_1 l0_1.length c0_1]] rfl T2_ ?_; (with_reducible refine (tapewrightref05_Small.calls _ _ l0_0 _ _ l0_1 false _ ?side1 ?side2 ?side3 ?side4 A2.out).mono ?_); (case side1 => exact C1_ (Kd.C_below HR0_0.out HB.out)); (case side2 => exact HC0_0.out); (case side3 => exact C1_ (Kd.C_below HR0_1.out HB.out)); (case side4 => exact HC0_1.out); rintro e w119 ⟨rfl, hb⟩; refine ⟨_, rfl, ?_⟩; replace BK101 := BF_ BK101 hb; replace HB := Aside0.mk (below_step T9_ hb); clear hb) | ((with_reducible refine gate_callee (f := 12) rfl ?_); refine goesL_ (some 24) rfl rfl Tryz.func12 (by kernel_rfl) rfl #[] rfl T2_ ?_; (with_reducible refine (tapewrightlaw07_awake.calls  t103 _ (Err.Gs.below HGs.out T9_) A116.out).mono ?_); rintro e w120 ⟨rfl, hb⟩; refine ⟨_, rfl, ?_⟩; replace BK101 := BF_ BK101 hb; replace HB := Aside0.mk (below_step T9_ hb); clear hb))
  go_ret
  exact ⟨T4_, T9_⟩
end Go.Proofs.YtndkjpkgllmbnaaGreatDoor.PQG
