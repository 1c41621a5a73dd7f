-- by wip/tool/mine.py of this repo (the kit's printer with given contracts)
import Derived.Test.YtmmonhgfnmeieaaGreatDoorProg
import Derived.Test.YtmmonhgfnmeieaaGreatDoorWd
import Derived.Below
import Derived.Deep.Draws
import Derived.Deep.AppendLies
import Derived.Maps.AppendAt
import Derived.OwnWalk
import Derived.Laws.BytesArg
import Derived.Laws.MakeOwn
import Derived.Laws.OwnMore
import Derived.Deep.OwnRows
import Derived.Tactics
import Derived.Lib.ConvBytes
import Derived.Laws.Slices
import Derived.WalkKit
import Derived.KernelRfl
import Derived.RowKit3
import Derived.Deep.LoopGhost
import Derived.Deep.QuietTactic
import Derived.BigQuiet
import Derived.WideLaws
import Derived.Deep.DeepCutAuto
import Derived.Deep.CutBlock
import Derived.Deep.RegionHeld3
import Derived.Laws.Rows
import Derived.Lib.AppendStr
import Derived.ArgAppend
import Derived.Laws.IdiomCopy
import Derived.OrdersHeld
import Derived.Laws.BitsLemmas
import Derived.RowKit
import Derived.Test.YtmmonhgfnmeieaaGreatDoorMine
import Derived.Test.YtmmonhgfnmeieaaGreatDoorPureAwW
import Derived.Test.YtmmonhgfnmeieaaGreatDoorArrP
import Derived.Test.YtmmonhgfnmeieaaGreatDoorArrO
import Derived.Test.YtmmonhgfnmeieaaGreatDoorRatOa
namespace Go.Proofs.YtmmonhgfnmeieaaGreatDoor.PQS
open Go.RowKit Go.Proofs.YtmmonhgfnmeieaaGreatDoorW.PrintWords Go.Proofs.YtmmonhgfnmeieaaGreatDoorW.PrintLast Go.Proofs.YtmmonhgfnmeieaaGreatDoorW.PrintMore
attribute [local go_sem] max2_int min2_int max_two min_two max_three min_three max_four min_four   -- for this text's walks alone
set_option linter.unusedVariables false
set_option linter.unusedSimpArgs false
set_option maxHeartbeats 8000000
set_option maxRecDepth 100000
def errW : Option Int → Value
 | none => .nilIface
 | some c => .iface 0 (.int .i64 c)
theorem errW_none : errW none = .nilIface := rfl
theorem errW_some (c : Int) : errW (some c) = .iface 0 (.int .i64 c) := rfl
theorem info9 : (Tryz.prog.info? 9).map (fun i => (i.zero, i.size, i.bytes)) = some (some (.string ⟨#[]⟩), 1, 16) := by kernel_rfl
/-! ### tapewrightlaw06_awake: function 13 -/
noncomputable def tapewrightlaw06_awake.f : Option Bool := some true
theorem tapewrightlaw06_awake.calls (r : Bool) (w : World) (hG : Err.Gs w) (h : tapewrightlaw06_awake.f = some r) :
  Calls Tryz.prog 13 #[] w fun e w' => e = .returned (.bool r) ∧ Below w.heap.size w w' := by
 obtain rfl := Option.some.inj h;exact Pure.awake_calls w hG
/-! ### array_Total: function 22 -/
open Classical in
noncomputable def array_Total.f (l0_0 : List Int) (l0_1 : List ByteArray) : Option (List Int × List ByteArray × Int) := if Ten.Sm l0_0 l0_1 ∧ ∀ p, (Ten.accS (l0_1.take p)).size ≤ 40000000000 then some ((Ten.tTotal ⟨l0_0, l0_1⟩).1.s, (Ten.tTotal ⟨l0_0, l0_1⟩).1.d, (Ten.tTotal ⟨l0_0, l0_1⟩).2) else none
theorem array_Total.calls (A0_0 : Option Addr) (c0_0 : Nat) (l0_0 : List Int) (A0_1 : Option Addr) (c0_1 : Nat) (l0_1 : List ByteArray) (r1 : List Int) (r2 : List ByteArray) (r3 : Int) (w : World) (hG : Err.Gs w) (hr0_0 : Kd.C (Kd.int .i64) w A0_0 l0_0.length l0_0) (hc0_0 : l0_0.length ≤ c0_0) (hr0_1 : Kd.C Kd.string w A0_1 l0_1.length l0_1) (hc0_1 : l0_1.length ≤ c0_1) (h : array_Total.f l0_0 l0_1 = some (r1, r2, r3)) :
  Calls Tryz.prog 22 #[.agg #[.slice A0_0 l0_0.length c0_0, .slice A0_1 l0_1.length c0_1]] w fun e w' => ∃ v0_ v1_ : Value, e = .returned (.tuple #[.agg #[v0_, v1_], .int .i64 r3]) ∧ Kd.R (Kd.int .i64) 3 w' w.heap.size (fun _ => True) v0_ r1 ∧ Kd.R Kd.string 9 w' w.heap.size (fun _ => True) v1_ r2 ∧ Below w.heap.size w w' := by
 unfold array_Total.f at h
 split at h
 ·
  rename_i hl
  injection h with h;injection h with h1 h2;injection h2 with h2 h3;subst h1 h2 h3;exact Ten.total_calls A0_0 c0_0 A0_1 c0_1 l0_0 l0_1 w hG hr0_0 hc0_0 hr0_1 hc0_1 hl.1 hl.2
 ·
  cases h
theorem array_Total.of (l0_0 : List Int) (l0_1 : List ByteArray) (h : Ten.Sm l0_0 l0_1 ∧ ∀ p, (Ten.accS (l0_1.take p)).size ≤ 40000000000) : array_Total.f l0_0 l0_1 = some ((Ten.tTotal ⟨l0_0, l0_1⟩).1.s, (Ten.tTotal ⟨l0_0, l0_1⟩).1.d, (Ten.tTotal ⟨l0_0, l0_1⟩).2) := by rw [array_Total.f, if_pos h]
/-! ### array_Spread: function 24 -/
open Classical in
noncomputable def array_Spread.f (l0_0 : List Int) (l0_1 : List ByteArray) (l1 : List Int) : Option (List Int × List ByteArray × Int) := if Ten.Sm l0_0 l0_1 ∧ l1.length ≤ 1000 then some ((Ten.tSpread ⟨l0_0, l0_1⟩ l1).1.s, (Ten.tSpread ⟨l0_0, l0_1⟩ l1).1.d, (Ten.tSpread ⟨l0_0, l0_1⟩ l1).2) else none
theorem array_Spread.calls (A0_0 : Option Addr) (c0_0 : Nat) (l0_0 : List Int) (A0_1 : Option Addr) (c0_1 : Nat) (l0_1 : List ByteArray) (A1 : Option Addr) (c1 : Nat) (l1 : List Int) (r1 : List Int) (r2 : List ByteArray) (r3 : Int) (w : World) (hG : Err.Gs w) (hr0_0 : Kd.C (Kd.int .i64) w A0_0 l0_0.length l0_0) (hc0_0 : l0_0.length ≤ c0_0) (hr0_1 : Kd.C Kd.string w A0_1 l0_1.length l0_1) (hc0_1 : l0_1.length ≤ c0_1) (hr1 : Kd.C (Kd.int .i64) w A1 l1.length l1) (hc1 : l1.length ≤ c1) (h : array_Spread.f l0_0 l0_1 l1 = some (r1, r2, r3)) :
  Calls Tryz.prog 24 #[.agg #[.slice A0_0 l0_0.length c0_0, .slice A0_1 l0_1.length c0_1], .slice A1 l1.length c1] w fun e w' => ∃ v0_ v1_ : Value, e = .returned (.tuple #[.agg #[v0_, v1_], .int .i64 r3]) ∧ Kd.R (Kd.int .i64) 3 w' w.heap.size (fun _ => True) v0_ r1 ∧ Kd.R Kd.string 9 w' w.heap.size (fun _ => True) v1_ r2 ∧ Below w.heap.size w w' := by
 unfold array_Spread.f at h
 split at h
 ·
  rename_i hl
  injection h with h;injection h with h1 h2;injection h2 with h2 h3;subst h1 h2 h3;exact Ten.spread_calls A0_0 c0_0 A0_1 c0_1 l0_0 l0_1 A1 c1 l1 w hG hr0_0 hc0_0 hr0_1 hc0_1 hl.1 hr1 hc1 hl.2
 ·
  cases h
theorem array_Spread.of (l0_0 : List Int) (l0_1 : List ByteArray) (l1 : List Int) (h : Ten.Sm l0_0 l0_1 ∧ l1.length ≤ 1000) : array_Spread.f l0_0 l0_1 l1 = some ((Ten.tSpread ⟨l0_0, l0_1⟩ l1).1.s, (Ten.tSpread ⟨l0_0, l0_1⟩ l1).1.d, (Ten.tSpread ⟨l0_0, l0_1⟩ l1).2) := by rw [array_Spread.f, if_pos h]
/-! ### rat_Add: function 25 -/
noncomputable def rat_Add.f (a0 : ByteArray) (a1 : ByteArray) : Option (ByteArray × Int) := if a0.size ≤ 40000000000 ∧ a1.size ≤ 40000000000 then some (Err.rAdd a0 a1) else none
theorem rat_Add.calls (a0 : ByteArray) (a1 : ByteArray) (r1 : ByteArray) (r2 : Int) (w : World) (hG : Err.Gs w) (h : rat_Add.f a0 a1 = some (r1, r2)) :
  Calls Tryz.prog 25 #[.string a0, .string a1] w fun e w' => e = .returned (.tuple #[.string r1, .int .i64 r2]) ∧ Below w.heap.size w w' := by
 unfold rat_Add.f at h
 by_cases c : a0.size ≤ 40000000000 ∧ a1.size ≤ 40000000000
 ·
  rw [if_pos c] at h;injection h with h;have := Err.add_calls a0 a1 c.1 c.2 w hG;rw [h] at this;exact this
 ·
  rw [if_neg c] at h
  cases h
theorem rat_Add.of (a b : ByteArray) (ha : a.size ≤ 40000000000) (hb : b.size ≤ 40000000000) : rat_Add.f a b = some (Err.rAdd a b) := by rw [rat_Add.f, if_pos ⟨ha, hb⟩]
theorem rat_Add.rt {x y : Rat} (hx : Err.Fr x) (hy : Err.Fr y) : rat_Add.f (Err.rt x) (Err.rt y) = some (Err.rt (x + y), 0) := by
 rw [rat_Add.of _ _ hx.size hy.size, Err.rAdd, Err.rv_rt, Err.rv_rt]
/-! ### tapewrightlaw06_ArrayScalars: function 10 -/
mutual
noncomputable def tapewrightlaw06_ArrayScalars.j0 : Nat → ByteArray → List Int → Bool → Option (Bool)
 | 0, _, _, _ => none
 | k + 1, x0, x1, x17 => if x17 = true then ((tapewrightlaw06_awake.f).bind fun t101 => (some t101)) else ((array_Spread.f ([] : List Int) (([x0] : List ByteArray)) x1).bind fun bt105 => (if bt105.2.2 = 0 then ((array_Total.f bt105.1 bt105.2.1).bind fun bt114 => (tapewrightlaw06_ArrayScalars.l0 k x0 bt114.2.2 (⟨#[48]⟩ : ByteArray) (bt105.2.1.length : Int) 0 bt105.1 bt105.2.1 bt114.1 bt114.2.1)) else (if (bt105.2.1.length : Int) = 0 then (if bt105.2.2 = 1 then ((tapewrightlaw06_awake.f).bind fun t113 => (some t113)) else (some false)) else (some false))))
noncomputable def tapewrightlaw06_ArrayScalars.l0 : Nat → ByteArray → Int → ByteArray → Int → Int → List Int → List ByteArray → List Int → List ByteArray → Option (Bool)
 | 0, _, _, _, _, _, _, _, _, _ => none
 | k + 1, x0, x8, x9, x47, x48, x113000, x113001, x122000, x122001 => if x48 < x47 then ((rat_Add.f x9 x0).bind fun bt122 => (tapewrightlaw06_ArrayScalars.l0 k x0 x8 bt122.1 x47 (wrap64 (x48 + 1)) x113000 x113001 x122000 x122001)) else (if (x113001.length : Int) ≥ 1 then (if (x122000.length : Int) = 0 then (if (x122001.length : Int) = 1 then (if 0 < (x122001.length : Int) then (if (rdOf ByteArray.empty x122001 0).toList = x9.toList then (if x8 = 0 then ((tapewrightlaw06_awake.f).bind fun t125 => (some t125)) else (some false)) else (some false)) else (none)) else (some false)) else (some false)) else (some false))
end
noncomputable def tapewrightlaw06_ArrayScalars.f (k : Nat) (a0 : ByteArray) (l1 : List Int) : Option (Bool) := if (a0.size : Int) > 20 then (tapewrightlaw06_ArrayScalars.j0 k a0 l1 true) else (tapewrightlaw06_ArrayScalars.j0 k a0 l1 (decide ((l1.length : Int) > 10)))
theorem tapewrightlaw06_ArrayScalars.calls (k : Nat) (a0 : ByteArray) (A1 : Option Addr) (c1 : Nat) (l1 : List Int) (r : Bool) (w : World) (hG : Err.Gs w) (hrt : r = true) (hr1 : Kd.C (Kd.int .i64) w A1 l1.length l1) (hc1 : l1.length ≤ c1) (h : tapewrightlaw06_ArrayScalars.f k a0 l1 = some r) :
  Calls Tryz.prog 10 #[.string a0, .slice A1 l1.length c1] w fun e w' => e = .returned (.bool r) ∧ Below w.heap.size w w' := by
 have hu25 := Tryz.underlying25;have HR1 := Aside0.mk hr1;have HC1 := Aside0.mk hc1;clear hr1 hc1;have HB := Aside0.mk (Below.refl w.heap.size w);have HGs := Aside0.mk hG;clear hG;have HRT := Aside0.mk hrt;clear hrt;unfold tapewrightlaw06_ArrayScalars.f at h;have H := h;clear h;have HC3 := Aside0.mk H;clear H;go_enter Tryz.func10, Tryz.ntmps10
 go_upto_region 1 with (fail)
 go_cut [17] (fun v17 wc => ∃ (kq : Nat) (x17_2 : Bool), v17 = .bool x17_2 ∧ Aside0 (tapewrightlaw06_ArrayScalars.j0 kq a0 l1 x17_2 = some r) ∧ Aside0 (kq ≤ k) ∧ Aside0 (Below w.heap.size w wc))
 case first =>
  have H := HC3.out;clear HC3
  by_cases c4 : (a0.size : Int) > 20
  ·
   rw [if_pos c4] at H;have c4b0 : decide (20 < (a0.size : Int)) = true := decide_eq_true c4;have c4b1 : decide (20 < a0.size) = true := decide_eq_true (by omega);clear c4
   (first | rw [c4b0] | (simp only [i64_w, i32_w]; rw [c4b0]) | skip)
   have H' := Aside0.mk H;clear H
   go_wp2
   go_meet
   case rel => exact ⟨_, (true), S1_, H', ⟨by first | omega | exact Nat.le_refl _⟩, ⟨T1_⟩⟩
  ·
   rw [if_neg c4] at H;have c4b0 : decide (20 < (a0.size : Int)) = false := decide_eq_false c4;have c4b1 : decide (20 < a0.size) = false := decide_eq_false (by omega);clear c4
   (first | rw [c4b0] | (simp only [i64_w, i32_w]; rw [c4b0]) | skip)
   have H' := Aside0.mk H;clear H
   go_wp2
   go_meet
   case rel => exact ⟨_, (decide ((l1.length : Int) > 10)), S1_, H', ⟨by first | omega | exact Nat.le_refl _⟩, ⟨T1_⟩⟩
 case rest =>
  clear HC3
  try clear c1
  try clear p2
  try clear c4
  try clear c4b0
  try clear c4b1
  obtain ⟨kq, x17_2, rfl, HA, HJ2, HB⟩ := hcut
  cases kq with
  | zero => exact absurd HA.out (by simp [tapewrightlaw06_ArrayScalars.j0])
  | succ kj2 =>
   have H := HA.out;clear HA;simp only [tapewrightlaw06_ArrayScalars.j0] at H
   by_cases c5 : x17_2 = true
   ·
    subst c5;rw [if_pos rfl] at H;replace H := Option.bind_eq_some_iff.mp H;obtain ⟨t101, A60, H⟩ := H;have A6 := Aside0.mk A60;clear A60;obtain rfl := Option.some.inj H
    go_wp2_with (first | ((with_reducible refine gate_callee (f := 13) rfl ?_); refine goesL_ (some 18) rfl rfl Tryz.func13 (by kernel_rfl) rfl #[] rfl T2_ ?_; (with_reducible refine (tapewrightlaw06_awake.calls  t101 _ (Err.Gs.below HGs.out T1_) A6.out).mono ?_); rintro e w7 ⟨rfl, hb⟩; refine ⟨_, rfl, ?_⟩; replace HB := Aside0.mk (below_step T1_ hb); clear hb))
    go_ret
    exact ⟨T4_, T1_⟩
   ·
    replace c5 := Bool.eq_false_iff.mpr c5;subst c5;rw [if_neg (show ¬ (false = true) by decide)] at H;obtain ⟨y102, hy102⟩ : ∃ y_ : List ByteArray, y_ = (([a0] : List ByteArray)) := ⟨_, rfl⟩
    replace H : ((array_Spread.f ([] : List Int) y102 l1).bind fun bt105 => (if bt105.2.2 = 0 then ((array_Total.f bt105.1 bt105.2.1).bind fun bt114 => (tapewrightlaw06_ArrayScalars.l0 kj2 a0 bt114.2.2 (⟨#[48]⟩ : ByteArray) (bt105.2.1.length : Int) 0 bt105.1 bt105.2.1 bt114.1 bt114.2.1)) else (if (bt105.2.1.length : Int) = 0 then (if bt105.2.2 = 1 then ((tapewrightlaw06_awake.f).bind fun t113 => (some t113)) else (some false)) else (some false)))) = some r := by first | (rw [hy102]; with_reducible exact H) | (have H2_ := (Option.bind_some _ _).symm.trans H; rw [hy102]; with_reducible exact H2_) | (have H2_ := (Option.bind_some _ _).symm.trans H; with_reducible exact H2_) | with_reducible exact H | (rw [hy102]; exact H) | exact H
    have Ny102 := Aside0.mk hy102;clear hy102;replace H := Option.bind_eq_some_iff.mp H;obtain ⟨⟨t105, t108, t111⟩, A80, H⟩ := H;have A8 := Aside0.mk A80;clear A80
    by_cases c9 : t111 = 0
    ·
     rw [if_pos c9] at H;have c9b0 : (t111 == 0) = true := beq_iff_eq.mpr c9;have c9b1 : (t111 != 0) = false := bne_eq_false_iff_eq.mpr c9;clear c9;replace H := Option.bind_eq_some_iff.mp H;obtain ⟨⟨t114, t117, t120⟩, A100, H⟩ := H;have A10 := Aside0.mk A100;clear A100;have H' := Aside0.mk H;clear H
     go_wp2_with (first | ((with_reducible refine gate_dst (N := 21) rfl ?_); (try (refine gate_guard (by rfl) ?_; dsimp only)); refine Kd.R_lit Kd.string _ 9 ?hg (N := 21) ?hd (xs := ([a0] : List ByteArray)) (inner := [.string a0]) (ok := fun _ => True) (okp := fun _ => True) ?hr ?hp (fun _ hk => hk) trivial (Below.refl _ _) (Nat.le_refl _) (by simp) ?_; (case hd => rfl); (case hg => rfl); (case hr => exact T3_); (case hp => exact (Reps.one (show Kd.M Kd.string _ _ _ a0 [.string a0] from rfl) (Reps.none _ _))); intro v103 w11 ho12 hb hg_ hnew_; clear hg_ hnew_; (first | rw [← Ny102.out] at ho12 | (simp only [Int.reduceToNat] at ho12; rw [← Ny102.out] at ho12)); have HO104 := Aside0.mk (Kd.R_lower ho12 (below_size T1_)); replace HB := Aside0.mk (below_step T1_ hb); clear hb ho12; obtain ⟨Ao13, co13, eo13⟩ := Kd.R_slice HO104.out; subst eo13) | ((with_reducible refine gate_callee (f := 24) rfl ?_); refine goesL_ (some 24) rfl rfl Tryz.func24 (by kernel_rfl) rfl #[.agg #[.slice none 0 0, .slice Ao13 y102.length co13], .slice A1 l1.length c1] rfl T2_ ?_; (refine (array_Spread.calls _ _ ([] : List Int) _ _ y102 _ _ l1 t105 t108 t111 _ (Err.Gs.below HGs.out T1_) ?side1 ?side2 ?side3 ?side4 ?side5 ?side6 A8.out).mono ?_); (case side1 => exact Kd.C_nil _ _); (case side2 => exact Nat.le_refl _); (case side3 => exact C2_ HO104); (case side4 => exact (Kd.R_reads' HO104.out).2.1); (case side5 => exact C1_ (Kd.C_below HR1.out HB.out)); (case side6 => exact HC1.out); rintro e w14 ⟨v106, v109, rfl, ho0, ho1, hb⟩; refine ⟨_, rfl, ?_⟩; have HO107 := Aside0.mk (Kd.R_lower ho0 (below_size T1_)); have HO110 := Aside0.mk (Kd.R_lower ho1 (below_size T1_)); replace HO104 := RC_ HO104 hb; replace HB := Aside0.mk (below_step T1_ hb); clear hb ho0 ho1) | ((with_reducible refine gate_dst (N := 5) rfl ?_); (try (refine gate_guard (by rfl) ?_; dsimp only)); refine box_event ?hg (N := 5) ?hd (cs := #[.slice none 0 0, .slice none 0 0]) (t := 25) ?hr ?_; (case hd => rfl); (case hg => rfl); (case hr => exact T3_); intro gb112 hg w15 hbox hb; replace HO104 := RC_ HO104 hb; replace HO107 := RC_ HO107 hb; replace HO110 := RC_ HO110 hb; have BK112 := Aside0.mk (hbox); have GW112 := GE_ hg; have GE112 := GE_ hg; replace HB := Aside0.mk (below_step T1_ hb); clear hb hbox hg; obtain ⟨Ao16, co16, eo16⟩ := Kd.R_slice HO107.out; subst eo16; have hcz17_0 := CA_ BK112; have hcz17_1 := CB_ BK112; have hfz17_0 := blk_frozen BK112.out 0; have hfz17_1 := blk_frozen BK112.out 1; obtain ⟨Ao18, co18, eo18⟩ := Kd.R_slice HO110.out; subst eo18) | ((with_reducible refine gate_callee (f := 22) rfl ?_); refine goesL_ (some 42) rfl rfl Tryz.func22 (by kernel_rfl) rfl #[.agg #[.slice Ao16 t105.length co16, .slice Ao18 t108.length co18]] rfl T2_ ?_; (with_reducible refine (array_Total.calls _ _ t105 _ _ t108 t114 t117 t120 _ (Err.Gs.below HGs.out T9_) ?side1 ?side2 ?side3 ?side4 A10.out).mono ?_); (case side1 => exact C2_ HO107); (case side2 => exact (Kd.R_reads' HO107.out).2.1); (case side3 => exact C2_ HO110); (case side4 => exact (Kd.R_reads' HO110.out).2.1); rintro e w19 ⟨v115, v118, rfl, ho0, ho1, hb⟩; refine ⟨_, rfl, ?_⟩; have HO116 := Aside0.mk (Kd.R_lower ho0 (below_size T9_)); replace HO107 := RC_ HO107 hb; have HO119 := Aside0.mk (Kd.R_lower ho1 (below_size T9_)); replace HO104 := RC_ HO104 hb; replace HO110 := RC_ HO110 hb; replace BK112 := BP_ BK112 hb; replace HB := Aside0.mk (below_step T9_ hb); clear hb ho0 ho1) | ((with_reducible refine gate_dst (N := 7) rfl ?_); (try (refine gate_guard (by rfl) ?_; dsimp only)); refine box_event ?hg (N := 7) ?hd (cs := #[.slice none 0 0, .slice none 0 0]) (t := 25) ?hr ?_; (case hd => rfl); (case hg => rfl); (case hr => exact T3_); intro gb121 hg w20 hbox hb; replace HO104 := RC_ HO104 hb; replace HO107 := RC_ HO107 hb; replace HO110 := RC_ HO110 hb; replace HO116 := RC_ HO116 hb; replace HO119 := RC_ HO119 hb; have BK121 := Aside0.mk (hbox); have GW121 := GE_ hg; have GE121 := GE_ hg; replace HB := Aside0.mk (below_step T9_ hb); have NB112_121 := NB_ BK112 hg; have NB121_112 := NC_ BK112 hg; replace BK112 := BF_ BK112 hb; clear hb hbox hg; obtain ⟨Ao21, co21, eo21⟩ := Kd.R_slice HO116.out; subst eo21; have hnb22 := NB121_112.out; have hnc22 := NB112_121.out; have hcz23_0 : w20.cell? ⟨gb121, 0, none⟩ = some (.slice none 0 0) := (blk_cell BK121.out 0).trans rfl; have hcz23_1 : w20.cell? ⟨gb121, 1, none⟩ = some (.slice none 0 0) := (blk_cell BK121.out 1).trans rfl; have hfz23_0 := blk_frozen BK121.out 0; have hfz23_1 := blk_frozen BK121.out 1; obtain ⟨Ao24, co24, eo24⟩ := Kd.R_slice HO119.out; subst eo24; have hcz25_0 := CA_ BK112; have hcz25_1 := CB_ BK112; have hfz25_0 := blk_frozen BK112.out 0; have hfz25_1 := blk_frozen BK112.out 1))
     go_loopg [9, 48] kj2 (fun kq v9 v48 w' => ∃ (x9_2 : ByteArray) (x48_2 : Int), v9 = .string x9_2 ∧ v48 = .int .i64 x48_2 ∧ Aside0 (tapewrightlaw06_ArrayScalars.l0 kq a0 t120 x9_2 (t108.length : Int) x48_2 t105 t108 t114 t117 = some r) ∧ Aside0 (kq ≤ kj2) ∧ Aside0 (Kd.R (Kd.int .i64) 3 w' w.heap.size (fun _ => True) (.slice Ao16 t105.length co16) t105) ∧ Aside0 (Kd.R Kd.string 9 w' w.heap.size (fun _ => True) (.slice Ao18 t108.length co18) t108) ∧ Aside0 (Kd.R (Kd.int .i64) 3 w' w.heap.size (fun _ => True) (.slice Ao21 t114.length co21) t114) ∧ Aside0 (Kd.R Kd.string 9 w' w.heap.size (fun _ => True) (.slice Ao24 t117.length co24) t117) ∧ Aside0 (w'.heap[gb112]? = some (.cells #[(.slice Ao16 t105.length co16), (.slice Ao18 t108.length co18)] 25 (0, 0))) ∧ Aside0 (w'.heap[gb121]? = some (.cells #[(.slice Ao21 t114.length co21), (.slice Ao24 t117.length co24)] 25 (0, 0))) ∧ Aside0 (Below w.heap.size w w'))
     case atStart => exact ⟨((⟨#[48]⟩ : ByteArray)), (0), S1_, S1_, H', ⟨Nat.le_refl _⟩, RW_ HO107, RW_ HO110, RW_ HO116, RW_ HO119, BW_ BK112, ⟨by (with_reducible repeat (first | refine blk_drewN ?_ _ | refine blk_drew ?_ | refine blk_alloc ?_ _)); refine blk_put (cs := #[.slice Ao21 t114.length co21, .slice none 0 0]) ?_ 1 _ rfl; (with_reducible repeat (first | refine blk_drewN ?_ _ | refine blk_drew ?_ | refine blk_alloc ?_ _)); refine blk_put (cs := #[.slice none 0 0, .slice none 0 0]) ?_ 0 _ rfl; (with_reducible repeat (first | refine blk_drewN ?_ _ | refine blk_drew ?_ | refine blk_alloc ?_ _)); exact BK121.out⟩, ⟨T9_⟩⟩
     case round =>
      clear H'
      try clear c1
      try clear c2
      try clear p2
      try clear c4
      try clear c4b0
      try clear c4b1
      try clear c5
      try clear c9
      try clear c9b0
      try clear c9b1
      try clear c10
      try clear c13
      try clear c22
      try clear c24
      try clear hcz17_0
      try clear hcz17_1
      try clear hcz23_0
      try clear hcz23_1
      try clear hcz25_0
      try clear hcz25_1
      try clear hfz17_0
      try clear hfz17_1
      try clear hfz23_0
      try clear hfz23_1
      try clear hfz25_0
      try clear hfz25_1
      try clear p2
      obtain ⟨x9_2, x48_2, rfl, rfl, HA, HK2, HO_113000, HO_113001, HO_122000, HO_122001, BK112, BK121, HB⟩ := hrel
      cases gk with
      | zero => exact absurd HA.out (by simp [tapewrightlaw06_ArrayScalars.l0])
      | succ k2 =>
       have H := HA.out;clear HA;simp only [tapewrightlaw06_ArrayScalars.l0] at H
       by_cases c26 : x48_2 < (t108.length : Int)
       ·
        rw [if_pos c26] at H;have c26b0 : decide (x48_2 < (t108.length : Int)) = true := decide_eq_true c26;clear c26;replace H := Option.bind_eq_some_iff.mp H;obtain ⟨⟨t122, t123⟩, A270, H⟩ := H;have A27 := Aside0.mk A270;clear A270;have H' := Aside0.mk H;clear H
        go_wp2_with (first | ((with_reducible refine gate_callee (f := 25) rfl ?_); refine goesL_ (some 53) rfl rfl Tryz.func25 (by kernel_rfl) rfl #[.string x9_2, .string a0] rfl T2_ ?_; (with_reducible refine (rat_Add.calls x9_2 a0 t122 t123 _ (Err.Gs.below HGs.out T9_) A27.out).mono ?_); rintro e w28 ⟨rfl, hb⟩; refine ⟨_, rfl, ?_⟩; replace HO_113000 := RC_ HO_113000 hb; replace HO_113001 := RC_ HO_113001 hb; replace HO_122000 := RC_ HO_122000 hb; replace HO_122001 := RC_ HO_122001 hb; replace BK112 := BF_ BK112 hb; replace BK121 := BF_ BK121 hb; replace HB := Aside0.mk (below_step T9_ hb); clear hb))
        go_roundg k2
        case measure => have := HJ2.out; have := HK2.out; omega
        case rel => exact ⟨(t122), (wrap64 (x48_2 + 1)), S1_, S1_, H', ⟨by have := HJ2.out; have := HK2.out; omega⟩, ⟨by (with_reducible repeat (first | apply Kd.R_alloc | apply Kd.R_drewN | apply Kd.R_drew)); exact HO_113000.out⟩, ⟨by (with_reducible repeat (first | apply Kd.R_alloc | apply Kd.R_drewN | apply Kd.R_drew)); exact HO_113001.out⟩, ⟨by (with_reducible repeat (first | apply Kd.R_alloc | apply Kd.R_drewN | apply Kd.R_drew)); exact HO_122000.out⟩, ⟨by (with_reducible repeat (first | apply Kd.R_alloc | apply Kd.R_drewN | apply Kd.R_drew)); exact HO_122001.out⟩, BW_ BK112, BW_ BK121, ⟨T9_⟩⟩
       ·
        rw [if_neg c26] at H;have c26b0 : decide (x48_2 < (t108.length : Int)) = false := decide_eq_false c26;clear c26
        by_cases c29 : (t108.length : Int) ≥ 1
        ·
         rw [if_pos c29] at H;have c29b0 : decide (1 ≤ (t108.length : Int)) = true := decide_eq_true c29;have c29b1 : decide (1 ≤ t108.length) = true := decide_eq_true (by omega);clear c29
         by_cases c30 : (t114.length : Int) = 0
         ·
          rw [if_pos c30] at H;have c30b0 : ((t114.length : Int) == 0) = true := beq_iff_eq.mpr c30;have c30b1 : ((t114.length : Int) != 0) = false := bne_eq_false_iff_eq.mpr c30;clear c30
          by_cases c31 : (t117.length : Int) = 1
          ·
           rw [if_pos c31] at H;have c31b0 : ((t117.length : Int) == 1) = true := beq_iff_eq.mpr c31;have c31b1 : ((t117.length : Int) != 1) = false := bne_eq_false_iff_eq.mpr c31;clear c31
           by_cases c32 : 0 < (t117.length : Int)
           ·
            rw [if_pos c32] at H;have c32b0 : decide (0 < (t117.length : Int)) = true := decide_eq_true c32;have c32b1 : decide (0 < t117.length) = true := decide_eq_true (by omega);clear c32
            by_cases c33 : (rdOf ByteArray.empty t117 0).toList = x9_2.toList
            ·
             rw [if_pos c33] at H;have c33b0 : ((rdOf ByteArray.empty t117 0).toList == x9_2.toList) = true := beq_iff_eq.mpr c33;have c33b1 : ((rdOf ByteArray.empty t117 0).toList != x9_2.toList) = false := bne_eq_false_iff_eq.mpr c33;clear c33
             by_cases c34 : t120 = 0
             ·
              rw [if_pos c34] at H;have c34b0 : (t120 == 0) = true := beq_iff_eq.mpr c34;have c34b1 : (t120 != 0) = false := bne_eq_false_iff_eq.mpr c34;clear c34;replace H := Option.bind_eq_some_iff.mp H;obtain ⟨t125, A350, H⟩ := H;have A35 := Aside0.mk A350;clear A350;obtain rfl := Option.some.inj H;have hnb36 := NB112_121.out;have hnc36 := NB121_112.out;have hcz37_0 := CA_ BK112;have hcz37_1 := CB_ BK112;have hfz37_0 := blk_frozen BK112.out 0;have hfz37_1 := blk_frozen BK112.out 1;have hcz38_0 : wr.cell? ⟨gb121, 0, none⟩ = some (.slice Ao21 t114.length co21) := (blk_cell BK121.out 0).trans rfl;have hcz38_1 : wr.cell? ⟨gb121, 1, none⟩ = some (.slice Ao24 t117.length co24) := (blk_cell BK121.out 1).trans rfl;have hfz38_0 := blk_frozen BK121.out 0;have hfz38_1 := blk_frozen BK121.out 1;have p124 : 0 ≤ (0 : Int) := (by omega);have q124 : 0 < (t117.length : Int) := DA_;obtain ⟨ad124, e124, hx124_0⟩ := Kd.at_string (Kd.R_reads' HO_122001.out).2.2 0 p124 q124
              cases e124
              have qi124 : (0 < t117.length) = True := eq_true (by omega)
              (try rw [show ((0 : Int)).toNat = 0 from rfl] at hx124_0)
              (try rw [Addr.add_zero'] at hx124_0)
              replace p124 := eq_true p124;replace q124 := eq_true q124
              go_wp2_with (first | (go_at_call 13; (with_reducible refine (tapewrightlaw06_awake.calls  t125 _ (Err.Gs.below HGs.out T9_) A35.out).mono ?_); rintro e w39 ⟨rfl, hb⟩; replace HO_113000 := RC_ HO_113000 hb; replace HO_113001 := RC_ HO_113001 hb; replace HO_122000 := RC_ HO_122000 hb; replace HO_122001 := RC_ HO_122001 hb; replace BK112 := BF_ BK112 hb; replace BK121 := BF_ BK121 hb; replace HB := Aside0.mk (below_step T9_ hb); clear hb))
              go_ret
              exact ⟨T4_, T9_⟩
             ·
              rw [if_neg c34] at H;have c34b0 : (t120 == 0) = false := beq_eq_false_iff_ne.mpr c34;have c34b1 : (t120 != 0) = true := bne_iff_ne.mpr c34;exact absurd ((Option.some.inj H).trans HRT.out) (by decide)
            ·
             rw [if_neg c33] at H;have c33b0 : ((rdOf ByteArray.empty t117 0).toList == x9_2.toList) = false := beq_eq_false_iff_ne.mpr c33;have c33b1 : ((rdOf ByteArray.empty t117 0).toList != x9_2.toList) = true := bne_iff_ne.mpr c33;exact absurd ((Option.some.inj H).trans HRT.out) (by decide)
           ·
            rw [if_neg c32] at H;exact absurd H (by simp)
          ·
           rw [if_neg c31] at H;have c31b0 : ((t117.length : Int) == 1) = false := beq_eq_false_iff_ne.mpr c31;have c31b1 : ((t117.length : Int) != 1) = true := bne_iff_ne.mpr c31;exact absurd ((Option.some.inj H).trans HRT.out) (by decide)
         ·
          rw [if_neg c30] at H;have c30b0 : ((t114.length : Int) == 0) = false := beq_eq_false_iff_ne.mpr c30;have c30b1 : ((t114.length : Int) != 0) = true := bne_iff_ne.mpr c30
          have c30b2 : ¬ (t114 = []) := fun h_ => c30 (by rw [h_]; rfl)
          exact absurd ((Option.some.inj H).trans HRT.out) (by decide)
        ·
         rw [if_neg c29] at H;have c29b0 : decide (1 ≤ (t108.length : Int)) = false := decide_eq_false c29;have c29b1 : decide (1 ≤ t108.length) = false := decide_eq_false (by omega);clear c29;exact absurd ((Option.some.inj H).trans HRT.out) (by decide)
    ·
     rw [if_neg c9] at H;have c9b0 : (t111 == 0) = false := beq_eq_false_iff_ne.mpr c9;have c9b1 : (t111 != 0) = true := bne_iff_ne.mpr c9
     by_cases c40 : (t108.length : Int) = 0
     ·
      rw [if_pos c40] at H;have c40b0 : ((t108.length : Int) == 0) = true := beq_iff_eq.mpr c40;have c40b1 : ((t108.length : Int) != 0) = false := bne_eq_false_iff_eq.mpr c40;clear c40
      by_cases c41 : t111 = 1
      ·
       rw [if_pos c41] at H;have c41b0 : (t111 == 1) = true := beq_iff_eq.mpr c41;have c41b1 : (t111 != 1) = false := bne_eq_false_iff_eq.mpr c41;clear c41;replace H := Option.bind_eq_some_iff.mp H;obtain ⟨t113, A420, H⟩ := H;have A42 := Aside0.mk A420;clear A420;obtain rfl := Option.some.inj H
       go_wp2_with (first | ((with_reducible refine gate_dst (N := 21) rfl ?_); (try (refine gate_guard (by rfl) ?_; dsimp only)); refine Kd.R_lit Kd.string _ 9 ?hg (N := 21) ?hd (xs := ([a0] : List ByteArray)) (inner := [.string a0]) (ok := fun _ => True) (okp := fun _ => True) ?hr ?hp (fun _ hk => hk) trivial (Below.refl _ _) (Nat.le_refl _) (by simp) ?_; (case hd => rfl); (case hg => rfl); (case hr => exact T3_); (case hp => exact (Reps.one (show Kd.M Kd.string _ _ _ a0 [.string a0] from rfl) (Reps.none _ _))); intro v103 w43 ho44 hb hg_ hnew_; clear hg_ hnew_; (first | rw [← Ny102.out] at ho44 | (simp only [Int.reduceToNat] at ho44; rw [← Ny102.out] at ho44)); have HO104 := Aside0.mk (Kd.R_lower ho44 (below_size T1_)); replace HB := Aside0.mk (below_step T1_ hb); clear hb ho44; obtain ⟨Ao45, co45, eo45⟩ := Kd.R_slice HO104.out; subst eo45) | ((with_reducible refine gate_callee (f := 24) rfl ?_); refine goesL_ (some 24) rfl rfl Tryz.func24 (by kernel_rfl) rfl #[.agg #[.slice none 0 0, .slice Ao45 y102.length co45], .slice A1 l1.length c1] rfl T2_ ?_; (refine (array_Spread.calls _ _ ([] : List Int) _ _ y102 _ _ l1 t105 t108 t111 _ (Err.Gs.below HGs.out T1_) ?side1 ?side2 ?side3 ?side4 ?side5 ?side6 A8.out).mono ?_); (case side1 => exact Kd.C_nil _ _); (case side2 => exact Nat.le_refl _); (case side3 => exact C2_ HO104); (case side4 => exact (Kd.R_reads' HO104.out).2.1); (case side5 => exact C1_ (Kd.C_below HR1.out HB.out)); (case side6 => exact HC1.out); rintro e w46 ⟨v106, v109, rfl, ho0, ho1, hb⟩; refine ⟨_, rfl, ?_⟩; have HO107 := Aside0.mk (Kd.R_lower ho0 (below_size T1_)); have HO110 := Aside0.mk (Kd.R_lower ho1 (below_size T1_)); replace HO104 := RC_ HO104 hb; replace HB := Aside0.mk (below_step T1_ hb); clear hb ho0 ho1) | ((with_reducible refine gate_dst (N := 5) rfl ?_); (try (refine gate_guard (by rfl) ?_; dsimp only)); refine box_event ?hg (N := 5) ?hd (cs := #[.slice none 0 0, .slice none 0 0]) (t := 25) ?hr ?_; (case hd => rfl); (case hg => rfl); (case hr => exact T3_); intro gb112 hg w47 hbox hb; replace HO104 := RC_ HO104 hb; replace HO107 := RC_ HO107 hb; replace HO110 := RC_ HO110 hb; have BK112 := Aside0.mk (hbox); have GW112 := GE_ hg; have GE112 := GE_ hg; replace HB := Aside0.mk (below_step T1_ hb); clear hb hbox hg; obtain ⟨Ao48, co48, eo48⟩ := Kd.R_slice HO107.out; subst eo48; have hcz49_0 := CA_ BK112; have hcz49_1 := CB_ BK112; have hfz49_0 := blk_frozen BK112.out 0; have hfz49_1 := blk_frozen BK112.out 1; obtain ⟨Ao50, co50, eo50⟩ := Kd.R_slice HO110.out; subst eo50) | (go_at_call 13; (with_reducible refine (tapewrightlaw06_awake.calls  t113 _ (Err.Gs.below HGs.out T9_) A42.out).mono ?_); rintro e w51 ⟨rfl, hb⟩; replace HO104 := RC_ HO104 hb; replace HO107 := RC_ HO107 hb; replace HO110 := RC_ HO110 hb; replace BK112 := BP_ BK112 hb; replace HB := Aside0.mk (below_step T9_ hb); clear hb))
       go_ret
       exact ⟨T4_, T9_⟩
      ·
       rw [if_neg c41] at H;have c41b0 : (t111 == 1) = false := beq_eq_false_iff_ne.mpr c41;have c41b1 : (t111 != 1) = true := bne_iff_ne.mpr c41;exact absurd ((Option.some.inj H).trans HRT.out) (by decide)
     ·
      rw [if_neg c40] at H;have c40b0 : ((t108.length : Int) == 0) = false := beq_eq_false_iff_ne.mpr c40;have c40b1 : ((t108.length : Int) != 0) = true := bne_iff_ne.mpr c40
      have c40b2 : ¬ (t108 = []) := fun h_ => c40 (by rw [h_]; rfl)
      exact absurd ((Option.some.inj H).trans HRT.out) (by decide)
/-- THE ONE PURE STATEMENT of tapewrightlaw06_ArrayScalars: yours. -/
def tapewrightlaw06_ArrayScalars.Pure : Prop := ∀ (a0 : ByteArray) (l1 : List Int), a0.size ≤ 140737488351232 → l1.length ≤ maxLen → l1.length * 8 ≤ 140737488351232 → (∀ x ∈ l1, (Lit.int .i64 x).wf = true) → ∃ k, tapewrightlaw06_ArrayScalars.f k a0 l1 = some true
theorem tapewrightlaw06_ArrayScalars.walk (P : tapewrightlaw06_ArrayScalars.Pure) (a0 : ByteArray) (a1 : Option Addr) (len1 cap1 : Nat) (z1 : List Int) (w : World) (hG : Err.Gs w) (w0 : a0.size ≤ 140737488351232) (w1 : (a1 = none ∧ len1 = 0 ∧ cap1 = 0 ∧ z1 = []) ∨ ∃ x, a1 = some x ∧ len1 ≤ cap1 ∧ cap1 ≤ maxLen ∧ z1.length = cap1 ∧ (∀ i, i < z1.length → w.cell? (x.add i) = some (.int .i64 (z1.getD i 0))) ∧ ∀ n ∈ z1, (Lit.int .i64 n).wf = true) (y1 : len1 * 8 ≤ 140737488351232) :
  Calls Tryz.prog 10 #[.string a0, .slice a1 len1 cap1] w fun e w' => e = .returned (.bool true) ∧ Below w.heap.size w w' := by
 obtain ⟨l1, rfl, hr1, hm1, hw1, hc1⟩ := ReadsInt.ofRowC w1;obtain ⟨k, h⟩ := P a0 l1 w0 hm1 y1 hw1;refine (tapewrightlaw06_ArrayScalars.calls k a0 _ _ l1 true w hG rfl (Kd.C_of_reads (d := (0 : Int)) (h1 := fun _ => rfl) hr1) hc1 h).mono ?_;rintro e w' ⟨rfl, hd⟩;exact ⟨rfl, hd⟩
end Go.Proofs.YtmmonhgfnmeieaaGreatDoor.PQS
