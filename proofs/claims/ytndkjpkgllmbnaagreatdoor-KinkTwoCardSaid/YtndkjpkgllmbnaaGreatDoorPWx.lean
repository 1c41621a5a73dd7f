-- by wip/tool/mine.py of this repo (the kit's printer with given contracts)
import Derived.Test.YtndkjpkgllmbnaaGreatDoorKinW
import Derived.Test.YtndkjpkgllmbnaaGreatDoorKinF
namespace Go.Proofs.YtndkjpkgllmbnaaGreatDoor.PW
open Go.RowKit Go.ZPWords Go.ZPLast Go.ZPMore
attribute [local go_sem] max2_int min2_int max_two min_two max_three min_three max_four min_four   -- for this text's walks alone
set_option linter.unusedVariables false
set_option linter.unusedSimpArgs false
set_option maxHeartbeats 8000000
set_option maxRecDepth 100000
def errW : Option Int → Value
 | none => .nilIface
 | some c => .iface 0 (.int .i64 c)
theorem errW_none : errW none = .nilIface := rfl
theorem errW_some (c : Int) : errW (some c) = .iface 0 (.int .i64 c) := rfl
/-! ### kink_Relu: function 15 -/
open Classical in
noncomputable def kink_Relu.f (l0_0 : List Int) (l0_1 : List ByteArray) : Option (List Int × List ByteArray × Int) := if Ten.Sm l0_0 l0_1 then some ((Ten.tEach 0 ⟨l0_0, l0_1⟩).1.s, (Ten.tEach 0 ⟨l0_0, l0_1⟩).1.d, (Ten.tEach 0 ⟨l0_0, l0_1⟩).2) else none
theorem kink_Relu.calls (A0_0 : Option Addr) (c0_0 : Nat) (l0_0 : List Int) (A0_1 : Option Addr) (c0_1 : Nat) (l0_1 : List ByteArray) (r1 : List Int) (r2 : List ByteArray) (r3 : Int) (w : World) (hG : Err.Gs w) (hr0_0 : Kd.C (Kd.int .i64) w A0_0 l0_0.length l0_0) (hc0_0 : l0_0.length ≤ c0_0) (hr0_1 : Kd.C Kd.string w A0_1 l0_1.length l0_1) (hc0_1 : l0_1.length ≤ c0_1) (h : kink_Relu.f l0_0 l0_1 = some (r1, r2, r3)) :
  Calls Tryz.prog 15 #[.agg #[.slice A0_0 l0_0.length c0_0, .slice A0_1 l0_1.length c0_1]] w fun e w' => ∃ v0_ v1_ : Value, e = .returned (.tuple #[.agg #[v0_, v1_], .int .i64 r3]) ∧ Kd.R (Kd.int .i64) 3 w' w.heap.size (fun _ => True) v0_ r1 ∧ Kd.R Kd.string 9 w' w.heap.size (fun _ => True) v1_ r2 ∧ Below w.heap.size w w' := by
 unfold kink_Relu.f at h
 split at h
 ·
  rename_i hl
  injection h with h;injection h with h1 h2;injection h2 with h2 h3;subst h1 h2 h3;exact Ten.krelu_calls A0_0 c0_0 A0_1 c0_1 l0_0 l0_1 w hG hr0_0 hc0_0 hr0_1 hc0_1 hl
 ·
  cases h
theorem kink_Relu.of (s : List Int) (d : List ByteArray) (h : Ten.Sm s d) : kink_Relu.f s d = some ((Ten.tEach 0 ⟨s, d⟩).1.s, (Ten.tEach 0 ⟨s, d⟩).1.d, (Ten.tEach 0 ⟨s, d⟩).2) := by rw [kink_Relu.f, if_pos h]
/-! ### kink_Flat: function 23 -/
open Classical in
noncomputable def kink_Flat.f (l0_0 : List Int) (l0_1 : List ByteArray) : Option (Bool × Int) := if Ten.Sm l0_0 l0_1 then some (Ten.tFlat ⟨l0_0, l0_1⟩) else none
theorem kink_Flat.calls (A0_0 : Option Addr) (c0_0 : Nat) (l0_0 : List Int) (A0_1 : Option Addr) (c0_1 : Nat) (l0_1 : List ByteArray) (r1 : Bool) (r2 : Int) (w : World) (hG : Err.Gs w) (hr0_0 : Kd.C (Kd.int .i64) w A0_0 l0_0.length l0_0) (hc0_0 : l0_0.length ≤ c0_0) (hr0_1 : Kd.C Kd.string w A0_1 l0_1.length l0_1) (hc0_1 : l0_1.length ≤ c0_1) (h : kink_Flat.f l0_0 l0_1 = some (r1, r2)) :
  Calls Tryz.prog 23 #[.agg #[.slice A0_0 l0_0.length c0_0, .slice A0_1 l0_1.length c0_1]] w fun e w' => e = .returned (.tuple #[.bool r1, .int .i64 r2]) ∧ Below w.heap.size w w' := by
 unfold kink_Flat.f at h
 split at h
 ·
  rename_i hl
  injection h with h;have := Ten.flat_calls A0_0 c0_0 A0_1 c0_1 l0_0 l0_1 w hG hr0_0 hc0_0 hr0_1 hc0_1 hl;rw [h] at this;exact this
 ·
  cases h
theorem kink_Flat.of (s : List Int) (d : List ByteArray) (h : Ten.Sm s d) : kink_Flat.f s d = some (Ten.tFlat ⟨s, d⟩) := by rw [kink_Flat.f, if_pos h]
/-! ### lw7_awake: function 12 -/
noncomputable def lw7_awake.f  : Option (Bool) := (kink_Relu.f (([2] : List Int)) (([(⟨#[45, 49]⟩ : ByteArray), (⟨#[50]⟩ : ByteArray)] : List ByteArray))).bind fun bt107 => ((kink_Flat.f ([] : List Int) (([(⟨#[48]⟩ : ByteArray)] : List ByteArray))).bind fun bt118 => (if (bt107.2.1.length : Int) = 2 then (if 0 < (bt107.2.1.length : Int) then (if (rdOf ByteArray.empty bt107.2.1 0).toList = ([48] : List UInt8) then (if 1 < (bt107.2.1.length : Int) then (if (rdOf ByteArray.empty bt107.2.1 1).toList = ([50] : List UInt8) then (if bt107.2.2 = 0 then (if bt118.1 = true then (some (bt118.2 == 0)) else (some false)) else (some false)) else (some false)) else (none)) else (some false)) else (none)) else (some false)))
theorem lw7_awake.calls  (r : Bool) (w : World) (hG : Err.Gs w) (hrt : r = true) (h : lw7_awake.f  = some r) :
  Calls Tryz.prog 12 #[] w fun e w' => e = .returned (.bool r) ∧ Below w.heap.size w w' := by
 have hu25 := Tryz.underlying25;have HB := A_ (Below.refl w.heap.size w);have HGs := A_ hG;clear hG;have HRT := A_ hrt;clear hrt;unfold lw7_awake.f at h;have H := h;clear h;obtain ⟨y101, hy_⟩ : ∃ y_ : List Int, y_ = (([2] : List Int)) := ⟨_, rfl⟩
 replace H : ((kink_Relu.f y101 (([(⟨#[45, 49]⟩ : ByteArray), (⟨#[50]⟩ : ByteArray)] : List ByteArray))).bind fun bt107 => ((kink_Flat.f ([] : List Int) (([(⟨#[48]⟩ : ByteArray)] : List ByteArray))).bind fun bt118 => (if (bt107.2.1.length : Int) = 2 then (if 0 < (bt107.2.1.length : Int) then (if (rdOf ByteArray.empty bt107.2.1 0).toList = ([48] : List UInt8) then (if 1 < (bt107.2.1.length : Int) then (if (rdOf ByteArray.empty bt107.2.1 1).toList = ([50] : List UInt8) then (if bt107.2.2 = 0 then (if bt118.1 = true then (some (bt118.2 == 0)) else (some false)) else (some false)) else (some false)) else (none)) else (some false)) else (none)) else (some false)))) = some r := RH_
 have Ny101 := A_ hy_;clear hy_;obtain ⟨y104, hy_⟩ : ∃ y_ : List ByteArray, y_ = (([(⟨#[45, 49]⟩ : ByteArray), (⟨#[50]⟩ : ByteArray)] : List ByteArray)) := ⟨_, rfl⟩
 replace H : ((kink_Relu.f y101 y104).bind fun bt107 => ((kink_Flat.f ([] : List Int) (([(⟨#[48]⟩ : ByteArray)] : List ByteArray))).bind fun bt118 => (if (bt107.2.1.length : Int) = 2 then (if 0 < (bt107.2.1.length : Int) then (if (rdOf ByteArray.empty bt107.2.1 0).toList = ([48] : List UInt8) then (if 1 < (bt107.2.1.length : Int) then (if (rdOf ByteArray.empty bt107.2.1 1).toList = ([50] : List UInt8) then (if bt107.2.2 = 0 then (if bt118.1 = true then (some (bt118.2 == 0)) else (some false)) else (some false)) else (some false)) else (none)) else (some false)) else (none)) else (some false)))) = some r := RH_
 have Ny104 := A_ hy_;clear hy_;replace H := BE_ H;obtain ⟨⟨t107, t110, t113⟩, A10, H⟩ := H;have A1 := A_ A10;clear A10;obtain ⟨y115, hy_⟩ : ∃ y_ : List ByteArray, y_ = (([(⟨#[48]⟩ : ByteArray)] : List ByteArray)) := ⟨_, rfl⟩
 replace H : ((kink_Flat.f ([] : List Int) y115).bind fun bt118 => (if (t110.length : Int) = 2 then (if 0 < (t110.length : Int) then (if (rdOf ByteArray.empty t110 0).toList = ([48] : List UInt8) then (if 1 < (t110.length : Int) then (if (rdOf ByteArray.empty t110 1).toList = ([50] : List UInt8) then (if t113 = 0 then (if bt118.1 = true then (some (bt118.2 == 0)) else (some false)) else (some false)) else (some false)) else (none)) else (some false)) else (none)) else (some false))) = some r := RH_
 have Ny115 := A_ hy_;clear hy_;replace H := BE_ H;obtain ⟨⟨t118, t119⟩, A20, H⟩ := H;have A2 := A_ A20;clear A20
 by_cases c3 : (t110.length : Int) = 2
 ·
  rw [if_pos c3] at H;have c3b0 : ((t110.length : Int) == 2) = true := beq_iff_eq.mpr c3;have c3b1 : ((t110.length : Int) != 2) = false := bne_eq_false_iff_eq.mpr c3;clear c3
  by_cases c4 : 0 < (t110.length : Int)
  ·
   rw [if_pos c4] at H;have c4b0 := decide_eq_true c4;have c4b1 : decide (0 < t110.length) = true := decide_eq_true (by omega);clear c4
   by_cases c5 : (rdOf ByteArray.empty t110 0).toList = ([48] : List UInt8)
   ·
    rw [if_pos c5] at H;have c5b0 : ((rdOf ByteArray.empty t110 0).toList == ([48] : List UInt8)) = true := beq_iff_eq.mpr c5;have c5b1 : ((rdOf ByteArray.empty t110 0).toList != ([48] : List UInt8)) = false := bne_eq_false_iff_eq.mpr c5;clear c5
    by_cases c6 : 1 < (t110.length : Int)
    ·
     rw [if_pos c6] at H;have c6b0 := decide_eq_true c6;have c6b1 : decide (1 < t110.length) = true := decide_eq_true (by omega);clear c6
     by_cases c7 : (rdOf ByteArray.empty t110 1).toList = ([50] : List UInt8)
     ·
      rw [if_pos c7] at H;have c7b0 : ((rdOf ByteArray.empty t110 1).toList == ([50] : List UInt8)) = true := beq_iff_eq.mpr c7;have c7b1 : ((rdOf ByteArray.empty t110 1).toList != ([50] : List UInt8)) = false := bne_eq_false_iff_eq.mpr c7;clear c7
      by_cases c8 : t113 = 0
      ·
       rw [if_pos c8] at H;have c8b0 : (t113 == 0) = true := beq_iff_eq.mpr c8;have c8b1 : (t113 != 0) = false := bne_eq_false_iff_eq.mpr c8;clear c8
       by_cases c9 : t118 = true
       ·
        subst c9;rw [if_pos rfl] at H;obtain rfl := Option.some.inj H;go_enter Tryz.func12, Tryz.ntmps12
        go_wp2_with (first | ((with_reducible refine gate_dst (N := 6) rfl ?_); refine Kd.R_lit (Kd.int .i64) _ 3 ?hg (N := 6) ?hd (xs := ([2] : List Int)) (inner := [.int .i64 2]) (ok := fun _ => True) (okp := fun _ => True) ?hr ?hp (fun _ hk => hk) trivial (Below.refl _ _) (Nat.le_refl _) (by simp) ?_; (case hd => rfl); (case hg => rfl); (case hr => exact T3_); (case hp => exact (Reps.one (show Kd.M (Kd.int .i64) _ _ _ 2 [.int .i64 2] from rfl) (Reps.none _ _))); intro v102 w10 ho11 hb hg_ hnew_; clear hg_ hnew_; (first | rw [← Ny101.out] at ho11 | (simp only [Int.reduceToNat] at ho11; rw [← Ny101.out] at ho11)); have HO103 := A_ (Kd.R_lower ho11 (below_size T1_)); replace HB := BS_ hb; clear hb ho11) | ((with_reducible refine gate_dst (N := 7) rfl ?_); refine Kd.R_lit Kd.string _ 9 ?hg (N := 7) ?hd (xs := ([(⟨#[45, 49]⟩ : ByteArray), (⟨#[50]⟩ : ByteArray)] : List ByteArray)) (inner := [.string (⟨#[45, 49]⟩ : ByteArray), .string (⟨#[50]⟩ : ByteArray)]) (ok := fun _ => True) (okp := fun _ => True) ?hr ?hp (fun _ hk => hk) trivial (Below.refl _ _) (Nat.le_refl _) (by simp) ?_; (case hd => rfl); (case hg => rfl); (case hr => exact T3_); (case hp => exact (Reps.one (show Kd.M Kd.string _ _ _ (⟨#[45, 49]⟩ : ByteArray) [.string (⟨#[45, 49]⟩ : ByteArray)] from rfl) (Reps.one (show Kd.M Kd.string _ _ _ (⟨#[50]⟩ : ByteArray) [.string (⟨#[50]⟩ : ByteArray)] from rfl) (Reps.none _ _)))); intro v105 w12 ho13 hb hg_ hnew_; clear hg_ hnew_; (first | rw [← Ny104.out] at ho13 | (simp only [Int.reduceToNat] at ho13; rw [← Ny104.out] at ho13)); replace HO103 := RC_ HO103 hb; have HO106 := A_ (Kd.R_lower ho13 (below_size T1_)); replace HB := BS_ hb; clear hb ho13; obtain ⟨Ao14, co14, eo14⟩ := Kd.R_slice HO106.out; subst eo14; obtain ⟨Ao15, co15, eo15⟩ := Kd.R_slice HO103.out; subst eo15) | (refine GL_ 15 9 Tryz.func15 #[.agg #[.slice Ao15 y101.length co15, .slice Ao14 y104.length co14]] ?_; (with_reducible refine (kink_Relu.calls _ _ y101 _ _ y104 t107 t110 t113 _ (Err.Gs.below HGs.out T1_) (C2_ HO103) ((Kd.R_reads' HO103.out).2.1) (C2_ HO106) ((Kd.R_reads' HO106.out).2.1) A1.out).mono ?_); rintro e w16 ⟨v108, v111, rfl, ho0, ho1, hb⟩; refine ⟨_, rfl, ?_⟩; have HO109 := A_ (Kd.R_lower ho0 (below_size T1_)); replace HO103 := RC_ HO103 hb; have HO112 := A_ (Kd.R_lower ho1 (below_size T1_)); replace HO106 := RC_ HO106 hb; replace HB := BS_ hb; clear hb ho0 ho1) | (refine BX_ 1 #[.slice none 0 0, .slice none 0 0] 25 ?_; intro gb114 hg w17 hbox hb; replace HO103 := RC_ HO103 hb; replace HO106 := RC_ HO106 hb; replace HO109 := RC_ HO109 hb; replace HO112 := RC_ HO112 hb; have BK114 := A_ (hbox); have GE114 := GE_ hg; replace HB := BS_ hb; clear hb hbox hg; obtain ⟨Ao18, co18, eo18⟩ := Kd.R_slice HO109.out; subst eo18; obtain ⟨hcz19_0, hcz19_1, hfz19_0, hfz19_1⟩ := CF_ BK114; obtain ⟨Ao20, co20, eo20⟩ := Kd.R_slice HO112.out; subst eo20) | ((with_reducible refine gate_dst (N := 13) rfl ?_); refine Kd.R_lit Kd.string _ 9 ?hg (N := 13) ?hd (xs := ([(⟨#[48]⟩ : ByteArray)] : List ByteArray)) (inner := [.string (⟨#[48]⟩ : ByteArray)]) (ok := fun _ => True) (okp := fun _ => True) ?hr ?hp (fun _ hk => hk) trivial (Below.refl _ _) (Nat.le_refl _) (by simp) ?_; (case hd => rfl); (case hg => rfl); (case hr => exact T3_); (case hp => exact (Reps.one (show Kd.M Kd.string _ _ _ (⟨#[48]⟩ : ByteArray) [.string (⟨#[48]⟩ : ByteArray)] from rfl) (Reps.none _ _))); intro v116 w21 ho22 hb hg_ hnew_; clear hg_ hnew_; (first | rw [← Ny115.out] at ho22 | (simp only [Int.reduceToNat] at ho22; rw [← Ny115.out] at ho22)); replace HO103 := RC_ HO103 hb; replace HO109 := RC_ HO109 hb; have HO117 := A_ (Kd.R_lower ho22 (below_size T9_)); replace HO106 := RC_ HO106 hb; replace HO112 := RC_ HO112 hb; replace BK114 := BP_ BK114 hb; replace HB := BU_ hb; clear hb ho22; obtain ⟨Ao23, co23, eo23⟩ := Kd.R_slice HO117.out; subst eo23) | (refine GL_ 23 15 Tryz.func23 #[.agg #[.slice none 0 0, .slice Ao23 y115.length co23]] ?_; (refine (kink_Flat.calls _ _ ([] : List Int) _ _ y115 true t119 _ (Err.Gs.below HGs.out T9_) (Kd.C_nil _ _) (Nat.le_refl _) (C2_ HO117) ((Kd.R_reads' HO117.out).2.1) A2.out).mono ?_); rintro e w24 ⟨rfl, hb⟩; refine ⟨_, rfl, ?_⟩; replace HO103 := RC_ HO103 hb; replace HO106 := RC_ HO106 hb; replace HO109 := RC_ HO109 hb; replace HO112 := RC_ HO112 hb; replace HO117 := RC_ HO117 hb; replace BK114 := BF_ BK114 hb; replace HB := BU_ hb; clear hb; obtain ⟨hcz25_0, hcz25_1, hfz25_0, hfz25_1⟩ := CF_ BK114; have p120 : 0 ≤ (0 : Int) := (by omega); have q120 : 0 < (t110.length : Int) := DA_; obtain ⟨ad120, e120, hx120_0⟩ := Kd.at_string (Kd.R_reads' HO112.out).2.2 0 p120 q120; cases e120; have qi120 : (0 < t110.length) = True := eq_true (by omega); (try rw [show ((0 : Int)).toNat = 0 from rfl] at hx120_0); (try rw [Addr.add_zero'] at hx120_0); replace p120 := eq_true p120; replace q120 := eq_true q120; have p121 : 0 ≤ (1 : Int) := (by omega); have q121 : 1 < (t110.length : Int) := DA_; obtain ⟨ad121, e121, hx121_0⟩ := Kd.at_string (Kd.R_reads' HO112.out).2.2 1 p121 q121; obtain rfl : ad120 = ad121 := (by injection e121); (try simp only [show (1 : Int).toNat = 1 from rfl, Nat.reduceMul, Nat.reduceEqDiff, Go.Addr.add, ↓reduceIte] at hx121_0); have qi121 : (1 < t110.length) = True := eq_true (by omega); (try rw [show ((1 : Int)).toNat = 1 from rfl] at hx121_0); replace p121 := eq_true p121; replace q121 := eq_true q121))
        go_ret
        exact ⟨T4_, T9_⟩
       ·
        replace c9 := Bool.eq_false_iff.mpr c9;subst c9;rw [if_neg (show ¬ (false = true) by decide)] at H;exact absurd ((Option.some.inj H).trans HRT.out) (by decide)
      ·
       rw [if_neg c8] at H;have c8b0 : (t113 == 0) = false := beq_eq_false_iff_ne.mpr c8;have c8b1 : (t113 != 0) = true := bne_iff_ne.mpr c8;exact absurd ((Option.some.inj H).trans HRT.out) (by decide)
     ·
      rw [if_neg c7] at H;have c7b0 : ((rdOf ByteArray.empty t110 1).toList == ([50] : List UInt8)) = false := beq_eq_false_iff_ne.mpr c7;have c7b1 : ((rdOf ByteArray.empty t110 1).toList != ([50] : List UInt8)) = true := bne_iff_ne.mpr c7;exact absurd ((Option.some.inj H).trans HRT.out) (by decide)
    ·
     rw [if_neg c6] at H;exact absurd H (by simp)
   ·
    rw [if_neg c5] at H;have c5b0 : ((rdOf ByteArray.empty t110 0).toList == ([48] : List UInt8)) = false := beq_eq_false_iff_ne.mpr c5;have c5b1 : ((rdOf ByteArray.empty t110 0).toList != ([48] : List UInt8)) = true := bne_iff_ne.mpr c5;exact absurd ((Option.some.inj H).trans HRT.out) (by decide)
  ·
   rw [if_neg c4] at H;exact absurd H (by simp)
 ·
  rw [if_neg c3] at H;have c3b0 : ((t110.length : Int) == 2) = false := beq_eq_false_iff_ne.mpr c3;have c3b1 : ((t110.length : Int) != 2) = true := bne_iff_ne.mpr c3;exact absurd ((Option.some.inj H).trans HRT.out) (by decide)
end Go.Proofs.YtndkjpkgllmbnaaGreatDoor.PW
