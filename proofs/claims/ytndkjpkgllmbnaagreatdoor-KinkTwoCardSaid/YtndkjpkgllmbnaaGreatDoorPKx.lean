-- by wip/tool/mine.py of this repo (the kit's printer with given contracts)
import Derived.Test.YtndkjpkgllmbnaaGreatDoorRatMs
import Derived.Test.YtndkjpkgllmbnaaGreatDoorRatMn
import Derived.Test.YtndkjpkgllmbnaaGreatDoorTenB
import Derived.Test.YtndkjpkgllmbnaaGreatDoorTenT
namespace Go.Proofs.YtndkjpkgllmbnaaGreatDoor.PK
open Go.RowKit Go.ZPWords Go.ZPLast Go.ZPMore
attribute [local go_sem] max2_int min2_int max_two min_two max_three min_three max_four min_four   -- for this text's walks alone
set_option linter.unusedVariables false
set_option linter.unusedSimpArgs false
set_option maxHeartbeats 8000000
set_option maxRecDepth 100000
def errW : Option Int → Value
 | none => .nilIface
 | some c => .iface 0 (.int .i64 c)
theorem errW_none : errW none = .nilIface := rfl
theorem errW_some (c : Int) : errW (some c) = .iface 0 (.int .i64 c) := rfl
theorem info9 : (Tryz.prog.info? 9).map (fun i => (i.zero, i.size, i.bytes)) = some (some (.string ⟨#[]⟩), 1, 16) := by kernel_rfl
/-! ### tensor_Right: function 31 -/
open Classical in
noncomputable def tensor_Right.f (l0_0 : List Int) (l0_1 : List ByteArray) : Option Bool := if Ten.Sm l0_0 l0_1 then some (Ten.tRight ⟨l0_0, l0_1⟩) else none
theorem tensor_Right.calls (A0_0 : Option Addr) (c0_0 : Nat) (l0_0 : List Int) (A0_1 : Option Addr) (c0_1 : Nat) (l0_1 : List ByteArray) (r : Bool) (w : World) (hG : Err.Gs w) (hr0_0 : Kd.C (Kd.int .i64) w A0_0 l0_0.length l0_0) (hc0_0 : l0_0.length ≤ c0_0) (hr0_1 : Kd.C Kd.string w A0_1 l0_1.length l0_1) (hc0_1 : l0_1.length ≤ c0_1) (h : tensor_Right.f l0_0 l0_1 = some r) :
  Calls Tryz.prog 31 #[.agg #[.slice A0_0 l0_0.length c0_0, .slice A0_1 l0_1.length c0_1]] w fun e w' => e = .returned (.bool r) ∧ Below w.heap.size w w' := by
 unfold tensor_Right.f at h
 split at h
 ·
  rename_i hl
  injection h with h;subst h;exact Ten.tright_calls A0_0 c0_0 A0_1 c0_1 ⟨l0_0, l0_1⟩ w hG hr0_0 hc0_0 hr0_1 hl.1 hl.2.1 hl.big
 ·
  cases h
theorem tensor_Right.of (s : List Int) (d : List ByteArray) (h : Ten.Sm s d) : tensor_Right.f s d = some (Ten.tRight ⟨s, d⟩) := by rw [tensor_Right.f, if_pos h]
/-! ### slices_Clone_int_int: function 42 -/
noncomputable def slices_Clone_int_int.f (l0 : List Int) : Option (List Int) := if l0.length ≤ 1000000 then some l0 else none
theorem slices_Clone_int_int.calls (A0 : Option Addr) (c0 : Nat) (l0 : List Int) (r : List Int) (w : World) (hr0 : Kd.C (Kd.int .i64) w A0 l0.length l0) (hc0 : l0.length ≤ c0) (h : slices_Clone_int_int.f l0 = some r) :
  Calls Tryz.prog 42 #[.slice A0 l0.length c0] w fun e w' => ∃ v0_ : Value, e = .returned (v0_) ∧ Kd.R (Kd.int .i64) 3 w' w.heap.size (fun _ => True) v0_ r ∧ Below w.heap.size w w' := by
 unfold slices_Clone_int_int.f at h
 split at h
 ·
  rename_i hl
  injection h with h;subst h;exact Ten.cloneI_calls A0 c0 l0 w hr0 hl
 ·
  cases h
theorem slices_Clone_int_int.of (l : List Int) (h : l.length ≤ 1000000) : slices_Clone_int_int.f l = some l := by rw [slices_Clone_int_int.f, if_pos h]
/-! ### rat_Sign: function 77 -/
noncomputable def rat_Sign.f (a0 : ByteArray) : Option (Int × Int) := if a0.size ≤ 40000000000 then some (Err.rSign a0) else none
theorem rat_Sign.calls (a0 : ByteArray) (r1 : Int) (r2 : Int) (w : World) (hG : Err.Gs w) (h : rat_Sign.f a0 = some (r1, r2)) :
  Calls Tryz.prog 77 #[.string a0] w fun e w' => e = .returned (.tuple #[.int .i64 r1, .int .i64 r2]) ∧ Below w.heap.size w w' := by
 unfold rat_Sign.f at h
 by_cases c : a0.size ≤ 40000000000
 ·
  rw [if_pos c] at h;injection h with h;have := Err.sign_calls a0 c w hG;rw [h] at this;exact this
 ·
  rw [if_neg c] at h
  cases h
theorem rat_Sign.of (a0 : ByteArray) (h : a0.size ≤ 40000000000) : rat_Sign.f a0 = some (Err.rSign a0) := by rw [rat_Sign.f, if_pos h]
theorem rat_Sign.rt {x : Rat} (hx : Err.Fr x) : rat_Sign.f (Err.rt x) = some (Th.Wh.sgn x.num, 0) := by
 rw [rat_Sign.of _ hx.size, Err.rSign, Err.rv_rt]
/-! ### rat_Neg: function 91 -/
noncomputable def rat_Neg.f (a0 : ByteArray) : Option (ByteArray × Int) := if a0.size ≤ 40000000000 then some (Err.rNeg a0) else none
theorem rat_Neg.calls (a0 : ByteArray) (r1 : ByteArray) (r2 : Int) (w : World) (hG : Err.Gs w) (h : rat_Neg.f a0 = some (r1, r2)) :
  Calls Tryz.prog 91 #[.string a0] w fun e w' => e = .returned (.tuple #[.string r1, .int .i64 r2]) ∧ Below w.heap.size w w' := by
 unfold rat_Neg.f at h
 by_cases c : a0.size ≤ 40000000000
 ·
  rw [if_pos c] at h;injection h with h;have := Err.neg_calls a0 c w hG;rw [h] at this;exact this
 ·
  rw [if_neg c] at h
  cases h
theorem rat_Neg.of (a0 : ByteArray) (h : a0.size ≤ 40000000000) : rat_Neg.f a0 = some (Err.rNeg a0) := by rw [rat_Neg.f, if_pos h]
theorem rat_Neg.rt {x : Rat} (hx : Err.Fr x) : rat_Neg.f (Err.rt x) = some (Err.rt (-x), 0) := by
 rw [rat_Neg.of _ hx.size, Err.rNeg_rt]
/-! ### kink_one: function 62 -/
noncomputable def kink_one.f (a0 : Int) (a1 : ByteArray) : Option (ByteArray) := (rat_Sign.f a1).bind fun bt101 => (if a0 = 0 then (if bt101.1 > 0 then (some a1) else (some (⟨#[48]⟩ : ByteArray))) else (if a0 = 2 then (if bt101.1 ≥ 0 then (some a1) else ((rat_Neg.f a1).bind fun bt103 => (some bt103.1))) else (if a0 = 1 then ((some (([(⟨#[45, 49]⟩ : ByteArray), (⟨#[48]⟩ : ByteArray), (⟨#[49]⟩ : ByteArray)] : List ByteArray) : List ByteArray)).bind fun y105 => (if 0 ≤ (wrap64 ((mx bt101.1 0) + 1)) then (if (wrap64 ((mx bt101.1 0) + 1)) < (y105.length : Int) then (some (rdOf ByteArray.empty y105 (wrap64 ((mx bt101.1 0) + 1)))) else (none)) else (none))) else (if a0 = 3 then ((some (([(⟨#[45, 49]⟩ : ByteArray), (⟨#[48]⟩ : ByteArray), (⟨#[49]⟩ : ByteArray)] : List ByteArray) : List ByteArray)).bind fun y109 => (if 0 ≤ (wrap64 (bt101.1 + 1)) then (if (wrap64 (bt101.1 + 1)) < (y109.length : Int) then (some (rdOf ByteArray.empty y109 (wrap64 (bt101.1 + 1)))) else (none)) else (none))) else (some a1)))))
theorem kink_one.calls (a0 : Int) (a1 : ByteArray) (r : ByteArray) (w : World) (hG : Err.Gs w) (h : kink_one.f a0 a1 = some r) :
  Calls Tryz.prog 62 #[.int .i64 a0, .string a1] w fun e w' => e = .returned (.string r) ∧ Below w.heap.size w w' := by
 have HB := A_ (Below.refl w.heap.size w);have HGs := A_ hG;clear hG;unfold kink_one.f at h;have H := h;clear h;replace H := BE_ H;obtain ⟨⟨t101, t102⟩, A30, H⟩ := H;have A3 := A_ A30;clear A30
 by_cases c4 : a0 = 0
 ·
  rw [if_pos c4] at H;have c4b0 : (a0 == 0) = true := beq_iff_eq.mpr c4;have c4b1 : (a0 != 0) = false := bne_eq_false_iff_eq.mpr c4;clear c4
  by_cases c5 : t101 > 0
  ·
   rw [if_pos c5] at H;have c5b0 : decide (0 < t101) = true := decide_eq_true c5;clear c5;obtain rfl := Option.some.inj H;go_enter Tryz.func62, Tryz.ntmps62
   go_wp2_with (first | (refine GL_ 77 9 Tryz.func77 #[.string a1] ?_; (with_reducible refine (rat_Sign.calls a1 t101 t102 _ (Err.Gs.below HGs.out T1_) A3.out).mono ?_); rintro e w6 ⟨rfl, hb⟩; refine ⟨_, rfl, ?_⟩; replace HB := BS_ hb; clear hb))
   go_ret
   exact ⟨T4_, T1_⟩
  ·
   rw [if_neg c5] at H;have c5b0 : decide (0 < t101) = false := decide_eq_false c5;clear c5;obtain rfl := Option.some.inj H;go_enter Tryz.func62, Tryz.ntmps62
   go_wp2_with (first | (refine GL_ 77 9 Tryz.func77 #[.string a1] ?_; (with_reducible refine (rat_Sign.calls a1 t101 t102 _ (Err.Gs.below HGs.out T1_) A3.out).mono ?_); rintro e w7 ⟨rfl, hb⟩; refine ⟨_, rfl, ?_⟩; replace HB := BS_ hb; clear hb))
   go_ret
   exact ⟨T4_, T1_⟩
 ·
  rw [if_neg c4] at H;have c4b0 : (a0 == 0) = false := beq_eq_false_iff_ne.mpr c4;have c4b1 : (a0 != 0) = true := bne_iff_ne.mpr c4
  by_cases c8 : a0 = 2
  ·
   rw [if_pos c8] at H;have c8b0 : (a0 == 2) = true := beq_iff_eq.mpr c8;have c8b1 : (a0 != 2) = false := bne_eq_false_iff_eq.mpr c8;clear c8
   by_cases c9 : t101 ≥ 0
   ·
    rw [if_pos c9] at H;have c9b0 : decide (0 ≤ t101) = true := decide_eq_true c9;clear c9;obtain rfl := Option.some.inj H;go_enter Tryz.func62, Tryz.ntmps62
    go_wp2_with (first | (refine GL_ 77 9 Tryz.func77 #[.string a1] ?_; (with_reducible refine (rat_Sign.calls a1 t101 t102 _ (Err.Gs.below HGs.out T1_) A3.out).mono ?_); rintro e w10 ⟨rfl, hb⟩; refine ⟨_, rfl, ?_⟩; replace HB := BS_ hb; clear hb))
    go_ret
    exact ⟨T4_, T1_⟩
   ·
    rw [if_neg c9] at H;have c9b0 : decide (0 ≤ t101) = false := decide_eq_false c9;clear c9;replace H := BE_ H;obtain ⟨⟨t103, t104⟩, A110, H⟩ := H;have A11 := A_ A110;clear A110;obtain rfl := Option.some.inj H;go_enter Tryz.func62, Tryz.ntmps62
    go_wp2_with (first | (refine GL_ 77 9 Tryz.func77 #[.string a1] ?_; (with_reducible refine (rat_Sign.calls a1 t101 t102 _ (Err.Gs.below HGs.out T1_) A3.out).mono ?_); rintro e w12 ⟨rfl, hb⟩; refine ⟨_, rfl, ?_⟩; replace HB := BS_ hb; clear hb) | (refine GL_ 91 29 Tryz.func91 #[.string a1] ?_; (with_reducible refine (rat_Neg.calls a1 t103 t104 _ (Err.Gs.below HGs.out T1_) A11.out).mono ?_); rintro e w13 ⟨rfl, hb⟩; refine ⟨_, rfl, ?_⟩; replace HB := BS_ hb; clear hb))
    go_ret
    exact ⟨T4_, T1_⟩
  ·
   rw [if_neg c8] at H;have c8b0 : (a0 == 2) = false := beq_eq_false_iff_ne.mpr c8;have c8b1 : (a0 != 2) = true := bne_iff_ne.mpr c8
   by_cases c14 : a0 = 1
   ·
    rw [if_pos c14] at H;have c14b0 : (a0 == 1) = true := beq_iff_eq.mpr c14;have c14b1 : (a0 != 1) = false := bne_eq_false_iff_eq.mpr c14;clear c14;obtain ⟨ji15, hji15⟩ : ∃ j_ : Int, (mx t101 0) = j_ := ⟨_, rfl⟩
    first | rw [hji15] at H | simp only [hji15] at H
    (try rw [hji15] at A3)
    (try (have hji15l : 0 ≤ ji15 := by (rw [← hji15]; unfold mx; (repeat' split) <;> omega)))
    (try (have hji15m : 0 ≤ ji15 := by omega))
    have hji15_ : (if t101 < 0 then 0 else t101) = ji15 := hji15;obtain ⟨y105, hy_⟩ : ∃ y_ : List ByteArray, y_ = (([(⟨#[45, 49]⟩ : ByteArray), (⟨#[48]⟩ : ByteArray), (⟨#[49]⟩ : ByteArray)] : List ByteArray)) := ⟨_, rfl⟩
    replace H : (if 0 ≤ (wrap64 ((ji15) + 1)) then (if (wrap64 ((ji15) + 1)) < (y105.length : Int) then (some (rdOf ByteArray.empty y105 (wrap64 ((ji15) + 1)))) else (none)) else (none)) = some r := RH_
    have Ny105 := A_ hy_;clear hy_;obtain ⟨ji16, hji16⟩ : ∃ j_ : Int, (wrap64 ((ji15) + 1)) = j_ := ⟨_, rfl⟩
    first | rw [hji16] at H | simp only [hji16] at H
    (try rw [hji16] at A3)
    have hji16w : (IntKind.i64.wrap ((ji15) + 1)) = ji16 := (i64_w _).trans hji16
    by_cases c17 : 0 ≤ (ji16)
    ·
     rw [if_pos c17] at H;have c17b0 := decide_eq_true c17;clear c17
     by_cases c18 : (ji16) < (y105.length : Int)
     ·
      rw [if_pos c18] at H;have c18b0 := decide_eq_true c18;clear c18;obtain rfl := Option.some.inj H;go_enter Tryz.func62, Tryz.ntmps62
      go_wp2_with (first | (refine GL_ 77 9 Tryz.func77 #[.string a1] ?_; (with_reducible refine (rat_Sign.calls a1 t101 t102 _ (Err.Gs.below HGs.out T1_) A3.out).mono ?_); rintro e w19 ⟨rfl, hb⟩; refine ⟨_, rfl, ?_⟩; replace HB := BS_ hb; clear hb) | ((with_reducible refine gate_dst (N := 35) rfl ?_); refine Kd.R_lit Kd.string _ 9 ?hg (N := 35) ?hd (xs := ([(⟨#[45, 49]⟩ : ByteArray), (⟨#[48]⟩ : ByteArray), (⟨#[49]⟩ : ByteArray)] : List ByteArray)) (inner := [.string (⟨#[45, 49]⟩ : ByteArray), .string (⟨#[48]⟩ : ByteArray), .string (⟨#[49]⟩ : ByteArray)]) (ok := fun _ => True) (okp := fun _ => True) ?hr ?hp (fun _ hk => hk) trivial (Below.refl _ _) (Nat.le_refl _) (by simp) ?_; (case hd => rfl); (case hg => rfl); (case hr => exact T3_); (case hp => exact (Reps.one (show Kd.M Kd.string _ _ _ (⟨#[45, 49]⟩ : ByteArray) [.string (⟨#[45, 49]⟩ : ByteArray)] from rfl) (Reps.one (show Kd.M Kd.string _ _ _ (⟨#[48]⟩ : ByteArray) [.string (⟨#[48]⟩ : ByteArray)] from rfl) (Reps.one (show Kd.M Kd.string _ _ _ (⟨#[49]⟩ : ByteArray) [.string (⟨#[49]⟩ : ByteArray)] from rfl) (Reps.none _ _))))); intro v106 w20 ho21 hb hg_ hnew_; clear hg_ hnew_; (first | rw [← Ny105.out] at ho21 | (simp only [Int.reduceToNat] at ho21; rw [← Ny105.out] at ho21)); have HO107 := A_ (Kd.R_lower ho21 (below_size T1_)); replace HB := BS_ hb; clear hb ho21; obtain ⟨Ao22, co22, eo22⟩ := Kd.R_slice HO107.out; subst eo22; have p108 : 0 ≤ ((ji16) : Int) := DA_; have q108 : (ji16) < (y105.length : Int) := DA_; obtain ⟨ad108, e108, hx108_0⟩ := Kd.at_string (Kd.R_reads' HO107.out).2.2 (ji16) p108 q108; cases e108; replace p108 := eq_true p108; replace q108 := eq_true q108))
      go_ret
      exact ⟨by first | rfl | (simp [errW_none, errW_some] <;> rfl) | (simp only [← hji15, ← hji16]; first | rfl | (simp [errW_none, errW_some] <;> rfl)) | (simp [*, errW_none, errW_some] <;> rfl), T1_⟩
     ·
      rw [if_neg c18] at H;exact absurd H (by simp)
    ·
     rw [if_neg c17] at H;exact absurd H (by simp)
   ·
    rw [if_neg c14] at H;have c14b0 : (a0 == 1) = false := beq_eq_false_iff_ne.mpr c14;have c14b1 : (a0 != 1) = true := bne_iff_ne.mpr c14
    by_cases c23 : a0 = 3
    ·
     rw [if_pos c23] at H;have c23b0 : (a0 == 3) = true := beq_iff_eq.mpr c23;have c23b1 : (a0 != 3) = false := bne_eq_false_iff_eq.mpr c23;clear c23;obtain ⟨y109, hy_⟩ : ∃ y_ : List ByteArray, y_ = (([(⟨#[45, 49]⟩ : ByteArray), (⟨#[48]⟩ : ByteArray), (⟨#[49]⟩ : ByteArray)] : List ByteArray)) := ⟨_, rfl⟩
     replace H : (if 0 ≤ (wrap64 (t101 + 1)) then (if (wrap64 (t101 + 1)) < (y109.length : Int) then (some (rdOf ByteArray.empty y109 (wrap64 (t101 + 1)))) else (none)) else (none)) = some r := RH_
     have Ny109 := A_ hy_;clear hy_;obtain ⟨ji24, hji24⟩ : ∃ j_ : Int, (wrap64 (t101 + 1)) = j_ := ⟨_, rfl⟩
     first | rw [hji24] at H | simp only [hji24] at H
     (try rw [hji24] at A3)
     have hji24w : (IntKind.i64.wrap (t101 + 1)) = ji24 := (i64_w _).trans hji24
     by_cases c25 : 0 ≤ (ji24)
     ·
      rw [if_pos c25] at H;have c25b0 := decide_eq_true c25;clear c25
      by_cases c26 : (ji24) < (y109.length : Int)
      ·
       rw [if_pos c26] at H;have c26b0 := decide_eq_true c26;clear c26;obtain rfl := Option.some.inj H;go_enter Tryz.func62, Tryz.ntmps62
       go_wp2_with (first | (refine GL_ 77 9 Tryz.func77 #[.string a1] ?_; (with_reducible refine (rat_Sign.calls a1 t101 t102 _ (Err.Gs.below HGs.out T1_) A3.out).mono ?_); rintro e w27 ⟨rfl, hb⟩; refine ⟨_, rfl, ?_⟩; replace HB := BS_ hb; clear hb) | ((with_reducible refine gate_dst (N := 35) rfl ?_); refine Kd.R_lit Kd.string _ 9 ?hg (N := 35) ?hd (xs := ([(⟨#[45, 49]⟩ : ByteArray), (⟨#[48]⟩ : ByteArray), (⟨#[49]⟩ : ByteArray)] : List ByteArray)) (inner := [.string (⟨#[45, 49]⟩ : ByteArray), .string (⟨#[48]⟩ : ByteArray), .string (⟨#[49]⟩ : ByteArray)]) (ok := fun _ => True) (okp := fun _ => True) ?hr ?hp (fun _ hk => hk) trivial (Below.refl _ _) (Nat.le_refl _) (by simp) ?_; (case hd => rfl); (case hg => rfl); (case hr => exact T3_); (case hp => exact (Reps.one (show Kd.M Kd.string _ _ _ (⟨#[45, 49]⟩ : ByteArray) [.string (⟨#[45, 49]⟩ : ByteArray)] from rfl) (Reps.one (show Kd.M Kd.string _ _ _ (⟨#[48]⟩ : ByteArray) [.string (⟨#[48]⟩ : ByteArray)] from rfl) (Reps.one (show Kd.M Kd.string _ _ _ (⟨#[49]⟩ : ByteArray) [.string (⟨#[49]⟩ : ByteArray)] from rfl) (Reps.none _ _))))); intro v110 w28 ho29 hb hg_ hnew_; clear hg_ hnew_; (first | rw [← Ny109.out] at ho29 | (simp only [Int.reduceToNat] at ho29; rw [← Ny109.out] at ho29)); have HO111 := A_ (Kd.R_lower ho29 (below_size T1_)); replace HB := BS_ hb; clear hb ho29; obtain ⟨Ao30, co30, eo30⟩ := Kd.R_slice HO111.out; subst eo30; have p112 : 0 ≤ ((ji24) : Int) := DA_; have q112 : (ji24) < (y109.length : Int) := DA_; obtain ⟨ad112, e112, hx112_0⟩ := Kd.at_string (Kd.R_reads' HO111.out).2.2 (ji24) p112 q112; cases e112; replace p112 := eq_true p112; replace q112 := eq_true q112))
       go_ret
       exact ⟨by first | rfl | (simp [errW_none, errW_some] <;> rfl) | (simp only [← hji24]; first | rfl | (simp [errW_none, errW_some] <;> rfl)) | (simp [*, errW_none, errW_some] <;> rfl), T1_⟩
      ·
       rw [if_neg c26] at H;exact absurd H (by simp)
     ·
      rw [if_neg c25] at H;exact absurd H (by simp)
    ·
     rw [if_neg c23] at H;have c23b0 : (a0 == 3) = false := beq_eq_false_iff_ne.mpr c23;have c23b1 : (a0 != 3) = true := bne_iff_ne.mpr c23;obtain rfl := Option.some.inj H;go_enter Tryz.func62, Tryz.ntmps62
     go_wp2_with (first | (refine GL_ 77 9 Tryz.func77 #[.string a1] ?_; (with_reducible refine (rat_Sign.calls a1 t101 t102 _ (Err.Gs.below HGs.out T1_) A3.out).mono ?_); rintro e w31 ⟨rfl, hb⟩; refine ⟨_, rfl, ?_⟩; replace HB := BS_ hb; clear hb))
     go_ret
     exact ⟨T4_, T1_⟩
/-! ### kink_each: function 36 -/
noncomputable def kink_each.l0 : Nat → Int → List ByteArray → Int → Int → List Int → List ByteArray → Option (List Int × List ByteArray × Int)
 | 0, _, _, _, _, _, _ => none
 | k + 1, x0, x18, x19, x20, x120000, x120001 => if x20 < x19 then (if 0 ≤ x20 then (if x20 < (x18.length : Int) then ((kink_one.f x0 (rdOf ByteArray.empty x18 x20)).bind fun t121 => (if x120001.length < 8796093022208 then (kink_each.l0 k x0 x18 x19 (wrap64 (x20 + 1)) x120000 (x120001 ++ [t121])) else (none))) else (none)) else (none)) else (some (x120000, x120001, 0))
noncomputable def kink_each.f (k : Nat) (a0 : Int) (l1_0 : List Int) (l1_1 : List ByteArray) : Option (List Int × List ByteArray × Int) := (tensor_Right.f l1_0 l1_1).bind fun t115 => (if t115 = true then ((slices_Clone_int_int.f l1_0).bind fun t116 => (kink_each.l0 k a0 l1_1 (l1_1.length : Int) 0 t116 ([] : List ByteArray))) else (some (([] : List Int), ([] : List ByteArray), 1)))
def kink_each.T7 : Bool × List (List Nat × List Nat) := (true, [([], []), ([0], [0]), ([], []), ([], []), ([2, 3], [2, 3]), ([4], [4]), ([1, 5, 4], [1, 5]), ([0, 1, 2, 3, 4, 5, 6], []), ([7, 6, 6, 0, 1, 2, 3, 4, 5, 6], [6, 7])])
def kink_each.B7 : List Nat := [0, 1, 0, 0, 12, 28, 63, 127, 255]
theorem kink_each.tab7 : rtab .any (opsOf Tryz.f36 7) = kink_each.T7 := by kernel_rfl
theorem kink_each.bits7 : waitsOk kink_each.T7.2 kink_each.B7 = true := by kernel_rfl
theorem kink_each.calls (k : Nat) (a0 : Int) (A1_0 : Option Addr) (c1_0 : Nat) (l1_0 : List Int) (A1_1 : Option Addr) (c1_1 : Nat) (l1_1 : List ByteArray) (r1 : List Int) (r2 : List ByteArray) (r3 : Int) (w : World) (hG : Err.Gs w) (hr1_0 : Kd.C (Kd.int .i64) w A1_0 l1_0.length l1_0) (hc1_0 : l1_0.length ≤ c1_0) (hr1_1 : Kd.C Kd.string w A1_1 l1_1.length l1_1) (hc1_1 : l1_1.length ≤ c1_1) (h : kink_each.f k a0 l1_0 l1_1 = some (r1, r2, r3)) :
  Calls Tryz.prog 36 #[.int .i64 a0, .agg #[.slice A1_0 l1_0.length c1_0, .slice A1_1 l1_1.length c1_1]] w fun e w' => ∃ v0_ v1_ : Value, e = .returned (.tuple #[.agg #[v0_, v1_], .int .i64 r3]) ∧ Kd.R (Kd.int .i64) 3 w' w.heap.size (fun _ => True) v0_ r1 ∧ Kd.R Kd.string 9 w' w.heap.size (fun _ => True) v1_ r2 ∧ Below w.heap.size w w' := by
 have hu25 := Tryz.underlying25;have HR1_0 := A_ hr1_0;have HC1_0 := A_ hc1_0;clear hr1_0 hc1_0;have HR1_1 := A_ hr1_1;have HC1_1 := A_ hc1_1;clear hr1_1 hc1_1;have HB := A_ (Below.refl w.heap.size w);have HGs := A_ hG;clear hG;unfold kink_each.f at h;have H := h;clear h;replace H := BE_ H;obtain ⟨t115, A30, H⟩ := H;have A3 := A_ A30;clear A30
 by_cases c4 : t115 = true
 ·
  subst c4;rw [if_pos rfl] at H;replace H := BE_ H;obtain ⟨t116, A50, H⟩ := H;have A5 := A_ A50;clear A50;have H' := A_ H;clear H;go_enter Tryz.func36, Tryz.ntmps36
  go_wp2_with (first | (refine BX_ 3 #[.slice A1_0 l1_0.length c1_0, .slice A1_1 l1_1.length c1_1] 25 ?_; intro gb113 hg w6 hbox hb; have BK113 := A_ (hbox); have GE113 := GE_ hg; replace HB := BS_ hb; clear hb hbox hg) | (refine BX_ 4 #[.slice none 0 0, .slice none 0 0] 25 ?_; intro gb114 hg w7 hbox hb; have BK114 := A_ (hbox); have GE114 := GE_ hg; replace HB := BU_ hb; have NB113_114 := NB_ BK113 hg; have NB114_113 := NC_ BK113 hg; replace BK113 := BF_ BK113 hb; clear hb hbox hg; have hnb8 := NB113_114.out; have hnc8 := NB114_113.out; obtain ⟨hcz9_0, hcz9_1, hfz9_0, hfz9_1⟩ := CF_ BK113) | (refine GL_ 31 10 Tryz.func31 #[.agg #[.slice A1_0 l1_0.length c1_0, .slice A1_1 l1_1.length c1_1]] ?_; (with_reducible refine (tensor_Right.calls _ _ l1_0 _ _ l1_1 true _ (Err.Gs.below HGs.out T9_) (CW_ HR1_0) HC1_0.out (CW_ HR1_1) HC1_1.out A3.out).mono ?_); rintro e w10 ⟨rfl, hb⟩; refine ⟨_, rfl, ?_⟩; replace BK113 := BF_ BK113 hb; replace BK114 := BF_ BK114 hb; replace HB := BU_ hb; clear hb; obtain ⟨hcz11_0, hcz11_1, hfz11_0, hfz11_1⟩ := CF_ BK113) | (refine GL_ 42 15 Tryz.func42 #[.slice A1_0 l1_0.length c1_0] ?_; (with_reducible refine (slices_Clone_int_int.calls _ _ l1_0 t116 _ (CW_ HR1_0) HC1_0.out A5.out).mono ?_); rintro e w12 ⟨v117, rfl, ho0, hb⟩; refine ⟨_, rfl, ?_⟩; have HO118 := A_ (Kd.R_lower ho0 (below_size T9_)); replace BK113 := BF_ BK113 hb; replace BK114 := BF_ BK114 hb; replace HB := BU_ hb; clear hb ho0; obtain ⟨Ao13, co13, eo13⟩ := Kd.R_slice HO118.out; subst eo13) | (refine BX_ 6 #[.slice none 0 0, .slice none 0 0] 25 ?_; intro gb119 hg w14 hbox hb; replace HO118 := RC_ HO118 hb; have BK119 := A_ (hbox); have GE119 := GE_ hg; replace HB := BU_ hb; have NB113_119 := NB_ BK113 hg; have NB119_113 := NC_ BK113 hg; replace BK113 := BF_ BK113 hb; have NB114_119 := NB_ BK114 hg; have NB119_114 := NC_ BK114 hg; replace BK114 := BF_ BK114 hb; clear hb hbox hg; have hnb15 := NB119_113.out; have hnc15 := NB113_119.out; have hnb16 := NB119_114.out; have hnc16 := NB114_119.out; obtain ⟨hcz17_0, hcz17_1, hfz17_0, hfz17_1⟩ := CF_ BK119; obtain ⟨hcz18_0, hcz18_1, hfz18_0, hfz18_1⟩ := CF_ BK113))
  go_loopg [20] k (fun kq v20 w' => ∃ (x20_1 : Int) (x120001_1 : List ByteArray) (u120001 : Value), v20 = .int .i64 x20_1 ∧ Aside0 (kink_each.l0 kq a0 l1_1 (l1_1.length : Int) x20_1 t116 x120001_1 = some (r1, r2, r3)) ∧ Aside0 (kq ≤ k) ∧ Aside0 (Kd.R (Kd.int .i64) 3 w' w.heap.size (fun _ => True) (.slice Ao13 t116.length co13) t116) ∧ Aside0 (Kd.R Kd.string 9 w' w.heap.size (fun _ => True) u120001 x120001_1) ∧ Aside0 (w'.heap[gb113]? = some (.cells #[(.slice A1_0 l1_0.length c1_0), (.slice A1_1 l1_1.length c1_1)] 25 (0, 0))) ∧ Aside0 (w'.heap[gb114]? = some (.cells #[(.slice none 0 0), (.slice none 0 0)] 25 (0, 0))) ∧ Aside0 (w'.heap[gb119]? = some (.cells #[(.slice Ao13 t116.length co13), u120001] 25 (0, 0))) ∧ Aside0 (Below w.heap.size w w'))
  case atStart => exact ⟨(0), (([] : List ByteArray)), (.slice none 0 0), S1_, H', ⟨Nat.le_refl _⟩, RW_ HO118, ⟨by first | exact Kd.R_nil _ _ _ _ _ | exact Kd.N_nil _ _ _ _ _ | exact Kd.V_nil _ _ _ _ _ | exact Kd.Q_nil _ _ _ _ _ | exact Kd.S_nil _ _ _ _ _⟩, BW_ BK113, BW_ BK114, ⟨by (with_reducible repeat (first | refine blk_drewN ?_ _ | refine blk_drew ?_ | refine blk_alloc ?_ _)); refine blk_put (cs := #[.slice Ao13 t116.length co13, .slice none 0 0]) ?_ 1 _ rfl; (with_reducible repeat (first | refine blk_drewN ?_ _ | refine blk_drew ?_ | refine blk_alloc ?_ _)); refine blk_put (cs := #[.slice none 0 0, .slice none 0 0]) ?_ 0 _ rfl; (with_reducible repeat (first | refine blk_drewN ?_ _ | refine blk_drew ?_ | refine blk_alloc ?_ _)); exact BK119.out⟩, ⟨T9_⟩⟩
  case round =>
   clear H'
   try clear c4
   try clear hcz11_0
   try clear hcz11_1
   try clear hcz17_0
   try clear hcz17_1
   try clear hcz18_0
   try clear hcz18_1
   try clear hcz9_0
   try clear hcz9_1
   try clear hfz11_0
   try clear hfz11_1
   try clear hfz17_0
   try clear hfz17_1
   try clear hfz18_0
   try clear hfz18_1
   try clear hfz9_0
   try clear hfz9_1
   obtain ⟨x20_1, x120001_1, u120001, rfl, HA, HK1, HO_120000, HO_120001, BK113, BK114, BK119, HB⟩ := hrel
   cases gk with
   | zero => exact absurd HA.out (by simp [kink_each.l0])
   | succ k1 =>
    have H := HA.out;clear HA;simp only [kink_each.l0] at H
    by_cases c19 : x20_1 < (l1_1.length : Int)
    ·
     rw [if_pos c19] at H;have c19b0 := decide_eq_true c19;clear c19
     by_cases c20 : 0 ≤ x20_1
     ·
      rw [if_pos c20] at H;have c20b0 := decide_eq_true c20;clear c20
      by_cases c21 : x20_1 < (l1_1.length : Int)
      ·
       rw [if_pos c21] at H;have c21b0 := decide_eq_true c21;clear c21;replace H := BE_ H;obtain ⟨t121, A220, H⟩ := H;have A22 := A_ A220;clear A220
       by_cases c23 : x120001_1.length < 8796093022208
       ·
        rw [if_pos c23] at H;have LMc23 := A_ c23;clear c23;obtain ⟨y122, hy_⟩ : ∃ y_ : List ByteArray, y_ = (x120001_1 ++ [t121]) := ⟨_, rfl⟩
        replace H : (kink_each.l0 k1 a0 l1_1 (l1_1.length : Int) (wrap64 (x20_1 + 1)) t116 y122) = some (r1, r2, r3) := RH_
        have Ny122 := A_ hy_;clear hy_;have H' := A_ H;clear H;have p120 : 0 ≤ (x20_1 : Int) := DA_;have q120 : x20_1 < (l1_1.length : Int) := DA_;obtain ⟨ad120, e120, hx120_0⟩ := Kd.at_string HR1_1.out x20_1 p120 q120
        cases e120
        replace hx120_0 := (HB.out.cell (World.block_lt_of_cell? w _ hx120_0)).trans hx120_0;replace p120 := eq_true p120;replace q120 := eq_true q120
        try go_wp2
        replace HO_120000 := A_ (Kd.R_drew HO_120000.out);replace HO_120001 := A_ (Kd.R_drew HO_120001.out);replace BK113 := A_ (blk_drew BK113.out);replace BK114 := A_ (blk_drew BK114.out);replace BK119 := A_ (blk_drew BK119.out);replace HB := A_ (below_drew1 HB.out);refine start_ (n := 9) (S := fun w' => w'.cell? ⟨gb119, 0, none⟩ = some (.slice Ao13 t116.length co13) ∧ w'.cell? ⟨gb119, 1, none⟩ = some (u120001)) (ds := [8]) #[false, false, false, false, false, false, false, false, false] (by kernel_rfl) rfl rfl ⟨(blk_cell BK119.out 0).trans rfl, (blk_cell BK119.out 1).trans rfl⟩ (fun hHeld => ?_); refine with_tabW kink_each.tab7 kink_each.bits7 (fun HT_ HW_ => ?_);generalize wr.drew = w24 at HO_120000 HO_120001 BK113 BK114 BK119 HB hHeld ⊢;refine PU_ 0 24 ?_;refine PU_ 2 26 ?_;refine PU_ 3 27 ?_;refine TK_ 1 25 rfl (by rfl) (by rintro w' ⟨s0, s1⟩;go_simp;with_reducible rfl) hHeld ?_
        refine one_ (i := 4) (N := some 28) #[true, true, true, true, true, false, false, false, false] rfl rfl (one_of HT_.out (by kernel_rfl)) (by decide) (fun K hK => ?_);refine goes_ Tryz.func62 (by kernel_rfl) rfl #[.int .i64 a0, .string (rdOf ByteArray.empty l1_1 x20_1)] (by rfl) rfl rfl T2_ ?_
        with_reducible refine (kink_one.calls a0 (rdOf ByteArray.empty l1_1 x20_1) t121 _ (Err.Gs.below HGs.out T9_) A22.out).mono ?_
        rintro e w25 ⟨rfl, hb⟩;refine ⟨_, rfl, ?_⟩;replace HO_120000 := RC_ HO_120000 hb;replace HO_120001 := RC_ HO_120001 hb;replace BK113 := BF_ BK113 hb;replace BK114 := BF_ BK114 hb;replace BK119 := BF_ BK119 hb;replace HB := BU_ hb
        (try clear hb)
        (try clear hb2)
        (try clear hk)
        (try clear hi)
        refine hK.out _ _ ⟨(blk_cell BK119.out 0).trans rfl, (blk_cell BK119.out 1).trans rfl⟩ (fun hHeld => ?_);clear hK K;refine norm_ (a' := ?_) ?_ ?_;rotate_left
        ·
         show Act.put _ (some 28) _ = _
         simp only [Act.put, List.setIfInBounds_toArray, List.set_cons_zero, List.set_cons_succ, i64_w, i32_w];rfl
        refine one_ (i := 5) (N := some 29) #[true, true, true, true, true, true, false, false, false] rfl rfl (one_of HT_.out (by kernel_rfl)) (by decide) (fun K hK => ?_);refine value_ (w1 := ?_) (v := ?_) (by rfl) rfl ?_ ?_;rotate_left 2
        ·
         go_simp;constructor
         ·
          rfl
         ·
          rfl
        refine hK.out _ _ ⟨(blk_cell (blk_alloc BK119.out _) 0).trans rfl, (blk_cell (blk_alloc BK119.out _) 1).trans rfl⟩ (fun hHeld => ?_);clear hK K;refine norm_ (a' := ?_) ?_ ?_;rotate_left
        ·
         show Act.put _ (some 29) _ = _
         simp only [Act.put, List.setIfInBounds_toArray, List.set_cons_zero, List.set_cons_succ, i64_w, i32_w];rfl
        refine one_ (i := 6) (N := some 30) #[true, true, true, true, true, true, true, false, false] rfl rfl (one_of HT_.out (by kernel_rfl)) (by decide) (fun K hK => ?_);refine Kd.R_append_step Kd.string (w0 := w) w.heap.size (by rfl) (.tmp 25) (.tmp 29) 23 9 (.string ⟨#[]⟩) 16 rfl Tryz.underlying23 info9 rfl (by decide) (by omega) u120001 x120001_1 t121 [.string t121] (fun _ => True) (fun _ => False) rfl rfl ?aP (fun _ hk => hk.elim) ?aF ?aO ?aB ?aS ?aL ?_
        (case aP => exact rfl)
        (case aB => exact T9_)
        (case aF => exact (fun _ _ => trivial))
        (case aO => exact (K1_ HO_120001))
        (case aS => exact (below_size T9_))
        (case aL => have := LMc23.out; omega)
        intro v123 w26 ho hb hg hat;rw [← Ny122.out] at ho;replace HO_120000 := A_ (Kd.R_over' (K1_ HO_120000) (Kd.R_typed (K1_ HO_120001)) (by decide) hg);have HO124 := A_ (ho);replace BK113 := A_ (blk_grown (g := gb113) (o := .cells #[.slice A1_0 l1_0.length c1_0, .slice (some ad120) l1_1.length c1_1] 25 (0, 0)) (B1_ BK113.out) hg (Kd.R_ne HO_120001.out BK113.out (by decide)));replace BK114 := A_ (blk_grown (g := gb114) (o := .cells #[.slice none 0 0, .slice none 0 0] 25 (0, 0)) (B1_ BK114.out) hg (Kd.R_ne HO_120001.out BK114.out (by decide)));replace BK119 := A_ (blk_grown (g := gb119) (o := .cells #[.slice Ao13 t116.length co13, u120001] 25 (0, 0)) (B1_ BK119.out) hg (Kd.R_ne HO_120001.out BK119.out (by decide)));replace HB := A_ (hb);clear HO_120001;clear ho hb hg hat;obtain ⟨Ao27, co27, eo27⟩ := Kd.R_slice HO124.out
        (first | subst eo27 | (injection eo27 with f1_ f2_ f3_; have f4_ := f1_.symm; have f5_ := f3_.symm; clear f1_ f2_ f3_; subst f4_; subst f5_))
        refine hK.out _ _ ⟨(blk_cell BK119.out 0).trans rfl, (blk_cell BK119.out 1).trans rfl⟩ (fun hHeld => ?_);clear hK K;refine norm_ (a' := ?_) ?_ ?_;rotate_left
        ·
         show Act.put _ (some 30) _ = _
         simp only [Act.put, List.setIfInBounds_toArray, List.set_cons_zero, List.set_cons_succ, i64_w, i32_w];rfl
        refine PU_ 7 31 ?_
        refine last_ (i := 8) (N := none) #[true, true, true, true, true, true, true, true, true] rfl rfl (one_of HT_.out (by kernel_rfl)) (by decide) (fun K hK => ?_);have hs28 : w26.cell? ⟨gb119, 1, none⟩ = some (u120001) := (blk_cell BK119.out 1).trans rfl;have hfs28 := blk_frozen BK119.out 1;have hns28_0 := NB113_119.out;have hns28_1 := NB114_119.out;have hms28_0 := NB119_113.out;have hms28_1 := NB119_114.out;refine skip_ (w1 := ?_) (by rfl) rfl ?_ ?_;rotate_left
        ·
         go_simp;rfl
        refine hK.out _ _ ?_;clear hK K;refine done_ (done_of HT_.out (by kernel_rfl)) ?_
        try go_wp2
        go_roundg k1
        case measure => have := HK1.out; omega
        case rel => exact ⟨(wrap64 (x20_1 + 1)), (y122), (.slice Ao27 y122.length co27), S1_, H', ⟨by have := HK1.out; omega⟩, RW_ HO_120000, RW_ HO124, BW_ BK113, BW_ BK114, ⟨by (with_reducible repeat (first | refine blk_drewN ?_ _ | refine blk_drew ?_ | refine blk_alloc ?_ _)); refine blk_put (cs := #[.slice Ao13 t116.length co13, u120001]) ?_ 1 _ rfl; (with_reducible repeat (first | refine blk_drewN ?_ _ | refine blk_drew ?_ | refine blk_alloc ?_ _)); exact BK119.out⟩, ⟨T9_⟩⟩
       ·
        rw [if_neg c23] at H;exact absurd H (by simp)
      ·
       rw [if_neg c21] at H;exact absurd H (by simp)
     ·
      rw [if_neg c20] at H;exact absurd H (by simp)
    ·
     rw [if_neg c19] at H;have c19b0 := decide_eq_false c19;clear c19;simp only [Option.some.injEq, Prod.mk.injEq] at H;obtain ⟨rfl, rfl, rfl⟩ := H;have hnb29 := NB119_113.out;have hnc29 := NB113_119.out;have hnb30 := NB119_114.out;have hnc30 := NB114_119.out;have hcz31_0 : wr.cell? ⟨gb119, 0, none⟩ = some (.slice Ao13 t116.length co13) := (blk_cell BK119.out 0).trans rfl;have hcz31_1 : wr.cell? ⟨gb119, 1, none⟩ = some (u120001) := (blk_cell BK119.out 1).trans rfl;have hfz31_0 := blk_frozen BK119.out 0;have hfz31_1 := blk_frozen BK119.out 1;have hnb32 := NB114_113.out;have hnc32 := NB113_114.out;have hcz33_0 : wr.cell? ⟨gb114, 0, none⟩ = some (.slice none 0 0) := (blk_cell BK114.out 0).trans rfl;have hcz33_1 : wr.cell? ⟨gb114, 1, none⟩ = some (.slice none 0 0) := (blk_cell BK114.out 1).trans rfl;have hfz33_0 := blk_frozen BK114.out 0;have hfz33_1 := blk_frozen BK114.out 1;obtain ⟨Ao34, co34, eo34⟩ := Kd.R_slice HO_120001.out;subst eo34
     go_wp2
     refine bodyPost_ret (results_ct rfl _ _ gb114 25 #[.slice Ao13 t116.length co13, .slice Ao34 x120001_1.length co34] (0, 0) _ rfl (by (with_reducible repeat (first | refine blk_drewN ?_ _ | refine blk_drew ?_ | refine blk_alloc ?_ _)); refine blk_put (cs := #[.slice Ao13 t116.length co13, .slice none 0 0]) ?_ 1 _ rfl; (with_reducible repeat (first | refine blk_drewN ?_ _ | refine blk_drew ?_ | refine blk_alloc ?_ _)); refine blk_put (cs := #[.slice none 0 0, .slice none 0 0]) ?_ 0 _ rfl; (with_reducible repeat (first | refine blk_drewN ?_ _ | refine blk_drew ?_ | refine blk_alloc ?_ _)); exact BK114.out) Tryz.underlying25 rfl (by kernel_rfl)) rfl ?_;exact ⟨_, _, by first | rfl | (simp [errW_none, errW_some] <;> rfl) | (simp [*, errW_none, errW_some] <;> rfl), by (with_reducible repeat (first | apply Kd.R_alloc | apply Kd.R_drewN | apply Kd.R_drew)); exact Kd.R_mono (Kd.R_far (p := ⟨gb114, 1, none⟩) (Kd.R_far (p := ⟨gb114, 0, none⟩) (Kd.R_types HO_120000.out BK114.out (by decide)) (fun _ hk => hk.2) (.slice Ao13 t116.length co13)) (fun _ hk => hk.2) (.slice Ao34 x120001_1.length co34)) (fun _ hk => trivial), by (with_reducible repeat (first | apply Kd.R_alloc | apply Kd.R_drewN | apply Kd.R_drew)); exact Kd.R_mono (Kd.R_far (p := ⟨gb114, 1, none⟩) (Kd.R_far (p := ⟨gb114, 0, none⟩) (Kd.R_types HO_120001.out BK114.out (by decide)) (fun _ hk => hk.2) (.slice Ao13 t116.length co13)) (fun _ hk => hk.2) (.slice Ao34 x120001_1.length co34)) (fun _ hk => trivial), T9_⟩
 ·
  replace c4 := Bool.eq_false_iff.mpr c4;subst c4;rw [if_neg (show ¬ (false = true) by decide)] at H;simp only [Option.some.injEq, Prod.mk.injEq] at H;obtain ⟨rfl, rfl, rfl⟩ := H;go_enter Tryz.func36, Tryz.ntmps36
  go_wp2_with (first | (refine BX_ 3 #[.slice A1_0 l1_0.length c1_0, .slice A1_1 l1_1.length c1_1] 25 ?_; intro gb113 hg w35 hbox hb; have BK113 := A_ (hbox); have GE113 := GE_ hg; replace HB := BS_ hb; clear hb hbox hg) | (refine BX_ 4 #[.slice none 0 0, .slice none 0 0] 25 ?_; intro gb114 hg w36 hbox hb; have BK114 := A_ (hbox); have GE114 := GE_ hg; replace HB := BU_ hb; have NB113_114 := NB_ BK113 hg; have NB114_113 := NC_ BK113 hg; replace BK113 := BF_ BK113 hb; clear hb hbox hg; have hnb37 := NB113_114.out; have hnc37 := NB114_113.out; obtain ⟨hcz38_0, hcz38_1, hfz38_0, hfz38_1⟩ := CF_ BK113) | (refine GL_ 31 10 Tryz.func31 #[.agg #[.slice A1_0 l1_0.length c1_0, .slice A1_1 l1_1.length c1_1]] ?_; (with_reducible refine (tensor_Right.calls _ _ l1_0 _ _ l1_1 false _ (Err.Gs.below HGs.out T9_) (CW_ HR1_0) HC1_0.out (CW_ HR1_1) HC1_1.out A3.out).mono ?_); rintro e w39 ⟨rfl, hb⟩; refine ⟨_, rfl, ?_⟩; replace BK113 := BF_ BK113 hb; replace BK114 := BF_ BK114 hb; replace HB := BU_ hb; clear hb; obtain ⟨hcz40_0, hcz40_1, hfz40_0, hfz40_1⟩ := CF_ BK114))
  refine bodyPost_ret (results_ct rfl _ _ gb114 25 #[.slice none 0 0, .slice none 0 0] (0, 0) _ rfl (by (with_reducible repeat (first | refine blk_drewN ?_ _ | refine blk_drew ?_ | refine blk_alloc ?_ _)); refine blk_put (cs := #[.slice none 0 0, .slice none 0 0]) ?_ 1 _ rfl; (with_reducible repeat (first | refine blk_drewN ?_ _ | refine blk_drew ?_ | refine blk_alloc ?_ _)); refine blk_put (cs := #[.slice none 0 0, .slice none 0 0]) ?_ 0 _ rfl; (with_reducible repeat (first | refine blk_drewN ?_ _ | refine blk_drew ?_ | refine blk_alloc ?_ _)); exact BK114.out) Tryz.underlying25 rfl (by kernel_rfl)) rfl ?_;exact ⟨_, _, by first | rfl | (simp [errW_none, errW_some] <;> rfl) | (simp [*, errW_none, errW_some] <;> rfl), by first | exact Kd.R_nil _ _ _ _ _ | exact Kd.N_nil _ _ _ _ _ | exact Kd.V_nil _ _ _ _ _ | exact Kd.Q_nil _ _ _ _ _ | exact Kd.S_nil _ _ _ _ _, by first | exact Kd.R_nil _ _ _ _ _ | exact Kd.N_nil _ _ _ _ _ | exact Kd.V_nil _ _ _ _ _ | exact Kd.Q_nil _ _ _ _ _ | exact Kd.S_nil _ _ _ _ _, T9_⟩
end Go.Proofs.YtndkjpkgllmbnaaGreatDoor.PK
