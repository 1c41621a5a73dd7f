-- by wip/tool/mine.py of this repo (the kit's printer with given contracts)
import Derived.Test.YtfjlmiehbikmnaaDoorPQx0
import Derived.Test.YtfjlmiehbikmnaaDoorPQx1
import Derived.Test.YtfjlmiehbikmnaaDoorPQx2
namespace Go.Proofs.YtfjlmiehbikmnaaDoor.PQ
open Go.RowKit Go.Proofs.YtfjlmiehbikmnaaDoorW.PrintWords Go.Proofs.YtfjlmiehbikmnaaDoorW.PrintLast Go.Proofs.YtfjlmiehbikmnaaDoorW.PrintMore
attribute [local go_sem] max2_int min2_int max_two min_two max_three min_three max_four min_four   -- for this text's walks alone
set_option linter.unusedVariables false
set_option linter.unusedSimpArgs false

/-! ### tapewrightlaw03_RatOne: function 9 -/
noncomputable def tapewrightlaw03_RatOne.f (k : Nat) (a0 : ByteArray) (a1 : ByteArray) (a2 : ByteArray) : Option (Bool) := (tapewrightlaw03_right.f k (([a0, a1, a2] : List ByteArray))).bind fun t137 => (if t137 = true then ((rat_Compare.f a0 a1).bind fun bt139 => ((rat_Compare.f a1 a0).bind fun bt141 => ((rat_Add.f a0 a2).bind fun bt143 => ((rat_Add.f a1 a2).bind fun bt145 => ((rat_Compare.f bt143.1 bt145.1).bind fun bt147 => (if ((bt139.1 == 0) == (a0.toList == a1.toList)) = true then (if bt139.1 = (wrap64 (-bt141.1)) then (if bt147.1 = bt139.1 then (if bt139.2 = 0 then (if bt141.2 = 0 then (if bt147.2 = 0 then ((tapewrightlaw03_awake.f).bind fun t149 => (some t149)) else (some false)) else (some false)) else (some false)) else (some false)) else (some false)) else (some false))))))) else ((tapewrightlaw03_awake.f).bind fun t138 => (some t138)))
set_option maxHeartbeats 8000000 in
set_option maxRecDepth 100000 in
theorem tapewrightlaw03_RatOne.calls (k : Nat) (a0 : ByteArray) (a1 : ByteArray) (a2 : ByteArray) (r : Bool) (w : World) (hG : Err.Gs w) (hrt : r = true) (h : tapewrightlaw03_RatOne.f k a0 a1 a2 = some r) :
  Calls Tryd.prog 9 #[.string a0, .string a1, .string a2] w fun e w' => e = .returned (.bool r) ∧ Below w.heap.size w w' := by
 have HB := Aside0.mk (Below.refl w.heap.size w)
 have HGs := Aside0.mk hG
 clear hG
 have HRT := Aside0.mk hrt
 clear hrt
 have H : ((tapewrightlaw03_right.f k (([a0, a1, a2] : List ByteArray))).bind fun t137 => (if t137 = true then ((rat_Compare.f a0 a1).bind fun bt139 => ((rat_Compare.f a1 a0).bind fun bt141 => ((rat_Add.f a0 a2).bind fun bt143 => ((rat_Add.f a1 a2).bind fun bt145 => ((rat_Compare.f bt143.1 bt145.1).bind fun bt147 => (if ((bt139.1 == 0) == (a0.toList == a1.toList)) = true then (if bt139.1 = (wrap64 (-bt141.1)) then (if bt147.1 = bt139.1 then (if bt139.2 = 0 then (if bt141.2 = 0 then (if bt147.2 = 0 then ((tapewrightlaw03_awake.f).bind fun t149 => (some t149)) else (some false)) else (some false)) else (some false)) else (some false)) else (some false)) else (some false))))))) else ((tapewrightlaw03_awake.f).bind fun t138 => (some t138)))) = some r := h
 clear h
 obtain ⟨y134, hy134⟩ : ∃ y_ : List ByteArray, y_ = (([a0, a1, a2] : List ByteArray)) := ⟨_, rfl⟩
 replace H : ((tapewrightlaw03_right.f k y134).bind fun t137 => (if t137 = true then ((rat_Compare.f a0 a1).bind fun bt139 => ((rat_Compare.f a1 a0).bind fun bt141 => ((rat_Add.f a0 a2).bind fun bt143 => ((rat_Add.f a1 a2).bind fun bt145 => ((rat_Compare.f bt143.1 bt145.1).bind fun bt147 => (if ((bt139.1 == 0) == (a0.toList == a1.toList)) = true then (if bt139.1 = (wrap64 (-bt141.1)) then (if bt147.1 = bt139.1 then (if bt139.2 = 0 then (if bt141.2 = 0 then (if bt147.2 = 0 then ((tapewrightlaw03_awake.f).bind fun t149 => (some t149)) else (some false)) else (some false)) else (some false)) else (some false)) else (some false)) else (some false))))))) else ((tapewrightlaw03_awake.f).bind fun t138 => (some t138)))) = some r := by first | (rw [hy134]; with_reducible exact H) | (have H2_ := (Option.bind_some _ _).symm.trans H; rw [hy134]; with_reducible exact H2_) | (have H2_ := (Option.bind_some _ _).symm.trans H; with_reducible exact H2_) | with_reducible exact H | (rw [hy134]; exact H) | exact H
 have Ny134 := Aside0.mk hy134
 clear hy134
 replace H := Option.bind_eq_some_iff.mp H
 obtain ⟨t137, A40, H⟩ := H
 replace H : (if t137 = true then ((rat_Compare.f a0 a1).bind fun bt139 => ((rat_Compare.f a1 a0).bind fun bt141 => ((rat_Add.f a0 a2).bind fun bt143 => ((rat_Add.f a1 a2).bind fun bt145 => ((rat_Compare.f bt143.1 bt145.1).bind fun bt147 => (if ((bt139.1 == 0) == (a0.toList == a1.toList)) = true then (if bt139.1 = (wrap64 (-bt141.1)) then (if bt147.1 = bt139.1 then (if bt139.2 = 0 then (if bt141.2 = 0 then (if bt147.2 = 0 then ((tapewrightlaw03_awake.f).bind fun t149 => (some t149)) else (some false)) else (some false)) else (some false)) else (some false)) else (some false)) else (some false))))))) else ((tapewrightlaw03_awake.f).bind fun t138 => (some t138))) = some r := H
 have A4 := Aside0.mk A40
 clear A40
 by_cases c5 : t137 = true
 ·
  subst c5
  have H1 : ((rat_Compare.f a0 a1).bind fun bt139 => ((rat_Compare.f a1 a0).bind fun bt141 => ((rat_Add.f a0 a2).bind fun bt143 => ((rat_Add.f a1 a2).bind fun bt145 => ((rat_Compare.f bt143.1 bt145.1).bind fun bt147 => (if ((bt139.1 == 0) == (a0.toList == a1.toList)) = true then (if bt139.1 = (wrap64 (-bt141.1)) then (if bt147.1 = bt139.1 then (if bt139.2 = 0 then (if bt141.2 = 0 then (if bt147.2 = 0 then ((tapewrightlaw03_awake.f).bind fun t149 => (some t149)) else (some false)) else (some false)) else (some false)) else (some false)) else (some false)) else (some false))))))) = some r := by rw [if_pos rfl] at H; exact H
  clear H
  have H := H1
  clear H1
  replace H := Option.bind_eq_some_iff.mp H
  obtain ⟨⟨t139, t140⟩, A60, H⟩ := H
  replace H : ((rat_Compare.f a1 a0).bind fun bt141 => ((rat_Add.f a0 a2).bind fun bt143 => ((rat_Add.f a1 a2).bind fun bt145 => ((rat_Compare.f bt143.1 bt145.1).bind fun bt147 => (if ((t139 == 0) == (a0.toList == a1.toList)) = true then (if t139 = (wrap64 (-bt141.1)) then (if bt147.1 = t139 then (if t140 = 0 then (if bt141.2 = 0 then (if bt147.2 = 0 then ((tapewrightlaw03_awake.f).bind fun t149 => (some t149)) else (some false)) else (some false)) else (some false)) else (some false)) else (some false)) else (some false)))))) = some r := H
  have A6 := Aside0.mk A60
  clear A60
  replace H := Option.bind_eq_some_iff.mp H
  obtain ⟨⟨t141, t142⟩, A70, H⟩ := H
  replace H : ((rat_Add.f a0 a2).bind fun bt143 => ((rat_Add.f a1 a2).bind fun bt145 => ((rat_Compare.f bt143.1 bt145.1).bind fun bt147 => (if ((t139 == 0) == (a0.toList == a1.toList)) = true then (if t139 = (wrap64 (-t141)) then (if bt147.1 = t139 then (if t140 = 0 then (if t142 = 0 then (if bt147.2 = 0 then ((tapewrightlaw03_awake.f).bind fun t149 => (some t149)) else (some false)) else (some false)) else (some false)) else (some false)) else (some false)) else (some false))))) = some r := H
  have A7 := Aside0.mk A70
  clear A70
  replace H := Option.bind_eq_some_iff.mp H
  obtain ⟨⟨t143, t144⟩, A80, H⟩ := H
  replace H : ((rat_Add.f a1 a2).bind fun bt145 => ((rat_Compare.f t143 bt145.1).bind fun bt147 => (if ((t139 == 0) == (a0.toList == a1.toList)) = true then (if t139 = (wrap64 (-t141)) then (if bt147.1 = t139 then (if t140 = 0 then (if t142 = 0 then (if bt147.2 = 0 then ((tapewrightlaw03_awake.f).bind fun t149 => (some t149)) else (some false)) else (some false)) else (some false)) else (some false)) else (some false)) else (some false)))) = some r := H
  have A8 := Aside0.mk A80
  clear A80
  replace H := Option.bind_eq_some_iff.mp H
  obtain ⟨⟨t145, t146⟩, A90, H⟩ := H
  replace H : ((rat_Compare.f t143 t145).bind fun bt147 => (if ((t139 == 0) == (a0.toList == a1.toList)) = true then (if t139 = (wrap64 (-t141)) then (if bt147.1 = t139 then (if t140 = 0 then (if t142 = 0 then (if bt147.2 = 0 then ((tapewrightlaw03_awake.f).bind fun t149 => (some t149)) else (some false)) else (some false)) else (some false)) else (some false)) else (some false)) else (some false))) = some r := H
  have A9 := Aside0.mk A90
  clear A90
  replace H := Option.bind_eq_some_iff.mp H
  obtain ⟨⟨t147, t148⟩, A100, H⟩ := H
  replace H : (if ((t139 == 0) == (a0.toList == a1.toList)) = true then (if t139 = (wrap64 (-t141)) then (if t147 = t139 then (if t140 = 0 then (if t142 = 0 then (if t148 = 0 then ((tapewrightlaw03_awake.f).bind fun t149 => (some t149)) else (some false)) else (some false)) else (some false)) else (some false)) else (some false)) else (some false)) = some r := H
  have A10 := Aside0.mk A100
  clear A100
  by_cases c11 : ((t139 == 0) == (a0.toList == a1.toList)) = true
  ·
   rw [if_pos c11] at H
   have c11b0 : ((t139 == 0) == (a0.toList == a1.toList)) = true := c11
   (try (have c11b1 : decide ((t139 == 0) = (a0.toList == a1.toList)) = true := by simpa using c11))
   (try (have c11b2 : ((t139 == 0) == (a0.toList == a1.toList)) = true := by simpa using c11))
   clear c11
   by_cases c12 : t139 = (wrap64 (-t141))
   ·
    rw [if_pos c12] at H
    have c12b0 : (t139 == (wrap64 (-t141))) = true := beq_iff_eq.mpr c12
    have c12b1 : (t139 != (wrap64 (-t141))) = false := bne_eq_false_iff_eq.mpr c12
    clear c12
    by_cases c13 : t147 = t139
    ·
     rw [if_pos c13] at H
     have c13b0 : (t147 == t139) = true := beq_iff_eq.mpr c13
     have c13b1 : (t147 != t139) = false := bne_eq_false_iff_eq.mpr c13
     clear c13
     by_cases c14 : t140 = 0
     ·
      rw [if_pos c14] at H
      have c14b0 : (t140 == 0) = true := beq_iff_eq.mpr c14
      have c14b1 : (t140 != 0) = false := bne_eq_false_iff_eq.mpr c14
      clear c14
      by_cases c15 : t142 = 0
      ·
       rw [if_pos c15] at H
       have c15b0 : (t142 == 0) = true := beq_iff_eq.mpr c15
       have c15b1 : (t142 != 0) = false := bne_eq_false_iff_eq.mpr c15
       clear c15
       by_cases c16 : t148 = 0
       ·
        rw [if_pos c16] at H
        have c16b0 : (t148 == 0) = true := beq_iff_eq.mpr c16
        have c16b1 : (t148 != 0) = false := bne_eq_false_iff_eq.mpr c16
        clear c16
        replace H := Option.bind_eq_some_iff.mp H
        obtain ⟨t149, A170, H⟩ := H
        replace H : (some t149) = some r := H
        have A17 := Aside0.mk A170
        clear A170
        obtain rfl := Option.some.inj H
        go_enter Tryd.func9, Tryd.ntmps9
        go_wp2_with (first | ((with_reducible refine gate_dst (N := 20) rfl ?_); refine Kd.R_lit Kd.string _ 9 ?hg (N := 20) ?hd (xs := ([a0, a1, a2] : List ByteArray)) (inner := [.string a0, .string a1, .string a2]) (ok := fun _ => True) (okp := fun _ => True) ?hr ?hp (fun _ hk => hk) trivial (Below.refl _ _) (Nat.le_refl _) (by simp) ?_; (case hd => rfl); (case hg => rfl); (case hr => exact T3_); (case hp => exact (Reps.one (show Kd.M Kd.string _ _ _ a0 [.string a0] from rfl) (Reps.one (show Kd.M Kd.string _ _ _ a1 [.string a1] from rfl) (Reps.one (show Kd.M Kd.string _ _ _ a2 [.string a2] from rfl) (Reps.none _ _))))); intro v135 w18 ho19 hb hg_ hnew_; clear hg_ hnew_; (first | rw [← Ny134.out] at ho19 | (simp only [Int.reduceToNat] at ho19; rw [← Ny134.out] at ho19)); have HO136 := Aside0.mk (Kd.R_lower ho19 (below_size T1_)); replace HB := Aside0.mk (below_step T1_ hb); clear hb ho19; obtain ⟨Ao20, co20, eo20⟩ := Kd.R_slice HO136.out; subst eo20) | ((with_reducible refine gate_callee (f := 12) rfl ?_); refine goesL_ (some 21) rfl rfl Tryd.func12 (by kernel_rfl) rfl #[.slice Ao20 y134.length co20] rfl T2_ ?_; (with_reducible refine (tapewrightlaw03_right.calls k _ _ y134 true _ (Err.Gs.below HGs.out T1_) ?side1 ?side2 A4.out).mono ?_); (case side1 => exact C1_ (Kd.R_reads' HO136.out).2.2); (case side2 => exact (Kd.R_reads' HO136.out).2.1); rintro e w21 ⟨rfl, hb⟩; refine ⟨_, rfl, ?_⟩; replace HO136 := Aside0.mk (Kd.R_below (K1_ HO136) hb); replace HB := Aside0.mk (below_step T1_ hb); clear hb) | ((with_reducible refine gate_callee (f := 23) rfl ?_); refine goesL_ (some 27) rfl rfl Tryd.func23 (by kernel_rfl) rfl #[.string a0, .string a1] rfl T2_ ?_; (with_reducible refine (rat_Compare.calls a0 a1 t139 t140 _ (Err.Gs.below HGs.out T1_) A6.out).mono ?_); rintro e w22 ⟨rfl, hb⟩; refine ⟨_, rfl, ?_⟩; replace HO136 := Aside0.mk (Kd.R_below (K1_ HO136) hb); replace HB := Aside0.mk (below_step T1_ hb); clear hb) | ((with_reducible refine gate_callee (f := 23) rfl ?_); refine goesL_ (some 33) rfl rfl Tryd.func23 (by kernel_rfl) rfl #[.string a1, .string a0] rfl T2_ ?_; (with_reducible refine (rat_Compare.calls a1 a0 t141 t142 _ (Err.Gs.below HGs.out T1_) A7.out).mono ?_); rintro e w23 ⟨rfl, hb⟩; refine ⟨_, rfl, ?_⟩; replace HO136 := Aside0.mk (Kd.R_below (K1_ HO136) hb); replace HB := Aside0.mk (below_step T1_ hb); clear hb) | ((with_reducible refine gate_callee (f := 14) rfl ?_); refine goesL_ (some 39) rfl rfl Tryd.func14 (by kernel_rfl) rfl #[.string a0, .string a2] rfl T2_ ?_; (with_reducible refine (rat_Add.calls a0 a2 t143 t144 _ (Err.Gs.below HGs.out T1_) A8.out).mono ?_); rintro e w24 ⟨rfl, hb⟩; refine ⟨_, rfl, ?_⟩; replace HO136 := Aside0.mk (Kd.R_below (K1_ HO136) hb); replace HB := Aside0.mk (below_step T1_ hb); clear hb) | ((with_reducible refine gate_callee (f := 14) rfl ?_); refine goesL_ (some 45) rfl rfl Tryd.func14 (by kernel_rfl) rfl #[.string a1, .string a2] rfl T2_ ?_; (with_reducible refine (rat_Add.calls a1 a2 t145 t146 _ (Err.Gs.below HGs.out T1_) A9.out).mono ?_); rintro e w25 ⟨rfl, hb⟩; refine ⟨_, rfl, ?_⟩; replace HO136 := Aside0.mk (Kd.R_below (K1_ HO136) hb); replace HB := Aside0.mk (below_step T1_ hb); clear hb) | ((with_reducible refine gate_callee (f := 23) rfl ?_); refine goesL_ (some 51) rfl rfl Tryd.func23 (by kernel_rfl) rfl #[.string t143, .string t145] rfl T2_ ?_; (with_reducible refine (rat_Compare.calls t143 t145 t147 t148 _ (Err.Gs.below HGs.out T1_) A10.out).mono ?_); rintro e w26 ⟨rfl, hb⟩; refine ⟨_, rfl, ?_⟩; replace HO136 := Aside0.mk (Kd.R_below (K1_ HO136) hb); replace HB := Aside0.mk (below_step T1_ hb); clear hb) | (go_at_call 13; (with_reducible refine (tapewrightlaw03_awake.calls  t149 _ (Err.Gs.below HGs.out T1_) A17.out).mono ?_); rintro e w27 ⟨rfl, hb⟩; replace HO136 := Aside0.mk (Kd.R_below (K1_ HO136) hb); replace HB := Aside0.mk (below_step T1_ hb); clear hb))
        go_ret
        exact ⟨T4_, T1_⟩
       ·
        rw [if_neg c16] at H
        have c16b0 : (t148 == 0) = false := beq_eq_false_iff_ne.mpr c16
        have c16b1 : (t148 != 0) = true := bne_iff_ne.mpr c16
        exact absurd ((Option.some.inj H).trans HRT.out) (by decide)
      ·
       rw [if_neg c15] at H
       have c15b0 : (t142 == 0) = false := beq_eq_false_iff_ne.mpr c15
       have c15b1 : (t142 != 0) = true := bne_iff_ne.mpr c15
       exact absurd ((Option.some.inj H).trans HRT.out) (by decide)
     ·
      rw [if_neg c14] at H
      have c14b0 : (t140 == 0) = false := beq_eq_false_iff_ne.mpr c14
      have c14b1 : (t140 != 0) = true := bne_iff_ne.mpr c14
      exact absurd ((Option.some.inj H).trans HRT.out) (by decide)
    ·
     rw [if_neg c13] at H
     have c13b0 : (t147 == t139) = false := beq_eq_false_iff_ne.mpr c13
     have c13b1 : (t147 != t139) = true := bne_iff_ne.mpr c13
     exact absurd ((Option.some.inj H).trans HRT.out) (by decide)
   ·
    rw [if_neg c12] at H
    have c12b0 : (t139 == (wrap64 (-t141))) = false := beq_eq_false_iff_ne.mpr c12
    have c12b1 : (t139 != (wrap64 (-t141))) = true := bne_iff_ne.mpr c12
    exact absurd ((Option.some.inj H).trans HRT.out) (by decide)
  ·
   rw [if_neg c11] at H
   have c11b0 : ((t139 == 0) == (a0.toList == a1.toList)) = false := by simpa using c11
   (try (have c11b1 : decide ((t139 == 0) = (a0.toList == a1.toList)) = false := by simpa using c11))
   (try (have c11b2 : ((t139 == 0) == (a0.toList == a1.toList)) = false := by simpa using c11))
   (try (have c11b3 : ¬ ((t139 == 0) = (a0.toList == a1.toList)) := by simpa using c11))
   clear c11
   exact absurd ((Option.some.inj H).trans HRT.out) (by decide)
 ·
  replace c5 := Bool.eq_false_iff.mpr c5
  subst c5
  have H1 : ((tapewrightlaw03_awake.f).bind fun t138 => (some t138)) = some r := by rw [if_neg (show ¬ (false = true) by decide)] at H; exact H
  clear H
  have H := H1
  clear H1
  replace H := Option.bind_eq_some_iff.mp H
  obtain ⟨t138, A280, H⟩ := H
  replace H : (some t138) = some r := H
  have A28 := Aside0.mk A280
  clear A280
  obtain rfl := Option.some.inj H
  go_enter Tryd.func9, Tryd.ntmps9
  go_wp2_with (first | ((with_reducible refine gate_dst (N := 20) rfl ?_); refine Kd.R_lit Kd.string _ 9 ?hg (N := 20) ?hd (xs := ([a0, a1, a2] : List ByteArray)) (inner := [.string a0, .string a1, .string a2]) (ok := fun _ => True) (okp := fun _ => True) ?hr ?hp (fun _ hk => hk) trivial (Below.refl _ _) (Nat.le_refl _) (by simp) ?_; (case hd => rfl); (case hg => rfl); (case hr => exact T3_); (case hp => exact (Reps.one (show Kd.M Kd.string _ _ _ a0 [.string a0] from rfl) (Reps.one (show Kd.M Kd.string _ _ _ a1 [.string a1] from rfl) (Reps.one (show Kd.M Kd.string _ _ _ a2 [.string a2] from rfl) (Reps.none _ _))))); intro v135 w29 ho30 hb hg_ hnew_; clear hg_ hnew_; (first | rw [← Ny134.out] at ho30 | (simp only [Int.reduceToNat] at ho30; rw [← Ny134.out] at ho30)); have HO136 := Aside0.mk (Kd.R_lower ho30 (below_size T1_)); replace HB := Aside0.mk (below_step T1_ hb); clear hb ho30; obtain ⟨Ao31, co31, eo31⟩ := Kd.R_slice HO136.out; subst eo31) | ((with_reducible refine gate_callee (f := 12) rfl ?_); refine goesL_ (some 21) rfl rfl Tryd.func12 (by kernel_rfl) rfl #[.slice Ao31 y134.length co31] rfl T2_ ?_; (with_reducible refine (tapewrightlaw03_right.calls k _ _ y134 false _ (Err.Gs.below HGs.out T1_) ?side1 ?side2 A4.out).mono ?_); (case side1 => exact C1_ (Kd.R_reads' HO136.out).2.2); (case side2 => exact (Kd.R_reads' HO136.out).2.1); rintro e w32 ⟨rfl, hb⟩; refine ⟨_, rfl, ?_⟩; replace HO136 := Aside0.mk (Kd.R_below (K1_ HO136) hb); replace HB := Aside0.mk (below_step T1_ hb); clear hb) | ((with_reducible refine gate_callee (f := 13) rfl ?_); refine goesL_ (some 23) rfl rfl Tryd.func13 (by kernel_rfl) rfl #[] rfl T2_ ?_; (with_reducible refine (tapewrightlaw03_awake.calls  t138 _ (Err.Gs.below HGs.out T1_) A28.out).mono ?_); rintro e w33 ⟨rfl, hb⟩; refine ⟨_, rfl, ?_⟩; replace HO136 := Aside0.mk (Kd.R_below (K1_ HO136) hb); replace HB := Aside0.mk (below_step T1_ hb); clear hb))
  go_ret
  exact ⟨T4_, T1_⟩

/-- THE ONE PURE STATEMENT of tapewrightlaw03_RatOne: yours. -/
def tapewrightlaw03_RatOne.Pure : Prop := ∀ (a0 : ByteArray) (a1 : ByteArray) (a2 : ByteArray), a0.size ≤ 140737488351232 → a1.size ≤ 140737488351232 → a2.size ≤ 140737488351232 → ∃ k, tapewrightlaw03_RatOne.f k a0 a1 a2 = some true
theorem tapewrightlaw03_RatOne.walk (P : tapewrightlaw03_RatOne.Pure) (a0 : ByteArray) (a1 : ByteArray) (a2 : ByteArray) (w : World) (hG : Err.Gs w) (w0 : a0.size ≤ 140737488351232) (w1 : a1.size ≤ 140737488351232) (w2 : a2.size ≤ 140737488351232) :
  Calls Tryd.prog 9 #[.string a0, .string a1, .string a2] w fun e w' => e = .returned (.bool true) ∧ Below w.heap.size w w' := by
 obtain ⟨k, h⟩ := P a0 a1 a2 w0 w1 w2
 refine (tapewrightlaw03_RatOne.calls k a0 a1 a2 true w hG rfl h).mono ?_
 rintro e w' ⟨rfl, hd⟩
 exact ⟨rfl, hd⟩

/-! ### rat_Power: function 19 -/
noncomputable def rat_Power.f (a0 : ByteArray) (a1 : Int) : Option (ByteArray × Int) := if a0.size ≤ 3000000000 then some (Err.rPower a0 a1) else none
theorem rat_Power.calls (a0 : ByteArray) (a1 : Int) (r1 : ByteArray) (r2 : Int) (w : World) (hG : Err.Gs w) (h : rat_Power.f a0 a1 = some (r1, r2)) :
  Calls Tryd.prog 19 #[.string a0, .int .i64 a1] w fun e w' => e = .returned (.tuple #[.string r1, .int .i64 r2]) ∧ Below w.heap.size w w' := by
 unfold rat_Power.f at h
 by_cases c : a0.size ≤ 3000000000
 ·
  rw [if_pos c] at h
  injection h with h
  have := Err.power_calls a0 a1 c w hG
  rw [h] at this
  exact this
 ·
  rw [if_neg c] at h
  cases h
theorem rat_Power.of (a0 : ByteArray) (a1 : Int) (h : a0.size ≤ 3000000000) : rat_Power.f a0 a1 = some (Err.rPower a0 a1) := by rw [rat_Power.f, if_pos h]
theorem rat_Power.rt {x : Rat} (hx : Err.Fr x) (n : Nat) (hn : n ≤ 6) : rat_Power.f (Err.rt x) (n : Int) = some (Err.rt (x ^ n), 0) := by
 rw [rat_Power.of _ _ hx.size', Err.rPower, Err.rv_rt]
 dsimp only
 rw [if_neg (by omega), Int.toNat_natCast]

/-! ### tapewrightlaw03_RatPowers: function 5 -/
noncomputable def tapewrightlaw03_RatPowers.f (k : Nat) (a0 : ByteArray) (a1 : Int) (a2 : Int) : Option (Bool) := (tapewrightlaw03_right.f k (([a0] : List ByteArray))).bind fun t153 => (if t153 = true then ((rat_Power.f a0 (wrap64 (Int.tmod a1 4))).bind fun bt155 => ((rat_Power.f a0 (wrap64 (Int.tmod a2 4))).bind fun bt157 => ((rat_Power.f a0 (wrap64 ((wrap64 (Int.tmod a1 4)) + (wrap64 (Int.tmod a2 4))))).bind fun bt159 => ((rat_Mul.f bt155.1 bt157.1).bind fun bt161 => (if bt159.1.toList = bt161.1.toList then (if bt159.2 = 0 then (if bt161.2 = 0 then ((tapewrightlaw03_awake.f).bind fun t163 => (some t163)) else (some false)) else (some false)) else (some false)))))) else ((tapewrightlaw03_awake.f).bind fun t154 => (some t154)))
set_option maxHeartbeats 8000000 in
set_option maxRecDepth 100000 in
theorem tapewrightlaw03_RatPowers.calls (k : Nat) (a0 : ByteArray) (a1 : Int) (a2 : Int) (r : Bool) (w : World) (hG : Err.Gs w) (hrt : r = true) (h : tapewrightlaw03_RatPowers.f k a0 a1 a2 = some r) :
  Calls Tryd.prog 5 #[.string a0, .int .u8 a1, .int .u8 a2] w fun e w' => e = .returned (.bool r) ∧ Below w.heap.size w w' := by
 have HB := Aside0.mk (Below.refl w.heap.size w)
 have HGs := Aside0.mk hG
 clear hG
 have HRT := Aside0.mk hrt
 clear hrt
 have H : ((tapewrightlaw03_right.f k (([a0] : List ByteArray))).bind fun t153 => (if t153 = true then ((rat_Power.f a0 (wrap64 (Int.tmod a1 4))).bind fun bt155 => ((rat_Power.f a0 (wrap64 (Int.tmod a2 4))).bind fun bt157 => ((rat_Power.f a0 (wrap64 ((wrap64 (Int.tmod a1 4)) + (wrap64 (Int.tmod a2 4))))).bind fun bt159 => ((rat_Mul.f bt155.1 bt157.1).bind fun bt161 => (if bt159.1.toList = bt161.1.toList then (if bt159.2 = 0 then (if bt161.2 = 0 then ((tapewrightlaw03_awake.f).bind fun t163 => (some t163)) else (some false)) else (some false)) else (some false)))))) else ((tapewrightlaw03_awake.f).bind fun t154 => (some t154)))) = some r := h
 clear h
 obtain ⟨y150, hy150⟩ : ∃ y_ : List ByteArray, y_ = (([a0] : List ByteArray)) := ⟨_, rfl⟩
 replace H : ((tapewrightlaw03_right.f k y150).bind fun t153 => (if t153 = true then ((rat_Power.f a0 (wrap64 (Int.tmod a1 4))).bind fun bt155 => ((rat_Power.f a0 (wrap64 (Int.tmod a2 4))).bind fun bt157 => ((rat_Power.f a0 (wrap64 ((wrap64 (Int.tmod a1 4)) + (wrap64 (Int.tmod a2 4))))).bind fun bt159 => ((rat_Mul.f bt155.1 bt157.1).bind fun bt161 => (if bt159.1.toList = bt161.1.toList then (if bt159.2 = 0 then (if bt161.2 = 0 then ((tapewrightlaw03_awake.f).bind fun t163 => (some t163)) else (some false)) else (some false)) else (some false)))))) else ((tapewrightlaw03_awake.f).bind fun t154 => (some t154)))) = some r := by first | (rw [hy150]; with_reducible exact H) | (have H2_ := (Option.bind_some _ _).symm.trans H; rw [hy150]; with_reducible exact H2_) | (have H2_ := (Option.bind_some _ _).symm.trans H; with_reducible exact H2_) | with_reducible exact H | (rw [hy150]; exact H) | exact H
 have Ny150 := Aside0.mk hy150
 clear hy150
 replace H := Option.bind_eq_some_iff.mp H
 obtain ⟨t153, A40, H⟩ := H
 replace H : (if t153 = true then ((rat_Power.f a0 (wrap64 (Int.tmod a1 4))).bind fun bt155 => ((rat_Power.f a0 (wrap64 (Int.tmod a2 4))).bind fun bt157 => ((rat_Power.f a0 (wrap64 ((wrap64 (Int.tmod a1 4)) + (wrap64 (Int.tmod a2 4))))).bind fun bt159 => ((rat_Mul.f bt155.1 bt157.1).bind fun bt161 => (if bt159.1.toList = bt161.1.toList then (if bt159.2 = 0 then (if bt161.2 = 0 then ((tapewrightlaw03_awake.f).bind fun t163 => (some t163)) else (some false)) else (some false)) else (some false)))))) else ((tapewrightlaw03_awake.f).bind fun t154 => (some t154))) = some r := H
 have A4 := Aside0.mk A40
 clear A40
 by_cases c5 : t153 = true
 ·
  subst c5
  have H1 : ((rat_Power.f a0 (wrap64 (Int.tmod a1 4))).bind fun bt155 => ((rat_Power.f a0 (wrap64 (Int.tmod a2 4))).bind fun bt157 => ((rat_Power.f a0 (wrap64 ((wrap64 (Int.tmod a1 4)) + (wrap64 (Int.tmod a2 4))))).bind fun bt159 => ((rat_Mul.f bt155.1 bt157.1).bind fun bt161 => (if bt159.1.toList = bt161.1.toList then (if bt159.2 = 0 then (if bt161.2 = 0 then ((tapewrightlaw03_awake.f).bind fun t163 => (some t163)) else (some false)) else (some false)) else (some false)))))) = some r := by rw [if_pos rfl] at H; exact H
  clear H
  have H := H1
  clear H1
  replace H := Option.bind_eq_some_iff.mp H
  obtain ⟨⟨t155, t156⟩, A60, H⟩ := H
  replace H : ((rat_Power.f a0 (wrap64 (Int.tmod a2 4))).bind fun bt157 => ((rat_Power.f a0 (wrap64 ((wrap64 (Int.tmod a1 4)) + (wrap64 (Int.tmod a2 4))))).bind fun bt159 => ((rat_Mul.f t155 bt157.1).bind fun bt161 => (if bt159.1.toList = bt161.1.toList then (if bt159.2 = 0 then (if bt161.2 = 0 then ((tapewrightlaw03_awake.f).bind fun t163 => (some t163)) else (some false)) else (some false)) else (some false))))) = some r := H
  have A6 := Aside0.mk A60
  clear A60
  replace H := Option.bind_eq_some_iff.mp H
  obtain ⟨⟨t157, t158⟩, A70, H⟩ := H
  replace H : ((rat_Power.f a0 (wrap64 ((wrap64 (Int.tmod a1 4)) + (wrap64 (Int.tmod a2 4))))).bind fun bt159 => ((rat_Mul.f t155 t157).bind fun bt161 => (if bt159.1.toList = bt161.1.toList then (if bt159.2 = 0 then (if bt161.2 = 0 then ((tapewrightlaw03_awake.f).bind fun t163 => (some t163)) else (some false)) else (some false)) else (some false)))) = some r := H
  have A7 := Aside0.mk A70
  clear A70
  replace H := Option.bind_eq_some_iff.mp H
  obtain ⟨⟨t159, t160⟩, A80, H⟩ := H
  replace H : ((rat_Mul.f t155 t157).bind fun bt161 => (if t159.toList = bt161.1.toList then (if t160 = 0 then (if bt161.2 = 0 then ((tapewrightlaw03_awake.f).bind fun t163 => (some t163)) else (some false)) else (some false)) else (some false))) = some r := H
  have A8 := Aside0.mk A80
  clear A80
  replace H := Option.bind_eq_some_iff.mp H
  obtain ⟨⟨t161, t162⟩, A90, H⟩ := H
  replace H : (if t159.toList = t161.toList then (if t160 = 0 then (if t162 = 0 then ((tapewrightlaw03_awake.f).bind fun t163 => (some t163)) else (some false)) else (some false)) else (some false)) = some r := H
  have A9 := Aside0.mk A90
  clear A90
  by_cases c10 : t159.toList = t161.toList
  ·
   rw [if_pos c10] at H
   have c10b0 : (t159.toList == t161.toList) = true := beq_iff_eq.mpr c10
   have c10b1 : (t159.toList != t161.toList) = false := bne_eq_false_iff_eq.mpr c10
   clear c10
   by_cases c11 : t160 = 0
   ·
    rw [if_pos c11] at H
    have c11b0 : (t160 == 0) = true := beq_iff_eq.mpr c11
    have c11b1 : (t160 != 0) = false := bne_eq_false_iff_eq.mpr c11
    clear c11
    by_cases c12 : t162 = 0
    ·
     rw [if_pos c12] at H
     have c12b0 : (t162 == 0) = true := beq_iff_eq.mpr c12
     have c12b1 : (t162 != 0) = false := bne_eq_false_iff_eq.mpr c12
     clear c12
     replace H := Option.bind_eq_some_iff.mp H
     obtain ⟨t163, A130, H⟩ := H
     replace H : (some t163) = some r := H
     have A13 := Aside0.mk A130
     clear A130
     obtain rfl := Option.some.inj H
     go_enter Tryd.func5, Tryd.ntmps5
     go_wp2_with (first | ((with_reducible refine gate_dst (N := 18) rfl ?_); refine Kd.R_lit Kd.string _ 9 ?hg (N := 18) ?hd (xs := ([a0] : List ByteArray)) (inner := [.string a0]) (ok := fun _ => True) (okp := fun _ => True) ?hr ?hp (fun _ hk => hk) trivial (Below.refl _ _) (Nat.le_refl _) (by simp) ?_; (case hd => rfl); (case hg => rfl); (case hr => exact T3_); (case hp => exact (Reps.one (show Kd.M Kd.string _ _ _ a0 [.string a0] from rfl) (Reps.none _ _))); intro v151 w14 ho15 hb hg_ hnew_; clear hg_ hnew_; (first | rw [← Ny150.out] at ho15 | (simp only [Int.reduceToNat] at ho15; rw [← Ny150.out] at ho15)); have HO152 := Aside0.mk (Kd.R_lower ho15 (below_size T1_)); replace HB := Aside0.mk (below_step T1_ hb); clear hb ho15; obtain ⟨Ao16, co16, eo16⟩ := Kd.R_slice HO152.out; subst eo16) | ((with_reducible refine gate_callee (f := 12) rfl ?_); refine goesL_ (some 19) rfl rfl Tryd.func12 (by kernel_rfl) rfl #[.slice Ao16 y150.length co16] rfl T2_ ?_; (with_reducible refine (tapewrightlaw03_right.calls k _ _ y150 true _ (Err.Gs.below HGs.out T1_) ?side1 ?side2 A4.out).mono ?_); (case side1 => exact C1_ (Kd.R_reads' HO152.out).2.2); (case side2 => exact (Kd.R_reads' HO152.out).2.1); rintro e w17 ⟨rfl, hb⟩; refine ⟨_, rfl, ?_⟩; replace HO152 := Aside0.mk (Kd.R_below (K1_ HO152) hb); replace HB := Aside0.mk (below_step T1_ hb); clear hb) | ((with_reducible refine gate_callee (f := 19) rfl ?_); refine goesL_ (some 31) rfl rfl Tryd.func19 (by kernel_rfl) rfl #[.string a0, .int .i64 (wrap64 (Int.tmod a1 4))] rfl T2_ ?_; (with_reducible refine (rat_Power.calls a0 (wrap64 (Int.tmod a1 4)) t155 t156 _ (Err.Gs.below HGs.out T1_) A6.out).mono ?_); rintro e w18 ⟨rfl, hb⟩; refine ⟨_, rfl, ?_⟩; replace HO152 := Aside0.mk (Kd.R_below (K1_ HO152) hb); replace HB := Aside0.mk (below_step T1_ hb); clear hb) | ((with_reducible refine gate_callee (f := 19) rfl ?_); refine goesL_ (some 37) rfl rfl Tryd.func19 (by kernel_rfl) rfl #[.string a0, .int .i64 (wrap64 (Int.tmod a2 4))] rfl T2_ ?_; (with_reducible refine (rat_Power.calls a0 (wrap64 (Int.tmod a2 4)) t157 t158 _ (Err.Gs.below HGs.out T1_) A7.out).mono ?_); rintro e w19 ⟨rfl, hb⟩; refine ⟨_, rfl, ?_⟩; replace HO152 := Aside0.mk (Kd.R_below (K1_ HO152) hb); replace HB := Aside0.mk (below_step T1_ hb); clear hb) | ((with_reducible refine gate_callee (f := 19) rfl ?_); refine goesL_ (some 45) rfl rfl Tryd.func19 (by kernel_rfl) rfl #[.string a0, .int .i64 (wrap64 ((wrap64 (Int.tmod a1 4)) + (wrap64 (Int.tmod a2 4))))] rfl T2_ ?_; (with_reducible refine (rat_Power.calls a0 (wrap64 ((wrap64 (Int.tmod a1 4)) + (wrap64 (Int.tmod a2 4)))) t159 t160 _ (Err.Gs.below HGs.out T1_) A8.out).mono ?_); rintro e w20 ⟨rfl, hb⟩; refine ⟨_, rfl, ?_⟩; replace HO152 := Aside0.mk (Kd.R_below (K1_ HO152) hb); replace HB := Aside0.mk (below_step T1_ hb); clear hb) | ((with_reducible refine gate_callee (f := 18) rfl ?_); refine goesL_ (some 51) rfl rfl Tryd.func18 (by kernel_rfl) rfl #[.string t155, .string t157] rfl T2_ ?_; (with_reducible refine (rat_Mul.calls t155 t157 t161 t162 _ (Err.Gs.below HGs.out T1_) A9.out).mono ?_); rintro e w21 ⟨rfl, hb⟩; refine ⟨_, rfl, ?_⟩; replace HO152 := Aside0.mk (Kd.R_below (K1_ HO152) hb); replace HB := Aside0.mk (below_step T1_ hb); clear hb) | (go_at_call 13; (with_reducible refine (tapewrightlaw03_awake.calls  t163 _ (Err.Gs.below HGs.out T1_) A13.out).mono ?_); rintro e w22 ⟨rfl, hb⟩; replace HO152 := Aside0.mk (Kd.R_below (K1_ HO152) hb); replace HB := Aside0.mk (below_step T1_ hb); clear hb))
     go_ret
     exact ⟨T4_, T1_⟩
    ·
     rw [if_neg c12] at H
     have c12b0 : (t162 == 0) = false := beq_eq_false_iff_ne.mpr c12
     have c12b1 : (t162 != 0) = true := bne_iff_ne.mpr c12
     exact absurd ((Option.some.inj H).trans HRT.out) (by decide)
   ·
    rw [if_neg c11] at H
    have c11b0 : (t160 == 0) = false := beq_eq_false_iff_ne.mpr c11
    have c11b1 : (t160 != 0) = true := bne_iff_ne.mpr c11
    exact absurd ((Option.some.inj H).trans HRT.out) (by decide)
  ·
   rw [if_neg c10] at H
   have c10b0 : (t159.toList == t161.toList) = false := beq_eq_false_iff_ne.mpr c10
   have c10b1 : (t159.toList != t161.toList) = true := bne_iff_ne.mpr c10
   exact absurd ((Option.some.inj H).trans HRT.out) (by decide)
 ·
  replace c5 := Bool.eq_false_iff.mpr c5
  subst c5
  have H1 : ((tapewrightlaw03_awake.f).bind fun t154 => (some t154)) = some r := by rw [if_neg (show ¬ (false = true) by decide)] at H; exact H
  clear H
  have H := H1
  clear H1
  replace H := Option.bind_eq_some_iff.mp H
  obtain ⟨t154, A230, H⟩ := H
  replace H : (some t154) = some r := H
  have A23 := Aside0.mk A230
  clear A230
  obtain rfl := Option.some.inj H
  go_enter Tryd.func5, Tryd.ntmps5
  go_wp2_with (first | ((with_reducible refine gate_dst (N := 18) rfl ?_); refine Kd.R_lit Kd.string _ 9 ?hg (N := 18) ?hd (xs := ([a0] : List ByteArray)) (inner := [.string a0]) (ok := fun _ => True) (okp := fun _ => True) ?hr ?hp (fun _ hk => hk) trivial (Below.refl _ _) (Nat.le_refl _) (by simp) ?_; (case hd => rfl); (case hg => rfl); (case hr => exact T3_); (case hp => exact (Reps.one (show Kd.M Kd.string _ _ _ a0 [.string a0] from rfl) (Reps.none _ _))); intro v151 w24 ho25 hb hg_ hnew_; clear hg_ hnew_; (first | rw [← Ny150.out] at ho25 | (simp only [Int.reduceToNat] at ho25; rw [← Ny150.out] at ho25)); have HO152 := Aside0.mk (Kd.R_lower ho25 (below_size T1_)); replace HB := Aside0.mk (below_step T1_ hb); clear hb ho25; obtain ⟨Ao26, co26, eo26⟩ := Kd.R_slice HO152.out; subst eo26) | ((with_reducible refine gate_callee (f := 12) rfl ?_); refine goesL_ (some 19) rfl rfl Tryd.func12 (by kernel_rfl) rfl #[.slice Ao26 y150.length co26] rfl T2_ ?_; (with_reducible refine (tapewrightlaw03_right.calls k _ _ y150 false _ (Err.Gs.below HGs.out T1_) ?side1 ?side2 A4.out).mono ?_); (case side1 => exact C1_ (Kd.R_reads' HO152.out).2.2); (case side2 => exact (Kd.R_reads' HO152.out).2.1); rintro e w27 ⟨rfl, hb⟩; refine ⟨_, rfl, ?_⟩; replace HO152 := Aside0.mk (Kd.R_below (K1_ HO152) hb); replace HB := Aside0.mk (below_step T1_ hb); clear hb) | ((with_reducible refine gate_callee (f := 13) rfl ?_); refine goesL_ (some 21) rfl rfl Tryd.func13 (by kernel_rfl) rfl #[] rfl T2_ ?_; (with_reducible refine (tapewrightlaw03_awake.calls  t154 _ (Err.Gs.below HGs.out T1_) A23.out).mono ?_); rintro e w28 ⟨rfl, hb⟩; refine ⟨_, rfl, ?_⟩; replace HO152 := Aside0.mk (Kd.R_below (K1_ HO152) hb); replace HB := Aside0.mk (below_step T1_ hb); clear hb))
  go_ret
  exact ⟨T4_, T1_⟩

/-- THE ONE PURE STATEMENT of tapewrightlaw03_RatPowers: yours. -/
def tapewrightlaw03_RatPowers.Pure : Prop := ∀ (a0 : ByteArray) (a1 : Int) (a2 : Int), a0.size ≤ 140737488351232 → (Lit.int .u8 a1).wf = true → (Lit.int .u8 a2).wf = true → ∃ k, tapewrightlaw03_RatPowers.f k a0 a1 a2 = some true
theorem tapewrightlaw03_RatPowers.walk (P : tapewrightlaw03_RatPowers.Pure) (a0 : ByteArray) (a1 : Int) (a2 : Int) (w : World) (hG : Err.Gs w) (w0 : a0.size ≤ 140737488351232) (w1 : (Lit.int .u8 a1).wf = true) (w2 : (Lit.int .u8 a2).wf = true) :
  Calls Tryd.prog 5 #[.string a0, .int .u8 a1, .int .u8 a2] w fun e w' => e = .returned (.bool true) ∧ Below w.heap.size w w' := by
 obtain ⟨k, h⟩ := P a0 a1 a2 w0 w1 w2
 refine (tapewrightlaw03_RatPowers.calls k a0 a1 a2 true w hG rfl h).mono ?_
 rintro e w' ⟨rfl, hd⟩
 exact ⟨rfl, hd⟩

/-! ### rat_Neg: function 21 -/
noncomputable def rat_Neg.f (a0 : ByteArray) : Option (ByteArray × Int) := if a0.size ≤ 40000000000 then some (Err.rNeg a0) else none
theorem rat_Neg.calls (a0 : ByteArray) (r1 : ByteArray) (r2 : Int) (w : World) (hG : Err.Gs w) (h : rat_Neg.f a0 = some (r1, r2)) :
  Calls Tryd.prog 21 #[.string a0] w fun e w' => e = .returned (.tuple #[.string r1, .int .i64 r2]) ∧ Below w.heap.size w w' := by
 unfold rat_Neg.f at h
 by_cases c : a0.size ≤ 40000000000
 ·
  rw [if_pos c] at h
  injection h with h
  have := Err.neg_calls a0 c w hG
  rw [h] at this
  exact this
 ·
  rw [if_neg c] at h
  cases h
theorem rat_Neg.of (a0 : ByteArray) (h : a0.size ≤ 40000000000) : rat_Neg.f a0 = some (Err.rNeg a0) := by rw [rat_Neg.f, if_pos h]
theorem rat_Neg.rt {x : Rat} (hx : Err.Fr x) : rat_Neg.f (Err.rt x) = some (Err.rt (-x), 0) := by
 rw [rat_Neg.of _ hx.size, Err.rNeg_rt]

end Go.Proofs.YtfjlmiehbikmnaaDoor.PQ
