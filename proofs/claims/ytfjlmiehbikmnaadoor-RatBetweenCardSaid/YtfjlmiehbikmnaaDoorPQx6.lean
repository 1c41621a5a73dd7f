-- by wip/tool/mine.py of this repo (the kit's printer with given contracts)
import Derived.Test.YtfjlmiehbikmnaaDoorPQx0
import Derived.Test.YtfjlmiehbikmnaaDoorPQx1
import Derived.Test.YtfjlmiehbikmnaaDoorPQx2
namespace Go.Proofs.YtfjlmiehbikmnaaDoor.PQ
open Go.RowKit Go.Proofs.YtfjlmiehbikmnaaDoorW.PrintWords Go.Proofs.YtfjlmiehbikmnaaDoorW.PrintLast Go.Proofs.YtfjlmiehbikmnaaDoorW.PrintMore
attribute [local go_sem] max2_int min2_int max_two min_two max_three min_three max_four min_four   -- for this text's walks alone
set_option linter.unusedVariables false
set_option linter.unusedSimpArgs false

/-! ### tapewrightlaw03_RatBetween: function 11 -/
noncomputable def tapewrightlaw03_RatBetween.f (k : Nat) (a0 : ByteArray) (a1 : ByteArray) : Option (Bool) := (tapewrightlaw03_right.f k (([a0, a1] : List ByteArray))).bind fun t210 => (if t210 = true then ((rat_Add.f a0 a1).bind fun bt212 => ((rat_Quo.f bt212.1 (⟨#[50]⟩ : ByteArray)).bind fun bt214 => ((rat_Compare.f a0 a1).bind fun bt216 => ((rat_Compare.f a0 bt214.1).bind fun bt218 => ((rat_Compare.f bt214.1 a1).bind fun bt220 => (if bt218.1 = bt216.1 then (if bt220.1 = bt216.1 then (if a0.toList = a1.toList then (if bt214.1.toList = a0.toList then (if bt214.2 = 0 then (if bt220.2 = 0 then ((tapewrightlaw03_awake.f).bind fun t222 => (some t222)) else (some false)) else (some false)) else (some false)) else (if bt214.2 = 0 then (if bt220.2 = 0 then ((tapewrightlaw03_awake.f).bind fun t223 => (some t223)) else (some false)) else (some false))) else (some false)) else (some false))))))) else ((tapewrightlaw03_awake.f).bind fun t211 => (some t211)))
set_option maxHeartbeats 8000000 in
set_option maxRecDepth 100000 in
theorem tapewrightlaw03_RatBetween.calls (k : Nat) (a0 : ByteArray) (a1 : ByteArray) (r : Bool) (w : World) (hG : Err.Gs w) (hrt : r = true) (h : tapewrightlaw03_RatBetween.f k a0 a1 = some r) :
  Calls Tryd.prog 11 #[.string a0, .string a1] w fun e w' => e = .returned (.bool r) ∧ Below w.heap.size w w' := by
 have HB := Aside0.mk (Below.refl w.heap.size w)
 have HGs := Aside0.mk hG
 clear hG
 have HRT := Aside0.mk hrt
 clear hrt
 have H : ((tapewrightlaw03_right.f k (([a0, a1] : List ByteArray))).bind fun t210 => (if t210 = true then ((rat_Add.f a0 a1).bind fun bt212 => ((rat_Quo.f bt212.1 (⟨#[50]⟩ : ByteArray)).bind fun bt214 => ((rat_Compare.f a0 a1).bind fun bt216 => ((rat_Compare.f a0 bt214.1).bind fun bt218 => ((rat_Compare.f bt214.1 a1).bind fun bt220 => (if bt218.1 = bt216.1 then (if bt220.1 = bt216.1 then (if a0.toList = a1.toList then (if bt214.1.toList = a0.toList then (if bt214.2 = 0 then (if bt220.2 = 0 then ((tapewrightlaw03_awake.f).bind fun t222 => (some t222)) else (some false)) else (some false)) else (some false)) else (if bt214.2 = 0 then (if bt220.2 = 0 then ((tapewrightlaw03_awake.f).bind fun t223 => (some t223)) else (some false)) else (some false))) else (some false)) else (some false))))))) else ((tapewrightlaw03_awake.f).bind fun t211 => (some t211)))) = some r := h
 clear h
 obtain ⟨y207, hy207⟩ : ∃ y_ : List ByteArray, y_ = (([a0, a1] : List ByteArray)) := ⟨_, rfl⟩
 replace H : ((tapewrightlaw03_right.f k y207).bind fun t210 => (if t210 = true then ((rat_Add.f a0 a1).bind fun bt212 => ((rat_Quo.f bt212.1 (⟨#[50]⟩ : ByteArray)).bind fun bt214 => ((rat_Compare.f a0 a1).bind fun bt216 => ((rat_Compare.f a0 bt214.1).bind fun bt218 => ((rat_Compare.f bt214.1 a1).bind fun bt220 => (if bt218.1 = bt216.1 then (if bt220.1 = bt216.1 then (if a0.toList = a1.toList then (if bt214.1.toList = a0.toList then (if bt214.2 = 0 then (if bt220.2 = 0 then ((tapewrightlaw03_awake.f).bind fun t222 => (some t222)) else (some false)) else (some false)) else (some false)) else (if bt214.2 = 0 then (if bt220.2 = 0 then ((tapewrightlaw03_awake.f).bind fun t223 => (some t223)) else (some false)) else (some false))) else (some false)) else (some false))))))) else ((tapewrightlaw03_awake.f).bind fun t211 => (some t211)))) = some r := by first | (rw [hy207]; with_reducible exact H) | (have H2_ := (Option.bind_some _ _).symm.trans H; rw [hy207]; with_reducible exact H2_) | (have H2_ := (Option.bind_some _ _).symm.trans H; with_reducible exact H2_) | with_reducible exact H | (rw [hy207]; exact H) | exact H
 have Ny207 := Aside0.mk hy207
 clear hy207
 replace H := Option.bind_eq_some_iff.mp H
 obtain ⟨t210, A30, H⟩ := H
 replace H : (if t210 = true then ((rat_Add.f a0 a1).bind fun bt212 => ((rat_Quo.f bt212.1 (⟨#[50]⟩ : ByteArray)).bind fun bt214 => ((rat_Compare.f a0 a1).bind fun bt216 => ((rat_Compare.f a0 bt214.1).bind fun bt218 => ((rat_Compare.f bt214.1 a1).bind fun bt220 => (if bt218.1 = bt216.1 then (if bt220.1 = bt216.1 then (if a0.toList = a1.toList then (if bt214.1.toList = a0.toList then (if bt214.2 = 0 then (if bt220.2 = 0 then ((tapewrightlaw03_awake.f).bind fun t222 => (some t222)) else (some false)) else (some false)) else (some false)) else (if bt214.2 = 0 then (if bt220.2 = 0 then ((tapewrightlaw03_awake.f).bind fun t223 => (some t223)) else (some false)) else (some false))) else (some false)) else (some false))))))) else ((tapewrightlaw03_awake.f).bind fun t211 => (some t211))) = some r := H
 have A3 := Aside0.mk A30
 clear A30
 by_cases c4 : t210 = true
 ·
  subst c4
  have H1 : ((rat_Add.f a0 a1).bind fun bt212 => ((rat_Quo.f bt212.1 (⟨#[50]⟩ : ByteArray)).bind fun bt214 => ((rat_Compare.f a0 a1).bind fun bt216 => ((rat_Compare.f a0 bt214.1).bind fun bt218 => ((rat_Compare.f bt214.1 a1).bind fun bt220 => (if bt218.1 = bt216.1 then (if bt220.1 = bt216.1 then (if a0.toList = a1.toList then (if bt214.1.toList = a0.toList then (if bt214.2 = 0 then (if bt220.2 = 0 then ((tapewrightlaw03_awake.f).bind fun t222 => (some t222)) else (some false)) else (some false)) else (some false)) else (if bt214.2 = 0 then (if bt220.2 = 0 then ((tapewrightlaw03_awake.f).bind fun t223 => (some t223)) else (some false)) else (some false))) else (some false)) else (some false))))))) = some r := by rw [if_pos rfl] at H; exact H
  clear H
  have H := H1
  clear H1
  replace H := Option.bind_eq_some_iff.mp H
  obtain ⟨⟨t212, t213⟩, A50, H⟩ := H
  replace H : ((rat_Quo.f t212 (⟨#[50]⟩ : ByteArray)).bind fun bt214 => ((rat_Compare.f a0 a1).bind fun bt216 => ((rat_Compare.f a0 bt214.1).bind fun bt218 => ((rat_Compare.f bt214.1 a1).bind fun bt220 => (if bt218.1 = bt216.1 then (if bt220.1 = bt216.1 then (if a0.toList = a1.toList then (if bt214.1.toList = a0.toList then (if bt214.2 = 0 then (if bt220.2 = 0 then ((tapewrightlaw03_awake.f).bind fun t222 => (some t222)) else (some false)) else (some false)) else (some false)) else (if bt214.2 = 0 then (if bt220.2 = 0 then ((tapewrightlaw03_awake.f).bind fun t223 => (some t223)) else (some false)) else (some false))) else (some false)) else (some false)))))) = some r := H
  have A5 := Aside0.mk A50
  clear A50
  replace H := Option.bind_eq_some_iff.mp H
  obtain ⟨⟨t214, t215⟩, A60, H⟩ := H
  replace H : ((rat_Compare.f a0 a1).bind fun bt216 => ((rat_Compare.f a0 t214).bind fun bt218 => ((rat_Compare.f t214 a1).bind fun bt220 => (if bt218.1 = bt216.1 then (if bt220.1 = bt216.1 then (if a0.toList = a1.toList then (if t214.toList = a0.toList then (if t215 = 0 then (if bt220.2 = 0 then ((tapewrightlaw03_awake.f).bind fun t222 => (some t222)) else (some false)) else (some false)) else (some false)) else (if t215 = 0 then (if bt220.2 = 0 then ((tapewrightlaw03_awake.f).bind fun t223 => (some t223)) else (some false)) else (some false))) else (some false)) else (some false))))) = some r := H
  have A6 := Aside0.mk A60
  clear A60
  replace H := Option.bind_eq_some_iff.mp H
  obtain ⟨⟨t216, t217⟩, A70, H⟩ := H
  replace H : ((rat_Compare.f a0 t214).bind fun bt218 => ((rat_Compare.f t214 a1).bind fun bt220 => (if bt218.1 = t216 then (if bt220.1 = t216 then (if a0.toList = a1.toList then (if t214.toList = a0.toList then (if t215 = 0 then (if bt220.2 = 0 then ((tapewrightlaw03_awake.f).bind fun t222 => (some t222)) else (some false)) else (some false)) else (some false)) else (if t215 = 0 then (if bt220.2 = 0 then ((tapewrightlaw03_awake.f).bind fun t223 => (some t223)) else (some false)) else (some false))) else (some false)) else (some false)))) = some r := H
  have A7 := Aside0.mk A70
  clear A70
  replace H := Option.bind_eq_some_iff.mp H
  obtain ⟨⟨t218, t219⟩, A80, H⟩ := H
  replace H : ((rat_Compare.f t214 a1).bind fun bt220 => (if t218 = t216 then (if bt220.1 = t216 then (if a0.toList = a1.toList then (if t214.toList = a0.toList then (if t215 = 0 then (if bt220.2 = 0 then ((tapewrightlaw03_awake.f).bind fun t222 => (some t222)) else (some false)) else (some false)) else (some false)) else (if t215 = 0 then (if bt220.2 = 0 then ((tapewrightlaw03_awake.f).bind fun t223 => (some t223)) else (some false)) else (some false))) else (some false)) else (some false))) = some r := H
  have A8 := Aside0.mk A80
  clear A80
  replace H := Option.bind_eq_some_iff.mp H
  obtain ⟨⟨t220, t221⟩, A90, H⟩ := H
  replace H : (if t218 = t216 then (if t220 = t216 then (if a0.toList = a1.toList then (if t214.toList = a0.toList then (if t215 = 0 then (if t221 = 0 then ((tapewrightlaw03_awake.f).bind fun t222 => (some t222)) else (some false)) else (some false)) else (some false)) else (if t215 = 0 then (if t221 = 0 then ((tapewrightlaw03_awake.f).bind fun t223 => (some t223)) else (some false)) else (some false))) else (some false)) else (some false)) = some r := H
  have A9 := Aside0.mk A90
  clear A90
  by_cases c10 : t218 = t216
  ·
   rw [if_pos c10] at H
   have c10b0 : (t218 == t216) = true := beq_iff_eq.mpr c10
   have c10b1 : (t218 != t216) = false := bne_eq_false_iff_eq.mpr c10
   clear c10
   by_cases c11 : t220 = t216
   ·
    rw [if_pos c11] at H
    have c11b0 : (t220 == t216) = true := beq_iff_eq.mpr c11
    have c11b1 : (t220 != t216) = false := bne_eq_false_iff_eq.mpr c11
    clear c11
    by_cases c12 : a0.toList = a1.toList
    ·
     rw [if_pos c12] at H
     have c12b0 : (a0.toList == a1.toList) = true := beq_iff_eq.mpr c12
     have c12b1 : (a0.toList != a1.toList) = false := bne_eq_false_iff_eq.mpr c12
     clear c12
     by_cases c13 : t214.toList = a0.toList
     ·
      rw [if_pos c13] at H
      have c13b0 : (t214.toList == a0.toList) = true := beq_iff_eq.mpr c13
      have c13b1 : (t214.toList != a0.toList) = false := bne_eq_false_iff_eq.mpr c13
      clear c13
      by_cases c14 : t215 = 0
      ·
       rw [if_pos c14] at H
       have c14b0 : (t215 == 0) = true := beq_iff_eq.mpr c14
       have c14b1 : (t215 != 0) = false := bne_eq_false_iff_eq.mpr c14
       clear c14
       by_cases c15 : t221 = 0
       ·
        rw [if_pos c15] at H
        have c15b0 : (t221 == 0) = true := beq_iff_eq.mpr c15
        have c15b1 : (t221 != 0) = false := bne_eq_false_iff_eq.mpr c15
        clear c15
        replace H := Option.bind_eq_some_iff.mp H
        obtain ⟨t222, A160, H⟩ := H
        replace H : (some t222) = some r := H
        have A16 := Aside0.mk A160
        clear A160
        obtain rfl := Option.some.inj H
        go_enter Tryd.func11, Tryd.ntmps11
        go_wp2_with (first | ((with_reducible refine gate_dst (N := 17) rfl ?_); refine Kd.R_lit Kd.string _ 9 ?hg (N := 17) ?hd (xs := ([a0, a1] : List ByteArray)) (inner := [.string a0, .string a1]) (ok := fun _ => True) (okp := fun _ => True) ?hr ?hp (fun _ hk => hk) trivial (Below.refl _ _) (Nat.le_refl _) (by simp) ?_; (case hd => rfl); (case hg => rfl); (case hr => exact T3_); (case hp => exact (Reps.one (show Kd.M Kd.string _ _ _ a0 [.string a0] from rfl) (Reps.one (show Kd.M Kd.string _ _ _ a1 [.string a1] from rfl) (Reps.none _ _)))); intro v208 w17 ho18 hb hg_ hnew_; clear hg_ hnew_; (first | rw [← Ny207.out] at ho18 | (simp only [Int.reduceToNat] at ho18; rw [← Ny207.out] at ho18)); have HO209 := Aside0.mk (Kd.R_lower ho18 (below_size T1_)); replace HB := Aside0.mk (below_step T1_ hb); clear hb ho18; obtain ⟨Ao19, co19, eo19⟩ := Kd.R_slice HO209.out; subst eo19) | ((with_reducible refine gate_callee (f := 12) rfl ?_); refine goesL_ (some 18) rfl rfl Tryd.func12 (by kernel_rfl) rfl #[.slice Ao19 y207.length co19] rfl T2_ ?_; (with_reducible refine (tapewrightlaw03_right.calls k _ _ y207 true _ (Err.Gs.below HGs.out T1_) ?side1 ?side2 A3.out).mono ?_); (case side1 => exact C1_ (Kd.R_reads' HO209.out).2.2); (case side2 => exact (Kd.R_reads' HO209.out).2.1); rintro e w20 ⟨rfl, hb⟩; refine ⟨_, rfl, ?_⟩; replace HO209 := Aside0.mk (Kd.R_below (K1_ HO209) hb); replace HB := Aside0.mk (below_step T1_ hb); clear hb) | ((with_reducible refine gate_callee (f := 14) rfl ?_); refine goesL_ (some 24) rfl rfl Tryd.func14 (by kernel_rfl) rfl #[.string a0, .string a1] rfl T2_ ?_; (with_reducible refine (rat_Add.calls a0 a1 t212 t213 _ (Err.Gs.below HGs.out T1_) A5.out).mono ?_); rintro e w21 ⟨rfl, hb⟩; refine ⟨_, rfl, ?_⟩; replace HO209 := Aside0.mk (Kd.R_below (K1_ HO209) hb); replace HB := Aside0.mk (below_step T1_ hb); clear hb) | ((with_reducible refine gate_callee (f := 17) rfl ?_); refine goesL_ (some 29) rfl rfl Tryd.func17 (by kernel_rfl) rfl #[.string t212, .string (⟨#[50]⟩ : ByteArray)] rfl T2_ ?_; (with_reducible refine (rat_Quo.calls t212 (⟨#[50]⟩ : ByteArray) t214 t215 _ (Err.Gs.below HGs.out T1_) A6.out).mono ?_); rintro e w22 ⟨rfl, hb⟩; refine ⟨_, rfl, ?_⟩; replace HO209 := Aside0.mk (Kd.R_below (K1_ HO209) hb); replace HB := Aside0.mk (below_step T1_ hb); clear hb) | ((with_reducible refine gate_callee (f := 23) rfl ?_); refine goesL_ (some 35) rfl rfl Tryd.func23 (by kernel_rfl) rfl #[.string a0, .string a1] rfl T2_ ?_; (with_reducible refine (rat_Compare.calls a0 a1 t216 t217 _ (Err.Gs.below HGs.out T1_) A7.out).mono ?_); rintro e w23 ⟨rfl, hb⟩; refine ⟨_, rfl, ?_⟩; replace HO209 := Aside0.mk (Kd.R_below (K1_ HO209) hb); replace HB := Aside0.mk (below_step T1_ hb); clear hb) | ((with_reducible refine gate_callee (f := 23) rfl ?_); refine goesL_ (some 41) rfl rfl Tryd.func23 (by kernel_rfl) rfl #[.string a0, .string t214] rfl T2_ ?_; (with_reducible refine (rat_Compare.calls a0 t214 t218 t219 _ (Err.Gs.below HGs.out T1_) A8.out).mono ?_); rintro e w24 ⟨rfl, hb⟩; refine ⟨_, rfl, ?_⟩; replace HO209 := Aside0.mk (Kd.R_below (K1_ HO209) hb); replace HB := Aside0.mk (below_step T1_ hb); clear hb) | ((with_reducible refine gate_callee (f := 23) rfl ?_); refine goesL_ (some 47) rfl rfl Tryd.func23 (by kernel_rfl) rfl #[.string t214, .string a1] rfl T2_ ?_; (with_reducible refine (rat_Compare.calls t214 a1 t220 t221 _ (Err.Gs.below HGs.out T1_) A9.out).mono ?_); rintro e w25 ⟨rfl, hb⟩; refine ⟨_, rfl, ?_⟩; replace HO209 := Aside0.mk (Kd.R_below (K1_ HO209) hb); replace HB := Aside0.mk (below_step T1_ hb); clear hb) | (go_at_call 13; (with_reducible refine (tapewrightlaw03_awake.calls  t222 _ (Err.Gs.below HGs.out T1_) A16.out).mono ?_); rintro e w26 ⟨rfl, hb⟩; replace HO209 := Aside0.mk (Kd.R_below (K1_ HO209) hb); replace HB := Aside0.mk (below_step T1_ hb); clear hb))
        go_ret
        exact ⟨T4_, T1_⟩
       ·
        rw [if_neg c15] at H
        have c15b0 : (t221 == 0) = false := beq_eq_false_iff_ne.mpr c15
        have c15b1 : (t221 != 0) = true := bne_iff_ne.mpr c15
        exact absurd ((Option.some.inj H).trans HRT.out) (by decide)
      ·
       rw [if_neg c14] at H
       have c14b0 : (t215 == 0) = false := beq_eq_false_iff_ne.mpr c14
       have c14b1 : (t215 != 0) = true := bne_iff_ne.mpr c14
       exact absurd ((Option.some.inj H).trans HRT.out) (by decide)
     ·
      rw [if_neg c13] at H
      have c13b0 : (t214.toList == a0.toList) = false := beq_eq_false_iff_ne.mpr c13
      have c13b1 : (t214.toList != a0.toList) = true := bne_iff_ne.mpr c13
      exact absurd ((Option.some.inj H).trans HRT.out) (by decide)
    ·
     rw [if_neg c12] at H
     have c12b0 : (a0.toList == a1.toList) = false := beq_eq_false_iff_ne.mpr c12
     have c12b1 : (a0.toList != a1.toList) = true := bne_iff_ne.mpr c12
     by_cases c27 : t215 = 0
     ·
      rw [if_pos c27] at H
      have c27b0 : (t215 == 0) = true := beq_iff_eq.mpr c27
      have c27b1 : (t215 != 0) = false := bne_eq_false_iff_eq.mpr c27
      clear c27
      by_cases c28 : t221 = 0
      ·
       rw [if_pos c28] at H
       have c28b0 : (t221 == 0) = true := beq_iff_eq.mpr c28
       have c28b1 : (t221 != 0) = false := bne_eq_false_iff_eq.mpr c28
       clear c28
       replace H := Option.bind_eq_some_iff.mp H
       obtain ⟨t223, A290, H⟩ := H
       replace H : (some t223) = some r := H
       have A29 := Aside0.mk A290
       clear A290
       obtain rfl := Option.some.inj H
       go_enter Tryd.func11, Tryd.ntmps11
       go_wp2_with (first | ((with_reducible refine gate_dst (N := 17) rfl ?_); refine Kd.R_lit Kd.string _ 9 ?hg (N := 17) ?hd (xs := ([a0, a1] : List ByteArray)) (inner := [.string a0, .string a1]) (ok := fun _ => True) (okp := fun _ => True) ?hr ?hp (fun _ hk => hk) trivial (Below.refl _ _) (Nat.le_refl _) (by simp) ?_; (case hd => rfl); (case hg => rfl); (case hr => exact T3_); (case hp => exact (Reps.one (show Kd.M Kd.string _ _ _ a0 [.string a0] from rfl) (Reps.one (show Kd.M Kd.string _ _ _ a1 [.string a1] from rfl) (Reps.none _ _)))); intro v208 w30 ho31 hb hg_ hnew_; clear hg_ hnew_; (first | rw [← Ny207.out] at ho31 | (simp only [Int.reduceToNat] at ho31; rw [← Ny207.out] at ho31)); have HO209 := Aside0.mk (Kd.R_lower ho31 (below_size T1_)); replace HB := Aside0.mk (below_step T1_ hb); clear hb ho31; obtain ⟨Ao32, co32, eo32⟩ := Kd.R_slice HO209.out; subst eo32) | ((with_reducible refine gate_callee (f := 12) rfl ?_); refine goesL_ (some 18) rfl rfl Tryd.func12 (by kernel_rfl) rfl #[.slice Ao32 y207.length co32] rfl T2_ ?_; (with_reducible refine (tapewrightlaw03_right.calls k _ _ y207 true _ (Err.Gs.below HGs.out T1_) ?side1 ?side2 A3.out).mono ?_); (case side1 => exact C1_ (Kd.R_reads' HO209.out).2.2); (case side2 => exact (Kd.R_reads' HO209.out).2.1); rintro e w33 ⟨rfl, hb⟩; refine ⟨_, rfl, ?_⟩; replace HO209 := Aside0.mk (Kd.R_below (K1_ HO209) hb); replace HB := Aside0.mk (below_step T1_ hb); clear hb) | ((with_reducible refine gate_callee (f := 14) rfl ?_); refine goesL_ (some 24) rfl rfl Tryd.func14 (by kernel_rfl) rfl #[.string a0, .string a1] rfl T2_ ?_; (with_reducible refine (rat_Add.calls a0 a1 t212 t213 _ (Err.Gs.below HGs.out T1_) A5.out).mono ?_); rintro e w34 ⟨rfl, hb⟩; refine ⟨_, rfl, ?_⟩; replace HO209 := Aside0.mk (Kd.R_below (K1_ HO209) hb); replace HB := Aside0.mk (below_step T1_ hb); clear hb) | ((with_reducible refine gate_callee (f := 17) rfl ?_); refine goesL_ (some 29) rfl rfl Tryd.func17 (by kernel_rfl) rfl #[.string t212, .string (⟨#[50]⟩ : ByteArray)] rfl T2_ ?_; (with_reducible refine (rat_Quo.calls t212 (⟨#[50]⟩ : ByteArray) t214 t215 _ (Err.Gs.below HGs.out T1_) A6.out).mono ?_); rintro e w35 ⟨rfl, hb⟩; refine ⟨_, rfl, ?_⟩; replace HO209 := Aside0.mk (Kd.R_below (K1_ HO209) hb); replace HB := Aside0.mk (below_step T1_ hb); clear hb) | ((with_reducible refine gate_callee (f := 23) rfl ?_); refine goesL_ (some 35) rfl rfl Tryd.func23 (by kernel_rfl) rfl #[.string a0, .string a1] rfl T2_ ?_; (with_reducible refine (rat_Compare.calls a0 a1 t216 t217 _ (Err.Gs.below HGs.out T1_) A7.out).mono ?_); rintro e w36 ⟨rfl, hb⟩; refine ⟨_, rfl, ?_⟩; replace HO209 := Aside0.mk (Kd.R_below (K1_ HO209) hb); replace HB := Aside0.mk (below_step T1_ hb); clear hb) | ((with_reducible refine gate_callee (f := 23) rfl ?_); refine goesL_ (some 41) rfl rfl Tryd.func23 (by kernel_rfl) rfl #[.string a0, .string t214] rfl T2_ ?_; (with_reducible refine (rat_Compare.calls a0 t214 t218 t219 _ (Err.Gs.below HGs.out T1_) A8.out).mono ?_); rintro e w37 ⟨rfl, hb⟩; refine ⟨_, rfl, ?_⟩; replace HO209 := Aside0.mk (Kd.R_below (K1_ HO209) hb); replace HB := Aside0.mk (below_step T1_ hb); clear hb) | ((with_reducible refine gate_callee (f := 23) rfl ?_); refine goesL_ (some 47) rfl rfl Tryd.func23 (by kernel_rfl) rfl #[.string t214, .string a1] rfl T2_ ?_; (with_reducible refine (rat_Compare.calls t214 a1 t220 t221 _ (Err.Gs.below HGs.out T1_) A9.out).mono ?_); rintro e w38 ⟨rfl, hb⟩; refine ⟨_, rfl, ?_⟩; replace HO209 := Aside0.mk (Kd.R_below (K1_ HO209) hb); replace HB := Aside0.mk (below_step T1_ hb); clear hb) | (go_at_call 13; (with_reducible refine (tapewrightlaw03_awake.calls  t223 _ (Err.Gs.below HGs.out T1_) A29.out).mono ?_); rintro e w39 ⟨rfl, hb⟩; replace HO209 := Aside0.mk (Kd.R_below (K1_ HO209) hb); replace HB := Aside0.mk (below_step T1_ hb); clear hb))
       go_ret
       exact ⟨T4_, T1_⟩
      ·
       rw [if_neg c28] at H
       have c28b0 : (t221 == 0) = false := beq_eq_false_iff_ne.mpr c28
       have c28b1 : (t221 != 0) = true := bne_iff_ne.mpr c28
       exact absurd ((Option.some.inj H).trans HRT.out) (by decide)
     ·
      rw [if_neg c27] at H
      have c27b0 : (t215 == 0) = false := beq_eq_false_iff_ne.mpr c27
      have c27b1 : (t215 != 0) = true := bne_iff_ne.mpr c27
      exact absurd ((Option.some.inj H).trans HRT.out) (by decide)
   ·
    rw [if_neg c11] at H
    have c11b0 : (t220 == t216) = false := beq_eq_false_iff_ne.mpr c11
    have c11b1 : (t220 != t216) = true := bne_iff_ne.mpr c11
    exact absurd ((Option.some.inj H).trans HRT.out) (by decide)
  ·
   rw [if_neg c10] at H
   have c10b0 : (t218 == t216) = false := beq_eq_false_iff_ne.mpr c10
   have c10b1 : (t218 != t216) = true := bne_iff_ne.mpr c10
   exact absurd ((Option.some.inj H).trans HRT.out) (by decide)
 ·
  replace c4 := Bool.eq_false_iff.mpr c4
  subst c4
  have H1 : ((tapewrightlaw03_awake.f).bind fun t211 => (some t211)) = some r := by rw [if_neg (show ¬ (false = true) by decide)] at H; exact H
  clear H
  have H := H1
  clear H1
  replace H := Option.bind_eq_some_iff.mp H
  obtain ⟨t211, A400, H⟩ := H
  replace H : (some t211) = some r := H
  have A40 := Aside0.mk A400
  clear A400
  obtain rfl := Option.some.inj H
  go_enter Tryd.func11, Tryd.ntmps11
  go_wp2_with (first | ((with_reducible refine gate_dst (N := 17) rfl ?_); refine Kd.R_lit Kd.string _ 9 ?hg (N := 17) ?hd (xs := ([a0, a1] : List ByteArray)) (inner := [.string a0, .string a1]) (ok := fun _ => True) (okp := fun _ => True) ?hr ?hp (fun _ hk => hk) trivial (Below.refl _ _) (Nat.le_refl _) (by simp) ?_; (case hd => rfl); (case hg => rfl); (case hr => exact T3_); (case hp => exact (Reps.one (show Kd.M Kd.string _ _ _ a0 [.string a0] from rfl) (Reps.one (show Kd.M Kd.string _ _ _ a1 [.string a1] from rfl) (Reps.none _ _)))); intro v208 w41 ho42 hb hg_ hnew_; clear hg_ hnew_; (first | rw [← Ny207.out] at ho42 | (simp only [Int.reduceToNat] at ho42; rw [← Ny207.out] at ho42)); have HO209 := Aside0.mk (Kd.R_lower ho42 (below_size T1_)); replace HB := Aside0.mk (below_step T1_ hb); clear hb ho42; obtain ⟨Ao43, co43, eo43⟩ := Kd.R_slice HO209.out; subst eo43) | ((with_reducible refine gate_callee (f := 12) rfl ?_); refine goesL_ (some 18) rfl rfl Tryd.func12 (by kernel_rfl) rfl #[.slice Ao43 y207.length co43] rfl T2_ ?_; (with_reducible refine (tapewrightlaw03_right.calls k _ _ y207 false _ (Err.Gs.below HGs.out T1_) ?side1 ?side2 A3.out).mono ?_); (case side1 => exact C1_ (Kd.R_reads' HO209.out).2.2); (case side2 => exact (Kd.R_reads' HO209.out).2.1); rintro e w44 ⟨rfl, hb⟩; refine ⟨_, rfl, ?_⟩; replace HO209 := Aside0.mk (Kd.R_below (K1_ HO209) hb); replace HB := Aside0.mk (below_step T1_ hb); clear hb) | ((with_reducible refine gate_callee (f := 13) rfl ?_); refine goesL_ (some 20) rfl rfl Tryd.func13 (by kernel_rfl) rfl #[] rfl T2_ ?_; (with_reducible refine (tapewrightlaw03_awake.calls  t211 _ (Err.Gs.below HGs.out T1_) A40.out).mono ?_); rintro e w45 ⟨rfl, hb⟩; refine ⟨_, rfl, ?_⟩; replace HO209 := Aside0.mk (Kd.R_below (K1_ HO209) hb); replace HB := Aside0.mk (below_step T1_ hb); clear hb))
  go_ret
  exact ⟨T4_, T1_⟩

/-- THE ONE PURE STATEMENT of tapewrightlaw03_RatBetween: yours. -/
def tapewrightlaw03_RatBetween.Pure : Prop := ∀ (a0 : ByteArray) (a1 : ByteArray), a0.size ≤ 140737488351232 → a1.size ≤ 140737488351232 → ∃ k, tapewrightlaw03_RatBetween.f k a0 a1 = some true
theorem tapewrightlaw03_RatBetween.walk (P : tapewrightlaw03_RatBetween.Pure) (a0 : ByteArray) (a1 : ByteArray) (w : World) (hG : Err.Gs w) (w0 : a0.size ≤ 140737488351232) (w1 : a1.size ≤ 140737488351232) :
  Calls Tryd.prog 11 #[.string a0, .string a1] w fun e w' => e = .returned (.bool true) ∧ Below w.heap.size w w' := by
 obtain ⟨k, h⟩ := P a0 a1 w0 w1
 refine (tapewrightlaw03_RatBetween.calls k a0 a1 true w hG rfl h).mono ?_
 rintro e w' ⟨rfl, hd⟩
 exact ⟨rfl, hd⟩

end Go.Proofs.YtfjlmiehbikmnaaDoor.PQ
