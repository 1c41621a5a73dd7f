-- by wip/tool/mine.py of this repo (the kit's printer with given contracts)
import Derived.Test.YtfjlmiehbikmnaaDoorPQx0
import Derived.Test.YtfjlmiehbikmnaaDoorPQx1
namespace Go.Proofs.YtfjlmiehbikmnaaDoor.PQ
open Go.RowKit Go.Proofs.YtfjlmiehbikmnaaDoorW.PrintWords Go.Proofs.YtfjlmiehbikmnaaDoorW.PrintLast Go.Proofs.YtfjlmiehbikmnaaDoorW.PrintMore
attribute [local go_sem] max2_int min2_int max_two min_two max_three min_three max_four min_four   -- for this text's walks alone
set_option linter.unusedVariables false
set_option linter.unusedSimpArgs false

/-! ### tapewrightlaw03_RatTexts: function 3 -/
noncomputable def tapewrightlaw03_RatTexts.l0 : Nat → ByteArray → Int → Int → Int → Int → Option (Bool)
 | 0, _, _, _, _, _ => none
 | k + 1, x5, x6, x7, x27, x28 => if x28 < x27 then (if 0 ≤ x28 then (if x28 < (x5.size : Int) then (if (bt x5 x28) = 47 then (tapewrightlaw03_RatTexts.l0 k x5 x6 x28 x27 (wrap64 (x28 + 1))) else (tapewrightlaw03_RatTexts.l0 k x5 x6 x7 x27 (wrap64 (x28 + 1)))) else (none)) else (none)) else (if x7 < (x5.size : Int) then (if 0 ≤ (wrap64 (x7 + 1)) then (if (wrap64 (x7 + 1)) ≤ (x5.size : Int) then (if 0 ≤ x7 then (if x7 ≤ (x5.size : Int) then ((rat_Make.f (x5.extract 0 (x7 : Int).toNat) (x5.extract ((wrap64 (x7 + 1)) : Int).toNat x5.size)).bind fun bt253 => (if bt253.1.toList = x5.toList then ((rat_Right.f x5).bind fun t255 => (if t255 = true then (if x6 = 0 then (if bt253.2 = 0 then ((tapewrightlaw03_awake.f).bind fun t256 => (some t256)) else (some false)) else (some false)) else (some false))) else (some false))) else (none)) else (none)) else (none)) else (none)) else (if 0 ≤ x7 then (if x7 ≤ (x5.size : Int) then ((rat_Make.f (x5.extract 0 (x7 : Int).toNat) (⟨#[49]⟩ : ByteArray)).bind fun bt257 => (if bt257.1.toList = x5.toList then ((rat_Right.f x5).bind fun t259 => (if t259 = true then (if x6 = 0 then (if bt257.2 = 0 then ((tapewrightlaw03_awake.f).bind fun t260 => (some t260)) else (some false)) else (some false)) else (some false))) else (some false))) else (none)) else (none)))
noncomputable def tapewrightlaw03_RatTexts.f (k : Nat) (a0 : ByteArray) (a1 : ByteArray) : Option (Bool) := (tapewrightlaw03_right.f k (([a0, a1] : List ByteArray))).bind fun t249 => (if t249 = true then ((rat_Add.f a0 a1).bind fun bt251 => (tapewrightlaw03_RatTexts.l0 k bt251.1 bt251.2 (bt251.1.size : Int) (bt251.1.size : Int) 0)) else ((tapewrightlaw03_awake.f).bind fun t250 => (some t250)))
set_option maxHeartbeats 8000000 in
set_option maxRecDepth 100000 in
theorem tapewrightlaw03_RatTexts.calls (k : Nat) (a0 : ByteArray) (a1 : ByteArray) (r : Bool) (w : World) (hG : Err.Gs w) (hrt : r = true) (h : tapewrightlaw03_RatTexts.f k a0 a1 = some r) :
  Calls Tryd.prog 3 #[.string a0, .string a1] w fun e w' => e = .returned (.bool r) ∧ Below w.heap.size w w' := by
 have HB := Aside0.mk (Below.refl w.heap.size w)
 have HGs := Aside0.mk hG
 clear hG
 have HRT := Aside0.mk hrt
 clear hrt
 have H : ((tapewrightlaw03_right.f k (([a0, a1] : List ByteArray))).bind fun t249 => (if t249 = true then ((rat_Add.f a0 a1).bind fun bt251 => (tapewrightlaw03_RatTexts.l0 k bt251.1 bt251.2 (bt251.1.size : Int) (bt251.1.size : Int) 0)) else ((tapewrightlaw03_awake.f).bind fun t250 => (some t250)))) = some r := h
 clear h
 obtain ⟨y246, hy246⟩ : ∃ y_ : List ByteArray, y_ = (([a0, a1] : List ByteArray)) := ⟨_, rfl⟩
 replace H : ((tapewrightlaw03_right.f k y246).bind fun t249 => (if t249 = true then ((rat_Add.f a0 a1).bind fun bt251 => (tapewrightlaw03_RatTexts.l0 k bt251.1 bt251.2 (bt251.1.size : Int) (bt251.1.size : Int) 0)) else ((tapewrightlaw03_awake.f).bind fun t250 => (some t250)))) = some r := by first | (rw [hy246]; with_reducible exact H) | (have H2_ := (Option.bind_some _ _).symm.trans H; rw [hy246]; with_reducible exact H2_) | (have H2_ := (Option.bind_some _ _).symm.trans H; with_reducible exact H2_) | with_reducible exact H | (rw [hy246]; exact H) | exact H
 have Ny246 := Aside0.mk hy246
 clear hy246
 replace H := Option.bind_eq_some_iff.mp H
 obtain ⟨t249, A30, H⟩ := H
 replace H : (if t249 = true then ((rat_Add.f a0 a1).bind fun bt251 => (tapewrightlaw03_RatTexts.l0 k bt251.1 bt251.2 (bt251.1.size : Int) (bt251.1.size : Int) 0)) else ((tapewrightlaw03_awake.f).bind fun t250 => (some t250))) = some r := H
 have A3 := Aside0.mk A30
 clear A30
 by_cases c4 : t249 = true
 ·
  subst c4
  have H1 : ((rat_Add.f a0 a1).bind fun bt251 => (tapewrightlaw03_RatTexts.l0 k bt251.1 bt251.2 (bt251.1.size : Int) (bt251.1.size : Int) 0)) = some r := by rw [if_pos rfl] at H; exact H
  clear H
  have H := H1
  clear H1
  replace H := Option.bind_eq_some_iff.mp H
  obtain ⟨⟨t251, t252⟩, A50, H⟩ := H
  replace H : (tapewrightlaw03_RatTexts.l0 k t251 t252 (t251.size : Int) (t251.size : Int) 0) = some r := H
  have A5 := Aside0.mk A50
  clear A50
  have H' := Aside0.mk H
  clear H
  go_enter Tryd.func3, Tryd.ntmps3
  go_wp2_with (first | ((with_reducible refine gate_dst (N := 14) rfl ?_); refine Kd.R_lit Kd.string _ 9 ?hg (N := 14) ?hd (xs := ([a0, a1] : List ByteArray)) (inner := [.string a0, .string a1]) (ok := fun _ => True) (okp := fun _ => True) ?hr ?hp (fun _ hk => hk) trivial (Below.refl _ _) (Nat.le_refl _) (by simp) ?_; (case hd => rfl); (case hg => rfl); (case hr => exact T3_); (case hp => exact (Reps.one (show Kd.M Kd.string _ _ _ a0 [.string a0] from rfl) (Reps.one (show Kd.M Kd.string _ _ _ a1 [.string a1] from rfl) (Reps.none _ _)))); intro v247 w6 ho7 hb hg_ hnew_; clear hg_ hnew_; (first | rw [← Ny246.out] at ho7 | (simp only [Int.reduceToNat] at ho7; rw [← Ny246.out] at ho7)); have HO248 := Aside0.mk (Kd.R_lower ho7 (below_size T1_)); replace HB := Aside0.mk (below_step T1_ hb); clear hb ho7; obtain ⟨Ao8, co8, eo8⟩ := Kd.R_slice HO248.out; subst eo8) | ((with_reducible refine gate_callee (f := 12) rfl ?_); refine goesL_ (some 15) rfl rfl Tryd.func12 (by kernel_rfl) rfl #[.slice Ao8 y246.length co8] rfl T2_ ?_; (with_reducible refine (tapewrightlaw03_right.calls k _ _ y246 true _ (Err.Gs.below HGs.out T1_) ?side1 ?side2 A3.out).mono ?_); (case side1 => exact C1_ (Kd.R_reads' HO248.out).2.2); (case side2 => exact (Kd.R_reads' HO248.out).2.1); rintro e w9 ⟨rfl, hb⟩; refine ⟨_, rfl, ?_⟩; replace HO248 := Aside0.mk (Kd.R_below (K1_ HO248) hb); replace HB := Aside0.mk (below_step T1_ hb); clear hb) | ((with_reducible refine gate_callee (f := 14) rfl ?_); refine goesL_ (some 21) rfl rfl Tryd.func14 (by kernel_rfl) rfl #[.string a0, .string a1] rfl T2_ ?_; (with_reducible refine (rat_Add.calls a0 a1 t251 t252 _ (Err.Gs.below HGs.out T1_) A5.out).mono ?_); rintro e w10 ⟨rfl, hb⟩; refine ⟨_, rfl, ?_⟩; replace HO248 := Aside0.mk (Kd.R_below (K1_ HO248) hb); replace HB := Aside0.mk (below_step T1_ hb); clear hb))
  go_loopg [7, 28] k (fun kq v7 v28 w' => ∃ (x7_1 : Int) (x28_1 : Int), v7 = .int .i64 x7_1 ∧ v28 = .int .i64 x28_1 ∧ Aside0 (tapewrightlaw03_RatTexts.l0 kq t251 t252 x7_1 (t251.size : Int) x28_1 = some r) ∧ Aside0 (kq ≤ k) ∧ Aside0 (Below w.heap.size w w'))
  case atStart => exact ⟨((t251.size : Int)), (0), (by first | rfl | (simp; done) | (simp [*]; done)), (by first | rfl | (simp; done) | (simp [*]; done)), H', ⟨Nat.le_refl _⟩, ⟨by repeat (first | (with_reducible first | exact HB.out | apply below_alloc | apply pw_below_drewN | apply below_drew1) | exact HB.out)⟩⟩
  case round =>
   clear H'
   try clear c1
   try clear p2
   try clear c3
   try clear c4
   obtain ⟨x7_1, x28_1, rfl, rfl, HA, HK1, HB⟩ := hrel
   cases gk with
   | zero => exact absurd HA.out (by simp [tapewrightlaw03_RatTexts.l0])
   | succ k1 =>
    have H := HA.out
    clear HA
    simp only [tapewrightlaw03_RatTexts.l0] at H
    by_cases c11 : x28_1 < (t251.size : Int)
    ·
     rw [if_pos c11] at H
     have c11b0 : decide (x28_1 < (t251.size : Int)) = true := decide_eq_true c11
     clear c11
     by_cases c12 : 0 ≤ x28_1
     ·
      rw [if_pos c12] at H
      have c12b0 : decide (0 ≤ x28_1) = true := decide_eq_true c12
      clear c12
      by_cases c13 : x28_1 < (t251.size : Int)
      ·
       rw [if_pos c13] at H
       have c13b0 : decide (x28_1 < (t251.size : Int)) = true := decide_eq_true c13
       clear c13
       by_cases c15 : (bt t251 x28_1) = 47
       ·
        rw [if_pos c15] at H
        have c15b0 : ((bt t251 x28_1) == 47) = true := beq_iff_eq.mpr c15
        have c15b1 : ((bt t251 x28_1) != 47) = false := bne_eq_false_iff_eq.mpr c15
        clear c15
        have H' := Aside0.mk H
        clear H
        have p14 : 0 ≤ (x28_1 : Int) := of_decide_eq_true (by first | (with_reducible assumption) | assumption)
        have q14 : x28_1 < (t251.size : Int) := of_decide_eq_true (by first | (with_reducible assumption) | assumption)
        have hx14 := bt_at t251 x28_1
        replace p14 := eq_true p14
        replace q14 := eq_true q14
        go_wp2
        go_roundg k1
        case measure => have := HK1.out; omega
        case rel => exact ⟨(x28_1), (wrap64 (x28_1 + 1)), (by first | rfl | (simp; done) | (simp [*]; done)), (by first | rfl | (simp; done) | (simp [*]; done)), H', ⟨by have := HK1.out; omega⟩, ⟨by repeat (first | (with_reducible first | exact HB.out | apply below_alloc | apply pw_below_drewN | apply below_drew1) | exact HB.out)⟩⟩
       ·
        rw [if_neg c15] at H
        have c15b0 : ((bt t251 x28_1) == 47) = false := beq_eq_false_iff_ne.mpr c15
        have c15b1 : ((bt t251 x28_1) != 47) = true := bne_iff_ne.mpr c15
        have H' := Aside0.mk H
        clear H
        have p14 : 0 ≤ (x28_1 : Int) := of_decide_eq_true (by first | (with_reducible assumption) | assumption)
        have q14 : x28_1 < (t251.size : Int) := of_decide_eq_true (by first | (with_reducible assumption) | assumption)
        have hx14 := bt_at t251 x28_1
        replace p14 := eq_true p14
        replace q14 := eq_true q14
        go_wp2
        go_roundg k1
        case measure => have := HK1.out; omega
        case rel => exact ⟨(x7_1), (wrap64 (x28_1 + 1)), (by first | rfl | (simp; done) | (simp [*]; done)), (by first | rfl | (simp; done) | (simp [*]; done)), H', ⟨by have := HK1.out; omega⟩, ⟨by repeat (first | (with_reducible first | exact HB.out | apply below_alloc | apply pw_below_drewN | apply below_drew1) | exact HB.out)⟩⟩
      ·
       rw [if_neg c13] at H
       exact absurd H (by simp)
     ·
      rw [if_neg c12] at H
      exact absurd H (by simp)
    ·
     rw [if_neg c11] at H
     have c11b0 : decide (x28_1 < (t251.size : Int)) = false := decide_eq_false c11
     clear c11
     by_cases c16 : x7_1 < (t251.size : Int)
     ·
      rw [if_pos c16] at H
      have c16b0 : decide (x7_1 < (t251.size : Int)) = true := decide_eq_true c16
      clear c16
      obtain ⟨ji17, hji17⟩ : ∃ j_ : Int, (wrap64 (x7_1 + 1)) = j_ := ⟨_, rfl⟩
      replace H : (if 0 ≤ (ji17) then (if (ji17) ≤ (t251.size : Int) then (if 0 ≤ x7_1 then (if x7_1 ≤ (t251.size : Int) then ((rat_Make.f (t251.extract 0 (x7_1 : Int).toNat) (t251.extract ((ji17) : Int).toNat t251.size)).bind fun bt253 => (if bt253.1.toList = t251.toList then ((rat_Right.f t251).bind fun t255 => (if t255 = true then (if t252 = 0 then (if bt253.2 = 0 then ((tapewrightlaw03_awake.f).bind fun t256 => (some t256)) else (some false)) else (some false)) else (some false))) else (some false))) else (none)) else (none)) else (none)) else (none)) = some r := by first | (rw [hji17] at H; exact H) | (simp only [hji17] at H ⊢; exact H)
      have hji17w : (IntKind.i64.wrap (x7_1 + 1)) = ji17 := (i64_w _).trans hji17
      by_cases c18 : 0 ≤ (ji17)
      ·
       rw [if_pos c18] at H
       have c18b0 := eq_true c18
       have c18b1 : decide (0 ≤ (ji17)) = true := decide_eq_true c18
       clear c18
       by_cases c19 : (ji17) ≤ (t251.size : Int)
       ·
        rw [if_pos c19] at H
        have c19b0 := eq_true c19
        have c19b1 : decide ((ji17) ≤ (t251.size : Int)) = true := decide_eq_true c19
        clear c19
        by_cases c20 : 0 ≤ x7_1
        ·
         rw [if_pos c20] at H
         have c20b0 := eq_true c20
         have c20b1 : decide (0 ≤ x7_1) = true := decide_eq_true c20
         clear c20
         by_cases c21 : x7_1 ≤ (t251.size : Int)
         ·
          rw [if_pos c21] at H
          have c21b0 := eq_true c21
          have c21b1 : decide (x7_1 ≤ (t251.size : Int)) = true := decide_eq_true c21
          clear c21
          replace H := Option.bind_eq_some_iff.mp H
          obtain ⟨⟨t253, t254⟩, A220, H⟩ := H
          replace H : (if t253.toList = t251.toList then ((rat_Right.f t251).bind fun t255 => (if t255 = true then (if t252 = 0 then (if t254 = 0 then ((tapewrightlaw03_awake.f).bind fun t256 => (some t256)) else (some false)) else (some false)) else (some false))) else (some false)) = some r := H
          have A22 := Aside0.mk A220
          clear A220
          by_cases c23 : t253.toList = t251.toList
          ·
           rw [if_pos c23] at H
           have c23b0 : (t253.toList == t251.toList) = true := beq_iff_eq.mpr c23
           have c23b1 : (t253.toList != t251.toList) = false := bne_eq_false_iff_eq.mpr c23
           clear c23
           replace H := Option.bind_eq_some_iff.mp H
           obtain ⟨t255, A240, H⟩ := H
           replace H : (if t255 = true then (if t252 = 0 then (if t254 = 0 then ((tapewrightlaw03_awake.f).bind fun t256 => (some t256)) else (some false)) else (some false)) else (some false)) = some r := H
           have A24 := Aside0.mk A240
           clear A240
           by_cases c25 : t255 = true
           ·
            subst c25
            have H1 : (if t252 = 0 then (if t254 = 0 then ((tapewrightlaw03_awake.f).bind fun t256 => (some t256)) else (some false)) else (some false)) = some r := by rw [if_pos rfl] at H; exact H
            clear H
            have H := H1
            clear H1
            by_cases c26 : t252 = 0
            ·
             rw [if_pos c26] at H
             have c26b0 : (t252 == 0) = true := beq_iff_eq.mpr c26
             have c26b1 : (t252 != 0) = false := bne_eq_false_iff_eq.mpr c26
             clear c26
             by_cases c27 : t254 = 0
             ·
              rw [if_pos c27] at H
              have c27b0 : (t254 == 0) = true := beq_iff_eq.mpr c27
              have c27b1 : (t254 != 0) = false := bne_eq_false_iff_eq.mpr c27
              clear c27
              replace H := Option.bind_eq_some_iff.mp H
              obtain ⟨t256, A280, H⟩ := H
              replace H : (some t256) = some r := H
              have A28 := Aside0.mk A280
              clear A280
              obtain rfl := Option.some.inj H
              go_wp2_with (first | ((with_reducible refine gate_callee (f := 15) rfl ?_); refine goesL_ (some 50) rfl rfl Tryd.func15 (by kernel_rfl) rfl #[.string (t251.extract 0 (x7_1 : Int).toNat), .string (t251.extract ((ji17) : Int).toNat t251.size)] rfl (by (try simp only [List.map_toArray, List.map_cons, List.map_nil]); first | done | (simp only [hji17]; rfl) | rfl | (simp only [List.length_drop, List.length_take]; rfl)) ?_; (with_reducible refine (rat_Make.calls (t251.extract 0 (x7_1 : Int).toNat) (t251.extract ((ji17) : Int).toNat t251.size) t253 t254 _ (Err.Gs.below HGs.out T1_) A22.out).mono ?_); rintro e w29 ⟨rfl, hb⟩; refine ⟨_, rfl, ?_⟩; replace HB := Aside0.mk (below_step T1_ hb); clear hb) | (go_at_call 16; (with_reducible refine (rat_Right.calls t251 true _ (Err.Gs.below HGs.out T1_) A24.out).mono ?_); rintro e w30 ⟨rfl, hb⟩; replace HB := Aside0.mk (below_step T1_ hb); clear hb) | (go_at_call 13; (with_reducible refine (tapewrightlaw03_awake.calls  t256 _ (Err.Gs.below HGs.out T1_) A28.out).mono ?_); rintro e w31 ⟨rfl, hb⟩; replace HB := Aside0.mk (below_step T1_ hb); clear hb))
              go_ret
              exact ⟨by first | rfl | (simp [errW_none, errW_some] <;> rfl) | (simp only [← hji17]; first | rfl | (simp [errW_none, errW_some] <;> rfl)) | (simp [*, errW_none, errW_some] <;> rfl), by repeat (first | (with_reducible first | exact HB.out | apply below_alloc | apply pw_below_drewN | apply below_drew1) | exact HB.out)⟩
             ·
              rw [if_neg c27] at H
              have c27b0 : (t254 == 0) = false := beq_eq_false_iff_ne.mpr c27
              have c27b1 : (t254 != 0) = true := bne_iff_ne.mpr c27
              exact absurd ((Option.some.inj H).trans HRT.out) (by decide)
            ·
             rw [if_neg c26] at H
             have c26b0 : (t252 == 0) = false := beq_eq_false_iff_ne.mpr c26
             have c26b1 : (t252 != 0) = true := bne_iff_ne.mpr c26
             exact absurd ((Option.some.inj H).trans HRT.out) (by decide)
           ·
            replace c25 := Bool.eq_false_iff.mpr c25
            subst c25
            have H1 : (some false) = some r := by rw [if_neg (show ¬ (false = true) by decide)] at H; exact H
            clear H
            have H := H1
            clear H1
            exact absurd ((Option.some.inj H).trans HRT.out) (by decide)
          ·
           rw [if_neg c23] at H
           have c23b0 : (t253.toList == t251.toList) = false := beq_eq_false_iff_ne.mpr c23
           have c23b1 : (t253.toList != t251.toList) = true := bne_iff_ne.mpr c23
           exact absurd ((Option.some.inj H).trans HRT.out) (by decide)
         ·
          rw [if_neg c21] at H
          exact absurd H (by simp)
        ·
         rw [if_neg c20] at H
         exact absurd H (by simp)
       ·
        rw [if_neg c19] at H
        exact absurd H (by simp)
      ·
       rw [if_neg c18] at H
       exact absurd H (by simp)
     ·
      rw [if_neg c16] at H
      have c16b0 : decide (x7_1 < (t251.size : Int)) = false := decide_eq_false c16
      clear c16
      by_cases c32 : 0 ≤ x7_1
      ·
       rw [if_pos c32] at H
       have c32b0 := eq_true c32
       have c32b1 : decide (0 ≤ x7_1) = true := decide_eq_true c32
       clear c32
       by_cases c33 : x7_1 ≤ (t251.size : Int)
       ·
        rw [if_pos c33] at H
        have c33b0 := eq_true c33
        have c33b1 : decide (x7_1 ≤ (t251.size : Int)) = true := decide_eq_true c33
        clear c33
        replace H := Option.bind_eq_some_iff.mp H
        obtain ⟨⟨t257, t258⟩, A340, H⟩ := H
        replace H : (if t257.toList = t251.toList then ((rat_Right.f t251).bind fun t259 => (if t259 = true then (if t252 = 0 then (if t258 = 0 then ((tapewrightlaw03_awake.f).bind fun t260 => (some t260)) else (some false)) else (some false)) else (some false))) else (some false)) = some r := H
        have A34 := Aside0.mk A340
        clear A340
        by_cases c35 : t257.toList = t251.toList
        ·
         rw [if_pos c35] at H
         have c35b0 : (t257.toList == t251.toList) = true := beq_iff_eq.mpr c35
         have c35b1 : (t257.toList != t251.toList) = false := bne_eq_false_iff_eq.mpr c35
         clear c35
         replace H := Option.bind_eq_some_iff.mp H
         obtain ⟨t259, A360, H⟩ := H
         replace H : (if t259 = true then (if t252 = 0 then (if t258 = 0 then ((tapewrightlaw03_awake.f).bind fun t260 => (some t260)) else (some false)) else (some false)) else (some false)) = some r := H
         have A36 := Aside0.mk A360
         clear A360
         by_cases c37 : t259 = true
         ·
          subst c37
          have H1 : (if t252 = 0 then (if t258 = 0 then ((tapewrightlaw03_awake.f).bind fun t260 => (some t260)) else (some false)) else (some false)) = some r := by rw [if_pos rfl] at H; exact H
          clear H
          have H := H1
          clear H1
          by_cases c38 : t252 = 0
          ·
           rw [if_pos c38] at H
           have c38b0 : (t252 == 0) = true := beq_iff_eq.mpr c38
           have c38b1 : (t252 != 0) = false := bne_eq_false_iff_eq.mpr c38
           clear c38
           by_cases c39 : t258 = 0
           ·
            rw [if_pos c39] at H
            have c39b0 : (t258 == 0) = true := beq_iff_eq.mpr c39
            have c39b1 : (t258 != 0) = false := bne_eq_false_iff_eq.mpr c39
            clear c39
            replace H := Option.bind_eq_some_iff.mp H
            obtain ⟨t260, A400, H⟩ := H
            replace H : (some t260) = some r := H
            have A40 := Aside0.mk A400
            clear A400
            obtain rfl := Option.some.inj H
            go_wp2_with (first | ((with_reducible refine gate_callee (f := 15) rfl ?_); refine goesL_ (some 50) rfl rfl Tryd.func15 (by kernel_rfl) rfl #[.string (t251.extract 0 (x7_1 : Int).toNat), .string (⟨#[49]⟩ : ByteArray)] rfl T2_ ?_; (with_reducible refine (rat_Make.calls (t251.extract 0 (x7_1 : Int).toNat) (⟨#[49]⟩ : ByteArray) t257 t258 _ (Err.Gs.below HGs.out T1_) A34.out).mono ?_); rintro e w41 ⟨rfl, hb⟩; refine ⟨_, rfl, ?_⟩; replace HB := Aside0.mk (below_step T1_ hb); clear hb) | (go_at_call 16; (with_reducible refine (rat_Right.calls t251 true _ (Err.Gs.below HGs.out T1_) A36.out).mono ?_); rintro e w42 ⟨rfl, hb⟩; replace HB := Aside0.mk (below_step T1_ hb); clear hb) | (go_at_call 13; (with_reducible refine (tapewrightlaw03_awake.calls  t260 _ (Err.Gs.below HGs.out T1_) A40.out).mono ?_); rintro e w43 ⟨rfl, hb⟩; replace HB := Aside0.mk (below_step T1_ hb); clear hb))
            go_ret
            exact ⟨T4_, T1_⟩
           ·
            rw [if_neg c39] at H
            have c39b0 : (t258 == 0) = false := beq_eq_false_iff_ne.mpr c39
            have c39b1 : (t258 != 0) = true := bne_iff_ne.mpr c39
            exact absurd ((Option.some.inj H).trans HRT.out) (by decide)
          ·
           rw [if_neg c38] at H
           have c38b0 : (t252 == 0) = false := beq_eq_false_iff_ne.mpr c38
           have c38b1 : (t252 != 0) = true := bne_iff_ne.mpr c38
           exact absurd ((Option.some.inj H).trans HRT.out) (by decide)
         ·
          replace c37 := Bool.eq_false_iff.mpr c37
          subst c37
          have H1 : (some false) = some r := by rw [if_neg (show ¬ (false = true) by decide)] at H; exact H
          clear H
          have H := H1
          clear H1
          exact absurd ((Option.some.inj H).trans HRT.out) (by decide)
        ·
         rw [if_neg c35] at H
         have c35b0 : (t257.toList == t251.toList) = false := beq_eq_false_iff_ne.mpr c35
         have c35b1 : (t257.toList != t251.toList) = true := bne_iff_ne.mpr c35
         exact absurd ((Option.some.inj H).trans HRT.out) (by decide)
       ·
        rw [if_neg c33] at H
        exact absurd H (by simp)
      ·
       rw [if_neg c32] at H
       exact absurd H (by simp)
 ·
  replace c4 := Bool.eq_false_iff.mpr c4
  subst c4
  have H1 : ((tapewrightlaw03_awake.f).bind fun t250 => (some t250)) = some r := by rw [if_neg (show ¬ (false = true) by decide)] at H; exact H
  clear H
  have H := H1
  clear H1
  replace H := Option.bind_eq_some_iff.mp H
  obtain ⟨t250, A440, H⟩ := H
  replace H : (some t250) = some r := H
  have A44 := Aside0.mk A440
  clear A440
  obtain rfl := Option.some.inj H
  go_enter Tryd.func3, Tryd.ntmps3
  go_wp2_with (first | ((with_reducible refine gate_dst (N := 14) rfl ?_); refine Kd.R_lit Kd.string _ 9 ?hg (N := 14) ?hd (xs := ([a0, a1] : List ByteArray)) (inner := [.string a0, .string a1]) (ok := fun _ => True) (okp := fun _ => True) ?hr ?hp (fun _ hk => hk) trivial (Below.refl _ _) (Nat.le_refl _) (by simp) ?_; (case hd => rfl); (case hg => rfl); (case hr => exact T3_); (case hp => exact (Reps.one (show Kd.M Kd.string _ _ _ a0 [.string a0] from rfl) (Reps.one (show Kd.M Kd.string _ _ _ a1 [.string a1] from rfl) (Reps.none _ _)))); intro v247 w45 ho46 hb hg_ hnew_; clear hg_ hnew_; (first | rw [← Ny246.out] at ho46 | (simp only [Int.reduceToNat] at ho46; rw [← Ny246.out] at ho46)); have HO248 := Aside0.mk (Kd.R_lower ho46 (below_size T1_)); replace HB := Aside0.mk (below_step T1_ hb); clear hb ho46; obtain ⟨Ao47, co47, eo47⟩ := Kd.R_slice HO248.out; subst eo47) | ((with_reducible refine gate_callee (f := 12) rfl ?_); refine goesL_ (some 15) rfl rfl Tryd.func12 (by kernel_rfl) rfl #[.slice Ao47 y246.length co47] rfl T2_ ?_; (with_reducible refine (tapewrightlaw03_right.calls k _ _ y246 false _ (Err.Gs.below HGs.out T1_) ?side1 ?side2 A3.out).mono ?_); (case side1 => exact C1_ (Kd.R_reads' HO248.out).2.2); (case side2 => exact (Kd.R_reads' HO248.out).2.1); rintro e w48 ⟨rfl, hb⟩; refine ⟨_, rfl, ?_⟩; replace HO248 := Aside0.mk (Kd.R_below (K1_ HO248) hb); replace HB := Aside0.mk (below_step T1_ hb); clear hb) | ((with_reducible refine gate_callee (f := 13) rfl ?_); refine goesL_ (some 17) rfl rfl Tryd.func13 (by kernel_rfl) rfl #[] rfl T2_ ?_; (with_reducible refine (tapewrightlaw03_awake.calls  t250 _ (Err.Gs.below HGs.out T1_) A44.out).mono ?_); rintro e w49 ⟨rfl, hb⟩; refine ⟨_, rfl, ?_⟩; replace HO248 := Aside0.mk (Kd.R_below (K1_ HO248) hb); replace HB := Aside0.mk (below_step T1_ hb); clear hb))
  go_ret
  exact ⟨T4_, T1_⟩

/-- THE ONE PURE STATEMENT of tapewrightlaw03_RatTexts: yours. -/
def tapewrightlaw03_RatTexts.Pure : Prop := ∀ (a0 : ByteArray) (a1 : ByteArray), a0.size ≤ 140737488351232 → a1.size ≤ 140737488351232 → ∃ k, tapewrightlaw03_RatTexts.f k a0 a1 = some true
theorem tapewrightlaw03_RatTexts.walk (P : tapewrightlaw03_RatTexts.Pure) (a0 : ByteArray) (a1 : ByteArray) (w : World) (hG : Err.Gs w) (w0 : a0.size ≤ 140737488351232) (w1 : a1.size ≤ 140737488351232) :
  Calls Tryd.prog 3 #[.string a0, .string a1] w fun e w' => e = .returned (.bool true) ∧ Below w.heap.size w w' := by
 obtain ⟨k, h⟩ := P a0 a1 w0 w1
 refine (tapewrightlaw03_RatTexts.calls k a0 a1 true w hG rfl h).mono ?_
 rintro e w' ⟨rfl, hd⟩
 exact ⟨rfl, hd⟩

end Go.Proofs.YtfjlmiehbikmnaaDoor.PQ
