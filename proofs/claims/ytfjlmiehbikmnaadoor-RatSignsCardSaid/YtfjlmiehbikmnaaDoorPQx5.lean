-- by wip/tool/mine.py of this repo (the kit's printer with given contracts)
import Derived.Test.YtfjlmiehbikmnaaDoorPQx0
import Derived.Test.YtfjlmiehbikmnaaDoorPQx1
import Derived.Test.YtfjlmiehbikmnaaDoorPQx2
import Derived.Test.YtfjlmiehbikmnaaDoorPQx3
import Derived.Test.YtfjlmiehbikmnaaDoorPQx4
namespace Go.Proofs.YtfjlmiehbikmnaaDoor.PQ
open Go.RowKit Go.Proofs.YtfjlmiehbikmnaaDoorW.PrintWords Go.Proofs.YtfjlmiehbikmnaaDoorW.PrintLast Go.Proofs.YtfjlmiehbikmnaaDoorW.PrintMore
attribute [local go_sem] max2_int min2_int max_two min_two max_three min_three max_four min_four   -- for this text's walks alone
set_option linter.unusedVariables false
set_option linter.unusedSimpArgs false

/-! ### tapewrightlaw03_RatSigns: function 8 -/
noncomputable def tapewrightlaw03_RatSigns.f (k : Nat) (a0 : ByteArray) (a1 : ByteArray) (a2 : Int) : Option (Bool) := (tapewrightlaw03_right.f k (([a0, a1] : List ByteArray))).bind fun t187 => (if t187 = true then ((rat_Sign.f a0).bind fun bt189 => ((rat_Sign.f a1).bind fun bt191 => ((rat_Mul.f a0 a1).bind fun bt193 => ((rat_Sign.f bt193.1).bind fun bt195 => ((rat_Power.f a0 (wrap64 (2 * (wrap64 (Int.tmod a2 4))))).bind fun bt197 => ((rat_Sign.f bt197.1).bind fun bt199 => ((rat_Quo.f a0 a1).bind fun bt201 => ((rat_Sign.f bt201.1).bind fun bt203 => (if bt195.1 = (wrap64 (bt189.1 * bt191.1)) then (if bt199.1 ≥ 0 then (if a1.toList = ([48] : List UInt8) then (if bt201.2 = 3 then (if bt195.2 = 0 then (if bt199.2 = 0 then ((tapewrightlaw03_awake.f).bind fun t205 => (some t205)) else (some false)) else (some false)) else (some false)) else (if bt201.2 = 0 then (if bt203.1 = (wrap64 (bt189.1 * bt191.1)) then (if bt195.2 = 0 then (if bt199.2 = 0 then ((tapewrightlaw03_awake.f).bind fun t206 => (some t206)) else (some false)) else (some false)) else (some false)) else (some false))) else (some false)) else (some false)))))))))) else ((tapewrightlaw03_awake.f).bind fun t188 => (some t188)))
set_option maxHeartbeats 8000000 in
set_option maxRecDepth 100000 in
theorem tapewrightlaw03_RatSigns.calls (k : Nat) (a0 : ByteArray) (a1 : ByteArray) (a2 : Int) (r : Bool) (w : World) (hG : Err.Gs w) (hrt : r = true) (h : tapewrightlaw03_RatSigns.f k a0 a1 a2 = some r) :
  Calls Tryd.prog 8 #[.string a0, .string a1, .int .u8 a2] w fun e w' => e = .returned (.bool r) ∧ Below w.heap.size w w' := by
 have HB := Aside0.mk (Below.refl w.heap.size w)
 have HGs := Aside0.mk hG
 clear hG
 have HRT := Aside0.mk hrt
 clear hrt
 have H : ((tapewrightlaw03_right.f k (([a0, a1] : List ByteArray))).bind fun t187 => (if t187 = true then ((rat_Sign.f a0).bind fun bt189 => ((rat_Sign.f a1).bind fun bt191 => ((rat_Mul.f a0 a1).bind fun bt193 => ((rat_Sign.f bt193.1).bind fun bt195 => ((rat_Power.f a0 (wrap64 (2 * (wrap64 (Int.tmod a2 4))))).bind fun bt197 => ((rat_Sign.f bt197.1).bind fun bt199 => ((rat_Quo.f a0 a1).bind fun bt201 => ((rat_Sign.f bt201.1).bind fun bt203 => (if bt195.1 = (wrap64 (bt189.1 * bt191.1)) then (if bt199.1 ≥ 0 then (if a1.toList = ([48] : List UInt8) then (if bt201.2 = 3 then (if bt195.2 = 0 then (if bt199.2 = 0 then ((tapewrightlaw03_awake.f).bind fun t205 => (some t205)) else (some false)) else (some false)) else (some false)) else (if bt201.2 = 0 then (if bt203.1 = (wrap64 (bt189.1 * bt191.1)) then (if bt195.2 = 0 then (if bt199.2 = 0 then ((tapewrightlaw03_awake.f).bind fun t206 => (some t206)) else (some false)) else (some false)) else (some false)) else (some false))) else (some false)) else (some false)))))))))) else ((tapewrightlaw03_awake.f).bind fun t188 => (some t188)))) = some r := h
 clear h
 obtain ⟨y184, hy184⟩ : ∃ y_ : List ByteArray, y_ = (([a0, a1] : List ByteArray)) := ⟨_, rfl⟩
 replace H : ((tapewrightlaw03_right.f k y184).bind fun t187 => (if t187 = true then ((rat_Sign.f a0).bind fun bt189 => ((rat_Sign.f a1).bind fun bt191 => ((rat_Mul.f a0 a1).bind fun bt193 => ((rat_Sign.f bt193.1).bind fun bt195 => ((rat_Power.f a0 (wrap64 (2 * (wrap64 (Int.tmod a2 4))))).bind fun bt197 => ((rat_Sign.f bt197.1).bind fun bt199 => ((rat_Quo.f a0 a1).bind fun bt201 => ((rat_Sign.f bt201.1).bind fun bt203 => (if bt195.1 = (wrap64 (bt189.1 * bt191.1)) then (if bt199.1 ≥ 0 then (if a1.toList = ([48] : List UInt8) then (if bt201.2 = 3 then (if bt195.2 = 0 then (if bt199.2 = 0 then ((tapewrightlaw03_awake.f).bind fun t205 => (some t205)) else (some false)) else (some false)) else (some false)) else (if bt201.2 = 0 then (if bt203.1 = (wrap64 (bt189.1 * bt191.1)) then (if bt195.2 = 0 then (if bt199.2 = 0 then ((tapewrightlaw03_awake.f).bind fun t206 => (some t206)) else (some false)) else (some false)) else (some false)) else (some false))) else (some false)) else (some false)))))))))) else ((tapewrightlaw03_awake.f).bind fun t188 => (some t188)))) = some r := by first | (rw [hy184]; with_reducible exact H) | (have H2_ := (Option.bind_some _ _).symm.trans H; rw [hy184]; with_reducible exact H2_) | (have H2_ := (Option.bind_some _ _).symm.trans H; with_reducible exact H2_) | with_reducible exact H | (rw [hy184]; exact H) | exact H
 have Ny184 := Aside0.mk hy184
 clear hy184
 replace H := Option.bind_eq_some_iff.mp H
 obtain ⟨t187, A40, H⟩ := H
 replace H : (if t187 = true then ((rat_Sign.f a0).bind fun bt189 => ((rat_Sign.f a1).bind fun bt191 => ((rat_Mul.f a0 a1).bind fun bt193 => ((rat_Sign.f bt193.1).bind fun bt195 => ((rat_Power.f a0 (wrap64 (2 * (wrap64 (Int.tmod a2 4))))).bind fun bt197 => ((rat_Sign.f bt197.1).bind fun bt199 => ((rat_Quo.f a0 a1).bind fun bt201 => ((rat_Sign.f bt201.1).bind fun bt203 => (if bt195.1 = (wrap64 (bt189.1 * bt191.1)) then (if bt199.1 ≥ 0 then (if a1.toList = ([48] : List UInt8) then (if bt201.2 = 3 then (if bt195.2 = 0 then (if bt199.2 = 0 then ((tapewrightlaw03_awake.f).bind fun t205 => (some t205)) else (some false)) else (some false)) else (some false)) else (if bt201.2 = 0 then (if bt203.1 = (wrap64 (bt189.1 * bt191.1)) then (if bt195.2 = 0 then (if bt199.2 = 0 then ((tapewrightlaw03_awake.f).bind fun t206 => (some t206)) else (some false)) else (some false)) else (some false)) else (some false))) else (some false)) else (some false)))))))))) else ((tapewrightlaw03_awake.f).bind fun t188 => (some t188))) = some r := H
 have A4 := Aside0.mk A40
 clear A40
 by_cases c5 : t187 = true
 ·
  subst c5
  have H1 : ((rat_Sign.f a0).bind fun bt189 => ((rat_Sign.f a1).bind fun bt191 => ((rat_Mul.f a0 a1).bind fun bt193 => ((rat_Sign.f bt193.1).bind fun bt195 => ((rat_Power.f a0 (wrap64 (2 * (wrap64 (Int.tmod a2 4))))).bind fun bt197 => ((rat_Sign.f bt197.1).bind fun bt199 => ((rat_Quo.f a0 a1).bind fun bt201 => ((rat_Sign.f bt201.1).bind fun bt203 => (if bt195.1 = (wrap64 (bt189.1 * bt191.1)) then (if bt199.1 ≥ 0 then (if a1.toList = ([48] : List UInt8) then (if bt201.2 = 3 then (if bt195.2 = 0 then (if bt199.2 = 0 then ((tapewrightlaw03_awake.f).bind fun t205 => (some t205)) else (some false)) else (some false)) else (some false)) else (if bt201.2 = 0 then (if bt203.1 = (wrap64 (bt189.1 * bt191.1)) then (if bt195.2 = 0 then (if bt199.2 = 0 then ((tapewrightlaw03_awake.f).bind fun t206 => (some t206)) else (some false)) else (some false)) else (some false)) else (some false))) else (some false)) else (some false)))))))))) = some r := by rw [if_pos rfl] at H; exact H
  clear H
  have H := H1
  clear H1
  replace H := Option.bind_eq_some_iff.mp H
  obtain ⟨⟨t189, t190⟩, A60, H⟩ := H
  replace H : ((rat_Sign.f a1).bind fun bt191 => ((rat_Mul.f a0 a1).bind fun bt193 => ((rat_Sign.f bt193.1).bind fun bt195 => ((rat_Power.f a0 (wrap64 (2 * (wrap64 (Int.tmod a2 4))))).bind fun bt197 => ((rat_Sign.f bt197.1).bind fun bt199 => ((rat_Quo.f a0 a1).bind fun bt201 => ((rat_Sign.f bt201.1).bind fun bt203 => (if bt195.1 = (wrap64 (t189 * bt191.1)) then (if bt199.1 ≥ 0 then (if a1.toList = ([48] : List UInt8) then (if bt201.2 = 3 then (if bt195.2 = 0 then (if bt199.2 = 0 then ((tapewrightlaw03_awake.f).bind fun t205 => (some t205)) else (some false)) else (some false)) else (some false)) else (if bt201.2 = 0 then (if bt203.1 = (wrap64 (t189 * bt191.1)) then (if bt195.2 = 0 then (if bt199.2 = 0 then ((tapewrightlaw03_awake.f).bind fun t206 => (some t206)) else (some false)) else (some false)) else (some false)) else (some false))) else (some false)) else (some false))))))))) = some r := H
  have A6 := Aside0.mk A60
  clear A60
  replace H := Option.bind_eq_some_iff.mp H
  obtain ⟨⟨t191, t192⟩, A70, H⟩ := H
  replace H : ((rat_Mul.f a0 a1).bind fun bt193 => ((rat_Sign.f bt193.1).bind fun bt195 => ((rat_Power.f a0 (wrap64 (2 * (wrap64 (Int.tmod a2 4))))).bind fun bt197 => ((rat_Sign.f bt197.1).bind fun bt199 => ((rat_Quo.f a0 a1).bind fun bt201 => ((rat_Sign.f bt201.1).bind fun bt203 => (if bt195.1 = (wrap64 (t189 * t191)) then (if bt199.1 ≥ 0 then (if a1.toList = ([48] : List UInt8) then (if bt201.2 = 3 then (if bt195.2 = 0 then (if bt199.2 = 0 then ((tapewrightlaw03_awake.f).bind fun t205 => (some t205)) else (some false)) else (some false)) else (some false)) else (if bt201.2 = 0 then (if bt203.1 = (wrap64 (t189 * t191)) then (if bt195.2 = 0 then (if bt199.2 = 0 then ((tapewrightlaw03_awake.f).bind fun t206 => (some t206)) else (some false)) else (some false)) else (some false)) else (some false))) else (some false)) else (some false)))))))) = some r := H
  have A7 := Aside0.mk A70
  clear A70
  replace H := Option.bind_eq_some_iff.mp H
  obtain ⟨⟨t193, t194⟩, A80, H⟩ := H
  replace H : ((rat_Sign.f t193).bind fun bt195 => ((rat_Power.f a0 (wrap64 (2 * (wrap64 (Int.tmod a2 4))))).bind fun bt197 => ((rat_Sign.f bt197.1).bind fun bt199 => ((rat_Quo.f a0 a1).bind fun bt201 => ((rat_Sign.f bt201.1).bind fun bt203 => (if bt195.1 = (wrap64 (t189 * t191)) then (if bt199.1 ≥ 0 then (if a1.toList = ([48] : List UInt8) then (if bt201.2 = 3 then (if bt195.2 = 0 then (if bt199.2 = 0 then ((tapewrightlaw03_awake.f).bind fun t205 => (some t205)) else (some false)) else (some false)) else (some false)) else (if bt201.2 = 0 then (if bt203.1 = (wrap64 (t189 * t191)) then (if bt195.2 = 0 then (if bt199.2 = 0 then ((tapewrightlaw03_awake.f).bind fun t206 => (some t206)) else (some false)) else (some false)) else (some false)) else (some false))) else (some false)) else (some false))))))) = some r := H
  have A8 := Aside0.mk A80
  clear A80
  replace H := Option.bind_eq_some_iff.mp H
  obtain ⟨⟨t195, t196⟩, A90, H⟩ := H
  replace H : ((rat_Power.f a0 (wrap64 (2 * (wrap64 (Int.tmod a2 4))))).bind fun bt197 => ((rat_Sign.f bt197.1).bind fun bt199 => ((rat_Quo.f a0 a1).bind fun bt201 => ((rat_Sign.f bt201.1).bind fun bt203 => (if t195 = (wrap64 (t189 * t191)) then (if bt199.1 ≥ 0 then (if a1.toList = ([48] : List UInt8) then (if bt201.2 = 3 then (if t196 = 0 then (if bt199.2 = 0 then ((tapewrightlaw03_awake.f).bind fun t205 => (some t205)) else (some false)) else (some false)) else (some false)) else (if bt201.2 = 0 then (if bt203.1 = (wrap64 (t189 * t191)) then (if t196 = 0 then (if bt199.2 = 0 then ((tapewrightlaw03_awake.f).bind fun t206 => (some t206)) else (some false)) else (some false)) else (some false)) else (some false))) else (some false)) else (some false)))))) = some r := H
  have A9 := Aside0.mk A90
  clear A90
  replace H := Option.bind_eq_some_iff.mp H
  obtain ⟨⟨t197, t198⟩, A100, H⟩ := H
  replace H : ((rat_Sign.f t197).bind fun bt199 => ((rat_Quo.f a0 a1).bind fun bt201 => ((rat_Sign.f bt201.1).bind fun bt203 => (if t195 = (wrap64 (t189 * t191)) then (if bt199.1 ≥ 0 then (if a1.toList = ([48] : List UInt8) then (if bt201.2 = 3 then (if t196 = 0 then (if bt199.2 = 0 then ((tapewrightlaw03_awake.f).bind fun t205 => (some t205)) else (some false)) else (some false)) else (some false)) else (if bt201.2 = 0 then (if bt203.1 = (wrap64 (t189 * t191)) then (if t196 = 0 then (if bt199.2 = 0 then ((tapewrightlaw03_awake.f).bind fun t206 => (some t206)) else (some false)) else (some false)) else (some false)) else (some false))) else (some false)) else (some false))))) = some r := H
  have A10 := Aside0.mk A100
  clear A100
  replace H := Option.bind_eq_some_iff.mp H
  obtain ⟨⟨t199, t200⟩, A110, H⟩ := H
  replace H : ((rat_Quo.f a0 a1).bind fun bt201 => ((rat_Sign.f bt201.1).bind fun bt203 => (if t195 = (wrap64 (t189 * t191)) then (if t199 ≥ 0 then (if a1.toList = ([48] : List UInt8) then (if bt201.2 = 3 then (if t196 = 0 then (if t200 = 0 then ((tapewrightlaw03_awake.f).bind fun t205 => (some t205)) else (some false)) else (some false)) else (some false)) else (if bt201.2 = 0 then (if bt203.1 = (wrap64 (t189 * t191)) then (if t196 = 0 then (if t200 = 0 then ((tapewrightlaw03_awake.f).bind fun t206 => (some t206)) else (some false)) else (some false)) else (some false)) else (some false))) else (some false)) else (some false)))) = some r := H
  have A11 := Aside0.mk A110
  clear A110
  replace H := Option.bind_eq_some_iff.mp H
  obtain ⟨⟨t201, t202⟩, A120, H⟩ := H
  replace H : ((rat_Sign.f t201).bind fun bt203 => (if t195 = (wrap64 (t189 * t191)) then (if t199 ≥ 0 then (if a1.toList = ([48] : List UInt8) then (if t202 = 3 then (if t196 = 0 then (if t200 = 0 then ((tapewrightlaw03_awake.f).bind fun t205 => (some t205)) else (some false)) else (some false)) else (some false)) else (if t202 = 0 then (if bt203.1 = (wrap64 (t189 * t191)) then (if t196 = 0 then (if t200 = 0 then ((tapewrightlaw03_awake.f).bind fun t206 => (some t206)) else (some false)) else (some false)) else (some false)) else (some false))) else (some false)) else (some false))) = some r := H
  have A12 := Aside0.mk A120
  clear A120
  replace H := Option.bind_eq_some_iff.mp H
  obtain ⟨⟨t203, t204⟩, A130, H⟩ := H
  replace H : (if t195 = (wrap64 (t189 * t191)) then (if t199 ≥ 0 then (if a1.toList = ([48] : List UInt8) then (if t202 = 3 then (if t196 = 0 then (if t200 = 0 then ((tapewrightlaw03_awake.f).bind fun t205 => (some t205)) else (some false)) else (some false)) else (some false)) else (if t202 = 0 then (if t203 = (wrap64 (t189 * t191)) then (if t196 = 0 then (if t200 = 0 then ((tapewrightlaw03_awake.f).bind fun t206 => (some t206)) else (some false)) else (some false)) else (some false)) else (some false))) else (some false)) else (some false)) = some r := H
  have A13 := Aside0.mk A130
  clear A130
  by_cases c14 : t195 = (wrap64 (t189 * t191))
  ·
   rw [if_pos c14] at H
   have c14b0 : (t195 == (wrap64 (t189 * t191))) = true := beq_iff_eq.mpr c14
   have c14b1 : (t195 != (wrap64 (t189 * t191))) = false := bne_eq_false_iff_eq.mpr c14
   clear c14
   by_cases c15 : t199 ≥ 0
   ·
    rw [if_pos c15] at H
    have c15b0 : decide (0 ≤ t199) = true := decide_eq_true c15
    clear c15
    by_cases c16 : a1.toList = ([48] : List UInt8)
    ·
     rw [if_pos c16] at H
     have c16b0 : (a1.toList == ([48] : List UInt8)) = true := beq_iff_eq.mpr c16
     have c16b1 : (a1.toList != ([48] : List UInt8)) = false := bne_eq_false_iff_eq.mpr c16
     clear c16
     by_cases c17 : t202 = 3
     ·
      rw [if_pos c17] at H
      have c17b0 : (t202 == 3) = true := beq_iff_eq.mpr c17
      have c17b1 : (t202 != 3) = false := bne_eq_false_iff_eq.mpr c17
      clear c17
      by_cases c18 : t196 = 0
      ·
       rw [if_pos c18] at H
       have c18b0 : (t196 == 0) = true := beq_iff_eq.mpr c18
       have c18b1 : (t196 != 0) = false := bne_eq_false_iff_eq.mpr c18
       clear c18
       by_cases c19 : t200 = 0
       ·
        rw [if_pos c19] at H
        have c19b0 : (t200 == 0) = true := beq_iff_eq.mpr c19
        have c19b1 : (t200 != 0) = false := bne_eq_false_iff_eq.mpr c19
        clear c19
        replace H := Option.bind_eq_some_iff.mp H
        obtain ⟨t205, A200, H⟩ := H
        replace H : (some t205) = some r := H
        have A20 := Aside0.mk A200
        clear A200
        obtain rfl := Option.some.inj H
        go_enter Tryd.func8, Tryd.ntmps8
        go_wp2_with (first | ((with_reducible refine gate_dst (N := 25) rfl ?_); refine Kd.R_lit Kd.string _ 9 ?hg (N := 25) ?hd (xs := ([a0, a1] : List ByteArray)) (inner := [.string a0, .string a1]) (ok := fun _ => True) (okp := fun _ => True) ?hr ?hp (fun _ hk => hk) trivial (Below.refl _ _) (Nat.le_refl _) (by simp) ?_; (case hd => rfl); (case hg => rfl); (case hr => exact T3_); (case hp => exact (Reps.one (show Kd.M Kd.string _ _ _ a0 [.string a0] from rfl) (Reps.one (show Kd.M Kd.string _ _ _ a1 [.string a1] from rfl) (Reps.none _ _)))); intro v185 w21 ho22 hb hg_ hnew_; clear hg_ hnew_; (first | rw [← Ny184.out] at ho22 | (simp only [Int.reduceToNat] at ho22; rw [← Ny184.out] at ho22)); have HO186 := Aside0.mk (Kd.R_lower ho22 (below_size T1_)); replace HB := Aside0.mk (below_step T1_ hb); clear hb ho22; obtain ⟨Ao23, co23, eo23⟩ := Kd.R_slice HO186.out; subst eo23) | ((with_reducible refine gate_callee (f := 12) rfl ?_); refine goesL_ (some 26) rfl rfl Tryd.func12 (by kernel_rfl) rfl #[.slice Ao23 y184.length co23] rfl T2_ ?_; (with_reducible refine (tapewrightlaw03_right.calls k _ _ y184 true _ (Err.Gs.below HGs.out T1_) ?side1 ?side2 A4.out).mono ?_); (case side1 => exact C1_ (Kd.R_reads' HO186.out).2.2); (case side2 => exact (Kd.R_reads' HO186.out).2.1); rintro e w24 ⟨rfl, hb⟩; refine ⟨_, rfl, ?_⟩; replace HO186 := Aside0.mk (Kd.R_below (K1_ HO186) hb); replace HB := Aside0.mk (below_step T1_ hb); clear hb) | ((with_reducible refine gate_callee (f := 22) rfl ?_); refine goesL_ (some 31) rfl rfl Tryd.func22 (by kernel_rfl) rfl #[.string a0] rfl T2_ ?_; (with_reducible refine (rat_Sign.calls a0 t189 t190 _ (Err.Gs.below HGs.out T1_) A6.out).mono ?_); rintro e w25 ⟨rfl, hb⟩; refine ⟨_, rfl, ?_⟩; replace HO186 := Aside0.mk (Kd.R_below (K1_ HO186) hb); replace HB := Aside0.mk (below_step T1_ hb); clear hb) | ((with_reducible refine gate_callee (f := 22) rfl ?_); refine goesL_ (some 36) rfl rfl Tryd.func22 (by kernel_rfl) rfl #[.string a1] rfl T2_ ?_; (with_reducible refine (rat_Sign.calls a1 t191 t192 _ (Err.Gs.below HGs.out T1_) A7.out).mono ?_); rintro e w26 ⟨rfl, hb⟩; refine ⟨_, rfl, ?_⟩; replace HO186 := Aside0.mk (Kd.R_below (K1_ HO186) hb); replace HB := Aside0.mk (below_step T1_ hb); clear hb) | ((with_reducible refine gate_callee (f := 18) rfl ?_); refine goesL_ (some 42) rfl rfl Tryd.func18 (by kernel_rfl) rfl #[.string a0, .string a1] rfl T2_ ?_; (with_reducible refine (rat_Mul.calls a0 a1 t193 t194 _ (Err.Gs.below HGs.out T1_) A8.out).mono ?_); rintro e w27 ⟨rfl, hb⟩; refine ⟨_, rfl, ?_⟩; replace HO186 := Aside0.mk (Kd.R_below (K1_ HO186) hb); replace HB := Aside0.mk (below_step T1_ hb); clear hb) | ((with_reducible refine gate_callee (f := 22) rfl ?_); refine goesL_ (some 47) rfl rfl Tryd.func22 (by kernel_rfl) rfl #[.string t193] rfl T2_ ?_; (with_reducible refine (rat_Sign.calls t193 t195 t196 _ (Err.Gs.below HGs.out T1_) A9.out).mono ?_); rintro e w28 ⟨rfl, hb⟩; refine ⟨_, rfl, ?_⟩; replace HO186 := Aside0.mk (Kd.R_below (K1_ HO186) hb); replace HB := Aside0.mk (below_step T1_ hb); clear hb) | ((with_reducible refine gate_callee (f := 19) rfl ?_); refine goesL_ (some 56) rfl rfl Tryd.func19 (by kernel_rfl) rfl #[.string a0, .int .i64 (wrap64 (2 * (wrap64 (Int.tmod a2 4))))] rfl T2_ ?_; (with_reducible refine (rat_Power.calls a0 (wrap64 (2 * (wrap64 (Int.tmod a2 4)))) t197 t198 _ (Err.Gs.below HGs.out T1_) A10.out).mono ?_); rintro e w29 ⟨rfl, hb⟩; refine ⟨_, rfl, ?_⟩; replace HO186 := Aside0.mk (Kd.R_below (K1_ HO186) hb); replace HB := Aside0.mk (below_step T1_ hb); clear hb) | ((with_reducible refine gate_callee (f := 22) rfl ?_); refine goesL_ (some 61) rfl rfl Tryd.func22 (by kernel_rfl) rfl #[.string t197] rfl T2_ ?_; (with_reducible refine (rat_Sign.calls t197 t199 t200 _ (Err.Gs.below HGs.out T1_) A11.out).mono ?_); rintro e w30 ⟨rfl, hb⟩; refine ⟨_, rfl, ?_⟩; replace HO186 := Aside0.mk (Kd.R_below (K1_ HO186) hb); replace HB := Aside0.mk (below_step T1_ hb); clear hb) | ((with_reducible refine gate_callee (f := 17) rfl ?_); refine goesL_ (some 67) rfl rfl Tryd.func17 (by kernel_rfl) rfl #[.string a0, .string a1] rfl T2_ ?_; (with_reducible refine (rat_Quo.calls a0 a1 t201 t202 _ (Err.Gs.below HGs.out T1_) A12.out).mono ?_); rintro e w31 ⟨rfl, hb⟩; refine ⟨_, rfl, ?_⟩; replace HO186 := Aside0.mk (Kd.R_below (K1_ HO186) hb); replace HB := Aside0.mk (below_step T1_ hb); clear hb) | ((with_reducible refine gate_callee (f := 22) rfl ?_); refine goesL_ (some 72) rfl rfl Tryd.func22 (by kernel_rfl) rfl #[.string t201] rfl T2_ ?_; (with_reducible refine (rat_Sign.calls t201 t203 t204 _ (Err.Gs.below HGs.out T1_) A13.out).mono ?_); rintro e w32 ⟨rfl, hb⟩; refine ⟨_, rfl, ?_⟩; replace HO186 := Aside0.mk (Kd.R_below (K1_ HO186) hb); replace HB := Aside0.mk (below_step T1_ hb); clear hb) | (go_at_call 13; (with_reducible refine (tapewrightlaw03_awake.calls  t205 _ (Err.Gs.below HGs.out T1_) A20.out).mono ?_); rintro e w33 ⟨rfl, hb⟩; replace HO186 := Aside0.mk (Kd.R_below (K1_ HO186) hb); replace HB := Aside0.mk (below_step T1_ hb); clear hb))
        go_ret
        exact ⟨T4_, T1_⟩
       ·
        rw [if_neg c19] at H
        have c19b0 : (t200 == 0) = false := beq_eq_false_iff_ne.mpr c19
        have c19b1 : (t200 != 0) = true := bne_iff_ne.mpr c19
        exact absurd ((Option.some.inj H).trans HRT.out) (by decide)
      ·
       rw [if_neg c18] at H
       have c18b0 : (t196 == 0) = false := beq_eq_false_iff_ne.mpr c18
       have c18b1 : (t196 != 0) = true := bne_iff_ne.mpr c18
       exact absurd ((Option.some.inj H).trans HRT.out) (by decide)
     ·
      rw [if_neg c17] at H
      have c17b0 : (t202 == 3) = false := beq_eq_false_iff_ne.mpr c17
      have c17b1 : (t202 != 3) = true := bne_iff_ne.mpr c17
      exact absurd ((Option.some.inj H).trans HRT.out) (by decide)
    ·
     rw [if_neg c16] at H
     have c16b0 : (a1.toList == ([48] : List UInt8)) = false := beq_eq_false_iff_ne.mpr c16
     have c16b1 : (a1.toList != ([48] : List UInt8)) = true := bne_iff_ne.mpr c16
     by_cases c34 : t202 = 0
     ·
      rw [if_pos c34] at H
      have c34b0 : (t202 == 0) = true := beq_iff_eq.mpr c34
      have c34b1 : (t202 != 0) = false := bne_eq_false_iff_eq.mpr c34
      clear c34
      by_cases c35 : t203 = (wrap64 (t189 * t191))
      ·
       rw [if_pos c35] at H
       have c35b0 : (t203 == (wrap64 (t189 * t191))) = true := beq_iff_eq.mpr c35
       have c35b1 : (t203 != (wrap64 (t189 * t191))) = false := bne_eq_false_iff_eq.mpr c35
       clear c35
       by_cases c36 : t196 = 0
       ·
        rw [if_pos c36] at H
        have c36b0 : (t196 == 0) = true := beq_iff_eq.mpr c36
        have c36b1 : (t196 != 0) = false := bne_eq_false_iff_eq.mpr c36
        clear c36
        by_cases c37 : t200 = 0
        ·
         rw [if_pos c37] at H
         have c37b0 : (t200 == 0) = true := beq_iff_eq.mpr c37
         have c37b1 : (t200 != 0) = false := bne_eq_false_iff_eq.mpr c37
         clear c37
         replace H := Option.bind_eq_some_iff.mp H
         obtain ⟨t206, A380, H⟩ := H
         replace H : (some t206) = some r := H
         have A38 := Aside0.mk A380
         clear A380
         obtain rfl := Option.some.inj H
         go_enter Tryd.func8, Tryd.ntmps8
         go_wp2_with (first | ((with_reducible refine gate_dst (N := 25) rfl ?_); refine Kd.R_lit Kd.string _ 9 ?hg (N := 25) ?hd (xs := ([a0, a1] : List ByteArray)) (inner := [.string a0, .string a1]) (ok := fun _ => True) (okp := fun _ => True) ?hr ?hp (fun _ hk => hk) trivial (Below.refl _ _) (Nat.le_refl _) (by simp) ?_; (case hd => rfl); (case hg => rfl); (case hr => exact T3_); (case hp => exact (Reps.one (show Kd.M Kd.string _ _ _ a0 [.string a0] from rfl) (Reps.one (show Kd.M Kd.string _ _ _ a1 [.string a1] from rfl) (Reps.none _ _)))); intro v185 w39 ho40 hb hg_ hnew_; clear hg_ hnew_; (first | rw [← Ny184.out] at ho40 | (simp only [Int.reduceToNat] at ho40; rw [← Ny184.out] at ho40)); have HO186 := Aside0.mk (Kd.R_lower ho40 (below_size T1_)); replace HB := Aside0.mk (below_step T1_ hb); clear hb ho40; obtain ⟨Ao41, co41, eo41⟩ := Kd.R_slice HO186.out; subst eo41) | ((with_reducible refine gate_callee (f := 12) rfl ?_); refine goesL_ (some 26) rfl rfl Tryd.func12 (by kernel_rfl) rfl #[.slice Ao41 y184.length co41] rfl T2_ ?_; (with_reducible refine (tapewrightlaw03_right.calls k _ _ y184 true _ (Err.Gs.below HGs.out T1_) ?side1 ?side2 A4.out).mono ?_); (case side1 => exact C1_ (Kd.R_reads' HO186.out).2.2); (case side2 => exact (Kd.R_reads' HO186.out).2.1); rintro e w42 ⟨rfl, hb⟩; refine ⟨_, rfl, ?_⟩; replace HO186 := Aside0.mk (Kd.R_below (K1_ HO186) hb); replace HB := Aside0.mk (below_step T1_ hb); clear hb) | ((with_reducible refine gate_callee (f := 22) rfl ?_); refine goesL_ (some 31) rfl rfl Tryd.func22 (by kernel_rfl) rfl #[.string a0] rfl T2_ ?_; (with_reducible refine (rat_Sign.calls a0 t189 t190 _ (Err.Gs.below HGs.out T1_) A6.out).mono ?_); rintro e w43 ⟨rfl, hb⟩; refine ⟨_, rfl, ?_⟩; replace HO186 := Aside0.mk (Kd.R_below (K1_ HO186) hb); replace HB := Aside0.mk (below_step T1_ hb); clear hb) | ((with_reducible refine gate_callee (f := 22) rfl ?_); refine goesL_ (some 36) rfl rfl Tryd.func22 (by kernel_rfl) rfl #[.string a1] rfl T2_ ?_; (with_reducible refine (rat_Sign.calls a1 t191 t192 _ (Err.Gs.below HGs.out T1_) A7.out).mono ?_); rintro e w44 ⟨rfl, hb⟩; refine ⟨_, rfl, ?_⟩; replace HO186 := Aside0.mk (Kd.R_below (K1_ HO186) hb); replace HB := Aside0.mk (below_step T1_ hb); clear hb) | ((with_reducible refine gate_callee (f := 18) rfl ?_); refine goesL_ (some 42) rfl rfl Tryd.func18 (by kernel_rfl) rfl #[.string a0, .string a1] rfl T2_ ?_; (with_reducible refine (rat_Mul.calls a0 a1 t193 t194 _ (Err.Gs.below HGs.out T1_) A8.out).mono ?_); rintro e w45 ⟨rfl, hb⟩; refine ⟨_, rfl, ?_⟩; replace HO186 := Aside0.mk (Kd.R_below (K1_ HO186) hb); replace HB := Aside0.mk (below_step T1_ hb); clear hb) | ((with_reducible refine gate_callee (f := 22) rfl ?_); refine goesL_ (some 47) rfl rfl Tryd.func22 (by kernel_rfl) rfl #[.string t193] rfl T2_ ?_; (with_reducible refine (rat_Sign.calls t193 t195 t196 _ (Err.Gs.below HGs.out T1_) A9.out).mono ?_); rintro e w46 ⟨rfl, hb⟩; refine ⟨_, rfl, ?_⟩; replace HO186 := Aside0.mk (Kd.R_below (K1_ HO186) hb); replace HB := Aside0.mk (below_step T1_ hb); clear hb) | ((with_reducible refine gate_callee (f := 19) rfl ?_); refine goesL_ (some 56) rfl rfl Tryd.func19 (by kernel_rfl) rfl #[.string a0, .int .i64 (wrap64 (2 * (wrap64 (Int.tmod a2 4))))] rfl T2_ ?_; (with_reducible refine (rat_Power.calls a0 (wrap64 (2 * (wrap64 (Int.tmod a2 4)))) t197 t198 _ (Err.Gs.below HGs.out T1_) A10.out).mono ?_); rintro e w47 ⟨rfl, hb⟩; refine ⟨_, rfl, ?_⟩; replace HO186 := Aside0.mk (Kd.R_below (K1_ HO186) hb); replace HB := Aside0.mk (below_step T1_ hb); clear hb) | ((with_reducible refine gate_callee (f := 22) rfl ?_); refine goesL_ (some 61) rfl rfl Tryd.func22 (by kernel_rfl) rfl #[.string t197] rfl T2_ ?_; (with_reducible refine (rat_Sign.calls t197 t199 t200 _ (Err.Gs.below HGs.out T1_) A11.out).mono ?_); rintro e w48 ⟨rfl, hb⟩; refine ⟨_, rfl, ?_⟩; replace HO186 := Aside0.mk (Kd.R_below (K1_ HO186) hb); replace HB := Aside0.mk (below_step T1_ hb); clear hb) | ((with_reducible refine gate_callee (f := 17) rfl ?_); refine goesL_ (some 67) rfl rfl Tryd.func17 (by kernel_rfl) rfl #[.string a0, .string a1] rfl T2_ ?_; (with_reducible refine (rat_Quo.calls a0 a1 t201 t202 _ (Err.Gs.below HGs.out T1_) A12.out).mono ?_); rintro e w49 ⟨rfl, hb⟩; refine ⟨_, rfl, ?_⟩; replace HO186 := Aside0.mk (Kd.R_below (K1_ HO186) hb); replace HB := Aside0.mk (below_step T1_ hb); clear hb) | ((with_reducible refine gate_callee (f := 22) rfl ?_); refine goesL_ (some 72) rfl rfl Tryd.func22 (by kernel_rfl) rfl #[.string t201] rfl T2_ ?_; (with_reducible refine (rat_Sign.calls t201 t203 t204 _ (Err.Gs.below HGs.out T1_) A13.out).mono ?_); rintro e w50 ⟨rfl, hb⟩; refine ⟨_, rfl, ?_⟩; replace HO186 := Aside0.mk (Kd.R_below (K1_ HO186) hb); replace HB := Aside0.mk (below_step T1_ hb); clear hb) | (go_at_call 13; (with_reducible refine (tapewrightlaw03_awake.calls  t206 _ (Err.Gs.below HGs.out T1_) A38.out).mono ?_); rintro e w51 ⟨rfl, hb⟩; replace HO186 := Aside0.mk (Kd.R_below (K1_ HO186) hb); replace HB := Aside0.mk (below_step T1_ hb); clear hb))
         go_ret
         exact ⟨T4_, T1_⟩
        ·
         rw [if_neg c37] at H
         have c37b0 : (t200 == 0) = false := beq_eq_false_iff_ne.mpr c37
         have c37b1 : (t200 != 0) = true := bne_iff_ne.mpr c37
         exact absurd ((Option.some.inj H).trans HRT.out) (by decide)
       ·
        rw [if_neg c36] at H
        have c36b0 : (t196 == 0) = false := beq_eq_false_iff_ne.mpr c36
        have c36b1 : (t196 != 0) = true := bne_iff_ne.mpr c36
        exact absurd ((Option.some.inj H).trans HRT.out) (by decide)
      ·
       rw [if_neg c35] at H
       have c35b0 : (t203 == (wrap64 (t189 * t191))) = false := beq_eq_false_iff_ne.mpr c35
       have c35b1 : (t203 != (wrap64 (t189 * t191))) = true := bne_iff_ne.mpr c35
       exact absurd ((Option.some.inj H).trans HRT.out) (by decide)
     ·
      rw [if_neg c34] at H
      have c34b0 : (t202 == 0) = false := beq_eq_false_iff_ne.mpr c34
      have c34b1 : (t202 != 0) = true := bne_iff_ne.mpr c34
      exact absurd ((Option.some.inj H).trans HRT.out) (by decide)
   ·
    rw [if_neg c15] at H
    have c15b0 : decide (0 ≤ t199) = false := decide_eq_false c15
    clear c15
    exact absurd ((Option.some.inj H).trans HRT.out) (by decide)
  ·
   rw [if_neg c14] at H
   have c14b0 : (t195 == (wrap64 (t189 * t191))) = false := beq_eq_false_iff_ne.mpr c14
   have c14b1 : (t195 != (wrap64 (t189 * t191))) = true := bne_iff_ne.mpr c14
   exact absurd ((Option.some.inj H).trans HRT.out) (by decide)
 ·
  replace c5 := Bool.eq_false_iff.mpr c5
  subst c5
  have H1 : ((tapewrightlaw03_awake.f).bind fun t188 => (some t188)) = some r := by rw [if_neg (show ¬ (false = true) by decide)] at H; exact H
  clear H
  have H := H1
  clear H1
  replace H := Option.bind_eq_some_iff.mp H
  obtain ⟨t188, A520, H⟩ := H
  replace H : (some t188) = some r := H
  have A52 := Aside0.mk A520
  clear A520
  obtain rfl := Option.some.inj H
  go_enter Tryd.func8, Tryd.ntmps8
  go_wp2_with (first | ((with_reducible refine gate_dst (N := 25) rfl ?_); refine Kd.R_lit Kd.string _ 9 ?hg (N := 25) ?hd (xs := ([a0, a1] : List ByteArray)) (inner := [.string a0, .string a1]) (ok := fun _ => True) (okp := fun _ => True) ?hr ?hp (fun _ hk => hk) trivial (Below.refl _ _) (Nat.le_refl _) (by simp) ?_; (case hd => rfl); (case hg => rfl); (case hr => exact T3_); (case hp => exact (Reps.one (show Kd.M Kd.string _ _ _ a0 [.string a0] from rfl) (Reps.one (show Kd.M Kd.string _ _ _ a1 [.string a1] from rfl) (Reps.none _ _)))); intro v185 w53 ho54 hb hg_ hnew_; clear hg_ hnew_; (first | rw [← Ny184.out] at ho54 | (simp only [Int.reduceToNat] at ho54; rw [← Ny184.out] at ho54)); have HO186 := Aside0.mk (Kd.R_lower ho54 (below_size T1_)); replace HB := Aside0.mk (below_step T1_ hb); clear hb ho54; obtain ⟨Ao55, co55, eo55⟩ := Kd.R_slice HO186.out; subst eo55) | ((with_reducible refine gate_callee (f := 12) rfl ?_); refine goesL_ (some 26) rfl rfl Tryd.func12 (by kernel_rfl) rfl #[.slice Ao55 y184.length co55] rfl T2_ ?_; (with_reducible refine (tapewrightlaw03_right.calls k _ _ y184 false _ (Err.Gs.below HGs.out T1_) ?side1 ?side2 A4.out).mono ?_); (case side1 => exact C1_ (Kd.R_reads' HO186.out).2.2); (case side2 => exact (Kd.R_reads' HO186.out).2.1); rintro e w56 ⟨rfl, hb⟩; refine ⟨_, rfl, ?_⟩; replace HO186 := Aside0.mk (Kd.R_below (K1_ HO186) hb); replace HB := Aside0.mk (below_step T1_ hb); clear hb) | ((with_reducible refine gate_callee (f := 13) rfl ?_); refine goesL_ (some 28) rfl rfl Tryd.func13 (by kernel_rfl) rfl #[] rfl T2_ ?_; (with_reducible refine (tapewrightlaw03_awake.calls  t188 _ (Err.Gs.below HGs.out T1_) A52.out).mono ?_); rintro e w57 ⟨rfl, hb⟩; refine ⟨_, rfl, ?_⟩; replace HO186 := Aside0.mk (Kd.R_below (K1_ HO186) hb); replace HB := Aside0.mk (below_step T1_ hb); clear hb))
  go_ret
  exact ⟨T4_, T1_⟩

/-- THE ONE PURE STATEMENT of tapewrightlaw03_RatSigns: yours. -/
def tapewrightlaw03_RatSigns.Pure : Prop := ∀ (a0 : ByteArray) (a1 : ByteArray) (a2 : Int), a0.size ≤ 140737488351232 → a1.size ≤ 140737488351232 → (Lit.int .u8 a2).wf = true → ∃ k, tapewrightlaw03_RatSigns.f k a0 a1 a2 = some true
theorem tapewrightlaw03_RatSigns.walk (P : tapewrightlaw03_RatSigns.Pure) (a0 : ByteArray) (a1 : ByteArray) (a2 : Int) (w : World) (hG : Err.Gs w) (w0 : a0.size ≤ 140737488351232) (w1 : a1.size ≤ 140737488351232) (w2 : (Lit.int .u8 a2).wf = true) :
  Calls Tryd.prog 8 #[.string a0, .string a1, .int .u8 a2] w fun e w' => e = .returned (.bool true) ∧ Below w.heap.size w w' := by
 obtain ⟨k, h⟩ := P a0 a1 a2 w0 w1 w2
 refine (tapewrightlaw03_RatSigns.calls k a0 a1 a2 true w hG rfl h).mono ?_
 rintro e w' ⟨rfl, hd⟩
 exact ⟨rfl, hd⟩

end Go.Proofs.YtfjlmiehbikmnaaDoor.PQ
