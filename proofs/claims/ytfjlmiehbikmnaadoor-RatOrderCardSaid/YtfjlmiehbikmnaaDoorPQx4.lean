-- by wip/tool/mine.py of this repo (the kit's printer with given contracts)
import Derived.Test.YtfjlmiehbikmnaaDoorPQx0
import Derived.Test.YtfjlmiehbikmnaaDoorPQx1
import Derived.Test.YtfjlmiehbikmnaaDoorPQx2
import Derived.Test.YtfjlmiehbikmnaaDoorPQx3
namespace Go.Proofs.YtfjlmiehbikmnaaDoor.PQ
open Go.RowKit Go.Proofs.YtfjlmiehbikmnaaDoorW.PrintWords Go.Proofs.YtfjlmiehbikmnaaDoorW.PrintLast Go.Proofs.YtfjlmiehbikmnaaDoorW.PrintMore
attribute [local go_sem] max2_int min2_int max_two min_two max_three min_three max_four min_four   -- for this text's walks alone
set_option linter.unusedVariables false
set_option linter.unusedSimpArgs false

/-! ### tapewrightlaw03_RatOrder: function 10 -/
noncomputable def tapewrightlaw03_RatOrder.f (k : Nat) (a0 : ByteArray) (a1 : ByteArray) (a2 : ByteArray) : Option (Bool) := (tapewrightlaw03_right.f k (([a0, a1, a2] : List ByteArray))).bind fun t167 => (if t167 = true then ((rat_Compare.f a0 a1).bind fun bt169 => ((rat_Compare.f a1 a2).bind fun bt171 => ((rat_Compare.f a0 a2).bind fun bt173 => ((rat_Neg.f a0).bind fun bt175 => ((rat_Neg.f a1).bind fun bt177 => ((rat_Compare.f bt175.1 bt177.1).bind fun bt179 => (if bt169.1 > 0 then (if bt179.1 = (wrap64 (-bt169.1)) then (if bt173.2 = 0 then (if bt179.2 = 0 then ((tapewrightlaw03_awake.f).bind fun t181 => (some t181)) else (some false)) else (some false)) else (some false)) else (if bt171.1 > 0 then (if bt179.1 = (wrap64 (-bt169.1)) then (if bt173.2 = 0 then (if bt179.2 = 0 then ((tapewrightlaw03_awake.f).bind fun t182 => (some t182)) else (some false)) else (some false)) else (some false)) else (if bt173.1 ≤ 0 then (if bt179.1 = (wrap64 (-bt169.1)) then (if bt173.2 = 0 then (if bt179.2 = 0 then ((tapewrightlaw03_awake.f).bind fun t183 => (some t183)) else (some false)) else (some false)) else (some false)) else (some false)))))))))) else ((tapewrightlaw03_awake.f).bind fun t168 => (some t168)))
set_option maxHeartbeats 8000000 in
set_option maxRecDepth 100000 in
theorem tapewrightlaw03_RatOrder.calls (k : Nat) (a0 : ByteArray) (a1 : ByteArray) (a2 : ByteArray) (r : Bool) (w : World) (hG : Err.Gs w) (hrt : r = true) (h : tapewrightlaw03_RatOrder.f k a0 a1 a2 = some r) :
  Calls Tryd.prog 10 #[.string a0, .string a1, .string a2] w fun e w' => e = .returned (.bool r) ∧ Below w.heap.size w w' := by
 have HB := Aside0.mk (Below.refl w.heap.size w)
 have HGs := Aside0.mk hG
 clear hG
 have HRT := Aside0.mk hrt
 clear hrt
 have H : ((tapewrightlaw03_right.f k (([a0, a1, a2] : List ByteArray))).bind fun t167 => (if t167 = true then ((rat_Compare.f a0 a1).bind fun bt169 => ((rat_Compare.f a1 a2).bind fun bt171 => ((rat_Compare.f a0 a2).bind fun bt173 => ((rat_Neg.f a0).bind fun bt175 => ((rat_Neg.f a1).bind fun bt177 => ((rat_Compare.f bt175.1 bt177.1).bind fun bt179 => (if bt169.1 > 0 then (if bt179.1 = (wrap64 (-bt169.1)) then (if bt173.2 = 0 then (if bt179.2 = 0 then ((tapewrightlaw03_awake.f).bind fun t181 => (some t181)) else (some false)) else (some false)) else (some false)) else (if bt171.1 > 0 then (if bt179.1 = (wrap64 (-bt169.1)) then (if bt173.2 = 0 then (if bt179.2 = 0 then ((tapewrightlaw03_awake.f).bind fun t182 => (some t182)) else (some false)) else (some false)) else (some false)) else (if bt173.1 ≤ 0 then (if bt179.1 = (wrap64 (-bt169.1)) then (if bt173.2 = 0 then (if bt179.2 = 0 then ((tapewrightlaw03_awake.f).bind fun t183 => (some t183)) else (some false)) else (some false)) else (some false)) else (some false)))))))))) else ((tapewrightlaw03_awake.f).bind fun t168 => (some t168)))) = some r := h
 clear h
 obtain ⟨y164, hy164⟩ : ∃ y_ : List ByteArray, y_ = (([a0, a1, a2] : List ByteArray)) := ⟨_, rfl⟩
 replace H : ((tapewrightlaw03_right.f k y164).bind fun t167 => (if t167 = true then ((rat_Compare.f a0 a1).bind fun bt169 => ((rat_Compare.f a1 a2).bind fun bt171 => ((rat_Compare.f a0 a2).bind fun bt173 => ((rat_Neg.f a0).bind fun bt175 => ((rat_Neg.f a1).bind fun bt177 => ((rat_Compare.f bt175.1 bt177.1).bind fun bt179 => (if bt169.1 > 0 then (if bt179.1 = (wrap64 (-bt169.1)) then (if bt173.2 = 0 then (if bt179.2 = 0 then ((tapewrightlaw03_awake.f).bind fun t181 => (some t181)) else (some false)) else (some false)) else (some false)) else (if bt171.1 > 0 then (if bt179.1 = (wrap64 (-bt169.1)) then (if bt173.2 = 0 then (if bt179.2 = 0 then ((tapewrightlaw03_awake.f).bind fun t182 => (some t182)) else (some false)) else (some false)) else (some false)) else (if bt173.1 ≤ 0 then (if bt179.1 = (wrap64 (-bt169.1)) then (if bt173.2 = 0 then (if bt179.2 = 0 then ((tapewrightlaw03_awake.f).bind fun t183 => (some t183)) else (some false)) else (some false)) else (some false)) else (some false)))))))))) else ((tapewrightlaw03_awake.f).bind fun t168 => (some t168)))) = some r := by first | (rw [hy164]; with_reducible exact H) | (have H2_ := (Option.bind_some _ _).symm.trans H; rw [hy164]; with_reducible exact H2_) | (have H2_ := (Option.bind_some _ _).symm.trans H; with_reducible exact H2_) | with_reducible exact H | (rw [hy164]; exact H) | exact H
 have Ny164 := Aside0.mk hy164
 clear hy164
 replace H := Option.bind_eq_some_iff.mp H
 obtain ⟨t167, A40, H⟩ := H
 replace H : (if t167 = true then ((rat_Compare.f a0 a1).bind fun bt169 => ((rat_Compare.f a1 a2).bind fun bt171 => ((rat_Compare.f a0 a2).bind fun bt173 => ((rat_Neg.f a0).bind fun bt175 => ((rat_Neg.f a1).bind fun bt177 => ((rat_Compare.f bt175.1 bt177.1).bind fun bt179 => (if bt169.1 > 0 then (if bt179.1 = (wrap64 (-bt169.1)) then (if bt173.2 = 0 then (if bt179.2 = 0 then ((tapewrightlaw03_awake.f).bind fun t181 => (some t181)) else (some false)) else (some false)) else (some false)) else (if bt171.1 > 0 then (if bt179.1 = (wrap64 (-bt169.1)) then (if bt173.2 = 0 then (if bt179.2 = 0 then ((tapewrightlaw03_awake.f).bind fun t182 => (some t182)) else (some false)) else (some false)) else (some false)) else (if bt173.1 ≤ 0 then (if bt179.1 = (wrap64 (-bt169.1)) then (if bt173.2 = 0 then (if bt179.2 = 0 then ((tapewrightlaw03_awake.f).bind fun t183 => (some t183)) else (some false)) else (some false)) else (some false)) else (some false)))))))))) else ((tapewrightlaw03_awake.f).bind fun t168 => (some t168))) = some r := H
 have A4 := Aside0.mk A40
 clear A40
 by_cases c5 : t167 = true
 ·
  subst c5
  have H1 : ((rat_Compare.f a0 a1).bind fun bt169 => ((rat_Compare.f a1 a2).bind fun bt171 => ((rat_Compare.f a0 a2).bind fun bt173 => ((rat_Neg.f a0).bind fun bt175 => ((rat_Neg.f a1).bind fun bt177 => ((rat_Compare.f bt175.1 bt177.1).bind fun bt179 => (if bt169.1 > 0 then (if bt179.1 = (wrap64 (-bt169.1)) then (if bt173.2 = 0 then (if bt179.2 = 0 then ((tapewrightlaw03_awake.f).bind fun t181 => (some t181)) else (some false)) else (some false)) else (some false)) else (if bt171.1 > 0 then (if bt179.1 = (wrap64 (-bt169.1)) then (if bt173.2 = 0 then (if bt179.2 = 0 then ((tapewrightlaw03_awake.f).bind fun t182 => (some t182)) else (some false)) else (some false)) else (some false)) else (if bt173.1 ≤ 0 then (if bt179.1 = (wrap64 (-bt169.1)) then (if bt173.2 = 0 then (if bt179.2 = 0 then ((tapewrightlaw03_awake.f).bind fun t183 => (some t183)) else (some false)) else (some false)) else (some false)) else (some false)))))))))) = some r := by rw [if_pos rfl] at H; exact H
  clear H
  have H := H1
  clear H1
  replace H := Option.bind_eq_some_iff.mp H
  obtain ⟨⟨t169, t170⟩, A60, H⟩ := H
  replace H : ((rat_Compare.f a1 a2).bind fun bt171 => ((rat_Compare.f a0 a2).bind fun bt173 => ((rat_Neg.f a0).bind fun bt175 => ((rat_Neg.f a1).bind fun bt177 => ((rat_Compare.f bt175.1 bt177.1).bind fun bt179 => (if t169 > 0 then (if bt179.1 = (wrap64 (-t169)) then (if bt173.2 = 0 then (if bt179.2 = 0 then ((tapewrightlaw03_awake.f).bind fun t181 => (some t181)) else (some false)) else (some false)) else (some false)) else (if bt171.1 > 0 then (if bt179.1 = (wrap64 (-t169)) then (if bt173.2 = 0 then (if bt179.2 = 0 then ((tapewrightlaw03_awake.f).bind fun t182 => (some t182)) else (some false)) else (some false)) else (some false)) else (if bt173.1 ≤ 0 then (if bt179.1 = (wrap64 (-t169)) then (if bt173.2 = 0 then (if bt179.2 = 0 then ((tapewrightlaw03_awake.f).bind fun t183 => (some t183)) else (some false)) else (some false)) else (some false)) else (some false))))))))) = some r := H
  have A6 := Aside0.mk A60
  clear A60
  replace H := Option.bind_eq_some_iff.mp H
  obtain ⟨⟨t171, t172⟩, A70, H⟩ := H
  replace H : ((rat_Compare.f a0 a2).bind fun bt173 => ((rat_Neg.f a0).bind fun bt175 => ((rat_Neg.f a1).bind fun bt177 => ((rat_Compare.f bt175.1 bt177.1).bind fun bt179 => (if t169 > 0 then (if bt179.1 = (wrap64 (-t169)) then (if bt173.2 = 0 then (if bt179.2 = 0 then ((tapewrightlaw03_awake.f).bind fun t181 => (some t181)) else (some false)) else (some false)) else (some false)) else (if t171 > 0 then (if bt179.1 = (wrap64 (-t169)) then (if bt173.2 = 0 then (if bt179.2 = 0 then ((tapewrightlaw03_awake.f).bind fun t182 => (some t182)) else (some false)) else (some false)) else (some false)) else (if bt173.1 ≤ 0 then (if bt179.1 = (wrap64 (-t169)) then (if bt173.2 = 0 then (if bt179.2 = 0 then ((tapewrightlaw03_awake.f).bind fun t183 => (some t183)) else (some false)) else (some false)) else (some false)) else (some false)))))))) = some r := H
  have A7 := Aside0.mk A70
  clear A70
  replace H := Option.bind_eq_some_iff.mp H
  obtain ⟨⟨t173, t174⟩, A80, H⟩ := H
  replace H : ((rat_Neg.f a0).bind fun bt175 => ((rat_Neg.f a1).bind fun bt177 => ((rat_Compare.f bt175.1 bt177.1).bind fun bt179 => (if t169 > 0 then (if bt179.1 = (wrap64 (-t169)) then (if t174 = 0 then (if bt179.2 = 0 then ((tapewrightlaw03_awake.f).bind fun t181 => (some t181)) else (some false)) else (some false)) else (some false)) else (if t171 > 0 then (if bt179.1 = (wrap64 (-t169)) then (if t174 = 0 then (if bt179.2 = 0 then ((tapewrightlaw03_awake.f).bind fun t182 => (some t182)) else (some false)) else (some false)) else (some false)) else (if t173 ≤ 0 then (if bt179.1 = (wrap64 (-t169)) then (if t174 = 0 then (if bt179.2 = 0 then ((tapewrightlaw03_awake.f).bind fun t183 => (some t183)) else (some false)) else (some false)) else (some false)) else (some false))))))) = some r := H
  have A8 := Aside0.mk A80
  clear A80
  replace H := Option.bind_eq_some_iff.mp H
  obtain ⟨⟨t175, t176⟩, A90, H⟩ := H
  replace H : ((rat_Neg.f a1).bind fun bt177 => ((rat_Compare.f t175 bt177.1).bind fun bt179 => (if t169 > 0 then (if bt179.1 = (wrap64 (-t169)) then (if t174 = 0 then (if bt179.2 = 0 then ((tapewrightlaw03_awake.f).bind fun t181 => (some t181)) else (some false)) else (some false)) else (some false)) else (if t171 > 0 then (if bt179.1 = (wrap64 (-t169)) then (if t174 = 0 then (if bt179.2 = 0 then ((tapewrightlaw03_awake.f).bind fun t182 => (some t182)) else (some false)) else (some false)) else (some false)) else (if t173 ≤ 0 then (if bt179.1 = (wrap64 (-t169)) then (if t174 = 0 then (if bt179.2 = 0 then ((tapewrightlaw03_awake.f).bind fun t183 => (some t183)) else (some false)) else (some false)) else (some false)) else (some false)))))) = some r := H
  have A9 := Aside0.mk A90
  clear A90
  replace H := Option.bind_eq_some_iff.mp H
  obtain ⟨⟨t177, t178⟩, A100, H⟩ := H
  replace H : ((rat_Compare.f t175 t177).bind fun bt179 => (if t169 > 0 then (if bt179.1 = (wrap64 (-t169)) then (if t174 = 0 then (if bt179.2 = 0 then ((tapewrightlaw03_awake.f).bind fun t181 => (some t181)) else (some false)) else (some false)) else (some false)) else (if t171 > 0 then (if bt179.1 = (wrap64 (-t169)) then (if t174 = 0 then (if bt179.2 = 0 then ((tapewrightlaw03_awake.f).bind fun t182 => (some t182)) else (some false)) else (some false)) else (some false)) else (if t173 ≤ 0 then (if bt179.1 = (wrap64 (-t169)) then (if t174 = 0 then (if bt179.2 = 0 then ((tapewrightlaw03_awake.f).bind fun t183 => (some t183)) else (some false)) else (some false)) else (some false)) else (some false))))) = some r := H
  have A10 := Aside0.mk A100
  clear A100
  replace H := Option.bind_eq_some_iff.mp H
  obtain ⟨⟨t179, t180⟩, A110, H⟩ := H
  replace H : (if t169 > 0 then (if t179 = (wrap64 (-t169)) then (if t174 = 0 then (if t180 = 0 then ((tapewrightlaw03_awake.f).bind fun t181 => (some t181)) else (some false)) else (some false)) else (some false)) else (if t171 > 0 then (if t179 = (wrap64 (-t169)) then (if t174 = 0 then (if t180 = 0 then ((tapewrightlaw03_awake.f).bind fun t182 => (some t182)) else (some false)) else (some false)) else (some false)) else (if t173 ≤ 0 then (if t179 = (wrap64 (-t169)) then (if t174 = 0 then (if t180 = 0 then ((tapewrightlaw03_awake.f).bind fun t183 => (some t183)) else (some false)) else (some false)) else (some false)) else (some false)))) = some r := H
  have A11 := Aside0.mk A110
  clear A110
  by_cases c12 : t169 > 0
  ·
   rw [if_pos c12] at H
   have c12b0 : decide (0 < t169) = true := decide_eq_true c12
   clear c12
   by_cases c13 : t179 = (wrap64 (-t169))
   ·
    rw [if_pos c13] at H
    have c13b0 : (t179 == (wrap64 (-t169))) = true := beq_iff_eq.mpr c13
    have c13b1 : (t179 != (wrap64 (-t169))) = false := bne_eq_false_iff_eq.mpr c13
    clear c13
    by_cases c14 : t174 = 0
    ·
     rw [if_pos c14] at H
     have c14b0 : (t174 == 0) = true := beq_iff_eq.mpr c14
     have c14b1 : (t174 != 0) = false := bne_eq_false_iff_eq.mpr c14
     clear c14
     by_cases c15 : t180 = 0
     ·
      rw [if_pos c15] at H
      have c15b0 : (t180 == 0) = true := beq_iff_eq.mpr c15
      have c15b1 : (t180 != 0) = false := bne_eq_false_iff_eq.mpr c15
      clear c15
      replace H := Option.bind_eq_some_iff.mp H
      obtain ⟨t181, A160, H⟩ := H
      replace H : (some t181) = some r := H
      have A16 := Aside0.mk A160
      clear A160
      obtain rfl := Option.some.inj H
      go_enter Tryd.func10, Tryd.ntmps10
      go_wp2_with (first | ((with_reducible refine gate_dst (N := 22) rfl ?_); refine Kd.R_lit Kd.string _ 9 ?hg (N := 22) ?hd (xs := ([a0, a1, a2] : List ByteArray)) (inner := [.string a0, .string a1, .string a2]) (ok := fun _ => True) (okp := fun _ => True) ?hr ?hp (fun _ hk => hk) trivial (Below.refl _ _) (Nat.le_refl _) (by simp) ?_; (case hd => rfl); (case hg => rfl); (case hr => exact T3_); (case hp => exact (Reps.one (show Kd.M Kd.string _ _ _ a0 [.string a0] from rfl) (Reps.one (show Kd.M Kd.string _ _ _ a1 [.string a1] from rfl) (Reps.one (show Kd.M Kd.string _ _ _ a2 [.string a2] from rfl) (Reps.none _ _))))); intro v165 w17 ho18 hb hg_ hnew_; clear hg_ hnew_; (first | rw [← Ny164.out] at ho18 | (simp only [Int.reduceToNat] at ho18; rw [← Ny164.out] at ho18)); have HO166 := Aside0.mk (Kd.R_lower ho18 (below_size T1_)); replace HB := Aside0.mk (below_step T1_ hb); clear hb ho18; obtain ⟨Ao19, co19, eo19⟩ := Kd.R_slice HO166.out; subst eo19) | ((with_reducible refine gate_callee (f := 12) rfl ?_); refine goesL_ (some 23) rfl rfl Tryd.func12 (by kernel_rfl) rfl #[.slice Ao19 y164.length co19] rfl T2_ ?_; (with_reducible refine (tapewrightlaw03_right.calls k _ _ y164 true _ (Err.Gs.below HGs.out T1_) ?side1 ?side2 A4.out).mono ?_); (case side1 => exact C1_ (Kd.R_reads' HO166.out).2.2); (case side2 => exact (Kd.R_reads' HO166.out).2.1); rintro e w20 ⟨rfl, hb⟩; refine ⟨_, rfl, ?_⟩; replace HO166 := Aside0.mk (Kd.R_below (K1_ HO166) hb); replace HB := Aside0.mk (below_step T1_ hb); clear hb) | ((with_reducible refine gate_callee (f := 23) rfl ?_); refine goesL_ (some 29) rfl rfl Tryd.func23 (by kernel_rfl) rfl #[.string a0, .string a1] rfl T2_ ?_; (with_reducible refine (rat_Compare.calls a0 a1 t169 t170 _ (Err.Gs.below HGs.out T1_) A6.out).mono ?_); rintro e w21 ⟨rfl, hb⟩; refine ⟨_, rfl, ?_⟩; replace HO166 := Aside0.mk (Kd.R_below (K1_ HO166) hb); replace HB := Aside0.mk (below_step T1_ hb); clear hb) | ((with_reducible refine gate_callee (f := 23) rfl ?_); refine goesL_ (some 35) rfl rfl Tryd.func23 (by kernel_rfl) rfl #[.string a1, .string a2] rfl T2_ ?_; (with_reducible refine (rat_Compare.calls a1 a2 t171 t172 _ (Err.Gs.below HGs.out T1_) A7.out).mono ?_); rintro e w22 ⟨rfl, hb⟩; refine ⟨_, rfl, ?_⟩; replace HO166 := Aside0.mk (Kd.R_below (K1_ HO166) hb); replace HB := Aside0.mk (below_step T1_ hb); clear hb) | ((with_reducible refine gate_callee (f := 23) rfl ?_); refine goesL_ (some 41) rfl rfl Tryd.func23 (by kernel_rfl) rfl #[.string a0, .string a2] rfl T2_ ?_; (with_reducible refine (rat_Compare.calls a0 a2 t173 t174 _ (Err.Gs.below HGs.out T1_) A8.out).mono ?_); rintro e w23 ⟨rfl, hb⟩; refine ⟨_, rfl, ?_⟩; replace HO166 := Aside0.mk (Kd.R_below (K1_ HO166) hb); replace HB := Aside0.mk (below_step T1_ hb); clear hb) | ((with_reducible refine gate_callee (f := 21) rfl ?_); refine goesL_ (some 46) rfl rfl Tryd.func21 (by kernel_rfl) rfl #[.string a0] rfl T2_ ?_; (with_reducible refine (rat_Neg.calls a0 t175 t176 _ (Err.Gs.below HGs.out T1_) A9.out).mono ?_); rintro e w24 ⟨rfl, hb⟩; refine ⟨_, rfl, ?_⟩; replace HO166 := Aside0.mk (Kd.R_below (K1_ HO166) hb); replace HB := Aside0.mk (below_step T1_ hb); clear hb) | ((with_reducible refine gate_callee (f := 21) rfl ?_); refine goesL_ (some 51) rfl rfl Tryd.func21 (by kernel_rfl) rfl #[.string a1] rfl T2_ ?_; (with_reducible refine (rat_Neg.calls a1 t177 t178 _ (Err.Gs.below HGs.out T1_) A10.out).mono ?_); rintro e w25 ⟨rfl, hb⟩; refine ⟨_, rfl, ?_⟩; replace HO166 := Aside0.mk (Kd.R_below (K1_ HO166) hb); replace HB := Aside0.mk (below_step T1_ hb); clear hb) | ((with_reducible refine gate_callee (f := 23) rfl ?_); refine goesL_ (some 57) rfl rfl Tryd.func23 (by kernel_rfl) rfl #[.string t175, .string t177] rfl T2_ ?_; (with_reducible refine (rat_Compare.calls t175 t177 t179 t180 _ (Err.Gs.below HGs.out T1_) A11.out).mono ?_); rintro e w26 ⟨rfl, hb⟩; refine ⟨_, rfl, ?_⟩; replace HO166 := Aside0.mk (Kd.R_below (K1_ HO166) hb); replace HB := Aside0.mk (below_step T1_ hb); clear hb) | (go_at_call 13; (with_reducible refine (tapewrightlaw03_awake.calls  t181 _ (Err.Gs.below HGs.out T1_) A16.out).mono ?_); rintro e w27 ⟨rfl, hb⟩; replace HO166 := Aside0.mk (Kd.R_below (K1_ HO166) hb); replace HB := Aside0.mk (below_step T1_ hb); clear hb))
      go_ret
      exact ⟨T4_, T1_⟩
     ·
      rw [if_neg c15] at H
      have c15b0 : (t180 == 0) = false := beq_eq_false_iff_ne.mpr c15
      have c15b1 : (t180 != 0) = true := bne_iff_ne.mpr c15
      exact absurd ((Option.some.inj H).trans HRT.out) (by decide)
    ·
     rw [if_neg c14] at H
     have c14b0 : (t174 == 0) = false := beq_eq_false_iff_ne.mpr c14
     have c14b1 : (t174 != 0) = true := bne_iff_ne.mpr c14
     exact absurd ((Option.some.inj H).trans HRT.out) (by decide)
   ·
    rw [if_neg c13] at H
    have c13b0 : (t179 == (wrap64 (-t169))) = false := beq_eq_false_iff_ne.mpr c13
    have c13b1 : (t179 != (wrap64 (-t169))) = true := bne_iff_ne.mpr c13
    exact absurd ((Option.some.inj H).trans HRT.out) (by decide)
  ·
   rw [if_neg c12] at H
   have c12b0 : decide (0 < t169) = false := decide_eq_false c12
   clear c12
   by_cases c28 : t171 > 0
   ·
    rw [if_pos c28] at H
    have c28b0 : decide (0 < t171) = true := decide_eq_true c28
    clear c28
    by_cases c29 : t179 = (wrap64 (-t169))
    ·
     rw [if_pos c29] at H
     have c29b0 : (t179 == (wrap64 (-t169))) = true := beq_iff_eq.mpr c29
     have c29b1 : (t179 != (wrap64 (-t169))) = false := bne_eq_false_iff_eq.mpr c29
     clear c29
     by_cases c30 : t174 = 0
     ·
      rw [if_pos c30] at H
      have c30b0 : (t174 == 0) = true := beq_iff_eq.mpr c30
      have c30b1 : (t174 != 0) = false := bne_eq_false_iff_eq.mpr c30
      clear c30
      by_cases c31 : t180 = 0
      ·
       rw [if_pos c31] at H
       have c31b0 : (t180 == 0) = true := beq_iff_eq.mpr c31
       have c31b1 : (t180 != 0) = false := bne_eq_false_iff_eq.mpr c31
       clear c31
       replace H := Option.bind_eq_some_iff.mp H
       obtain ⟨t182, A320, H⟩ := H
       replace H : (some t182) = some r := H
       have A32 := Aside0.mk A320
       clear A320
       obtain rfl := Option.some.inj H
       go_enter Tryd.func10, Tryd.ntmps10
       go_wp2_with (first | ((with_reducible refine gate_dst (N := 22) rfl ?_); refine Kd.R_lit Kd.string _ 9 ?hg (N := 22) ?hd (xs := ([a0, a1, a2] : List ByteArray)) (inner := [.string a0, .string a1, .string a2]) (ok := fun _ => True) (okp := fun _ => True) ?hr ?hp (fun _ hk => hk) trivial (Below.refl _ _) (Nat.le_refl _) (by simp) ?_; (case hd => rfl); (case hg => rfl); (case hr => exact T3_); (case hp => exact (Reps.one (show Kd.M Kd.string _ _ _ a0 [.string a0] from rfl) (Reps.one (show Kd.M Kd.string _ _ _ a1 [.string a1] from rfl) (Reps.one (show Kd.M Kd.string _ _ _ a2 [.string a2] from rfl) (Reps.none _ _))))); intro v165 w33 ho34 hb hg_ hnew_; clear hg_ hnew_; (first | rw [← Ny164.out] at ho34 | (simp only [Int.reduceToNat] at ho34; rw [← Ny164.out] at ho34)); have HO166 := Aside0.mk (Kd.R_lower ho34 (below_size T1_)); replace HB := Aside0.mk (below_step T1_ hb); clear hb ho34; obtain ⟨Ao35, co35, eo35⟩ := Kd.R_slice HO166.out; subst eo35) | ((with_reducible refine gate_callee (f := 12) rfl ?_); refine goesL_ (some 23) rfl rfl Tryd.func12 (by kernel_rfl) rfl #[.slice Ao35 y164.length co35] rfl T2_ ?_; (with_reducible refine (tapewrightlaw03_right.calls k _ _ y164 true _ (Err.Gs.below HGs.out T1_) ?side1 ?side2 A4.out).mono ?_); (case side1 => exact C1_ (Kd.R_reads' HO166.out).2.2); (case side2 => exact (Kd.R_reads' HO166.out).2.1); rintro e w36 ⟨rfl, hb⟩; refine ⟨_, rfl, ?_⟩; replace HO166 := Aside0.mk (Kd.R_below (K1_ HO166) hb); replace HB := Aside0.mk (below_step T1_ hb); clear hb) | ((with_reducible refine gate_callee (f := 23) rfl ?_); refine goesL_ (some 29) rfl rfl Tryd.func23 (by kernel_rfl) rfl #[.string a0, .string a1] rfl T2_ ?_; (with_reducible refine (rat_Compare.calls a0 a1 t169 t170 _ (Err.Gs.below HGs.out T1_) A6.out).mono ?_); rintro e w37 ⟨rfl, hb⟩; refine ⟨_, rfl, ?_⟩; replace HO166 := Aside0.mk (Kd.R_below (K1_ HO166) hb); replace HB := Aside0.mk (below_step T1_ hb); clear hb) | ((with_reducible refine gate_callee (f := 23) rfl ?_); refine goesL_ (some 35) rfl rfl Tryd.func23 (by kernel_rfl) rfl #[.string a1, .string a2] rfl T2_ ?_; (with_reducible refine (rat_Compare.calls a1 a2 t171 t172 _ (Err.Gs.below HGs.out T1_) A7.out).mono ?_); rintro e w38 ⟨rfl, hb⟩; refine ⟨_, rfl, ?_⟩; replace HO166 := Aside0.mk (Kd.R_below (K1_ HO166) hb); replace HB := Aside0.mk (below_step T1_ hb); clear hb) | ((with_reducible refine gate_callee (f := 23) rfl ?_); refine goesL_ (some 41) rfl rfl Tryd.func23 (by kernel_rfl) rfl #[.string a0, .string a2] rfl T2_ ?_; (with_reducible refine (rat_Compare.calls a0 a2 t173 t174 _ (Err.Gs.below HGs.out T1_) A8.out).mono ?_); rintro e w39 ⟨rfl, hb⟩; refine ⟨_, rfl, ?_⟩; replace HO166 := Aside0.mk (Kd.R_below (K1_ HO166) hb); replace HB := Aside0.mk (below_step T1_ hb); clear hb) | ((with_reducible refine gate_callee (f := 21) rfl ?_); refine goesL_ (some 46) rfl rfl Tryd.func21 (by kernel_rfl) rfl #[.string a0] rfl T2_ ?_; (with_reducible refine (rat_Neg.calls a0 t175 t176 _ (Err.Gs.below HGs.out T1_) A9.out).mono ?_); rintro e w40 ⟨rfl, hb⟩; refine ⟨_, rfl, ?_⟩; replace HO166 := Aside0.mk (Kd.R_below (K1_ HO166) hb); replace HB := Aside0.mk (below_step T1_ hb); clear hb) | ((with_reducible refine gate_callee (f := 21) rfl ?_); refine goesL_ (some 51) rfl rfl Tryd.func21 (by kernel_rfl) rfl #[.string a1] rfl T2_ ?_; (with_reducible refine (rat_Neg.calls a1 t177 t178 _ (Err.Gs.below HGs.out T1_) A10.out).mono ?_); rintro e w41 ⟨rfl, hb⟩; refine ⟨_, rfl, ?_⟩; replace HO166 := Aside0.mk (Kd.R_below (K1_ HO166) hb); replace HB := Aside0.mk (below_step T1_ hb); clear hb) | ((with_reducible refine gate_callee (f := 23) rfl ?_); refine goesL_ (some 57) rfl rfl Tryd.func23 (by kernel_rfl) rfl #[.string t175, .string t177] rfl T2_ ?_; (with_reducible refine (rat_Compare.calls t175 t177 t179 t180 _ (Err.Gs.below HGs.out T1_) A11.out).mono ?_); rintro e w42 ⟨rfl, hb⟩; refine ⟨_, rfl, ?_⟩; replace HO166 := Aside0.mk (Kd.R_below (K1_ HO166) hb); replace HB := Aside0.mk (below_step T1_ hb); clear hb) | (go_at_call 13; (with_reducible refine (tapewrightlaw03_awake.calls  t182 _ (Err.Gs.below HGs.out T1_) A32.out).mono ?_); rintro e w43 ⟨rfl, hb⟩; replace HO166 := Aside0.mk (Kd.R_below (K1_ HO166) hb); replace HB := Aside0.mk (below_step T1_ hb); clear hb))
       go_ret
       exact ⟨T4_, T1_⟩
      ·
       rw [if_neg c31] at H
       have c31b0 : (t180 == 0) = false := beq_eq_false_iff_ne.mpr c31
       have c31b1 : (t180 != 0) = true := bne_iff_ne.mpr c31
       exact absurd ((Option.some.inj H).trans HRT.out) (by decide)
     ·
      rw [if_neg c30] at H
      have c30b0 : (t174 == 0) = false := beq_eq_false_iff_ne.mpr c30
      have c30b1 : (t174 != 0) = true := bne_iff_ne.mpr c30
      exact absurd ((Option.some.inj H).trans HRT.out) (by decide)
    ·
     rw [if_neg c29] at H
     have c29b0 : (t179 == (wrap64 (-t169))) = false := beq_eq_false_iff_ne.mpr c29
     have c29b1 : (t179 != (wrap64 (-t169))) = true := bne_iff_ne.mpr c29
     exact absurd ((Option.some.inj H).trans HRT.out) (by decide)
   ·
    rw [if_neg c28] at H
    have c28b0 : decide (0 < t171) = false := decide_eq_false c28
    clear c28
    by_cases c44 : t173 ≤ 0
    ·
     rw [if_pos c44] at H
     have c44b0 : decide (t173 ≤ 0) = true := decide_eq_true c44
     clear c44
     by_cases c45 : t179 = (wrap64 (-t169))
     ·
      rw [if_pos c45] at H
      have c45b0 : (t179 == (wrap64 (-t169))) = true := beq_iff_eq.mpr c45
      have c45b1 : (t179 != (wrap64 (-t169))) = false := bne_eq_false_iff_eq.mpr c45
      clear c45
      by_cases c46 : t174 = 0
      ·
       rw [if_pos c46] at H
       have c46b0 : (t174 == 0) = true := beq_iff_eq.mpr c46
       have c46b1 : (t174 != 0) = false := bne_eq_false_iff_eq.mpr c46
       clear c46
       by_cases c47 : t180 = 0
       ·
        rw [if_pos c47] at H
        have c47b0 : (t180 == 0) = true := beq_iff_eq.mpr c47
        have c47b1 : (t180 != 0) = false := bne_eq_false_iff_eq.mpr c47
        clear c47
        replace H := Option.bind_eq_some_iff.mp H
        obtain ⟨t183, A480, H⟩ := H
        replace H : (some t183) = some r := H
        have A48 := Aside0.mk A480
        clear A480
        obtain rfl := Option.some.inj H
        go_enter Tryd.func10, Tryd.ntmps10
        go_wp2_with (first | ((with_reducible refine gate_dst (N := 22) rfl ?_); refine Kd.R_lit Kd.string _ 9 ?hg (N := 22) ?hd (xs := ([a0, a1, a2] : List ByteArray)) (inner := [.string a0, .string a1, .string a2]) (ok := fun _ => True) (okp := fun _ => True) ?hr ?hp (fun _ hk => hk) trivial (Below.refl _ _) (Nat.le_refl _) (by simp) ?_; (case hd => rfl); (case hg => rfl); (case hr => exact T3_); (case hp => exact (Reps.one (show Kd.M Kd.string _ _ _ a0 [.string a0] from rfl) (Reps.one (show Kd.M Kd.string _ _ _ a1 [.string a1] from rfl) (Reps.one (show Kd.M Kd.string _ _ _ a2 [.string a2] from rfl) (Reps.none _ _))))); intro v165 w49 ho50 hb hg_ hnew_; clear hg_ hnew_; (first | rw [← Ny164.out] at ho50 | (simp only [Int.reduceToNat] at ho50; rw [← Ny164.out] at ho50)); have HO166 := Aside0.mk (Kd.R_lower ho50 (below_size T1_)); replace HB := Aside0.mk (below_step T1_ hb); clear hb ho50; obtain ⟨Ao51, co51, eo51⟩ := Kd.R_slice HO166.out; subst eo51) | ((with_reducible refine gate_callee (f := 12) rfl ?_); refine goesL_ (some 23) rfl rfl Tryd.func12 (by kernel_rfl) rfl #[.slice Ao51 y164.length co51] rfl T2_ ?_; (with_reducible refine (tapewrightlaw03_right.calls k _ _ y164 true _ (Err.Gs.below HGs.out T1_) ?side1 ?side2 A4.out).mono ?_); (case side1 => exact C1_ (Kd.R_reads' HO166.out).2.2); (case side2 => exact (Kd.R_reads' HO166.out).2.1); rintro e w52 ⟨rfl, hb⟩; refine ⟨_, rfl, ?_⟩; replace HO166 := Aside0.mk (Kd.R_below (K1_ HO166) hb); replace HB := Aside0.mk (below_step T1_ hb); clear hb) | ((with_reducible refine gate_callee (f := 23) rfl ?_); refine goesL_ (some 29) rfl rfl Tryd.func23 (by kernel_rfl) rfl #[.string a0, .string a1] rfl T2_ ?_; (with_reducible refine (rat_Compare.calls a0 a1 t169 t170 _ (Err.Gs.below HGs.out T1_) A6.out).mono ?_); rintro e w53 ⟨rfl, hb⟩; refine ⟨_, rfl, ?_⟩; replace HO166 := Aside0.mk (Kd.R_below (K1_ HO166) hb); replace HB := Aside0.mk (below_step T1_ hb); clear hb) | ((with_reducible refine gate_callee (f := 23) rfl ?_); refine goesL_ (some 35) rfl rfl Tryd.func23 (by kernel_rfl) rfl #[.string a1, .string a2] rfl T2_ ?_; (with_reducible refine (rat_Compare.calls a1 a2 t171 t172 _ (Err.Gs.below HGs.out T1_) A7.out).mono ?_); rintro e w54 ⟨rfl, hb⟩; refine ⟨_, rfl, ?_⟩; replace HO166 := Aside0.mk (Kd.R_below (K1_ HO166) hb); replace HB := Aside0.mk (below_step T1_ hb); clear hb) | ((with_reducible refine gate_callee (f := 23) rfl ?_); refine goesL_ (some 41) rfl rfl Tryd.func23 (by kernel_rfl) rfl #[.string a0, .string a2] rfl T2_ ?_; (with_reducible refine (rat_Compare.calls a0 a2 t173 t174 _ (Err.Gs.below HGs.out T1_) A8.out).mono ?_); rintro e w55 ⟨rfl, hb⟩; refine ⟨_, rfl, ?_⟩; replace HO166 := Aside0.mk (Kd.R_below (K1_ HO166) hb); replace HB := Aside0.mk (below_step T1_ hb); clear hb) | ((with_reducible refine gate_callee (f := 21) rfl ?_); refine goesL_ (some 46) rfl rfl Tryd.func21 (by kernel_rfl) rfl #[.string a0] rfl T2_ ?_; (with_reducible refine (rat_Neg.calls a0 t175 t176 _ (Err.Gs.below HGs.out T1_) A9.out).mono ?_); rintro e w56 ⟨rfl, hb⟩; refine ⟨_, rfl, ?_⟩; replace HO166 := Aside0.mk (Kd.R_below (K1_ HO166) hb); replace HB := Aside0.mk (below_step T1_ hb); clear hb) | ((with_reducible refine gate_callee (f := 21) rfl ?_); refine goesL_ (some 51) rfl rfl Tryd.func21 (by kernel_rfl) rfl #[.string a1] rfl T2_ ?_; (with_reducible refine (rat_Neg.calls a1 t177 t178 _ (Err.Gs.below HGs.out T1_) A10.out).mono ?_); rintro e w57 ⟨rfl, hb⟩; refine ⟨_, rfl, ?_⟩; replace HO166 := Aside0.mk (Kd.R_below (K1_ HO166) hb); replace HB := Aside0.mk (below_step T1_ hb); clear hb) | ((with_reducible refine gate_callee (f := 23) rfl ?_); refine goesL_ (some 57) rfl rfl Tryd.func23 (by kernel_rfl) rfl #[.string t175, .string t177] rfl T2_ ?_; (with_reducible refine (rat_Compare.calls t175 t177 t179 t180 _ (Err.Gs.below HGs.out T1_) A11.out).mono ?_); rintro e w58 ⟨rfl, hb⟩; refine ⟨_, rfl, ?_⟩; replace HO166 := Aside0.mk (Kd.R_below (K1_ HO166) hb); replace HB := Aside0.mk (below_step T1_ hb); clear hb) | (go_at_call 13; (with_reducible refine (tapewrightlaw03_awake.calls  t183 _ (Err.Gs.below HGs.out T1_) A48.out).mono ?_); rintro e w59 ⟨rfl, hb⟩; replace HO166 := Aside0.mk (Kd.R_below (K1_ HO166) hb); replace HB := Aside0.mk (below_step T1_ hb); clear hb))
        go_ret
        exact ⟨T4_, T1_⟩
       ·
        rw [if_neg c47] at H
        have c47b0 : (t180 == 0) = false := beq_eq_false_iff_ne.mpr c47
        have c47b1 : (t180 != 0) = true := bne_iff_ne.mpr c47
        exact absurd ((Option.some.inj H).trans HRT.out) (by decide)
      ·
       rw [if_neg c46] at H
       have c46b0 : (t174 == 0) = false := beq_eq_false_iff_ne.mpr c46
       have c46b1 : (t174 != 0) = true := bne_iff_ne.mpr c46
       exact absurd ((Option.some.inj H).trans HRT.out) (by decide)
     ·
      rw [if_neg c45] at H
      have c45b0 : (t179 == (wrap64 (-t169))) = false := beq_eq_false_iff_ne.mpr c45
      have c45b1 : (t179 != (wrap64 (-t169))) = true := bne_iff_ne.mpr c45
      exact absurd ((Option.some.inj H).trans HRT.out) (by decide)
    ·
     rw [if_neg c44] at H
     have c44b0 : decide (t173 ≤ 0) = false := decide_eq_false c44
     clear c44
     exact absurd ((Option.some.inj H).trans HRT.out) (by decide)
 ·
  replace c5 := Bool.eq_false_iff.mpr c5
  subst c5
  have H1 : ((tapewrightlaw03_awake.f).bind fun t168 => (some t168)) = some r := by rw [if_neg (show ¬ (false = true) by decide)] at H; exact H
  clear H
  have H := H1
  clear H1
  replace H := Option.bind_eq_some_iff.mp H
  obtain ⟨t168, A600, H⟩ := H
  replace H : (some t168) = some r := H
  have A60 := Aside0.mk A600
  clear A600
  obtain rfl := Option.some.inj H
  go_enter Tryd.func10, Tryd.ntmps10
  go_wp2_with (first | ((with_reducible refine gate_dst (N := 22) rfl ?_); refine Kd.R_lit Kd.string _ 9 ?hg (N := 22) ?hd (xs := ([a0, a1, a2] : List ByteArray)) (inner := [.string a0, .string a1, .string a2]) (ok := fun _ => True) (okp := fun _ => True) ?hr ?hp (fun _ hk => hk) trivial (Below.refl _ _) (Nat.le_refl _) (by simp) ?_; (case hd => rfl); (case hg => rfl); (case hr => exact T3_); (case hp => exact (Reps.one (show Kd.M Kd.string _ _ _ a0 [.string a0] from rfl) (Reps.one (show Kd.M Kd.string _ _ _ a1 [.string a1] from rfl) (Reps.one (show Kd.M Kd.string _ _ _ a2 [.string a2] from rfl) (Reps.none _ _))))); intro v165 w61 ho62 hb hg_ hnew_; clear hg_ hnew_; (first | rw [← Ny164.out] at ho62 | (simp only [Int.reduceToNat] at ho62; rw [← Ny164.out] at ho62)); have HO166 := Aside0.mk (Kd.R_lower ho62 (below_size T1_)); replace HB := Aside0.mk (below_step T1_ hb); clear hb ho62; obtain ⟨Ao63, co63, eo63⟩ := Kd.R_slice HO166.out; subst eo63) | ((with_reducible refine gate_callee (f := 12) rfl ?_); refine goesL_ (some 23) rfl rfl Tryd.func12 (by kernel_rfl) rfl #[.slice Ao63 y164.length co63] rfl T2_ ?_; (with_reducible refine (tapewrightlaw03_right.calls k _ _ y164 false _ (Err.Gs.below HGs.out T1_) ?side1 ?side2 A4.out).mono ?_); (case side1 => exact C1_ (Kd.R_reads' HO166.out).2.2); (case side2 => exact (Kd.R_reads' HO166.out).2.1); rintro e w64 ⟨rfl, hb⟩; refine ⟨_, rfl, ?_⟩; replace HO166 := Aside0.mk (Kd.R_below (K1_ HO166) hb); replace HB := Aside0.mk (below_step T1_ hb); clear hb) | ((with_reducible refine gate_callee (f := 13) rfl ?_); refine goesL_ (some 25) rfl rfl Tryd.func13 (by kernel_rfl) rfl #[] rfl T2_ ?_; (with_reducible refine (tapewrightlaw03_awake.calls  t168 _ (Err.Gs.below HGs.out T1_) A60.out).mono ?_); rintro e w65 ⟨rfl, hb⟩; refine ⟨_, rfl, ?_⟩; replace HO166 := Aside0.mk (Kd.R_below (K1_ HO166) hb); replace HB := Aside0.mk (below_step T1_ hb); clear hb))
  go_ret
  exact ⟨T4_, T1_⟩

/-- THE ONE PURE STATEMENT of tapewrightlaw03_RatOrder: yours. -/
def tapewrightlaw03_RatOrder.Pure : Prop := ∀ (a0 : ByteArray) (a1 : ByteArray) (a2 : ByteArray), a0.size ≤ 140737488351232 → a1.size ≤ 140737488351232 → a2.size ≤ 140737488351232 → ∃ k, tapewrightlaw03_RatOrder.f k a0 a1 a2 = some true
theorem tapewrightlaw03_RatOrder.walk (P : tapewrightlaw03_RatOrder.Pure) (a0 : ByteArray) (a1 : ByteArray) (a2 : ByteArray) (w : World) (hG : Err.Gs w) (w0 : a0.size ≤ 140737488351232) (w1 : a1.size ≤ 140737488351232) (w2 : a2.size ≤ 140737488351232) :
  Calls Tryd.prog 10 #[.string a0, .string a1, .string a2] w fun e w' => e = .returned (.bool true) ∧ Below w.heap.size w w' := by
 obtain ⟨k, h⟩ := P a0 a1 a2 w0 w1 w2
 refine (tapewrightlaw03_RatOrder.calls k a0 a1 a2 true w hG rfl h).mono ?_
 rintro e w' ⟨rfl, hd⟩
 exact ⟨rfl, hd⟩

/-! ### rat_Sign: function 22 -/
noncomputable def rat_Sign.f (a0 : ByteArray) : Option (Int × Int) := if a0.size ≤ 40000000000 then some (Err.rSign a0) else none
theorem rat_Sign.calls (a0 : ByteArray) (r1 : Int) (r2 : Int) (w : World) (hG : Err.Gs w) (h : rat_Sign.f a0 = some (r1, r2)) :
  Calls Tryd.prog 22 #[.string a0] w fun e w' => e = .returned (.tuple #[.int .i64 r1, .int .i64 r2]) ∧ Below w.heap.size w w' := by
 unfold rat_Sign.f at h
 by_cases c : a0.size ≤ 40000000000
 ·
  rw [if_pos c] at h
  injection h with h
  have := Err.sign_calls a0 c w hG
  rw [h] at this
  exact this
 ·
  rw [if_neg c] at h
  cases h
theorem rat_Sign.of (a0 : ByteArray) (h : a0.size ≤ 40000000000) : rat_Sign.f a0 = some (Err.rSign a0) := by rw [rat_Sign.f, if_pos h]
theorem rat_Sign.rt {x : Rat} (hx : Err.Fr x) : rat_Sign.f (Err.rt x) = some (Th.Wh.sgn x.num, 0) := by
 rw [rat_Sign.of _ hx.size, Err.rSign, Err.rv_rt]

end Go.Proofs.YtfjlmiehbikmnaaDoor.PQ
