-- by wip/tool/mine.py of this repo (the kit's printer with given contracts)
import Derived.Test.YtfjlmiehbikmnaaDoorPQx0
import Derived.Test.YtfjlmiehbikmnaaDoorPQx1
import Derived.Test.YtfjlmiehbikmnaaDoorPQx2
namespace Go.Proofs.YtfjlmiehbikmnaaDoor.PQ
open Go.RowKit Go.Proofs.YtfjlmiehbikmnaaDoorW.PrintWords Go.Proofs.YtfjlmiehbikmnaaDoorW.PrintLast Go.Proofs.YtfjlmiehbikmnaaDoorW.PrintMore
attribute [local go_sem] max2_int min2_int max_two min_two max_three min_three max_four min_four   -- for this text's walks alone
set_option linter.unusedVariables false
set_option linter.unusedSimpArgs false

/-! ### tapewrightlaw03_RatQuos: function 4 -/
noncomputable def tapewrightlaw03_RatQuos.j0 : Nat → ByteArray → ByteArray → ByteArray → Bool → Option (Bool)
 | 0, _, _, _, _ => none
 | k + 1, x0, x1, x2, x43 => if x43 = true then ((tapewrightlaw03_awake.f).bind fun t265 => (some t265)) else ((rat_Quo.f x1 x2).bind fun bt266 => ((rat_Quo.f x0 bt266.1).bind fun bt268 => ((rat_Mul.f x0 x2).bind fun bt270 => ((rat_Quo.f bt270.1 x1).bind fun bt272 => ((rat_Quo.f (⟨#[49]⟩ : ByteArray) x1).bind fun bt274 => ((rat_Quo.f (⟨#[49]⟩ : ByteArray) bt274.1).bind fun bt276 => (if bt268.1.toList = bt272.1.toList then (if bt276.1.toList = x1.toList then (if bt268.2 = 0 then (if bt272.2 = 0 then (if bt276.2 = 0 then ((tapewrightlaw03_awake.f).bind fun t278 => (some t278)) else (some false)) else (some false)) else (some false)) else (some false)) else (some false))))))))
noncomputable def tapewrightlaw03_RatQuos.f (k : Nat) (a0 : ByteArray) (a1 : ByteArray) (a2 : ByteArray) : Option (Bool) := (tapewrightlaw03_right.f k (([a0, a1, a2] : List ByteArray))).bind fun t264 => (if t264 = true then (if (wrap64 ((wrap64 ((a0.size : Int) + (a1.size : Int))) + (a2.size : Int))) > 120 then (tapewrightlaw03_RatQuos.j0 k a0 a1 a2 true) else (if a1.toList = ([48] : List UInt8) then (tapewrightlaw03_RatQuos.j0 k a0 a1 a2 true) else (tapewrightlaw03_RatQuos.j0 k a0 a1 a2 (a2.toList == ([48] : List UInt8))))) else (tapewrightlaw03_RatQuos.j0 k a0 a1 a2 true))
set_option maxHeartbeats 8000000 in
set_option maxRecDepth 100000 in
theorem tapewrightlaw03_RatQuos.calls (k : Nat) (a0 : ByteArray) (a1 : ByteArray) (a2 : ByteArray) (r : Bool) (w : World) (hG : Err.Gs w) (hrt : r = true) (h : tapewrightlaw03_RatQuos.f k a0 a1 a2 = some r) :
  Calls Tryd.prog 4 #[.string a0, .string a1, .string a2] w fun e w' => e = .returned (.bool r) ∧ Below w.heap.size w w' := by
 have HB := Aside0.mk (Below.refl w.heap.size w)
 have HGs := Aside0.mk hG
 clear hG
 have HRT := Aside0.mk hrt
 clear hrt
 have H : ((tapewrightlaw03_right.f k (([a0, a1, a2] : List ByteArray))).bind fun t264 => (if t264 = true then (if (wrap64 ((wrap64 ((a0.size : Int) + (a1.size : Int))) + (a2.size : Int))) > 120 then (tapewrightlaw03_RatQuos.j0 k a0 a1 a2 true) else (if a1.toList = ([48] : List UInt8) then (tapewrightlaw03_RatQuos.j0 k a0 a1 a2 true) else (tapewrightlaw03_RatQuos.j0 k a0 a1 a2 (a2.toList == ([48] : List UInt8))))) else (tapewrightlaw03_RatQuos.j0 k a0 a1 a2 true))) = some r := h
 clear h
 have HC4 := Aside0.mk H
 clear H
 go_enter Tryd.func4, Tryd.ntmps4
 go_upto_region 1 with (fail)
 go_cut [43] (fun v43 wc => ∃ (kq : Nat) (x43_3 : Bool), v43 = .bool x43_3 ∧ Aside0 (tapewrightlaw03_RatQuos.j0 kq a0 a1 a2 x43_3 = some r) ∧ Aside0 (kq ≤ k) ∧ Aside0 (Below w.heap.size w wc))
 case first =>
  have H := HC4.out
  clear HC4
  obtain ⟨y261, hy261⟩ : ∃ y_ : List ByteArray, y_ = (([a0, a1, a2] : List ByteArray)) := ⟨_, rfl⟩
  replace H : ((tapewrightlaw03_right.f k y261).bind fun t264 => (if t264 = true then (if (wrap64 ((wrap64 ((a0.size : Int) + (a1.size : Int))) + (a2.size : Int))) > 120 then (tapewrightlaw03_RatQuos.j0 k a0 a1 a2 true) else (if a1.toList = ([48] : List UInt8) then (tapewrightlaw03_RatQuos.j0 k a0 a1 a2 true) else (tapewrightlaw03_RatQuos.j0 k a0 a1 a2 (a2.toList == ([48] : List UInt8))))) else (tapewrightlaw03_RatQuos.j0 k a0 a1 a2 true))) = some r := by first | (rw [hy261]; with_reducible exact H) | (have H2_ := (Option.bind_some _ _).symm.trans H; rw [hy261]; with_reducible exact H2_) | (have H2_ := (Option.bind_some _ _).symm.trans H; with_reducible exact H2_) | with_reducible exact H | (rw [hy261]; exact H) | exact H
  have Ny261 := Aside0.mk hy261
  clear hy261
  replace H := Option.bind_eq_some_iff.mp H
  obtain ⟨t264, A50, H⟩ := H
  replace H : (if t264 = true then (if (wrap64 ((wrap64 ((a0.size : Int) + (a1.size : Int))) + (a2.size : Int))) > 120 then (tapewrightlaw03_RatQuos.j0 k a0 a1 a2 true) else (if a1.toList = ([48] : List UInt8) then (tapewrightlaw03_RatQuos.j0 k a0 a1 a2 true) else (tapewrightlaw03_RatQuos.j0 k a0 a1 a2 (a2.toList == ([48] : List UInt8))))) else (tapewrightlaw03_RatQuos.j0 k a0 a1 a2 true)) = some r := H
  have A5 := Aside0.mk A50
  clear A50
  by_cases c6 : t264 = true
  ·
   subst c6
   have H1 : (if (wrap64 ((wrap64 ((a0.size : Int) + (a1.size : Int))) + (a2.size : Int))) > 120 then (tapewrightlaw03_RatQuos.j0 k a0 a1 a2 true) else (if a1.toList = ([48] : List UInt8) then (tapewrightlaw03_RatQuos.j0 k a0 a1 a2 true) else (tapewrightlaw03_RatQuos.j0 k a0 a1 a2 (a2.toList == ([48] : List UInt8))))) = some r := by rw [if_pos rfl] at H; exact H
   clear H
   have H := H1
   clear H1
   by_cases c7 : (wrap64 ((wrap64 ((a0.size : Int) + (a1.size : Int))) + (a2.size : Int))) > 120
   ·
    rw [if_pos c7] at H
    have c7b0 : decide (120 < (wrap64 ((wrap64 ((a0.size : Int) + (a1.size : Int))) + (a2.size : Int)))) = true := decide_eq_true c7
    clear c7
    (first | rw [c7b0] | (simp only [i64_w, i32_w]; rw [c7b0]) | skip)
    have H' := Aside0.mk H
    clear H
    go_wp2_with (first | ((with_reducible refine gate_dst (N := 22) rfl ?_); (try (refine gate_guard (by rfl) ?_; dsimp only)); refine Kd.R_lit Kd.string _ 9 ?hg (N := 22) ?hd (xs := ([a0, a1, a2] : List ByteArray)) (inner := [.string a0, .string a1, .string a2]) (ok := fun _ => True) (okp := fun _ => True) ?hr ?hp (fun _ hk => hk) trivial (Below.refl _ _) (Nat.le_refl _) (by simp) ?_; (case hd => rfl); (case hg => rfl); (case hr => exact T3_); (case hp => exact (Reps.one (show Kd.M Kd.string _ _ _ a0 [.string a0] from rfl) (Reps.one (show Kd.M Kd.string _ _ _ a1 [.string a1] from rfl) (Reps.one (show Kd.M Kd.string _ _ _ a2 [.string a2] from rfl) (Reps.none _ _))))); intro v262 w8 ho9 hb hg_ hnew_; clear hg_ hnew_; (first | rw [← Ny261.out] at ho9 | (simp only [Int.reduceToNat] at ho9; rw [← Ny261.out] at ho9)); have HO263 := Aside0.mk (Kd.R_lower ho9 (below_size T1_)); replace HB := Aside0.mk (below_step T1_ hb); clear hb ho9; obtain ⟨Ao10, co10, eo10⟩ := Kd.R_slice HO263.out; subst eo10) | ((with_reducible refine gate_callee (f := 12) rfl ?_); refine goesL_ (some 23) rfl rfl Tryd.func12 (by kernel_rfl) rfl #[.slice Ao10 y261.length co10] rfl T2_ ?_; (with_reducible refine (tapewrightlaw03_right.calls k _ _ y261 true _ (Err.Gs.below HGs.out T1_) ?side1 ?side2 A5.out).mono ?_); (case side1 => exact C1_ (Kd.R_reads' HO263.out).2.2); (case side2 => exact (Kd.R_reads' HO263.out).2.1); rintro e w11 ⟨rfl, hb⟩; refine ⟨_, rfl, ?_⟩; replace HO263 := Aside0.mk (Kd.R_below (K1_ HO263) hb); replace HB := Aside0.mk (below_step T1_ hb); clear hb))
    go_meet
    case rel => exact ⟨_, (true), (by first | rfl | (simp; done) | (simp [*]; done)), H', ⟨by first | omega | exact Nat.le_refl _⟩, ⟨by repeat (first | (with_reducible first | exact HB.out | apply below_alloc | apply pw_below_drewN | apply below_drew1) | exact HB.out)⟩⟩
   ·
    rw [if_neg c7] at H
    have c7b0 : decide (120 < (wrap64 ((wrap64 ((a0.size : Int) + (a1.size : Int))) + (a2.size : Int)))) = false := decide_eq_false c7
    clear c7
    (first | rw [c7b0] | (simp only [i64_w, i32_w]; rw [c7b0]) | skip)
    by_cases c12 : a1.toList = ([48] : List UInt8)
    ·
     rw [if_pos c12] at H
     have c12b0 : (a1.toList == ([48] : List UInt8)) = true := beq_iff_eq.mpr c12
     have c12b1 : (a1.toList != ([48] : List UInt8)) = false := bne_eq_false_iff_eq.mpr c12
     clear c12
     have H' := Aside0.mk H
     clear H
     go_wp2_with (first | ((with_reducible refine gate_dst (N := 22) rfl ?_); (try (refine gate_guard (by rfl) ?_; dsimp only)); refine Kd.R_lit Kd.string _ 9 ?hg (N := 22) ?hd (xs := ([a0, a1, a2] : List ByteArray)) (inner := [.string a0, .string a1, .string a2]) (ok := fun _ => True) (okp := fun _ => True) ?hr ?hp (fun _ hk => hk) trivial (Below.refl _ _) (Nat.le_refl _) (by simp) ?_; (case hd => rfl); (case hg => rfl); (case hr => exact T3_); (case hp => exact (Reps.one (show Kd.M Kd.string _ _ _ a0 [.string a0] from rfl) (Reps.one (show Kd.M Kd.string _ _ _ a1 [.string a1] from rfl) (Reps.one (show Kd.M Kd.string _ _ _ a2 [.string a2] from rfl) (Reps.none _ _))))); intro v262 w13 ho14 hb hg_ hnew_; clear hg_ hnew_; (first | rw [← Ny261.out] at ho14 | (simp only [Int.reduceToNat] at ho14; rw [← Ny261.out] at ho14)); have HO263 := Aside0.mk (Kd.R_lower ho14 (below_size T1_)); replace HB := Aside0.mk (below_step T1_ hb); clear hb ho14; obtain ⟨Ao15, co15, eo15⟩ := Kd.R_slice HO263.out; subst eo15) | ((with_reducible refine gate_callee (f := 12) rfl ?_); refine goesL_ (some 23) rfl rfl Tryd.func12 (by kernel_rfl) rfl #[.slice Ao15 y261.length co15] rfl T2_ ?_; (with_reducible refine (tapewrightlaw03_right.calls k _ _ y261 true _ (Err.Gs.below HGs.out T1_) ?side1 ?side2 A5.out).mono ?_); (case side1 => exact C1_ (Kd.R_reads' HO263.out).2.2); (case side2 => exact (Kd.R_reads' HO263.out).2.1); rintro e w16 ⟨rfl, hb⟩; refine ⟨_, rfl, ?_⟩; replace HO263 := Aside0.mk (Kd.R_below (K1_ HO263) hb); replace HB := Aside0.mk (below_step T1_ hb); clear hb))
     go_meet
     case rel => exact ⟨_, (true), (by first | rfl | (simp; done) | (simp [*]; done)), H', ⟨by first | omega | exact Nat.le_refl _⟩, ⟨by repeat (first | (with_reducible first | exact HB.out | apply below_alloc | apply pw_below_drewN | apply below_drew1) | exact HB.out)⟩⟩
    ·
     rw [if_neg c12] at H
     have c12b0 : (a1.toList == ([48] : List UInt8)) = false := beq_eq_false_iff_ne.mpr c12
     have c12b1 : (a1.toList != ([48] : List UInt8)) = true := bne_iff_ne.mpr c12
     have H' := Aside0.mk H
     clear H
     go_wp2_with (first | ((with_reducible refine gate_dst (N := 22) rfl ?_); (try (refine gate_guard (by rfl) ?_; dsimp only)); refine Kd.R_lit Kd.string _ 9 ?hg (N := 22) ?hd (xs := ([a0, a1, a2] : List ByteArray)) (inner := [.string a0, .string a1, .string a2]) (ok := fun _ => True) (okp := fun _ => True) ?hr ?hp (fun _ hk => hk) trivial (Below.refl _ _) (Nat.le_refl _) (by simp) ?_; (case hd => rfl); (case hg => rfl); (case hr => exact T3_); (case hp => exact (Reps.one (show Kd.M Kd.string _ _ _ a0 [.string a0] from rfl) (Reps.one (show Kd.M Kd.string _ _ _ a1 [.string a1] from rfl) (Reps.one (show Kd.M Kd.string _ _ _ a2 [.string a2] from rfl) (Reps.none _ _))))); intro v262 w17 ho18 hb hg_ hnew_; clear hg_ hnew_; (first | rw [← Ny261.out] at ho18 | (simp only [Int.reduceToNat] at ho18; rw [← Ny261.out] at ho18)); have HO263 := Aside0.mk (Kd.R_lower ho18 (below_size T1_)); replace HB := Aside0.mk (below_step T1_ hb); clear hb ho18; obtain ⟨Ao19, co19, eo19⟩ := Kd.R_slice HO263.out; subst eo19) | ((with_reducible refine gate_callee (f := 12) rfl ?_); refine goesL_ (some 23) rfl rfl Tryd.func12 (by kernel_rfl) rfl #[.slice Ao19 y261.length co19] rfl T2_ ?_; (with_reducible refine (tapewrightlaw03_right.calls k _ _ y261 true _ (Err.Gs.below HGs.out T1_) ?side1 ?side2 A5.out).mono ?_); (case side1 => exact C1_ (Kd.R_reads' HO263.out).2.2); (case side2 => exact (Kd.R_reads' HO263.out).2.1); rintro e w20 ⟨rfl, hb⟩; refine ⟨_, rfl, ?_⟩; replace HO263 := Aside0.mk (Kd.R_below (K1_ HO263) hb); replace HB := Aside0.mk (below_step T1_ hb); clear hb))
     go_meet
     case rel => exact ⟨_, ((a2.toList == ([48] : List UInt8))), (by first | rfl | (simp; done) | (simp [*]; done)), H', ⟨by first | omega | exact Nat.le_refl _⟩, ⟨by repeat (first | (with_reducible first | exact HB.out | apply below_alloc | apply pw_below_drewN | apply below_drew1) | exact HB.out)⟩⟩
  ·
   replace c6 := Bool.eq_false_iff.mpr c6
   subst c6
   have H1 : (tapewrightlaw03_RatQuos.j0 k a0 a1 a2 true) = some r := by rw [if_neg (show ¬ (false = true) by decide)] at H; exact H
   clear H
   have H := H1
   clear H1
   have H' := Aside0.mk H
   clear H
   go_wp2_with (first | ((with_reducible refine gate_dst (N := 22) rfl ?_); (try (refine gate_guard (by rfl) ?_; dsimp only)); refine Kd.R_lit Kd.string _ 9 ?hg (N := 22) ?hd (xs := ([a0, a1, a2] : List ByteArray)) (inner := [.string a0, .string a1, .string a2]) (ok := fun _ => True) (okp := fun _ => True) ?hr ?hp (fun _ hk => hk) trivial (Below.refl _ _) (Nat.le_refl _) (by simp) ?_; (case hd => rfl); (case hg => rfl); (case hr => exact T3_); (case hp => exact (Reps.one (show Kd.M Kd.string _ _ _ a0 [.string a0] from rfl) (Reps.one (show Kd.M Kd.string _ _ _ a1 [.string a1] from rfl) (Reps.one (show Kd.M Kd.string _ _ _ a2 [.string a2] from rfl) (Reps.none _ _))))); intro v262 w21 ho22 hb hg_ hnew_; clear hg_ hnew_; (first | rw [← Ny261.out] at ho22 | (simp only [Int.reduceToNat] at ho22; rw [← Ny261.out] at ho22)); have HO263 := Aside0.mk (Kd.R_lower ho22 (below_size T1_)); replace HB := Aside0.mk (below_step T1_ hb); clear hb ho22; obtain ⟨Ao23, co23, eo23⟩ := Kd.R_slice HO263.out; subst eo23) | ((with_reducible refine gate_callee (f := 12) rfl ?_); refine goesL_ (some 23) rfl rfl Tryd.func12 (by kernel_rfl) rfl #[.slice Ao23 y261.length co23] rfl T2_ ?_; (with_reducible refine (tapewrightlaw03_right.calls k _ _ y261 false _ (Err.Gs.below HGs.out T1_) ?side1 ?side2 A5.out).mono ?_); (case side1 => exact C1_ (Kd.R_reads' HO263.out).2.2); (case side2 => exact (Kd.R_reads' HO263.out).2.1); rintro e w24 ⟨rfl, hb⟩; refine ⟨_, rfl, ?_⟩; replace HO263 := Aside0.mk (Kd.R_below (K1_ HO263) hb); replace HB := Aside0.mk (below_step T1_ hb); clear hb))
   go_meet
   case rel => exact ⟨_, (true), (by first | rfl | (simp; done) | (simp [*]; done)), H', ⟨by first | omega | exact Nat.le_refl _⟩, ⟨by repeat (first | (with_reducible first | exact HB.out | apply below_alloc | apply pw_below_drewN | apply below_drew1) | exact HB.out)⟩⟩
 case rest =>
  clear HC4
  try clear c1
  try clear p2
  try clear c4
  try clear c6
  try clear p6
  try clear c7
  try clear c7b0
  try clear c12
  try clear c12b0
  try clear c12b1
  obtain ⟨kq, x43_3, rfl, HA, HJ3, HB⟩ := hcut
  cases kq with
  | zero => exact absurd HA.out (by simp [tapewrightlaw03_RatQuos.j0])
  | succ kj3 =>
   have H := HA.out
   clear HA
   simp only [tapewrightlaw03_RatQuos.j0] at H
   by_cases c25 : x43_3 = true
   ·
    subst c25
    have H1 : ((tapewrightlaw03_awake.f).bind fun t265 => (some t265)) = some r := by rw [if_pos rfl] at H; exact H
    clear H
    have H := H1
    clear H1
    replace H := Option.bind_eq_some_iff.mp H
    obtain ⟨t265, A260, H⟩ := H
    replace H : (some t265) = some r := H
    have A26 := Aside0.mk A260
    clear A260
    obtain rfl := Option.some.inj H
    go_wp2_with (first | ((with_reducible refine gate_callee (f := 13) rfl ?_); refine goesL_ (some 44) rfl rfl Tryd.func13 (by kernel_rfl) rfl #[] rfl T2_ ?_; (with_reducible refine (tapewrightlaw03_awake.calls  t265 _ (Err.Gs.below HGs.out T1_) A26.out).mono ?_); rintro e w27 ⟨rfl, hb⟩; refine ⟨_, rfl, ?_⟩; replace HB := Aside0.mk (below_step T1_ hb); clear hb))
    go_ret
    exact ⟨T4_, T1_⟩
   ·
    replace c25 := Bool.eq_false_iff.mpr c25
    subst c25
    have H1 : ((rat_Quo.f a1 a2).bind fun bt266 => ((rat_Quo.f a0 bt266.1).bind fun bt268 => ((rat_Mul.f a0 a2).bind fun bt270 => ((rat_Quo.f bt270.1 a1).bind fun bt272 => ((rat_Quo.f (⟨#[49]⟩ : ByteArray) a1).bind fun bt274 => ((rat_Quo.f (⟨#[49]⟩ : ByteArray) bt274.1).bind fun bt276 => (if bt268.1.toList = bt272.1.toList then (if bt276.1.toList = a1.toList then (if bt268.2 = 0 then (if bt272.2 = 0 then (if bt276.2 = 0 then ((tapewrightlaw03_awake.f).bind fun t278 => (some t278)) else (some false)) else (some false)) else (some false)) else (some false)) else (some false)))))))) = some r := by rw [if_neg (show ¬ (false = true) by decide)] at H; exact H
    clear H
    have H := H1
    clear H1
    replace H := Option.bind_eq_some_iff.mp H
    obtain ⟨⟨t266, t267⟩, A280, H⟩ := H
    replace H : ((rat_Quo.f a0 t266).bind fun bt268 => ((rat_Mul.f a0 a2).bind fun bt270 => ((rat_Quo.f bt270.1 a1).bind fun bt272 => ((rat_Quo.f (⟨#[49]⟩ : ByteArray) a1).bind fun bt274 => ((rat_Quo.f (⟨#[49]⟩ : ByteArray) bt274.1).bind fun bt276 => (if bt268.1.toList = bt272.1.toList then (if bt276.1.toList = a1.toList then (if bt268.2 = 0 then (if bt272.2 = 0 then (if bt276.2 = 0 then ((tapewrightlaw03_awake.f).bind fun t278 => (some t278)) else (some false)) else (some false)) else (some false)) else (some false)) else (some false))))))) = some r := H
    have A28 := Aside0.mk A280
    clear A280
    replace H := Option.bind_eq_some_iff.mp H
    obtain ⟨⟨t268, t269⟩, A290, H⟩ := H
    replace H : ((rat_Mul.f a0 a2).bind fun bt270 => ((rat_Quo.f bt270.1 a1).bind fun bt272 => ((rat_Quo.f (⟨#[49]⟩ : ByteArray) a1).bind fun bt274 => ((rat_Quo.f (⟨#[49]⟩ : ByteArray) bt274.1).bind fun bt276 => (if t268.toList = bt272.1.toList then (if bt276.1.toList = a1.toList then (if t269 = 0 then (if bt272.2 = 0 then (if bt276.2 = 0 then ((tapewrightlaw03_awake.f).bind fun t278 => (some t278)) else (some false)) else (some false)) else (some false)) else (some false)) else (some false)))))) = some r := H
    have A29 := Aside0.mk A290
    clear A290
    replace H := Option.bind_eq_some_iff.mp H
    obtain ⟨⟨t270, t271⟩, A300, H⟩ := H
    replace H : ((rat_Quo.f t270 a1).bind fun bt272 => ((rat_Quo.f (⟨#[49]⟩ : ByteArray) a1).bind fun bt274 => ((rat_Quo.f (⟨#[49]⟩ : ByteArray) bt274.1).bind fun bt276 => (if t268.toList = bt272.1.toList then (if bt276.1.toList = a1.toList then (if t269 = 0 then (if bt272.2 = 0 then (if bt276.2 = 0 then ((tapewrightlaw03_awake.f).bind fun t278 => (some t278)) else (some false)) else (some false)) else (some false)) else (some false)) else (some false))))) = some r := H
    have A30 := Aside0.mk A300
    clear A300
    replace H := Option.bind_eq_some_iff.mp H
    obtain ⟨⟨t272, t273⟩, A310, H⟩ := H
    replace H : ((rat_Quo.f (⟨#[49]⟩ : ByteArray) a1).bind fun bt274 => ((rat_Quo.f (⟨#[49]⟩ : ByteArray) bt274.1).bind fun bt276 => (if t268.toList = t272.toList then (if bt276.1.toList = a1.toList then (if t269 = 0 then (if t273 = 0 then (if bt276.2 = 0 then ((tapewrightlaw03_awake.f).bind fun t278 => (some t278)) else (some false)) else (some false)) else (some false)) else (some false)) else (some false)))) = some r := H
    have A31 := Aside0.mk A310
    clear A310
    replace H := Option.bind_eq_some_iff.mp H
    obtain ⟨⟨t274, t275⟩, A320, H⟩ := H
    replace H : ((rat_Quo.f (⟨#[49]⟩ : ByteArray) t274).bind fun bt276 => (if t268.toList = t272.toList then (if bt276.1.toList = a1.toList then (if t269 = 0 then (if t273 = 0 then (if bt276.2 = 0 then ((tapewrightlaw03_awake.f).bind fun t278 => (some t278)) else (some false)) else (some false)) else (some false)) else (some false)) else (some false))) = some r := H
    have A32 := Aside0.mk A320
    clear A320
    replace H := Option.bind_eq_some_iff.mp H
    obtain ⟨⟨t276, t277⟩, A330, H⟩ := H
    replace H : (if t268.toList = t272.toList then (if t276.toList = a1.toList then (if t269 = 0 then (if t273 = 0 then (if t277 = 0 then ((tapewrightlaw03_awake.f).bind fun t278 => (some t278)) else (some false)) else (some false)) else (some false)) else (some false)) else (some false)) = some r := H
    have A33 := Aside0.mk A330
    clear A330
    by_cases c34 : t268.toList = t272.toList
    ·
     rw [if_pos c34] at H
     have c34b0 : (t268.toList == t272.toList) = true := beq_iff_eq.mpr c34
     have c34b1 : (t268.toList != t272.toList) = false := bne_eq_false_iff_eq.mpr c34
     clear c34
     by_cases c35 : t276.toList = a1.toList
     ·
      rw [if_pos c35] at H
      have c35b0 : (t276.toList == a1.toList) = true := beq_iff_eq.mpr c35
      have c35b1 : (t276.toList != a1.toList) = false := bne_eq_false_iff_eq.mpr c35
      clear c35
      by_cases c36 : t269 = 0
      ·
       rw [if_pos c36] at H
       have c36b0 : (t269 == 0) = true := beq_iff_eq.mpr c36
       have c36b1 : (t269 != 0) = false := bne_eq_false_iff_eq.mpr c36
       clear c36
       by_cases c37 : t273 = 0
       ·
        rw [if_pos c37] at H
        have c37b0 : (t273 == 0) = true := beq_iff_eq.mpr c37
        have c37b1 : (t273 != 0) = false := bne_eq_false_iff_eq.mpr c37
        clear c37
        by_cases c38 : t277 = 0
        ·
         rw [if_pos c38] at H
         have c38b0 : (t277 == 0) = true := beq_iff_eq.mpr c38
         have c38b1 : (t277 != 0) = false := bne_eq_false_iff_eq.mpr c38
         clear c38
         replace H := Option.bind_eq_some_iff.mp H
         obtain ⟨t278, A390, H⟩ := H
         replace H : (some t278) = some r := H
         have A39 := Aside0.mk A390
         clear A390
         obtain rfl := Option.some.inj H
         go_wp2_with (first | ((with_reducible refine gate_callee (f := 17) rfl ?_); refine goesL_ (some 48) rfl rfl Tryd.func17 (by kernel_rfl) rfl #[.string a1, .string a2] rfl T2_ ?_; (with_reducible refine (rat_Quo.calls a1 a2 t266 t267 _ (Err.Gs.below HGs.out T1_) A28.out).mono ?_); rintro e w40 ⟨rfl, hb⟩; refine ⟨_, rfl, ?_⟩; replace HB := Aside0.mk (below_step T1_ hb); clear hb) | ((with_reducible refine gate_callee (f := 17) rfl ?_); refine goesL_ (some 54) rfl rfl Tryd.func17 (by kernel_rfl) rfl #[.string a0, .string t266] rfl T2_ ?_; (with_reducible refine (rat_Quo.calls a0 t266 t268 t269 _ (Err.Gs.below HGs.out T1_) A29.out).mono ?_); rintro e w41 ⟨rfl, hb⟩; refine ⟨_, rfl, ?_⟩; replace HB := Aside0.mk (below_step T1_ hb); clear hb) | ((with_reducible refine gate_callee (f := 18) rfl ?_); refine goesL_ (some 60) rfl rfl Tryd.func18 (by kernel_rfl) rfl #[.string a0, .string a2] rfl T2_ ?_; (with_reducible refine (rat_Mul.calls a0 a2 t270 t271 _ (Err.Gs.below HGs.out T1_) A30.out).mono ?_); rintro e w42 ⟨rfl, hb⟩; refine ⟨_, rfl, ?_⟩; replace HB := Aside0.mk (below_step T1_ hb); clear hb) | ((with_reducible refine gate_callee (f := 17) rfl ?_); refine goesL_ (some 66) rfl rfl Tryd.func17 (by kernel_rfl) rfl #[.string t270, .string a1] rfl T2_ ?_; (with_reducible refine (rat_Quo.calls t270 a1 t272 t273 _ (Err.Gs.below HGs.out T1_) A31.out).mono ?_); rintro e w43 ⟨rfl, hb⟩; refine ⟨_, rfl, ?_⟩; replace HB := Aside0.mk (below_step T1_ hb); clear hb) | ((with_reducible refine gate_callee (f := 17) rfl ?_); refine goesL_ (some 71) rfl rfl Tryd.func17 (by kernel_rfl) rfl #[.string (⟨#[49]⟩ : ByteArray), .string a1] rfl T2_ ?_; (with_reducible refine (rat_Quo.calls (⟨#[49]⟩ : ByteArray) a1 t274 t275 _ (Err.Gs.below HGs.out T1_) A32.out).mono ?_); rintro e w44 ⟨rfl, hb⟩; refine ⟨_, rfl, ?_⟩; replace HB := Aside0.mk (below_step T1_ hb); clear hb) | ((with_reducible refine gate_callee (f := 17) rfl ?_); refine goesL_ (some 76) rfl rfl Tryd.func17 (by kernel_rfl) rfl #[.string (⟨#[49]⟩ : ByteArray), .string t274] rfl T2_ ?_; (with_reducible refine (rat_Quo.calls (⟨#[49]⟩ : ByteArray) t274 t276 t277 _ (Err.Gs.below HGs.out T1_) A33.out).mono ?_); rintro e w45 ⟨rfl, hb⟩; refine ⟨_, rfl, ?_⟩; replace HB := Aside0.mk (below_step T1_ hb); clear hb) | (go_at_call 13; (with_reducible refine (tapewrightlaw03_awake.calls  t278 _ (Err.Gs.below HGs.out T1_) A39.out).mono ?_); rintro e w46 ⟨rfl, hb⟩; replace HB := Aside0.mk (below_step T1_ hb); clear hb))
         go_ret
         exact ⟨T4_, T1_⟩
        ·
         rw [if_neg c38] at H
         have c38b0 : (t277 == 0) = false := beq_eq_false_iff_ne.mpr c38
         have c38b1 : (t277 != 0) = true := bne_iff_ne.mpr c38
         exact absurd ((Option.some.inj H).trans HRT.out) (by decide)
       ·
        rw [if_neg c37] at H
        have c37b0 : (t273 == 0) = false := beq_eq_false_iff_ne.mpr c37
        have c37b1 : (t273 != 0) = true := bne_iff_ne.mpr c37
        exact absurd ((Option.some.inj H).trans HRT.out) (by decide)
      ·
       rw [if_neg c36] at H
       have c36b0 : (t269 == 0) = false := beq_eq_false_iff_ne.mpr c36
       have c36b1 : (t269 != 0) = true := bne_iff_ne.mpr c36
       exact absurd ((Option.some.inj H).trans HRT.out) (by decide)
     ·
      rw [if_neg c35] at H
      have c35b0 : (t276.toList == a1.toList) = false := beq_eq_false_iff_ne.mpr c35
      have c35b1 : (t276.toList != a1.toList) = true := bne_iff_ne.mpr c35
      exact absurd ((Option.some.inj H).trans HRT.out) (by decide)
    ·
     rw [if_neg c34] at H
     have c34b0 : (t268.toList == t272.toList) = false := beq_eq_false_iff_ne.mpr c34
     have c34b1 : (t268.toList != t272.toList) = true := bne_iff_ne.mpr c34
     exact absurd ((Option.some.inj H).trans HRT.out) (by decide)

/-- THE ONE PURE STATEMENT of tapewrightlaw03_RatQuos: yours. -/
def tapewrightlaw03_RatQuos.Pure : Prop := ∀ (a0 : ByteArray) (a1 : ByteArray) (a2 : ByteArray), a0.size ≤ 140737488351232 → a1.size ≤ 140737488351232 → a2.size ≤ 140737488351232 → ∃ k, tapewrightlaw03_RatQuos.f k a0 a1 a2 = some true
theorem tapewrightlaw03_RatQuos.walk (P : tapewrightlaw03_RatQuos.Pure) (a0 : ByteArray) (a1 : ByteArray) (a2 : ByteArray) (w : World) (hG : Err.Gs w) (w0 : a0.size ≤ 140737488351232) (w1 : a1.size ≤ 140737488351232) (w2 : a2.size ≤ 140737488351232) :
  Calls Tryd.prog 4 #[.string a0, .string a1, .string a2] w fun e w' => e = .returned (.bool true) ∧ Below w.heap.size w w' := by
 obtain ⟨k, h⟩ := P a0 a1 a2 w0 w1 w2
 refine (tapewrightlaw03_RatQuos.calls k a0 a1 a2 true w hG rfl h).mono ?_
 rintro e w' ⟨rfl, hd⟩
 exact ⟨rfl, hd⟩

end Go.Proofs.YtfjlmiehbikmnaaDoor.PQ
