-- by wip/tool/mine.py of this repo (the kit's printer with given contracts)
import Derived.Test.YtpjpgfaidallhaaPQx0
import Derived.Test.YtpjpgfaidallhaaPQx1
import Derived.Test.YtpjpgfaidallhaaPQx4
import Derived.Test.YtpjpgfaidallhaaPQx7
import Derived.Test.YtpjpgfaidallhaaPQx13
namespace Go.Proofs.Ytpjpgfaidallhaa.PQ
open Go.RowKit Go.Proofs.YtpjpgfaidallhaaW.PrintWords Go.Proofs.YtpjpgfaidallhaaW.PrintLast Go.Proofs.YtpjpgfaidallhaaW.PrintMore
attribute [local go_sem] max2_int min2_int max_two min_two max_three min_three max_four min_four   -- for this text's walks alone
set_option linter.unusedVariables false
set_option linter.unusedSimpArgs false

/-! ### tapewrightlaw01_NatSums: function 11 -/
mutual
def tapewrightlaw01_NatSums.j0 : Nat → ByteArray → ByteArray → ByteArray → Int → ByteArray → Int → ByteArray → Int → Int → Int → Bool → Option (Bool)
  | 0, _, _, _, _, _, _, _, _, _, _, _ => none
  | k + 1, x0, x1, x5, x6, x7, x8, x9, x10, x11, x12, x50 => if x50 = true then (if x5.toList = ([] : List UInt8) then (if x7.toList = ([] : List UInt8) then (if x9.toList = ([] : List UInt8) then (if x11 = 0 then (if x6 = 2 then (if x8 = x6 then (if x10 = x6 then (if x12 = x6 then ((tapewrightlaw01_awake.f).bind fun t332 => (some t332)) else (some false)) else (some false)) else (some false)) else (some false)) else (some false)) else (some false)) else (some false)) else (some false)) else ((tapewrightref01_Add.f x0 x1).bind fun t333 => (if x5.toList = t333.toList then ((tapewrightref01_Mul.f x0 x1).bind fun t334 => (if x7.toList = t334.toList then (if x6 = 0 then (if x8 = 0 then ((tapewrightref01_Compare.f x0 x1).bind fun t335 => (if x11 = t335 then (tapewrightlaw01_NatSums.j1 k x0 x1 x9 x10 x11 (x12 != 0)) else (tapewrightlaw01_NatSums.j1 k x0 x1 x9 x10 x11 true))) else (tapewrightlaw01_NatSums.j1 k x0 x1 x9 x10 x11 true)) else (tapewrightlaw01_NatSums.j1 k x0 x1 x9 x10 x11 true)) else (tapewrightlaw01_NatSums.j1 k x0 x1 x9 x10 x11 true))) else (tapewrightlaw01_NatSums.j1 k x0 x1 x9 x10 x11 true)))
def tapewrightlaw01_NatSums.j1 : Nat → ByteArray → ByteArray → ByteArray → Int → Int → Bool → Option (Bool)
  | 0, _, _, _, _, _, _ => none
  | k + 1, x0, x1, x9, x10, x11, x117 => if x117 = true then (some false) else (if x11 < 0 then (if x9.toList = ([] : List UInt8) then (if x10 = 1 then ((tapewrightlaw01_awake.f).bind fun t336 => (some t336)) else (some false)) else (some false)) else ((tapewrightref01_Sub.f x0 x1).bind fun t337 => (if x9.toList = t337.toList then (if x10 = 0 then ((nat_Right.f x0).bind fun t338 => (if t338 = true then ((tapewrightlaw01_awake.f).bind fun t339 => (some t339)) else (some false))) else (some false)) else (some false))))
end
def tapewrightlaw01_NatSums.f (k : Nat) (a0 : ByteArray) (a1 : ByteArray) : Option (Bool) := (tapewrightlaw01_short.f k (([a0, a1] : List ByteArray))).bind fun t320 => (if t320 = true then ((nat_Add.f a0 a1).bind fun bt322 => ((nat_Mul.f a0 a1).bind fun bt324 => ((nat_Sub.f a0 a1).bind fun bt326 => ((nat_Compare.f a0 a1).bind fun bt328 => ((tapewrightref01_Right.f a0).bind fun t330 => (if t330 = true then ((tapewrightref01_Right.f a1).bind fun t331 => (tapewrightlaw01_NatSums.j0 k a0 a1 bt322.1 bt322.2 bt324.1 bt324.2 bt326.1 bt326.2 bt328.1 bt328.2 (!t331))) else (tapewrightlaw01_NatSums.j0 k a0 a1 bt322.1 bt322.2 bt324.1 bt324.2 bt326.1 bt326.2 bt328.1 bt328.2 true))))))) else ((tapewrightlaw01_awake.f).bind fun t321 => (some t321)))
set_option maxHeartbeats 8000000 in
set_option maxRecDepth 100000 in
theorem tapewrightlaw01_NatSums.calls (k : Nat) (a0 : ByteArray) (a1 : ByteArray) (r : Bool) (w : World) (h : tapewrightlaw01_NatSums.f k a0 a1 = some r) :
    Calls Try.prog 11 #[.string a0, .string a1] w fun e w' => e = .returned (.bool r) ∧ Below w.heap.size w w' := by
  have HB := Aside0.mk (Below.refl w.heap.size w)
  have H : ((tapewrightlaw01_short.f k (([a0, a1] : List ByteArray))).bind fun t320 => (if t320 = true then ((nat_Add.f a0 a1).bind fun bt322 => ((nat_Mul.f a0 a1).bind fun bt324 => ((nat_Sub.f a0 a1).bind fun bt326 => ((nat_Compare.f a0 a1).bind fun bt328 => ((tapewrightref01_Right.f a0).bind fun t330 => (if t330 = true then ((tapewrightref01_Right.f a1).bind fun t331 => (tapewrightlaw01_NatSums.j0 k a0 a1 bt322.1 bt322.2 bt324.1 bt324.2 bt326.1 bt326.2 bt328.1 bt328.2 (!t331))) else (tapewrightlaw01_NatSums.j0 k a0 a1 bt322.1 bt322.2 bt324.1 bt324.2 bt326.1 bt326.2 bt328.1 bt328.2 true))))))) else ((tapewrightlaw01_awake.f).bind fun t321 => (some t321)))) = some r := h
  clear h
  obtain ⟨y317, hy317⟩ : ∃ y_ : List ByteArray, y_ = (([a0, a1] : List ByteArray)) := ⟨_, rfl⟩
  replace H : ((tapewrightlaw01_short.f k y317).bind fun t320 => (if t320 = true then ((nat_Add.f a0 a1).bind fun bt322 => ((nat_Mul.f a0 a1).bind fun bt324 => ((nat_Sub.f a0 a1).bind fun bt326 => ((nat_Compare.f a0 a1).bind fun bt328 => ((tapewrightref01_Right.f a0).bind fun t330 => (if t330 = true then ((tapewrightref01_Right.f a1).bind fun t331 => (tapewrightlaw01_NatSums.j0 k a0 a1 bt322.1 bt322.2 bt324.1 bt324.2 bt326.1 bt326.2 bt328.1 bt328.2 (!t331))) else (tapewrightlaw01_NatSums.j0 k a0 a1 bt322.1 bt322.2 bt324.1 bt324.2 bt326.1 bt326.2 bt328.1 bt328.2 true))))))) else ((tapewrightlaw01_awake.f).bind fun t321 => (some t321)))) = some r := by first | (rw [hy317]; with_reducible exact H) | (have H2_ := (Option.bind_some _ _).symm.trans H; rw [hy317]; with_reducible exact H2_) | (have H2_ := (Option.bind_some _ _).symm.trans H; with_reducible exact H2_) | with_reducible exact H | (rw [hy317]; exact H) | exact H
  have Ny317 := Aside0.mk hy317
  clear hy317
  replace H := Option.bind_eq_some_iff.mp H
  obtain ⟨t320, A30, H⟩ := H
  replace H : (if t320 = true then ((nat_Add.f a0 a1).bind fun bt322 => ((nat_Mul.f a0 a1).bind fun bt324 => ((nat_Sub.f a0 a1).bind fun bt326 => ((nat_Compare.f a0 a1).bind fun bt328 => ((tapewrightref01_Right.f a0).bind fun t330 => (if t330 = true then ((tapewrightref01_Right.f a1).bind fun t331 => (tapewrightlaw01_NatSums.j0 k a0 a1 bt322.1 bt322.2 bt324.1 bt324.2 bt326.1 bt326.2 bt328.1 bt328.2 (!t331))) else (tapewrightlaw01_NatSums.j0 k a0 a1 bt322.1 bt322.2 bt324.1 bt324.2 bt326.1 bt326.2 bt328.1 bt328.2 true))))))) else ((tapewrightlaw01_awake.f).bind fun t321 => (some t321))) = some r := H
  have A3 := Aside0.mk A30
  clear A30
  by_cases c4 : t320 = true
  · subst c4
    have H1 : ((nat_Add.f a0 a1).bind fun bt322 => ((nat_Mul.f a0 a1).bind fun bt324 => ((nat_Sub.f a0 a1).bind fun bt326 => ((nat_Compare.f a0 a1).bind fun bt328 => ((tapewrightref01_Right.f a0).bind fun t330 => (if t330 = true then ((tapewrightref01_Right.f a1).bind fun t331 => (tapewrightlaw01_NatSums.j0 k a0 a1 bt322.1 bt322.2 bt324.1 bt324.2 bt326.1 bt326.2 bt328.1 bt328.2 (!t331))) else (tapewrightlaw01_NatSums.j0 k a0 a1 bt322.1 bt322.2 bt324.1 bt324.2 bt326.1 bt326.2 bt328.1 bt328.2 true))))))) = some r := by rw [if_pos rfl] at H; exact H
    clear H
    have H := H1
    clear H1
    replace H := Option.bind_eq_some_iff.mp H
    obtain ⟨⟨t322, t323⟩, A50, H⟩ := H
    replace H : ((nat_Mul.f a0 a1).bind fun bt324 => ((nat_Sub.f a0 a1).bind fun bt326 => ((nat_Compare.f a0 a1).bind fun bt328 => ((tapewrightref01_Right.f a0).bind fun t330 => (if t330 = true then ((tapewrightref01_Right.f a1).bind fun t331 => (tapewrightlaw01_NatSums.j0 k a0 a1 t322 t323 bt324.1 bt324.2 bt326.1 bt326.2 bt328.1 bt328.2 (!t331))) else (tapewrightlaw01_NatSums.j0 k a0 a1 t322 t323 bt324.1 bt324.2 bt326.1 bt326.2 bt328.1 bt328.2 true)))))) = some r := H
    have A5 := Aside0.mk A50
    clear A50
    replace H := Option.bind_eq_some_iff.mp H
    obtain ⟨⟨t324, t325⟩, A60, H⟩ := H
    replace H : ((nat_Sub.f a0 a1).bind fun bt326 => ((nat_Compare.f a0 a1).bind fun bt328 => ((tapewrightref01_Right.f a0).bind fun t330 => (if t330 = true then ((tapewrightref01_Right.f a1).bind fun t331 => (tapewrightlaw01_NatSums.j0 k a0 a1 t322 t323 t324 t325 bt326.1 bt326.2 bt328.1 bt328.2 (!t331))) else (tapewrightlaw01_NatSums.j0 k a0 a1 t322 t323 t324 t325 bt326.1 bt326.2 bt328.1 bt328.2 true))))) = some r := H
    have A6 := Aside0.mk A60
    clear A60
    replace H := Option.bind_eq_some_iff.mp H
    obtain ⟨⟨t326, t327⟩, A70, H⟩ := H
    replace H : ((nat_Compare.f a0 a1).bind fun bt328 => ((tapewrightref01_Right.f a0).bind fun t330 => (if t330 = true then ((tapewrightref01_Right.f a1).bind fun t331 => (tapewrightlaw01_NatSums.j0 k a0 a1 t322 t323 t324 t325 t326 t327 bt328.1 bt328.2 (!t331))) else (tapewrightlaw01_NatSums.j0 k a0 a1 t322 t323 t324 t325 t326 t327 bt328.1 bt328.2 true)))) = some r := H
    have A7 := Aside0.mk A70
    clear A70
    replace H := Option.bind_eq_some_iff.mp H
    obtain ⟨⟨t328, t329⟩, A80, H⟩ := H
    replace H : ((tapewrightref01_Right.f a0).bind fun t330 => (if t330 = true then ((tapewrightref01_Right.f a1).bind fun t331 => (tapewrightlaw01_NatSums.j0 k a0 a1 t322 t323 t324 t325 t326 t327 t328 t329 (!t331))) else (tapewrightlaw01_NatSums.j0 k a0 a1 t322 t323 t324 t325 t326 t327 t328 t329 true))) = some r := H
    have A8 := Aside0.mk A80
    clear A80
    have HC9 := Aside0.mk H
    clear H
    go_enter Try.func11, Try.ntmps11
    go_upto_region 7 with (first | ((with_reducible refine gate_dst (N := 15) rfl ?_); refine Kd.R_lit Kd.string _ 9 ?hg (N := 15) ?hd (xs := ([a0, a1] : List ByteArray)) (inner := [.string a0, .string a1]) (ok := fun _ => True) (okp := fun _ => True) ?hr ?hp (fun _ hk => hk) trivial (Below.refl _ _) (Nat.le_refl _) (by simp) ?_; (case hd => rfl); (case hg => rfl); (case hr => first | (go_simp; done) | (go_simp; rfl)); (case hp => exact (Reps.one (show Kd.M Kd.string _ _ _ a0 [.string a0] from rfl) (Reps.one (show Kd.M Kd.string _ _ _ a1 [.string a1] from rfl) (Reps.none _ _)))); intro v318 w10 ho11 hb hg_ hnew_; clear hg_ hnew_; (first | rw [← Ny317.out] at ho11 | (simp only [Int.reduceToNat] at ho11; rw [← Ny317.out] at ho11)); have n0_ := Aside0.mk (Kd.R_lower ho11 (below_size (by repeat (first | (with_reducible first | exact HB.out | apply below_alloc | apply pw_below_drewN | apply below_drew1) | exact HB.out)))); have n1_ := Aside0.mk (below_step (by repeat (first | (with_reducible first | exact HB.out | apply below_alloc | apply pw_below_drewN | apply below_drew1) | exact HB.out)) hb); clear HB; have HO319 := n0_; have HB := n1_; clear n0_ n1_; clear hb ho11; obtain ⟨Ao12, co12, eo12⟩ := Kd.R_slice HO319.out; subst eo12) | ((with_reducible refine gate_callee (f := 18) rfl ?_); refine goesL_ (some 16) rfl rfl Try.func18 (by kernel_rfl) rfl #[.slice Ao12 y317.length co12] rfl (by (try simp only [List.map_toArray, List.map_cons, List.map_nil]); first | done | rfl | (simp only [List.length_drop, List.length_take]; rfl)) ?_; (with_reducible refine (tapewrightlaw01_short.calls k _ _ y317 true _ ?side1 ?side2 A3.out).mono ?_); (case side1 => repeat (first | exact (Kd.R_reads' HO319.out).2.2 | (with_reducible refine Kd.C_alloc ?_ _) | (with_reducible refine Kd.C_drewN ?_ _) | (with_reducible refine Kd.C_drew ?_))); (case side2 => exact (Kd.R_reads' HO319.out).2.1); rintro e w' ⟨rfl, ⟨nd, rfl⟩⟩; refine ⟨_, rfl, ?_⟩) | ((with_reducible refine gate_callee (f := 23) rfl ?_); refine goesL_ (some 22) rfl rfl Try.func23 (by kernel_rfl) rfl #[.string a0, .string a1] rfl (by (try simp only [List.map_toArray, List.map_cons, List.map_nil]); first | done | rfl | (simp only [List.length_drop, List.length_take]; rfl)) ?_; (with_reducible refine (nat_Add.calls a0 a1 t322 t323 _ A5.out).mono ?_); rintro e w13 ⟨rfl, hb⟩; refine ⟨_, rfl, ?_⟩; have n0_ := Aside0.mk (Kd.R_below (by (with_reducible repeat (first | apply Kd.R_alloc | apply Kd.R_drewN | apply Kd.R_drew)); exact HO319.out) hb); have n1_ := Aside0.mk (below_step (by repeat (first | (with_reducible first | exact HB.out | apply below_alloc | apply pw_below_drewN | apply below_drew1) | exact HB.out)) hb); clear HO319; clear HB; have HO319 := n0_; have HB := n1_; clear n0_ n1_; (try clear hb); (try clear hb2); (try clear hk); (try clear hi)) | ((with_reducible refine gate_callee (f := 16) rfl ?_); refine goesL_ (some 28) rfl rfl Try.func16 (by kernel_rfl) rfl #[.string a0, .string a1] rfl (by (try simp only [List.map_toArray, List.map_cons, List.map_nil]); first | done | rfl | (simp only [List.length_drop, List.length_take]; rfl)) ?_; (with_reducible refine (nat_Mul.calls a0 a1 t324 t325 _ A6.out).mono ?_); rintro e w14 ⟨rfl, hb⟩; refine ⟨_, rfl, ?_⟩; have n0_ := Aside0.mk (Kd.R_below (by (with_reducible repeat (first | apply Kd.R_alloc | apply Kd.R_drewN | apply Kd.R_drew)); exact HO319.out) hb); have n1_ := Aside0.mk (below_step (by repeat (first | (with_reducible first | exact HB.out | apply below_alloc | apply pw_below_drewN | apply below_drew1) | exact HB.out)) hb); clear HO319; clear HB; have HO319 := n0_; have HB := n1_; clear n0_ n1_; (try clear hb); (try clear hb2); (try clear hk); (try clear hi)) | ((with_reducible refine gate_callee (f := 26) rfl ?_); refine goesL_ (some 34) rfl rfl Try.func26 (by kernel_rfl) rfl #[.string a0, .string a1] rfl (by (try simp only [List.map_toArray, List.map_cons, List.map_nil]); first | done | rfl | (simp only [List.length_drop, List.length_take]; rfl)) ?_; (with_reducible refine (nat_Sub.calls a0 a1 t326 t327 _ A7.out).mono ?_); rintro e w15 ⟨rfl, hb⟩; refine ⟨_, rfl, ?_⟩; have n0_ := Aside0.mk (Kd.R_below (by (with_reducible repeat (first | apply Kd.R_alloc | apply Kd.R_drewN | apply Kd.R_drew)); exact HO319.out) hb); have n1_ := Aside0.mk (below_step (by repeat (first | (with_reducible first | exact HB.out | apply below_alloc | apply pw_below_drewN | apply below_drew1) | exact HB.out)) hb); clear HO319; clear HB; have HO319 := n0_; have HB := n1_; clear n0_ n1_; (try clear hb); (try clear hb2); (try clear hk); (try clear hi)) | ((with_reducible refine gate_callee (f := 25) rfl ?_); refine goesL_ (some 40) rfl rfl Try.func25 (by kernel_rfl) rfl #[.string a0, .string a1] rfl (by (try simp only [List.map_toArray, List.map_cons, List.map_nil]); first | done | rfl | (simp only [List.length_drop, List.length_take]; rfl)) ?_; (with_reducible refine (nat_Compare.calls a0 a1 t328 t329 _ A8.out).mono ?_); rintro e w16 ⟨rfl, hb⟩; refine ⟨_, rfl, ?_⟩; have n0_ := Aside0.mk (Kd.R_below (by (with_reducible repeat (first | apply Kd.R_alloc | apply Kd.R_drewN | apply Kd.R_drew)); exact HO319.out) hb); have n1_ := Aside0.mk (below_step (by repeat (first | (with_reducible first | exact HB.out | apply below_alloc | apply pw_below_drewN | apply below_drew1) | exact HB.out)) hb); clear HO319; clear HB; have HO319 := n0_; have HB := n1_; clear n0_ n1_; (try clear hb); (try clear hb2); (try clear hk); (try clear hi)))
    (try simp only [Act.put, List.setIfInBounds_toArray, List.set_cons_zero, List.set_cons_succ])
    go_cut [50] (fun v50 wc => ∃ (kq : Nat) (x50_8 : Bool), v50 = .bool x50_8 ∧ Aside0 (tapewrightlaw01_NatSums.j0 kq a0 a1 t322 t323 t324 t325 t326 t327 t328 t329 x50_8 = some r) ∧ Aside0 (kq ≤ k) ∧ Aside0 (Below w.heap.size w wc))
    case first =>
      have H := HC9.out
      clear HC9
      replace H := Option.bind_eq_some_iff.mp H
      obtain ⟨t330, A170, H⟩ := H
      replace H : (if t330 = true then ((tapewrightref01_Right.f a1).bind fun t331 => (tapewrightlaw01_NatSums.j0 k a0 a1 t322 t323 t324 t325 t326 t327 t328 t329 (!t331))) else (tapewrightlaw01_NatSums.j0 k a0 a1 t322 t323 t324 t325 t326 t327 t328 t329 true)) = some r := H
      have A17 := Aside0.mk A170
      clear A170
      by_cases c18 : t330 = true
      · subst c18
        have H1 : ((tapewrightref01_Right.f a1).bind fun t331 => (tapewrightlaw01_NatSums.j0 k a0 a1 t322 t323 t324 t325 t326 t327 t328 t329 (!t331))) = some r := by rw [if_pos rfl] at H; exact H
        clear H
        have H := H1
        clear H1
        replace H := Option.bind_eq_some_iff.mp H
        obtain ⟨t331, A190, H⟩ := H
        replace H : (tapewrightlaw01_NatSums.j0 k a0 a1 t322 t323 t324 t325 t326 t327 t328 t329 (!t331)) = some r := H
        have A19 := Aside0.mk A190
        clear A190
        have H' := Aside0.mk H
        clear H
        go_wp2_with (first | ((with_reducible refine gate_callee (f := 14) rfl ?_); refine goesL_ (some 44) rfl rfl Try.func14 (by kernel_rfl) rfl #[.string a0] rfl (by (try simp only [List.map_toArray, List.map_cons, List.map_nil]); first | done | rfl | (simp only [List.length_drop, List.length_take]; rfl)) ?_; (with_reducible refine (tapewrightref01_Right.calls a0 true _ A17.out).mono ?_); rintro e w' ⟨rfl, ⟨nd, rfl⟩⟩; refine ⟨_, rfl, ?_⟩) | (go_at_call 14; (with_reducible refine (tapewrightref01_Right.calls a1 t331 _ A19.out).mono ?_); rintro e w' ⟨rfl, ⟨nd, rfl⟩⟩))
        go_meet
        case rel => exact ⟨_, (!t331), (by first | rfl | (simp; done) | (simp [*]; done)), H', ⟨by first | omega | exact Nat.le_refl _⟩, ⟨by repeat (first | (with_reducible first | exact HB.out | apply below_alloc | apply pw_below_drewN | apply below_drew1) | exact HB.out)⟩⟩
      · replace c18 := Bool.eq_false_iff.mpr c18
        subst c18
        have H1 : (tapewrightlaw01_NatSums.j0 k a0 a1 t322 t323 t324 t325 t326 t327 t328 t329 true) = some r := by rw [if_neg (show ¬ (false = true) by decide)] at H; exact H
        clear H
        have H := H1
        clear H1
        have H' := Aside0.mk H
        clear H
        go_wp2_with (first | ((with_reducible refine gate_callee (f := 14) rfl ?_); refine goesL_ (some 44) rfl rfl Try.func14 (by kernel_rfl) rfl #[.string a0] rfl (by (try simp only [List.map_toArray, List.map_cons, List.map_nil]); first | done | rfl | (simp only [List.length_drop, List.length_take]; rfl)) ?_; (with_reducible refine (tapewrightref01_Right.calls a0 false _ A17.out).mono ?_); rintro e w' ⟨rfl, ⟨nd, rfl⟩⟩; refine ⟨_, rfl, ?_⟩))
        go_meet
        case rel => exact ⟨_, (true), (by first | rfl | (simp; done) | (simp [*]; done)), H', ⟨by first | omega | exact Nat.le_refl _⟩, ⟨by repeat (first | (with_reducible first | exact HB.out | apply below_alloc | apply pw_below_drewN | apply below_drew1) | exact HB.out)⟩⟩
    case rest =>
      clear HC9
      try clear c1
      try clear c2
      try clear p2
      try clear c4
      try clear c11
      try clear c14
      try clear c16
      try clear c18
      obtain ⟨kq, x50_8, rfl, HA, HJ8, HB⟩ := hcut
      cases kq with
      | zero => exact absurd HA.out (by simp [tapewrightlaw01_NatSums.j0])
      | succ kj8 =>
        have H := HA.out
        clear HA
        simp only [tapewrightlaw01_NatSums.j0] at H
        by_cases c20 : x50_8 = true
        · subst c20
          have H1 : (if t322.toList = ([] : List UInt8) then (if t324.toList = ([] : List UInt8) then (if t326.toList = ([] : List UInt8) then (if t328 = 0 then (if t323 = 2 then (if t325 = t323 then (if t327 = t323 then (if t329 = t323 then ((tapewrightlaw01_awake.f).bind fun t332 => (some t332)) else (some false)) else (some false)) else (some false)) else (some false)) else (some false)) else (some false)) else (some false)) else (some false)) = some r := by rw [if_pos rfl] at H; exact H
          clear H
          have H := H1
          clear H1
          by_cases c21 : t322.toList = ([] : List UInt8)
          · rw [if_pos c21] at H
            have c21b0 : (t322.toList == ([] : List UInt8)) = true := beq_iff_eq.mpr c21
            have c21b1 : (t322.toList != ([] : List UInt8)) = false := bne_eq_false_iff_eq.mpr c21
            clear c21
            by_cases c22 : t324.toList = ([] : List UInt8)
            · rw [if_pos c22] at H
              have c22b0 : (t324.toList == ([] : List UInt8)) = true := beq_iff_eq.mpr c22
              have c22b1 : (t324.toList != ([] : List UInt8)) = false := bne_eq_false_iff_eq.mpr c22
              clear c22
              by_cases c23 : t326.toList = ([] : List UInt8)
              · rw [if_pos c23] at H
                have c23b0 : (t326.toList == ([] : List UInt8)) = true := beq_iff_eq.mpr c23
                have c23b1 : (t326.toList != ([] : List UInt8)) = false := bne_eq_false_iff_eq.mpr c23
                clear c23
                by_cases c24 : t328 = 0
                · rw [if_pos c24] at H
                  have c24b0 : (t328 == 0) = true := beq_iff_eq.mpr c24
                  have c24b1 : (t328 != 0) = false := bne_eq_false_iff_eq.mpr c24
                  clear c24
                  by_cases c25 : t323 = 2
                  · rw [if_pos c25] at H
                    have c25b0 : (t323 == 2) = true := beq_iff_eq.mpr c25
                    have c25b1 : (t323 != 2) = false := bne_eq_false_iff_eq.mpr c25
                    clear c25
                    by_cases c26 : t325 = t323
                    · rw [if_pos c26] at H
                      have c26b0 : (t325 == t323) = true := beq_iff_eq.mpr c26
                      have c26b1 : (t325 != t323) = false := bne_eq_false_iff_eq.mpr c26
                      clear c26
                      by_cases c27 : t327 = t323
                      · rw [if_pos c27] at H
                        have c27b0 : (t327 == t323) = true := beq_iff_eq.mpr c27
                        have c27b1 : (t327 != t323) = false := bne_eq_false_iff_eq.mpr c27
                        clear c27
                        by_cases c28 : t329 = t323
                        · rw [if_pos c28] at H
                          have c28b0 : (t329 == t323) = true := beq_iff_eq.mpr c28
                          have c28b1 : (t329 != t323) = false := bne_eq_false_iff_eq.mpr c28
                          clear c28
                          replace H := Option.bind_eq_some_iff.mp H
                          obtain ⟨t332, A290, H⟩ := H
                          replace H : (some t332) = some r := H
                          have A29 := Aside0.mk A290
                          clear A290
                          obtain rfl := Option.some.inj H
                          go_wp2_with (first | (go_at_call 15; (with_reducible refine (tapewrightlaw01_awake.calls  t332 _ A29.out).mono ?_); rintro e w30 ⟨rfl, hb⟩; have n0_ := Aside0.mk (below_step (by repeat (first | (with_reducible first | exact HB.out | apply below_alloc | apply pw_below_drewN | apply below_drew1) | exact HB.out)) hb); clear HB; have HB := n0_; clear n0_; (try clear hb); (try clear hb2); (try clear hk); (try clear hi)))
                          go_ret
                          exact ⟨by first | rfl | (simp [errW_none, errW_some] <;> rfl) | (simp [*, errW_none, errW_some] <;> rfl), by repeat (first | (with_reducible first | exact HB.out | apply below_alloc | apply pw_below_drewN | apply below_drew1) | exact HB.out)⟩
                        · rw [if_neg c28] at H
                          have c28b0 : (t329 == t323) = false := beq_eq_false_iff_ne.mpr c28
                          have c28b1 : (t329 != t323) = true := bne_iff_ne.mpr c28
                          obtain rfl := Option.some.inj H
                          go_wp2
                          go_ret
                          exact ⟨by first | rfl | (simp [errW_none, errW_some] <;> rfl) | (simp [*, errW_none, errW_some] <;> rfl), by repeat (first | (with_reducible first | exact HB.out | apply below_alloc | apply pw_below_drewN | apply below_drew1) | exact HB.out)⟩
                      · rw [if_neg c27] at H
                        have c27b0 : (t327 == t323) = false := beq_eq_false_iff_ne.mpr c27
                        have c27b1 : (t327 != t323) = true := bne_iff_ne.mpr c27
                        obtain rfl := Option.some.inj H
                        go_wp2
                        go_ret
                        exact ⟨by first | rfl | (simp [errW_none, errW_some] <;> rfl) | (simp [*, errW_none, errW_some] <;> rfl), by repeat (first | (with_reducible first | exact HB.out | apply below_alloc | apply pw_below_drewN | apply below_drew1) | exact HB.out)⟩
                    · rw [if_neg c26] at H
                      have c26b0 : (t325 == t323) = false := beq_eq_false_iff_ne.mpr c26
                      have c26b1 : (t325 != t323) = true := bne_iff_ne.mpr c26
                      obtain rfl := Option.some.inj H
                      go_wp2
                      go_ret
                      exact ⟨by first | rfl | (simp [errW_none, errW_some] <;> rfl) | (simp [*, errW_none, errW_some] <;> rfl), by repeat (first | (with_reducible first | exact HB.out | apply below_alloc | apply pw_below_drewN | apply below_drew1) | exact HB.out)⟩
                  · rw [if_neg c25] at H
                    have c25b0 : (t323 == 2) = false := beq_eq_false_iff_ne.mpr c25
                    have c25b1 : (t323 != 2) = true := bne_iff_ne.mpr c25
                    obtain rfl := Option.some.inj H
                    go_wp2
                    go_ret
                    exact ⟨by first | rfl | (simp [errW_none, errW_some] <;> rfl) | (simp [*, errW_none, errW_some] <;> rfl), by repeat (first | (with_reducible first | exact HB.out | apply below_alloc | apply pw_below_drewN | apply below_drew1) | exact HB.out)⟩
                · rw [if_neg c24] at H
                  have c24b0 : (t328 == 0) = false := beq_eq_false_iff_ne.mpr c24
                  have c24b1 : (t328 != 0) = true := bne_iff_ne.mpr c24
                  obtain rfl := Option.some.inj H
                  go_wp2
                  go_ret
                  exact ⟨by first | rfl | (simp [errW_none, errW_some] <;> rfl) | (simp [*, errW_none, errW_some] <;> rfl), by repeat (first | (with_reducible first | exact HB.out | apply below_alloc | apply pw_below_drewN | apply below_drew1) | exact HB.out)⟩
              · rw [if_neg c23] at H
                have c23b0 : (t326.toList == ([] : List UInt8)) = false := beq_eq_false_iff_ne.mpr c23
                have c23b1 : (t326.toList != ([] : List UInt8)) = true := bne_iff_ne.mpr c23
                obtain rfl := Option.some.inj H
                go_wp2
                go_ret
                exact ⟨by first | rfl | (simp [errW_none, errW_some] <;> rfl) | (simp [*, errW_none, errW_some] <;> rfl), by repeat (first | (with_reducible first | exact HB.out | apply below_alloc | apply pw_below_drewN | apply below_drew1) | exact HB.out)⟩
            · rw [if_neg c22] at H
              have c22b0 : (t324.toList == ([] : List UInt8)) = false := beq_eq_false_iff_ne.mpr c22
              have c22b1 : (t324.toList != ([] : List UInt8)) = true := bne_iff_ne.mpr c22
              obtain rfl := Option.some.inj H
              go_wp2
              go_ret
              exact ⟨by first | rfl | (simp [errW_none, errW_some] <;> rfl) | (simp [*, errW_none, errW_some] <;> rfl), by repeat (first | (with_reducible first | exact HB.out | apply below_alloc | apply pw_below_drewN | apply below_drew1) | exact HB.out)⟩
          · rw [if_neg c21] at H
            have c21b0 : (t322.toList == ([] : List UInt8)) = false := beq_eq_false_iff_ne.mpr c21
            have c21b1 : (t322.toList != ([] : List UInt8)) = true := bne_iff_ne.mpr c21
            obtain rfl := Option.some.inj H
            go_wp2
            go_ret
            exact ⟨by first | rfl | (simp [errW_none, errW_some] <;> rfl) | (simp [*, errW_none, errW_some] <;> rfl), by repeat (first | (with_reducible first | exact HB.out | apply below_alloc | apply pw_below_drewN | apply below_drew1) | exact HB.out)⟩
        · replace c20 := Bool.eq_false_iff.mpr c20
          subst c20
          have H1 : ((tapewrightref01_Add.f a0 a1).bind fun t333 => (if t322.toList = t333.toList then ((tapewrightref01_Mul.f a0 a1).bind fun t334 => (if t324.toList = t334.toList then (if t323 = 0 then (if t325 = 0 then ((tapewrightref01_Compare.f a0 a1).bind fun t335 => (if t328 = t335 then (tapewrightlaw01_NatSums.j1 kj8 a0 a1 t326 t327 t328 (t329 != 0)) else (tapewrightlaw01_NatSums.j1 kj8 a0 a1 t326 t327 t328 true))) else (tapewrightlaw01_NatSums.j1 kj8 a0 a1 t326 t327 t328 true)) else (tapewrightlaw01_NatSums.j1 kj8 a0 a1 t326 t327 t328 true)) else (tapewrightlaw01_NatSums.j1 kj8 a0 a1 t326 t327 t328 true))) else (tapewrightlaw01_NatSums.j1 kj8 a0 a1 t326 t327 t328 true))) = some r := by rw [if_neg (show ¬ (false = true) by decide)] at H; exact H
          clear H
          have H := H1
          clear H1
          have HC31 := Aside0.mk H
          clear H
          go_upto_region 9 with (fail)
          go_cut [117] (fun v117 wc => ∃ (kq : Nat) (x117_30 : Bool), v117 = .bool x117_30 ∧ Aside0 (tapewrightlaw01_NatSums.j1 kq a0 a1 t326 t327 t328 x117_30 = some r) ∧ Aside0 (kq ≤ kj8) ∧ Aside0 (Below w.heap.size w wc))
          case first =>
            have H := HC31.out
            clear HC31
            replace H := Option.bind_eq_some_iff.mp H
            obtain ⟨t333, A320, H⟩ := H
            replace H : (if t322.toList = t333.toList then ((tapewrightref01_Mul.f a0 a1).bind fun t334 => (if t324.toList = t334.toList then (if t323 = 0 then (if t325 = 0 then ((tapewrightref01_Compare.f a0 a1).bind fun t335 => (if t328 = t335 then (tapewrightlaw01_NatSums.j1 kj8 a0 a1 t326 t327 t328 (t329 != 0)) else (tapewrightlaw01_NatSums.j1 kj8 a0 a1 t326 t327 t328 true))) else (tapewrightlaw01_NatSums.j1 kj8 a0 a1 t326 t327 t328 true)) else (tapewrightlaw01_NatSums.j1 kj8 a0 a1 t326 t327 t328 true)) else (tapewrightlaw01_NatSums.j1 kj8 a0 a1 t326 t327 t328 true))) else (tapewrightlaw01_NatSums.j1 kj8 a0 a1 t326 t327 t328 true)) = some r := H
            have A32 := Aside0.mk A320
            clear A320
            by_cases c33 : t322.toList = t333.toList
            · rw [if_pos c33] at H
              have c33b0 : (t322.toList == t333.toList) = true := beq_iff_eq.mpr c33
              have c33b1 : (t322.toList != t333.toList) = false := bne_eq_false_iff_eq.mpr c33
              clear c33
              (first | rw [c33b0] | (simp only [i64_w, i32_w]; rw [c33b0]) | skip)
              replace H := Option.bind_eq_some_iff.mp H
              obtain ⟨t334, A340, H⟩ := H
              replace H : (if t324.toList = t334.toList then (if t323 = 0 then (if t325 = 0 then ((tapewrightref01_Compare.f a0 a1).bind fun t335 => (if t328 = t335 then (tapewrightlaw01_NatSums.j1 kj8 a0 a1 t326 t327 t328 (t329 != 0)) else (tapewrightlaw01_NatSums.j1 kj8 a0 a1 t326 t327 t328 true))) else (tapewrightlaw01_NatSums.j1 kj8 a0 a1 t326 t327 t328 true)) else (tapewrightlaw01_NatSums.j1 kj8 a0 a1 t326 t327 t328 true)) else (tapewrightlaw01_NatSums.j1 kj8 a0 a1 t326 t327 t328 true)) = some r := H
              have A34 := Aside0.mk A340
              clear A340
              by_cases c35 : t324.toList = t334.toList
              · rw [if_pos c35] at H
                have c35b0 : (t324.toList == t334.toList) = true := beq_iff_eq.mpr c35
                have c35b1 : (t324.toList != t334.toList) = false := bne_eq_false_iff_eq.mpr c35
                clear c35
                by_cases c36 : t323 = 0
                · rw [if_pos c36] at H
                  have c36b0 : (t323 == 0) = true := beq_iff_eq.mpr c36
                  have c36b1 : (t323 != 0) = false := bne_eq_false_iff_eq.mpr c36
                  clear c36
                  by_cases c37 : t325 = 0
                  · rw [if_pos c37] at H
                    have c37b0 : (t325 == 0) = true := beq_iff_eq.mpr c37
                    have c37b1 : (t325 != 0) = false := bne_eq_false_iff_eq.mpr c37
                    clear c37
                    replace H := Option.bind_eq_some_iff.mp H
                    obtain ⟨t335, A380, H⟩ := H
                    replace H : (if t328 = t335 then (tapewrightlaw01_NatSums.j1 kj8 a0 a1 t326 t327 t328 (t329 != 0)) else (tapewrightlaw01_NatSums.j1 kj8 a0 a1 t326 t327 t328 true)) = some r := H
                    have A38 := Aside0.mk A380
                    clear A380
                    by_cases c39 : t328 = t335
                    · rw [if_pos c39] at H
                      have c39b0 : (t328 == t335) = true := beq_iff_eq.mpr c39
                      have c39b1 : (t328 != t335) = false := bne_eq_false_iff_eq.mpr c39
                      clear c39
                      have H' := Aside0.mk H
                      clear H
                      go_wp2_with (first | ((with_reducible refine gate_callee (f := 27) rfl ?_); refine goesL_ (some 90) rfl rfl Try.func27 (by kernel_rfl) rfl #[.string a0, .string a1] rfl (by (try simp only [List.map_toArray, List.map_cons, List.map_nil]); first | done | rfl | (simp only [List.length_drop, List.length_take]; rfl)) ?_; (with_reducible refine (tapewrightref01_Add.calls a0 a1 t333 _ A32.out).mono ?_); rintro e w40 ⟨rfl, hb⟩; refine ⟨_, rfl, ?_⟩; have n0_ := Aside0.mk (below_step (by repeat (first | (with_reducible first | exact HB.out | apply below_alloc | apply pw_below_drewN | apply below_drew1) | exact HB.out)) hb); clear HB; have HB := n0_; clear n0_; (try clear hb); (try clear hb2); (try clear hk); (try clear hi)) | (go_at_call 28; (with_reducible refine (tapewrightref01_Mul.calls a0 a1 t334 _ A34.out).mono ?_); rintro e w41 ⟨rfl, hb⟩; have n0_ := Aside0.mk (below_step (by repeat (first | (with_reducible first | exact HB.out | apply below_alloc | apply pw_below_drewN | apply below_drew1) | exact HB.out)) hb); clear HB; have HB := n0_; clear n0_; (try clear hb); (try clear hb2); (try clear hk); (try clear hi)) | (go_at_call 29; (with_reducible refine (tapewrightref01_Compare.calls a0 a1 t335 _ A38.out).mono ?_); rintro e w' ⟨rfl, ⟨nd, rfl⟩⟩))
                      go_meet
                      case rel => exact ⟨_, ((t329 != 0)), (by first | rfl | (simp; done) | (simp [*]; done)), H', ⟨by have := HJ8.out; first | omega | exact Nat.le_refl _⟩, ⟨by repeat (first | (with_reducible first | exact HB.out | apply below_alloc | apply pw_below_drewN | apply below_drew1) | exact HB.out)⟩⟩
                    · rw [if_neg c39] at H
                      have c39b0 : (t328 == t335) = false := beq_eq_false_iff_ne.mpr c39
                      have c39b1 : (t328 != t335) = true := bne_iff_ne.mpr c39
                      have H' := Aside0.mk H
                      clear H
                      go_wp2_with (first | ((with_reducible refine gate_callee (f := 27) rfl ?_); refine goesL_ (some 90) rfl rfl Try.func27 (by kernel_rfl) rfl #[.string a0, .string a1] rfl (by (try simp only [List.map_toArray, List.map_cons, List.map_nil]); first | done | rfl | (simp only [List.length_drop, List.length_take]; rfl)) ?_; (with_reducible refine (tapewrightref01_Add.calls a0 a1 t333 _ A32.out).mono ?_); rintro e w42 ⟨rfl, hb⟩; refine ⟨_, rfl, ?_⟩; have n0_ := Aside0.mk (below_step (by repeat (first | (with_reducible first | exact HB.out | apply below_alloc | apply pw_below_drewN | apply below_drew1) | exact HB.out)) hb); clear HB; have HB := n0_; clear n0_; (try clear hb); (try clear hb2); (try clear hk); (try clear hi)) | (go_at_call 28; (with_reducible refine (tapewrightref01_Mul.calls a0 a1 t334 _ A34.out).mono ?_); rintro e w43 ⟨rfl, hb⟩; have n0_ := Aside0.mk (below_step (by repeat (first | (with_reducible first | exact HB.out | apply below_alloc | apply pw_below_drewN | apply below_drew1) | exact HB.out)) hb); clear HB; have HB := n0_; clear n0_; (try clear hb); (try clear hb2); (try clear hk); (try clear hi)) | (go_at_call 29; (with_reducible refine (tapewrightref01_Compare.calls a0 a1 t335 _ A38.out).mono ?_); rintro e w' ⟨rfl, ⟨nd, rfl⟩⟩))
                      go_meet
                      case rel => exact ⟨_, (true), (by first | rfl | (simp; done) | (simp [*]; done)), H', ⟨by have := HJ8.out; first | omega | exact Nat.le_refl _⟩, ⟨by repeat (first | (with_reducible first | exact HB.out | apply below_alloc | apply pw_below_drewN | apply below_drew1) | exact HB.out)⟩⟩
                  · rw [if_neg c37] at H
                    have c37b0 : (t325 == 0) = false := beq_eq_false_iff_ne.mpr c37
                    have c37b1 : (t325 != 0) = true := bne_iff_ne.mpr c37
                    have H' := Aside0.mk H
                    clear H
                    go_wp2_with (first | ((with_reducible refine gate_callee (f := 27) rfl ?_); refine goesL_ (some 90) rfl rfl Try.func27 (by kernel_rfl) rfl #[.string a0, .string a1] rfl (by (try simp only [List.map_toArray, List.map_cons, List.map_nil]); first | done | rfl | (simp only [List.length_drop, List.length_take]; rfl)) ?_; (with_reducible refine (tapewrightref01_Add.calls a0 a1 t333 _ A32.out).mono ?_); rintro e w44 ⟨rfl, hb⟩; refine ⟨_, rfl, ?_⟩; have n0_ := Aside0.mk (below_step (by repeat (first | (with_reducible first | exact HB.out | apply below_alloc | apply pw_below_drewN | apply below_drew1) | exact HB.out)) hb); clear HB; have HB := n0_; clear n0_; (try clear hb); (try clear hb2); (try clear hk); (try clear hi)) | (go_at_call 28; (with_reducible refine (tapewrightref01_Mul.calls a0 a1 t334 _ A34.out).mono ?_); rintro e w45 ⟨rfl, hb⟩; have n0_ := Aside0.mk (below_step (by repeat (first | (with_reducible first | exact HB.out | apply below_alloc | apply pw_below_drewN | apply below_drew1) | exact HB.out)) hb); clear HB; have HB := n0_; clear n0_; (try clear hb); (try clear hb2); (try clear hk); (try clear hi)))
                    go_meet
                    case rel => exact ⟨_, (true), (by first | rfl | (simp; done) | (simp [*]; done)), H', ⟨by have := HJ8.out; first | omega | exact Nat.le_refl _⟩, ⟨by repeat (first | (with_reducible first | exact HB.out | apply below_alloc | apply pw_below_drewN | apply below_drew1) | exact HB.out)⟩⟩
                · rw [if_neg c36] at H
                  have c36b0 : (t323 == 0) = false := beq_eq_false_iff_ne.mpr c36
                  have c36b1 : (t323 != 0) = true := bne_iff_ne.mpr c36
                  have H' := Aside0.mk H
                  clear H
                  go_wp2_with (first | ((with_reducible refine gate_callee (f := 27) rfl ?_); refine goesL_ (some 90) rfl rfl Try.func27 (by kernel_rfl) rfl #[.string a0, .string a1] rfl (by (try simp only [List.map_toArray, List.map_cons, List.map_nil]); first | done | rfl | (simp only [List.length_drop, List.length_take]; rfl)) ?_; (with_reducible refine (tapewrightref01_Add.calls a0 a1 t333 _ A32.out).mono ?_); rintro e w46 ⟨rfl, hb⟩; refine ⟨_, rfl, ?_⟩; have n0_ := Aside0.mk (below_step (by repeat (first | (with_reducible first | exact HB.out | apply below_alloc | apply pw_below_drewN | apply below_drew1) | exact HB.out)) hb); clear HB; have HB := n0_; clear n0_; (try clear hb); (try clear hb2); (try clear hk); (try clear hi)) | (go_at_call 28; (with_reducible refine (tapewrightref01_Mul.calls a0 a1 t334 _ A34.out).mono ?_); rintro e w47 ⟨rfl, hb⟩; have n0_ := Aside0.mk (below_step (by repeat (first | (with_reducible first | exact HB.out | apply below_alloc | apply pw_below_drewN | apply below_drew1) | exact HB.out)) hb); clear HB; have HB := n0_; clear n0_; (try clear hb); (try clear hb2); (try clear hk); (try clear hi)))
                  go_meet
                  case rel => exact ⟨_, (true), (by first | rfl | (simp; done) | (simp [*]; done)), H', ⟨by have := HJ8.out; first | omega | exact Nat.le_refl _⟩, ⟨by repeat (first | (with_reducible first | exact HB.out | apply below_alloc | apply pw_below_drewN | apply below_drew1) | exact HB.out)⟩⟩
              · rw [if_neg c35] at H
                have c35b0 : (t324.toList == t334.toList) = false := beq_eq_false_iff_ne.mpr c35
                have c35b1 : (t324.toList != t334.toList) = true := bne_iff_ne.mpr c35
                have H' := Aside0.mk H
                clear H
                go_wp2_with (first | ((with_reducible refine gate_callee (f := 27) rfl ?_); refine goesL_ (some 90) rfl rfl Try.func27 (by kernel_rfl) rfl #[.string a0, .string a1] rfl (by (try simp only [List.map_toArray, List.map_cons, List.map_nil]); first | done | rfl | (simp only [List.length_drop, List.length_take]; rfl)) ?_; (with_reducible refine (tapewrightref01_Add.calls a0 a1 t333 _ A32.out).mono ?_); rintro e w48 ⟨rfl, hb⟩; refine ⟨_, rfl, ?_⟩; have n0_ := Aside0.mk (below_step (by repeat (first | (with_reducible first | exact HB.out | apply below_alloc | apply pw_below_drewN | apply below_drew1) | exact HB.out)) hb); clear HB; have HB := n0_; clear n0_; (try clear hb); (try clear hb2); (try clear hk); (try clear hi)) | (go_at_call 28; (with_reducible refine (tapewrightref01_Mul.calls a0 a1 t334 _ A34.out).mono ?_); rintro e w49 ⟨rfl, hb⟩; have n0_ := Aside0.mk (below_step (by repeat (first | (with_reducible first | exact HB.out | apply below_alloc | apply pw_below_drewN | apply below_drew1) | exact HB.out)) hb); clear HB; have HB := n0_; clear n0_; (try clear hb); (try clear hb2); (try clear hk); (try clear hi)))
                go_meet
                case rel => exact ⟨_, (true), (by first | rfl | (simp; done) | (simp [*]; done)), H', ⟨by have := HJ8.out; first | omega | exact Nat.le_refl _⟩, ⟨by repeat (first | (with_reducible first | exact HB.out | apply below_alloc | apply pw_below_drewN | apply below_drew1) | exact HB.out)⟩⟩
            · rw [if_neg c33] at H
              have c33b0 : (t322.toList == t333.toList) = false := beq_eq_false_iff_ne.mpr c33
              have c33b1 : (t322.toList != t333.toList) = true := bne_iff_ne.mpr c33
              (first | rw [c33b0] | (simp only [i64_w, i32_w]; rw [c33b0]) | skip)
              have H' := Aside0.mk H
              clear H
              go_wp2_with (first | ((with_reducible refine gate_callee (f := 27) rfl ?_); refine goesL_ (some 90) rfl rfl Try.func27 (by kernel_rfl) rfl #[.string a0, .string a1] rfl (by (try simp only [List.map_toArray, List.map_cons, List.map_nil]); first | done | rfl | (simp only [List.length_drop, List.length_take]; rfl)) ?_; (with_reducible refine (tapewrightref01_Add.calls a0 a1 t333 _ A32.out).mono ?_); rintro e w50 ⟨rfl, hb⟩; refine ⟨_, rfl, ?_⟩; have n0_ := Aside0.mk (below_step (by repeat (first | (with_reducible first | exact HB.out | apply below_alloc | apply pw_below_drewN | apply below_drew1) | exact HB.out)) hb); clear HB; have HB := n0_; clear n0_; (try clear hb); (try clear hb2); (try clear hk); (try clear hi)))
              go_meet
              case rel => exact ⟨_, (true), (by first | rfl | (simp; done) | (simp [*]; done)), H', ⟨by have := HJ8.out; first | omega | exact Nat.le_refl _⟩, ⟨by repeat (first | (with_reducible first | exact HB.out | apply below_alloc | apply pw_below_drewN | apply below_drew1) | exact HB.out)⟩⟩
          case rest =>
            clear HC31
            try clear c1
            try clear c2
            try clear p2
            try clear c3
            try clear c4
            try clear c11
            try clear c14
            try clear c16
            try clear c18
            try clear c20
            try clear c21
            try clear c21b0
            try clear c21b1
            try clear c22
            try clear c22b0
            try clear c22b1
            try clear c23
            try clear c23b0
            try clear c23b1
            try clear c24
            try clear c24b0
            try clear c24b1
            try clear c25
            try clear c25b0
            try clear c25b1
            try clear c26
            try clear c26b0
            try clear c26b1
            try clear c27
            try clear c27b0
            try clear c27b1
            try clear c28
            try clear c28b0
            try clear c28b1
            try clear c33
            try clear c33b0
            try clear c33b1
            try clear c35
            try clear c35b0
            try clear c35b1
            try clear c36
            try clear c36b0
            try clear c36b1
            try clear c37
            try clear c37b0
            try clear c37b1
            try clear c39
            try clear c39b0
            try clear c39b1
            try clear p2
            obtain ⟨kq, x117_30, rfl, HA, HJ30, HB⟩ := hcut
            cases kq with
            | zero => exact absurd HA.out (by simp [tapewrightlaw01_NatSums.j1])
            | succ kj30 =>
              have H := HA.out
              clear HA
              simp only [tapewrightlaw01_NatSums.j1] at H
              by_cases c51 : x117_30 = true
              · subst c51
                have H1 : (some false) = some r := by rw [if_pos rfl] at H; exact H
                clear H
                have H := H1
                clear H1
                obtain rfl := Option.some.inj H
                go_wp2
                go_ret
                exact ⟨by first | rfl | (simp [errW_none, errW_some] <;> rfl) | (simp [*, errW_none, errW_some] <;> rfl), by repeat (first | (with_reducible first | exact HB.out | apply below_alloc | apply pw_below_drewN | apply below_drew1) | exact HB.out)⟩
              · replace c51 := Bool.eq_false_iff.mpr c51
                subst c51
                have H1 : (if t328 < 0 then (if t326.toList = ([] : List UInt8) then (if t327 = 1 then ((tapewrightlaw01_awake.f).bind fun t336 => (some t336)) else (some false)) else (some false)) else ((tapewrightref01_Sub.f a0 a1).bind fun t337 => (if t326.toList = t337.toList then (if t327 = 0 then ((nat_Right.f a0).bind fun t338 => (if t338 = true then ((tapewrightlaw01_awake.f).bind fun t339 => (some t339)) else (some false))) else (some false)) else (some false)))) = some r := by rw [if_neg (show ¬ (false = true) by decide)] at H; exact H
                clear H
                have H := H1
                clear H1
                by_cases c52 : t328 < 0
                · rw [if_pos c52] at H
                  have c52b0 : decide (t328 < 0) = true := decide_eq_true c52
                  clear c52
                  by_cases c53 : t326.toList = ([] : List UInt8)
                  · rw [if_pos c53] at H
                    have c53b0 : (t326.toList == ([] : List UInt8)) = true := beq_iff_eq.mpr c53
                    have c53b1 : (t326.toList != ([] : List UInt8)) = false := bne_eq_false_iff_eq.mpr c53
                    clear c53
                    by_cases c54 : t327 = 1
                    · rw [if_pos c54] at H
                      have c54b0 : (t327 == 1) = true := beq_iff_eq.mpr c54
                      have c54b1 : (t327 != 1) = false := bne_eq_false_iff_eq.mpr c54
                      clear c54
                      replace H := Option.bind_eq_some_iff.mp H
                      obtain ⟨t336, A550, H⟩ := H
                      replace H : (some t336) = some r := H
                      have A55 := Aside0.mk A550
                      clear A550
                      obtain rfl := Option.some.inj H
                      go_wp2_with (first | (go_at_call 15; (with_reducible refine (tapewrightlaw01_awake.calls  t336 _ A55.out).mono ?_); rintro e w56 ⟨rfl, hb⟩; have n0_ := Aside0.mk (below_step (by repeat (first | (with_reducible first | exact HB.out | apply below_alloc | apply pw_below_drewN | apply below_drew1) | exact HB.out)) hb); clear HB; have HB := n0_; clear n0_; (try clear hb); (try clear hb2); (try clear hk); (try clear hi)))
                      go_ret
                      exact ⟨by first | rfl | (simp [errW_none, errW_some] <;> rfl) | (simp [*, errW_none, errW_some] <;> rfl), by repeat (first | (with_reducible first | exact HB.out | apply below_alloc | apply pw_below_drewN | apply below_drew1) | exact HB.out)⟩
                    · rw [if_neg c54] at H
                      have c54b0 : (t327 == 1) = false := beq_eq_false_iff_ne.mpr c54
                      have c54b1 : (t327 != 1) = true := bne_iff_ne.mpr c54
                      obtain rfl := Option.some.inj H
                      go_wp2
                      go_ret
                      exact ⟨by first | rfl | (simp [errW_none, errW_some] <;> rfl) | (simp [*, errW_none, errW_some] <;> rfl), by repeat (first | (with_reducible first | exact HB.out | apply below_alloc | apply pw_below_drewN | apply below_drew1) | exact HB.out)⟩
                  · rw [if_neg c53] at H
                    have c53b0 : (t326.toList == ([] : List UInt8)) = false := beq_eq_false_iff_ne.mpr c53
                    have c53b1 : (t326.toList != ([] : List UInt8)) = true := bne_iff_ne.mpr c53
                    obtain rfl := Option.some.inj H
                    go_wp2
                    go_ret
                    exact ⟨by first | rfl | (simp [errW_none, errW_some] <;> rfl) | (simp [*, errW_none, errW_some] <;> rfl), by repeat (first | (with_reducible first | exact HB.out | apply below_alloc | apply pw_below_drewN | apply below_drew1) | exact HB.out)⟩
                · rw [if_neg c52] at H
                  have c52b0 : decide (t328 < 0) = false := decide_eq_false c52
                  clear c52
                  replace H := Option.bind_eq_some_iff.mp H
                  obtain ⟨t337, A570, H⟩ := H
                  replace H : (if t326.toList = t337.toList then (if t327 = 0 then ((nat_Right.f a0).bind fun t338 => (if t338 = true then ((tapewrightlaw01_awake.f).bind fun t339 => (some t339)) else (some false))) else (some false)) else (some false)) = some r := H
                  have A57 := Aside0.mk A570
                  clear A570
                  by_cases c58 : t326.toList = t337.toList
                  · rw [if_pos c58] at H
                    have c58b0 : (t326.toList == t337.toList) = true := beq_iff_eq.mpr c58
                    have c58b1 : (t326.toList != t337.toList) = false := bne_eq_false_iff_eq.mpr c58
                    clear c58
                    by_cases c59 : t327 = 0
                    · rw [if_pos c59] at H
                      have c59b0 : (t327 == 0) = true := beq_iff_eq.mpr c59
                      have c59b1 : (t327 != 0) = false := bne_eq_false_iff_eq.mpr c59
                      clear c59
                      replace H := Option.bind_eq_some_iff.mp H
                      obtain ⟨t338, A600, H⟩ := H
                      replace H : (if t338 = true then ((tapewrightlaw01_awake.f).bind fun t339 => (some t339)) else (some false)) = some r := H
                      have A60 := Aside0.mk A600
                      clear A600
                      by_cases c61 : t338 = true
                      · subst c61
                        have H1 : ((tapewrightlaw01_awake.f).bind fun t339 => (some t339)) = some r := by rw [if_pos rfl] at H; exact H
                        clear H
                        have H := H1
                        clear H1
                        replace H := Option.bind_eq_some_iff.mp H
                        obtain ⟨t339, A620, H⟩ := H
                        replace H : (some t339) = some r := H
                        have A62 := Aside0.mk A620
                        clear A620
                        obtain rfl := Option.some.inj H
                        go_wp2_with (first | ((with_reducible refine gate_callee (f := 30) rfl ?_); refine goesL_ (some 132) rfl rfl Try.func30 (by kernel_rfl) rfl #[.string a0, .string a1] rfl (by (try simp only [List.map_toArray, List.map_cons, List.map_nil]); first | done | rfl | (simp only [List.length_drop, List.length_take]; rfl)) ?_; (with_reducible refine (tapewrightref01_Sub.calls a0 a1 t337 _ A57.out).mono ?_); rintro e w63 ⟨rfl, hb⟩; refine ⟨_, rfl, ?_⟩; have n0_ := Aside0.mk (below_step (by repeat (first | (with_reducible first | exact HB.out | apply below_alloc | apply pw_below_drewN | apply below_drew1) | exact HB.out)) hb); clear HB; have HB := n0_; clear n0_; (try clear hb); (try clear hb2); (try clear hk); (try clear hi)) | (go_at_call 20; (with_reducible refine (nat_Right.calls a0 true _ A60.out).mono ?_); rintro e w64 ⟨rfl, hb⟩; have n0_ := Aside0.mk (below_step (by repeat (first | (with_reducible first | exact HB.out | apply below_alloc | apply pw_below_drewN | apply below_drew1) | exact HB.out)) hb); clear HB; have HB := n0_; clear n0_; (try clear hb); (try clear hb2); (try clear hk); (try clear hi)) | (go_at_call 15; (with_reducible refine (tapewrightlaw01_awake.calls  t339 _ A62.out).mono ?_); rintro e w65 ⟨rfl, hb⟩; have n0_ := Aside0.mk (below_step (by repeat (first | (with_reducible first | exact HB.out | apply below_alloc | apply pw_below_drewN | apply below_drew1) | exact HB.out)) hb); clear HB; have HB := n0_; clear n0_; (try clear hb); (try clear hb2); (try clear hk); (try clear hi)))
                        go_ret
                        exact ⟨by first | rfl | (simp [errW_none, errW_some] <;> rfl) | (simp [*, errW_none, errW_some] <;> rfl), by repeat (first | (with_reducible first | exact HB.out | apply below_alloc | apply pw_below_drewN | apply below_drew1) | exact HB.out)⟩
                      · replace c61 := Bool.eq_false_iff.mpr c61
                        subst c61
                        have H1 : (some false) = some r := by rw [if_neg (show ¬ (false = true) by decide)] at H; exact H
                        clear H
                        have H := H1
                        clear H1
                        obtain rfl := Option.some.inj H
                        go_wp2_with (first | ((with_reducible refine gate_callee (f := 30) rfl ?_); refine goesL_ (some 132) rfl rfl Try.func30 (by kernel_rfl) rfl #[.string a0, .string a1] rfl (by (try simp only [List.map_toArray, List.map_cons, List.map_nil]); first | done | rfl | (simp only [List.length_drop, List.length_take]; rfl)) ?_; (with_reducible refine (tapewrightref01_Sub.calls a0 a1 t337 _ A57.out).mono ?_); rintro e w66 ⟨rfl, hb⟩; refine ⟨_, rfl, ?_⟩; have n0_ := Aside0.mk (below_step (by repeat (first | (with_reducible first | exact HB.out | apply below_alloc | apply pw_below_drewN | apply below_drew1) | exact HB.out)) hb); clear HB; have HB := n0_; clear n0_; (try clear hb); (try clear hb2); (try clear hk); (try clear hi)) | (go_at_call 20; (with_reducible refine (nat_Right.calls a0 false _ A60.out).mono ?_); rintro e w67 ⟨rfl, hb⟩; have n0_ := Aside0.mk (below_step (by repeat (first | (with_reducible first | exact HB.out | apply below_alloc | apply pw_below_drewN | apply below_drew1) | exact HB.out)) hb); clear HB; have HB := n0_; clear n0_; (try clear hb); (try clear hb2); (try clear hk); (try clear hi)))
                        go_ret
                        exact ⟨by first | rfl | (simp [errW_none, errW_some] <;> rfl) | (simp [*, errW_none, errW_some] <;> rfl), by repeat (first | (with_reducible first | exact HB.out | apply below_alloc | apply pw_below_drewN | apply below_drew1) | exact HB.out)⟩
                    · rw [if_neg c59] at H
                      have c59b0 : (t327 == 0) = false := beq_eq_false_iff_ne.mpr c59
                      have c59b1 : (t327 != 0) = true := bne_iff_ne.mpr c59
                      obtain rfl := Option.some.inj H
                      go_wp2_with (first | ((with_reducible refine gate_callee (f := 30) rfl ?_); refine goesL_ (some 132) rfl rfl Try.func30 (by kernel_rfl) rfl #[.string a0, .string a1] rfl (by (try simp only [List.map_toArray, List.map_cons, List.map_nil]); first | done | rfl | (simp only [List.length_drop, List.length_take]; rfl)) ?_; (with_reducible refine (tapewrightref01_Sub.calls a0 a1 t337 _ A57.out).mono ?_); rintro e w68 ⟨rfl, hb⟩; refine ⟨_, rfl, ?_⟩; have n0_ := Aside0.mk (below_step (by repeat (first | (with_reducible first | exact HB.out | apply below_alloc | apply pw_below_drewN | apply below_drew1) | exact HB.out)) hb); clear HB; have HB := n0_; clear n0_; (try clear hb); (try clear hb2); (try clear hk); (try clear hi)))
                      go_ret
                      exact ⟨by first | rfl | (simp [errW_none, errW_some] <;> rfl) | (simp [*, errW_none, errW_some] <;> rfl), by repeat (first | (with_reducible first | exact HB.out | apply below_alloc | apply pw_below_drewN | apply below_drew1) | exact HB.out)⟩
                  · rw [if_neg c58] at H
                    have c58b0 : (t326.toList == t337.toList) = false := beq_eq_false_iff_ne.mpr c58
                    have c58b1 : (t326.toList != t337.toList) = true := bne_iff_ne.mpr c58
                    obtain rfl := Option.some.inj H
                    go_wp2_with (first | ((with_reducible refine gate_callee (f := 30) rfl ?_); refine goesL_ (some 132) rfl rfl Try.func30 (by kernel_rfl) rfl #[.string a0, .string a1] rfl (by (try simp only [List.map_toArray, List.map_cons, List.map_nil]); first | done | rfl | (simp only [List.length_drop, List.length_take]; rfl)) ?_; (with_reducible refine (tapewrightref01_Sub.calls a0 a1 t337 _ A57.out).mono ?_); rintro e w69 ⟨rfl, hb⟩; refine ⟨_, rfl, ?_⟩; have n0_ := Aside0.mk (below_step (by repeat (first | (with_reducible first | exact HB.out | apply below_alloc | apply pw_below_drewN | apply below_drew1) | exact HB.out)) hb); clear HB; have HB := n0_; clear n0_; (try clear hb); (try clear hb2); (try clear hk); (try clear hi)))
                    go_ret
                    exact ⟨by first | rfl | (simp [errW_none, errW_some] <;> rfl) | (simp [*, errW_none, errW_some] <;> rfl), by repeat (first | (with_reducible first | exact HB.out | apply below_alloc | apply pw_below_drewN | apply below_drew1) | exact HB.out)⟩
  · replace c4 := Bool.eq_false_iff.mpr c4
    subst c4
    have H1 : ((tapewrightlaw01_awake.f).bind fun t321 => (some t321)) = some r := by rw [if_neg (show ¬ (false = true) by decide)] at H; exact H
    clear H
    have H := H1
    clear H1
    replace H := Option.bind_eq_some_iff.mp H
    obtain ⟨t321, A700, H⟩ := H
    replace H : (some t321) = some r := H
    have A70 := Aside0.mk A700
    clear A700
    obtain rfl := Option.some.inj H
    go_enter Try.func11, Try.ntmps11
    go_wp2_with (first | ((with_reducible refine gate_dst (N := 15) rfl ?_); refine Kd.R_lit Kd.string _ 9 ?hg (N := 15) ?hd (xs := ([a0, a1] : List ByteArray)) (inner := [.string a0, .string a1]) (ok := fun _ => True) (okp := fun _ => True) ?hr ?hp (fun _ hk => hk) trivial (Below.refl _ _) (Nat.le_refl _) (by simp) ?_; (case hd => rfl); (case hg => rfl); (case hr => first | (go_simp; done) | (go_simp; rfl)); (case hp => exact (Reps.one (show Kd.M Kd.string _ _ _ a0 [.string a0] from rfl) (Reps.one (show Kd.M Kd.string _ _ _ a1 [.string a1] from rfl) (Reps.none _ _)))); intro v318 w71 ho72 hb hg_ hnew_; clear hg_ hnew_; (first | rw [← Ny317.out] at ho72 | (simp only [Int.reduceToNat] at ho72; rw [← Ny317.out] at ho72)); have n0_ := Aside0.mk (Kd.R_lower ho72 (below_size (by repeat (first | (with_reducible first | exact HB.out | apply below_alloc | apply pw_below_drewN | apply below_drew1) | exact HB.out)))); have n1_ := Aside0.mk (below_step (by repeat (first | (with_reducible first | exact HB.out | apply below_alloc | apply pw_below_drewN | apply below_drew1) | exact HB.out)) hb); clear HB; have HO319 := n0_; have HB := n1_; clear n0_ n1_; clear hb ho72; obtain ⟨Ao73, co73, eo73⟩ := Kd.R_slice HO319.out; subst eo73) | ((with_reducible refine gate_callee (f := 18) rfl ?_); refine goesL_ (some 16) rfl rfl Try.func18 (by kernel_rfl) rfl #[.slice Ao73 y317.length co73] rfl (by (try simp only [List.map_toArray, List.map_cons, List.map_nil]); first | done | rfl | (simp only [List.length_drop, List.length_take]; rfl)) ?_; (with_reducible refine (tapewrightlaw01_short.calls k _ _ y317 false _ ?side1 ?side2 A3.out).mono ?_); (case side1 => repeat (first | exact (Kd.R_reads' HO319.out).2.2 | (with_reducible refine Kd.C_alloc ?_ _) | (with_reducible refine Kd.C_drewN ?_ _) | (with_reducible refine Kd.C_drew ?_))); (case side2 => exact (Kd.R_reads' HO319.out).2.1); rintro e w' ⟨rfl, ⟨nd, rfl⟩⟩; refine ⟨_, rfl, ?_⟩) | ((with_reducible refine gate_callee (f := 15) rfl ?_); refine goesL_ (some 18) rfl rfl Try.func15 (by kernel_rfl) rfl #[] rfl (by (try simp only [List.map_toArray, List.map_cons, List.map_nil]); first | done | rfl | (simp only [List.length_drop, List.length_take]; rfl)) ?_; (with_reducible refine (tapewrightlaw01_awake.calls  t321 _ A70.out).mono ?_); rintro e w74 ⟨rfl, hb⟩; refine ⟨_, rfl, ?_⟩; have n0_ := Aside0.mk (Kd.R_below (by (with_reducible repeat (first | apply Kd.R_alloc | apply Kd.R_drewN | apply Kd.R_drew)); exact HO319.out) hb); have n1_ := Aside0.mk (below_step (by repeat (first | (with_reducible first | exact HB.out | apply below_alloc | apply pw_below_drewN | apply below_drew1) | exact HB.out)) hb); clear HO319; clear HB; have HO319 := n0_; have HB := n1_; clear n0_ n1_; (try clear hb); (try clear hb2); (try clear hk); (try clear hi)))
    go_ret
    exact ⟨by first | rfl | (simp [errW_none, errW_some] <;> rfl) | (simp [*, errW_none, errW_some] <;> rfl), by repeat (first | (with_reducible first | exact HB.out | apply below_alloc | apply pw_below_drewN | apply below_drew1) | exact HB.out)⟩

/-- THE ONE PURE STATEMENT of tapewrightlaw01_NatSums: yours. -/
def tapewrightlaw01_NatSums.Pure : Prop := ∀ (a0 : ByteArray) (a1 : ByteArray), a0.size ≤ 140737488351232 → a1.size ≤ 140737488351232 → ∃ k, tapewrightlaw01_NatSums.f k a0 a1 = some true
theorem tapewrightlaw01_NatSums.walk (P : tapewrightlaw01_NatSums.Pure) (a0 : ByteArray) (a1 : ByteArray) (w : World) (w0 : a0.size ≤ 140737488351232) (w1 : a1.size ≤ 140737488351232) :
    Calls Try.prog 11 #[.string a0, .string a1] w fun e w' => e = .returned (.bool true) ∧ Below w.heap.size w w' := by
  obtain ⟨k, h⟩ := P a0 a1 w0 w1
  refine (tapewrightlaw01_NatSums.calls k a0 a1 true w h).mono ?_
  rintro e w' ⟨rfl, hd⟩
  exact ⟨rfl, hd⟩

end Go.Proofs.Ytpjpgfaidallhaa.PQ
