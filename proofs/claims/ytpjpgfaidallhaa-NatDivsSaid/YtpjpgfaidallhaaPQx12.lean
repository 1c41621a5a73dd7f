-- by wip/tool/mine.py of this repo (the kit's printer with given contracts)
import Derived.Test.YtpjpgfaidallhaaPQx0
import Derived.Test.YtpjpgfaidallhaaPQx1
import Derived.Test.YtpjpgfaidallhaaPQx2
import Derived.Test.YtpjpgfaidallhaaPQx4
import Derived.Test.YtpjpgfaidallhaaPQx11
namespace Go.Proofs.Ytpjpgfaidallhaa.PQ
open Go.RowKit Go.Proofs.YtpjpgfaidallhaaW.PrintWords Go.Proofs.YtpjpgfaidallhaaW.PrintLast Go.Proofs.YtpjpgfaidallhaaW.PrintMore
attribute [local go_sem] max2_int min2_int max_two min_two max_three min_three max_four min_four   -- for this text's walks alone
set_option linter.unusedVariables false
set_option linter.unusedSimpArgs false

/-! ### tapewrightlaw01_NatDivs: function 4 -/
mutual
def tapewrightlaw01_NatDivs.j0 : Nat → ByteArray → ByteArray → ByteArray → ByteArray → Int → ByteArray → Int → Bool → Option (Bool)
  | 0, _, _, _, _, _, _, _, _ => none
  | k + 1, x0, x1, x5, x6, x7, x8, x9, x38 => if x38 = true then (if x5.toList = ([] : List UInt8) then (if x6.toList = ([] : List UInt8) then (if x8.toList = ([] : List UInt8) then (if x7 = 2 then (if x9 = x7 then ((nat_Right.f x0).bind fun t309 => ((tapewrightref01_Right.f x0).bind fun t310 => (if (t309 == t310) = true then ((tapewrightlaw01_awake.f).bind fun t311 => (some t311)) else (some false)))) else (some false)) else (some false)) else (some false)) else (some false)) else (some false)) else ((tapewrightref01_Gcd.f x0 x1).bind fun t312 => (if x8.toList = t312.toList then (tapewrightlaw01_NatDivs.j1 k x0 x1 x5 x6 x7 (x9 != 0)) else (tapewrightlaw01_NatDivs.j1 k x0 x1 x5 x6 x7 true)))
def tapewrightlaw01_NatDivs.j1 : Nat → ByteArray → ByteArray → ByteArray → ByteArray → Int → Bool → Option (Bool)
  | 0, _, _, _, _, _, _ => none
  | k + 1, x0, x1, x5, x6, x7, x76 => if x76 = true then (some false) else (if x1.toList = ([48] : List UInt8) then (if x5.toList = ([] : List UInt8) then (if x6.toList = ([] : List UInt8) then (if x7 = 3 then ((tapewrightlaw01_awake.f).bind fun t313 => (some t313)) else (some false)) else (some false)) else (some false)) else ((tapewrightref01_Div.f x0 x1).bind fun bt314 => (if x5.toList = bt314.1.toList then (if x6.toList = bt314.2.toList then (if x7 = 0 then ((tapewrightlaw01_awake.f).bind fun t316 => (some t316)) else (some false)) else (some false)) else (some false))))
end
def tapewrightlaw01_NatDivs.f (k : Nat) (a0 : ByteArray) (a1 : ByteArray) : Option (Bool) := (tapewrightlaw01_short.f k (([a0, a1] : List ByteArray))).bind fun t300 => (if t300 = true then ((nat_Div.f a0 a1).bind fun bt302 => ((nat_Gcd.f a0 a1).bind fun bt305 => ((tapewrightref01_Right.f a0).bind fun t307 => (if t307 = true then ((tapewrightref01_Right.f a1).bind fun t308 => (tapewrightlaw01_NatDivs.j0 k a0 a1 bt302.1 bt302.2.1 bt302.2.2 bt305.1 bt305.2 (!t308))) else (tapewrightlaw01_NatDivs.j0 k a0 a1 bt302.1 bt302.2.1 bt302.2.2 bt305.1 bt305.2 true))))) else ((tapewrightlaw01_awake.f).bind fun t301 => (some t301)))
set_option maxHeartbeats 8000000 in
set_option maxRecDepth 100000 in
theorem tapewrightlaw01_NatDivs.calls (k : Nat) (a0 : ByteArray) (a1 : ByteArray) (r : Bool) (w : World) (h : tapewrightlaw01_NatDivs.f k a0 a1 = some r) :
    Calls Try.prog 4 #[.string a0, .string a1] w fun e w' => e = .returned (.bool r) ∧ Below w.heap.size w w' := by
  have HB := Aside0.mk (Below.refl w.heap.size w)
  have H : ((tapewrightlaw01_short.f k (([a0, a1] : List ByteArray))).bind fun t300 => (if t300 = true then ((nat_Div.f a0 a1).bind fun bt302 => ((nat_Gcd.f a0 a1).bind fun bt305 => ((tapewrightref01_Right.f a0).bind fun t307 => (if t307 = true then ((tapewrightref01_Right.f a1).bind fun t308 => (tapewrightlaw01_NatDivs.j0 k a0 a1 bt302.1 bt302.2.1 bt302.2.2 bt305.1 bt305.2 (!t308))) else (tapewrightlaw01_NatDivs.j0 k a0 a1 bt302.1 bt302.2.1 bt302.2.2 bt305.1 bt305.2 true))))) else ((tapewrightlaw01_awake.f).bind fun t301 => (some t301)))) = some r := h
  clear h
  obtain ⟨y297, hy297⟩ : ∃ y_ : List ByteArray, y_ = (([a0, a1] : List ByteArray)) := ⟨_, rfl⟩
  replace H : ((tapewrightlaw01_short.f k y297).bind fun t300 => (if t300 = true then ((nat_Div.f a0 a1).bind fun bt302 => ((nat_Gcd.f a0 a1).bind fun bt305 => ((tapewrightref01_Right.f a0).bind fun t307 => (if t307 = true then ((tapewrightref01_Right.f a1).bind fun t308 => (tapewrightlaw01_NatDivs.j0 k a0 a1 bt302.1 bt302.2.1 bt302.2.2 bt305.1 bt305.2 (!t308))) else (tapewrightlaw01_NatDivs.j0 k a0 a1 bt302.1 bt302.2.1 bt302.2.2 bt305.1 bt305.2 true))))) else ((tapewrightlaw01_awake.f).bind fun t301 => (some t301)))) = some r := by first | (rw [hy297]; with_reducible exact H) | (have H2_ := (Option.bind_some _ _).symm.trans H; rw [hy297]; with_reducible exact H2_) | (have H2_ := (Option.bind_some _ _).symm.trans H; with_reducible exact H2_) | with_reducible exact H | (rw [hy297]; exact H) | exact H
  have Ny297 := Aside0.mk hy297
  clear hy297
  replace H := Option.bind_eq_some_iff.mp H
  obtain ⟨t300, A30, H⟩ := H
  replace H : (if t300 = true then ((nat_Div.f a0 a1).bind fun bt302 => ((nat_Gcd.f a0 a1).bind fun bt305 => ((tapewrightref01_Right.f a0).bind fun t307 => (if t307 = true then ((tapewrightref01_Right.f a1).bind fun t308 => (tapewrightlaw01_NatDivs.j0 k a0 a1 bt302.1 bt302.2.1 bt302.2.2 bt305.1 bt305.2 (!t308))) else (tapewrightlaw01_NatDivs.j0 k a0 a1 bt302.1 bt302.2.1 bt302.2.2 bt305.1 bt305.2 true))))) else ((tapewrightlaw01_awake.f).bind fun t301 => (some t301))) = some r := H
  have A3 := Aside0.mk A30
  clear A30
  by_cases c4 : t300 = true
  · subst c4
    have H1 : ((nat_Div.f a0 a1).bind fun bt302 => ((nat_Gcd.f a0 a1).bind fun bt305 => ((tapewrightref01_Right.f a0).bind fun t307 => (if t307 = true then ((tapewrightref01_Right.f a1).bind fun t308 => (tapewrightlaw01_NatDivs.j0 k a0 a1 bt302.1 bt302.2.1 bt302.2.2 bt305.1 bt305.2 (!t308))) else (tapewrightlaw01_NatDivs.j0 k a0 a1 bt302.1 bt302.2.1 bt302.2.2 bt305.1 bt305.2 true))))) = some r := by rw [if_pos rfl] at H; exact H
    clear H
    have H := H1
    clear H1
    replace H := Option.bind_eq_some_iff.mp H
    obtain ⟨⟨t302, t303, t304⟩, A50, H⟩ := H
    replace H : ((nat_Gcd.f a0 a1).bind fun bt305 => ((tapewrightref01_Right.f a0).bind fun t307 => (if t307 = true then ((tapewrightref01_Right.f a1).bind fun t308 => (tapewrightlaw01_NatDivs.j0 k a0 a1 t302 t303 t304 bt305.1 bt305.2 (!t308))) else (tapewrightlaw01_NatDivs.j0 k a0 a1 t302 t303 t304 bt305.1 bt305.2 true)))) = some r := H
    have A5 := Aside0.mk A50
    clear A50
    replace H := Option.bind_eq_some_iff.mp H
    obtain ⟨⟨t305, t306⟩, A60, H⟩ := H
    replace H : ((tapewrightref01_Right.f a0).bind fun t307 => (if t307 = true then ((tapewrightref01_Right.f a1).bind fun t308 => (tapewrightlaw01_NatDivs.j0 k a0 a1 t302 t303 t304 t305 t306 (!t308))) else (tapewrightlaw01_NatDivs.j0 k a0 a1 t302 t303 t304 t305 t306 true))) = some r := H
    have A6 := Aside0.mk A60
    clear A60
    have HC7 := Aside0.mk H
    clear H
    go_enter Try.func4, Try.ntmps4
    go_upto_region 5 with (first | ((with_reducible refine gate_dst (N := 14) rfl ?_); refine Kd.R_lit Kd.string _ 9 ?hg (N := 14) ?hd (xs := ([a0, a1] : List ByteArray)) (inner := [.string a0, .string a1]) (ok := fun _ => True) (okp := fun _ => True) ?hr ?hp (fun _ hk => hk) trivial (Below.refl _ _) (Nat.le_refl _) (by simp) ?_; (case hd => rfl); (case hg => rfl); (case hr => first | (go_simp; done) | (go_simp; rfl)); (case hp => exact (Reps.one (show Kd.M Kd.string _ _ _ a0 [.string a0] from rfl) (Reps.one (show Kd.M Kd.string _ _ _ a1 [.string a1] from rfl) (Reps.none _ _)))); intro v298 w8 ho9 hb hg_ hnew_; clear hg_ hnew_; (first | rw [← Ny297.out] at ho9 | (simp only [Int.reduceToNat] at ho9; rw [← Ny297.out] at ho9)); have n0_ := Aside0.mk (Kd.R_lower ho9 (below_size (by repeat (first | (with_reducible first | exact HB.out | apply below_alloc | apply pw_below_drewN | apply below_drew1) | exact HB.out)))); have n1_ := Aside0.mk (below_step (by repeat (first | (with_reducible first | exact HB.out | apply below_alloc | apply pw_below_drewN | apply below_drew1) | exact HB.out)) hb); clear HB; have HO299 := n0_; have HB := n1_; clear n0_ n1_; clear hb ho9; obtain ⟨Ao10, co10, eo10⟩ := Kd.R_slice HO299.out; subst eo10) | ((with_reducible refine gate_callee (f := 18) rfl ?_); refine goesL_ (some 15) rfl rfl Try.func18 (by kernel_rfl) rfl #[.slice Ao10 y297.length co10] rfl (by (try simp only [List.map_toArray, List.map_cons, List.map_nil]); first | done | rfl | (simp only [List.length_drop, List.length_take]; rfl)) ?_; (with_reducible refine (tapewrightlaw01_short.calls k _ _ y297 true _ ?side1 ?side2 A3.out).mono ?_); (case side1 => repeat (first | exact (Kd.R_reads' HO299.out).2.2 | (with_reducible refine Kd.C_alloc ?_ _) | (with_reducible refine Kd.C_drewN ?_ _) | (with_reducible refine Kd.C_drew ?_))); (case side2 => exact (Kd.R_reads' HO299.out).2.1); rintro e w' ⟨rfl, ⟨nd, rfl⟩⟩; refine ⟨_, rfl, ?_⟩) | ((with_reducible refine gate_callee (f := 17) rfl ?_); refine goesL_ (some 21) rfl rfl Try.func17 (by kernel_rfl) rfl #[.string a0, .string a1] rfl (by (try simp only [List.map_toArray, List.map_cons, List.map_nil]); first | done | rfl | (simp only [List.length_drop, List.length_take]; rfl)) ?_; (with_reducible refine (nat_Div.calls a0 a1 t302 t303 t304 _ A5.out).mono ?_); rintro e w11 ⟨rfl, hb⟩; refine ⟨_, rfl, ?_⟩; have n0_ := Aside0.mk (Kd.R_below (by (with_reducible repeat (first | apply Kd.R_alloc | apply Kd.R_drewN | apply Kd.R_drew)); exact HO299.out) hb); have n1_ := Aside0.mk (below_step (by repeat (first | (with_reducible first | exact HB.out | apply below_alloc | apply pw_below_drewN | apply below_drew1) | exact HB.out)) hb); clear HO299; clear HB; have HO299 := n0_; have HB := n1_; clear n0_ n1_; (try clear hb); (try clear hb2); (try clear hk); (try clear hi)) | ((with_reducible refine gate_callee (f := 19) rfl ?_); refine goesL_ (some 28) rfl rfl Try.func19 (by kernel_rfl) rfl #[.string a0, .string a1] rfl (by (try simp only [List.map_toArray, List.map_cons, List.map_nil]); first | done | rfl | (simp only [List.length_drop, List.length_take]; rfl)) ?_; (with_reducible refine (nat_Gcd.calls a0 a1 t305 t306 _ A6.out).mono ?_); rintro e w12 ⟨rfl, hb⟩; refine ⟨_, rfl, ?_⟩; have n0_ := Aside0.mk (Kd.R_below (by (with_reducible repeat (first | apply Kd.R_alloc | apply Kd.R_drewN | apply Kd.R_drew)); exact HO299.out) hb); have n1_ := Aside0.mk (below_step (by repeat (first | (with_reducible first | exact HB.out | apply below_alloc | apply pw_below_drewN | apply below_drew1) | exact HB.out)) hb); clear HO299; clear HB; have HO299 := n0_; have HB := n1_; clear n0_ n1_; (try clear hb); (try clear hb2); (try clear hk); (try clear hi)))
    (try simp only [Act.put, List.setIfInBounds_toArray, List.set_cons_zero, List.set_cons_succ])
    go_cut [38] (fun v38 wc => ∃ (kq : Nat) (x38_6 : Bool), v38 = .bool x38_6 ∧ Aside0 (tapewrightlaw01_NatDivs.j0 kq a0 a1 t302 t303 t304 t305 t306 x38_6 = some r) ∧ Aside0 (kq ≤ k) ∧ Aside0 (Below w.heap.size w wc))
    case first =>
      have H := HC7.out
      clear HC7
      replace H := Option.bind_eq_some_iff.mp H
      obtain ⟨t307, A130, H⟩ := H
      replace H : (if t307 = true then ((tapewrightref01_Right.f a1).bind fun t308 => (tapewrightlaw01_NatDivs.j0 k a0 a1 t302 t303 t304 t305 t306 (!t308))) else (tapewrightlaw01_NatDivs.j0 k a0 a1 t302 t303 t304 t305 t306 true)) = some r := H
      have A13 := Aside0.mk A130
      clear A130
      by_cases c14 : t307 = true
      · subst c14
        have H1 : ((tapewrightref01_Right.f a1).bind fun t308 => (tapewrightlaw01_NatDivs.j0 k a0 a1 t302 t303 t304 t305 t306 (!t308))) = some r := by rw [if_pos rfl] at H; exact H
        clear H
        have H := H1
        clear H1
        replace H := Option.bind_eq_some_iff.mp H
        obtain ⟨t308, A150, H⟩ := H
        replace H : (tapewrightlaw01_NatDivs.j0 k a0 a1 t302 t303 t304 t305 t306 (!t308)) = some r := H
        have A15 := Aside0.mk A150
        clear A150
        have H' := Aside0.mk H
        clear H
        go_wp2_with (first | ((with_reducible refine gate_callee (f := 14) rfl ?_); refine goesL_ (some 32) rfl rfl Try.func14 (by kernel_rfl) rfl #[.string a0] rfl (by (try simp only [List.map_toArray, List.map_cons, List.map_nil]); first | done | rfl | (simp only [List.length_drop, List.length_take]; rfl)) ?_; (with_reducible refine (tapewrightref01_Right.calls a0 true _ A13.out).mono ?_); rintro e w' ⟨rfl, ⟨nd, rfl⟩⟩; refine ⟨_, rfl, ?_⟩) | (go_at_call 14; (with_reducible refine (tapewrightref01_Right.calls a1 t308 _ A15.out).mono ?_); rintro e w' ⟨rfl, ⟨nd, rfl⟩⟩))
        go_meet
        case rel => exact ⟨_, (!t308), (by first | rfl | (simp; done) | (simp [*]; done)), H', ⟨by first | omega | exact Nat.le_refl _⟩, ⟨by repeat (first | (with_reducible first | exact HB.out | apply below_alloc | apply pw_below_drewN | apply below_drew1) | exact HB.out)⟩⟩
      · replace c14 := Bool.eq_false_iff.mpr c14
        subst c14
        have H1 : (tapewrightlaw01_NatDivs.j0 k a0 a1 t302 t303 t304 t305 t306 true) = some r := by rw [if_neg (show ¬ (false = true) by decide)] at H; exact H
        clear H
        have H := H1
        clear H1
        have H' := Aside0.mk H
        clear H
        go_wp2_with (first | ((with_reducible refine gate_callee (f := 14) rfl ?_); refine goesL_ (some 32) rfl rfl Try.func14 (by kernel_rfl) rfl #[.string a0] rfl (by (try simp only [List.map_toArray, List.map_cons, List.map_nil]); first | done | rfl | (simp only [List.length_drop, List.length_take]; rfl)) ?_; (with_reducible refine (tapewrightref01_Right.calls a0 false _ A13.out).mono ?_); rintro e w' ⟨rfl, ⟨nd, rfl⟩⟩; refine ⟨_, rfl, ?_⟩))
        go_meet
        case rel => exact ⟨_, (true), (by first | rfl | (simp; done) | (simp [*]; done)), H', ⟨by first | omega | exact Nat.le_refl _⟩, ⟨by repeat (first | (with_reducible first | exact HB.out | apply below_alloc | apply pw_below_drewN | apply below_drew1) | exact HB.out)⟩⟩
    case rest =>
      clear HC7
      try clear c1
      try clear p2
      try clear c4
      try clear c14
      obtain ⟨kq, x38_6, rfl, HA, HJ6, HB⟩ := hcut
      cases kq with
      | zero => exact absurd HA.out (by simp [tapewrightlaw01_NatDivs.j0])
      | succ kj6 =>
        have H := HA.out
        clear HA
        simp only [tapewrightlaw01_NatDivs.j0] at H
        by_cases c16 : x38_6 = true
        · subst c16
          have H1 : (if t302.toList = ([] : List UInt8) then (if t303.toList = ([] : List UInt8) then (if t305.toList = ([] : List UInt8) then (if t304 = 2 then (if t306 = t304 then ((nat_Right.f a0).bind fun t309 => ((tapewrightref01_Right.f a0).bind fun t310 => (if (t309 == t310) = true then ((tapewrightlaw01_awake.f).bind fun t311 => (some t311)) else (some false)))) else (some false)) else (some false)) else (some false)) else (some false)) else (some false)) = some r := by rw [if_pos rfl] at H; exact H
          clear H
          have H := H1
          clear H1
          by_cases c17 : t302.toList = ([] : List UInt8)
          · rw [if_pos c17] at H
            have c17b0 : (t302.toList == ([] : List UInt8)) = true := beq_iff_eq.mpr c17
            have c17b1 : (t302.toList != ([] : List UInt8)) = false := bne_eq_false_iff_eq.mpr c17
            clear c17
            by_cases c18 : t303.toList = ([] : List UInt8)
            · rw [if_pos c18] at H
              have c18b0 : (t303.toList == ([] : List UInt8)) = true := beq_iff_eq.mpr c18
              have c18b1 : (t303.toList != ([] : List UInt8)) = false := bne_eq_false_iff_eq.mpr c18
              clear c18
              by_cases c19 : t305.toList = ([] : List UInt8)
              · rw [if_pos c19] at H
                have c19b0 : (t305.toList == ([] : List UInt8)) = true := beq_iff_eq.mpr c19
                have c19b1 : (t305.toList != ([] : List UInt8)) = false := bne_eq_false_iff_eq.mpr c19
                clear c19
                by_cases c20 : t304 = 2
                · rw [if_pos c20] at H
                  have c20b0 : (t304 == 2) = true := beq_iff_eq.mpr c20
                  have c20b1 : (t304 != 2) = false := bne_eq_false_iff_eq.mpr c20
                  clear c20
                  by_cases c21 : t306 = t304
                  · rw [if_pos c21] at H
                    have c21b0 : (t306 == t304) = true := beq_iff_eq.mpr c21
                    have c21b1 : (t306 != t304) = false := bne_eq_false_iff_eq.mpr c21
                    clear c21
                    replace H := Option.bind_eq_some_iff.mp H
                    obtain ⟨t309, A220, H⟩ := H
                    replace H : ((tapewrightref01_Right.f a0).bind fun t310 => (if (t309 == t310) = true then ((tapewrightlaw01_awake.f).bind fun t311 => (some t311)) else (some false))) = some r := H
                    have A22 := Aside0.mk A220
                    clear A220
                    replace H := Option.bind_eq_some_iff.mp H
                    obtain ⟨t310, A230, H⟩ := H
                    replace H : (if (t309 == t310) = true then ((tapewrightlaw01_awake.f).bind fun t311 => (some t311)) else (some false)) = some r := H
                    have A23 := Aside0.mk A230
                    clear A230
                    by_cases c24 : (t309 == t310) = true
                    · rw [if_pos c24] at H
                      have c24b0 : (t309 == t310) = true := c24
                      (try (have c24b1 : decide (t309 = t310) = true := by simpa using c24))
                      (try (have c24b2 : (t309 == t310) = true := by simpa using c24))
                      clear c24
                      replace H := Option.bind_eq_some_iff.mp H
                      obtain ⟨t311, A250, H⟩ := H
                      replace H : (some t311) = some r := H
                      have A25 := Aside0.mk A250
                      clear A250
                      obtain rfl := Option.some.inj H
                      go_wp2_with (first | (go_at_call 20; (with_reducible refine (nat_Right.calls a0 t309 _ A22.out).mono ?_); rintro e w26 ⟨rfl, hb⟩; have n0_ := Aside0.mk (below_step (by repeat (first | (with_reducible first | exact HB.out | apply below_alloc | apply pw_below_drewN | apply below_drew1) | exact HB.out)) hb); clear HB; have HB := n0_; clear n0_; (try clear hb); (try clear hb2); (try clear hk); (try clear hi)) | (go_at_call 14; (with_reducible refine (tapewrightref01_Right.calls a0 t310 _ A23.out).mono ?_); rintro e w' ⟨rfl, ⟨nd, rfl⟩⟩) | (go_at_call 15; (with_reducible refine (tapewrightlaw01_awake.calls  t311 _ A25.out).mono ?_); rintro e w27 ⟨rfl, hb⟩; have n0_ := Aside0.mk (below_step (by repeat (first | (with_reducible first | exact HB.out | apply below_alloc | apply pw_below_drewN | apply below_drew1) | exact HB.out)) hb); clear HB; have HB := n0_; clear n0_; (try clear hb); (try clear hb2); (try clear hk); (try clear hi)))
                      go_ret
                      exact ⟨by first | rfl | (simp [errW_none, errW_some] <;> rfl) | (simp [*, errW_none, errW_some] <;> rfl), by repeat (first | (with_reducible first | exact HB.out | apply below_alloc | apply pw_below_drewN | apply below_drew1) | exact HB.out)⟩
                    · rw [if_neg c24] at H
                      have c24b0 : (t309 == t310) = false := by simpa using c24
                      (try (have c24b1 : decide (t309 = t310) = false := by simpa using c24))
                      (try (have c24b2 : (t309 == t310) = false := by simpa using c24))
                      (try (have c24b3 : ¬ (t309 = t310) := by simpa using c24))
                      clear c24
                      obtain rfl := Option.some.inj H
                      go_wp2_with (first | (go_at_call 20; (with_reducible refine (nat_Right.calls a0 t309 _ A22.out).mono ?_); rintro e w28 ⟨rfl, hb⟩; have n0_ := Aside0.mk (below_step (by repeat (first | (with_reducible first | exact HB.out | apply below_alloc | apply pw_below_drewN | apply below_drew1) | exact HB.out)) hb); clear HB; have HB := n0_; clear n0_; (try clear hb); (try clear hb2); (try clear hk); (try clear hi)) | (go_at_call 14; (with_reducible refine (tapewrightref01_Right.calls a0 t310 _ A23.out).mono ?_); rintro e w' ⟨rfl, ⟨nd, rfl⟩⟩))
                      go_ret
                      exact ⟨by first | rfl | (simp [errW_none, errW_some] <;> rfl) | (simp [*, errW_none, errW_some] <;> rfl), by repeat (first | (with_reducible first | exact HB.out | apply below_alloc | apply pw_below_drewN | apply below_drew1) | exact HB.out)⟩
                  · rw [if_neg c21] at H
                    have c21b0 : (t306 == t304) = false := beq_eq_false_iff_ne.mpr c21
                    have c21b1 : (t306 != t304) = true := bne_iff_ne.mpr c21
                    obtain rfl := Option.some.inj H
                    go_wp2
                    go_ret
                    exact ⟨by first | rfl | (simp [errW_none, errW_some] <;> rfl) | (simp [*, errW_none, errW_some] <;> rfl), by repeat (first | (with_reducible first | exact HB.out | apply below_alloc | apply pw_below_drewN | apply below_drew1) | exact HB.out)⟩
                · rw [if_neg c20] at H
                  have c20b0 : (t304 == 2) = false := beq_eq_false_iff_ne.mpr c20
                  have c20b1 : (t304 != 2) = true := bne_iff_ne.mpr c20
                  obtain rfl := Option.some.inj H
                  go_wp2
                  go_ret
                  exact ⟨by first | rfl | (simp [errW_none, errW_some] <;> rfl) | (simp [*, errW_none, errW_some] <;> rfl), by repeat (first | (with_reducible first | exact HB.out | apply below_alloc | apply pw_below_drewN | apply below_drew1) | exact HB.out)⟩
              · rw [if_neg c19] at H
                have c19b0 : (t305.toList == ([] : List UInt8)) = false := beq_eq_false_iff_ne.mpr c19
                have c19b1 : (t305.toList != ([] : List UInt8)) = true := bne_iff_ne.mpr c19
                obtain rfl := Option.some.inj H
                go_wp2
                go_ret
                exact ⟨by first | rfl | (simp [errW_none, errW_some] <;> rfl) | (simp [*, errW_none, errW_some] <;> rfl), by repeat (first | (with_reducible first | exact HB.out | apply below_alloc | apply pw_below_drewN | apply below_drew1) | exact HB.out)⟩
            · rw [if_neg c18] at H
              have c18b0 : (t303.toList == ([] : List UInt8)) = false := beq_eq_false_iff_ne.mpr c18
              have c18b1 : (t303.toList != ([] : List UInt8)) = true := bne_iff_ne.mpr c18
              obtain rfl := Option.some.inj H
              go_wp2
              go_ret
              exact ⟨by first | rfl | (simp [errW_none, errW_some] <;> rfl) | (simp [*, errW_none, errW_some] <;> rfl), by repeat (first | (with_reducible first | exact HB.out | apply below_alloc | apply pw_below_drewN | apply below_drew1) | exact HB.out)⟩
          · rw [if_neg c17] at H
            have c17b0 : (t302.toList == ([] : List UInt8)) = false := beq_eq_false_iff_ne.mpr c17
            have c17b1 : (t302.toList != ([] : List UInt8)) = true := bne_iff_ne.mpr c17
            obtain rfl := Option.some.inj H
            go_wp2
            go_ret
            exact ⟨by first | rfl | (simp [errW_none, errW_some] <;> rfl) | (simp [*, errW_none, errW_some] <;> rfl), by repeat (first | (with_reducible first | exact HB.out | apply below_alloc | apply pw_below_drewN | apply below_drew1) | exact HB.out)⟩
        · replace c16 := Bool.eq_false_iff.mpr c16
          subst c16
          have H1 : ((tapewrightref01_Gcd.f a0 a1).bind fun t312 => (if t305.toList = t312.toList then (tapewrightlaw01_NatDivs.j1 kj6 a0 a1 t302 t303 t304 (t306 != 0)) else (tapewrightlaw01_NatDivs.j1 kj6 a0 a1 t302 t303 t304 true))) = some r := by rw [if_neg (show ¬ (false = true) by decide)] at H; exact H
          clear H
          have H := H1
          clear H1
          have HC29 := Aside0.mk H
          clear H
          go_upto_region 7 with (fail)
          go_cut [76] (fun v76 wc => ∃ (kq : Nat) (x76_28 : Bool), v76 = .bool x76_28 ∧ Aside0 (tapewrightlaw01_NatDivs.j1 kq a0 a1 t302 t303 t304 x76_28 = some r) ∧ Aside0 (kq ≤ kj6) ∧ Aside0 (Below w.heap.size w wc))
          case first =>
            have H := HC29.out
            clear HC29
            replace H := Option.bind_eq_some_iff.mp H
            obtain ⟨t312, A300, H⟩ := H
            replace H : (if t305.toList = t312.toList then (tapewrightlaw01_NatDivs.j1 kj6 a0 a1 t302 t303 t304 (t306 != 0)) else (tapewrightlaw01_NatDivs.j1 kj6 a0 a1 t302 t303 t304 true)) = some r := H
            have A30 := Aside0.mk A300
            clear A300
            by_cases c31 : t305.toList = t312.toList
            · rw [if_pos c31] at H
              have c31b0 : (t305.toList == t312.toList) = true := beq_iff_eq.mpr c31
              have c31b1 : (t305.toList != t312.toList) = false := bne_eq_false_iff_eq.mpr c31
              clear c31
              (first | rw [c31b0] | (simp only [i64_w, i32_w]; rw [c31b0]) | skip)
              have H' := Aside0.mk H
              clear H
              go_wp2_with (first | ((with_reducible refine gate_callee (f := 21) rfl ?_); refine goesL_ (some 71) rfl rfl Try.func21 (by kernel_rfl) rfl #[.string a0, .string a1] rfl (by (try simp only [List.map_toArray, List.map_cons, List.map_nil]); first | done | rfl | (simp only [List.length_drop, List.length_take]; rfl)) ?_; (with_reducible refine (tapewrightref01_Gcd.calls a0 a1 t312 _ A30.out).mono ?_); rintro e w32 ⟨rfl, hb⟩; refine ⟨_, rfl, ?_⟩; have n0_ := Aside0.mk (below_step (by repeat (first | (with_reducible first | exact HB.out | apply below_alloc | apply pw_below_drewN | apply below_drew1) | exact HB.out)) hb); clear HB; have HB := n0_; clear n0_; (try clear hb); (try clear hb2); (try clear hk); (try clear hi)))
              go_meet
              case rel => exact ⟨_, ((t306 != 0)), (by first | rfl | (simp; done) | (simp [*]; done)), H', ⟨by have := HJ6.out; first | omega | exact Nat.le_refl _⟩, ⟨by repeat (first | (with_reducible first | exact HB.out | apply below_alloc | apply pw_below_drewN | apply below_drew1) | exact HB.out)⟩⟩
            · rw [if_neg c31] at H
              have c31b0 : (t305.toList == t312.toList) = false := beq_eq_false_iff_ne.mpr c31
              have c31b1 : (t305.toList != t312.toList) = true := bne_iff_ne.mpr c31
              (first | rw [c31b0] | (simp only [i64_w, i32_w]; rw [c31b0]) | skip)
              have H' := Aside0.mk H
              clear H
              go_wp2_with (first | ((with_reducible refine gate_callee (f := 21) rfl ?_); refine goesL_ (some 71) rfl rfl Try.func21 (by kernel_rfl) rfl #[.string a0, .string a1] rfl (by (try simp only [List.map_toArray, List.map_cons, List.map_nil]); first | done | rfl | (simp only [List.length_drop, List.length_take]; rfl)) ?_; (with_reducible refine (tapewrightref01_Gcd.calls a0 a1 t312 _ A30.out).mono ?_); rintro e w33 ⟨rfl, hb⟩; refine ⟨_, rfl, ?_⟩; have n0_ := Aside0.mk (below_step (by repeat (first | (with_reducible first | exact HB.out | apply below_alloc | apply pw_below_drewN | apply below_drew1) | exact HB.out)) hb); clear HB; have HB := n0_; clear n0_; (try clear hb); (try clear hb2); (try clear hk); (try clear hi)))
              go_meet
              case rel => exact ⟨_, (true), (by first | rfl | (simp; done) | (simp [*]; done)), H', ⟨by have := HJ6.out; first | omega | exact Nat.le_refl _⟩, ⟨by repeat (first | (with_reducible first | exact HB.out | apply below_alloc | apply pw_below_drewN | apply below_drew1) | exact HB.out)⟩⟩
          case rest =>
            clear HC29
            try clear c1
            try clear c2
            try clear p2
            try clear c3
            try clear c4
            try clear c14
            try clear c16
            try clear c17
            try clear c17b0
            try clear c17b1
            try clear c18
            try clear c18b0
            try clear c18b1
            try clear c19
            try clear c19b0
            try clear c19b1
            try clear c20
            try clear c20b0
            try clear c20b1
            try clear c21
            try clear c21b0
            try clear c21b1
            try clear c24
            try clear c24b0
            try clear c24b1
            try clear c24b2
            try clear c31
            try clear c31b0
            try clear c31b1
            try clear p2
            obtain ⟨kq, x76_28, rfl, HA, HJ28, HB⟩ := hcut
            cases kq with
            | zero => exact absurd HA.out (by simp [tapewrightlaw01_NatDivs.j1])
            | succ kj28 =>
              have H := HA.out
              clear HA
              simp only [tapewrightlaw01_NatDivs.j1] at H
              by_cases c34 : x76_28 = true
              · subst c34
                have H1 : (some false) = some r := by rw [if_pos rfl] at H; exact H
                clear H
                have H := H1
                clear H1
                obtain rfl := Option.some.inj H
                go_wp2
                go_ret
                exact ⟨by first | rfl | (simp [errW_none, errW_some] <;> rfl) | (simp [*, errW_none, errW_some] <;> rfl), by repeat (first | (with_reducible first | exact HB.out | apply below_alloc | apply pw_below_drewN | apply below_drew1) | exact HB.out)⟩
              · replace c34 := Bool.eq_false_iff.mpr c34
                subst c34
                have H1 : (if a1.toList = ([48] : List UInt8) then (if t302.toList = ([] : List UInt8) then (if t303.toList = ([] : List UInt8) then (if t304 = 3 then ((tapewrightlaw01_awake.f).bind fun t313 => (some t313)) else (some false)) else (some false)) else (some false)) else ((tapewrightref01_Div.f a0 a1).bind fun bt314 => (if t302.toList = bt314.1.toList then (if t303.toList = bt314.2.toList then (if t304 = 0 then ((tapewrightlaw01_awake.f).bind fun t316 => (some t316)) else (some false)) else (some false)) else (some false)))) = some r := by rw [if_neg (show ¬ (false = true) by decide)] at H; exact H
                clear H
                have H := H1
                clear H1
                by_cases c35 : a1.toList = ([48] : List UInt8)
                · rw [if_pos c35] at H
                  have c35b0 : (a1.toList == ([48] : List UInt8)) = true := beq_iff_eq.mpr c35
                  have c35b1 : (a1.toList != ([48] : List UInt8)) = false := bne_eq_false_iff_eq.mpr c35
                  clear c35
                  by_cases c36 : t302.toList = ([] : List UInt8)
                  · rw [if_pos c36] at H
                    have c36b0 : (t302.toList == ([] : List UInt8)) = true := beq_iff_eq.mpr c36
                    have c36b1 : (t302.toList != ([] : List UInt8)) = false := bne_eq_false_iff_eq.mpr c36
                    clear c36
                    by_cases c37 : t303.toList = ([] : List UInt8)
                    · rw [if_pos c37] at H
                      have c37b0 : (t303.toList == ([] : List UInt8)) = true := beq_iff_eq.mpr c37
                      have c37b1 : (t303.toList != ([] : List UInt8)) = false := bne_eq_false_iff_eq.mpr c37
                      clear c37
                      by_cases c38 : t304 = 3
                      · rw [if_pos c38] at H
                        have c38b0 : (t304 == 3) = true := beq_iff_eq.mpr c38
                        have c38b1 : (t304 != 3) = false := bne_eq_false_iff_eq.mpr c38
                        clear c38
                        replace H := Option.bind_eq_some_iff.mp H
                        obtain ⟨t313, A390, H⟩ := H
                        replace H : (some t313) = some r := H
                        have A39 := Aside0.mk A390
                        clear A390
                        obtain rfl := Option.some.inj H
                        go_wp2_with (first | (go_at_call 15; (with_reducible refine (tapewrightlaw01_awake.calls  t313 _ A39.out).mono ?_); rintro e w40 ⟨rfl, hb⟩; have n0_ := Aside0.mk (below_step (by repeat (first | (with_reducible first | exact HB.out | apply below_alloc | apply pw_below_drewN | apply below_drew1) | exact HB.out)) hb); clear HB; have HB := n0_; clear n0_; (try clear hb); (try clear hb2); (try clear hk); (try clear hi)))
                        go_ret
                        exact ⟨by first | rfl | (simp [errW_none, errW_some] <;> rfl) | (simp [*, errW_none, errW_some] <;> rfl), by repeat (first | (with_reducible first | exact HB.out | apply below_alloc | apply pw_below_drewN | apply below_drew1) | exact HB.out)⟩
                      · rw [if_neg c38] at H
                        have c38b0 : (t304 == 3) = false := beq_eq_false_iff_ne.mpr c38
                        have c38b1 : (t304 != 3) = true := bne_iff_ne.mpr c38
                        obtain rfl := Option.some.inj H
                        go_wp2
                        go_ret
                        exact ⟨by first | rfl | (simp [errW_none, errW_some] <;> rfl) | (simp [*, errW_none, errW_some] <;> rfl), by repeat (first | (with_reducible first | exact HB.out | apply below_alloc | apply pw_below_drewN | apply below_drew1) | exact HB.out)⟩
                    · rw [if_neg c37] at H
                      have c37b0 : (t303.toList == ([] : List UInt8)) = false := beq_eq_false_iff_ne.mpr c37
                      have c37b1 : (t303.toList != ([] : List UInt8)) = true := bne_iff_ne.mpr c37
                      obtain rfl := Option.some.inj H
                      go_wp2
                      go_ret
                      exact ⟨by first | rfl | (simp [errW_none, errW_some] <;> rfl) | (simp [*, errW_none, errW_some] <;> rfl), by repeat (first | (with_reducible first | exact HB.out | apply below_alloc | apply pw_below_drewN | apply below_drew1) | exact HB.out)⟩
                  · rw [if_neg c36] at H
                    have c36b0 : (t302.toList == ([] : List UInt8)) = false := beq_eq_false_iff_ne.mpr c36
                    have c36b1 : (t302.toList != ([] : List UInt8)) = true := bne_iff_ne.mpr c36
                    obtain rfl := Option.some.inj H
                    go_wp2
                    go_ret
                    exact ⟨by first | rfl | (simp [errW_none, errW_some] <;> rfl) | (simp [*, errW_none, errW_some] <;> rfl), by repeat (first | (with_reducible first | exact HB.out | apply below_alloc | apply pw_below_drewN | apply below_drew1) | exact HB.out)⟩
                · rw [if_neg c35] at H
                  have c35b0 : (a1.toList == ([48] : List UInt8)) = false := beq_eq_false_iff_ne.mpr c35
                  have c35b1 : (a1.toList != ([48] : List UInt8)) = true := bne_iff_ne.mpr c35
                  replace H := Option.bind_eq_some_iff.mp H
                  obtain ⟨⟨t314, t315⟩, A410, H⟩ := H
                  replace H : (if t302.toList = t314.toList then (if t303.toList = t315.toList then (if t304 = 0 then ((tapewrightlaw01_awake.f).bind fun t316 => (some t316)) else (some false)) else (some false)) else (some false)) = some r := H
                  have A41 := Aside0.mk A410
                  clear A410
                  by_cases c42 : t302.toList = t314.toList
                  · rw [if_pos c42] at H
                    have c42b0 : (t302.toList == t314.toList) = true := beq_iff_eq.mpr c42
                    have c42b1 : (t302.toList != t314.toList) = false := bne_eq_false_iff_eq.mpr c42
                    clear c42
                    by_cases c43 : t303.toList = t315.toList
                    · rw [if_pos c43] at H
                      have c43b0 : (t303.toList == t315.toList) = true := beq_iff_eq.mpr c43
                      have c43b1 : (t303.toList != t315.toList) = false := bne_eq_false_iff_eq.mpr c43
                      clear c43
                      by_cases c44 : t304 = 0
                      · rw [if_pos c44] at H
                        have c44b0 : (t304 == 0) = true := beq_iff_eq.mpr c44
                        have c44b1 : (t304 != 0) = false := bne_eq_false_iff_eq.mpr c44
                        clear c44
                        replace H := Option.bind_eq_some_iff.mp H
                        obtain ⟨t316, A450, H⟩ := H
                        replace H : (some t316) = some r := H
                        have A45 := Aside0.mk A450
                        clear A450
                        obtain rfl := Option.some.inj H
                        go_wp2_with (first | ((with_reducible refine gate_callee (f := 22) rfl ?_); refine goesL_ (some 95) rfl rfl Try.func22 (by kernel_rfl) rfl #[.string a0, .string a1] rfl (by (try simp only [List.map_toArray, List.map_cons, List.map_nil]); first | done | rfl | (simp only [List.length_drop, List.length_take]; rfl)) ?_; (with_reducible refine (tapewrightref01_Div.calls a0 a1 t314 t315 _ A41.out).mono ?_); rintro e w46 ⟨rfl, hb⟩; refine ⟨_, rfl, ?_⟩; have n0_ := Aside0.mk (below_step (by repeat (first | (with_reducible first | exact HB.out | apply below_alloc | apply pw_below_drewN | apply below_drew1) | exact HB.out)) hb); clear HB; have HB := n0_; clear n0_; (try clear hb); (try clear hb2); (try clear hk); (try clear hi)) | (go_at_call 15; (with_reducible refine (tapewrightlaw01_awake.calls  t316 _ A45.out).mono ?_); rintro e w47 ⟨rfl, hb⟩; have n0_ := Aside0.mk (below_step (by repeat (first | (with_reducible first | exact HB.out | apply below_alloc | apply pw_below_drewN | apply below_drew1) | exact HB.out)) hb); clear HB; have HB := n0_; clear n0_; (try clear hb); (try clear hb2); (try clear hk); (try clear hi)))
                        go_ret
                        exact ⟨by first | rfl | (simp [errW_none, errW_some] <;> rfl) | (simp [*, errW_none, errW_some] <;> rfl), by repeat (first | (with_reducible first | exact HB.out | apply below_alloc | apply pw_below_drewN | apply below_drew1) | exact HB.out)⟩
                      · rw [if_neg c44] at H
                        have c44b0 : (t304 == 0) = false := beq_eq_false_iff_ne.mpr c44
                        have c44b1 : (t304 != 0) = true := bne_iff_ne.mpr c44
                        obtain rfl := Option.some.inj H
                        go_wp2_with (first | ((with_reducible refine gate_callee (f := 22) rfl ?_); refine goesL_ (some 95) rfl rfl Try.func22 (by kernel_rfl) rfl #[.string a0, .string a1] rfl (by (try simp only [List.map_toArray, List.map_cons, List.map_nil]); first | done | rfl | (simp only [List.length_drop, List.length_take]; rfl)) ?_; (with_reducible refine (tapewrightref01_Div.calls a0 a1 t314 t315 _ A41.out).mono ?_); rintro e w48 ⟨rfl, hb⟩; refine ⟨_, rfl, ?_⟩; have n0_ := Aside0.mk (below_step (by repeat (first | (with_reducible first | exact HB.out | apply below_alloc | apply pw_below_drewN | apply below_drew1) | exact HB.out)) hb); clear HB; have HB := n0_; clear n0_; (try clear hb); (try clear hb2); (try clear hk); (try clear hi)))
                        go_ret
                        exact ⟨by first | rfl | (simp [errW_none, errW_some] <;> rfl) | (simp [*, errW_none, errW_some] <;> rfl), by repeat (first | (with_reducible first | exact HB.out | apply below_alloc | apply pw_below_drewN | apply below_drew1) | exact HB.out)⟩
                    · rw [if_neg c43] at H
                      have c43b0 : (t303.toList == t315.toList) = false := beq_eq_false_iff_ne.mpr c43
                      have c43b1 : (t303.toList != t315.toList) = true := bne_iff_ne.mpr c43
                      obtain rfl := Option.some.inj H
                      go_wp2_with (first | ((with_reducible refine gate_callee (f := 22) rfl ?_); refine goesL_ (some 95) rfl rfl Try.func22 (by kernel_rfl) rfl #[.string a0, .string a1] rfl (by (try simp only [List.map_toArray, List.map_cons, List.map_nil]); first | done | rfl | (simp only [List.length_drop, List.length_take]; rfl)) ?_; (with_reducible refine (tapewrightref01_Div.calls a0 a1 t314 t315 _ A41.out).mono ?_); rintro e w49 ⟨rfl, hb⟩; refine ⟨_, rfl, ?_⟩; have n0_ := Aside0.mk (below_step (by repeat (first | (with_reducible first | exact HB.out | apply below_alloc | apply pw_below_drewN | apply below_drew1) | exact HB.out)) hb); clear HB; have HB := n0_; clear n0_; (try clear hb); (try clear hb2); (try clear hk); (try clear hi)))
                      go_ret
                      exact ⟨by first | rfl | (simp [errW_none, errW_some] <;> rfl) | (simp [*, errW_none, errW_some] <;> rfl), by repeat (first | (with_reducible first | exact HB.out | apply below_alloc | apply pw_below_drewN | apply below_drew1) | exact HB.out)⟩
                  · rw [if_neg c42] at H
                    have c42b0 : (t302.toList == t314.toList) = false := beq_eq_false_iff_ne.mpr c42
                    have c42b1 : (t302.toList != t314.toList) = true := bne_iff_ne.mpr c42
                    obtain rfl := Option.some.inj H
                    go_wp2_with (first | ((with_reducible refine gate_callee (f := 22) rfl ?_); refine goesL_ (some 95) rfl rfl Try.func22 (by kernel_rfl) rfl #[.string a0, .string a1] rfl (by (try simp only [List.map_toArray, List.map_cons, List.map_nil]); first | done | rfl | (simp only [List.length_drop, List.length_take]; rfl)) ?_; (with_reducible refine (tapewrightref01_Div.calls a0 a1 t314 t315 _ A41.out).mono ?_); rintro e w50 ⟨rfl, hb⟩; refine ⟨_, rfl, ?_⟩; have n0_ := Aside0.mk (below_step (by repeat (first | (with_reducible first | exact HB.out | apply below_alloc | apply pw_below_drewN | apply below_drew1) | exact HB.out)) hb); clear HB; have HB := n0_; clear n0_; (try clear hb); (try clear hb2); (try clear hk); (try clear hi)))
                    go_ret
                    exact ⟨by first | rfl | (simp [errW_none, errW_some] <;> rfl) | (simp [*, errW_none, errW_some] <;> rfl), by repeat (first | (with_reducible first | exact HB.out | apply below_alloc | apply pw_below_drewN | apply below_drew1) | exact HB.out)⟩
  · replace c4 := Bool.eq_false_iff.mpr c4
    subst c4
    have H1 : ((tapewrightlaw01_awake.f).bind fun t301 => (some t301)) = some r := by rw [if_neg (show ¬ (false = true) by decide)] at H; exact H
    clear H
    have H := H1
    clear H1
    replace H := Option.bind_eq_some_iff.mp H
    obtain ⟨t301, A510, H⟩ := H
    replace H : (some t301) = some r := H
    have A51 := Aside0.mk A510
    clear A510
    obtain rfl := Option.some.inj H
    go_enter Try.func4, Try.ntmps4
    go_wp2_with (first | ((with_reducible refine gate_dst (N := 14) rfl ?_); refine Kd.R_lit Kd.string _ 9 ?hg (N := 14) ?hd (xs := ([a0, a1] : List ByteArray)) (inner := [.string a0, .string a1]) (ok := fun _ => True) (okp := fun _ => True) ?hr ?hp (fun _ hk => hk) trivial (Below.refl _ _) (Nat.le_refl _) (by simp) ?_; (case hd => rfl); (case hg => rfl); (case hr => first | (go_simp; done) | (go_simp; rfl)); (case hp => exact (Reps.one (show Kd.M Kd.string _ _ _ a0 [.string a0] from rfl) (Reps.one (show Kd.M Kd.string _ _ _ a1 [.string a1] from rfl) (Reps.none _ _)))); intro v298 w52 ho53 hb hg_ hnew_; clear hg_ hnew_; (first | rw [← Ny297.out] at ho53 | (simp only [Int.reduceToNat] at ho53; rw [← Ny297.out] at ho53)); have n0_ := Aside0.mk (Kd.R_lower ho53 (below_size (by repeat (first | (with_reducible first | exact HB.out | apply below_alloc | apply pw_below_drewN | apply below_drew1) | exact HB.out)))); have n1_ := Aside0.mk (below_step (by repeat (first | (with_reducible first | exact HB.out | apply below_alloc | apply pw_below_drewN | apply below_drew1) | exact HB.out)) hb); clear HB; have HO299 := n0_; have HB := n1_; clear n0_ n1_; clear hb ho53; obtain ⟨Ao54, co54, eo54⟩ := Kd.R_slice HO299.out; subst eo54) | ((with_reducible refine gate_callee (f := 18) rfl ?_); refine goesL_ (some 15) rfl rfl Try.func18 (by kernel_rfl) rfl #[.slice Ao54 y297.length co54] rfl (by (try simp only [List.map_toArray, List.map_cons, List.map_nil]); first | done | rfl | (simp only [List.length_drop, List.length_take]; rfl)) ?_; (with_reducible refine (tapewrightlaw01_short.calls k _ _ y297 false _ ?side1 ?side2 A3.out).mono ?_); (case side1 => repeat (first | exact (Kd.R_reads' HO299.out).2.2 | (with_reducible refine Kd.C_alloc ?_ _) | (with_reducible refine Kd.C_drewN ?_ _) | (with_reducible refine Kd.C_drew ?_))); (case side2 => exact (Kd.R_reads' HO299.out).2.1); rintro e w' ⟨rfl, ⟨nd, rfl⟩⟩; refine ⟨_, rfl, ?_⟩) | ((with_reducible refine gate_callee (f := 15) rfl ?_); refine goesL_ (some 17) rfl rfl Try.func15 (by kernel_rfl) rfl #[] rfl (by (try simp only [List.map_toArray, List.map_cons, List.map_nil]); first | done | rfl | (simp only [List.length_drop, List.length_take]; rfl)) ?_; (with_reducible refine (tapewrightlaw01_awake.calls  t301 _ A51.out).mono ?_); rintro e w55 ⟨rfl, hb⟩; refine ⟨_, rfl, ?_⟩; have n0_ := Aside0.mk (Kd.R_below (by (with_reducible repeat (first | apply Kd.R_alloc | apply Kd.R_drewN | apply Kd.R_drew)); exact HO299.out) hb); have n1_ := Aside0.mk (below_step (by repeat (first | (with_reducible first | exact HB.out | apply below_alloc | apply pw_below_drewN | apply below_drew1) | exact HB.out)) hb); clear HO299; clear HB; have HO299 := n0_; have HB := n1_; clear n0_ n1_; (try clear hb); (try clear hb2); (try clear hk); (try clear hi)))
    go_ret
    exact ⟨by first | rfl | (simp [errW_none, errW_some] <;> rfl) | (simp [*, errW_none, errW_some] <;> rfl), by repeat (first | (with_reducible first | exact HB.out | apply below_alloc | apply pw_below_drewN | apply below_drew1) | exact HB.out)⟩

/-- THE ONE PURE STATEMENT of tapewrightlaw01_NatDivs: yours. -/
def tapewrightlaw01_NatDivs.Pure : Prop := ∀ (a0 : ByteArray) (a1 : ByteArray), a0.size ≤ 140737488351232 → a1.size ≤ 140737488351232 → ∃ k, tapewrightlaw01_NatDivs.f k a0 a1 = some true
theorem tapewrightlaw01_NatDivs.walk (P : tapewrightlaw01_NatDivs.Pure) (a0 : ByteArray) (a1 : ByteArray) (w : World) (w0 : a0.size ≤ 140737488351232) (w1 : a1.size ≤ 140737488351232) :
    Calls Try.prog 4 #[.string a0, .string a1] w fun e w' => e = .returned (.bool true) ∧ Below w.heap.size w w' := by
  obtain ⟨k, h⟩ := P a0 a1 w0 w1
  refine (tapewrightlaw01_NatDivs.calls k a0 a1 true w h).mono ?_
  rintro e w' ⟨rfl, hd⟩
  exact ⟨rfl, hd⟩

end Go.Proofs.Ytpjpgfaidallhaa.PQ
