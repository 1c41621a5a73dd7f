-- by wip/tool/mine.py of this repo (the kit's printer with given contracts)
import Derived.Test.YtpjpgfaidallhaaPAx0
import Derived.Test.YtpjpgfaidallhaaPAx2
import Derived.Test.YtpjpgfaidallhaaPAx4
import Derived.Test.YtpjpgfaidallhaaPAx6
import Derived.Test.YtpjpgfaidallhaaPAx10
namespace Go.Proofs.Ytpjpgfaidallhaa.PA
open Go.RowKit Go.Proofs.YtpjpgfaidallhaaW.PrintWords Go.Proofs.YtpjpgfaidallhaaW.PrintLast Go.Proofs.YtpjpgfaidallhaaW.PrintMore
attribute [local go_sem] max2_int min2_int max_two min_two max_three min_three max_four min_four   -- for this text's walks alone
set_option linter.unusedVariables false
set_option linter.unusedSimpArgs false

/-! ### nat_Div: function 17 -/
def nat_Div.f (k : Nat) (a0 : ByteArray) (a1 : ByteArray) : Option (ByteArray × ByteArray × Int) := (nat_both.f k a0 a1).bind fun bt334 => (if bt334.2.2 = true then (if (bt334.2.1.length : Int) = 0 then (some ((⟨#[]⟩ : ByteArray), (⟨#[]⟩ : ByteArray), 3)) else ((nat_divide.f k bt334.1 bt334.2.1).bind fun bt341 => ((nat_text.f k bt341.1).bind fun t347 => ((nat_text.f k bt341.2).bind fun t348 => (some (t347, t348, 0)))))) else (some ((⟨#[]⟩ : ByteArray), (⟨#[]⟩ : ByteArray), 2)))
theorem nat_Div.mono : ∀ a0 a1 k, LeO (nat_Div.f k a0 a1) (nat_Div.f (k + 1) a0 a1) := by
  intro a0 a1 k
  unfold nat_Div.f
  repeat' first
      | (with_reducible exact nat_both.mono _ _ _)
      | (with_reducible exact nat_divide.mono _ _ _)
      | (with_reducible exact nat_text.mono _ _)
      | (with_reducible exact LeO.refl _)
      | (with_reducible exact LeO.none _)
      | (with_reducible refine LeO.ite ?_ ?_)
      | (with_reducible refine LeO.bind ?_ (fun _ => ?_))
      | exact nat_both.mono _ _ _
      | exact nat_divide.mono _ _ _
      | exact nat_text.mono _ _
      | exact LeO.none _
      | refine LeO.ite ?_ ?_
      | refine LeO.bind ?_ (fun _ => ?_)
set_option maxHeartbeats 8000000 in
set_option maxRecDepth 100000 in
theorem nat_Div.calls (k : Nat) (a0 : ByteArray) (a1 : ByteArray) (r1 : ByteArray) (r2 : ByteArray) (r3 : Int) (w : World) (h : nat_Div.f k a0 a1 = some (r1, r2, r3)) :
    Calls Try.prog 17 #[.string a0, .string a1] w fun e w' => e = .returned (.tuple #[.string r1, .string r2, .int .i64 r3]) ∧ Below w.heap.size w w' := by
  have HB := Aside0.mk (Below.refl w.heap.size w)
  have H : ((nat_both.f k a0 a1).bind fun bt334 => (if bt334.2.2 = true then (if (bt334.2.1.length : Int) = 0 then (some ((⟨#[]⟩ : ByteArray), (⟨#[]⟩ : ByteArray), 3)) else ((nat_divide.f k bt334.1 bt334.2.1).bind fun bt341 => ((nat_text.f k bt341.1).bind fun t347 => ((nat_text.f k bt341.2).bind fun t348 => (some (t347, t348, 0)))))) else (some ((⟨#[]⟩ : ByteArray), (⟨#[]⟩ : ByteArray), 2)))) = some (r1, r2, r3) := h
  clear h
  replace H := Option.bind_eq_some_iff.mp H
  obtain ⟨⟨t334, t335, t336⟩, A30, H⟩ := H
  replace H : (if t336 = true then (if (t335.length : Int) = 0 then (some ((⟨#[]⟩ : ByteArray), (⟨#[]⟩ : ByteArray), 3)) else ((nat_divide.f k t334 t335).bind fun bt341 => ((nat_text.f k bt341.1).bind fun t347 => ((nat_text.f k bt341.2).bind fun t348 => (some (t347, t348, 0)))))) else (some ((⟨#[]⟩ : ByteArray), (⟨#[]⟩ : ByteArray), 2))) = some (r1, r2, r3) := H
  have A3 := Aside0.mk A30
  clear A30
  by_cases c4 : t336 = true
  · subst c4
    have H1 : (if (t335.length : Int) = 0 then (some ((⟨#[]⟩ : ByteArray), (⟨#[]⟩ : ByteArray), 3)) else ((nat_divide.f k t334 t335).bind fun bt341 => ((nat_text.f k bt341.1).bind fun t347 => ((nat_text.f k bt341.2).bind fun t348 => (some (t347, t348, 0)))))) = some (r1, r2, r3) := by rw [if_pos rfl] at H; exact H
    clear H
    have H := H1
    clear H1
    by_cases c5 : (t335.length : Int) = 0
    · rw [if_pos c5] at H
      have c5b0 : ((t335.length : Int) == 0) = true := beq_iff_eq.mpr c5
      have c5b1 : ((t335.length : Int) != 0) = false := bne_eq_false_iff_eq.mpr c5
      clear c5
      simp only [Option.some.injEq, Prod.mk.injEq] at H
      obtain ⟨rfl, rfl, rfl⟩ := H
      go_enter Try.func17, Try.ntmps17
      go_wp2_with (first | ((with_reducible refine gate_callee (f := 31) rfl ?_); refine goesL_ (some 15) rfl rfl Try.func31 (by kernel_rfl) rfl #[.string a0, .string a1] rfl (by (try simp only [List.map_toArray, List.map_cons, List.map_nil]); first | done | rfl | (simp only [List.length_drop, List.length_take]; rfl)) ?_; (with_reducible refine (nat_both.calls k a0 a1 t334 t335 true _ A3.out).mono ?_); rintro e w6 ⟨v337, v339, rfl, ho0, ho1, hb⟩; refine ⟨_, rfl, ?_⟩; have n0_ := Aside0.mk (Kd.R_lower ho0 (below_size (by repeat (first | (with_reducible first | exact HB.out | apply below_alloc | apply pw_below_drewN | apply below_drew1) | exact HB.out)))); have n1_ := Aside0.mk (Kd.R_lower ho1 (below_size (by repeat (first | (with_reducible first | exact HB.out | apply below_alloc | apply pw_below_drewN | apply below_drew1) | exact HB.out)))); have n2_ := Aside0.mk (below_step (by repeat (first | (with_reducible first | exact HB.out | apply below_alloc | apply pw_below_drewN | apply below_drew1) | exact HB.out)) hb); clear HB; have HO338 := n0_; have HO340 := n1_; have HB := n2_; clear n0_ n1_ n2_; (try clear hb); (try clear hb2); (try clear hk); (try clear hi); (try clear ho0); (try clear ho1); obtain ⟨Ao7, co7, eo7⟩ := Kd.R_slice HO340.out; subst eo7))
      go_ret3
      exact ⟨by first | rfl | (simp [errW_none, errW_some] <;> rfl) | (simp [*, errW_none, errW_some] <;> rfl), by repeat (first | (with_reducible first | exact HB.out | apply below_alloc | apply pw_below_drewN | apply below_drew1) | exact HB.out)⟩
    · rw [if_neg c5] at H
      have c5b0 : ((t335.length : Int) == 0) = false := beq_eq_false_iff_ne.mpr c5
      have c5b1 : ((t335.length : Int) != 0) = true := bne_iff_ne.mpr c5
      have c5b2 : ¬ (t335 = []) := fun h_ => c5 (by rw [h_]; rfl)
      replace H := Option.bind_eq_some_iff.mp H
      obtain ⟨⟨t341, t344⟩, A80, H⟩ := H
      replace H : ((nat_text.f k t341).bind fun t347 => ((nat_text.f k t344).bind fun t348 => (some (t347, t348, 0)))) = some (r1, r2, r3) := H
      have A8 := Aside0.mk A80
      clear A80
      replace H := Option.bind_eq_some_iff.mp H
      obtain ⟨t347, A90, H⟩ := H
      replace H : ((nat_text.f k t344).bind fun t348 => (some (t347, t348, 0))) = some (r1, r2, r3) := H
      have A9 := Aside0.mk A90
      clear A90
      replace H := Option.bind_eq_some_iff.mp H
      obtain ⟨t348, A100, H⟩ := H
      replace H : (some (t347, t348, 0)) = some (r1, r2, r3) := H
      have A10 := Aside0.mk A100
      clear A100
      simp only [Option.some.injEq, Prod.mk.injEq] at H
      obtain ⟨rfl, rfl, rfl⟩ := H
      go_enter Try.func17, Try.ntmps17
      go_wp2_with (first | ((with_reducible refine gate_callee (f := 31) rfl ?_); refine goesL_ (some 15) rfl rfl Try.func31 (by kernel_rfl) rfl #[.string a0, .string a1] rfl (by (try simp only [List.map_toArray, List.map_cons, List.map_nil]); first | done | rfl | (simp only [List.length_drop, List.length_take]; rfl)) ?_; (with_reducible refine (nat_both.calls k a0 a1 t334 t335 true _ A3.out).mono ?_); rintro e w11 ⟨v337, v339, rfl, ho0, ho1, hb⟩; refine ⟨_, rfl, ?_⟩; have n0_ := Aside0.mk (Kd.R_lower ho0 (below_size (by repeat (first | (with_reducible first | exact HB.out | apply below_alloc | apply pw_below_drewN | apply below_drew1) | exact HB.out)))); have n1_ := Aside0.mk (Kd.R_lower ho1 (below_size (by repeat (first | (with_reducible first | exact HB.out | apply below_alloc | apply pw_below_drewN | apply below_drew1) | exact HB.out)))); have n2_ := Aside0.mk (below_step (by repeat (first | (with_reducible first | exact HB.out | apply below_alloc | apply pw_below_drewN | apply below_drew1) | exact HB.out)) hb); clear HB; have HO338 := n0_; have HO340 := n1_; have HB := n2_; clear n0_ n1_ n2_; (try clear hb); (try clear hb2); (try clear hk); (try clear hi); (try clear ho0); (try clear ho1); obtain ⟨Ao12, co12, eo12⟩ := Kd.R_slice HO340.out; subst eo12; obtain ⟨Ao13, co13, eo13⟩ := Kd.R_slice HO338.out; subst eo13) | ((with_reducible refine gate_callee (f := 34) rfl ?_); refine goesL_ (some 29) rfl rfl Try.func34 (by kernel_rfl) rfl #[.slice Ao13 t334.length co13, .slice Ao12 t335.length co12] rfl (by (try simp only [List.map_toArray, List.map_cons, List.map_nil]); first | done | rfl | (simp only [List.length_drop, List.length_take]; rfl)) ?_; (with_reducible refine (nat_divide.calls k (fun k_ => some k_ = (.slice Ao13 t334.length co13 : Value).ownBlock) (.slice Ao13 t334.length co13) t334 _ _ t335 t341 t344 w _ ?side1 ?side2 ?side3 ?side4 A8.out).mono ?_); (case side1 => repeat (first | (with_reducible first | exact HB.out | apply below_alloc | apply pw_below_drewN | apply below_drew1) | exact HB.out)); (case side2 => exact Kd.R_tight rfl HO338.out); (case side3 => exact Kd.C_kept_own (HO340.out) (fun k_ hk_ hs_ => (hk_) hs_)); (case side4 => exact (Kd.R_reads' HO340.out).2.1); rintro e w14 ⟨v342, v345, rfl, ho0, ho1, hb, hkp⟩; refine ⟨_, rfl, ?_⟩; have n0_ := Aside0.mk (Kd.R_mono (ok' := fun k_ => some k_ ≠ (v342 : Value).ownBlock ∧ some k_ ≠ (v345 : Value).ownBlock) (Kd.R_keptB (HO340.out) hkp (fun k_ hk_ hs_ => (hk_) hs_)) (fun k_ hk_ => ⟨fun e_ => Or.elim (ho0.1 k_ e_.symm).1 (fun hs_ => hk_.2.1 hs_) (fun hn_ => Nat.not_le.2 hk_.2.2 hn_), fun e_ => Or.elim (ho1.1 k_ e_.symm).1 (fun hs_ => hk_.2.1 hs_) (fun hn_ => Nat.not_le.2 hk_.2.2 hn_)⟩)); have n1_ := Aside0.mk (Kd.R_mono (ok' := fun k_ => some k_ ≠ (v345 : Value).ownBlock ∧ some k_ ≠ (.slice Ao12 t335.length co12 : Value).ownBlock) ho0 (fun k_ hk_ => ⟨hk_.2, Or.elim hk_.1 (fun hs_ => fun e_ => (((HO340.out).1 k_ e_.symm)) hs_) (fun hn_ => (Kd.fresh' (Kd.R_lt (by (with_reducible repeat (first | apply Kd.R_alloc | apply Kd.R_drewN | apply Kd.R_drew)); exact HO340.out)) k_ hn_))⟩)); have n2_ := Aside0.mk (Kd.R_mono (ok' := fun k_ => some k_ ≠ (v342 : Value).ownBlock ∧ some k_ ≠ (.slice Ao12 t335.length co12 : Value).ownBlock) ho1 (fun k_ hk_ => ⟨hk_.2, Or.elim hk_.1 (fun hs_ => fun e_ => (((HO340.out).1 k_ e_.symm)) hs_) (fun hn_ => (Kd.fresh' (Kd.R_lt (by (with_reducible repeat (first | apply Kd.R_alloc | apply Kd.R_drewN | apply Kd.R_drew)); exact HO340.out)) k_ hn_))⟩)); have n3_ := Aside0.mk (hb); clear HO340; clear HB; clear HO338; have HO340 := n0_; have HO343 := n1_; have HO346 := n2_; have HB := n3_; clear n0_ n1_ n2_ n3_; (try clear hb); (try clear hkp); (try clear ho0); (try clear ho1); obtain ⟨Ao15, co15, eo15⟩ := Kd.R_slice HO343.out; subst eo15) | ((with_reducible refine gate_callee (f := 32) rfl ?_); refine goesL_ (some 33) rfl rfl Try.func32 (by kernel_rfl) rfl #[.slice Ao15 t341.length co15] rfl (by (try simp only [List.map_toArray, List.map_cons, List.map_nil]); first | done | rfl | (simp only [List.length_drop, List.length_take]; rfl)) ?_; (with_reducible refine (nat_text.calls k (fun k_ => some k_ = (.slice Ao15 t341.length co15 : Value).ownBlock) _ _ t341 t347 _ ?side1 A9.out).mono ?_); (case side1 => exact Kd.R_V (Kd.R_tight rfl (HO343.out))); rintro e w16 ⟨rfl, hb⟩; refine ⟨_, rfl, ?_⟩; have n0_ := Aside0.mk (Kd.R_below (by (with_reducible repeat (first | apply Kd.R_alloc | apply Kd.R_drewN | apply Kd.R_drew)); exact HO340.out) hb); have n1_ := Aside0.mk (Kd.R_below (by (with_reducible repeat (first | apply Kd.R_alloc | apply Kd.R_drewN | apply Kd.R_drew)); exact HO343.out) hb); have n2_ := Aside0.mk (Kd.R_below (by (with_reducible repeat (first | apply Kd.R_alloc | apply Kd.R_drewN | apply Kd.R_drew)); exact HO346.out) hb); have n3_ := Aside0.mk (below_step (by repeat (first | (with_reducible first | exact HB.out | apply below_alloc | apply pw_below_drewN | apply below_drew1) | exact HB.out)) hb); clear HO340; clear HO343; clear HO346; clear HB; have HO340 := n0_; have HO343 := n1_; have HO346 := n2_; have HB := n3_; clear n0_ n1_ n2_ n3_; (try clear hb); (try clear hb2); (try clear hk); (try clear hi); obtain ⟨Ao17, co17, eo17⟩ := Kd.R_slice HO346.out; subst eo17) | ((with_reducible refine gate_callee (f := 32) rfl ?_); refine goesL_ (some 35) rfl rfl Try.func32 (by kernel_rfl) rfl #[.slice Ao17 t344.length co17] rfl (by (try simp only [List.map_toArray, List.map_cons, List.map_nil]); first | done | rfl | (simp only [List.length_drop, List.length_take]; rfl)) ?_; (with_reducible refine (nat_text.calls k (fun k_ => some k_ = (.slice Ao17 t344.length co17 : Value).ownBlock) _ _ t344 t348 _ ?side1 A10.out).mono ?_); (case side1 => exact Kd.R_V (Kd.R_tight rfl (HO346.out))); rintro e w18 ⟨rfl, hb⟩; refine ⟨_, rfl, ?_⟩; have n0_ := Aside0.mk (Kd.R_below (by (with_reducible repeat (first | apply Kd.R_alloc | apply Kd.R_drewN | apply Kd.R_drew)); exact HO340.out) hb); have n1_ := Aside0.mk (Kd.R_below (by (with_reducible repeat (first | apply Kd.R_alloc | apply Kd.R_drewN | apply Kd.R_drew)); exact HO343.out) hb); have n2_ := Aside0.mk (Kd.R_below (by (with_reducible repeat (first | apply Kd.R_alloc | apply Kd.R_drewN | apply Kd.R_drew)); exact HO346.out) hb); have n3_ := Aside0.mk (below_step (by repeat (first | (with_reducible first | exact HB.out | apply below_alloc | apply pw_below_drewN | apply below_drew1) | exact HB.out)) hb); clear HO340; clear HO343; clear HO346; clear HB; have HO340 := n0_; have HO343 := n1_; have HO346 := n2_; have HB := n3_; clear n0_ n1_ n2_ n3_; (try clear hb); (try clear hb2); (try clear hk); (try clear hi)))
      go_ret3
      exact ⟨by first | rfl | (simp [errW_none, errW_some] <;> rfl) | (simp [*, errW_none, errW_some] <;> rfl), by repeat (first | (with_reducible first | exact HB.out | apply below_alloc | apply pw_below_drewN | apply below_drew1) | exact HB.out)⟩
  · replace c4 := Bool.eq_false_iff.mpr c4
    subst c4
    have H1 : (some ((⟨#[]⟩ : ByteArray), (⟨#[]⟩ : ByteArray), 2)) = some (r1, r2, r3) := by rw [if_neg (show ¬ (false = true) by decide)] at H; exact H
    clear H
    have H := H1
    clear H1
    simp only [Option.some.injEq, Prod.mk.injEq] at H
    obtain ⟨rfl, rfl, rfl⟩ := H
    go_enter Try.func17, Try.ntmps17
    go_wp2_with (first | ((with_reducible refine gate_callee (f := 31) rfl ?_); refine goesL_ (some 15) rfl rfl Try.func31 (by kernel_rfl) rfl #[.string a0, .string a1] rfl (by (try simp only [List.map_toArray, List.map_cons, List.map_nil]); first | done | rfl | (simp only [List.length_drop, List.length_take]; rfl)) ?_; (with_reducible refine (nat_both.calls k a0 a1 t334 t335 false _ A3.out).mono ?_); rintro e w19 ⟨v337, v339, rfl, ho0, ho1, hb⟩; refine ⟨_, rfl, ?_⟩; have n0_ := Aside0.mk (Kd.R_lower ho0 (below_size (by repeat (first | (with_reducible first | exact HB.out | apply below_alloc | apply pw_below_drewN | apply below_drew1) | exact HB.out)))); have n1_ := Aside0.mk (Kd.R_lower ho1 (below_size (by repeat (first | (with_reducible first | exact HB.out | apply below_alloc | apply pw_below_drewN | apply below_drew1) | exact HB.out)))); have n2_ := Aside0.mk (below_step (by repeat (first | (with_reducible first | exact HB.out | apply below_alloc | apply pw_below_drewN | apply below_drew1) | exact HB.out)) hb); clear HB; have HO338 := n0_; have HO340 := n1_; have HB := n2_; clear n0_ n1_ n2_; (try clear hb); (try clear hb2); (try clear hk); (try clear hi); (try clear ho0); (try clear ho1)))
    go_ret3
    exact ⟨by first | rfl | (simp [errW_none, errW_some] <;> rfl) | (simp [*, errW_none, errW_some] <;> rfl), by repeat (first | (with_reducible first | exact HB.out | apply below_alloc | apply pw_below_drewN | apply below_drew1) | exact HB.out)⟩

/-! ### nat_Gcd: function 19 -/
def nat_Gcd.l0 : Nat → List Int → List Int → Option (ByteArray × Int)
  | 0, _, _ => none
  | k + 1, x6, x7 => if (x7.length : Int) > 0 then ((nat_divide.f k x6 x7).bind fun bt356 => (nat_Gcd.l0 k x7 bt356.2)) else ((nat_text.f k x6).bind fun t362 => (some (t362, 0)))
def nat_Gcd.f (k : Nat) (a0 : ByteArray) (a1 : ByteArray) : Option (ByteArray × Int) := (nat_both.f k a0 a1).bind fun bt349 => (if bt349.2.2 = true then (nat_Gcd.l0 k bt349.1 bt349.2.1) else (some ((⟨#[]⟩ : ByteArray), 2)))
theorem nat_Gcd.mono_l : ∀ k, (∀ y0 y1, LeO (nat_Gcd.l0 k y0 y1) (nat_Gcd.l0 (k + 1) y0 y1))
  | 0 => fun _ _ r h => by simp [nat_Gcd.l0] at h
  | k + 1 => by
    have ih0 := nat_Gcd.mono_l k
    · intro y0 y1
      unfold nat_Gcd.l0
      repeat' first
      | (with_reducible exact ih0 _ _)
      | (with_reducible exact nat_both.mono _ _ _)
      | (with_reducible exact nat_divide.mono _ _ _)
      | (with_reducible exact nat_text.mono _ _)
      | (with_reducible exact LeO.refl _)
      | (with_reducible exact LeO.none _)
      | (with_reducible refine LeO.ite ?_ ?_)
      | (with_reducible refine LeO.bind ?_ (fun _ => ?_))
      | exact ih0 _ _
      | exact nat_both.mono _ _ _
      | exact nat_divide.mono _ _ _
      | exact nat_text.mono _ _
      | exact LeO.none _
      | refine LeO.ite ?_ ?_
      | refine LeO.bind ?_ (fun _ => ?_)
theorem nat_Gcd.mono : ∀ a0 a1 k, LeO (nat_Gcd.f k a0 a1) (nat_Gcd.f (k + 1) a0 a1) := by
  intro a0 a1 k
  have ih0 := nat_Gcd.mono_l k
  unfold nat_Gcd.f
  repeat' first
      | (with_reducible exact ih0 _ _)
      | (with_reducible exact nat_both.mono _ _ _)
      | (with_reducible exact nat_divide.mono _ _ _)
      | (with_reducible exact nat_text.mono _ _)
      | (with_reducible exact LeO.refl _)
      | (with_reducible exact LeO.none _)
      | (with_reducible refine LeO.ite ?_ ?_)
      | (with_reducible refine LeO.bind ?_ (fun _ => ?_))
      | exact ih0 _ _
      | exact nat_both.mono _ _ _
      | exact nat_divide.mono _ _ _
      | exact nat_text.mono _ _
      | exact LeO.none _
      | refine LeO.ite ?_ ?_
      | refine LeO.bind ?_ (fun _ => ?_)
set_option maxHeartbeats 8000000 in
set_option maxRecDepth 100000 in
theorem nat_Gcd.calls (k : Nat) (a0 : ByteArray) (a1 : ByteArray) (r1 : ByteArray) (r2 : Int) (w : World) (h : nat_Gcd.f k a0 a1 = some (r1, r2)) :
    Calls Try.prog 19 #[.string a0, .string a1] w fun e w' => e = .returned (.tuple #[.string r1, .int .i64 r2]) ∧ Below w.heap.size w w' := by
  have HB := Aside0.mk (Below.refl w.heap.size w)
  have H : ((nat_both.f k a0 a1).bind fun bt349 => (if bt349.2.2 = true then (nat_Gcd.l0 k bt349.1 bt349.2.1) else (some ((⟨#[]⟩ : ByteArray), 2)))) = some (r1, r2) := h
  clear h
  replace H := Option.bind_eq_some_iff.mp H
  obtain ⟨⟨t349, t350, t351⟩, A30, H⟩ := H
  replace H : (if t351 = true then (nat_Gcd.l0 k t349 t350) else (some ((⟨#[]⟩ : ByteArray), 2))) = some (r1, r2) := H
  have A3 := Aside0.mk A30
  clear A30
  by_cases c4 : t351 = true
  · subst c4
    have H1 : (nat_Gcd.l0 k t349 t350) = some (r1, r2) := by rw [if_pos rfl] at H; exact H
    clear H
    have H := H1
    clear H1
    have H' := Aside0.mk H
    clear H
    go_enter Try.func19, Try.ntmps19
    go_wp2_with (first | ((with_reducible refine gate_callee (f := 31) rfl ?_); refine goesL_ (some 14) rfl rfl Try.func31 (by kernel_rfl) rfl #[.string a0, .string a1] rfl (by (try simp only [List.map_toArray, List.map_cons, List.map_nil]); first | done | rfl | (simp only [List.length_drop, List.length_take]; rfl)) ?_; (with_reducible refine (nat_both.calls k a0 a1 t349 t350 true _ A3.out).mono ?_); rintro e w5 ⟨v352, v354, rfl, ho0, ho1, hb⟩; refine ⟨_, rfl, ?_⟩; have n0_ := Aside0.mk (Kd.R_lower ho0 (below_size (by repeat (first | (with_reducible first | exact HB.out | apply below_alloc | apply pw_below_drewN | apply below_drew1) | exact HB.out)))); have n1_ := Aside0.mk (Kd.R_lower ho1 (below_size (by repeat (first | (with_reducible first | exact HB.out | apply below_alloc | apply pw_below_drewN | apply below_drew1) | exact HB.out)))); have n2_ := Aside0.mk (below_step (by repeat (first | (with_reducible first | exact HB.out | apply below_alloc | apply pw_below_drewN | apply below_drew1) | exact HB.out)) hb); clear HB; have HO353 := n0_; have HO355 := n1_; have HB := n2_; clear n0_ n1_ n2_; (try clear hb); (try clear hb2); (try clear hk); (try clear hi); (try clear ho0); (try clear ho1)))
    go_loopg [6, 7] k (fun kq v6 v7 w' => ∃ (x6_1 : List Int) (x7_1 : List Int), Aside0 (nat_Gcd.l0 kq x6_1 x7_1 = some (r1, r2)) ∧ Aside0 (kq ≤ k) ∧ Aside0 (Kd.R (Kd.int .u32) 61 w' w.heap.size (fun k_ => some k_ ≠ (v7 : Value).ownBlock) v6 x6_1) ∧ Aside0 (Kd.R (Kd.int .u32) 61 w' w.heap.size (fun k_ => some k_ ≠ (v6 : Value).ownBlock) v7 x7_1) ∧ Aside0 (Below w.heap.size w w'))
    case atStart => exact ⟨(t349), (t350), H', ⟨Nat.le_refl _⟩, ⟨by (with_reducible repeat (first | apply Kd.R_alloc | apply Kd.R_drewN | apply Kd.R_drew)); exact HO353.out⟩, ⟨by (with_reducible repeat (first | apply Kd.R_alloc | apply Kd.R_drewN | apply Kd.R_drew)); exact HO355.out⟩, ⟨by repeat (first | (with_reducible first | exact HB.out | apply below_alloc | apply pw_below_drewN | apply below_drew1) | exact HB.out)⟩⟩
    case round =>
      clear H'
      try clear c1
      try clear p2
      try clear c3
      try clear c4
      obtain ⟨x6_1, x7_1, HA, HK1, HO_6, HO_7, HB⟩ := hrel
      cases gk with
      | zero => exact absurd HA.out (by simp [nat_Gcd.l0])
      | succ k1 =>
        have H := HA.out
        clear HA
        simp only [nat_Gcd.l0] at H
        by_cases c6 : (x7_1.length : Int) > 0
        · rw [if_pos c6] at H
          have c6b0 : decide (0 < (x7_1.length : Int)) = true := decide_eq_true c6
          have c6b1 : decide (0 < x7_1.length) = true := decide_eq_true (by omega)
          clear c6
          replace H := Option.bind_eq_some_iff.mp H
          obtain ⟨⟨t356, t359⟩, A70, H⟩ := H
          replace H : (nat_Gcd.l0 k1 x7_1 t359) = some (r1, r2) := H
          have A7 := Aside0.mk A70
          clear A70
          have H' := Aside0.mk H
          clear H
          obtain ⟨Ao8, co8, eo8⟩ := Kd.R_slice HO_7.out
          subst eo8
          obtain ⟨Ao9, co9, eo9⟩ := Kd.R_slice HO_6.out
          subst eo9
          go_wp2_with (first | ((with_reducible refine gate_callee (f := 34) rfl ?_); refine goesL_ (some 26) rfl rfl Try.func34 (by kernel_rfl) rfl #[.slice Ao9 x6_1.length co9, .slice Ao8 x7_1.length co8] rfl (by (try simp only [List.map_toArray, List.map_cons, List.map_nil]); first | done | rfl | (simp only [List.length_drop, List.length_take]; rfl)) ?_; (with_reducible refine (nat_divide.calls k1 (fun k_ => some k_ = (.slice Ao9 x6_1.length co9 : Value).ownBlock) (.slice Ao9 x6_1.length co9) x6_1 _ _ x7_1 t356 t359 w _ ?side1 ?side2 ?side3 ?side4 A7.out).mono ?_); (case side1 => repeat (first | (with_reducible first | exact HB.out | apply below_alloc | apply pw_below_drewN | apply below_drew1) | exact HB.out)); (case side2 => exact Kd.R_tight rfl HO_6.out); (case side3 => exact Kd.C_kept_own (HO_7.out) (fun k_ hk_ hs_ => (hk_) hs_)); (case side4 => exact (Kd.R_reads' HO_7.out).2.1); rintro e w10 ⟨v357, v360, rfl, ho0, ho1, hb, hkp⟩; refine ⟨_, rfl, ?_⟩; have n0_ := Aside0.mk (Kd.R_mono (ok' := fun k_ => some k_ ≠ (v357 : Value).ownBlock ∧ some k_ ≠ (v360 : Value).ownBlock) (Kd.R_keptB (HO_7.out) hkp (fun k_ hk_ hs_ => (hk_) hs_)) (fun k_ hk_ => ⟨fun e_ => Or.elim (ho0.1 k_ e_.symm).1 (fun hs_ => hk_.2.1 hs_) (fun hn_ => Nat.not_le.2 hk_.2.2 hn_), fun e_ => Or.elim (ho1.1 k_ e_.symm).1 (fun hs_ => hk_.2.1 hs_) (fun hn_ => Nat.not_le.2 hk_.2.2 hn_)⟩)); have n1_ := Aside0.mk (Kd.R_mono (ok' := fun k_ => some k_ ≠ (v360 : Value).ownBlock ∧ some k_ ≠ (.slice Ao8 x7_1.length co8 : Value).ownBlock) ho0 (fun k_ hk_ => ⟨hk_.2, Or.elim hk_.1 (fun hs_ => fun e_ => (((HO_7.out).1 k_ e_.symm)) hs_) (fun hn_ => (Kd.fresh' (Kd.R_lt (by (with_reducible repeat (first | apply Kd.R_alloc | apply Kd.R_drewN | apply Kd.R_drew)); exact HO_7.out)) k_ hn_))⟩)); have n2_ := Aside0.mk (Kd.R_mono (ok' := fun k_ => some k_ ≠ (v357 : Value).ownBlock ∧ some k_ ≠ (.slice Ao8 x7_1.length co8 : Value).ownBlock) ho1 (fun k_ hk_ => ⟨hk_.2, Or.elim hk_.1 (fun hs_ => fun e_ => (((HO_7.out).1 k_ e_.symm)) hs_) (fun hn_ => (Kd.fresh' (Kd.R_lt (by (with_reducible repeat (first | apply Kd.R_alloc | apply Kd.R_drewN | apply Kd.R_drew)); exact HO_7.out)) k_ hn_))⟩)); have n3_ := Aside0.mk (hb); clear HO_7; clear HB; clear HO_6; have HO_7 := n0_; have HO358 := n1_; have HO361 := n2_; have HB := n3_; clear n0_ n1_ n2_ n3_; (try clear hb); (try clear hkp); (try clear ho0); (try clear ho1)))
          go_roundg k1
          case measure => have := HK1.out; omega
          case rel => exact ⟨(x7_1), (t359), H', ⟨by have := HK1.out; omega⟩, ⟨by (with_reducible repeat (first | apply Kd.R_alloc | apply Kd.R_drewN | apply Kd.R_drew)); exact Kd.R_mono HO_7.out (fun _ hk => hk.2)⟩, ⟨by (with_reducible repeat (first | apply Kd.R_alloc | apply Kd.R_drewN | apply Kd.R_drew)); exact Kd.R_mono HO361.out (fun _ hk => hk.2)⟩, ⟨by repeat (first | (with_reducible first | exact HB.out | apply below_alloc | apply pw_below_drewN | apply below_drew1) | exact HB.out)⟩⟩
        · rw [if_neg c6] at H
          have c6b0 : decide (0 < (x7_1.length : Int)) = false := decide_eq_false c6
          have c6b1 : decide (0 < x7_1.length) = false := decide_eq_false (by omega)
          clear c6
          replace H := Option.bind_eq_some_iff.mp H
          obtain ⟨t362, A110, H⟩ := H
          replace H : (some (t362, 0)) = some (r1, r2) := H
          have A11 := Aside0.mk A110
          clear A110
          simp only [Option.some.injEq, Prod.mk.injEq] at H
          obtain ⟨rfl, rfl⟩ := H
          obtain ⟨Ao12, co12, eo12⟩ := Kd.R_slice HO_7.out
          subst eo12
          obtain ⟨Ao13, co13, eo13⟩ := Kd.R_slice HO_6.out
          subst eo13
          go_wp2_with (first | ((with_reducible refine gate_callee (f := 32) rfl ?_); refine goesL_ (some 32) rfl rfl Try.func32 (by kernel_rfl) rfl #[.slice Ao13 x6_1.length co13] rfl (by (try simp only [List.map_toArray, List.map_cons, List.map_nil]); first | done | rfl | (simp only [List.length_drop, List.length_take]; rfl)) ?_; (with_reducible refine (nat_text.calls k1 (fun k_ => some k_ = (.slice Ao13 x6_1.length co13 : Value).ownBlock) _ _ x6_1 t362 _ ?side1 A11.out).mono ?_); (case side1 => exact Kd.R_V (Kd.R_tight rfl (HO_6.out))); rintro e w14 ⟨rfl, hb⟩; refine ⟨_, rfl, ?_⟩; have n0_ := Aside0.mk (Kd.R_below (by (with_reducible repeat (first | apply Kd.R_alloc | apply Kd.R_drewN | apply Kd.R_drew)); exact HO_6.out) hb); have n1_ := Aside0.mk (Kd.R_below (by (with_reducible repeat (first | apply Kd.R_alloc | apply Kd.R_drewN | apply Kd.R_drew)); exact HO_7.out) hb); have n2_ := Aside0.mk (below_step (by repeat (first | (with_reducible first | exact HB.out | apply below_alloc | apply pw_below_drewN | apply below_drew1) | exact HB.out)) hb); clear HO_6; clear HO_7; clear HB; have HO_6 := n0_; have HO_7 := n1_; have HB := n2_; clear n0_ n1_ n2_; (try clear hb); (try clear hb2); (try clear hk); (try clear hi)))
          go_ret2
          exact ⟨by first | rfl | (simp [errW_none, errW_some] <;> rfl) | (simp [*, errW_none, errW_some] <;> rfl), by repeat (first | (with_reducible first | exact HB.out | apply below_alloc | apply pw_below_drewN | apply below_drew1) | exact HB.out)⟩
  · replace c4 := Bool.eq_false_iff.mpr c4
    subst c4
    have H1 : (some ((⟨#[]⟩ : ByteArray), 2)) = some (r1, r2) := by rw [if_neg (show ¬ (false = true) by decide)] at H; exact H
    clear H
    have H := H1
    clear H1
    simp only [Option.some.injEq, Prod.mk.injEq] at H
    obtain ⟨rfl, rfl⟩ := H
    go_enter Try.func19, Try.ntmps19
    go_wp2_with (first | ((with_reducible refine gate_callee (f := 31) rfl ?_); refine goesL_ (some 14) rfl rfl Try.func31 (by kernel_rfl) rfl #[.string a0, .string a1] rfl (by (try simp only [List.map_toArray, List.map_cons, List.map_nil]); first | done | rfl | (simp only [List.length_drop, List.length_take]; rfl)) ?_; (with_reducible refine (nat_both.calls k a0 a1 t349 t350 false _ A3.out).mono ?_); rintro e w15 ⟨v352, v354, rfl, ho0, ho1, hb⟩; refine ⟨_, rfl, ?_⟩; have n0_ := Aside0.mk (Kd.R_lower ho0 (below_size (by repeat (first | (with_reducible first | exact HB.out | apply below_alloc | apply pw_below_drewN | apply below_drew1) | exact HB.out)))); have n1_ := Aside0.mk (Kd.R_lower ho1 (below_size (by repeat (first | (with_reducible first | exact HB.out | apply below_alloc | apply pw_below_drewN | apply below_drew1) | exact HB.out)))); have n2_ := Aside0.mk (below_step (by repeat (first | (with_reducible first | exact HB.out | apply below_alloc | apply pw_below_drewN | apply below_drew1) | exact HB.out)) hb); clear HB; have HO353 := n0_; have HO355 := n1_; have HB := n2_; clear n0_ n1_ n2_; (try clear hb); (try clear hb2); (try clear hk); (try clear hi); (try clear ho0); (try clear ho1)))
    go_ret2
    exact ⟨by first | rfl | (simp [errW_none, errW_some] <;> rfl) | (simp [*, errW_none, errW_some] <;> rfl), by repeat (first | (with_reducible first | exact HB.out | apply below_alloc | apply pw_below_drewN | apply below_drew1) | exact HB.out)⟩

/-! ### nat_Compare: function 25 -/
def nat_Compare.f (k : Nat) (a0 : ByteArray) (a1 : ByteArray) : Option (Int × Int) := (nat_both.f k a0 a1).bind fun bt363 => (if bt363.2.2 = true then ((nat_compare.f k bt363.1 bt363.2.1).bind fun t370 => (some (t370, 0))) else (some (0, 2)))
theorem nat_Compare.mono : ∀ a0 a1 k, LeO (nat_Compare.f k a0 a1) (nat_Compare.f (k + 1) a0 a1) := by
  intro a0 a1 k
  unfold nat_Compare.f
  repeat' first
      | (with_reducible exact nat_both.mono _ _ _)
      | (with_reducible exact nat_compare.mono _ _ _)
      | (with_reducible exact LeO.refl _)
      | (with_reducible exact LeO.none _)
      | (with_reducible refine LeO.ite ?_ ?_)
      | (with_reducible refine LeO.bind ?_ (fun _ => ?_))
      | exact nat_both.mono _ _ _
      | exact nat_compare.mono _ _ _
      | exact LeO.none _
      | refine LeO.ite ?_ ?_
      | refine LeO.bind ?_ (fun _ => ?_)
set_option maxHeartbeats 8000000 in
set_option maxRecDepth 100000 in
theorem nat_Compare.calls (k : Nat) (a0 : ByteArray) (a1 : ByteArray) (r1 : Int) (r2 : Int) (w : World) (h : nat_Compare.f k a0 a1 = some (r1, r2)) :
    Calls Try.prog 25 #[.string a0, .string a1] w fun e w' => e = .returned (.tuple #[.int .i64 r1, .int .i64 r2]) ∧ Below w.heap.size w w' := by
  have HB := Aside0.mk (Below.refl w.heap.size w)
  have H : ((nat_both.f k a0 a1).bind fun bt363 => (if bt363.2.2 = true then ((nat_compare.f k bt363.1 bt363.2.1).bind fun t370 => (some (t370, 0))) else (some (0, 2)))) = some (r1, r2) := h
  clear h
  replace H := Option.bind_eq_some_iff.mp H
  obtain ⟨⟨t363, t364, t365⟩, A30, H⟩ := H
  replace H : (if t365 = true then ((nat_compare.f k t363 t364).bind fun t370 => (some (t370, 0))) else (some (0, 2))) = some (r1, r2) := H
  have A3 := Aside0.mk A30
  clear A30
  by_cases c4 : t365 = true
  · subst c4
    have H1 : ((nat_compare.f k t363 t364).bind fun t370 => (some (t370, 0))) = some (r1, r2) := by rw [if_pos rfl] at H; exact H
    clear H
    have H := H1
    clear H1
    replace H := Option.bind_eq_some_iff.mp H
    obtain ⟨t370, A50, H⟩ := H
    replace H : (some (t370, 0)) = some (r1, r2) := H
    have A5 := Aside0.mk A50
    clear A50
    simp only [Option.some.injEq, Prod.mk.injEq] at H
    obtain ⟨rfl, rfl⟩ := H
    go_enter Try.func25, Try.ntmps25
    go_wp2_with (first | ((with_reducible refine gate_callee (f := 31) rfl ?_); refine goesL_ (some 12) rfl rfl Try.func31 (by kernel_rfl) rfl #[.string a0, .string a1] rfl (by (try simp only [List.map_toArray, List.map_cons, List.map_nil]); first | done | rfl | (simp only [List.length_drop, List.length_take]; rfl)) ?_; (with_reducible refine (nat_both.calls k a0 a1 t363 t364 true _ A3.out).mono ?_); rintro e w6 ⟨v366, v368, rfl, ho0, ho1, hb⟩; refine ⟨_, rfl, ?_⟩; have n0_ := Aside0.mk (Kd.R_lower ho0 (below_size (by repeat (first | (with_reducible first | exact HB.out | apply below_alloc | apply pw_below_drewN | apply below_drew1) | exact HB.out)))); have n1_ := Aside0.mk (Kd.R_lower ho1 (below_size (by repeat (first | (with_reducible first | exact HB.out | apply below_alloc | apply pw_below_drewN | apply below_drew1) | exact HB.out)))); have n2_ := Aside0.mk (below_step (by repeat (first | (with_reducible first | exact HB.out | apply below_alloc | apply pw_below_drewN | apply below_drew1) | exact HB.out)) hb); clear HB; have HO367 := n0_; have HO369 := n1_; have HB := n2_; clear n0_ n1_ n2_; (try clear hb); (try clear hb2); (try clear hk); (try clear hi); (try clear ho0); (try clear ho1); obtain ⟨Ao7, co7, eo7⟩ := Kd.R_slice HO367.out; subst eo7; obtain ⟨Ao8, co8, eo8⟩ := Kd.R_slice HO369.out; subst eo8) | ((with_reducible refine gate_callee (f := 38) rfl ?_); refine goesL_ (some 20) rfl rfl Try.func38 (by kernel_rfl) rfl #[.slice Ao7 t363.length co7, .slice Ao8 t364.length co8] rfl (by (try simp only [List.map_toArray, List.map_cons, List.map_nil]); first | done | rfl | (simp only [List.length_drop, List.length_take]; rfl)) ?_; (with_reducible refine (nat_compare.calls k _ _ t363 _ _ t364 t370 _ ?side1 ?side2 ?side3 ?side4 A5.out).mono ?_); (case side1 => repeat (first | exact (Kd.R_reads' HO367.out).2.2 | (with_reducible refine Kd.C_alloc ?_ _) | (with_reducible refine Kd.C_drewN ?_ _) | (with_reducible refine Kd.C_drew ?_))); (case side2 => exact (Kd.R_reads' HO367.out).2.1); (case side3 => repeat (first | exact (Kd.R_reads' HO369.out).2.2 | (with_reducible refine Kd.C_alloc ?_ _) | (with_reducible refine Kd.C_drewN ?_ _) | (with_reducible refine Kd.C_drew ?_))); (case side4 => exact (Kd.R_reads' HO369.out).2.1); rintro e w' ⟨rfl, ⟨nd, rfl⟩⟩; refine ⟨_, rfl, ?_⟩))
    go_ret2
    exact ⟨by first | rfl | (simp [errW_none, errW_some] <;> rfl) | (simp [*, errW_none, errW_some] <;> rfl), by repeat (first | (with_reducible first | exact HB.out | apply below_alloc | apply pw_below_drewN | apply below_drew1) | exact HB.out)⟩
  · replace c4 := Bool.eq_false_iff.mpr c4
    subst c4
    have H1 : (some (0, 2)) = some (r1, r2) := by rw [if_neg (show ¬ (false = true) by decide)] at H; exact H
    clear H
    have H := H1
    clear H1
    simp only [Option.some.injEq, Prod.mk.injEq] at H
    obtain ⟨rfl, rfl⟩ := H
    go_enter Try.func25, Try.ntmps25
    go_wp2_with (first | ((with_reducible refine gate_callee (f := 31) rfl ?_); refine goesL_ (some 12) rfl rfl Try.func31 (by kernel_rfl) rfl #[.string a0, .string a1] rfl (by (try simp only [List.map_toArray, List.map_cons, List.map_nil]); first | done | rfl | (simp only [List.length_drop, List.length_take]; rfl)) ?_; (with_reducible refine (nat_both.calls k a0 a1 t363 t364 false _ A3.out).mono ?_); rintro e w9 ⟨v366, v368, rfl, ho0, ho1, hb⟩; refine ⟨_, rfl, ?_⟩; have n0_ := Aside0.mk (Kd.R_lower ho0 (below_size (by repeat (first | (with_reducible first | exact HB.out | apply below_alloc | apply pw_below_drewN | apply below_drew1) | exact HB.out)))); have n1_ := Aside0.mk (Kd.R_lower ho1 (below_size (by repeat (first | (with_reducible first | exact HB.out | apply below_alloc | apply pw_below_drewN | apply below_drew1) | exact HB.out)))); have n2_ := Aside0.mk (below_step (by repeat (first | (with_reducible first | exact HB.out | apply below_alloc | apply pw_below_drewN | apply below_drew1) | exact HB.out)) hb); clear HB; have HO367 := n0_; have HO369 := n1_; have HB := n2_; clear n0_ n1_ n2_; (try clear hb); (try clear hb2); (try clear hk); (try clear hi); (try clear ho0); (try clear ho1)))
    go_ret2
    exact ⟨by first | rfl | (simp [errW_none, errW_some] <;> rfl) | (simp [*, errW_none, errW_some] <;> rfl), by repeat (first | (with_reducible first | exact HB.out | apply below_alloc | apply pw_below_drewN | apply below_drew1) | exact HB.out)⟩

end Go.Proofs.Ytpjpgfaidallhaa.PA
