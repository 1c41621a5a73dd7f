-- by wip/tool/mine.py of this repo (the kit's printer with given contracts)
import Derived.Test.YtpjpgfaidallhaaPQx0
import Derived.Test.YtpjpgfaidallhaaPQx1
import Derived.Test.YtpjpgfaidallhaaPQx4
namespace Go.Proofs.Ytpjpgfaidallhaa.PQ
open Go.RowKit Go.Proofs.YtpjpgfaidallhaaW.PrintWords Go.Proofs.YtpjpgfaidallhaaW.PrintLast Go.Proofs.YtpjpgfaidallhaaW.PrintMore
attribute [local go_sem] max2_int min2_int max_two min_two max_three min_three max_four min_four   -- for this text's walks alone
set_option linter.unusedVariables false
set_option linter.unusedSimpArgs false

/-! ### tapewrightlaw01_NatOrder: function 8 -/
mutual
def tapewrightlaw01_NatOrder.j0 : Nat → ByteArray → ByteArray → ByteArray → Bool → Option (Bool)
  | 0, _, _, _, _ => none
  | k + 1, x0, x1, x2, x56 => if x56 = true then ((tapewrightlaw01_awake.f).bind fun t187 => (some t187)) else ((nat_Compare.f x0 x1).bind fun bt188 => ((nat_Add.f x0 x2).bind fun bt190 => ((nat_Add.f x1 x2).bind fun bt192 => ((nat_Compare.f bt190.1 bt192.1).bind fun bt194 => ((nat_Mul.f x0 x2).bind fun bt196 => ((nat_Mul.f x1 x2).bind fun bt198 => ((nat_Compare.f bt196.1 bt198.1).bind fun bt200 => ((nat_Compare.f x1 x2).bind fun bt202 => ((nat_Compare.f x0 x2).bind fun bt204 => (tapewrightlaw01_NatOrder.j1 k x0 x1 x2 bt188.1 bt188.2 bt194.1 bt194.2 bt200.1 bt200.2 bt202.1 bt204.1))))))))))
def tapewrightlaw01_NatOrder.j1 : Nat → ByteArray → ByteArray → ByteArray → Int → Int → Int → Int → Int → Int → Int → Int → Option (Bool)
  | 0, _, _, _, _, _, _, _, _, _, _, _ => none
  | k + 1, x0, x1, x2, x7, x8, x13, x14, x19, x20, x21, x23 => if x7 = x13 then (if x2.toList = ([48] : List UInt8) then (if x19 = 0 then (if x7 > 0 then (if ((x7 == 0) == (x0.toList == x1.toList)) = true then (if x8 = 0 then (if x14 = 0 then (if x20 = 0 then ((tapewrightlaw01_awake.f).bind fun t206 => (some t206)) else (some false)) else (some false)) else (some false)) else (some false)) else (if x21 > 0 then (if ((x7 == 0) == (x0.toList == x1.toList)) = true then (if x8 = 0 then (if x14 = 0 then (if x20 = 0 then ((tapewrightlaw01_awake.f).bind fun t207 => (some t207)) else (some false)) else (some false)) else (some false)) else (some false)) else (if x23 ≤ 0 then (if ((x7 == 0) == (x0.toList == x1.toList)) = true then (if x8 = 0 then (if x14 = 0 then (if x20 = 0 then ((tapewrightlaw01_awake.f).bind fun t208 => (some t208)) else (some false)) else (some false)) else (some false)) else (some false)) else (some false)))) else (some false)) else (if x19 = x7 then (if x7 > 0 then (if ((x7 == 0) == (x0.toList == x1.toList)) = true then (if x8 = 0 then (if x14 = 0 then (if x20 = 0 then ((tapewrightlaw01_awake.f).bind fun t209 => (some t209)) else (some false)) else (some false)) else (some false)) else (some false)) else (if x21 > 0 then (if ((x7 == 0) == (x0.toList == x1.toList)) = true then (if x8 = 0 then (if x14 = 0 then (if x20 = 0 then ((tapewrightlaw01_awake.f).bind fun t210 => (some t210)) else (some false)) else (some false)) else (some false)) else (some false)) else (if x23 ≤ 0 then (if ((x7 == 0) == (x0.toList == x1.toList)) = true then (if x8 = 0 then (if x14 = 0 then (if x20 = 0 then ((tapewrightlaw01_awake.f).bind fun t211 => (some t211)) else (some false)) else (some false)) else (some false)) else (some false)) else (some false)))) else (some false))) else (some false)
end
def tapewrightlaw01_NatOrder.f (k : Nat) (a0 : ByteArray) (a1 : ByteArray) (a2 : ByteArray) : Option (Bool) := (tapewrightlaw01_short.f k (([a0, a1, a2] : List ByteArray))).bind fun t183 => (if t183 = true then (if (wrap64 ((wrap64 ((a0.size : Int) + (a1.size : Int))) + (a2.size : Int))) > 180 then (tapewrightlaw01_NatOrder.j0 k a0 a1 a2 true) else ((tapewrightref01_Right.f a0).bind fun t184 => (if t184 = true then ((tapewrightref01_Right.f a1).bind fun t185 => (if t185 = true then ((tapewrightref01_Right.f a2).bind fun t186 => (tapewrightlaw01_NatOrder.j0 k a0 a1 a2 (!t186))) else (tapewrightlaw01_NatOrder.j0 k a0 a1 a2 true))) else (tapewrightlaw01_NatOrder.j0 k a0 a1 a2 true)))) else (tapewrightlaw01_NatOrder.j0 k a0 a1 a2 true))
set_option maxHeartbeats 8000000 in
set_option maxRecDepth 100000 in
theorem tapewrightlaw01_NatOrder.calls (k : Nat) (a0 : ByteArray) (a1 : ByteArray) (a2 : ByteArray) (r : Bool) (w : World) (h : tapewrightlaw01_NatOrder.f k a0 a1 a2 = some r) :
    Calls Try.prog 8 #[.string a0, .string a1, .string a2] w fun e w' => e = .returned (.bool r) ∧ Below w.heap.size w w' := by
  have HB := Aside0.mk (Below.refl w.heap.size w)
  have H : ((tapewrightlaw01_short.f k (([a0, a1, a2] : List ByteArray))).bind fun t183 => (if t183 = true then (if (wrap64 ((wrap64 ((a0.size : Int) + (a1.size : Int))) + (a2.size : Int))) > 180 then (tapewrightlaw01_NatOrder.j0 k a0 a1 a2 true) else ((tapewrightref01_Right.f a0).bind fun t184 => (if t184 = true then ((tapewrightref01_Right.f a1).bind fun t185 => (if t185 = true then ((tapewrightref01_Right.f a2).bind fun t186 => (tapewrightlaw01_NatOrder.j0 k a0 a1 a2 (!t186))) else (tapewrightlaw01_NatOrder.j0 k a0 a1 a2 true))) else (tapewrightlaw01_NatOrder.j0 k a0 a1 a2 true)))) else (tapewrightlaw01_NatOrder.j0 k a0 a1 a2 true))) = some r := h
  clear h
  have HC4 := Aside0.mk H
  clear H
  go_enter Try.func8, Try.ntmps8
  go_upto_region 1 with (fail)
  go_cut [56] (fun v56 wc => ∃ (kq : Nat) (x56_3 : Bool), v56 = .bool x56_3 ∧ Aside0 (tapewrightlaw01_NatOrder.j0 kq a0 a1 a2 x56_3 = some r) ∧ Aside0 (kq ≤ k) ∧ Aside0 (Below w.heap.size w wc))
  case first =>
    have H := HC4.out
    clear HC4
    obtain ⟨y180, hy180⟩ : ∃ y_ : List ByteArray, y_ = (([a0, a1, a2] : List ByteArray)) := ⟨_, rfl⟩
    replace H : ((tapewrightlaw01_short.f k y180).bind fun t183 => (if t183 = true then (if (wrap64 ((wrap64 ((a0.size : Int) + (a1.size : Int))) + (a2.size : Int))) > 180 then (tapewrightlaw01_NatOrder.j0 k a0 a1 a2 true) else ((tapewrightref01_Right.f a0).bind fun t184 => (if t184 = true then ((tapewrightref01_Right.f a1).bind fun t185 => (if t185 = true then ((tapewrightref01_Right.f a2).bind fun t186 => (tapewrightlaw01_NatOrder.j0 k a0 a1 a2 (!t186))) else (tapewrightlaw01_NatOrder.j0 k a0 a1 a2 true))) else (tapewrightlaw01_NatOrder.j0 k a0 a1 a2 true)))) else (tapewrightlaw01_NatOrder.j0 k a0 a1 a2 true))) = some r := by first | (rw [hy180]; with_reducible exact H) | (have H2_ := (Option.bind_some _ _).symm.trans H; rw [hy180]; with_reducible exact H2_) | (have H2_ := (Option.bind_some _ _).symm.trans H; with_reducible exact H2_) | with_reducible exact H | (rw [hy180]; exact H) | exact H
    have Ny180 := Aside0.mk hy180
    clear hy180
    replace H := Option.bind_eq_some_iff.mp H
    obtain ⟨t183, A50, H⟩ := H
    replace H : (if t183 = true then (if (wrap64 ((wrap64 ((a0.size : Int) + (a1.size : Int))) + (a2.size : Int))) > 180 then (tapewrightlaw01_NatOrder.j0 k a0 a1 a2 true) else ((tapewrightref01_Right.f a0).bind fun t184 => (if t184 = true then ((tapewrightref01_Right.f a1).bind fun t185 => (if t185 = true then ((tapewrightref01_Right.f a2).bind fun t186 => (tapewrightlaw01_NatOrder.j0 k a0 a1 a2 (!t186))) else (tapewrightlaw01_NatOrder.j0 k a0 a1 a2 true))) else (tapewrightlaw01_NatOrder.j0 k a0 a1 a2 true)))) else (tapewrightlaw01_NatOrder.j0 k a0 a1 a2 true)) = some r := H
    have A5 := Aside0.mk A50
    clear A50
    by_cases c6 : t183 = true
    · subst c6
      have H1 : (if (wrap64 ((wrap64 ((a0.size : Int) + (a1.size : Int))) + (a2.size : Int))) > 180 then (tapewrightlaw01_NatOrder.j0 k a0 a1 a2 true) else ((tapewrightref01_Right.f a0).bind fun t184 => (if t184 = true then ((tapewrightref01_Right.f a1).bind fun t185 => (if t185 = true then ((tapewrightref01_Right.f a2).bind fun t186 => (tapewrightlaw01_NatOrder.j0 k a0 a1 a2 (!t186))) else (tapewrightlaw01_NatOrder.j0 k a0 a1 a2 true))) else (tapewrightlaw01_NatOrder.j0 k a0 a1 a2 true)))) = some r := by rw [if_pos rfl] at H; exact H
      clear H
      have H := H1
      clear H1
      by_cases c7 : (wrap64 ((wrap64 ((a0.size : Int) + (a1.size : Int))) + (a2.size : Int))) > 180
      · rw [if_pos c7] at H
        have c7b0 : decide (180 < (wrap64 ((wrap64 ((a0.size : Int) + (a1.size : Int))) + (a2.size : Int)))) = true := decide_eq_true c7
        clear c7
        (first | rw [c7b0] | (simp only [i64_w, i32_w]; rw [c7b0]) | skip)
        have H' := Aside0.mk H
        clear H
        go_wp2_with (first | ((with_reducible refine gate_dst (N := 28) rfl ?_); (try (refine gate_guard (by rfl) ?_; dsimp only)); refine Kd.R_lit Kd.string _ 9 ?hg (N := 28) ?hd (xs := ([a0, a1, a2] : List ByteArray)) (inner := [.string a0, .string a1, .string a2]) (ok := fun _ => True) (okp := fun _ => True) ?hr ?hp (fun _ hk => hk) trivial (Below.refl _ _) (Nat.le_refl _) (by simp) ?_; (case hd => rfl); (case hg => rfl); (case hr => first | (go_simp; done) | (go_simp; rfl)); (case hp => exact (Reps.one (show Kd.M Kd.string _ _ _ a0 [.string a0] from rfl) (Reps.one (show Kd.M Kd.string _ _ _ a1 [.string a1] from rfl) (Reps.one (show Kd.M Kd.string _ _ _ a2 [.string a2] from rfl) (Reps.none _ _))))); intro v181 w8 ho9 hb hg_ hnew_; clear hg_ hnew_; (first | rw [← Ny180.out] at ho9 | (simp only [Int.reduceToNat] at ho9; rw [← Ny180.out] at ho9)); have n0_ := Aside0.mk (Kd.R_lower ho9 (below_size (by repeat (first | (with_reducible first | exact HB.out | apply below_alloc | apply pw_below_drewN | apply below_drew1) | exact HB.out)))); have n1_ := Aside0.mk (below_step (by repeat (first | (with_reducible first | exact HB.out | apply below_alloc | apply pw_below_drewN | apply below_drew1) | exact HB.out)) hb); clear HB; have HO182 := n0_; have HB := n1_; clear n0_ n1_; clear hb ho9; obtain ⟨Ao10, co10, eo10⟩ := Kd.R_slice HO182.out; subst eo10) | ((with_reducible refine gate_callee (f := 18) rfl ?_); refine goesL_ (some 29) rfl rfl Try.func18 (by kernel_rfl) rfl #[.slice Ao10 y180.length co10] rfl (by (try simp only [List.map_toArray, List.map_cons, List.map_nil]); first | done | rfl | (simp only [List.length_drop, List.length_take]; rfl)) ?_; (with_reducible refine (tapewrightlaw01_short.calls k _ _ y180 true _ ?side1 ?side2 A5.out).mono ?_); (case side1 => repeat (first | exact (Kd.R_reads' HO182.out).2.2 | (with_reducible refine Kd.C_alloc ?_ _) | (with_reducible refine Kd.C_drewN ?_ _) | (with_reducible refine Kd.C_drew ?_))); (case side2 => exact (Kd.R_reads' HO182.out).2.1); rintro e w' ⟨rfl, ⟨nd, rfl⟩⟩; refine ⟨_, rfl, ?_⟩))
        go_meet
        case rel => exact ⟨_, (true), (by first | rfl | (simp; done) | (simp [*]; done)), H', ⟨by first | omega | exact Nat.le_refl _⟩, ⟨by repeat (first | (with_reducible first | exact HB.out | apply below_alloc | apply pw_below_drewN | apply below_drew1) | exact HB.out)⟩⟩
      · rw [if_neg c7] at H
        have c7b0 : decide (180 < (wrap64 ((wrap64 ((a0.size : Int) + (a1.size : Int))) + (a2.size : Int)))) = false := decide_eq_false c7
        clear c7
        (first | rw [c7b0] | (simp only [i64_w, i32_w]; rw [c7b0]) | skip)
        replace H := Option.bind_eq_some_iff.mp H
        obtain ⟨t184, A110, H⟩ := H
        replace H : (if t184 = true then ((tapewrightref01_Right.f a1).bind fun t185 => (if t185 = true then ((tapewrightref01_Right.f a2).bind fun t186 => (tapewrightlaw01_NatOrder.j0 k a0 a1 a2 (!t186))) else (tapewrightlaw01_NatOrder.j0 k a0 a1 a2 true))) else (tapewrightlaw01_NatOrder.j0 k a0 a1 a2 true)) = some r := H
        have A11 := Aside0.mk A110
        clear A110
        by_cases c12 : t184 = true
        · subst c12
          have H1 : ((tapewrightref01_Right.f a1).bind fun t185 => (if t185 = true then ((tapewrightref01_Right.f a2).bind fun t186 => (tapewrightlaw01_NatOrder.j0 k a0 a1 a2 (!t186))) else (tapewrightlaw01_NatOrder.j0 k a0 a1 a2 true))) = some r := by rw [if_pos rfl] at H; exact H
          clear H
          have H := H1
          clear H1
          replace H := Option.bind_eq_some_iff.mp H
          obtain ⟨t185, A130, H⟩ := H
          replace H : (if t185 = true then ((tapewrightref01_Right.f a2).bind fun t186 => (tapewrightlaw01_NatOrder.j0 k a0 a1 a2 (!t186))) else (tapewrightlaw01_NatOrder.j0 k a0 a1 a2 true)) = some r := H
          have A13 := Aside0.mk A130
          clear A130
          by_cases c14 : t185 = true
          · subst c14
            have H1 : ((tapewrightref01_Right.f a2).bind fun t186 => (tapewrightlaw01_NatOrder.j0 k a0 a1 a2 (!t186))) = some r := by rw [if_pos rfl] at H; exact H
            clear H
            have H := H1
            clear H1
            replace H := Option.bind_eq_some_iff.mp H
            obtain ⟨t186, A150, H⟩ := H
            replace H : (tapewrightlaw01_NatOrder.j0 k a0 a1 a2 (!t186)) = some r := H
            have A15 := Aside0.mk A150
            clear A150
            have H' := Aside0.mk H
            clear H
            go_wp2_with (first | ((with_reducible refine gate_dst (N := 28) rfl ?_); (try (refine gate_guard (by rfl) ?_; dsimp only)); refine Kd.R_lit Kd.string _ 9 ?hg (N := 28) ?hd (xs := ([a0, a1, a2] : List ByteArray)) (inner := [.string a0, .string a1, .string a2]) (ok := fun _ => True) (okp := fun _ => True) ?hr ?hp (fun _ hk => hk) trivial (Below.refl _ _) (Nat.le_refl _) (by simp) ?_; (case hd => rfl); (case hg => rfl); (case hr => first | (go_simp; done) | (go_simp; rfl)); (case hp => exact (Reps.one (show Kd.M Kd.string _ _ _ a0 [.string a0] from rfl) (Reps.one (show Kd.M Kd.string _ _ _ a1 [.string a1] from rfl) (Reps.one (show Kd.M Kd.string _ _ _ a2 [.string a2] from rfl) (Reps.none _ _))))); intro v181 w16 ho17 hb hg_ hnew_; clear hg_ hnew_; (first | rw [← Ny180.out] at ho17 | (simp only [Int.reduceToNat] at ho17; rw [← Ny180.out] at ho17)); have n0_ := Aside0.mk (Kd.R_lower ho17 (below_size (by repeat (first | (with_reducible first | exact HB.out | apply below_alloc | apply pw_below_drewN | apply below_drew1) | exact HB.out)))); have n1_ := Aside0.mk (below_step (by repeat (first | (with_reducible first | exact HB.out | apply below_alloc | apply pw_below_drewN | apply below_drew1) | exact HB.out)) hb); clear HB; have HO182 := n0_; have HB := n1_; clear n0_ n1_; clear hb ho17; obtain ⟨Ao18, co18, eo18⟩ := Kd.R_slice HO182.out; subst eo18) | ((with_reducible refine gate_callee (f := 18) rfl ?_); refine goesL_ (some 29) rfl rfl Try.func18 (by kernel_rfl) rfl #[.slice Ao18 y180.length co18] rfl (by (try simp only [List.map_toArray, List.map_cons, List.map_nil]); first | done | rfl | (simp only [List.length_drop, List.length_take]; rfl)) ?_; (with_reducible refine (tapewrightlaw01_short.calls k _ _ y180 true _ ?side1 ?side2 A5.out).mono ?_); (case side1 => repeat (first | exact (Kd.R_reads' HO182.out).2.2 | (with_reducible refine Kd.C_alloc ?_ _) | (with_reducible refine Kd.C_drewN ?_ _) | (with_reducible refine Kd.C_drew ?_))); (case side2 => exact (Kd.R_reads' HO182.out).2.1); rintro e w' ⟨rfl, ⟨nd, rfl⟩⟩; refine ⟨_, rfl, ?_⟩) | (go_at_call 14; (with_reducible refine (tapewrightref01_Right.calls a0 true _ A11.out).mono ?_); rintro e w' ⟨rfl, ⟨nd, rfl⟩⟩) | (go_at_call 14; (with_reducible refine (tapewrightref01_Right.calls a1 true _ A13.out).mono ?_); rintro e w' ⟨rfl, ⟨nd, rfl⟩⟩) | (go_at_call 14; (with_reducible refine (tapewrightref01_Right.calls a2 t186 _ A15.out).mono ?_); rintro e w' ⟨rfl, ⟨nd, rfl⟩⟩))
            go_meet
            case rel => exact ⟨_, (!t186), (by first | rfl | (simp; done) | (simp [*]; done)), H', ⟨by first | omega | exact Nat.le_refl _⟩, ⟨by repeat (first | (with_reducible first | exact HB.out | apply below_alloc | apply pw_below_drewN | apply below_drew1) | exact HB.out)⟩⟩
          · replace c14 := Bool.eq_false_iff.mpr c14
            subst c14
            have H1 : (tapewrightlaw01_NatOrder.j0 k a0 a1 a2 true) = some r := by rw [if_neg (show ¬ (false = true) by decide)] at H; exact H
            clear H
            have H := H1
            clear H1
            have H' := Aside0.mk H
            clear H
            go_wp2_with (first | ((with_reducible refine gate_dst (N := 28) rfl ?_); (try (refine gate_guard (by rfl) ?_; dsimp only)); refine Kd.R_lit Kd.string _ 9 ?hg (N := 28) ?hd (xs := ([a0, a1, a2] : List ByteArray)) (inner := [.string a0, .string a1, .string a2]) (ok := fun _ => True) (okp := fun _ => True) ?hr ?hp (fun _ hk => hk) trivial (Below.refl _ _) (Nat.le_refl _) (by simp) ?_; (case hd => rfl); (case hg => rfl); (case hr => first | (go_simp; done) | (go_simp; rfl)); (case hp => exact (Reps.one (show Kd.M Kd.string _ _ _ a0 [.string a0] from rfl) (Reps.one (show Kd.M Kd.string _ _ _ a1 [.string a1] from rfl) (Reps.one (show Kd.M Kd.string _ _ _ a2 [.string a2] from rfl) (Reps.none _ _))))); intro v181 w19 ho20 hb hg_ hnew_; clear hg_ hnew_; (first | rw [← Ny180.out] at ho20 | (simp only [Int.reduceToNat] at ho20; rw [← Ny180.out] at ho20)); have n0_ := Aside0.mk (Kd.R_lower ho20 (below_size (by repeat (first | (with_reducible first | exact HB.out | apply below_alloc | apply pw_below_drewN | apply below_drew1) | exact HB.out)))); have n1_ := Aside0.mk (below_step (by repeat (first | (with_reducible first | exact HB.out | apply below_alloc | apply pw_below_drewN | apply below_drew1) | exact HB.out)) hb); clear HB; have HO182 := n0_; have HB := n1_; clear n0_ n1_; clear hb ho20; obtain ⟨Ao21, co21, eo21⟩ := Kd.R_slice HO182.out; subst eo21) | ((with_reducible refine gate_callee (f := 18) rfl ?_); refine goesL_ (some 29) rfl rfl Try.func18 (by kernel_rfl) rfl #[.slice Ao21 y180.length co21] rfl (by (try simp only [List.map_toArray, List.map_cons, List.map_nil]); first | done | rfl | (simp only [List.length_drop, List.length_take]; rfl)) ?_; (with_reducible refine (tapewrightlaw01_short.calls k _ _ y180 true _ ?side1 ?side2 A5.out).mono ?_); (case side1 => repeat (first | exact (Kd.R_reads' HO182.out).2.2 | (with_reducible refine Kd.C_alloc ?_ _) | (with_reducible refine Kd.C_drewN ?_ _) | (with_reducible refine Kd.C_drew ?_))); (case side2 => exact (Kd.R_reads' HO182.out).2.1); rintro e w' ⟨rfl, ⟨nd, rfl⟩⟩; refine ⟨_, rfl, ?_⟩) | (go_at_call 14; (with_reducible refine (tapewrightref01_Right.calls a0 true _ A11.out).mono ?_); rintro e w' ⟨rfl, ⟨nd, rfl⟩⟩) | (go_at_call 14; (with_reducible refine (tapewrightref01_Right.calls a1 false _ A13.out).mono ?_); rintro e w' ⟨rfl, ⟨nd, rfl⟩⟩))
            go_meet
            case rel => exact ⟨_, (true), (by first | rfl | (simp; done) | (simp [*]; done)), H', ⟨by first | omega | exact Nat.le_refl _⟩, ⟨by repeat (first | (with_reducible first | exact HB.out | apply below_alloc | apply pw_below_drewN | apply below_drew1) | exact HB.out)⟩⟩
        · replace c12 := Bool.eq_false_iff.mpr c12
          subst c12
          have H1 : (tapewrightlaw01_NatOrder.j0 k a0 a1 a2 true) = some r := by rw [if_neg (show ¬ (false = true) by decide)] at H; exact H
          clear H
          have H := H1
          clear H1
          have H' := Aside0.mk H
          clear H
          go_wp2_with (first | ((with_reducible refine gate_dst (N := 28) rfl ?_); (try (refine gate_guard (by rfl) ?_; dsimp only)); refine Kd.R_lit Kd.string _ 9 ?hg (N := 28) ?hd (xs := ([a0, a1, a2] : List ByteArray)) (inner := [.string a0, .string a1, .string a2]) (ok := fun _ => True) (okp := fun _ => True) ?hr ?hp (fun _ hk => hk) trivial (Below.refl _ _) (Nat.le_refl _) (by simp) ?_; (case hd => rfl); (case hg => rfl); (case hr => first | (go_simp; done) | (go_simp; rfl)); (case hp => exact (Reps.one (show Kd.M Kd.string _ _ _ a0 [.string a0] from rfl) (Reps.one (show Kd.M Kd.string _ _ _ a1 [.string a1] from rfl) (Reps.one (show Kd.M Kd.string _ _ _ a2 [.string a2] from rfl) (Reps.none _ _))))); intro v181 w22 ho23 hb hg_ hnew_; clear hg_ hnew_; (first | rw [← Ny180.out] at ho23 | (simp only [Int.reduceToNat] at ho23; rw [← Ny180.out] at ho23)); have n0_ := Aside0.mk (Kd.R_lower ho23 (below_size (by repeat (first | (with_reducible first | exact HB.out | apply below_alloc | apply pw_below_drewN | apply below_drew1) | exact HB.out)))); have n1_ := Aside0.mk (below_step (by repeat (first | (with_reducible first | exact HB.out | apply below_alloc | apply pw_below_drewN | apply below_drew1) | exact HB.out)) hb); clear HB; have HO182 := n0_; have HB := n1_; clear n0_ n1_; clear hb ho23; obtain ⟨Ao24, co24, eo24⟩ := Kd.R_slice HO182.out; subst eo24) | ((with_reducible refine gate_callee (f := 18) rfl ?_); refine goesL_ (some 29) rfl rfl Try.func18 (by kernel_rfl) rfl #[.slice Ao24 y180.length co24] rfl (by (try simp only [List.map_toArray, List.map_cons, List.map_nil]); first | done | rfl | (simp only [List.length_drop, List.length_take]; rfl)) ?_; (with_reducible refine (tapewrightlaw01_short.calls k _ _ y180 true _ ?side1 ?side2 A5.out).mono ?_); (case side1 => repeat (first | exact (Kd.R_reads' HO182.out).2.2 | (with_reducible refine Kd.C_alloc ?_ _) | (with_reducible refine Kd.C_drewN ?_ _) | (with_reducible refine Kd.C_drew ?_))); (case side2 => exact (Kd.R_reads' HO182.out).2.1); rintro e w' ⟨rfl, ⟨nd, rfl⟩⟩; refine ⟨_, rfl, ?_⟩) | (go_at_call 14; (with_reducible refine (tapewrightref01_Right.calls a0 false _ A11.out).mono ?_); rintro e w' ⟨rfl, ⟨nd, rfl⟩⟩))
          go_meet
          case rel => exact ⟨_, (true), (by first | rfl | (simp; done) | (simp [*]; done)), H', ⟨by first | omega | exact Nat.le_refl _⟩, ⟨by repeat (first | (with_reducible first | exact HB.out | apply below_alloc | apply pw_below_drewN | apply below_drew1) | exact HB.out)⟩⟩
    · replace c6 := Bool.eq_false_iff.mpr c6
      subst c6
      have H1 : (tapewrightlaw01_NatOrder.j0 k a0 a1 a2 true) = some r := by rw [if_neg (show ¬ (false = true) by decide)] at H; exact H
      clear H
      have H := H1
      clear H1
      have H' := Aside0.mk H
      clear H
      go_wp2_with (first | ((with_reducible refine gate_dst (N := 28) rfl ?_); (try (refine gate_guard (by rfl) ?_; dsimp only)); refine Kd.R_lit Kd.string _ 9 ?hg (N := 28) ?hd (xs := ([a0, a1, a2] : List ByteArray)) (inner := [.string a0, .string a1, .string a2]) (ok := fun _ => True) (okp := fun _ => True) ?hr ?hp (fun _ hk => hk) trivial (Below.refl _ _) (Nat.le_refl _) (by simp) ?_; (case hd => rfl); (case hg => rfl); (case hr => first | (go_simp; done) | (go_simp; rfl)); (case hp => exact (Reps.one (show Kd.M Kd.string _ _ _ a0 [.string a0] from rfl) (Reps.one (show Kd.M Kd.string _ _ _ a1 [.string a1] from rfl) (Reps.one (show Kd.M Kd.string _ _ _ a2 [.string a2] from rfl) (Reps.none _ _))))); intro v181 w25 ho26 hb hg_ hnew_; clear hg_ hnew_; (first | rw [← Ny180.out] at ho26 | (simp only [Int.reduceToNat] at ho26; rw [← Ny180.out] at ho26)); have n0_ := Aside0.mk (Kd.R_lower ho26 (below_size (by repeat (first | (with_reducible first | exact HB.out | apply below_alloc | apply pw_below_drewN | apply below_drew1) | exact HB.out)))); have n1_ := Aside0.mk (below_step (by repeat (first | (with_reducible first | exact HB.out | apply below_alloc | apply pw_below_drewN | apply below_drew1) | exact HB.out)) hb); clear HB; have HO182 := n0_; have HB := n1_; clear n0_ n1_; clear hb ho26; obtain ⟨Ao27, co27, eo27⟩ := Kd.R_slice HO182.out; subst eo27) | ((with_reducible refine gate_callee (f := 18) rfl ?_); refine goesL_ (some 29) rfl rfl Try.func18 (by kernel_rfl) rfl #[.slice Ao27 y180.length co27] rfl (by (try simp only [List.map_toArray, List.map_cons, List.map_nil]); first | done | rfl | (simp only [List.length_drop, List.length_take]; rfl)) ?_; (with_reducible refine (tapewrightlaw01_short.calls k _ _ y180 false _ ?side1 ?side2 A5.out).mono ?_); (case side1 => repeat (first | exact (Kd.R_reads' HO182.out).2.2 | (with_reducible refine Kd.C_alloc ?_ _) | (with_reducible refine Kd.C_drewN ?_ _) | (with_reducible refine Kd.C_drew ?_))); (case side2 => exact (Kd.R_reads' HO182.out).2.1); rintro e w' ⟨rfl, ⟨nd, rfl⟩⟩; refine ⟨_, rfl, ?_⟩))
      go_meet
      case rel => exact ⟨_, (true), (by first | rfl | (simp; done) | (simp [*]; done)), H', ⟨by first | omega | exact Nat.le_refl _⟩, ⟨by repeat (first | (with_reducible first | exact HB.out | apply below_alloc | apply pw_below_drewN | apply below_drew1) | exact HB.out)⟩⟩
  case rest =>
    clear HC4
    try clear c1
    try clear p2
    try clear c6
    try clear p6
    try clear c7
    try clear c7b0
    try clear c8
    try clear c12
    try clear c14
    try clear c18
    obtain ⟨kq, x56_3, rfl, HA, HJ3, HB⟩ := hcut
    cases kq with
    | zero => exact absurd HA.out (by simp [tapewrightlaw01_NatOrder.j0])
    | succ kj3 =>
      have H := HA.out
      clear HA
      simp only [tapewrightlaw01_NatOrder.j0] at H
      by_cases c28 : x56_3 = true
      · subst c28
        have H1 : ((tapewrightlaw01_awake.f).bind fun t187 => (some t187)) = some r := by rw [if_pos rfl] at H; exact H
        clear H
        have H := H1
        clear H1
        replace H := Option.bind_eq_some_iff.mp H
        obtain ⟨t187, A290, H⟩ := H
        replace H : (some t187) = some r := H
        have A29 := Aside0.mk A290
        clear A290
        obtain rfl := Option.some.inj H
        go_wp2_with (first | ((with_reducible refine gate_callee (f := 15) rfl ?_); refine goesL_ (some 57) rfl rfl Try.func15 (by kernel_rfl) rfl #[] rfl (by (try simp only [List.map_toArray, List.map_cons, List.map_nil]); first | done | rfl | (simp only [List.length_drop, List.length_take]; rfl)) ?_; (with_reducible refine (tapewrightlaw01_awake.calls  t187 _ A29.out).mono ?_); rintro e w30 ⟨rfl, hb⟩; refine ⟨_, rfl, ?_⟩; have n0_ := Aside0.mk (below_step (by repeat (first | (with_reducible first | exact HB.out | apply below_alloc | apply pw_below_drewN | apply below_drew1) | exact HB.out)) hb); clear HB; have HB := n0_; clear n0_; (try clear hb); (try clear hb2); (try clear hk); (try clear hi)))
        go_ret
        exact ⟨by first | rfl | (simp [errW_none, errW_some] <;> rfl) | (simp [*, errW_none, errW_some] <;> rfl), by repeat (first | (with_reducible first | exact HB.out | apply below_alloc | apply pw_below_drewN | apply below_drew1) | exact HB.out)⟩
      · replace c28 := Bool.eq_false_iff.mpr c28
        subst c28
        have H1 : ((nat_Compare.f a0 a1).bind fun bt188 => ((nat_Add.f a0 a2).bind fun bt190 => ((nat_Add.f a1 a2).bind fun bt192 => ((nat_Compare.f bt190.1 bt192.1).bind fun bt194 => ((nat_Mul.f a0 a2).bind fun bt196 => ((nat_Mul.f a1 a2).bind fun bt198 => ((nat_Compare.f bt196.1 bt198.1).bind fun bt200 => ((nat_Compare.f a1 a2).bind fun bt202 => ((nat_Compare.f a0 a2).bind fun bt204 => (tapewrightlaw01_NatOrder.j1 kj3 a0 a1 a2 bt188.1 bt188.2 bt194.1 bt194.2 bt200.1 bt200.2 bt202.1 bt204.1)))))))))) = some r := by rw [if_neg (show ¬ (false = true) by decide)] at H; exact H
        clear H
        have H := H1
        clear H1
        replace H := Option.bind_eq_some_iff.mp H
        obtain ⟨⟨t188, t189⟩, A310, H⟩ := H
        replace H : ((nat_Add.f a0 a2).bind fun bt190 => ((nat_Add.f a1 a2).bind fun bt192 => ((nat_Compare.f bt190.1 bt192.1).bind fun bt194 => ((nat_Mul.f a0 a2).bind fun bt196 => ((nat_Mul.f a1 a2).bind fun bt198 => ((nat_Compare.f bt196.1 bt198.1).bind fun bt200 => ((nat_Compare.f a1 a2).bind fun bt202 => ((nat_Compare.f a0 a2).bind fun bt204 => (tapewrightlaw01_NatOrder.j1 kj3 a0 a1 a2 t188 t189 bt194.1 bt194.2 bt200.1 bt200.2 bt202.1 bt204.1))))))))) = some r := H
        have A31 := Aside0.mk A310
        clear A310
        replace H := Option.bind_eq_some_iff.mp H
        obtain ⟨⟨t190, t191⟩, A320, H⟩ := H
        replace H : ((nat_Add.f a1 a2).bind fun bt192 => ((nat_Compare.f t190 bt192.1).bind fun bt194 => ((nat_Mul.f a0 a2).bind fun bt196 => ((nat_Mul.f a1 a2).bind fun bt198 => ((nat_Compare.f bt196.1 bt198.1).bind fun bt200 => ((nat_Compare.f a1 a2).bind fun bt202 => ((nat_Compare.f a0 a2).bind fun bt204 => (tapewrightlaw01_NatOrder.j1 kj3 a0 a1 a2 t188 t189 bt194.1 bt194.2 bt200.1 bt200.2 bt202.1 bt204.1)))))))) = some r := H
        have A32 := Aside0.mk A320
        clear A320
        replace H := Option.bind_eq_some_iff.mp H
        obtain ⟨⟨t192, t193⟩, A330, H⟩ := H
        replace H : ((nat_Compare.f t190 t192).bind fun bt194 => ((nat_Mul.f a0 a2).bind fun bt196 => ((nat_Mul.f a1 a2).bind fun bt198 => ((nat_Compare.f bt196.1 bt198.1).bind fun bt200 => ((nat_Compare.f a1 a2).bind fun bt202 => ((nat_Compare.f a0 a2).bind fun bt204 => (tapewrightlaw01_NatOrder.j1 kj3 a0 a1 a2 t188 t189 bt194.1 bt194.2 bt200.1 bt200.2 bt202.1 bt204.1))))))) = some r := H
        have A33 := Aside0.mk A330
        clear A330
        replace H := Option.bind_eq_some_iff.mp H
        obtain ⟨⟨t194, t195⟩, A340, H⟩ := H
        replace H : ((nat_Mul.f a0 a2).bind fun bt196 => ((nat_Mul.f a1 a2).bind fun bt198 => ((nat_Compare.f bt196.1 bt198.1).bind fun bt200 => ((nat_Compare.f a1 a2).bind fun bt202 => ((nat_Compare.f a0 a2).bind fun bt204 => (tapewrightlaw01_NatOrder.j1 kj3 a0 a1 a2 t188 t189 t194 t195 bt200.1 bt200.2 bt202.1 bt204.1)))))) = some r := H
        have A34 := Aside0.mk A340
        clear A340
        replace H := Option.bind_eq_some_iff.mp H
        obtain ⟨⟨t196, t197⟩, A350, H⟩ := H
        replace H : ((nat_Mul.f a1 a2).bind fun bt198 => ((nat_Compare.f t196 bt198.1).bind fun bt200 => ((nat_Compare.f a1 a2).bind fun bt202 => ((nat_Compare.f a0 a2).bind fun bt204 => (tapewrightlaw01_NatOrder.j1 kj3 a0 a1 a2 t188 t189 t194 t195 bt200.1 bt200.2 bt202.1 bt204.1))))) = some r := H
        have A35 := Aside0.mk A350
        clear A350
        replace H := Option.bind_eq_some_iff.mp H
        obtain ⟨⟨t198, t199⟩, A360, H⟩ := H
        replace H : ((nat_Compare.f t196 t198).bind fun bt200 => ((nat_Compare.f a1 a2).bind fun bt202 => ((nat_Compare.f a0 a2).bind fun bt204 => (tapewrightlaw01_NatOrder.j1 kj3 a0 a1 a2 t188 t189 t194 t195 bt200.1 bt200.2 bt202.1 bt204.1)))) = some r := H
        have A36 := Aside0.mk A360
        clear A360
        replace H := Option.bind_eq_some_iff.mp H
        obtain ⟨⟨t200, t201⟩, A370, H⟩ := H
        replace H : ((nat_Compare.f a1 a2).bind fun bt202 => ((nat_Compare.f a0 a2).bind fun bt204 => (tapewrightlaw01_NatOrder.j1 kj3 a0 a1 a2 t188 t189 t194 t195 t200 t201 bt202.1 bt204.1))) = some r := H
        have A37 := Aside0.mk A370
        clear A370
        replace H := Option.bind_eq_some_iff.mp H
        obtain ⟨⟨t202, t203⟩, A380, H⟩ := H
        replace H : ((nat_Compare.f a0 a2).bind fun bt204 => (tapewrightlaw01_NatOrder.j1 kj3 a0 a1 a2 t188 t189 t194 t195 t200 t201 t202 bt204.1)) = some r := H
        have A38 := Aside0.mk A380
        clear A380
        have HC39 := Aside0.mk H
        clear H
        go_upto_region 11 with (first | ((with_reducible refine gate_callee (f := 25) rfl ?_); refine goesL_ (some 61) rfl rfl Try.func25 (by kernel_rfl) rfl #[.string a0, .string a1] rfl (by (try simp only [List.map_toArray, List.map_cons, List.map_nil]); first | done | rfl | (simp only [List.length_drop, List.length_take]; rfl)) ?_; (with_reducible refine (nat_Compare.calls a0 a1 t188 t189 _ A31.out).mono ?_); rintro e w40 ⟨rfl, hb⟩; refine ⟨_, rfl, ?_⟩; have n0_ := Aside0.mk (below_step (by repeat (first | (with_reducible first | exact HB.out | apply below_alloc | apply pw_below_drewN | apply below_drew1) | exact HB.out)) hb); clear HB; have HB := n0_; clear n0_; (try clear hb); (try clear hb2); (try clear hk); (try clear hi)) | ((with_reducible refine gate_callee (f := 23) rfl ?_); refine goesL_ (some 67) rfl rfl Try.func23 (by kernel_rfl) rfl #[.string a0, .string a2] rfl (by (try simp only [List.map_toArray, List.map_cons, List.map_nil]); first | done | rfl | (simp only [List.length_drop, List.length_take]; rfl)) ?_; (with_reducible refine (nat_Add.calls a0 a2 t190 t191 _ A32.out).mono ?_); rintro e w41 ⟨rfl, hb⟩; refine ⟨_, rfl, ?_⟩; have n0_ := Aside0.mk (below_step (by repeat (first | (with_reducible first | exact HB.out | apply below_alloc | apply pw_below_drewN | apply below_drew1) | exact HB.out)) hb); clear HB; have HB := n0_; clear n0_; (try clear hb); (try clear hb2); (try clear hk); (try clear hi)) | ((with_reducible refine gate_callee (f := 23) rfl ?_); refine goesL_ (some 73) rfl rfl Try.func23 (by kernel_rfl) rfl #[.string a1, .string a2] rfl (by (try simp only [List.map_toArray, List.map_cons, List.map_nil]); first | done | rfl | (simp only [List.length_drop, List.length_take]; rfl)) ?_; (with_reducible refine (nat_Add.calls a1 a2 t192 t193 _ A33.out).mono ?_); rintro e w42 ⟨rfl, hb⟩; refine ⟨_, rfl, ?_⟩; have n0_ := Aside0.mk (below_step (by repeat (first | (with_reducible first | exact HB.out | apply below_alloc | apply pw_below_drewN | apply below_drew1) | exact HB.out)) hb); clear HB; have HB := n0_; clear n0_; (try clear hb); (try clear hb2); (try clear hk); (try clear hi)) | ((with_reducible refine gate_callee (f := 25) rfl ?_); refine goesL_ (some 79) rfl rfl Try.func25 (by kernel_rfl) rfl #[.string t190, .string t192] rfl (by (try simp only [List.map_toArray, List.map_cons, List.map_nil]); first | done | rfl | (simp only [List.length_drop, List.length_take]; rfl)) ?_; (with_reducible refine (nat_Compare.calls t190 t192 t194 t195 _ A34.out).mono ?_); rintro e w43 ⟨rfl, hb⟩; refine ⟨_, rfl, ?_⟩; have n0_ := Aside0.mk (below_step (by repeat (first | (with_reducible first | exact HB.out | apply below_alloc | apply pw_below_drewN | apply below_drew1) | exact HB.out)) hb); clear HB; have HB := n0_; clear n0_; (try clear hb); (try clear hb2); (try clear hk); (try clear hi)) | ((with_reducible refine gate_callee (f := 16) rfl ?_); refine goesL_ (some 85) rfl rfl Try.func16 (by kernel_rfl) rfl #[.string a0, .string a2] rfl (by (try simp only [List.map_toArray, List.map_cons, List.map_nil]); first | done | rfl | (simp only [List.length_drop, List.length_take]; rfl)) ?_; (with_reducible refine (nat_Mul.calls a0 a2 t196 t197 _ A35.out).mono ?_); rintro e w44 ⟨rfl, hb⟩; refine ⟨_, rfl, ?_⟩; have n0_ := Aside0.mk (below_step (by repeat (first | (with_reducible first | exact HB.out | apply below_alloc | apply pw_below_drewN | apply below_drew1) | exact HB.out)) hb); clear HB; have HB := n0_; clear n0_; (try clear hb); (try clear hb2); (try clear hk); (try clear hi)) | ((with_reducible refine gate_callee (f := 16) rfl ?_); refine goesL_ (some 91) rfl rfl Try.func16 (by kernel_rfl) rfl #[.string a1, .string a2] rfl (by (try simp only [List.map_toArray, List.map_cons, List.map_nil]); first | done | rfl | (simp only [List.length_drop, List.length_take]; rfl)) ?_; (with_reducible refine (nat_Mul.calls a1 a2 t198 t199 _ A36.out).mono ?_); rintro e w45 ⟨rfl, hb⟩; refine ⟨_, rfl, ?_⟩; have n0_ := Aside0.mk (below_step (by repeat (first | (with_reducible first | exact HB.out | apply below_alloc | apply pw_below_drewN | apply below_drew1) | exact HB.out)) hb); clear HB; have HB := n0_; clear n0_; (try clear hb); (try clear hb2); (try clear hk); (try clear hi)) | ((with_reducible refine gate_callee (f := 25) rfl ?_); refine goesL_ (some 97) rfl rfl Try.func25 (by kernel_rfl) rfl #[.string t196, .string t198] rfl (by (try simp only [List.map_toArray, List.map_cons, List.map_nil]); first | done | rfl | (simp only [List.length_drop, List.length_take]; rfl)) ?_; (with_reducible refine (nat_Compare.calls t196 t198 t200 t201 _ A37.out).mono ?_); rintro e w46 ⟨rfl, hb⟩; refine ⟨_, rfl, ?_⟩; have n0_ := Aside0.mk (below_step (by repeat (first | (with_reducible first | exact HB.out | apply below_alloc | apply pw_below_drewN | apply below_drew1) | exact HB.out)) hb); clear HB; have HB := n0_; clear n0_; (try clear hb); (try clear hb2); (try clear hk); (try clear hi)) | ((with_reducible refine gate_callee (f := 25) rfl ?_); refine goesL_ (some 103) rfl rfl Try.func25 (by kernel_rfl) rfl #[.string a1, .string a2] rfl (by (try simp only [List.map_toArray, List.map_cons, List.map_nil]); first | done | rfl | (simp only [List.length_drop, List.length_take]; rfl)) ?_; (with_reducible refine (nat_Compare.calls a1 a2 t202 t203 _ A38.out).mono ?_); rintro e w47 ⟨rfl, hb⟩; refine ⟨_, rfl, ?_⟩; have n0_ := Aside0.mk (below_step (by repeat (first | (with_reducible first | exact HB.out | apply below_alloc | apply pw_below_drewN | apply below_drew1) | exact HB.out)) hb); clear HB; have HB := n0_; clear n0_; (try clear hb); (try clear hb2); (try clear hk); (try clear hi)))
        (try simp only [Act.put, List.setIfInBounds_toArray, List.set_cons_zero, List.set_cons_succ])
        go_cut [23] (fun v23 wc => ∃ (kq : Nat) (x23_38 : Int), v23 = .int .i64 x23_38 ∧ Aside0 (tapewrightlaw01_NatOrder.j1 kq a0 a1 a2 t188 t189 t194 t195 t200 t201 t202 x23_38 = some r) ∧ Aside0 (kq ≤ kj3) ∧ Aside0 (Below w.heap.size w wc))
        case first =>
          have H := HC39.out
          clear HC39
          replace H := Option.bind_eq_some_iff.mp H
          obtain ⟨⟨t204, t205⟩, A480, H⟩ := H
          replace H : (tapewrightlaw01_NatOrder.j1 kj3 a0 a1 a2 t188 t189 t194 t195 t200 t201 t202 t204) = some r := H
          have A48 := Aside0.mk A480
          clear A480
          have H' := Aside0.mk H
          clear H
          go_wp2_with (first | ((with_reducible refine gate_callee (f := 25) rfl ?_); refine goesL_ (some 109) rfl rfl Try.func25 (by kernel_rfl) rfl #[.string a0, .string a2] rfl (by (try simp only [List.map_toArray, List.map_cons, List.map_nil]); first | done | rfl | (simp only [List.length_drop, List.length_take]; rfl)) ?_; (with_reducible refine (nat_Compare.calls a0 a2 t204 t205 _ A48.out).mono ?_); rintro e w49 ⟨rfl, hb⟩; refine ⟨_, rfl, ?_⟩; have n0_ := Aside0.mk (below_step (by repeat (first | (with_reducible first | exact HB.out | apply below_alloc | apply pw_below_drewN | apply below_drew1) | exact HB.out)) hb); clear HB; have HB := n0_; clear n0_; (try clear hb); (try clear hb2); (try clear hk); (try clear hi)))
          go_meet
          case rel => exact ⟨_, (t204), (by first | rfl | (simp; done) | (simp [*]; done)), H', ⟨by have := HJ3.out; first | omega | exact Nat.le_refl _⟩, ⟨by repeat (first | (with_reducible first | exact HB.out | apply below_alloc | apply pw_below_drewN | apply below_drew1) | exact HB.out)⟩⟩
        case rest =>
          clear HC39
          try clear c1
          try clear c2
          try clear p2
          try clear c6
          try clear p6
          try clear c7
          try clear c7b0
          try clear c8
          try clear c12
          try clear c14
          try clear c15
          try clear c16
          try clear c18
          try clear c23
          try clear c25
          try clear c28
          try clear p2
          try clear p6
          obtain ⟨kq, x23_38, rfl, HA, HJ38, HB⟩ := hcut
          cases kq with
          | zero => exact absurd HA.out (by simp [tapewrightlaw01_NatOrder.j1])
          | succ kj38 =>
            have H := HA.out
            clear HA
            simp only [tapewrightlaw01_NatOrder.j1] at H
            by_cases c50 : t188 = t194
            · rw [if_pos c50] at H
              have c50b0 : (t188 == t194) = true := beq_iff_eq.mpr c50
              have c50b1 : (t188 != t194) = false := bne_eq_false_iff_eq.mpr c50
              clear c50
              by_cases c51 : a2.toList = ([48] : List UInt8)
              · rw [if_pos c51] at H
                have c51b0 : (a2.toList == ([48] : List UInt8)) = true := beq_iff_eq.mpr c51
                have c51b1 : (a2.toList != ([48] : List UInt8)) = false := bne_eq_false_iff_eq.mpr c51
                clear c51
                by_cases c52 : t200 = 0
                · rw [if_pos c52] at H
                  have c52b0 : (t200 == 0) = true := beq_iff_eq.mpr c52
                  have c52b1 : (t200 != 0) = false := bne_eq_false_iff_eq.mpr c52
                  clear c52
                  by_cases c53 : t188 > 0
                  · rw [if_pos c53] at H
                    have c53b0 : decide (0 < t188) = true := decide_eq_true c53
                    clear c53
                    by_cases c54 : ((t188 == 0) == (a0.toList == a1.toList)) = true
                    · rw [if_pos c54] at H
                      have c54b0 : ((t188 == 0) == (a0.toList == a1.toList)) = true := c54
                      (try (have c54b1 : decide ((t188 == 0) = (a0.toList == a1.toList)) = true := by simpa using c54))
                      (try (have c54b2 : ((t188 == 0) == (a0.toList == a1.toList)) = true := by simpa using c54))
                      clear c54
                      by_cases c55 : t189 = 0
                      · rw [if_pos c55] at H
                        have c55b0 : (t189 == 0) = true := beq_iff_eq.mpr c55
                        have c55b1 : (t189 != 0) = false := bne_eq_false_iff_eq.mpr c55
                        clear c55
                        by_cases c56 : t195 = 0
                        · rw [if_pos c56] at H
                          have c56b0 : (t195 == 0) = true := beq_iff_eq.mpr c56
                          have c56b1 : (t195 != 0) = false := bne_eq_false_iff_eq.mpr c56
                          clear c56
                          by_cases c57 : t201 = 0
                          · rw [if_pos c57] at H
                            have c57b0 : (t201 == 0) = true := beq_iff_eq.mpr c57
                            have c57b1 : (t201 != 0) = false := bne_eq_false_iff_eq.mpr c57
                            clear c57
                            replace H := Option.bind_eq_some_iff.mp H
                            obtain ⟨t206, A580, H⟩ := H
                            replace H : (some t206) = some r := H
                            have A58 := Aside0.mk A580
                            clear A580
                            obtain rfl := Option.some.inj H
                            go_wp2_with (first | (go_at_call 15; (with_reducible refine (tapewrightlaw01_awake.calls  t206 _ A58.out).mono ?_); rintro e w59 ⟨rfl, hb⟩; have n0_ := Aside0.mk (below_step (by repeat (first | (with_reducible first | exact HB.out | apply below_alloc | apply pw_below_drewN | apply below_drew1) | exact HB.out)) hb); clear HB; have HB := n0_; clear n0_; (try clear hb); (try clear hb2); (try clear hk); (try clear hi)))
                            go_ret
                            exact ⟨by first | rfl | (simp [errW_none, errW_some] <;> rfl) | (simp [*, errW_none, errW_some] <;> rfl), by repeat (first | (with_reducible first | exact HB.out | apply below_alloc | apply pw_below_drewN | apply below_drew1) | exact HB.out)⟩
                          · rw [if_neg c57] at H
                            have c57b0 : (t201 == 0) = false := beq_eq_false_iff_ne.mpr c57
                            have c57b1 : (t201 != 0) = true := bne_iff_ne.mpr c57
                            obtain rfl := Option.some.inj H
                            go_wp2
                            go_ret
                            exact ⟨by first | rfl | (simp [errW_none, errW_some] <;> rfl) | (simp [*, errW_none, errW_some] <;> rfl), by repeat (first | (with_reducible first | exact HB.out | apply below_alloc | apply pw_below_drewN | apply below_drew1) | exact HB.out)⟩
                        · rw [if_neg c56] at H
                          have c56b0 : (t195 == 0) = false := beq_eq_false_iff_ne.mpr c56
                          have c56b1 : (t195 != 0) = true := bne_iff_ne.mpr c56
                          obtain rfl := Option.some.inj H
                          go_wp2
                          go_ret
                          exact ⟨by first | rfl | (simp [errW_none, errW_some] <;> rfl) | (simp [*, errW_none, errW_some] <;> rfl), by repeat (first | (with_reducible first | exact HB.out | apply below_alloc | apply pw_below_drewN | apply below_drew1) | exact HB.out)⟩
                      · rw [if_neg c55] at H
                        have c55b0 : (t189 == 0) = false := beq_eq_false_iff_ne.mpr c55
                        have c55b1 : (t189 != 0) = true := bne_iff_ne.mpr c55
                        obtain rfl := Option.some.inj H
                        go_wp2
                        go_ret
                        exact ⟨by first | rfl | (simp [errW_none, errW_some] <;> rfl) | (simp [*, errW_none, errW_some] <;> rfl), by repeat (first | (with_reducible first | exact HB.out | apply below_alloc | apply pw_below_drewN | apply below_drew1) | exact HB.out)⟩
                    · rw [if_neg c54] at H
                      have c54b0 : ((t188 == 0) == (a0.toList == a1.toList)) = false := by simpa using c54
                      (try (have c54b1 : decide ((t188 == 0) = (a0.toList == a1.toList)) = false := by simpa using c54))
                      (try (have c54b2 : ((t188 == 0) == (a0.toList == a1.toList)) = false := by simpa using c54))
                      (try (have c54b3 : ¬ ((t188 == 0) = (a0.toList == a1.toList)) := by simpa using c54))
                      clear c54
                      obtain rfl := Option.some.inj H
                      go_wp2
                      go_ret
                      exact ⟨by first | rfl | (simp [errW_none, errW_some] <;> rfl) | (simp [*, errW_none, errW_some] <;> rfl), by repeat (first | (with_reducible first | exact HB.out | apply below_alloc | apply pw_below_drewN | apply below_drew1) | exact HB.out)⟩
                  · rw [if_neg c53] at H
                    have c53b0 : decide (0 < t188) = false := decide_eq_false c53
                    clear c53
                    by_cases c60 : t202 > 0
                    · rw [if_pos c60] at H
                      have c60b0 : decide (0 < t202) = true := decide_eq_true c60
                      clear c60
                      by_cases c61 : ((t188 == 0) == (a0.toList == a1.toList)) = true
                      · rw [if_pos c61] at H
                        have c61b0 : ((t188 == 0) == (a0.toList == a1.toList)) = true := c61
                        (try (have c61b1 : decide ((t188 == 0) = (a0.toList == a1.toList)) = true := by simpa using c61))
                        (try (have c61b2 : ((t188 == 0) == (a0.toList == a1.toList)) = true := by simpa using c61))
                        clear c61
                        by_cases c62 : t189 = 0
                        · rw [if_pos c62] at H
                          have c62b0 : (t189 == 0) = true := beq_iff_eq.mpr c62
                          have c62b1 : (t189 != 0) = false := bne_eq_false_iff_eq.mpr c62
                          clear c62
                          by_cases c63 : t195 = 0
                          · rw [if_pos c63] at H
                            have c63b0 : (t195 == 0) = true := beq_iff_eq.mpr c63
                            have c63b1 : (t195 != 0) = false := bne_eq_false_iff_eq.mpr c63
                            clear c63
                            by_cases c64 : t201 = 0
                            · rw [if_pos c64] at H
                              have c64b0 : (t201 == 0) = true := beq_iff_eq.mpr c64
                              have c64b1 : (t201 != 0) = false := bne_eq_false_iff_eq.mpr c64
                              clear c64
                              replace H := Option.bind_eq_some_iff.mp H
                              obtain ⟨t207, A650, H⟩ := H
                              replace H : (some t207) = some r := H
                              have A65 := Aside0.mk A650
                              clear A650
                              obtain rfl := Option.some.inj H
                              go_wp2_with (first | (go_at_call 15; (with_reducible refine (tapewrightlaw01_awake.calls  t207 _ A65.out).mono ?_); rintro e w66 ⟨rfl, hb⟩; have n0_ := Aside0.mk (below_step (by repeat (first | (with_reducible first | exact HB.out | apply below_alloc | apply pw_below_drewN | apply below_drew1) | exact HB.out)) hb); clear HB; have HB := n0_; clear n0_; (try clear hb); (try clear hb2); (try clear hk); (try clear hi)))
                              go_ret
                              exact ⟨by first | rfl | (simp [errW_none, errW_some] <;> rfl) | (simp [*, errW_none, errW_some] <;> rfl), by repeat (first | (with_reducible first | exact HB.out | apply below_alloc | apply pw_below_drewN | apply below_drew1) | exact HB.out)⟩
                            · rw [if_neg c64] at H
                              have c64b0 : (t201 == 0) = false := beq_eq_false_iff_ne.mpr c64
                              have c64b1 : (t201 != 0) = true := bne_iff_ne.mpr c64
                              obtain rfl := Option.some.inj H
                              go_wp2
                              go_ret
                              exact ⟨by first | rfl | (simp [errW_none, errW_some] <;> rfl) | (simp [*, errW_none, errW_some] <;> rfl), by repeat (first | (with_reducible first | exact HB.out | apply below_alloc | apply pw_below_drewN | apply below_drew1) | exact HB.out)⟩
                          · rw [if_neg c63] at H
                            have c63b0 : (t195 == 0) = false := beq_eq_false_iff_ne.mpr c63
                            have c63b1 : (t195 != 0) = true := bne_iff_ne.mpr c63
                            obtain rfl := Option.some.inj H
                            go_wp2
                            go_ret
                            exact ⟨by first | rfl | (simp [errW_none, errW_some] <;> rfl) | (simp [*, errW_none, errW_some] <;> rfl), by repeat (first | (with_reducible first | exact HB.out | apply below_alloc | apply pw_below_drewN | apply below_drew1) | exact HB.out)⟩
                        · rw [if_neg c62] at H
                          have c62b0 : (t189 == 0) = false := beq_eq_false_iff_ne.mpr c62
                          have c62b1 : (t189 != 0) = true := bne_iff_ne.mpr c62
                          obtain rfl := Option.some.inj H
                          go_wp2
                          go_ret
                          exact ⟨by first | rfl | (simp [errW_none, errW_some] <;> rfl) | (simp [*, errW_none, errW_some] <;> rfl), by repeat (first | (with_reducible first | exact HB.out | apply below_alloc | apply pw_below_drewN | apply below_drew1) | exact HB.out)⟩
                      · rw [if_neg c61] at H
                        have c61b0 : ((t188 == 0) == (a0.toList == a1.toList)) = false := by simpa using c61
                        (try (have c61b1 : decide ((t188 == 0) = (a0.toList == a1.toList)) = false := by simpa using c61))
                        (try (have c61b2 : ((t188 == 0) == (a0.toList == a1.toList)) = false := by simpa using c61))
                        (try (have c61b3 : ¬ ((t188 == 0) = (a0.toList == a1.toList)) := by simpa using c61))
                        clear c61
                        obtain rfl := Option.some.inj H
                        go_wp2
                        go_ret
                        exact ⟨by first | rfl | (simp [errW_none, errW_some] <;> rfl) | (simp [*, errW_none, errW_some] <;> rfl), by repeat (first | (with_reducible first | exact HB.out | apply below_alloc | apply pw_below_drewN | apply below_drew1) | exact HB.out)⟩
                    · rw [if_neg c60] at H
                      have c60b0 : decide (0 < t202) = false := decide_eq_false c60
                      clear c60
                      by_cases c67 : x23_38 ≤ 0
                      · rw [if_pos c67] at H
                        have c67b0 : decide (x23_38 ≤ 0) = true := decide_eq_true c67
                        clear c67
                        by_cases c68 : ((t188 == 0) == (a0.toList == a1.toList)) = true
                        · rw [if_pos c68] at H
                          have c68b0 : ((t188 == 0) == (a0.toList == a1.toList)) = true := c68
                          (try (have c68b1 : decide ((t188 == 0) = (a0.toList == a1.toList)) = true := by simpa using c68))
                          (try (have c68b2 : ((t188 == 0) == (a0.toList == a1.toList)) = true := by simpa using c68))
                          clear c68
                          by_cases c69 : t189 = 0
                          · rw [if_pos c69] at H
                            have c69b0 : (t189 == 0) = true := beq_iff_eq.mpr c69
                            have c69b1 : (t189 != 0) = false := bne_eq_false_iff_eq.mpr c69
                            clear c69
                            by_cases c70 : t195 = 0
                            · rw [if_pos c70] at H
                              have c70b0 : (t195 == 0) = true := beq_iff_eq.mpr c70
                              have c70b1 : (t195 != 0) = false := bne_eq_false_iff_eq.mpr c70
                              clear c70
                              by_cases c71 : t201 = 0
                              · rw [if_pos c71] at H
                                have c71b0 : (t201 == 0) = true := beq_iff_eq.mpr c71
                                have c71b1 : (t201 != 0) = false := bne_eq_false_iff_eq.mpr c71
                                clear c71
                                replace H := Option.bind_eq_some_iff.mp H
                                obtain ⟨t208, A720, H⟩ := H
                                replace H : (some t208) = some r := H
                                have A72 := Aside0.mk A720
                                clear A720
                                obtain rfl := Option.some.inj H
                                go_wp2_with (first | (go_at_call 15; (with_reducible refine (tapewrightlaw01_awake.calls  t208 _ A72.out).mono ?_); rintro e w73 ⟨rfl, hb⟩; have n0_ := Aside0.mk (below_step (by repeat (first | (with_reducible first | exact HB.out | apply below_alloc | apply pw_below_drewN | apply below_drew1) | exact HB.out)) hb); clear HB; have HB := n0_; clear n0_; (try clear hb); (try clear hb2); (try clear hk); (try clear hi)))
                                go_ret
                                exact ⟨by first | rfl | (simp [errW_none, errW_some] <;> rfl) | (simp [*, errW_none, errW_some] <;> rfl), by repeat (first | (with_reducible first | exact HB.out | apply below_alloc | apply pw_below_drewN | apply below_drew1) | exact HB.out)⟩
                              · rw [if_neg c71] at H
                                have c71b0 : (t201 == 0) = false := beq_eq_false_iff_ne.mpr c71
                                have c71b1 : (t201 != 0) = true := bne_iff_ne.mpr c71
                                obtain rfl := Option.some.inj H
                                go_wp2
                                go_ret
                                exact ⟨by first | rfl | (simp [errW_none, errW_some] <;> rfl) | (simp [*, errW_none, errW_some] <;> rfl), by repeat (first | (with_reducible first | exact HB.out | apply below_alloc | apply pw_below_drewN | apply below_drew1) | exact HB.out)⟩
                            · rw [if_neg c70] at H
                              have c70b0 : (t195 == 0) = false := beq_eq_false_iff_ne.mpr c70
                              have c70b1 : (t195 != 0) = true := bne_iff_ne.mpr c70
                              obtain rfl := Option.some.inj H
                              go_wp2
                              go_ret
                              exact ⟨by first | rfl | (simp [errW_none, errW_some] <;> rfl) | (simp [*, errW_none, errW_some] <;> rfl), by repeat (first | (with_reducible first | exact HB.out | apply below_alloc | apply pw_below_drewN | apply below_drew1) | exact HB.out)⟩
                          · rw [if_neg c69] at H
                            have c69b0 : (t189 == 0) = false := beq_eq_false_iff_ne.mpr c69
                            have c69b1 : (t189 != 0) = true := bne_iff_ne.mpr c69
                            obtain rfl := Option.some.inj H
                            go_wp2
                            go_ret
                            exact ⟨by first | rfl | (simp [errW_none, errW_some] <;> rfl) | (simp [*, errW_none, errW_some] <;> rfl), by repeat (first | (with_reducible first | exact HB.out | apply below_alloc | apply pw_below_drewN | apply below_drew1) | exact HB.out)⟩
                        · rw [if_neg c68] at H
                          have c68b0 : ((t188 == 0) == (a0.toList == a1.toList)) = false := by simpa using c68
                          (try (have c68b1 : decide ((t188 == 0) = (a0.toList == a1.toList)) = false := by simpa using c68))
                          (try (have c68b2 : ((t188 == 0) == (a0.toList == a1.toList)) = false := by simpa using c68))
                          (try (have c68b3 : ¬ ((t188 == 0) = (a0.toList == a1.toList)) := by simpa using c68))
                          clear c68
                          obtain rfl := Option.some.inj H
                          go_wp2
                          go_ret
                          exact ⟨by first | rfl | (simp [errW_none, errW_some] <;> rfl) | (simp [*, errW_none, errW_some] <;> rfl), by repeat (first | (with_reducible first | exact HB.out | apply below_alloc | apply pw_below_drewN | apply below_drew1) | exact HB.out)⟩
                      · rw [if_neg c67] at H
                        have c67b0 : decide (x23_38 ≤ 0) = false := decide_eq_false c67
                        clear c67
                        obtain rfl := Option.some.inj H
                        go_wp2
                        go_ret
                        exact ⟨by first | rfl | (simp [errW_none, errW_some] <;> rfl) | (simp [*, errW_none, errW_some] <;> rfl), by repeat (first | (with_reducible first | exact HB.out | apply below_alloc | apply pw_below_drewN | apply below_drew1) | exact HB.out)⟩
                · rw [if_neg c52] at H
                  have c52b0 : (t200 == 0) = false := beq_eq_false_iff_ne.mpr c52
                  have c52b1 : (t200 != 0) = true := bne_iff_ne.mpr c52
                  obtain rfl := Option.some.inj H
                  go_wp2
                  go_ret
                  exact ⟨by first | rfl | (simp [errW_none, errW_some] <;> rfl) | (simp [*, errW_none, errW_some] <;> rfl), by repeat (first | (with_reducible first | exact HB.out | apply below_alloc | apply pw_below_drewN | apply below_drew1) | exact HB.out)⟩
              · rw [if_neg c51] at H
                have c51b0 : (a2.toList == ([48] : List UInt8)) = false := beq_eq_false_iff_ne.mpr c51
                have c51b1 : (a2.toList != ([48] : List UInt8)) = true := bne_iff_ne.mpr c51
                by_cases c74 : t200 = t188
                · rw [if_pos c74] at H
                  have c74b0 : (t200 == t188) = true := beq_iff_eq.mpr c74
                  have c74b1 : (t200 != t188) = false := bne_eq_false_iff_eq.mpr c74
                  clear c74
                  by_cases c75 : t188 > 0
                  · rw [if_pos c75] at H
                    have c75b0 : decide (0 < t188) = true := decide_eq_true c75
                    clear c75
                    by_cases c76 : ((t188 == 0) == (a0.toList == a1.toList)) = true
                    · rw [if_pos c76] at H
                      have c76b0 : ((t188 == 0) == (a0.toList == a1.toList)) = true := c76
                      (try (have c76b1 : decide ((t188 == 0) = (a0.toList == a1.toList)) = true := by simpa using c76))
                      (try (have c76b2 : ((t188 == 0) == (a0.toList == a1.toList)) = true := by simpa using c76))
                      clear c76
                      by_cases c77 : t189 = 0
                      · rw [if_pos c77] at H
                        have c77b0 : (t189 == 0) = true := beq_iff_eq.mpr c77
                        have c77b1 : (t189 != 0) = false := bne_eq_false_iff_eq.mpr c77
                        clear c77
                        by_cases c78 : t195 = 0
                        · rw [if_pos c78] at H
                          have c78b0 : (t195 == 0) = true := beq_iff_eq.mpr c78
                          have c78b1 : (t195 != 0) = false := bne_eq_false_iff_eq.mpr c78
                          clear c78
                          by_cases c79 : t201 = 0
                          · rw [if_pos c79] at H
                            have c79b0 : (t201 == 0) = true := beq_iff_eq.mpr c79
                            have c79b1 : (t201 != 0) = false := bne_eq_false_iff_eq.mpr c79
                            clear c79
                            replace H := Option.bind_eq_some_iff.mp H
                            obtain ⟨t209, A800, H⟩ := H
                            replace H : (some t209) = some r := H
                            have A80 := Aside0.mk A800
                            clear A800
                            obtain rfl := Option.some.inj H
                            go_wp2_with (first | (go_at_call 15; (with_reducible refine (tapewrightlaw01_awake.calls  t209 _ A80.out).mono ?_); rintro e w81 ⟨rfl, hb⟩; have n0_ := Aside0.mk (below_step (by repeat (first | (with_reducible first | exact HB.out | apply below_alloc | apply pw_below_drewN | apply below_drew1) | exact HB.out)) hb); clear HB; have HB := n0_; clear n0_; (try clear hb); (try clear hb2); (try clear hk); (try clear hi)))
                            go_ret
                            exact ⟨by first | rfl | (simp [errW_none, errW_some] <;> rfl) | (simp [*, errW_none, errW_some] <;> rfl), by repeat (first | (with_reducible first | exact HB.out | apply below_alloc | apply pw_below_drewN | apply below_drew1) | exact HB.out)⟩
                          · rw [if_neg c79] at H
                            have c79b0 : (t201 == 0) = false := beq_eq_false_iff_ne.mpr c79
                            have c79b1 : (t201 != 0) = true := bne_iff_ne.mpr c79
                            obtain rfl := Option.some.inj H
                            go_wp2
                            go_ret
                            exact ⟨by first | rfl | (simp [errW_none, errW_some] <;> rfl) | (simp [*, errW_none, errW_some] <;> rfl), by repeat (first | (with_reducible first | exact HB.out | apply below_alloc | apply pw_below_drewN | apply below_drew1) | exact HB.out)⟩
                        · rw [if_neg c78] at H
                          have c78b0 : (t195 == 0) = false := beq_eq_false_iff_ne.mpr c78
                          have c78b1 : (t195 != 0) = true := bne_iff_ne.mpr c78
                          obtain rfl := Option.some.inj H
                          go_wp2
                          go_ret
                          exact ⟨by first | rfl | (simp [errW_none, errW_some] <;> rfl) | (simp [*, errW_none, errW_some] <;> rfl), by repeat (first | (with_reducible first | exact HB.out | apply below_alloc | apply pw_below_drewN | apply below_drew1) | exact HB.out)⟩
                      · rw [if_neg c77] at H
                        have c77b0 : (t189 == 0) = false := beq_eq_false_iff_ne.mpr c77
                        have c77b1 : (t189 != 0) = true := bne_iff_ne.mpr c77
                        obtain rfl := Option.some.inj H
                        go_wp2
                        go_ret
                        exact ⟨by first | rfl | (simp [errW_none, errW_some] <;> rfl) | (simp [*, errW_none, errW_some] <;> rfl), by repeat (first | (with_reducible first | exact HB.out | apply below_alloc | apply pw_below_drewN | apply below_drew1) | exact HB.out)⟩
                    · rw [if_neg c76] at H
                      have c76b0 : ((t188 == 0) == (a0.toList == a1.toList)) = false := by simpa using c76
                      (try (have c76b1 : decide ((t188 == 0) = (a0.toList == a1.toList)) = false := by simpa using c76))
                      (try (have c76b2 : ((t188 == 0) == (a0.toList == a1.toList)) = false := by simpa using c76))
                      (try (have c76b3 : ¬ ((t188 == 0) = (a0.toList == a1.toList)) := by simpa using c76))
                      clear c76
                      obtain rfl := Option.some.inj H
                      go_wp2
                      go_ret
                      exact ⟨by first | rfl | (simp [errW_none, errW_some] <;> rfl) | (simp [*, errW_none, errW_some] <;> rfl), by repeat (first | (with_reducible first | exact HB.out | apply below_alloc | apply pw_below_drewN | apply below_drew1) | exact HB.out)⟩
                  · rw [if_neg c75] at H
                    have c75b0 : decide (0 < t188) = false := decide_eq_false c75
                    clear c75
                    by_cases c82 : t202 > 0
                    · rw [if_pos c82] at H
                      have c82b0 : decide (0 < t202) = true := decide_eq_true c82
                      clear c82
                      by_cases c83 : ((t188 == 0) == (a0.toList == a1.toList)) = true
                      · rw [if_pos c83] at H
                        have c83b0 : ((t188 == 0) == (a0.toList == a1.toList)) = true := c83
                        (try (have c83b1 : decide ((t188 == 0) = (a0.toList == a1.toList)) = true := by simpa using c83))
                        (try (have c83b2 : ((t188 == 0) == (a0.toList == a1.toList)) = true := by simpa using c83))
                        clear c83
                        by_cases c84 : t189 = 0
                        · rw [if_pos c84] at H
                          have c84b0 : (t189 == 0) = true := beq_iff_eq.mpr c84
                          have c84b1 : (t189 != 0) = false := bne_eq_false_iff_eq.mpr c84
                          clear c84
                          by_cases c85 : t195 = 0
                          · rw [if_pos c85] at H
                            have c85b0 : (t195 == 0) = true := beq_iff_eq.mpr c85
                            have c85b1 : (t195 != 0) = false := bne_eq_false_iff_eq.mpr c85
                            clear c85
                            by_cases c86 : t201 = 0
                            · rw [if_pos c86] at H
                              have c86b0 : (t201 == 0) = true := beq_iff_eq.mpr c86
                              have c86b1 : (t201 != 0) = false := bne_eq_false_iff_eq.mpr c86
                              clear c86
                              replace H := Option.bind_eq_some_iff.mp H
                              obtain ⟨t210, A870, H⟩ := H
                              replace H : (some t210) = some r := H
                              have A87 := Aside0.mk A870
                              clear A870
                              obtain rfl := Option.some.inj H
                              go_wp2_with (first | (go_at_call 15; (with_reducible refine (tapewrightlaw01_awake.calls  t210 _ A87.out).mono ?_); rintro e w88 ⟨rfl, hb⟩; have n0_ := Aside0.mk (below_step (by repeat (first | (with_reducible first | exact HB.out | apply below_alloc | apply pw_below_drewN | apply below_drew1) | exact HB.out)) hb); clear HB; have HB := n0_; clear n0_; (try clear hb); (try clear hb2); (try clear hk); (try clear hi)))
                              go_ret
                              exact ⟨by first | rfl | (simp [errW_none, errW_some] <;> rfl) | (simp [*, errW_none, errW_some] <;> rfl), by repeat (first | (with_reducible first | exact HB.out | apply below_alloc | apply pw_below_drewN | apply below_drew1) | exact HB.out)⟩
                            · rw [if_neg c86] at H
                              have c86b0 : (t201 == 0) = false := beq_eq_false_iff_ne.mpr c86
                              have c86b1 : (t201 != 0) = true := bne_iff_ne.mpr c86
                              obtain rfl := Option.some.inj H
                              go_wp2
                              go_ret
                              exact ⟨by first | rfl | (simp [errW_none, errW_some] <;> rfl) | (simp [*, errW_none, errW_some] <;> rfl), by repeat (first | (with_reducible first | exact HB.out | apply below_alloc | apply pw_below_drewN | apply below_drew1) | exact HB.out)⟩
                          · rw [if_neg c85] at H
                            have c85b0 : (t195 == 0) = false := beq_eq_false_iff_ne.mpr c85
                            have c85b1 : (t195 != 0) = true := bne_iff_ne.mpr c85
                            obtain rfl := Option.some.inj H
                            go_wp2
                            go_ret
                            exact ⟨by first | rfl | (simp [errW_none, errW_some] <;> rfl) | (simp [*, errW_none, errW_some] <;> rfl), by repeat (first | (with_reducible first | exact HB.out | apply below_alloc | apply pw_below_drewN | apply below_drew1) | exact HB.out)⟩
                        · rw [if_neg c84] at H
                          have c84b0 : (t189 == 0) = false := beq_eq_false_iff_ne.mpr c84
                          have c84b1 : (t189 != 0) = true := bne_iff_ne.mpr c84
                          obtain rfl := Option.some.inj H
                          go_wp2
                          go_ret
                          exact ⟨by first | rfl | (simp [errW_none, errW_some] <;> rfl) | (simp [*, errW_none, errW_some] <;> rfl), by repeat (first | (with_reducible first | exact HB.out | apply below_alloc | apply pw_below_drewN | apply below_drew1) | exact HB.out)⟩
                      · rw [if_neg c83] at H
                        have c83b0 : ((t188 == 0) == (a0.toList == a1.toList)) = false := by simpa using c83
                        (try (have c83b1 : decide ((t188 == 0) = (a0.toList == a1.toList)) = false := by simpa using c83))
                        (try (have c83b2 : ((t188 == 0) == (a0.toList == a1.toList)) = false := by simpa using c83))
                        (try (have c83b3 : ¬ ((t188 == 0) = (a0.toList == a1.toList)) := by simpa using c83))
                        clear c83
                        obtain rfl := Option.some.inj H
                        go_wp2
                        go_ret
                        exact ⟨by first | rfl | (simp [errW_none, errW_some] <;> rfl) | (simp [*, errW_none, errW_some] <;> rfl), by repeat (first | (with_reducible first | exact HB.out | apply below_alloc | apply pw_below_drewN | apply below_drew1) | exact HB.out)⟩
                    · rw [if_neg c82] at H
                      have c82b0 : decide (0 < t202) = false := decide_eq_false c82
                      clear c82
                      by_cases c89 : x23_38 ≤ 0
                      · rw [if_pos c89] at H
                        have c89b0 : decide (x23_38 ≤ 0) = true := decide_eq_true c89
                        clear c89
                        by_cases c90 : ((t188 == 0) == (a0.toList == a1.toList)) = true
                        · rw [if_pos c90] at H
                          have c90b0 : ((t188 == 0) == (a0.toList == a1.toList)) = true := c90
                          (try (have c90b1 : decide ((t188 == 0) = (a0.toList == a1.toList)) = true := by simpa using c90))
                          (try (have c90b2 : ((t188 == 0) == (a0.toList == a1.toList)) = true := by simpa using c90))
                          clear c90
                          by_cases c91 : t189 = 0
                          · rw [if_pos c91] at H
                            have c91b0 : (t189 == 0) = true := beq_iff_eq.mpr c91
                            have c91b1 : (t189 != 0) = false := bne_eq_false_iff_eq.mpr c91
                            clear c91
                            by_cases c92 : t195 = 0
                            · rw [if_pos c92] at H
                              have c92b0 : (t195 == 0) = true := beq_iff_eq.mpr c92
                              have c92b1 : (t195 != 0) = false := bne_eq_false_iff_eq.mpr c92
                              clear c92
                              by_cases c93 : t201 = 0
                              · rw [if_pos c93] at H
                                have c93b0 : (t201 == 0) = true := beq_iff_eq.mpr c93
                                have c93b1 : (t201 != 0) = false := bne_eq_false_iff_eq.mpr c93
                                clear c93
                                replace H := Option.bind_eq_some_iff.mp H
                                obtain ⟨t211, A940, H⟩ := H
                                replace H : (some t211) = some r := H
                                have A94 := Aside0.mk A940
                                clear A940
                                obtain rfl := Option.some.inj H
                                go_wp2_with (first | (go_at_call 15; (with_reducible refine (tapewrightlaw01_awake.calls  t211 _ A94.out).mono ?_); rintro e w95 ⟨rfl, hb⟩; have n0_ := Aside0.mk (below_step (by repeat (first | (with_reducible first | exact HB.out | apply below_alloc | apply pw_below_drewN | apply below_drew1) | exact HB.out)) hb); clear HB; have HB := n0_; clear n0_; (try clear hb); (try clear hb2); (try clear hk); (try clear hi)))
                                go_ret
                                exact ⟨by first | rfl | (simp [errW_none, errW_some] <;> rfl) | (simp [*, errW_none, errW_some] <;> rfl), by repeat (first | (with_reducible first | exact HB.out | apply below_alloc | apply pw_below_drewN | apply below_drew1) | exact HB.out)⟩
                              · rw [if_neg c93] at H
                                have c93b0 : (t201 == 0) = false := beq_eq_false_iff_ne.mpr c93
                                have c93b1 : (t201 != 0) = true := bne_iff_ne.mpr c93
                                obtain rfl := Option.some.inj H
                                go_wp2
                                go_ret
                                exact ⟨by first | rfl | (simp [errW_none, errW_some] <;> rfl) | (simp [*, errW_none, errW_some] <;> rfl), by repeat (first | (with_reducible first | exact HB.out | apply below_alloc | apply pw_below_drewN | apply below_drew1) | exact HB.out)⟩
                            · rw [if_neg c92] at H
                              have c92b0 : (t195 == 0) = false := beq_eq_false_iff_ne.mpr c92
                              have c92b1 : (t195 != 0) = true := bne_iff_ne.mpr c92
                              obtain rfl := Option.some.inj H
                              go_wp2
                              go_ret
                              exact ⟨by first | rfl | (simp [errW_none, errW_some] <;> rfl) | (simp [*, errW_none, errW_some] <;> rfl), by repeat (first | (with_reducible first | exact HB.out | apply below_alloc | apply pw_below_drewN | apply below_drew1) | exact HB.out)⟩
                          · rw [if_neg c91] at H
                            have c91b0 : (t189 == 0) = false := beq_eq_false_iff_ne.mpr c91
                            have c91b1 : (t189 != 0) = true := bne_iff_ne.mpr c91
                            obtain rfl := Option.some.inj H
                            go_wp2
                            go_ret
                            exact ⟨by first | rfl | (simp [errW_none, errW_some] <;> rfl) | (simp [*, errW_none, errW_some] <;> rfl), by repeat (first | (with_reducible first | exact HB.out | apply below_alloc | apply pw_below_drewN | apply below_drew1) | exact HB.out)⟩
                        · rw [if_neg c90] at H
                          have c90b0 : ((t188 == 0) == (a0.toList == a1.toList)) = false := by simpa using c90
                          (try (have c90b1 : decide ((t188 == 0) = (a0.toList == a1.toList)) = false := by simpa using c90))
                          (try (have c90b2 : ((t188 == 0) == (a0.toList == a1.toList)) = false := by simpa using c90))
                          (try (have c90b3 : ¬ ((t188 == 0) = (a0.toList == a1.toList)) := by simpa using c90))
                          clear c90
                          obtain rfl := Option.some.inj H
                          go_wp2
                          go_ret
                          exact ⟨by first | rfl | (simp [errW_none, errW_some] <;> rfl) | (simp [*, errW_none, errW_some] <;> rfl), by repeat (first | (with_reducible first | exact HB.out | apply below_alloc | apply pw_below_drewN | apply below_drew1) | exact HB.out)⟩
                      · rw [if_neg c89] at H
                        have c89b0 : decide (x23_38 ≤ 0) = false := decide_eq_false c89
                        clear c89
                        obtain rfl := Option.some.inj H
                        go_wp2
                        go_ret
                        exact ⟨by first | rfl | (simp [errW_none, errW_some] <;> rfl) | (simp [*, errW_none, errW_some] <;> rfl), by repeat (first | (with_reducible first | exact HB.out | apply below_alloc | apply pw_below_drewN | apply below_drew1) | exact HB.out)⟩
                · rw [if_neg c74] at H
                  have c74b0 : (t200 == t188) = false := beq_eq_false_iff_ne.mpr c74
                  have c74b1 : (t200 != t188) = true := bne_iff_ne.mpr c74
                  obtain rfl := Option.some.inj H
                  go_wp2
                  go_ret
                  exact ⟨by first | rfl | (simp [errW_none, errW_some] <;> rfl) | (simp [*, errW_none, errW_some] <;> rfl), by repeat (first | (with_reducible first | exact HB.out | apply below_alloc | apply pw_below_drewN | apply below_drew1) | exact HB.out)⟩
            · rw [if_neg c50] at H
              have c50b0 : (t188 == t194) = false := beq_eq_false_iff_ne.mpr c50
              have c50b1 : (t188 != t194) = true := bne_iff_ne.mpr c50
              obtain rfl := Option.some.inj H
              go_wp2
              go_ret
              exact ⟨by first | rfl | (simp [errW_none, errW_some] <;> rfl) | (simp [*, errW_none, errW_some] <;> rfl), by repeat (first | (with_reducible first | exact HB.out | apply below_alloc | apply pw_below_drewN | apply below_drew1) | exact HB.out)⟩

/-- THE ONE PURE STATEMENT of tapewrightlaw01_NatOrder: yours. -/
def tapewrightlaw01_NatOrder.Pure : Prop := ∀ (a0 : ByteArray) (a1 : ByteArray) (a2 : ByteArray), a0.size ≤ 140737488351232 → a1.size ≤ 140737488351232 → a2.size ≤ 140737488351232 → ∃ k, tapewrightlaw01_NatOrder.f k a0 a1 a2 = some true
theorem tapewrightlaw01_NatOrder.walk (P : tapewrightlaw01_NatOrder.Pure) (a0 : ByteArray) (a1 : ByteArray) (a2 : ByteArray) (w : World) (w0 : a0.size ≤ 140737488351232) (w1 : a1.size ≤ 140737488351232) (w2 : a2.size ≤ 140737488351232) :
    Calls Try.prog 8 #[.string a0, .string a1, .string a2] w fun e w' => e = .returned (.bool true) ∧ Below w.heap.size w w' := by
  obtain ⟨k, h⟩ := P a0 a1 a2 w0 w1 w2
  refine (tapewrightlaw01_NatOrder.calls k a0 a1 a2 true w h).mono ?_
  rintro e w' ⟨rfl, hd⟩
  exact ⟨rfl, hd⟩

end Go.Proofs.Ytpjpgfaidallhaa.PQ
