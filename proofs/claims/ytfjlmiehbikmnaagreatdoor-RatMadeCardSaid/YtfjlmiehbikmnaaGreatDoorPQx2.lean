-- by wip/tool/mine.py of this repo (the kit's printer with given contracts)
import Derived.Test.YtfjlmiehbikmnaaGreatDoorPQx0
import Derived.Test.YtfjlmiehbikmnaaGreatDoorPQx1
namespace Go.Proofs.YtfjlmiehbikmnaaGreatDoor.PQ
open Go.RowKit Go.Proofs.YtfjlmiehbikmnaaGreatDoorW.PrintWords Go.Proofs.YtfjlmiehbikmnaaGreatDoorW.PrintLast Go.Proofs.YtfjlmiehbikmnaaGreatDoorW.PrintMore
attribute [local go_sem] max2_int min2_int max_two min_two max_three min_three max_four min_four   -- for this text's walks alone
set_option linter.unusedVariables false
set_option linter.unusedSimpArgs false

/-! ### tapewrightlaw03_RatMade: function 3 -/
noncomputable def tapewrightlaw03_RatMade.j0 : Nat → ByteArray → ByteArray → ByteArray → Bool → Option (Bool)
 | 0, _, _, _, _ => none
 | k + 1, x0, x1, x2, x48 => if x48 = true then ((tapewrightlaw03_awake.f).bind fun t110 => (some t110)) else ((rat_Make.f x0 x1).bind fun bt111 => ((tapewrightref02_Mul.f x0 x2).bind fun t113 => ((tapewrightref02_Mul.f x1 x2).bind fun t114 => ((rat_Make.f t113 t114).bind fun bt115 => ((rat_Mul.f bt111.1 x1).bind fun bt117 => (if bt111.1.toList = bt115.1.toList then (if bt117.1.toList = x0.toList then (if bt111.2 = 0 then (if bt115.2 = 0 then (if bt117.2 = 0 then ((tapewrightlaw03_awake.f).bind fun t119 => (some t119)) else (some false)) else (some false)) else (some false)) else (some false)) else (some false)))))))
noncomputable def tapewrightlaw03_RatMade.f (k : Nat) (a0 : ByteArray) (a1 : ByteArray) (a2 : ByteArray) : Option (Bool) := if (a0.size : Int) > 30 then (tapewrightlaw03_RatMade.j0 k a0 a1 a2 true) else (if (a1.size : Int) > 30 then (tapewrightlaw03_RatMade.j0 k a0 a1 a2 true) else (if (a2.size : Int) > 30 then (tapewrightlaw03_RatMade.j0 k a0 a1 a2 true) else ((tapewrightref02_Right.f a0).bind fun t107 => (if t107 = true then ((tapewrightref02_Right.f a1).bind fun t108 => (if t108 = true then ((tapewrightref02_Right.f a2).bind fun t109 => (if t109 = true then (if a1.toList = ([48] : List UInt8) then (tapewrightlaw03_RatMade.j0 k a0 a1 a2 true) else (tapewrightlaw03_RatMade.j0 k a0 a1 a2 (a2.toList == ([48] : List UInt8)))) else (tapewrightlaw03_RatMade.j0 k a0 a1 a2 true))) else (tapewrightlaw03_RatMade.j0 k a0 a1 a2 true))) else (tapewrightlaw03_RatMade.j0 k a0 a1 a2 true)))))
set_option maxHeartbeats 8000000 in
set_option maxRecDepth 100000 in
theorem tapewrightlaw03_RatMade.calls (k : Nat) (a0 : ByteArray) (a1 : ByteArray) (a2 : ByteArray) (r : Bool) (w : World) (hG : Err.Gs w) (hrt : r = true) (h : tapewrightlaw03_RatMade.f k a0 a1 a2 = some r) :
  Calls Tryz.prog 3 #[.string a0, .string a1, .string a2] w fun e w' => e = .returned (.bool r) ∧ Below w.heap.size w w' := by
 have HB := Aside0.mk (Below.refl w.heap.size w)
 have HGs := Aside0.mk hG
 clear hG
 have HRT := Aside0.mk hrt
 clear hrt
 have H : (if (a0.size : Int) > 30 then (tapewrightlaw03_RatMade.j0 k a0 a1 a2 true) else (if (a1.size : Int) > 30 then (tapewrightlaw03_RatMade.j0 k a0 a1 a2 true) else (if (a2.size : Int) > 30 then (tapewrightlaw03_RatMade.j0 k a0 a1 a2 true) else ((tapewrightref02_Right.f a0).bind fun t107 => (if t107 = true then ((tapewrightref02_Right.f a1).bind fun t108 => (if t108 = true then ((tapewrightref02_Right.f a2).bind fun t109 => (if t109 = true then (if a1.toList = ([48] : List UInt8) then (tapewrightlaw03_RatMade.j0 k a0 a1 a2 true) else (tapewrightlaw03_RatMade.j0 k a0 a1 a2 (a2.toList == ([48] : List UInt8)))) else (tapewrightlaw03_RatMade.j0 k a0 a1 a2 true))) else (tapewrightlaw03_RatMade.j0 k a0 a1 a2 true))) else (tapewrightlaw03_RatMade.j0 k a0 a1 a2 true)))))) = some r := h
 clear h
 have HC4 := Aside0.mk H
 clear H
 go_enter Tryz.func3, Tryz.ntmps3
 go_upto_region 1 with (fail)
 go_cut [48] (fun v48 wc => ∃ (kq : Nat) (x48_3 : Bool), v48 = .bool x48_3 ∧ Aside0 (tapewrightlaw03_RatMade.j0 kq a0 a1 a2 x48_3 = some r) ∧ Aside0 (kq ≤ k) ∧ Aside0 (Below w.heap.size w wc))
 case first =>
  have H := HC4.out
  clear HC4
  by_cases c5 : (a0.size : Int) > 30
  ·
   rw [if_pos c5] at H
   have c5b0 : decide (30 < (a0.size : Int)) = true := decide_eq_true c5
   have c5b1 : decide (30 < a0.size) = true := decide_eq_true (by omega)
   clear c5
   (first | rw [c5b0] | (simp only [i64_w, i32_w]; rw [c5b0]) | skip)
   have H' := Aside0.mk H
   clear H
   go_wp2
   go_meet
   case rel => exact ⟨_, (true), (by first | rfl | (simp; done) | (simp [*]; done)), H', ⟨by first | omega | exact Nat.le_refl _⟩, ⟨by repeat (first | (with_reducible first | exact HB.out | apply below_alloc | apply pw_below_drewN | apply below_drew1) | exact HB.out)⟩⟩
  ·
   rw [if_neg c5] at H
   have c5b0 : decide (30 < (a0.size : Int)) = false := decide_eq_false c5
   have c5b1 : decide (30 < a0.size) = false := decide_eq_false (by omega)
   clear c5
   (first | rw [c5b0] | (simp only [i64_w, i32_w]; rw [c5b0]) | skip)
   by_cases c6 : (a1.size : Int) > 30
   ·
    rw [if_pos c6] at H
    have c6b0 : decide (30 < (a1.size : Int)) = true := decide_eq_true c6
    have c6b1 : decide (30 < a1.size) = true := decide_eq_true (by omega)
    clear c6
    have H' := Aside0.mk H
    clear H
    go_wp2
    go_meet
    case rel => exact ⟨_, (true), (by first | rfl | (simp; done) | (simp [*]; done)), H', ⟨by first | omega | exact Nat.le_refl _⟩, ⟨by repeat (first | (with_reducible first | exact HB.out | apply below_alloc | apply pw_below_drewN | apply below_drew1) | exact HB.out)⟩⟩
   ·
    rw [if_neg c6] at H
    have c6b0 : decide (30 < (a1.size : Int)) = false := decide_eq_false c6
    have c6b1 : decide (30 < a1.size) = false := decide_eq_false (by omega)
    clear c6
    by_cases c7 : (a2.size : Int) > 30
    ·
     rw [if_pos c7] at H
     have c7b0 : decide (30 < (a2.size : Int)) = true := decide_eq_true c7
     have c7b1 : decide (30 < a2.size) = true := decide_eq_true (by omega)
     clear c7
     have H' := Aside0.mk H
     clear H
     go_wp2
     go_meet
     case rel => exact ⟨_, (true), (by first | rfl | (simp; done) | (simp [*]; done)), H', ⟨by first | omega | exact Nat.le_refl _⟩, ⟨by repeat (first | (with_reducible first | exact HB.out | apply below_alloc | apply pw_below_drewN | apply below_drew1) | exact HB.out)⟩⟩
    ·
     rw [if_neg c7] at H
     have c7b0 : decide (30 < (a2.size : Int)) = false := decide_eq_false c7
     have c7b1 : decide (30 < a2.size) = false := decide_eq_false (by omega)
     clear c7
     replace H := Option.bind_eq_some_iff.mp H
     obtain ⟨t107, A80, H⟩ := H
     replace H : (if t107 = true then ((tapewrightref02_Right.f a1).bind fun t108 => (if t108 = true then ((tapewrightref02_Right.f a2).bind fun t109 => (if t109 = true then (if a1.toList = ([48] : List UInt8) then (tapewrightlaw03_RatMade.j0 k a0 a1 a2 true) else (tapewrightlaw03_RatMade.j0 k a0 a1 a2 (a2.toList == ([48] : List UInt8)))) else (tapewrightlaw03_RatMade.j0 k a0 a1 a2 true))) else (tapewrightlaw03_RatMade.j0 k a0 a1 a2 true))) else (tapewrightlaw03_RatMade.j0 k a0 a1 a2 true)) = some r := H
     have A8 := Aside0.mk A80
     clear A80
     by_cases c9 : t107 = true
     ·
      subst c9
      have H1 : ((tapewrightref02_Right.f a1).bind fun t108 => (if t108 = true then ((tapewrightref02_Right.f a2).bind fun t109 => (if t109 = true then (if a1.toList = ([48] : List UInt8) then (tapewrightlaw03_RatMade.j0 k a0 a1 a2 true) else (tapewrightlaw03_RatMade.j0 k a0 a1 a2 (a2.toList == ([48] : List UInt8)))) else (tapewrightlaw03_RatMade.j0 k a0 a1 a2 true))) else (tapewrightlaw03_RatMade.j0 k a0 a1 a2 true))) = some r := by rw [if_pos rfl] at H; exact H
      clear H
      have H := H1
      clear H1
      replace H := Option.bind_eq_some_iff.mp H
      obtain ⟨t108, A100, H⟩ := H
      replace H : (if t108 = true then ((tapewrightref02_Right.f a2).bind fun t109 => (if t109 = true then (if a1.toList = ([48] : List UInt8) then (tapewrightlaw03_RatMade.j0 k a0 a1 a2 true) else (tapewrightlaw03_RatMade.j0 k a0 a1 a2 (a2.toList == ([48] : List UInt8)))) else (tapewrightlaw03_RatMade.j0 k a0 a1 a2 true))) else (tapewrightlaw03_RatMade.j0 k a0 a1 a2 true)) = some r := H
      have A10 := Aside0.mk A100
      clear A100
      by_cases c11 : t108 = true
      ·
       subst c11
       have H1 : ((tapewrightref02_Right.f a2).bind fun t109 => (if t109 = true then (if a1.toList = ([48] : List UInt8) then (tapewrightlaw03_RatMade.j0 k a0 a1 a2 true) else (tapewrightlaw03_RatMade.j0 k a0 a1 a2 (a2.toList == ([48] : List UInt8)))) else (tapewrightlaw03_RatMade.j0 k a0 a1 a2 true))) = some r := by rw [if_pos rfl] at H; exact H
       clear H
       have H := H1
       clear H1
       replace H := Option.bind_eq_some_iff.mp H
       obtain ⟨t109, A120, H⟩ := H
       replace H : (if t109 = true then (if a1.toList = ([48] : List UInt8) then (tapewrightlaw03_RatMade.j0 k a0 a1 a2 true) else (tapewrightlaw03_RatMade.j0 k a0 a1 a2 (a2.toList == ([48] : List UInt8)))) else (tapewrightlaw03_RatMade.j0 k a0 a1 a2 true)) = some r := H
       have A12 := Aside0.mk A120
       clear A120
       by_cases c13 : t109 = true
       ·
        subst c13
        have H1 : (if a1.toList = ([48] : List UInt8) then (tapewrightlaw03_RatMade.j0 k a0 a1 a2 true) else (tapewrightlaw03_RatMade.j0 k a0 a1 a2 (a2.toList == ([48] : List UInt8)))) = some r := by rw [if_pos rfl] at H; exact H
        clear H
        have H := H1
        clear H1
        by_cases c14 : a1.toList = ([48] : List UInt8)
        ·
         rw [if_pos c14] at H
         have c14b0 : (a1.toList == ([48] : List UInt8)) = true := beq_iff_eq.mpr c14
         have c14b1 : (a1.toList != ([48] : List UInt8)) = false := bne_eq_false_iff_eq.mpr c14
         clear c14
         have H' := Aside0.mk H
         clear H
         go_wp2_with (first | (go_at_call 6; (with_reducible refine (tapewrightref02_Right.calls a0 true _ A8.out).mono ?_); rintro e w' ⟨rfl, ⟨nd, rfl⟩⟩) | (go_at_call 6; (with_reducible refine (tapewrightref02_Right.calls a1 true _ A10.out).mono ?_); rintro e w' ⟨rfl, ⟨nd, rfl⟩⟩) | (go_at_call 6; (with_reducible refine (tapewrightref02_Right.calls a2 true _ A12.out).mono ?_); rintro e w' ⟨rfl, ⟨nd, rfl⟩⟩))
         go_meet
         case rel => exact ⟨_, (true), (by first | rfl | (simp; done) | (simp [*]; done)), H', ⟨by first | omega | exact Nat.le_refl _⟩, ⟨by repeat (first | (with_reducible first | exact HB.out | apply below_alloc | apply pw_below_drewN | apply below_drew1) | exact HB.out)⟩⟩
        ·
         rw [if_neg c14] at H
         have c14b0 : (a1.toList == ([48] : List UInt8)) = false := beq_eq_false_iff_ne.mpr c14
         have c14b1 : (a1.toList != ([48] : List UInt8)) = true := bne_iff_ne.mpr c14
         have H' := Aside0.mk H
         clear H
         go_wp2_with (first | (go_at_call 6; (with_reducible refine (tapewrightref02_Right.calls a0 true _ A8.out).mono ?_); rintro e w' ⟨rfl, ⟨nd, rfl⟩⟩) | (go_at_call 6; (with_reducible refine (tapewrightref02_Right.calls a1 true _ A10.out).mono ?_); rintro e w' ⟨rfl, ⟨nd, rfl⟩⟩) | (go_at_call 6; (with_reducible refine (tapewrightref02_Right.calls a2 true _ A12.out).mono ?_); rintro e w' ⟨rfl, ⟨nd, rfl⟩⟩))
         go_meet
         case rel => exact ⟨_, ((a2.toList == ([48] : List UInt8))), (by first | rfl | (simp; done) | (simp [*]; done)), H', ⟨by first | omega | exact Nat.le_refl _⟩, ⟨by repeat (first | (with_reducible first | exact HB.out | apply below_alloc | apply pw_below_drewN | apply below_drew1) | exact HB.out)⟩⟩
       ·
        replace c13 := Bool.eq_false_iff.mpr c13
        subst c13
        have H1 : (tapewrightlaw03_RatMade.j0 k a0 a1 a2 true) = some r := by rw [if_neg (show ¬ (false = true) by decide)] at H; exact H
        clear H
        have H := H1
        clear H1
        have H' := Aside0.mk H
        clear H
        go_wp2_with (first | (go_at_call 6; (with_reducible refine (tapewrightref02_Right.calls a0 true _ A8.out).mono ?_); rintro e w' ⟨rfl, ⟨nd, rfl⟩⟩) | (go_at_call 6; (with_reducible refine (tapewrightref02_Right.calls a1 true _ A10.out).mono ?_); rintro e w' ⟨rfl, ⟨nd, rfl⟩⟩) | (go_at_call 6; (with_reducible refine (tapewrightref02_Right.calls a2 false _ A12.out).mono ?_); rintro e w' ⟨rfl, ⟨nd, rfl⟩⟩))
        go_meet
        case rel => exact ⟨_, (true), (by first | rfl | (simp; done) | (simp [*]; done)), H', ⟨by first | omega | exact Nat.le_refl _⟩, ⟨by repeat (first | (with_reducible first | exact HB.out | apply below_alloc | apply pw_below_drewN | apply below_drew1) | exact HB.out)⟩⟩
      ·
       replace c11 := Bool.eq_false_iff.mpr c11
       subst c11
       have H1 : (tapewrightlaw03_RatMade.j0 k a0 a1 a2 true) = some r := by rw [if_neg (show ¬ (false = true) by decide)] at H; exact H
       clear H
       have H := H1
       clear H1
       have H' := Aside0.mk H
       clear H
       go_wp2_with (first | (go_at_call 6; (with_reducible refine (tapewrightref02_Right.calls a0 true _ A8.out).mono ?_); rintro e w' ⟨rfl, ⟨nd, rfl⟩⟩) | (go_at_call 6; (with_reducible refine (tapewrightref02_Right.calls a1 false _ A10.out).mono ?_); rintro e w' ⟨rfl, ⟨nd, rfl⟩⟩))
       go_meet
       case rel => exact ⟨_, (true), (by first | rfl | (simp; done) | (simp [*]; done)), H', ⟨by first | omega | exact Nat.le_refl _⟩, ⟨by repeat (first | (with_reducible first | exact HB.out | apply below_alloc | apply pw_below_drewN | apply below_drew1) | exact HB.out)⟩⟩
     ·
      replace c9 := Bool.eq_false_iff.mpr c9
      subst c9
      have H1 : (tapewrightlaw03_RatMade.j0 k a0 a1 a2 true) = some r := by rw [if_neg (show ¬ (false = true) by decide)] at H; exact H
      clear H
      have H := H1
      clear H1
      have H' := Aside0.mk H
      clear H
      go_wp2_with (first | (go_at_call 6; (with_reducible refine (tapewrightref02_Right.calls a0 false _ A8.out).mono ?_); rintro e w' ⟨rfl, ⟨nd, rfl⟩⟩))
      go_meet
      case rel => exact ⟨_, (true), (by first | rfl | (simp; done) | (simp [*]; done)), H', ⟨by first | omega | exact Nat.le_refl _⟩, ⟨by repeat (first | (with_reducible first | exact HB.out | apply below_alloc | apply pw_below_drewN | apply below_drew1) | exact HB.out)⟩⟩
 case rest =>
  clear HC4
  try clear c1
  try clear p2
  try clear c3
  try clear c5
  try clear c5b0
  try clear c5b1
  try clear c6
  try clear c6b0
  try clear c6b1
  try clear c7
  try clear c7b0
  try clear c7b1
  try clear c9
  try clear c11
  try clear c13
  try clear c14
  try clear c14b0
  try clear c14b1
  obtain ⟨kq, x48_3, rfl, HA, HJ3, HB⟩ := hcut
  cases kq with
  | zero => exact absurd HA.out (by simp [tapewrightlaw03_RatMade.j0])
  | succ kj3 =>
   have H := HA.out
   clear HA
   simp only [tapewrightlaw03_RatMade.j0] at H
   by_cases c15 : x48_3 = true
   ·
    subst c15
    have H1 : ((tapewrightlaw03_awake.f).bind fun t110 => (some t110)) = some r := by rw [if_pos rfl] at H; exact H
    clear H
    have H := H1
    clear H1
    replace H := Option.bind_eq_some_iff.mp H
    obtain ⟨t110, A160, H⟩ := H
    replace H : (some t110) = some r := H
    have A16 := Aside0.mk A160
    clear A160
    obtain rfl := Option.some.inj H
    go_wp2_with (first | ((with_reducible refine gate_callee (f := 7) rfl ?_); refine goesL_ (some 49) rfl rfl Tryz.func7 (by kernel_rfl) rfl #[] rfl T2_ ?_; (with_reducible refine (tapewrightlaw03_awake.calls  t110 _ (Err.Gs.below HGs.out T1_) A16.out).mono ?_); rintro e w17 ⟨rfl, hb⟩; refine ⟨_, rfl, ?_⟩; replace HB := Aside0.mk (below_step T1_ hb); clear hb))
    go_ret
    exact ⟨T4_, T1_⟩
   ·
    replace c15 := Bool.eq_false_iff.mpr c15
    subst c15
    have H1 : ((rat_Make.f a0 a1).bind fun bt111 => ((tapewrightref02_Mul.f a0 a2).bind fun t113 => ((tapewrightref02_Mul.f a1 a2).bind fun t114 => ((rat_Make.f t113 t114).bind fun bt115 => ((rat_Mul.f bt111.1 a1).bind fun bt117 => (if bt111.1.toList = bt115.1.toList then (if bt117.1.toList = a0.toList then (if bt111.2 = 0 then (if bt115.2 = 0 then (if bt117.2 = 0 then ((tapewrightlaw03_awake.f).bind fun t119 => (some t119)) else (some false)) else (some false)) else (some false)) else (some false)) else (some false))))))) = some r := by rw [if_neg (show ¬ (false = true) by decide)] at H; exact H
    clear H
    have H := H1
    clear H1
    replace H := Option.bind_eq_some_iff.mp H
    obtain ⟨⟨t111, t112⟩, A180, H⟩ := H
    replace H : ((tapewrightref02_Mul.f a0 a2).bind fun t113 => ((tapewrightref02_Mul.f a1 a2).bind fun t114 => ((rat_Make.f t113 t114).bind fun bt115 => ((rat_Mul.f t111 a1).bind fun bt117 => (if t111.toList = bt115.1.toList then (if bt117.1.toList = a0.toList then (if t112 = 0 then (if bt115.2 = 0 then (if bt117.2 = 0 then ((tapewrightlaw03_awake.f).bind fun t119 => (some t119)) else (some false)) else (some false)) else (some false)) else (some false)) else (some false)))))) = some r := H
    have A18 := Aside0.mk A180
    clear A180
    replace H := Option.bind_eq_some_iff.mp H
    obtain ⟨t113, A190, H⟩ := H
    replace H : ((tapewrightref02_Mul.f a1 a2).bind fun t114 => ((rat_Make.f t113 t114).bind fun bt115 => ((rat_Mul.f t111 a1).bind fun bt117 => (if t111.toList = bt115.1.toList then (if bt117.1.toList = a0.toList then (if t112 = 0 then (if bt115.2 = 0 then (if bt117.2 = 0 then ((tapewrightlaw03_awake.f).bind fun t119 => (some t119)) else (some false)) else (some false)) else (some false)) else (some false)) else (some false))))) = some r := H
    have A19 := Aside0.mk A190
    clear A190
    replace H := Option.bind_eq_some_iff.mp H
    obtain ⟨t114, A200, H⟩ := H
    replace H : ((rat_Make.f t113 t114).bind fun bt115 => ((rat_Mul.f t111 a1).bind fun bt117 => (if t111.toList = bt115.1.toList then (if bt117.1.toList = a0.toList then (if t112 = 0 then (if bt115.2 = 0 then (if bt117.2 = 0 then ((tapewrightlaw03_awake.f).bind fun t119 => (some t119)) else (some false)) else (some false)) else (some false)) else (some false)) else (some false)))) = some r := H
    have A20 := Aside0.mk A200
    clear A200
    replace H := Option.bind_eq_some_iff.mp H
    obtain ⟨⟨t115, t116⟩, A210, H⟩ := H
    replace H : ((rat_Mul.f t111 a1).bind fun bt117 => (if t111.toList = t115.toList then (if bt117.1.toList = a0.toList then (if t112 = 0 then (if t116 = 0 then (if bt117.2 = 0 then ((tapewrightlaw03_awake.f).bind fun t119 => (some t119)) else (some false)) else (some false)) else (some false)) else (some false)) else (some false))) = some r := H
    have A21 := Aside0.mk A210
    clear A210
    replace H := Option.bind_eq_some_iff.mp H
    obtain ⟨⟨t117, t118⟩, A220, H⟩ := H
    replace H : (if t111.toList = t115.toList then (if t117.toList = a0.toList then (if t112 = 0 then (if t116 = 0 then (if t118 = 0 then ((tapewrightlaw03_awake.f).bind fun t119 => (some t119)) else (some false)) else (some false)) else (some false)) else (some false)) else (some false)) = some r := H
    have A22 := Aside0.mk A220
    clear A220
    by_cases c23 : t111.toList = t115.toList
    ·
     rw [if_pos c23] at H
     have c23b0 : (t111.toList == t115.toList) = true := beq_iff_eq.mpr c23
     have c23b1 : (t111.toList != t115.toList) = false := bne_eq_false_iff_eq.mpr c23
     clear c23
     by_cases c24 : t117.toList = a0.toList
     ·
      rw [if_pos c24] at H
      have c24b0 : (t117.toList == a0.toList) = true := beq_iff_eq.mpr c24
      have c24b1 : (t117.toList != a0.toList) = false := bne_eq_false_iff_eq.mpr c24
      clear c24
      by_cases c25 : t112 = 0
      ·
       rw [if_pos c25] at H
       have c25b0 : (t112 == 0) = true := beq_iff_eq.mpr c25
       have c25b1 : (t112 != 0) = false := bne_eq_false_iff_eq.mpr c25
       clear c25
       by_cases c26 : t116 = 0
       ·
        rw [if_pos c26] at H
        have c26b0 : (t116 == 0) = true := beq_iff_eq.mpr c26
        have c26b1 : (t116 != 0) = false := bne_eq_false_iff_eq.mpr c26
        clear c26
        by_cases c27 : t118 = 0
        ·
         rw [if_pos c27] at H
         have c27b0 : (t118 == 0) = true := beq_iff_eq.mpr c27
         have c27b1 : (t118 != 0) = false := bne_eq_false_iff_eq.mpr c27
         clear c27
         replace H := Option.bind_eq_some_iff.mp H
         obtain ⟨t119, A280, H⟩ := H
         replace H : (some t119) = some r := H
         have A28 := Aside0.mk A280
         clear A280
         obtain rfl := Option.some.inj H
         go_wp2_with (first | ((with_reducible refine gate_callee (f := 8) rfl ?_); refine goesL_ (some 53) rfl rfl Tryz.func8 (by kernel_rfl) rfl #[.string a0, .string a1] rfl T2_ ?_; (with_reducible refine (rat_Make.calls a0 a1 t111 t112 _ (Err.Gs.below HGs.out T1_) A18.out).mono ?_); rintro e w29 ⟨rfl, hb⟩; refine ⟨_, rfl, ?_⟩; replace HB := Aside0.mk (below_step T1_ hb); clear hb) | ((with_reducible refine gate_callee (f := 9) rfl ?_); refine goesL_ (some 59) rfl rfl Tryz.func9 (by kernel_rfl) rfl #[.string a0, .string a2] rfl T2_ ?_; (with_reducible refine (tapewrightref02_Mul.calls a0 a2 t113 _ A19.out).mono ?_); rintro e w30 ⟨rfl, hb⟩; refine ⟨_, rfl, ?_⟩; replace HB := Aside0.mk (below_step T1_ hb); clear hb) | ((with_reducible refine gate_callee (f := 9) rfl ?_); refine goesL_ (some 62) rfl rfl Tryz.func9 (by kernel_rfl) rfl #[.string a1, .string a2] rfl T2_ ?_; (with_reducible refine (tapewrightref02_Mul.calls a1 a2 t114 _ A20.out).mono ?_); rintro e w31 ⟨rfl, hb⟩; refine ⟨_, rfl, ?_⟩; replace HB := Aside0.mk (below_step T1_ hb); clear hb) | ((with_reducible refine gate_callee (f := 8) rfl ?_); refine goesL_ (some 63) rfl rfl Tryz.func8 (by kernel_rfl) rfl #[.string t113, .string t114] rfl T2_ ?_; (with_reducible refine (rat_Make.calls t113 t114 t115 t116 _ (Err.Gs.below HGs.out T1_) A21.out).mono ?_); rintro e w32 ⟨rfl, hb⟩; refine ⟨_, rfl, ?_⟩; replace HB := Aside0.mk (below_step T1_ hb); clear hb) | ((with_reducible refine gate_callee (f := 10) rfl ?_); refine goesL_ (some 69) rfl rfl Tryz.func10 (by kernel_rfl) rfl #[.string t111, .string a1] rfl T2_ ?_; (with_reducible refine (rat_Mul.calls t111 a1 t117 t118 _ (Err.Gs.below HGs.out T1_) A22.out).mono ?_); rintro e w33 ⟨rfl, hb⟩; refine ⟨_, rfl, ?_⟩; replace HB := Aside0.mk (below_step T1_ hb); clear hb) | (go_at_call 7; (with_reducible refine (tapewrightlaw03_awake.calls  t119 _ (Err.Gs.below HGs.out T1_) A28.out).mono ?_); rintro e w34 ⟨rfl, hb⟩; replace HB := Aside0.mk (below_step T1_ hb); clear hb))
         go_ret
         exact ⟨T4_, T1_⟩
        ·
         rw [if_neg c27] at H
         have c27b0 : (t118 == 0) = false := beq_eq_false_iff_ne.mpr c27
         have c27b1 : (t118 != 0) = true := bne_iff_ne.mpr c27
         exact absurd ((Option.some.inj H).trans HRT.out) (by decide)
       ·
        rw [if_neg c26] at H
        have c26b0 : (t116 == 0) = false := beq_eq_false_iff_ne.mpr c26
        have c26b1 : (t116 != 0) = true := bne_iff_ne.mpr c26
        exact absurd ((Option.some.inj H).trans HRT.out) (by decide)
      ·
       rw [if_neg c25] at H
       have c25b0 : (t112 == 0) = false := beq_eq_false_iff_ne.mpr c25
       have c25b1 : (t112 != 0) = true := bne_iff_ne.mpr c25
       exact absurd ((Option.some.inj H).trans HRT.out) (by decide)
     ·
      rw [if_neg c24] at H
      have c24b0 : (t117.toList == a0.toList) = false := beq_eq_false_iff_ne.mpr c24
      have c24b1 : (t117.toList != a0.toList) = true := bne_iff_ne.mpr c24
      exact absurd ((Option.some.inj H).trans HRT.out) (by decide)
    ·
     rw [if_neg c23] at H
     have c23b0 : (t111.toList == t115.toList) = false := beq_eq_false_iff_ne.mpr c23
     have c23b1 : (t111.toList != t115.toList) = true := bne_iff_ne.mpr c23
     exact absurd ((Option.some.inj H).trans HRT.out) (by decide)

/-- THE ONE PURE STATEMENT of tapewrightlaw03_RatMade: yours. -/
def tapewrightlaw03_RatMade.Pure : Prop := ∀ (a0 : ByteArray) (a1 : ByteArray) (a2 : ByteArray), a0.size ≤ 140737488351232 → a1.size ≤ 140737488351232 → a2.size ≤ 140737488351232 → ∃ k, tapewrightlaw03_RatMade.f k a0 a1 a2 = some true
theorem tapewrightlaw03_RatMade.walk (P : tapewrightlaw03_RatMade.Pure) (a0 : ByteArray) (a1 : ByteArray) (a2 : ByteArray) (w : World) (hG : Err.Gs w) (w0 : a0.size ≤ 140737488351232) (w1 : a1.size ≤ 140737488351232) (w2 : a2.size ≤ 140737488351232) :
  Calls Tryz.prog 3 #[.string a0, .string a1, .string a2] w fun e w' => e = .returned (.bool true) ∧ Below w.heap.size w w' := by
 obtain ⟨k, h⟩ := P a0 a1 a2 w0 w1 w2
 refine (tapewrightlaw03_RatMade.calls k a0 a1 a2 true w hG rfl h).mono ?_
 rintro e w' ⟨rfl, hd⟩
 exact ⟨rfl, hd⟩

end Go.Proofs.YtfjlmiehbikmnaaGreatDoor.PQ
