-- by wip/tool/mine.py of this repo (the kit's printer with given contracts)
import Derived.Test.YtpjpgfaidallhaaPQx0
import Derived.Test.YtpjpgfaidallhaaPQx1
import Derived.Test.YtpjpgfaidallhaaPQx2
namespace Go.Proofs.Ytpjpgfaidallhaa.PQ
open Go.RowKit Go.Proofs.YtpjpgfaidallhaaW.PrintWords Go.Proofs.YtpjpgfaidallhaaW.PrintLast Go.Proofs.YtpjpgfaidallhaaW.PrintMore
attribute [local go_sem] max2_int min2_int max_two min_two max_three min_three max_four min_four   -- for this text's walks alone
set_option linter.unusedVariables false
set_option linter.unusedSimpArgs false

/-! ### tapewrightlaw01_NatGcds: function 5 -/
mutual
def tapewrightlaw01_NatGcds.j0 : Nat → ByteArray → ByteArray → ByteArray → Bool → Option (Bool)
  | 0, _, _, _, _ => none
  | k + 1, x0, x1, x2, x52 => if x52 = true then ((tapewrightlaw01_awake.f).bind fun t127 => (some t127)) else ((nat_Gcd.f x0 x1).bind fun bt128 => ((nat_Gcd.f x1 x0).bind fun bt130 => ((nat_Mul.f x0 x2).bind fun bt132 => ((nat_Mul.f x1 x2).bind fun bt134 => ((nat_Gcd.f bt132.1 bt134.1).bind fun bt136 => ((nat_Mul.f bt128.1 x2).bind fun bt138 => (if bt128.1.toList = bt130.1.toList then (if bt136.1.toList = bt138.1.toList then (tapewrightlaw01_NatGcds.j1 k x0 x1 bt128.1 (bt128.2 != 0)) else (tapewrightlaw01_NatGcds.j1 k x0 x1 bt128.1 true)) else (tapewrightlaw01_NatGcds.j1 k x0 x1 bt128.1 true))))))))
def tapewrightlaw01_NatGcds.j1 : Nat → ByteArray → ByteArray → ByteArray → Bool → Option (Bool)
  | 0, _, _, _, _ => none
  | k + 1, x0, x1, x7, x101 => if x101 = true then (some false) else (if x7.toList = ([48] : List UInt8) then (if x0.toList = ([48] : List UInt8) then (if x1.toList = ([48] : List UInt8) then ((tapewrightlaw01_awake.f).bind fun t140 => (some t140)) else (some false)) else (some false)) else ((nat_Div.f x0 x7).bind fun bt141 => ((nat_Div.f x1 x7).bind fun bt144 => (if bt141.2.1.toList = ([48] : List UInt8) then (if bt144.2.1.toList = ([48] : List UInt8) then ((tapewrightlaw01_awake.f).bind fun t147 => (some t147)) else (some false)) else (some false)))))
end
def tapewrightlaw01_NatGcds.f (k : Nat) (a0 : ByteArray) (a1 : ByteArray) (a2 : ByteArray) : Option (Bool) := if (a0.size : Int) > 40 then (tapewrightlaw01_NatGcds.j0 k a0 a1 a2 true) else (if (a1.size : Int) > 40 then (tapewrightlaw01_NatGcds.j0 k a0 a1 a2 true) else (if (a2.size : Int) > 40 then (tapewrightlaw01_NatGcds.j0 k a0 a1 a2 true) else ((tapewrightref01_Right.f a0).bind fun t124 => (if t124 = true then ((tapewrightref01_Right.f a1).bind fun t125 => (if t125 = true then ((tapewrightref01_Right.f a2).bind fun t126 => (tapewrightlaw01_NatGcds.j0 k a0 a1 a2 (!t126))) else (tapewrightlaw01_NatGcds.j0 k a0 a1 a2 true))) else (tapewrightlaw01_NatGcds.j0 k a0 a1 a2 true)))))
set_option maxHeartbeats 8000000 in
set_option maxRecDepth 100000 in
theorem tapewrightlaw01_NatGcds.calls (k : Nat) (a0 : ByteArray) (a1 : ByteArray) (a2 : ByteArray) (r : Bool) (w : World) (h : tapewrightlaw01_NatGcds.f k a0 a1 a2 = some r) :
    Calls Try.prog 5 #[.string a0, .string a1, .string a2] w fun e w' => e = .returned (.bool r) ∧ Below w.heap.size w w' := by
  have HB := Aside0.mk (Below.refl w.heap.size w)
  have H : (if (a0.size : Int) > 40 then (tapewrightlaw01_NatGcds.j0 k a0 a1 a2 true) else (if (a1.size : Int) > 40 then (tapewrightlaw01_NatGcds.j0 k a0 a1 a2 true) else (if (a2.size : Int) > 40 then (tapewrightlaw01_NatGcds.j0 k a0 a1 a2 true) else ((tapewrightref01_Right.f a0).bind fun t124 => (if t124 = true then ((tapewrightref01_Right.f a1).bind fun t125 => (if t125 = true then ((tapewrightref01_Right.f a2).bind fun t126 => (tapewrightlaw01_NatGcds.j0 k a0 a1 a2 (!t126))) else (tapewrightlaw01_NatGcds.j0 k a0 a1 a2 true))) else (tapewrightlaw01_NatGcds.j0 k a0 a1 a2 true)))))) = some r := h
  clear h
  have HC4 := Aside0.mk H
  clear H
  go_enter Try.func5, Try.ntmps5
  go_upto_region 1 with (fail)
  go_cut [52] (fun v52 wc => ∃ (kq : Nat) (x52_3 : Bool), v52 = .bool x52_3 ∧ Aside0 (tapewrightlaw01_NatGcds.j0 kq a0 a1 a2 x52_3 = some r) ∧ Aside0 (kq ≤ k) ∧ Aside0 (Below w.heap.size w wc))
  case first =>
    have H := HC4.out
    clear HC4
    by_cases c5 : (a0.size : Int) > 40
    · rw [if_pos c5] at H
      have c5b0 : decide (40 < (a0.size : Int)) = true := decide_eq_true c5
      have c5b1 : decide (40 < a0.size) = true := decide_eq_true (by omega)
      clear c5
      (first | rw [c5b0] | (simp only [i64_w, i32_w]; rw [c5b0]) | skip)
      have H' := Aside0.mk H
      clear H
      go_wp2
      go_meet
      case rel => exact ⟨_, (true), (by first | rfl | (simp; done) | (simp [*]; done)), H', ⟨by first | omega | exact Nat.le_refl _⟩, ⟨by repeat (first | (with_reducible first | exact HB.out | apply below_alloc | apply pw_below_drewN | apply below_drew1) | exact HB.out)⟩⟩
    · rw [if_neg c5] at H
      have c5b0 : decide (40 < (a0.size : Int)) = false := decide_eq_false c5
      have c5b1 : decide (40 < a0.size) = false := decide_eq_false (by omega)
      clear c5
      (first | rw [c5b0] | (simp only [i64_w, i32_w]; rw [c5b0]) | skip)
      by_cases c6 : (a1.size : Int) > 40
      · rw [if_pos c6] at H
        have c6b0 : decide (40 < (a1.size : Int)) = true := decide_eq_true c6
        have c6b1 : decide (40 < a1.size) = true := decide_eq_true (by omega)
        clear c6
        have H' := Aside0.mk H
        clear H
        go_wp2
        go_meet
        case rel => exact ⟨_, (true), (by first | rfl | (simp; done) | (simp [*]; done)), H', ⟨by first | omega | exact Nat.le_refl _⟩, ⟨by repeat (first | (with_reducible first | exact HB.out | apply below_alloc | apply pw_below_drewN | apply below_drew1) | exact HB.out)⟩⟩
      · rw [if_neg c6] at H
        have c6b0 : decide (40 < (a1.size : Int)) = false := decide_eq_false c6
        have c6b1 : decide (40 < a1.size) = false := decide_eq_false (by omega)
        clear c6
        by_cases c7 : (a2.size : Int) > 40
        · rw [if_pos c7] at H
          have c7b0 : decide (40 < (a2.size : Int)) = true := decide_eq_true c7
          have c7b1 : decide (40 < a2.size) = true := decide_eq_true (by omega)
          clear c7
          have H' := Aside0.mk H
          clear H
          go_wp2
          go_meet
          case rel => exact ⟨_, (true), (by first | rfl | (simp; done) | (simp [*]; done)), H', ⟨by first | omega | exact Nat.le_refl _⟩, ⟨by repeat (first | (with_reducible first | exact HB.out | apply below_alloc | apply pw_below_drewN | apply below_drew1) | exact HB.out)⟩⟩
        · rw [if_neg c7] at H
          have c7b0 : decide (40 < (a2.size : Int)) = false := decide_eq_false c7
          have c7b1 : decide (40 < a2.size) = false := decide_eq_false (by omega)
          clear c7
          replace H := Option.bind_eq_some_iff.mp H
          obtain ⟨t124, A80, H⟩ := H
          replace H : (if t124 = true then ((tapewrightref01_Right.f a1).bind fun t125 => (if t125 = true then ((tapewrightref01_Right.f a2).bind fun t126 => (tapewrightlaw01_NatGcds.j0 k a0 a1 a2 (!t126))) else (tapewrightlaw01_NatGcds.j0 k a0 a1 a2 true))) else (tapewrightlaw01_NatGcds.j0 k a0 a1 a2 true)) = some r := H
          have A8 := Aside0.mk A80
          clear A80
          by_cases c9 : t124 = true
          · subst c9
            have H1 : ((tapewrightref01_Right.f a1).bind fun t125 => (if t125 = true then ((tapewrightref01_Right.f a2).bind fun t126 => (tapewrightlaw01_NatGcds.j0 k a0 a1 a2 (!t126))) else (tapewrightlaw01_NatGcds.j0 k a0 a1 a2 true))) = some r := by rw [if_pos rfl] at H; exact H
            clear H
            have H := H1
            clear H1
            replace H := Option.bind_eq_some_iff.mp H
            obtain ⟨t125, A100, H⟩ := H
            replace H : (if t125 = true then ((tapewrightref01_Right.f a2).bind fun t126 => (tapewrightlaw01_NatGcds.j0 k a0 a1 a2 (!t126))) else (tapewrightlaw01_NatGcds.j0 k a0 a1 a2 true)) = some r := H
            have A10 := Aside0.mk A100
            clear A100
            by_cases c11 : t125 = true
            · subst c11
              have H1 : ((tapewrightref01_Right.f a2).bind fun t126 => (tapewrightlaw01_NatGcds.j0 k a0 a1 a2 (!t126))) = some r := by rw [if_pos rfl] at H; exact H
              clear H
              have H := H1
              clear H1
              replace H := Option.bind_eq_some_iff.mp H
              obtain ⟨t126, A120, H⟩ := H
              replace H : (tapewrightlaw01_NatGcds.j0 k a0 a1 a2 (!t126)) = some r := H
              have A12 := Aside0.mk A120
              clear A120
              have H' := Aside0.mk H
              clear H
              go_wp2_with (first | (go_at_call 14; (with_reducible refine (tapewrightref01_Right.calls a0 true _ A8.out).mono ?_); rintro e w' ⟨rfl, ⟨nd, rfl⟩⟩) | (go_at_call 14; (with_reducible refine (tapewrightref01_Right.calls a1 true _ A10.out).mono ?_); rintro e w' ⟨rfl, ⟨nd, rfl⟩⟩) | (go_at_call 14; (with_reducible refine (tapewrightref01_Right.calls a2 t126 _ A12.out).mono ?_); rintro e w' ⟨rfl, ⟨nd, rfl⟩⟩))
              go_meet
              case rel => exact ⟨_, (!t126), (by first | rfl | (simp; done) | (simp [*]; done)), H', ⟨by first | omega | exact Nat.le_refl _⟩, ⟨by repeat (first | (with_reducible first | exact HB.out | apply below_alloc | apply pw_below_drewN | apply below_drew1) | exact HB.out)⟩⟩
            · replace c11 := Bool.eq_false_iff.mpr c11
              subst c11
              have H1 : (tapewrightlaw01_NatGcds.j0 k a0 a1 a2 true) = some r := by rw [if_neg (show ¬ (false = true) by decide)] at H; exact H
              clear H
              have H := H1
              clear H1
              have H' := Aside0.mk H
              clear H
              go_wp2_with (first | (go_at_call 14; (with_reducible refine (tapewrightref01_Right.calls a0 true _ A8.out).mono ?_); rintro e w' ⟨rfl, ⟨nd, rfl⟩⟩) | (go_at_call 14; (with_reducible refine (tapewrightref01_Right.calls a1 false _ A10.out).mono ?_); rintro e w' ⟨rfl, ⟨nd, rfl⟩⟩))
              go_meet
              case rel => exact ⟨_, (true), (by first | rfl | (simp; done) | (simp [*]; done)), H', ⟨by first | omega | exact Nat.le_refl _⟩, ⟨by repeat (first | (with_reducible first | exact HB.out | apply below_alloc | apply pw_below_drewN | apply below_drew1) | exact HB.out)⟩⟩
          · replace c9 := Bool.eq_false_iff.mpr c9
            subst c9
            have H1 : (tapewrightlaw01_NatGcds.j0 k a0 a1 a2 true) = some r := by rw [if_neg (show ¬ (false = true) by decide)] at H; exact H
            clear H
            have H := H1
            clear H1
            have H' := Aside0.mk H
            clear H
            go_wp2_with (first | (go_at_call 14; (with_reducible refine (tapewrightref01_Right.calls a0 false _ A8.out).mono ?_); rintro e w' ⟨rfl, ⟨nd, rfl⟩⟩))
            go_meet
            case rel => exact ⟨_, (true), (by first | rfl | (simp; done) | (simp [*]; done)), H', ⟨by first | omega | exact Nat.le_refl _⟩, ⟨by repeat (first | (with_reducible first | exact HB.out | apply below_alloc | apply pw_below_drewN | apply below_drew1) | exact HB.out)⟩⟩
  case rest =>
    clear HC4
    try clear c1
    try clear p2
    try clear c5
    try clear c5b0
    try clear c5b1
    try clear c6
    try clear c6b0
    try clear c6b1
    try clear c7
    try clear c7b0
    try clear c7b1
    try clear c9
    try clear c11
    obtain ⟨kq, x52_3, rfl, HA, HJ3, HB⟩ := hcut
    cases kq with
    | zero => exact absurd HA.out (by simp [tapewrightlaw01_NatGcds.j0])
    | succ kj3 =>
      have H := HA.out
      clear HA
      simp only [tapewrightlaw01_NatGcds.j0] at H
      by_cases c13 : x52_3 = true
      · subst c13
        have H1 : ((tapewrightlaw01_awake.f).bind fun t127 => (some t127)) = some r := by rw [if_pos rfl] at H; exact H
        clear H
        have H := H1
        clear H1
        replace H := Option.bind_eq_some_iff.mp H
        obtain ⟨t127, A140, H⟩ := H
        replace H : (some t127) = some r := H
        have A14 := Aside0.mk A140
        clear A140
        obtain rfl := Option.some.inj H
        go_wp2_with (first | ((with_reducible refine gate_callee (f := 15) rfl ?_); refine goesL_ (some 53) rfl rfl Try.func15 (by kernel_rfl) rfl #[] rfl (by (try simp only [List.map_toArray, List.map_cons, List.map_nil]); first | done | rfl | (simp only [List.length_drop, List.length_take]; rfl)) ?_; (with_reducible refine (tapewrightlaw01_awake.calls  t127 _ A14.out).mono ?_); rintro e w15 ⟨rfl, hb⟩; refine ⟨_, rfl, ?_⟩; have n0_ := Aside0.mk (below_step (by repeat (first | (with_reducible first | exact HB.out | apply below_alloc | apply pw_below_drewN | apply below_drew1) | exact HB.out)) hb); clear HB; have HB := n0_; clear n0_; (try clear hb); (try clear hb2); (try clear hk); (try clear hi)))
        go_ret
        exact ⟨by first | rfl | (simp [errW_none, errW_some] <;> rfl) | (simp [*, errW_none, errW_some] <;> rfl), by repeat (first | (with_reducible first | exact HB.out | apply below_alloc | apply pw_below_drewN | apply below_drew1) | exact HB.out)⟩
      · replace c13 := Bool.eq_false_iff.mpr c13
        subst c13
        have H1 : ((nat_Gcd.f a0 a1).bind fun bt128 => ((nat_Gcd.f a1 a0).bind fun bt130 => ((nat_Mul.f a0 a2).bind fun bt132 => ((nat_Mul.f a1 a2).bind fun bt134 => ((nat_Gcd.f bt132.1 bt134.1).bind fun bt136 => ((nat_Mul.f bt128.1 a2).bind fun bt138 => (if bt128.1.toList = bt130.1.toList then (if bt136.1.toList = bt138.1.toList then (tapewrightlaw01_NatGcds.j1 kj3 a0 a1 bt128.1 (bt128.2 != 0)) else (tapewrightlaw01_NatGcds.j1 kj3 a0 a1 bt128.1 true)) else (tapewrightlaw01_NatGcds.j1 kj3 a0 a1 bt128.1 true)))))))) = some r := by rw [if_neg (show ¬ (false = true) by decide)] at H; exact H
        clear H
        have H := H1
        clear H1
        replace H := Option.bind_eq_some_iff.mp H
        obtain ⟨⟨t128, t129⟩, A160, H⟩ := H
        replace H : ((nat_Gcd.f a1 a0).bind fun bt130 => ((nat_Mul.f a0 a2).bind fun bt132 => ((nat_Mul.f a1 a2).bind fun bt134 => ((nat_Gcd.f bt132.1 bt134.1).bind fun bt136 => ((nat_Mul.f t128 a2).bind fun bt138 => (if t128.toList = bt130.1.toList then (if bt136.1.toList = bt138.1.toList then (tapewrightlaw01_NatGcds.j1 kj3 a0 a1 t128 (t129 != 0)) else (tapewrightlaw01_NatGcds.j1 kj3 a0 a1 t128 true)) else (tapewrightlaw01_NatGcds.j1 kj3 a0 a1 t128 true))))))) = some r := H
        have A16 := Aside0.mk A160
        clear A160
        replace H := Option.bind_eq_some_iff.mp H
        obtain ⟨⟨t130, t131⟩, A170, H⟩ := H
        replace H : ((nat_Mul.f a0 a2).bind fun bt132 => ((nat_Mul.f a1 a2).bind fun bt134 => ((nat_Gcd.f bt132.1 bt134.1).bind fun bt136 => ((nat_Mul.f t128 a2).bind fun bt138 => (if t128.toList = t130.toList then (if bt136.1.toList = bt138.1.toList then (tapewrightlaw01_NatGcds.j1 kj3 a0 a1 t128 (t129 != 0)) else (tapewrightlaw01_NatGcds.j1 kj3 a0 a1 t128 true)) else (tapewrightlaw01_NatGcds.j1 kj3 a0 a1 t128 true)))))) = some r := H
        have A17 := Aside0.mk A170
        clear A170
        replace H := Option.bind_eq_some_iff.mp H
        obtain ⟨⟨t132, t133⟩, A180, H⟩ := H
        replace H : ((nat_Mul.f a1 a2).bind fun bt134 => ((nat_Gcd.f t132 bt134.1).bind fun bt136 => ((nat_Mul.f t128 a2).bind fun bt138 => (if t128.toList = t130.toList then (if bt136.1.toList = bt138.1.toList then (tapewrightlaw01_NatGcds.j1 kj3 a0 a1 t128 (t129 != 0)) else (tapewrightlaw01_NatGcds.j1 kj3 a0 a1 t128 true)) else (tapewrightlaw01_NatGcds.j1 kj3 a0 a1 t128 true))))) = some r := H
        have A18 := Aside0.mk A180
        clear A180
        replace H := Option.bind_eq_some_iff.mp H
        obtain ⟨⟨t134, t135⟩, A190, H⟩ := H
        replace H : ((nat_Gcd.f t132 t134).bind fun bt136 => ((nat_Mul.f t128 a2).bind fun bt138 => (if t128.toList = t130.toList then (if bt136.1.toList = bt138.1.toList then (tapewrightlaw01_NatGcds.j1 kj3 a0 a1 t128 (t129 != 0)) else (tapewrightlaw01_NatGcds.j1 kj3 a0 a1 t128 true)) else (tapewrightlaw01_NatGcds.j1 kj3 a0 a1 t128 true)))) = some r := H
        have A19 := Aside0.mk A190
        clear A190
        replace H := Option.bind_eq_some_iff.mp H
        obtain ⟨⟨t136, t137⟩, A200, H⟩ := H
        replace H : ((nat_Mul.f t128 a2).bind fun bt138 => (if t128.toList = t130.toList then (if t136.toList = bt138.1.toList then (tapewrightlaw01_NatGcds.j1 kj3 a0 a1 t128 (t129 != 0)) else (tapewrightlaw01_NatGcds.j1 kj3 a0 a1 t128 true)) else (tapewrightlaw01_NatGcds.j1 kj3 a0 a1 t128 true))) = some r := H
        have A20 := Aside0.mk A200
        clear A200
        replace H := Option.bind_eq_some_iff.mp H
        obtain ⟨⟨t138, t139⟩, A210, H⟩ := H
        replace H : (if t128.toList = t130.toList then (if t136.toList = t138.toList then (tapewrightlaw01_NatGcds.j1 kj3 a0 a1 t128 (t129 != 0)) else (tapewrightlaw01_NatGcds.j1 kj3 a0 a1 t128 true)) else (tapewrightlaw01_NatGcds.j1 kj3 a0 a1 t128 true)) = some r := H
        have A21 := Aside0.mk A210
        clear A210
        have HC22 := Aside0.mk H
        clear H
        go_upto_region 9 with (first | ((with_reducible refine gate_callee (f := 19) rfl ?_); refine goesL_ (some 57) rfl rfl Try.func19 (by kernel_rfl) rfl #[.string a0, .string a1] rfl (by (try simp only [List.map_toArray, List.map_cons, List.map_nil]); first | done | rfl | (simp only [List.length_drop, List.length_take]; rfl)) ?_; (with_reducible refine (nat_Gcd.calls a0 a1 t128 t129 _ A16.out).mono ?_); rintro e w23 ⟨rfl, hb⟩; refine ⟨_, rfl, ?_⟩; have n0_ := Aside0.mk (below_step (by repeat (first | (with_reducible first | exact HB.out | apply below_alloc | apply pw_below_drewN | apply below_drew1) | exact HB.out)) hb); clear HB; have HB := n0_; clear n0_; (try clear hb); (try clear hb2); (try clear hk); (try clear hi)) | ((with_reducible refine gate_callee (f := 19) rfl ?_); refine goesL_ (some 63) rfl rfl Try.func19 (by kernel_rfl) rfl #[.string a1, .string a0] rfl (by (try simp only [List.map_toArray, List.map_cons, List.map_nil]); first | done | rfl | (simp only [List.length_drop, List.length_take]; rfl)) ?_; (with_reducible refine (nat_Gcd.calls a1 a0 t130 t131 _ A17.out).mono ?_); rintro e w24 ⟨rfl, hb⟩; refine ⟨_, rfl, ?_⟩; have n0_ := Aside0.mk (below_step (by repeat (first | (with_reducible first | exact HB.out | apply below_alloc | apply pw_below_drewN | apply below_drew1) | exact HB.out)) hb); clear HB; have HB := n0_; clear n0_; (try clear hb); (try clear hb2); (try clear hk); (try clear hi)) | ((with_reducible refine gate_callee (f := 16) rfl ?_); refine goesL_ (some 69) rfl rfl Try.func16 (by kernel_rfl) rfl #[.string a0, .string a2] rfl (by (try simp only [List.map_toArray, List.map_cons, List.map_nil]); first | done | rfl | (simp only [List.length_drop, List.length_take]; rfl)) ?_; (with_reducible refine (nat_Mul.calls a0 a2 t132 t133 _ A18.out).mono ?_); rintro e w25 ⟨rfl, hb⟩; refine ⟨_, rfl, ?_⟩; have n0_ := Aside0.mk (below_step (by repeat (first | (with_reducible first | exact HB.out | apply below_alloc | apply pw_below_drewN | apply below_drew1) | exact HB.out)) hb); clear HB; have HB := n0_; clear n0_; (try clear hb); (try clear hb2); (try clear hk); (try clear hi)) | ((with_reducible refine gate_callee (f := 16) rfl ?_); refine goesL_ (some 75) rfl rfl Try.func16 (by kernel_rfl) rfl #[.string a1, .string a2] rfl (by (try simp only [List.map_toArray, List.map_cons, List.map_nil]); first | done | rfl | (simp only [List.length_drop, List.length_take]; rfl)) ?_; (with_reducible refine (nat_Mul.calls a1 a2 t134 t135 _ A19.out).mono ?_); rintro e w26 ⟨rfl, hb⟩; refine ⟨_, rfl, ?_⟩; have n0_ := Aside0.mk (below_step (by repeat (first | (with_reducible first | exact HB.out | apply below_alloc | apply pw_below_drewN | apply below_drew1) | exact HB.out)) hb); clear HB; have HB := n0_; clear n0_; (try clear hb); (try clear hb2); (try clear hk); (try clear hi)) | ((with_reducible refine gate_callee (f := 19) rfl ?_); refine goesL_ (some 81) rfl rfl Try.func19 (by kernel_rfl) rfl #[.string t132, .string t134] rfl (by (try simp only [List.map_toArray, List.map_cons, List.map_nil]); first | done | rfl | (simp only [List.length_drop, List.length_take]; rfl)) ?_; (with_reducible refine (nat_Gcd.calls t132 t134 t136 t137 _ A20.out).mono ?_); rintro e w27 ⟨rfl, hb⟩; refine ⟨_, rfl, ?_⟩; have n0_ := Aside0.mk (below_step (by repeat (first | (with_reducible first | exact HB.out | apply below_alloc | apply pw_below_drewN | apply below_drew1) | exact HB.out)) hb); clear HB; have HB := n0_; clear n0_; (try clear hb); (try clear hb2); (try clear hk); (try clear hi)) | ((with_reducible refine gate_callee (f := 16) rfl ?_); refine goesL_ (some 87) rfl rfl Try.func16 (by kernel_rfl) rfl #[.string t128, .string a2] rfl (by (try simp only [List.map_toArray, List.map_cons, List.map_nil]); first | done | rfl | (simp only [List.length_drop, List.length_take]; rfl)) ?_; (with_reducible refine (nat_Mul.calls t128 a2 t138 t139 _ A21.out).mono ?_); rintro e w28 ⟨rfl, hb⟩; refine ⟨_, rfl, ?_⟩; have n0_ := Aside0.mk (below_step (by repeat (first | (with_reducible first | exact HB.out | apply below_alloc | apply pw_below_drewN | apply below_drew1) | exact HB.out)) hb); clear HB; have HB := n0_; clear n0_; (try clear hb); (try clear hb2); (try clear hk); (try clear hi)))
        (try simp only [Act.put, List.setIfInBounds_toArray, List.set_cons_zero, List.set_cons_succ])
        go_cut [101] (fun v101 wc => ∃ (kq : Nat) (x101_21 : Bool), v101 = .bool x101_21 ∧ Aside0 (tapewrightlaw01_NatGcds.j1 kq a0 a1 t128 x101_21 = some r) ∧ Aside0 (kq ≤ kj3) ∧ Aside0 (Below w.heap.size w wc))
        case first =>
          have H := HC22.out
          clear HC22
          by_cases c29 : t128.toList = t130.toList
          · rw [if_pos c29] at H
            have c29b0 : (t128.toList == t130.toList) = true := beq_iff_eq.mpr c29
            have c29b1 : (t128.toList != t130.toList) = false := bne_eq_false_iff_eq.mpr c29
            clear c29
            (first | rw [c29b0] | (simp only [i64_w, i32_w]; rw [c29b0]) | skip)
            by_cases c30 : t136.toList = t138.toList
            · rw [if_pos c30] at H
              have c30b0 : (t136.toList == t138.toList) = true := beq_iff_eq.mpr c30
              have c30b1 : (t136.toList != t138.toList) = false := bne_eq_false_iff_eq.mpr c30
              clear c30
              have H' := Aside0.mk H
              clear H
              go_wp2
              go_meet
              case rel => exact ⟨_, ((t129 != 0)), (by first | rfl | (simp; done) | (simp [*]; done)), H', ⟨by have := HJ3.out; first | omega | exact Nat.le_refl _⟩, ⟨by repeat (first | (with_reducible first | exact HB.out | apply below_alloc | apply pw_below_drewN | apply below_drew1) | exact HB.out)⟩⟩
            · rw [if_neg c30] at H
              have c30b0 : (t136.toList == t138.toList) = false := beq_eq_false_iff_ne.mpr c30
              have c30b1 : (t136.toList != t138.toList) = true := bne_iff_ne.mpr c30
              have H' := Aside0.mk H
              clear H
              go_wp2
              go_meet
              case rel => exact ⟨_, (true), (by first | rfl | (simp; done) | (simp [*]; done)), H', ⟨by have := HJ3.out; first | omega | exact Nat.le_refl _⟩, ⟨by repeat (first | (with_reducible first | exact HB.out | apply below_alloc | apply pw_below_drewN | apply below_drew1) | exact HB.out)⟩⟩
          · rw [if_neg c29] at H
            have c29b0 : (t128.toList == t130.toList) = false := beq_eq_false_iff_ne.mpr c29
            have c29b1 : (t128.toList != t130.toList) = true := bne_iff_ne.mpr c29
            (first | rw [c29b0] | (simp only [i64_w, i32_w]; rw [c29b0]) | skip)
            have H' := Aside0.mk H
            clear H
            go_wp2
            go_meet
            case rel => exact ⟨_, (true), (by first | rfl | (simp; done) | (simp [*]; done)), H', ⟨by have := HJ3.out; first | omega | exact Nat.le_refl _⟩, ⟨by repeat (first | (with_reducible first | exact HB.out | apply below_alloc | apply pw_below_drewN | apply below_drew1) | exact HB.out)⟩⟩
        case rest =>
          clear HC22
          try clear c1
          try clear c2
          try clear p2
          try clear c3
          try clear c5
          try clear c5b0
          try clear c5b1
          try clear c6
          try clear c6b0
          try clear c6b1
          try clear c7
          try clear c7b0
          try clear c7b1
          try clear c9
          try clear c11
          try clear c13
          try clear c15
          try clear c16
          try clear c19
          try clear c29
          try clear c29b0
          try clear c29b1
          try clear c30
          try clear c30b0
          try clear c30b1
          try clear p2
          obtain ⟨kq, x101_21, rfl, HA, HJ21, HB⟩ := hcut
          cases kq with
          | zero => exact absurd HA.out (by simp [tapewrightlaw01_NatGcds.j1])
          | succ kj21 =>
            have H := HA.out
            clear HA
            simp only [tapewrightlaw01_NatGcds.j1] at H
            by_cases c31 : x101_21 = true
            · subst c31
              have H1 : (some false) = some r := by rw [if_pos rfl] at H; exact H
              clear H
              have H := H1
              clear H1
              obtain rfl := Option.some.inj H
              go_wp2
              go_ret
              exact ⟨by first | rfl | (simp [errW_none, errW_some] <;> rfl) | (simp [*, errW_none, errW_some] <;> rfl), by repeat (first | (with_reducible first | exact HB.out | apply below_alloc | apply pw_below_drewN | apply below_drew1) | exact HB.out)⟩
            · replace c31 := Bool.eq_false_iff.mpr c31
              subst c31
              have H1 : (if t128.toList = ([48] : List UInt8) then (if a0.toList = ([48] : List UInt8) then (if a1.toList = ([48] : List UInt8) then ((tapewrightlaw01_awake.f).bind fun t140 => (some t140)) else (some false)) else (some false)) else ((nat_Div.f a0 t128).bind fun bt141 => ((nat_Div.f a1 t128).bind fun bt144 => (if bt141.2.1.toList = ([48] : List UInt8) then (if bt144.2.1.toList = ([48] : List UInt8) then ((tapewrightlaw01_awake.f).bind fun t147 => (some t147)) else (some false)) else (some false))))) = some r := by rw [if_neg (show ¬ (false = true) by decide)] at H; exact H
              clear H
              have H := H1
              clear H1
              by_cases c32 : t128.toList = ([48] : List UInt8)
              · rw [if_pos c32] at H
                have c32b0 : (t128.toList == ([48] : List UInt8)) = true := beq_iff_eq.mpr c32
                have c32b1 : (t128.toList != ([48] : List UInt8)) = false := bne_eq_false_iff_eq.mpr c32
                clear c32
                by_cases c33 : a0.toList = ([48] : List UInt8)
                · rw [if_pos c33] at H
                  have c33b0 : (a0.toList == ([48] : List UInt8)) = true := beq_iff_eq.mpr c33
                  have c33b1 : (a0.toList != ([48] : List UInt8)) = false := bne_eq_false_iff_eq.mpr c33
                  clear c33
                  by_cases c34 : a1.toList = ([48] : List UInt8)
                  · rw [if_pos c34] at H
                    have c34b0 : (a1.toList == ([48] : List UInt8)) = true := beq_iff_eq.mpr c34
                    have c34b1 : (a1.toList != ([48] : List UInt8)) = false := bne_eq_false_iff_eq.mpr c34
                    clear c34
                    replace H := Option.bind_eq_some_iff.mp H
                    obtain ⟨t140, A350, H⟩ := H
                    replace H : (some t140) = some r := H
                    have A35 := Aside0.mk A350
                    clear A350
                    obtain rfl := Option.some.inj H
                    go_wp2_with (first | (go_at_call 15; (with_reducible refine (tapewrightlaw01_awake.calls  t140 _ A35.out).mono ?_); rintro e w36 ⟨rfl, hb⟩; have n0_ := Aside0.mk (below_step (by repeat (first | (with_reducible first | exact HB.out | apply below_alloc | apply pw_below_drewN | apply below_drew1) | exact HB.out)) hb); clear HB; have HB := n0_; clear n0_; (try clear hb); (try clear hb2); (try clear hk); (try clear hi)))
                    go_ret
                    exact ⟨by first | rfl | (simp [errW_none, errW_some] <;> rfl) | (simp [*, errW_none, errW_some] <;> rfl), by repeat (first | (with_reducible first | exact HB.out | apply below_alloc | apply pw_below_drewN | apply below_drew1) | exact HB.out)⟩
                  · rw [if_neg c34] at H
                    have c34b0 : (a1.toList == ([48] : List UInt8)) = false := beq_eq_false_iff_ne.mpr c34
                    have c34b1 : (a1.toList != ([48] : List UInt8)) = true := bne_iff_ne.mpr c34
                    obtain rfl := Option.some.inj H
                    go_wp2
                    go_ret
                    exact ⟨by first | rfl | (simp [errW_none, errW_some] <;> rfl) | (simp [*, errW_none, errW_some] <;> rfl), by repeat (first | (with_reducible first | exact HB.out | apply below_alloc | apply pw_below_drewN | apply below_drew1) | exact HB.out)⟩
                · rw [if_neg c33] at H
                  have c33b0 : (a0.toList == ([48] : List UInt8)) = false := beq_eq_false_iff_ne.mpr c33
                  have c33b1 : (a0.toList != ([48] : List UInt8)) = true := bne_iff_ne.mpr c33
                  obtain rfl := Option.some.inj H
                  go_wp2
                  go_ret
                  exact ⟨by first | rfl | (simp [errW_none, errW_some] <;> rfl) | (simp [*, errW_none, errW_some] <;> rfl), by repeat (first | (with_reducible first | exact HB.out | apply below_alloc | apply pw_below_drewN | apply below_drew1) | exact HB.out)⟩
              · rw [if_neg c32] at H
                have c32b0 : (t128.toList == ([48] : List UInt8)) = false := beq_eq_false_iff_ne.mpr c32
                have c32b1 : (t128.toList != ([48] : List UInt8)) = true := bne_iff_ne.mpr c32
                replace H := Option.bind_eq_some_iff.mp H
                obtain ⟨⟨t141, t142, t143⟩, A370, H⟩ := H
                replace H : ((nat_Div.f a1 t128).bind fun bt144 => (if t142.toList = ([48] : List UInt8) then (if bt144.2.1.toList = ([48] : List UInt8) then ((tapewrightlaw01_awake.f).bind fun t147 => (some t147)) else (some false)) else (some false))) = some r := H
                have A37 := Aside0.mk A370
                clear A370
                replace H := Option.bind_eq_some_iff.mp H
                obtain ⟨⟨t144, t145, t146⟩, A380, H⟩ := H
                replace H : (if t142.toList = ([48] : List UInt8) then (if t145.toList = ([48] : List UInt8) then ((tapewrightlaw01_awake.f).bind fun t147 => (some t147)) else (some false)) else (some false)) = some r := H
                have A38 := Aside0.mk A380
                clear A380
                by_cases c39 : t142.toList = ([48] : List UInt8)
                · rw [if_pos c39] at H
                  have c39b0 : (t142.toList == ([48] : List UInt8)) = true := beq_iff_eq.mpr c39
                  have c39b1 : (t142.toList != ([48] : List UInt8)) = false := bne_eq_false_iff_eq.mpr c39
                  clear c39
                  by_cases c40 : t145.toList = ([48] : List UInt8)
                  · rw [if_pos c40] at H
                    have c40b0 : (t145.toList == ([48] : List UInt8)) = true := beq_iff_eq.mpr c40
                    have c40b1 : (t145.toList != ([48] : List UInt8)) = false := bne_eq_false_iff_eq.mpr c40
                    clear c40
                    replace H := Option.bind_eq_some_iff.mp H
                    obtain ⟨t147, A410, H⟩ := H
                    replace H : (some t147) = some r := H
                    have A41 := Aside0.mk A410
                    clear A410
                    obtain rfl := Option.some.inj H
                    go_wp2_with (first | ((with_reducible refine gate_callee (f := 17) rfl ?_); refine goesL_ (some 116) rfl rfl Try.func17 (by kernel_rfl) rfl #[.string a0, .string t128] rfl (by (try simp only [List.map_toArray, List.map_cons, List.map_nil]); first | done | rfl | (simp only [List.length_drop, List.length_take]; rfl)) ?_; (with_reducible refine (nat_Div.calls a0 t128 t141 t142 t143 _ A37.out).mono ?_); rintro e w42 ⟨rfl, hb⟩; refine ⟨_, rfl, ?_⟩; have n0_ := Aside0.mk (below_step (by repeat (first | (with_reducible first | exact HB.out | apply below_alloc | apply pw_below_drewN | apply below_drew1) | exact HB.out)) hb); clear HB; have HB := n0_; clear n0_; (try clear hb); (try clear hb2); (try clear hk); (try clear hi)) | ((with_reducible refine gate_callee (f := 17) rfl ?_); refine goesL_ (some 123) rfl rfl Try.func17 (by kernel_rfl) rfl #[.string a1, .string t128] rfl (by (try simp only [List.map_toArray, List.map_cons, List.map_nil]); first | done | rfl | (simp only [List.length_drop, List.length_take]; rfl)) ?_; (with_reducible refine (nat_Div.calls a1 t128 t144 t145 t146 _ A38.out).mono ?_); rintro e w43 ⟨rfl, hb⟩; refine ⟨_, rfl, ?_⟩; have n0_ := Aside0.mk (below_step (by repeat (first | (with_reducible first | exact HB.out | apply below_alloc | apply pw_below_drewN | apply below_drew1) | exact HB.out)) hb); clear HB; have HB := n0_; clear n0_; (try clear hb); (try clear hb2); (try clear hk); (try clear hi)) | (go_at_call 15; (with_reducible refine (tapewrightlaw01_awake.calls  t147 _ A41.out).mono ?_); rintro e w44 ⟨rfl, hb⟩; have n0_ := Aside0.mk (below_step (by repeat (first | (with_reducible first | exact HB.out | apply below_alloc | apply pw_below_drewN | apply below_drew1) | exact HB.out)) hb); clear HB; have HB := n0_; clear n0_; (try clear hb); (try clear hb2); (try clear hk); (try clear hi)))
                    go_ret
                    exact ⟨by first | rfl | (simp [errW_none, errW_some] <;> rfl) | (simp [*, errW_none, errW_some] <;> rfl), by repeat (first | (with_reducible first | exact HB.out | apply below_alloc | apply pw_below_drewN | apply below_drew1) | exact HB.out)⟩
                  · rw [if_neg c40] at H
                    have c40b0 : (t145.toList == ([48] : List UInt8)) = false := beq_eq_false_iff_ne.mpr c40
                    have c40b1 : (t145.toList != ([48] : List UInt8)) = true := bne_iff_ne.mpr c40
                    obtain rfl := Option.some.inj H
                    go_wp2_with (first | ((with_reducible refine gate_callee (f := 17) rfl ?_); refine goesL_ (some 116) rfl rfl Try.func17 (by kernel_rfl) rfl #[.string a0, .string t128] rfl (by (try simp only [List.map_toArray, List.map_cons, List.map_nil]); first | done | rfl | (simp only [List.length_drop, List.length_take]; rfl)) ?_; (with_reducible refine (nat_Div.calls a0 t128 t141 t142 t143 _ A37.out).mono ?_); rintro e w45 ⟨rfl, hb⟩; refine ⟨_, rfl, ?_⟩; have n0_ := Aside0.mk (below_step (by repeat (first | (with_reducible first | exact HB.out | apply below_alloc | apply pw_below_drewN | apply below_drew1) | exact HB.out)) hb); clear HB; have HB := n0_; clear n0_; (try clear hb); (try clear hb2); (try clear hk); (try clear hi)) | ((with_reducible refine gate_callee (f := 17) rfl ?_); refine goesL_ (some 123) rfl rfl Try.func17 (by kernel_rfl) rfl #[.string a1, .string t128] rfl (by (try simp only [List.map_toArray, List.map_cons, List.map_nil]); first | done | rfl | (simp only [List.length_drop, List.length_take]; rfl)) ?_; (with_reducible refine (nat_Div.calls a1 t128 t144 t145 t146 _ A38.out).mono ?_); rintro e w46 ⟨rfl, hb⟩; refine ⟨_, rfl, ?_⟩; have n0_ := Aside0.mk (below_step (by repeat (first | (with_reducible first | exact HB.out | apply below_alloc | apply pw_below_drewN | apply below_drew1) | exact HB.out)) hb); clear HB; have HB := n0_; clear n0_; (try clear hb); (try clear hb2); (try clear hk); (try clear hi)))
                    go_ret
                    exact ⟨by first | rfl | (simp [errW_none, errW_some] <;> rfl) | (simp [*, errW_none, errW_some] <;> rfl), by repeat (first | (with_reducible first | exact HB.out | apply below_alloc | apply pw_below_drewN | apply below_drew1) | exact HB.out)⟩
                · rw [if_neg c39] at H
                  have c39b0 : (t142.toList == ([48] : List UInt8)) = false := beq_eq_false_iff_ne.mpr c39
                  have c39b1 : (t142.toList != ([48] : List UInt8)) = true := bne_iff_ne.mpr c39
                  obtain rfl := Option.some.inj H
                  go_wp2_with (first | ((with_reducible refine gate_callee (f := 17) rfl ?_); refine goesL_ (some 116) rfl rfl Try.func17 (by kernel_rfl) rfl #[.string a0, .string t128] rfl (by (try simp only [List.map_toArray, List.map_cons, List.map_nil]); first | done | rfl | (simp only [List.length_drop, List.length_take]; rfl)) ?_; (with_reducible refine (nat_Div.calls a0 t128 t141 t142 t143 _ A37.out).mono ?_); rintro e w47 ⟨rfl, hb⟩; refine ⟨_, rfl, ?_⟩; have n0_ := Aside0.mk (below_step (by repeat (first | (with_reducible first | exact HB.out | apply below_alloc | apply pw_below_drewN | apply below_drew1) | exact HB.out)) hb); clear HB; have HB := n0_; clear n0_; (try clear hb); (try clear hb2); (try clear hk); (try clear hi)) | ((with_reducible refine gate_callee (f := 17) rfl ?_); refine goesL_ (some 123) rfl rfl Try.func17 (by kernel_rfl) rfl #[.string a1, .string t128] rfl (by (try simp only [List.map_toArray, List.map_cons, List.map_nil]); first | done | rfl | (simp only [List.length_drop, List.length_take]; rfl)) ?_; (with_reducible refine (nat_Div.calls a1 t128 t144 t145 t146 _ A38.out).mono ?_); rintro e w48 ⟨rfl, hb⟩; refine ⟨_, rfl, ?_⟩; have n0_ := Aside0.mk (below_step (by repeat (first | (with_reducible first | exact HB.out | apply below_alloc | apply pw_below_drewN | apply below_drew1) | exact HB.out)) hb); clear HB; have HB := n0_; clear n0_; (try clear hb); (try clear hb2); (try clear hk); (try clear hi)))
                  go_ret
                  exact ⟨by first | rfl | (simp [errW_none, errW_some] <;> rfl) | (simp [*, errW_none, errW_some] <;> rfl), by repeat (first | (with_reducible first | exact HB.out | apply below_alloc | apply pw_below_drewN | apply below_drew1) | exact HB.out)⟩

/-- THE ONE PURE STATEMENT of tapewrightlaw01_NatGcds: yours. -/
def tapewrightlaw01_NatGcds.Pure : Prop := ∀ (a0 : ByteArray) (a1 : ByteArray) (a2 : ByteArray), a0.size ≤ 140737488351232 → a1.size ≤ 140737488351232 → a2.size ≤ 140737488351232 → ∃ k, tapewrightlaw01_NatGcds.f k a0 a1 a2 = some true
theorem tapewrightlaw01_NatGcds.walk (P : tapewrightlaw01_NatGcds.Pure) (a0 : ByteArray) (a1 : ByteArray) (a2 : ByteArray) (w : World) (w0 : a0.size ≤ 140737488351232) (w1 : a1.size ≤ 140737488351232) (w2 : a2.size ≤ 140737488351232) :
    Calls Try.prog 5 #[.string a0, .string a1, .string a2] w fun e w' => e = .returned (.bool true) ∧ Below w.heap.size w w' := by
  obtain ⟨k, h⟩ := P a0 a1 a2 w0 w1 w2
  refine (tapewrightlaw01_NatGcds.calls k a0 a1 a2 true w h).mono ?_
  rintro e w' ⟨rfl, hd⟩
  exact ⟨rfl, hd⟩

end Go.Proofs.Ytpjpgfaidallhaa.PQ
