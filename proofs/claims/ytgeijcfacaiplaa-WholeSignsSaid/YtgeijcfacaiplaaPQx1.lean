-- by wip/tool/mine.py of this repo (the kit's printer with given contracts)
import Derived.Test.YtgeijcfacaiplaaPQx0
namespace Go.Proofs.Ytgeijcfacaiplaa.PQ
open Go.RowKit Go.Proofs.YtgeijcfacaiplaaW.PrintWords Go.Proofs.YtgeijcfacaiplaaW.PrintLast Go.Proofs.YtgeijcfacaiplaaW.PrintMore
attribute [local go_sem] max2_int min2_int max_two min_two max_three min_three max_four min_four   -- for this text's walks alone
set_option linter.unusedVariables false
set_option linter.unusedSimpArgs false

/-! ### whole_Sub: function 14 -/
def whole_Sub.f (a0 : ByteArray) (a1 : ByteArray) : Option (ByteArray × Int) := PB.whole_Sub.f a0 a1
theorem whole_Sub.calls (a0 : ByteArray) (a1 : ByteArray) (r1 : ByteArray) (r2 : Int) (w : World) (h : whole_Sub.f a0 a1 = some (r1, r2)) :
    Calls Try.prog 14 #[.string a0, .string a1] w fun e w' => e = .returned (.tuple #[.string r1, .int .i64 r2]) ∧ Below w.heap.size w w' := PB.whole_Sub.calls a0 a1 r1 r2 w h
theorem whole_Sub.zt {x y : Int} (hx : Th.Wh.Ft x) (hy : Th.Wh.Ft y) : whole_Sub.f (Th.Wh.zt x) (Th.Wh.zt y) = some (Th.Wh.zt (x - y), 0) := Th.Wh.sub_zt x y hx hy
theorem whole_Sub.no {a b : ByteArray} (h : (Th.Wh.right a && Th.Wh.right b) = false) : whole_Sub.f a b = some (⟨#[]⟩, 2) := Th.Wh.sub_no a b h

/-! ### whole_Mul: function 15 -/
def whole_Mul.f (a0 : ByteArray) (a1 : ByteArray) : Option (ByteArray × Int) := PB.whole_Mul.f a0 a1
theorem whole_Mul.calls (a0 : ByteArray) (a1 : ByteArray) (r1 : ByteArray) (r2 : Int) (w : World) (h : whole_Mul.f a0 a1 = some (r1, r2)) :
    Calls Try.prog 15 #[.string a0, .string a1] w fun e w' => e = .returned (.tuple #[.string r1, .int .i64 r2]) ∧ Below w.heap.size w w' := PB.whole_Mul.calls a0 a1 r1 r2 w h
theorem whole_Mul.zt {x y : Int} (hx : Th.Wh.Ft x) (hy : Th.Wh.Ft y) : whole_Mul.f (Th.Wh.zt x) (Th.Wh.zt y) = some (Th.Wh.zt (x * y), 0) := Th.Wh.mul_zt x y hx hy
theorem whole_Mul.no {a b : ByteArray} (h : (Th.Wh.right a && Th.Wh.right b) = false) : whole_Mul.f a b = some (⟨#[]⟩, 2) := Th.Wh.mul_no a b h

/-! ### whole_Right: function 20 -/
def whole_Right.f (a0 : ByteArray) : Option (Bool) := PB.whole_Right.f a0
theorem whole_Right.calls (a0 : ByteArray) (r : Bool) (w : World) (h : whole_Right.f a0 = some r) :
    Calls Try.prog 20 #[.string a0] w fun e w' => e = .returned (.bool r) ∧ Below w.heap.size w w' := PB.whole_Right.calls a0 r w h
theorem whole_Right.of (a : ByteArray) : whole_Right.f a = some (Th.Wh.right a) := Th.Wh.right_spec a

/-! ### tapewrightlaw02_awake: function 12 -/
def tapewrightlaw02_awake.f  : Option (Bool) := (whole_Sub.f (⟨#[51]⟩ : ByteArray) (⟨#[53]⟩ : ByteArray)).bind fun bt101 => ((whole_Mul.f (⟨#[45, 50]⟩ : ByteArray) (⟨#[45, 51]⟩ : ByteArray)).bind fun bt103 => (if bt101.1.toList = ([45, 50] : List UInt8) then (if bt101.2 = 0 then (if bt103.1.toList = ([54] : List UInt8) then (if bt103.2 = 0 then ((whole_Right.f (⟨#[45, 55]⟩ : ByteArray)).bind fun t105 => (if t105 = true then ((whole_Right.f (⟨#[45, 48]⟩ : ByteArray)).bind fun t106 => (some (!t106))) else (some false))) else (some false)) else (some false)) else (some false)) else (some false)))
set_option maxHeartbeats 8000000 in
set_option maxRecDepth 100000 in
theorem tapewrightlaw02_awake.calls  (r : Bool) (w : World) (h : tapewrightlaw02_awake.f  = some r) :
    Calls Try.prog 12 #[] w fun e w' => e = .returned (.bool r) ∧ Below w.heap.size w w' := by
  have HB := Aside0.mk (Below.refl w.heap.size w)
  have H : ((whole_Sub.f (⟨#[51]⟩ : ByteArray) (⟨#[53]⟩ : ByteArray)).bind fun bt101 => ((whole_Mul.f (⟨#[45, 50]⟩ : ByteArray) (⟨#[45, 51]⟩ : ByteArray)).bind fun bt103 => (if bt101.1.toList = ([45, 50] : List UInt8) then (if bt101.2 = 0 then (if bt103.1.toList = ([54] : List UInt8) then (if bt103.2 = 0 then ((whole_Right.f (⟨#[45, 55]⟩ : ByteArray)).bind fun t105 => (if t105 = true then ((whole_Right.f (⟨#[45, 48]⟩ : ByteArray)).bind fun t106 => (some (!t106))) else (some false))) else (some false)) else (some false)) else (some false)) else (some false)))) = some r := h
  clear h
  replace H := Option.bind_eq_some_iff.mp H
  obtain ⟨⟨t101, t102⟩, A10, H⟩ := H
  replace H : ((whole_Mul.f (⟨#[45, 50]⟩ : ByteArray) (⟨#[45, 51]⟩ : ByteArray)).bind fun bt103 => (if t101.toList = ([45, 50] : List UInt8) then (if t102 = 0 then (if bt103.1.toList = ([54] : List UInt8) then (if bt103.2 = 0 then ((whole_Right.f (⟨#[45, 55]⟩ : ByteArray)).bind fun t105 => (if t105 = true then ((whole_Right.f (⟨#[45, 48]⟩ : ByteArray)).bind fun t106 => (some (!t106))) else (some false))) else (some false)) else (some false)) else (some false)) else (some false))) = some r := H
  have A1 := Aside0.mk A10
  clear A10
  replace H := Option.bind_eq_some_iff.mp H
  obtain ⟨⟨t103, t104⟩, A20, H⟩ := H
  replace H : (if t101.toList = ([45, 50] : List UInt8) then (if t102 = 0 then (if t103.toList = ([54] : List UInt8) then (if t104 = 0 then ((whole_Right.f (⟨#[45, 55]⟩ : ByteArray)).bind fun t105 => (if t105 = true then ((whole_Right.f (⟨#[45, 48]⟩ : ByteArray)).bind fun t106 => (some (!t106))) else (some false))) else (some false)) else (some false)) else (some false)) else (some false)) = some r := H
  have A2 := Aside0.mk A20
  clear A20
  by_cases c3 : t101.toList = ([45, 50] : List UInt8)
  · rw [if_pos c3] at H
    have c3b0 : (t101.toList == ([45, 50] : List UInt8)) = true := beq_iff_eq.mpr c3
    have c3b1 : (t101.toList != ([45, 50] : List UInt8)) = false := bne_eq_false_iff_eq.mpr c3
    clear c3
    by_cases c4 : t102 = 0
    · rw [if_pos c4] at H
      have c4b0 : (t102 == 0) = true := beq_iff_eq.mpr c4
      have c4b1 : (t102 != 0) = false := bne_eq_false_iff_eq.mpr c4
      clear c4
      by_cases c5 : t103.toList = ([54] : List UInt8)
      · rw [if_pos c5] at H
        have c5b0 : (t103.toList == ([54] : List UInt8)) = true := beq_iff_eq.mpr c5
        have c5b1 : (t103.toList != ([54] : List UInt8)) = false := bne_eq_false_iff_eq.mpr c5
        clear c5
        by_cases c6 : t104 = 0
        · rw [if_pos c6] at H
          have c6b0 : (t104 == 0) = true := beq_iff_eq.mpr c6
          have c6b1 : (t104 != 0) = false := bne_eq_false_iff_eq.mpr c6
          clear c6
          replace H := Option.bind_eq_some_iff.mp H
          obtain ⟨t105, A70, H⟩ := H
          replace H : (if t105 = true then ((whole_Right.f (⟨#[45, 48]⟩ : ByteArray)).bind fun t106 => (some (!t106))) else (some false)) = some r := H
          have A7 := Aside0.mk A70
          clear A70
          by_cases c8 : t105 = true
          · subst c8
            have H1 : ((whole_Right.f (⟨#[45, 48]⟩ : ByteArray)).bind fun t106 => (some (!t106))) = some r := by rw [if_pos rfl] at H; exact H
            clear H
            have H := H1
            clear H1
            replace H := Option.bind_eq_some_iff.mp H
            obtain ⟨t106, A90, H⟩ := H
            replace H : (some (!t106)) = some r := H
            have A9 := Aside0.mk A90
            clear A90
            obtain rfl := Option.some.inj H
            go_enter Try.func12, Try.ntmps12
            go_wp2_with (first | ((with_reducible refine gate_callee (f := 14) rfl ?_); refine goesL_ (some 6) rfl rfl Try.func14 (by kernel_rfl) rfl #[.string (⟨#[51]⟩ : ByteArray), .string (⟨#[53]⟩ : ByteArray)] rfl (by (try simp only [List.map_toArray, List.map_cons, List.map_nil]); first | done | rfl | (simp only [List.length_drop, List.length_take]; rfl)) ?_; (with_reducible refine (whole_Sub.calls (⟨#[51]⟩ : ByteArray) (⟨#[53]⟩ : ByteArray) t101 t102 _ A1.out).mono ?_); rintro e w10 ⟨rfl, hb⟩; refine ⟨_, rfl, ?_⟩; have n0_ := Aside0.mk (below_step (by repeat (first | (with_reducible first | exact HB.out | apply below_alloc | apply pw_below_drewN | apply below_drew1) | exact HB.out)) hb); clear HB; have HB := n0_; clear n0_; (try clear hb); (try clear hb2); (try clear hk); (try clear hi)) | ((with_reducible refine gate_callee (f := 15) rfl ?_); refine goesL_ (some 10) rfl rfl Try.func15 (by kernel_rfl) rfl #[.string (⟨#[45, 50]⟩ : ByteArray), .string (⟨#[45, 51]⟩ : ByteArray)] rfl (by (try simp only [List.map_toArray, List.map_cons, List.map_nil]); first | done | rfl | (simp only [List.length_drop, List.length_take]; rfl)) ?_; (with_reducible refine (whole_Mul.calls (⟨#[45, 50]⟩ : ByteArray) (⟨#[45, 51]⟩ : ByteArray) t103 t104 _ A2.out).mono ?_); rintro e w11 ⟨rfl, hb⟩; refine ⟨_, rfl, ?_⟩; have n0_ := Aside0.mk (below_step (by repeat (first | (with_reducible first | exact HB.out | apply below_alloc | apply pw_below_drewN | apply below_drew1) | exact HB.out)) hb); clear HB; have HB := n0_; clear n0_; (try clear hb); (try clear hb2); (try clear hk); (try clear hi)) | (go_at_call 20; (with_reducible refine (whole_Right.calls (⟨#[45, 55]⟩ : ByteArray) true _ A7.out).mono ?_); rintro e w12 ⟨rfl, hb⟩; have n0_ := Aside0.mk (below_step (by repeat (first | (with_reducible first | exact HB.out | apply below_alloc | apply pw_below_drewN | apply below_drew1) | exact HB.out)) hb); clear HB; have HB := n0_; clear n0_; (try clear hb); (try clear hb2); (try clear hk); (try clear hi)) | (go_at_call 20; (with_reducible refine (whole_Right.calls (⟨#[45, 48]⟩ : ByteArray) t106 _ A9.out).mono ?_); rintro e w13 ⟨rfl, hb⟩; have n0_ := Aside0.mk (below_step (by repeat (first | (with_reducible first | exact HB.out | apply below_alloc | apply pw_below_drewN | apply below_drew1) | exact HB.out)) hb); clear HB; have HB := n0_; clear n0_; (try clear hb); (try clear hb2); (try clear hk); (try clear hi)))
            go_ret
            exact ⟨by first | rfl | (simp [errW_none, errW_some] <;> rfl) | (simp [*, errW_none, errW_some] <;> rfl), by repeat (first | (with_reducible first | exact HB.out | apply below_alloc | apply pw_below_drewN | apply below_drew1) | exact HB.out)⟩
          · replace c8 := Bool.eq_false_iff.mpr c8
            subst c8
            have H1 : (some false) = some r := by rw [if_neg (show ¬ (false = true) by decide)] at H; exact H
            clear H
            have H := H1
            clear H1
            obtain rfl := Option.some.inj H
            go_enter Try.func12, Try.ntmps12
            go_wp2_with (first | ((with_reducible refine gate_callee (f := 14) rfl ?_); refine goesL_ (some 6) rfl rfl Try.func14 (by kernel_rfl) rfl #[.string (⟨#[51]⟩ : ByteArray), .string (⟨#[53]⟩ : ByteArray)] rfl (by (try simp only [List.map_toArray, List.map_cons, List.map_nil]); first | done | rfl | (simp only [List.length_drop, List.length_take]; rfl)) ?_; (with_reducible refine (whole_Sub.calls (⟨#[51]⟩ : ByteArray) (⟨#[53]⟩ : ByteArray) t101 t102 _ A1.out).mono ?_); rintro e w14 ⟨rfl, hb⟩; refine ⟨_, rfl, ?_⟩; have n0_ := Aside0.mk (below_step (by repeat (first | (with_reducible first | exact HB.out | apply below_alloc | apply pw_below_drewN | apply below_drew1) | exact HB.out)) hb); clear HB; have HB := n0_; clear n0_; (try clear hb); (try clear hb2); (try clear hk); (try clear hi)) | ((with_reducible refine gate_callee (f := 15) rfl ?_); refine goesL_ (some 10) rfl rfl Try.func15 (by kernel_rfl) rfl #[.string (⟨#[45, 50]⟩ : ByteArray), .string (⟨#[45, 51]⟩ : ByteArray)] rfl (by (try simp only [List.map_toArray, List.map_cons, List.map_nil]); first | done | rfl | (simp only [List.length_drop, List.length_take]; rfl)) ?_; (with_reducible refine (whole_Mul.calls (⟨#[45, 50]⟩ : ByteArray) (⟨#[45, 51]⟩ : ByteArray) t103 t104 _ A2.out).mono ?_); rintro e w15 ⟨rfl, hb⟩; refine ⟨_, rfl, ?_⟩; have n0_ := Aside0.mk (below_step (by repeat (first | (with_reducible first | exact HB.out | apply below_alloc | apply pw_below_drewN | apply below_drew1) | exact HB.out)) hb); clear HB; have HB := n0_; clear n0_; (try clear hb); (try clear hb2); (try clear hk); (try clear hi)) | (go_at_call 20; (with_reducible refine (whole_Right.calls (⟨#[45, 55]⟩ : ByteArray) false _ A7.out).mono ?_); rintro e w16 ⟨rfl, hb⟩; have n0_ := Aside0.mk (below_step (by repeat (first | (with_reducible first | exact HB.out | apply below_alloc | apply pw_below_drewN | apply below_drew1) | exact HB.out)) hb); clear HB; have HB := n0_; clear n0_; (try clear hb); (try clear hb2); (try clear hk); (try clear hi)))
            go_ret
            exact ⟨by first | rfl | (simp [errW_none, errW_some] <;> rfl) | (simp [*, errW_none, errW_some] <;> rfl), by repeat (first | (with_reducible first | exact HB.out | apply below_alloc | apply pw_below_drewN | apply below_drew1) | exact HB.out)⟩
        · rw [if_neg c6] at H
          have c6b0 : (t104 == 0) = false := beq_eq_false_iff_ne.mpr c6
          have c6b1 : (t104 != 0) = true := bne_iff_ne.mpr c6
          obtain rfl := Option.some.inj H
          go_enter Try.func12, Try.ntmps12
          go_wp2_with (first | ((with_reducible refine gate_callee (f := 14) rfl ?_); refine goesL_ (some 6) rfl rfl Try.func14 (by kernel_rfl) rfl #[.string (⟨#[51]⟩ : ByteArray), .string (⟨#[53]⟩ : ByteArray)] rfl (by (try simp only [List.map_toArray, List.map_cons, List.map_nil]); first | done | rfl | (simp only [List.length_drop, List.length_take]; rfl)) ?_; (with_reducible refine (whole_Sub.calls (⟨#[51]⟩ : ByteArray) (⟨#[53]⟩ : ByteArray) t101 t102 _ A1.out).mono ?_); rintro e w17 ⟨rfl, hb⟩; refine ⟨_, rfl, ?_⟩; have n0_ := Aside0.mk (below_step (by repeat (first | (with_reducible first | exact HB.out | apply below_alloc | apply pw_below_drewN | apply below_drew1) | exact HB.out)) hb); clear HB; have HB := n0_; clear n0_; (try clear hb); (try clear hb2); (try clear hk); (try clear hi)) | ((with_reducible refine gate_callee (f := 15) rfl ?_); refine goesL_ (some 10) rfl rfl Try.func15 (by kernel_rfl) rfl #[.string (⟨#[45, 50]⟩ : ByteArray), .string (⟨#[45, 51]⟩ : ByteArray)] rfl (by (try simp only [List.map_toArray, List.map_cons, List.map_nil]); first | done | rfl | (simp only [List.length_drop, List.length_take]; rfl)) ?_; (with_reducible refine (whole_Mul.calls (⟨#[45, 50]⟩ : ByteArray) (⟨#[45, 51]⟩ : ByteArray) t103 t104 _ A2.out).mono ?_); rintro e w18 ⟨rfl, hb⟩; refine ⟨_, rfl, ?_⟩; have n0_ := Aside0.mk (below_step (by repeat (first | (with_reducible first | exact HB.out | apply below_alloc | apply pw_below_drewN | apply below_drew1) | exact HB.out)) hb); clear HB; have HB := n0_; clear n0_; (try clear hb); (try clear hb2); (try clear hk); (try clear hi)))
          go_ret
          exact ⟨by first | rfl | (simp [errW_none, errW_some] <;> rfl) | (simp [*, errW_none, errW_some] <;> rfl), by repeat (first | (with_reducible first | exact HB.out | apply below_alloc | apply pw_below_drewN | apply below_drew1) | exact HB.out)⟩
      · rw [if_neg c5] at H
        have c5b0 : (t103.toList == ([54] : List UInt8)) = false := beq_eq_false_iff_ne.mpr c5
        have c5b1 : (t103.toList != ([54] : List UInt8)) = true := bne_iff_ne.mpr c5
        obtain rfl := Option.some.inj H
        go_enter Try.func12, Try.ntmps12
        go_wp2_with (first | ((with_reducible refine gate_callee (f := 14) rfl ?_); refine goesL_ (some 6) rfl rfl Try.func14 (by kernel_rfl) rfl #[.string (⟨#[51]⟩ : ByteArray), .string (⟨#[53]⟩ : ByteArray)] rfl (by (try simp only [List.map_toArray, List.map_cons, List.map_nil]); first | done | rfl | (simp only [List.length_drop, List.length_take]; rfl)) ?_; (with_reducible refine (whole_Sub.calls (⟨#[51]⟩ : ByteArray) (⟨#[53]⟩ : ByteArray) t101 t102 _ A1.out).mono ?_); rintro e w19 ⟨rfl, hb⟩; refine ⟨_, rfl, ?_⟩; have n0_ := Aside0.mk (below_step (by repeat (first | (with_reducible first | exact HB.out | apply below_alloc | apply pw_below_drewN | apply below_drew1) | exact HB.out)) hb); clear HB; have HB := n0_; clear n0_; (try clear hb); (try clear hb2); (try clear hk); (try clear hi)) | ((with_reducible refine gate_callee (f := 15) rfl ?_); refine goesL_ (some 10) rfl rfl Try.func15 (by kernel_rfl) rfl #[.string (⟨#[45, 50]⟩ : ByteArray), .string (⟨#[45, 51]⟩ : ByteArray)] rfl (by (try simp only [List.map_toArray, List.map_cons, List.map_nil]); first | done | rfl | (simp only [List.length_drop, List.length_take]; rfl)) ?_; (with_reducible refine (whole_Mul.calls (⟨#[45, 50]⟩ : ByteArray) (⟨#[45, 51]⟩ : ByteArray) t103 t104 _ A2.out).mono ?_); rintro e w20 ⟨rfl, hb⟩; refine ⟨_, rfl, ?_⟩; have n0_ := Aside0.mk (below_step (by repeat (first | (with_reducible first | exact HB.out | apply below_alloc | apply pw_below_drewN | apply below_drew1) | exact HB.out)) hb); clear HB; have HB := n0_; clear n0_; (try clear hb); (try clear hb2); (try clear hk); (try clear hi)))
        go_ret
        exact ⟨by first | rfl | (simp [errW_none, errW_some] <;> rfl) | (simp [*, errW_none, errW_some] <;> rfl), by repeat (first | (with_reducible first | exact HB.out | apply below_alloc | apply pw_below_drewN | apply below_drew1) | exact HB.out)⟩
    · rw [if_neg c4] at H
      have c4b0 : (t102 == 0) = false := beq_eq_false_iff_ne.mpr c4
      have c4b1 : (t102 != 0) = true := bne_iff_ne.mpr c4
      obtain rfl := Option.some.inj H
      go_enter Try.func12, Try.ntmps12
      go_wp2_with (first | ((with_reducible refine gate_callee (f := 14) rfl ?_); refine goesL_ (some 6) rfl rfl Try.func14 (by kernel_rfl) rfl #[.string (⟨#[51]⟩ : ByteArray), .string (⟨#[53]⟩ : ByteArray)] rfl (by (try simp only [List.map_toArray, List.map_cons, List.map_nil]); first | done | rfl | (simp only [List.length_drop, List.length_take]; rfl)) ?_; (with_reducible refine (whole_Sub.calls (⟨#[51]⟩ : ByteArray) (⟨#[53]⟩ : ByteArray) t101 t102 _ A1.out).mono ?_); rintro e w21 ⟨rfl, hb⟩; refine ⟨_, rfl, ?_⟩; have n0_ := Aside0.mk (below_step (by repeat (first | (with_reducible first | exact HB.out | apply below_alloc | apply pw_below_drewN | apply below_drew1) | exact HB.out)) hb); clear HB; have HB := n0_; clear n0_; (try clear hb); (try clear hb2); (try clear hk); (try clear hi)) | ((with_reducible refine gate_callee (f := 15) rfl ?_); refine goesL_ (some 10) rfl rfl Try.func15 (by kernel_rfl) rfl #[.string (⟨#[45, 50]⟩ : ByteArray), .string (⟨#[45, 51]⟩ : ByteArray)] rfl (by (try simp only [List.map_toArray, List.map_cons, List.map_nil]); first | done | rfl | (simp only [List.length_drop, List.length_take]; rfl)) ?_; (with_reducible refine (whole_Mul.calls (⟨#[45, 50]⟩ : ByteArray) (⟨#[45, 51]⟩ : ByteArray) t103 t104 _ A2.out).mono ?_); rintro e w22 ⟨rfl, hb⟩; refine ⟨_, rfl, ?_⟩; have n0_ := Aside0.mk (below_step (by repeat (first | (with_reducible first | exact HB.out | apply below_alloc | apply pw_below_drewN | apply below_drew1) | exact HB.out)) hb); clear HB; have HB := n0_; clear n0_; (try clear hb); (try clear hb2); (try clear hk); (try clear hi)))
      go_ret
      exact ⟨by first | rfl | (simp [errW_none, errW_some] <;> rfl) | (simp [*, errW_none, errW_some] <;> rfl), by repeat (first | (with_reducible first | exact HB.out | apply below_alloc | apply pw_below_drewN | apply below_drew1) | exact HB.out)⟩
  · rw [if_neg c3] at H
    have c3b0 : (t101.toList == ([45, 50] : List UInt8)) = false := beq_eq_false_iff_ne.mpr c3
    have c3b1 : (t101.toList != ([45, 50] : List UInt8)) = true := bne_iff_ne.mpr c3
    obtain rfl := Option.some.inj H
    go_enter Try.func12, Try.ntmps12
    go_wp2_with (first | ((with_reducible refine gate_callee (f := 14) rfl ?_); refine goesL_ (some 6) rfl rfl Try.func14 (by kernel_rfl) rfl #[.string (⟨#[51]⟩ : ByteArray), .string (⟨#[53]⟩ : ByteArray)] rfl (by (try simp only [List.map_toArray, List.map_cons, List.map_nil]); first | done | rfl | (simp only [List.length_drop, List.length_take]; rfl)) ?_; (with_reducible refine (whole_Sub.calls (⟨#[51]⟩ : ByteArray) (⟨#[53]⟩ : ByteArray) t101 t102 _ A1.out).mono ?_); rintro e w23 ⟨rfl, hb⟩; refine ⟨_, rfl, ?_⟩; have n0_ := Aside0.mk (below_step (by repeat (first | (with_reducible first | exact HB.out | apply below_alloc | apply pw_below_drewN | apply below_drew1) | exact HB.out)) hb); clear HB; have HB := n0_; clear n0_; (try clear hb); (try clear hb2); (try clear hk); (try clear hi)) | ((with_reducible refine gate_callee (f := 15) rfl ?_); refine goesL_ (some 10) rfl rfl Try.func15 (by kernel_rfl) rfl #[.string (⟨#[45, 50]⟩ : ByteArray), .string (⟨#[45, 51]⟩ : ByteArray)] rfl (by (try simp only [List.map_toArray, List.map_cons, List.map_nil]); first | done | rfl | (simp only [List.length_drop, List.length_take]; rfl)) ?_; (with_reducible refine (whole_Mul.calls (⟨#[45, 50]⟩ : ByteArray) (⟨#[45, 51]⟩ : ByteArray) t103 t104 _ A2.out).mono ?_); rintro e w24 ⟨rfl, hb⟩; refine ⟨_, rfl, ?_⟩; have n0_ := Aside0.mk (below_step (by repeat (first | (with_reducible first | exact HB.out | apply below_alloc | apply pw_below_drewN | apply below_drew1) | exact HB.out)) hb); clear HB; have HB := n0_; clear n0_; (try clear hb); (try clear hb2); (try clear hk); (try clear hi)))
    go_ret
    exact ⟨by first | rfl | (simp [errW_none, errW_some] <;> rfl) | (simp [*, errW_none, errW_some] <;> rfl), by repeat (first | (with_reducible first | exact HB.out | apply below_alloc | apply pw_below_drewN | apply below_drew1) | exact HB.out)⟩

/-! ### whole_Add: function 13 -/
def whole_Add.f (a0 : ByteArray) (a1 : ByteArray) : Option (ByteArray × Int) := PB.whole_Add.f a0 a1
theorem whole_Add.calls (a0 : ByteArray) (a1 : ByteArray) (r1 : ByteArray) (r2 : Int) (w : World) (h : whole_Add.f a0 a1 = some (r1, r2)) :
    Calls Try.prog 13 #[.string a0, .string a1] w fun e w' => e = .returned (.tuple #[.string r1, .int .i64 r2]) ∧ Below w.heap.size w w' := PB.whole_Add.calls a0 a1 r1 r2 w h
theorem whole_Add.zt {x y : Int} (hx : Th.Wh.Ft x) (hy : Th.Wh.Ft y) : whole_Add.f (Th.Wh.zt x) (Th.Wh.zt y) = some (Th.Wh.zt (x + y), 0) := Th.Wh.add_zt x y hx hy
theorem whole_Add.no {a b : ByteArray} (h : (Th.Wh.right a && Th.Wh.right b) = false) : whole_Add.f a b = some (⟨#[]⟩, 2) := Th.Wh.add_no a b h

/-! ### tapewrightref02_Right: function 24 -/
def tapewrightref02_Right.f (a0 : ByteArray) : Option (Bool) := PB.tapewrightref02_Right.f a0
theorem tapewrightref02_Right.calls (a0 : ByteArray) (r : Bool) (w : World) (h : tapewrightref02_Right.f a0 = some r) :
    Calls Try.prog 24 #[.string a0] w fun e w' => e = .returned (.bool r) ∧ Drawn0 w w' := PB.tapewrightref02_Right.calls a0 r w h
theorem tapewrightref02_Right.of {a : ByteArray} (h : a.size ≤ 140737488351232) : tapewrightref02_Right.f a = some (Th.Wh.right a) := Th.Wh.rright_spec a h

/-! ### tapewrightlaw02_short: function 16 -/
def tapewrightlaw02_short.l0 : Nat → List ByteArray → Int → Int → Option (Bool)
  | 0, _, _, _ => none
  | k + 1, x5, x6, x7 => if x7 < x6 then (if 0 ≤ x7 then (if x7 < (x5.length : Int) then (if ((rdOf ByteArray.empty x5 x7).size : Int) > 100 then (some false) else ((tapewrightref02_Right.f (rdOf ByteArray.empty x5 x7)).bind fun t108 => (if t108 = true then (tapewrightlaw02_short.l0 k x5 x6 (wrap64 (x7 + 1))) else (some false)))) else (none)) else (none)) else (some true)
def tapewrightlaw02_short.f (k : Nat) (l0 : List ByteArray) : Option (Bool) := tapewrightlaw02_short.l0 k l0 (l0.length : Int) 0
set_option maxHeartbeats 8000000 in
set_option maxRecDepth 100000 in
theorem tapewrightlaw02_short.calls (k : Nat) (A0 : Option Addr) (c0 : Nat) (l0 : List ByteArray) (r : Bool) (w : World) (hr0 : Kd.C Kd.string w A0 l0.length l0) (hc0 : l0.length ≤ c0) (h : tapewrightlaw02_short.f k l0 = some r) :
    Calls Try.prog 16 #[.slice A0 l0.length c0] w fun e w' => e = .returned (.bool r) ∧ Drawn0 w w' := by
  have HR0 := Aside0.mk hr0
  have HC0 := Aside0.mk hc0
  clear hr0 hc0
  have H : (tapewrightlaw02_short.l0 k l0 (l0.length : Int) 0) = some r := h
  clear h
  have H' := Aside0.mk H
  clear H
  go_enter Try.func16, Try.ntmps16
  go_wp2
  go_loopg [7] k (fun kq v7 w' => ∃ (x7_1 : Int), v7 = .int .i64 x7_1 ∧ Aside0 (tapewrightlaw02_short.l0 kq l0 (l0.length : Int) x7_1 = some r) ∧ Aside0 (kq ≤ k) ∧ Drawn0 w w')
  case atStart => exact ⟨(0), (by first | rfl | (simp; done) | (simp [*]; done)), H', ⟨Nat.le_refl _⟩, by repeat (first | exact Drawn0.refl _ | apply Drawn0.step)⟩
  case round =>
    clear H'
    try clear c1
    obtain ⟨x7_1, rfl, HA, HK1, ⟨m1, rfl⟩⟩ := hrel
    cases gk with
    | zero => exact absurd HA.out (by simp [tapewrightlaw02_short.l0])
    | succ k1 =>
      have H := HA.out
      clear HA
      simp only [tapewrightlaw02_short.l0] at H
      by_cases c2 : x7_1 < (l0.length : Int)
      · rw [if_pos c2] at H
        have c2b0 : decide (x7_1 < (l0.length : Int)) = true := decide_eq_true c2
        clear c2
        by_cases c3 : 0 ≤ x7_1
        · rw [if_pos c3] at H
          have c3b0 : decide (0 ≤ x7_1) = true := decide_eq_true c3
          clear c3
          by_cases c4 : x7_1 < (l0.length : Int)
          · rw [if_pos c4] at H
            have c4b0 : decide (x7_1 < (l0.length : Int)) = true := decide_eq_true c4
            clear c4
            by_cases c5 : ((rdOf ByteArray.empty l0 x7_1).size : Int) > 100
            · rw [if_pos c5] at H
              have c5b0 : decide (100 < ((rdOf ByteArray.empty l0 x7_1).size : Int)) = true := decide_eq_true c5
              have c5b1 : decide (100 < (rdOf ByteArray.empty l0 x7_1).size) = true := decide_eq_true (by omega)
              clear c5
              obtain rfl := Option.some.inj H
              have p107 : 0 ≤ (x7_1 : Int) := of_decide_eq_true (by first | (with_reducible assumption) | assumption)
              have q107 : x7_1 < (l0.length : Int) := of_decide_eq_true (by first | (with_reducible assumption) | assumption)
              obtain ⟨ad107, e107, hx107_0⟩ := Kd.at_string HR0.out x7_1 p107 q107
              cases e107
              replace p107 := eq_true p107
              replace q107 := eq_true q107
              go_wp2
              go_ret
              exact ⟨by first | rfl | (simp; done) | (simp [*]; done), by repeat (first | exact Drawn0.refl _ | apply Drawn0.step)⟩
            · rw [if_neg c5] at H
              have c5b0 : decide (100 < ((rdOf ByteArray.empty l0 x7_1).size : Int)) = false := decide_eq_false c5
              have c5b1 : decide (100 < (rdOf ByteArray.empty l0 x7_1).size) = false := decide_eq_false (by omega)
              clear c5
              replace H := Option.bind_eq_some_iff.mp H
              obtain ⟨t108, A60, H⟩ := H
              replace H : (if t108 = true then (tapewrightlaw02_short.l0 k1 l0 (l0.length : Int) (wrap64 (x7_1 + 1))) else (some false)) = some r := H
              have A6 := Aside0.mk A60
              clear A60
              by_cases c7 : t108 = true
              · subst c7
                have H1 : (tapewrightlaw02_short.l0 k1 l0 (l0.length : Int) (wrap64 (x7_1 + 1))) = some r := by rw [if_pos rfl] at H; exact H
                clear H
                have H := H1
                clear H1
                have H' := Aside0.mk H
                clear H
                have p107 : 0 ≤ (x7_1 : Int) := of_decide_eq_true (by first | (with_reducible assumption) | assumption)
                have q107 : x7_1 < (l0.length : Int) := of_decide_eq_true (by first | (with_reducible assumption) | assumption)
                obtain ⟨ad107, e107, hx107_0⟩ := Kd.at_string HR0.out x7_1 p107 q107
                cases e107
                replace p107 := eq_true p107
                replace q107 := eq_true q107
                go_wp2_with (first | (go_at_call 24; (with_reducible refine (tapewrightref02_Right.calls (rdOf ByteArray.empty l0 x7_1) true _ A6.out).mono ?_); rintro e w' ⟨rfl, ⟨nd, rfl⟩⟩))
                go_roundg k1
                case measure => have := HK1.out; omega
                case rel => exact ⟨(wrap64 (x7_1 + 1)), (by first | rfl | (simp; done) | (simp [*]; done)), H', ⟨by have := HK1.out; omega⟩, by repeat (first | exact Drawn0.refl _ | apply Drawn0.step)⟩
              · replace c7 := Bool.eq_false_iff.mpr c7
                subst c7
                have H1 : (some false) = some r := by rw [if_neg (show ¬ (false = true) by decide)] at H; exact H
                clear H
                have H := H1
                clear H1
                obtain rfl := Option.some.inj H
                have p107 : 0 ≤ (x7_1 : Int) := of_decide_eq_true (by first | (with_reducible assumption) | assumption)
                have q107 : x7_1 < (l0.length : Int) := of_decide_eq_true (by first | (with_reducible assumption) | assumption)
                obtain ⟨ad107, e107, hx107_0⟩ := Kd.at_string HR0.out x7_1 p107 q107
                cases e107
                replace p107 := eq_true p107
                replace q107 := eq_true q107
                go_wp2_with (first | (go_at_call 24; (with_reducible refine (tapewrightref02_Right.calls (rdOf ByteArray.empty l0 x7_1) false _ A6.out).mono ?_); rintro e w' ⟨rfl, ⟨nd, rfl⟩⟩))
                go_ret
                exact ⟨by first | rfl | (simp; done) | (simp [*]; done), by repeat (first | exact Drawn0.refl _ | apply Drawn0.step)⟩
          · rw [if_neg c4] at H
            exact absurd H (by simp)
        · rw [if_neg c3] at H
          exact absurd H (by simp)
      · rw [if_neg c2] at H
        have c2b0 : decide (x7_1 < (l0.length : Int)) = false := decide_eq_false c2
        clear c2
        obtain rfl := Option.some.inj H
        go_wp2
        go_ret
        exact ⟨by first | rfl | (simp; done) | (simp [*]; done), by repeat (first | exact Drawn0.refl _ | apply Drawn0.step)⟩

/-! ### tapewrightref02_Add: function 17 -/
def tapewrightref02_Add.f (a0 : ByteArray) (a1 : ByteArray) : Option (ByteArray) := PB.tapewrightref02_Add.f a0 a1
theorem tapewrightref02_Add.calls (a0 : ByteArray) (a1 : ByteArray) (r : ByteArray) (w : World) (h : tapewrightref02_Add.f a0 a1 = some r) :
    Calls Try.prog 17 #[.string a0, .string a1] w fun e w' => e = .returned (.string r) ∧ Below w.heap.size w w' := PB.tapewrightref02_Add.calls a0 a1 r w h
theorem tapewrightref02_Add.zt {x y : Int} (hx : Th.Wh.Ft x) (hy : Th.Wh.Ft y) : tapewrightref02_Add.f (Th.Wh.zt x) (Th.Wh.zt y) = some (Th.Wh.zt (x + y)) := Th.Wh.radd_zt x y hx hy

/-! ### tapewrightref02_Neg: function 18 -/
def tapewrightref02_Neg.f (a0 : ByteArray) : Option (ByteArray) := PB.tapewrightref02_Neg.f a0
theorem tapewrightref02_Neg.calls (a0 : ByteArray) (r : ByteArray) (w : World) (h : tapewrightref02_Neg.f a0 = some r) :
    Calls Try.prog 18 #[.string a0] w fun e w' => e = .returned (.string r) ∧ Drawn0 w w' := PB.tapewrightref02_Neg.calls a0 r w h
theorem tapewrightref02_Neg.zt {x : Int} (hx : Th.Wh.Ft x) : tapewrightref02_Neg.f (Th.Wh.zt x) = some (Th.Wh.zt (-x)) := Th.Wh.rneg_zt x hx

/-! ### tapewrightref02_Mul: function 19 -/
def tapewrightref02_Mul.f (a0 : ByteArray) (a1 : ByteArray) : Option (ByteArray) := PB.tapewrightref02_Mul.f a0 a1
theorem tapewrightref02_Mul.calls (a0 : ByteArray) (a1 : ByteArray) (r : ByteArray) (w : World) (h : tapewrightref02_Mul.f a0 a1 = some r) :
    Calls Try.prog 19 #[.string a0, .string a1] w fun e w' => e = .returned (.string r) ∧ Below w.heap.size w w' := PB.tapewrightref02_Mul.calls a0 a1 r w h
theorem tapewrightref02_Mul.zt {x y : Int} (hx : Th.Wh.Ft x) (hy : Th.Wh.Ft y) : tapewrightref02_Mul.f (Th.Wh.zt x) (Th.Wh.zt y) = some (Th.Wh.zt (x * y)) := Th.Wh.rmul_zt x y hx hy

end Go.Proofs.Ytgeijcfacaiplaa.PQ
