-- by wip/tool/mine.py of this repo (the kit's printer with given contracts)
import Derived.Test.YtpjpgfaidallhaaPQx0
namespace Go.Proofs.Ytpjpgfaidallhaa.PQ
open Go.RowKit Go.Proofs.YtpjpgfaidallhaaW.PrintWords Go.Proofs.YtpjpgfaidallhaaW.PrintLast Go.Proofs.YtpjpgfaidallhaaW.PrintMore
attribute [local go_sem] max2_int min2_int max_two min_two max_three min_three max_four min_four   -- for this text's walks alone
set_option linter.unusedVariables false
set_option linter.unusedSimpArgs false

/-! ### tapewrightref01_Right: function 14 -/
def tapewrightref01_Right.f (a0 : ByteArray) : Option Bool := if a0.size ≤ 140737488351232 then some (Str.right a0) else none
theorem tapewrightref01_Right.calls (a0 : ByteArray) (r : Bool) (w : World) (h : tapewrightref01_Right.f a0 = some r) :
    Calls Try.prog 14 #[.string a0] w fun e w' => e = .returned (.bool r) ∧ Drawn0 w w' := by
  unfold tapewrightref01_Right.f at h
  by_cases c : a0.size ≤ 140737488351232
  · rw [if_pos c] at h
    obtain ⟨k, hk⟩ := (Th.Ref.right_spec a0 c).rounds
    exact PR.tapewrightref01_Right.calls k a0 r w (hk.trans h)
  · rw [if_neg c] at h
    cases h

/-! ### nat_Mul: function 16 -/
def nat_Mul.f (a0 : ByteArray) (a1 : ByteArray) : Option (ByteArray × Int) := if Th.Fit a0 ∧ Th.Fit a1 then some (Th.sMul a0 a1) else none
theorem nat_Mul.calls (a0 : ByteArray) (a1 : ByteArray) (r1 : ByteArray) (r2 : Int) (w : World) (h : nat_Mul.f a0 a1 = some (r1, r2)) :
    Calls Try.prog 16 #[.string a0, .string a1] w fun e w' => e = .returned (.tuple #[.string r1, .int .i64 r2]) ∧ Below w.heap.size w w' := by
  unfold nat_Mul.f at h
  by_cases c : Th.Fit a0 ∧ Th.Fit a1
  · rw [if_pos c] at h
    obtain ⟨k, hk⟩ := (Th.mul_spec a0 a1 c.1 c.2).rounds
    exact PA.nat_Mul.calls k a0 a1 r1 r2 w (hk.trans h)
  · rw [if_neg c] at h
    cases h
theorem nat_Mul.txt {m n : Nat} (hm : Th.Fit (Th.txt m)) (hn : Th.Fit (Th.txt n)) : nat_Mul.f (Th.txt m) (Th.txt n) = some (Th.txt (m * n), 0) := by
  rw [nat_Mul.f, if_pos ⟨hm, hn⟩, Th.sMul, Th.right_txt, Th.right_txt, Th.num_txt, Th.num_txt]
  rfl

/-! ### nat_Div: function 17 -/
def nat_Div.f (a0 : ByteArray) (a1 : ByteArray) : Option (ByteArray × ByteArray × Int) := if Th.Fit a0 ∧ Th.Fit a1 then some (Th.sDiv a0 a1) else none
theorem nat_Div.calls (a0 : ByteArray) (a1 : ByteArray) (r1 : ByteArray) (r2 : ByteArray) (r3 : Int) (w : World) (h : nat_Div.f a0 a1 = some (r1, r2, r3)) :
    Calls Try.prog 17 #[.string a0, .string a1] w fun e w' => e = .returned (.tuple #[.string r1, .string r2, .int .i64 r3]) ∧ Below w.heap.size w w' := by
  unfold nat_Div.f at h
  by_cases c : Th.Fit a0 ∧ Th.Fit a1
  · rw [if_pos c] at h
    obtain ⟨k, hk⟩ := (Th.div_spec a0 a1 c.1 c.2).rounds
    exact PA.nat_Div.calls k a0 a1 r1 r2 r3 w (hk.trans h)
  · rw [if_neg c] at h
    cases h
theorem nat_Div.txt {m n : Nat} (hm : Th.Fit (Th.txt m)) (hn : Th.Fit (Th.txt n)) (h : n ≠ 0) : nat_Div.f (Th.txt m) (Th.txt n) = some (Th.txt (m / n), Th.txt (m % n), 0) := by
  rw [nat_Div.f, if_pos ⟨hm, hn⟩, Th.sDiv, Th.right_txt, Th.right_txt, Th.num_txt, Th.num_txt, if_neg h]
  rfl
theorem nat_Div.txt0 {m : Nat} (hm : Th.Fit (Th.txt m)) (hn : Th.Fit (Th.txt 0)) : nat_Div.f (Th.txt m) (Th.txt 0) = some (⟨#[]⟩, ⟨#[]⟩, 3) := by
  rw [nat_Div.f, if_pos ⟨hm, hn⟩, Th.sDiv, Th.right_txt, Th.right_txt, Th.num_txt, Th.num_txt, if_pos rfl]
  rfl

/-! ### nat_Right: function 20 -/
def nat_Right.f (a0 : ByteArray) : Option Bool := some (Str.right a0)
theorem nat_Right.calls (a0 : ByteArray) (r : Bool) (w : World) (h : nat_Right.f a0 = some r) :
    Calls Try.prog 20 #[.string a0] w fun e w' => e = .returned (.bool r) ∧ Below w.heap.size w w' := by
  obtain rfl := Option.some.inj h
  exact Str.right_calls a0 w
theorem nat_Right.txt (m : Nat) : nat_Right.f (Th.txt m) = some true := by rw [nat_Right.f, Th.right_txt]

/-! ### tapewrightlaw01_awake: function 15 -/
def tapewrightlaw01_awake.f  : Option (Bool) := (nat_Mul.f (⟨#[57, 57, 57, 57, 57, 57, 57, 57, 57, 57, 57]⟩ : ByteArray) (⟨#[57, 57, 57, 57, 57, 57, 57, 57, 57, 57, 57]⟩ : ByteArray)).bind fun bt101 => ((nat_Div.f (⟨#[49, 48, 48]⟩ : ByteArray) (⟨#[55]⟩ : ByteArray)).bind fun bt103 => (if bt101.1.toList = ([57, 57, 57, 57, 57, 57, 57, 57, 57, 57, 56, 48, 48, 48, 48, 48, 48, 48, 48, 48, 48, 49] : List UInt8) then (if bt101.2 = 0 then (if bt103.1.toList = ([49, 52] : List UInt8) then (if bt103.2.1.toList = ([50] : List UInt8) then (if bt103.2.2 = 0 then ((nat_Right.f (⟨#[48, 49]⟩ : ByteArray)).bind fun t106 => (if t106 = true then (some false) else ((nat_Right.f (⟨#[48]⟩ : ByteArray)).bind fun t107 => (some t107)))) else (some false)) else (some false)) else (some false)) else (some false)) else (some false)))
set_option maxHeartbeats 8000000 in
set_option maxRecDepth 100000 in
theorem tapewrightlaw01_awake.calls  (r : Bool) (w : World) (h : tapewrightlaw01_awake.f  = some r) :
    Calls Try.prog 15 #[] w fun e w' => e = .returned (.bool r) ∧ Below w.heap.size w w' := by
  have HB := Aside0.mk (Below.refl w.heap.size w)
  have H : ((nat_Mul.f (⟨#[57, 57, 57, 57, 57, 57, 57, 57, 57, 57, 57]⟩ : ByteArray) (⟨#[57, 57, 57, 57, 57, 57, 57, 57, 57, 57, 57]⟩ : ByteArray)).bind fun bt101 => ((nat_Div.f (⟨#[49, 48, 48]⟩ : ByteArray) (⟨#[55]⟩ : ByteArray)).bind fun bt103 => (if bt101.1.toList = ([57, 57, 57, 57, 57, 57, 57, 57, 57, 57, 56, 48, 48, 48, 48, 48, 48, 48, 48, 48, 48, 49] : List UInt8) then (if bt101.2 = 0 then (if bt103.1.toList = ([49, 52] : List UInt8) then (if bt103.2.1.toList = ([50] : List UInt8) then (if bt103.2.2 = 0 then ((nat_Right.f (⟨#[48, 49]⟩ : ByteArray)).bind fun t106 => (if t106 = true then (some false) else ((nat_Right.f (⟨#[48]⟩ : ByteArray)).bind fun t107 => (some t107)))) else (some false)) else (some false)) else (some false)) else (some false)) else (some false)))) = some r := h
  clear h
  replace H := Option.bind_eq_some_iff.mp H
  obtain ⟨⟨t101, t102⟩, A10, H⟩ := H
  replace H : ((nat_Div.f (⟨#[49, 48, 48]⟩ : ByteArray) (⟨#[55]⟩ : ByteArray)).bind fun bt103 => (if t101.toList = ([57, 57, 57, 57, 57, 57, 57, 57, 57, 57, 56, 48, 48, 48, 48, 48, 48, 48, 48, 48, 48, 49] : List UInt8) then (if t102 = 0 then (if bt103.1.toList = ([49, 52] : List UInt8) then (if bt103.2.1.toList = ([50] : List UInt8) then (if bt103.2.2 = 0 then ((nat_Right.f (⟨#[48, 49]⟩ : ByteArray)).bind fun t106 => (if t106 = true then (some false) else ((nat_Right.f (⟨#[48]⟩ : ByteArray)).bind fun t107 => (some t107)))) else (some false)) else (some false)) else (some false)) else (some false)) else (some false))) = some r := H
  have A1 := Aside0.mk A10
  clear A10
  replace H := Option.bind_eq_some_iff.mp H
  obtain ⟨⟨t103, t104, t105⟩, A20, H⟩ := H
  replace H : (if t101.toList = ([57, 57, 57, 57, 57, 57, 57, 57, 57, 57, 56, 48, 48, 48, 48, 48, 48, 48, 48, 48, 48, 49] : List UInt8) then (if t102 = 0 then (if t103.toList = ([49, 52] : List UInt8) then (if t104.toList = ([50] : List UInt8) then (if t105 = 0 then ((nat_Right.f (⟨#[48, 49]⟩ : ByteArray)).bind fun t106 => (if t106 = true then (some false) else ((nat_Right.f (⟨#[48]⟩ : ByteArray)).bind fun t107 => (some t107)))) else (some false)) else (some false)) else (some false)) else (some false)) else (some false)) = some r := H
  have A2 := Aside0.mk A20
  clear A20
  by_cases c3 : t101.toList = ([57, 57, 57, 57, 57, 57, 57, 57, 57, 57, 56, 48, 48, 48, 48, 48, 48, 48, 48, 48, 48, 49] : List UInt8)
  · rw [if_pos c3] at H
    have c3b0 : (t101.toList == ([57, 57, 57, 57, 57, 57, 57, 57, 57, 57, 56, 48, 48, 48, 48, 48, 48, 48, 48, 48, 48, 49] : List UInt8)) = true := beq_iff_eq.mpr c3
    have c3b1 : (t101.toList != ([57, 57, 57, 57, 57, 57, 57, 57, 57, 57, 56, 48, 48, 48, 48, 48, 48, 48, 48, 48, 48, 49] : List UInt8)) = false := bne_eq_false_iff_eq.mpr c3
    clear c3
    by_cases c4 : t102 = 0
    · rw [if_pos c4] at H
      have c4b0 : (t102 == 0) = true := beq_iff_eq.mpr c4
      have c4b1 : (t102 != 0) = false := bne_eq_false_iff_eq.mpr c4
      clear c4
      by_cases c5 : t103.toList = ([49, 52] : List UInt8)
      · rw [if_pos c5] at H
        have c5b0 : (t103.toList == ([49, 52] : List UInt8)) = true := beq_iff_eq.mpr c5
        have c5b1 : (t103.toList != ([49, 52] : List UInt8)) = false := bne_eq_false_iff_eq.mpr c5
        clear c5
        by_cases c6 : t104.toList = ([50] : List UInt8)
        · rw [if_pos c6] at H
          have c6b0 : (t104.toList == ([50] : List UInt8)) = true := beq_iff_eq.mpr c6
          have c6b1 : (t104.toList != ([50] : List UInt8)) = false := bne_eq_false_iff_eq.mpr c6
          clear c6
          by_cases c7 : t105 = 0
          · rw [if_pos c7] at H
            have c7b0 : (t105 == 0) = true := beq_iff_eq.mpr c7
            have c7b1 : (t105 != 0) = false := bne_eq_false_iff_eq.mpr c7
            clear c7
            replace H := Option.bind_eq_some_iff.mp H
            obtain ⟨t106, A80, H⟩ := H
            replace H : (if t106 = true then (some false) else ((nat_Right.f (⟨#[48]⟩ : ByteArray)).bind fun t107 => (some t107))) = some r := H
            have A8 := Aside0.mk A80
            clear A80
            by_cases c9 : t106 = true
            · subst c9
              have H1 : (some false) = some r := by rw [if_pos rfl] at H; exact H
              clear H
              have H := H1
              clear H1
              obtain rfl := Option.some.inj H
              go_enter Try.func15, Try.ntmps15
              go_wp2_with (first | ((with_reducible refine gate_callee (f := 16) rfl ?_); refine goesL_ (some 7) rfl rfl Try.func16 (by kernel_rfl) rfl #[.string (⟨#[57, 57, 57, 57, 57, 57, 57, 57, 57, 57, 57]⟩ : ByteArray), .string (⟨#[57, 57, 57, 57, 57, 57, 57, 57, 57, 57, 57]⟩ : ByteArray)] rfl (by (try simp only [List.map_toArray, List.map_cons, List.map_nil]); first | done | rfl | (simp only [List.length_drop, List.length_take]; rfl)) ?_; (with_reducible refine (nat_Mul.calls (⟨#[57, 57, 57, 57, 57, 57, 57, 57, 57, 57, 57]⟩ : ByteArray) (⟨#[57, 57, 57, 57, 57, 57, 57, 57, 57, 57, 57]⟩ : ByteArray) t101 t102 _ A1.out).mono ?_); rintro e w10 ⟨rfl, hb⟩; refine ⟨_, rfl, ?_⟩; have n0_ := Aside0.mk (below_step (by repeat (first | (with_reducible first | exact HB.out | apply below_alloc | apply pw_below_drewN | apply below_drew1) | exact HB.out)) hb); clear HB; have HB := n0_; clear n0_; (try clear hb); (try clear hb2); (try clear hk); (try clear hi)) | ((with_reducible refine gate_callee (f := 17) rfl ?_); refine goesL_ (some 11) rfl rfl Try.func17 (by kernel_rfl) rfl #[.string (⟨#[49, 48, 48]⟩ : ByteArray), .string (⟨#[55]⟩ : ByteArray)] rfl (by (try simp only [List.map_toArray, List.map_cons, List.map_nil]); first | done | rfl | (simp only [List.length_drop, List.length_take]; rfl)) ?_; (with_reducible refine (nat_Div.calls (⟨#[49, 48, 48]⟩ : ByteArray) (⟨#[55]⟩ : ByteArray) t103 t104 t105 _ A2.out).mono ?_); rintro e w11 ⟨rfl, hb⟩; refine ⟨_, rfl, ?_⟩; have n0_ := Aside0.mk (below_step (by repeat (first | (with_reducible first | exact HB.out | apply below_alloc | apply pw_below_drewN | apply below_drew1) | exact HB.out)) hb); clear HB; have HB := n0_; clear n0_; (try clear hb); (try clear hb2); (try clear hk); (try clear hi)) | (go_at_call 20; (with_reducible refine (nat_Right.calls (⟨#[48, 49]⟩ : ByteArray) true _ A8.out).mono ?_); rintro e w12 ⟨rfl, hb⟩; have n0_ := Aside0.mk (below_step (by repeat (first | (with_reducible first | exact HB.out | apply below_alloc | apply pw_below_drewN | apply below_drew1) | exact HB.out)) hb); clear HB; have HB := n0_; clear n0_; (try clear hb); (try clear hb2); (try clear hk); (try clear hi)))
              go_ret
              exact ⟨by first | rfl | (simp [errW_none, errW_some] <;> rfl) | (simp [*, errW_none, errW_some] <;> rfl), by repeat (first | (with_reducible first | exact HB.out | apply below_alloc | apply pw_below_drewN | apply below_drew1) | exact HB.out)⟩
            · replace c9 := Bool.eq_false_iff.mpr c9
              subst c9
              have H1 : ((nat_Right.f (⟨#[48]⟩ : ByteArray)).bind fun t107 => (some t107)) = some r := by rw [if_neg (show ¬ (false = true) by decide)] at H; exact H
              clear H
              have H := H1
              clear H1
              replace H := Option.bind_eq_some_iff.mp H
              obtain ⟨t107, A130, H⟩ := H
              replace H : (some t107) = some r := H
              have A13 := Aside0.mk A130
              clear A130
              obtain rfl := Option.some.inj H
              go_enter Try.func15, Try.ntmps15
              go_wp2_with (first | ((with_reducible refine gate_callee (f := 16) rfl ?_); refine goesL_ (some 7) rfl rfl Try.func16 (by kernel_rfl) rfl #[.string (⟨#[57, 57, 57, 57, 57, 57, 57, 57, 57, 57, 57]⟩ : ByteArray), .string (⟨#[57, 57, 57, 57, 57, 57, 57, 57, 57, 57, 57]⟩ : ByteArray)] rfl (by (try simp only [List.map_toArray, List.map_cons, List.map_nil]); first | done | rfl | (simp only [List.length_drop, List.length_take]; rfl)) ?_; (with_reducible refine (nat_Mul.calls (⟨#[57, 57, 57, 57, 57, 57, 57, 57, 57, 57, 57]⟩ : ByteArray) (⟨#[57, 57, 57, 57, 57, 57, 57, 57, 57, 57, 57]⟩ : ByteArray) t101 t102 _ A1.out).mono ?_); rintro e w14 ⟨rfl, hb⟩; refine ⟨_, rfl, ?_⟩; have n0_ := Aside0.mk (below_step (by repeat (first | (with_reducible first | exact HB.out | apply below_alloc | apply pw_below_drewN | apply below_drew1) | exact HB.out)) hb); clear HB; have HB := n0_; clear n0_; (try clear hb); (try clear hb2); (try clear hk); (try clear hi)) | ((with_reducible refine gate_callee (f := 17) rfl ?_); refine goesL_ (some 11) rfl rfl Try.func17 (by kernel_rfl) rfl #[.string (⟨#[49, 48, 48]⟩ : ByteArray), .string (⟨#[55]⟩ : ByteArray)] rfl (by (try simp only [List.map_toArray, List.map_cons, List.map_nil]); first | done | rfl | (simp only [List.length_drop, List.length_take]; rfl)) ?_; (with_reducible refine (nat_Div.calls (⟨#[49, 48, 48]⟩ : ByteArray) (⟨#[55]⟩ : ByteArray) t103 t104 t105 _ A2.out).mono ?_); rintro e w15 ⟨rfl, hb⟩; refine ⟨_, rfl, ?_⟩; have n0_ := Aside0.mk (below_step (by repeat (first | (with_reducible first | exact HB.out | apply below_alloc | apply pw_below_drewN | apply below_drew1) | exact HB.out)) hb); clear HB; have HB := n0_; clear n0_; (try clear hb); (try clear hb2); (try clear hk); (try clear hi)) | (go_at_call 20; (with_reducible refine (nat_Right.calls (⟨#[48, 49]⟩ : ByteArray) false _ A8.out).mono ?_); rintro e w16 ⟨rfl, hb⟩; have n0_ := Aside0.mk (below_step (by repeat (first | (with_reducible first | exact HB.out | apply below_alloc | apply pw_below_drewN | apply below_drew1) | exact HB.out)) hb); clear HB; have HB := n0_; clear n0_; (try clear hb); (try clear hb2); (try clear hk); (try clear hi)) | (go_at_call 20; (with_reducible refine (nat_Right.calls (⟨#[48]⟩ : ByteArray) t107 _ A13.out).mono ?_); rintro e w17 ⟨rfl, hb⟩; have n0_ := Aside0.mk (below_step (by repeat (first | (with_reducible first | exact HB.out | apply below_alloc | apply pw_below_drewN | apply below_drew1) | exact HB.out)) hb); clear HB; have HB := n0_; clear n0_; (try clear hb); (try clear hb2); (try clear hk); (try clear hi)))
              go_ret
              exact ⟨by first | rfl | (simp [errW_none, errW_some] <;> rfl) | (simp [*, errW_none, errW_some] <;> rfl), by repeat (first | (with_reducible first | exact HB.out | apply below_alloc | apply pw_below_drewN | apply below_drew1) | exact HB.out)⟩
          · rw [if_neg c7] at H
            have c7b0 : (t105 == 0) = false := beq_eq_false_iff_ne.mpr c7
            have c7b1 : (t105 != 0) = true := bne_iff_ne.mpr c7
            obtain rfl := Option.some.inj H
            go_enter Try.func15, Try.ntmps15
            go_wp2_with (first | ((with_reducible refine gate_callee (f := 16) rfl ?_); refine goesL_ (some 7) rfl rfl Try.func16 (by kernel_rfl) rfl #[.string (⟨#[57, 57, 57, 57, 57, 57, 57, 57, 57, 57, 57]⟩ : ByteArray), .string (⟨#[57, 57, 57, 57, 57, 57, 57, 57, 57, 57, 57]⟩ : ByteArray)] rfl (by (try simp only [List.map_toArray, List.map_cons, List.map_nil]); first | done | rfl | (simp only [List.length_drop, List.length_take]; rfl)) ?_; (with_reducible refine (nat_Mul.calls (⟨#[57, 57, 57, 57, 57, 57, 57, 57, 57, 57, 57]⟩ : ByteArray) (⟨#[57, 57, 57, 57, 57, 57, 57, 57, 57, 57, 57]⟩ : ByteArray) t101 t102 _ A1.out).mono ?_); rintro e w18 ⟨rfl, hb⟩; refine ⟨_, rfl, ?_⟩; have n0_ := Aside0.mk (below_step (by repeat (first | (with_reducible first | exact HB.out | apply below_alloc | apply pw_below_drewN | apply below_drew1) | exact HB.out)) hb); clear HB; have HB := n0_; clear n0_; (try clear hb); (try clear hb2); (try clear hk); (try clear hi)) | ((with_reducible refine gate_callee (f := 17) rfl ?_); refine goesL_ (some 11) rfl rfl Try.func17 (by kernel_rfl) rfl #[.string (⟨#[49, 48, 48]⟩ : ByteArray), .string (⟨#[55]⟩ : ByteArray)] rfl (by (try simp only [List.map_toArray, List.map_cons, List.map_nil]); first | done | rfl | (simp only [List.length_drop, List.length_take]; rfl)) ?_; (with_reducible refine (nat_Div.calls (⟨#[49, 48, 48]⟩ : ByteArray) (⟨#[55]⟩ : ByteArray) t103 t104 t105 _ A2.out).mono ?_); rintro e w19 ⟨rfl, hb⟩; refine ⟨_, rfl, ?_⟩; have n0_ := Aside0.mk (below_step (by repeat (first | (with_reducible first | exact HB.out | apply below_alloc | apply pw_below_drewN | apply below_drew1) | exact HB.out)) hb); clear HB; have HB := n0_; clear n0_; (try clear hb); (try clear hb2); (try clear hk); (try clear hi)))
            go_ret
            exact ⟨by first | rfl | (simp [errW_none, errW_some] <;> rfl) | (simp [*, errW_none, errW_some] <;> rfl), by repeat (first | (with_reducible first | exact HB.out | apply below_alloc | apply pw_below_drewN | apply below_drew1) | exact HB.out)⟩
        · rw [if_neg c6] at H
          have c6b0 : (t104.toList == ([50] : List UInt8)) = false := beq_eq_false_iff_ne.mpr c6
          have c6b1 : (t104.toList != ([50] : List UInt8)) = true := bne_iff_ne.mpr c6
          obtain rfl := Option.some.inj H
          go_enter Try.func15, Try.ntmps15
          go_wp2_with (first | ((with_reducible refine gate_callee (f := 16) rfl ?_); refine goesL_ (some 7) rfl rfl Try.func16 (by kernel_rfl) rfl #[.string (⟨#[57, 57, 57, 57, 57, 57, 57, 57, 57, 57, 57]⟩ : ByteArray), .string (⟨#[57, 57, 57, 57, 57, 57, 57, 57, 57, 57, 57]⟩ : ByteArray)] rfl (by (try simp only [List.map_toArray, List.map_cons, List.map_nil]); first | done | rfl | (simp only [List.length_drop, List.length_take]; rfl)) ?_; (with_reducible refine (nat_Mul.calls (⟨#[57, 57, 57, 57, 57, 57, 57, 57, 57, 57, 57]⟩ : ByteArray) (⟨#[57, 57, 57, 57, 57, 57, 57, 57, 57, 57, 57]⟩ : ByteArray) t101 t102 _ A1.out).mono ?_); rintro e w20 ⟨rfl, hb⟩; refine ⟨_, rfl, ?_⟩; have n0_ := Aside0.mk (below_step (by repeat (first | (with_reducible first | exact HB.out | apply below_alloc | apply pw_below_drewN | apply below_drew1) | exact HB.out)) hb); clear HB; have HB := n0_; clear n0_; (try clear hb); (try clear hb2); (try clear hk); (try clear hi)) | ((with_reducible refine gate_callee (f := 17) rfl ?_); refine goesL_ (some 11) rfl rfl Try.func17 (by kernel_rfl) rfl #[.string (⟨#[49, 48, 48]⟩ : ByteArray), .string (⟨#[55]⟩ : ByteArray)] rfl (by (try simp only [List.map_toArray, List.map_cons, List.map_nil]); first | done | rfl | (simp only [List.length_drop, List.length_take]; rfl)) ?_; (with_reducible refine (nat_Div.calls (⟨#[49, 48, 48]⟩ : ByteArray) (⟨#[55]⟩ : ByteArray) t103 t104 t105 _ A2.out).mono ?_); rintro e w21 ⟨rfl, hb⟩; refine ⟨_, rfl, ?_⟩; have n0_ := Aside0.mk (below_step (by repeat (first | (with_reducible first | exact HB.out | apply below_alloc | apply pw_below_drewN | apply below_drew1) | exact HB.out)) hb); clear HB; have HB := n0_; clear n0_; (try clear hb); (try clear hb2); (try clear hk); (try clear hi)))
          go_ret
          exact ⟨by first | rfl | (simp [errW_none, errW_some] <;> rfl) | (simp [*, errW_none, errW_some] <;> rfl), by repeat (first | (with_reducible first | exact HB.out | apply below_alloc | apply pw_below_drewN | apply below_drew1) | exact HB.out)⟩
      · rw [if_neg c5] at H
        have c5b0 : (t103.toList == ([49, 52] : List UInt8)) = false := beq_eq_false_iff_ne.mpr c5
        have c5b1 : (t103.toList != ([49, 52] : List UInt8)) = true := bne_iff_ne.mpr c5
        obtain rfl := Option.some.inj H
        go_enter Try.func15, Try.ntmps15
        go_wp2_with (first | ((with_reducible refine gate_callee (f := 16) rfl ?_); refine goesL_ (some 7) rfl rfl Try.func16 (by kernel_rfl) rfl #[.string (⟨#[57, 57, 57, 57, 57, 57, 57, 57, 57, 57, 57]⟩ : ByteArray), .string (⟨#[57, 57, 57, 57, 57, 57, 57, 57, 57, 57, 57]⟩ : ByteArray)] rfl (by (try simp only [List.map_toArray, List.map_cons, List.map_nil]); first | done | rfl | (simp only [List.length_drop, List.length_take]; rfl)) ?_; (with_reducible refine (nat_Mul.calls (⟨#[57, 57, 57, 57, 57, 57, 57, 57, 57, 57, 57]⟩ : ByteArray) (⟨#[57, 57, 57, 57, 57, 57, 57, 57, 57, 57, 57]⟩ : ByteArray) t101 t102 _ A1.out).mono ?_); rintro e w22 ⟨rfl, hb⟩; refine ⟨_, rfl, ?_⟩; have n0_ := Aside0.mk (below_step (by repeat (first | (with_reducible first | exact HB.out | apply below_alloc | apply pw_below_drewN | apply below_drew1) | exact HB.out)) hb); clear HB; have HB := n0_; clear n0_; (try clear hb); (try clear hb2); (try clear hk); (try clear hi)) | ((with_reducible refine gate_callee (f := 17) rfl ?_); refine goesL_ (some 11) rfl rfl Try.func17 (by kernel_rfl) rfl #[.string (⟨#[49, 48, 48]⟩ : ByteArray), .string (⟨#[55]⟩ : ByteArray)] rfl (by (try simp only [List.map_toArray, List.map_cons, List.map_nil]); first | done | rfl | (simp only [List.length_drop, List.length_take]; rfl)) ?_; (with_reducible refine (nat_Div.calls (⟨#[49, 48, 48]⟩ : ByteArray) (⟨#[55]⟩ : ByteArray) t103 t104 t105 _ A2.out).mono ?_); rintro e w23 ⟨rfl, hb⟩; refine ⟨_, rfl, ?_⟩; have n0_ := Aside0.mk (below_step (by repeat (first | (with_reducible first | exact HB.out | apply below_alloc | apply pw_below_drewN | apply below_drew1) | exact HB.out)) hb); clear HB; have HB := n0_; clear n0_; (try clear hb); (try clear hb2); (try clear hk); (try clear hi)))
        go_ret
        exact ⟨by first | rfl | (simp [errW_none, errW_some] <;> rfl) | (simp [*, errW_none, errW_some] <;> rfl), by repeat (first | (with_reducible first | exact HB.out | apply below_alloc | apply pw_below_drewN | apply below_drew1) | exact HB.out)⟩
    · rw [if_neg c4] at H
      have c4b0 : (t102 == 0) = false := beq_eq_false_iff_ne.mpr c4
      have c4b1 : (t102 != 0) = true := bne_iff_ne.mpr c4
      obtain rfl := Option.some.inj H
      go_enter Try.func15, Try.ntmps15
      go_wp2_with (first | ((with_reducible refine gate_callee (f := 16) rfl ?_); refine goesL_ (some 7) rfl rfl Try.func16 (by kernel_rfl) rfl #[.string (⟨#[57, 57, 57, 57, 57, 57, 57, 57, 57, 57, 57]⟩ : ByteArray), .string (⟨#[57, 57, 57, 57, 57, 57, 57, 57, 57, 57, 57]⟩ : ByteArray)] rfl (by (try simp only [List.map_toArray, List.map_cons, List.map_nil]); first | done | rfl | (simp only [List.length_drop, List.length_take]; rfl)) ?_; (with_reducible refine (nat_Mul.calls (⟨#[57, 57, 57, 57, 57, 57, 57, 57, 57, 57, 57]⟩ : ByteArray) (⟨#[57, 57, 57, 57, 57, 57, 57, 57, 57, 57, 57]⟩ : ByteArray) t101 t102 _ A1.out).mono ?_); rintro e w24 ⟨rfl, hb⟩; refine ⟨_, rfl, ?_⟩; have n0_ := Aside0.mk (below_step (by repeat (first | (with_reducible first | exact HB.out | apply below_alloc | apply pw_below_drewN | apply below_drew1) | exact HB.out)) hb); clear HB; have HB := n0_; clear n0_; (try clear hb); (try clear hb2); (try clear hk); (try clear hi)) | ((with_reducible refine gate_callee (f := 17) rfl ?_); refine goesL_ (some 11) rfl rfl Try.func17 (by kernel_rfl) rfl #[.string (⟨#[49, 48, 48]⟩ : ByteArray), .string (⟨#[55]⟩ : ByteArray)] rfl (by (try simp only [List.map_toArray, List.map_cons, List.map_nil]); first | done | rfl | (simp only [List.length_drop, List.length_take]; rfl)) ?_; (with_reducible refine (nat_Div.calls (⟨#[49, 48, 48]⟩ : ByteArray) (⟨#[55]⟩ : ByteArray) t103 t104 t105 _ A2.out).mono ?_); rintro e w25 ⟨rfl, hb⟩; refine ⟨_, rfl, ?_⟩; have n0_ := Aside0.mk (below_step (by repeat (first | (with_reducible first | exact HB.out | apply below_alloc | apply pw_below_drewN | apply below_drew1) | exact HB.out)) hb); clear HB; have HB := n0_; clear n0_; (try clear hb); (try clear hb2); (try clear hk); (try clear hi)))
      go_ret
      exact ⟨by first | rfl | (simp [errW_none, errW_some] <;> rfl) | (simp [*, errW_none, errW_some] <;> rfl), by repeat (first | (with_reducible first | exact HB.out | apply below_alloc | apply pw_below_drewN | apply below_drew1) | exact HB.out)⟩
  · rw [if_neg c3] at H
    have c3b0 : (t101.toList == ([57, 57, 57, 57, 57, 57, 57, 57, 57, 57, 56, 48, 48, 48, 48, 48, 48, 48, 48, 48, 48, 49] : List UInt8)) = false := beq_eq_false_iff_ne.mpr c3
    have c3b1 : (t101.toList != ([57, 57, 57, 57, 57, 57, 57, 57, 57, 57, 56, 48, 48, 48, 48, 48, 48, 48, 48, 48, 48, 49] : List UInt8)) = true := bne_iff_ne.mpr c3
    obtain rfl := Option.some.inj H
    go_enter Try.func15, Try.ntmps15
    go_wp2_with (first | ((with_reducible refine gate_callee (f := 16) rfl ?_); refine goesL_ (some 7) rfl rfl Try.func16 (by kernel_rfl) rfl #[.string (⟨#[57, 57, 57, 57, 57, 57, 57, 57, 57, 57, 57]⟩ : ByteArray), .string (⟨#[57, 57, 57, 57, 57, 57, 57, 57, 57, 57, 57]⟩ : ByteArray)] rfl (by (try simp only [List.map_toArray, List.map_cons, List.map_nil]); first | done | rfl | (simp only [List.length_drop, List.length_take]; rfl)) ?_; (with_reducible refine (nat_Mul.calls (⟨#[57, 57, 57, 57, 57, 57, 57, 57, 57, 57, 57]⟩ : ByteArray) (⟨#[57, 57, 57, 57, 57, 57, 57, 57, 57, 57, 57]⟩ : ByteArray) t101 t102 _ A1.out).mono ?_); rintro e w26 ⟨rfl, hb⟩; refine ⟨_, rfl, ?_⟩; have n0_ := Aside0.mk (below_step (by repeat (first | (with_reducible first | exact HB.out | apply below_alloc | apply pw_below_drewN | apply below_drew1) | exact HB.out)) hb); clear HB; have HB := n0_; clear n0_; (try clear hb); (try clear hb2); (try clear hk); (try clear hi)) | ((with_reducible refine gate_callee (f := 17) rfl ?_); refine goesL_ (some 11) rfl rfl Try.func17 (by kernel_rfl) rfl #[.string (⟨#[49, 48, 48]⟩ : ByteArray), .string (⟨#[55]⟩ : ByteArray)] rfl (by (try simp only [List.map_toArray, List.map_cons, List.map_nil]); first | done | rfl | (simp only [List.length_drop, List.length_take]; rfl)) ?_; (with_reducible refine (nat_Div.calls (⟨#[49, 48, 48]⟩ : ByteArray) (⟨#[55]⟩ : ByteArray) t103 t104 t105 _ A2.out).mono ?_); rintro e w27 ⟨rfl, hb⟩; refine ⟨_, rfl, ?_⟩; have n0_ := Aside0.mk (below_step (by repeat (first | (with_reducible first | exact HB.out | apply below_alloc | apply pw_below_drewN | apply below_drew1) | exact HB.out)) hb); clear HB; have HB := n0_; clear n0_; (try clear hb); (try clear hb2); (try clear hk); (try clear hi)))
    go_ret
    exact ⟨by first | rfl | (simp [errW_none, errW_some] <;> rfl) | (simp [*, errW_none, errW_some] <;> rfl), by repeat (first | (with_reducible first | exact HB.out | apply below_alloc | apply pw_below_drewN | apply below_drew1) | exact HB.out)⟩

end Go.Proofs.Ytpjpgfaidallhaa.PQ
