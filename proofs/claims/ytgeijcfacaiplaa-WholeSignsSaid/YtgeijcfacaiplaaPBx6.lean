-- by wip/tool/mine.py of this repo (the kit's printer with given contracts)
import Derived.Test.YtgeijcfacaiplaaPBx0
import Derived.Test.YtgeijcfacaiplaaPBx4
import Derived.Test.YtgeijcfacaiplaaPBx5
namespace Go.Proofs.Ytgeijcfacaiplaa.PB
open Go.RowKit Go.Proofs.YtgeijcfacaiplaaW.PrintWords Go.Proofs.YtgeijcfacaiplaaW.PrintLast Go.Proofs.YtgeijcfacaiplaaW.PrintMore
attribute [local go_sem] max2_int min2_int max_two min_two max_three min_three max_four min_four   -- for this text's walks alone
set_option linter.unusedVariables false
set_option linter.unusedSimpArgs false

/-! ### tapewrightref02_Neg: function 18 -/
def tapewrightref02_Neg.f (a0 : ByteArray) : Option (ByteArray) := (tapewrightref02_Size.f a0).bind fun t182 => ((tapewrightref02_Sign.f a0).bind fun t183 => ((tapewrightref02_of.f t182 (wrap64 (-t183))).bind fun t184 => (some t184)))
set_option maxHeartbeats 8000000 in
set_option maxRecDepth 100000 in
theorem tapewrightref02_Neg.calls (a0 : ByteArray) (r : ByteArray) (w : World) (h : tapewrightref02_Neg.f a0 = some r) :
    Calls Try.prog 18 #[.string a0] w fun e w' => e = .returned (.string r) ∧ Drawn0 w w' := by
  have H : ((tapewrightref02_Size.f a0).bind fun t182 => ((tapewrightref02_Sign.f a0).bind fun t183 => ((tapewrightref02_of.f t182 (wrap64 (-t183))).bind fun t184 => (some t184)))) = some r := h
  clear h
  replace H := Option.bind_eq_some_iff.mp H
  obtain ⟨t182, A20, H⟩ := H
  replace H : ((tapewrightref02_Sign.f a0).bind fun t183 => ((tapewrightref02_of.f t182 (wrap64 (-t183))).bind fun t184 => (some t184))) = some r := H
  have A2 := Aside0.mk A20
  clear A20
  replace H := Option.bind_eq_some_iff.mp H
  obtain ⟨t183, A30, H⟩ := H
  replace H : ((tapewrightref02_of.f t182 (wrap64 (-t183))).bind fun t184 => (some t184)) = some r := H
  have A3 := Aside0.mk A30
  clear A30
  replace H := Option.bind_eq_some_iff.mp H
  obtain ⟨t184, A40, H⟩ := H
  replace H : (some t184) = some r := H
  have A4 := Aside0.mk A40
  clear A40
  obtain rfl := Option.some.inj H
  go_enter Try.func18, Try.ntmps18
  go_wp2_with (first | ((with_reducible refine gate_callee (f := 30) rfl ?_); refine goesL_ (some 4) rfl rfl Try.func30 (by kernel_rfl) rfl #[.string a0] rfl (by (try simp only [List.map_toArray, List.map_cons, List.map_nil]); first | done | rfl | (simp only [List.length_drop, List.length_take]; rfl)) ?_; (with_reducible refine (tapewrightref02_Size.calls a0 t182 _ A2.out).mono ?_); rintro e w' ⟨rfl, ⟨nd, rfl⟩⟩; refine ⟨_, rfl, ?_⟩) | ((with_reducible refine gate_callee (f := 25) rfl ?_); refine goesL_ (some 6) rfl rfl Try.func25 (by kernel_rfl) rfl #[.string a0] rfl (by (try simp only [List.map_toArray, List.map_cons, List.map_nil]); first | done | rfl | (simp only [List.length_drop, List.length_take]; rfl)) ?_; (with_reducible refine (tapewrightref02_Sign.calls a0 t183 _ A3.out).mono ?_); rintro e w' ⟨rfl, ⟨nd, rfl⟩⟩; refine ⟨_, rfl, ?_⟩) | ((with_reducible refine gate_callee (f := 31) rfl ?_); refine goesL_ (some 8) rfl rfl Try.func31 (by kernel_rfl) rfl #[.string t182, .int .i64 (wrap64 (-t183))] rfl (by (try simp only [List.map_toArray, List.map_cons, List.map_nil]); first | done | rfl | (simp only [List.length_drop, List.length_take]; rfl)) ?_; (with_reducible refine (tapewrightref02_of.calls t182 (wrap64 (-t183)) t184 _ A4.out).mono ?_); rintro e w' ⟨rfl, ⟨nd, rfl⟩⟩; refine ⟨_, rfl, ?_⟩))
  go_ret
  exact ⟨by first | rfl | (simp; done) | (simp [*]; done), by repeat (first | exact Drawn0.refl _ | apply Drawn0.step)⟩

/-! ### tapewrightref01_Mul: function 35 -/
def tapewrightref01_Mul.f (a0 : ByteArray) (a1 : ByteArray) : Option (ByteArray) := if (Str.right a0 = true ∧ Str.right a1 = true) ∧ Th.Fit a0 ∧ Th.Fit a1 then some (Th.txt (Th.num a0 * Th.num a1)) else none
theorem tapewrightref01_Mul.calls (a0 : ByteArray) (a1 : ByteArray) (r : ByteArray) (w : World) (h : tapewrightref01_Mul.f a0 a1 = some r) :
    Calls Try.prog 35 #[.string a0, .string a1] w fun e w' => e = .returned (.string r) ∧ Below w.heap.size w w' := by
  unfold tapewrightref01_Mul.f at h
  by_cases c : (Str.right a0 = true ∧ Str.right a1 = true) ∧ Th.Fit a0 ∧ Th.Fit a1
  · rw [if_pos c] at h
    obtain ⟨⟨h1, h2⟩, h3⟩ := c
    obtain ⟨m, rfl⟩ := (Th.right_iff a0).1 h1
    obtain ⟨n, rfl⟩ := (Th.right_iff a1).1 h2
    simp only [Th.num_txt] at h h3
    obtain ⟨k, hk⟩ := (Th.Ref.mul_spec m n (Nat.le_trans h3.1 (by decide)) (Nat.le_trans h3.2 (by decide))).rounds
    exact PR.tapewrightref01_Mul.calls k _ _ r w (hk.trans h)
  · rw [if_neg c] at h
    cases h
theorem tapewrightref01_Mul.txt {m n : Nat} (hm : Th.Fit (Th.txt m)) (hn : Th.Fit (Th.txt n)) : tapewrightref01_Mul.f (Th.txt m) (Th.txt n) = some (Th.txt (m * n)) := by
  rw [tapewrightref01_Mul.f, if_pos ⟨⟨Th.right_txt m, Th.right_txt n⟩, hm, hn⟩, Th.num_txt, Th.num_txt]

/-! ### tapewrightref02_Mul: function 19 -/
def tapewrightref02_Mul.f (a0 : ByteArray) (a1 : ByteArray) : Option (ByteArray) := (tapewrightref02_Size.f a0).bind fun t185 => ((tapewrightref02_Size.f a1).bind fun t186 => ((tapewrightref01_Mul.f t185 t186).bind fun t187 => ((tapewrightref02_Sign.f a0).bind fun t188 => ((tapewrightref02_Sign.f a1).bind fun t189 => ((tapewrightref02_of.f t187 (wrap64 (t188 * t189))).bind fun t190 => (some t190))))))
set_option maxHeartbeats 8000000 in
set_option maxRecDepth 100000 in
theorem tapewrightref02_Mul.calls (a0 : ByteArray) (a1 : ByteArray) (r : ByteArray) (w : World) (h : tapewrightref02_Mul.f a0 a1 = some r) :
    Calls Try.prog 19 #[.string a0, .string a1] w fun e w' => e = .returned (.string r) ∧ Below w.heap.size w w' := by
  have HB := Aside0.mk (Below.refl w.heap.size w)
  have H : ((tapewrightref02_Size.f a0).bind fun t185 => ((tapewrightref02_Size.f a1).bind fun t186 => ((tapewrightref01_Mul.f t185 t186).bind fun t187 => ((tapewrightref02_Sign.f a0).bind fun t188 => ((tapewrightref02_Sign.f a1).bind fun t189 => ((tapewrightref02_of.f t187 (wrap64 (t188 * t189))).bind fun t190 => (some t190))))))) = some r := h
  clear h
  replace H := Option.bind_eq_some_iff.mp H
  obtain ⟨t185, A30, H⟩ := H
  replace H : ((tapewrightref02_Size.f a1).bind fun t186 => ((tapewrightref01_Mul.f t185 t186).bind fun t187 => ((tapewrightref02_Sign.f a0).bind fun t188 => ((tapewrightref02_Sign.f a1).bind fun t189 => ((tapewrightref02_of.f t187 (wrap64 (t188 * t189))).bind fun t190 => (some t190)))))) = some r := H
  have A3 := Aside0.mk A30
  clear A30
  replace H := Option.bind_eq_some_iff.mp H
  obtain ⟨t186, A40, H⟩ := H
  replace H : ((tapewrightref01_Mul.f t185 t186).bind fun t187 => ((tapewrightref02_Sign.f a0).bind fun t188 => ((tapewrightref02_Sign.f a1).bind fun t189 => ((tapewrightref02_of.f t187 (wrap64 (t188 * t189))).bind fun t190 => (some t190))))) = some r := H
  have A4 := Aside0.mk A40
  clear A40
  replace H := Option.bind_eq_some_iff.mp H
  obtain ⟨t187, A50, H⟩ := H
  replace H : ((tapewrightref02_Sign.f a0).bind fun t188 => ((tapewrightref02_Sign.f a1).bind fun t189 => ((tapewrightref02_of.f t187 (wrap64 (t188 * t189))).bind fun t190 => (some t190)))) = some r := H
  have A5 := Aside0.mk A50
  clear A50
  replace H := Option.bind_eq_some_iff.mp H
  obtain ⟨t188, A60, H⟩ := H
  replace H : ((tapewrightref02_Sign.f a1).bind fun t189 => ((tapewrightref02_of.f t187 (wrap64 (t188 * t189))).bind fun t190 => (some t190))) = some r := H
  have A6 := Aside0.mk A60
  clear A60
  replace H := Option.bind_eq_some_iff.mp H
  obtain ⟨t189, A70, H⟩ := H
  replace H : ((tapewrightref02_of.f t187 (wrap64 (t188 * t189))).bind fun t190 => (some t190)) = some r := H
  have A7 := Aside0.mk A70
  clear A70
  replace H := Option.bind_eq_some_iff.mp H
  obtain ⟨t190, A80, H⟩ := H
  replace H : (some t190) = some r := H
  have A8 := Aside0.mk A80
  clear A80
  obtain rfl := Option.some.inj H
  go_enter Try.func19, Try.ntmps19
  go_wp2_with (first | ((with_reducible refine gate_callee (f := 30) rfl ?_); refine goesL_ (some 6) rfl rfl Try.func30 (by kernel_rfl) rfl #[.string a0] rfl (by (try simp only [List.map_toArray, List.map_cons, List.map_nil]); first | done | rfl | (simp only [List.length_drop, List.length_take]; rfl)) ?_; (with_reducible refine (tapewrightref02_Size.calls a0 t185 _ A3.out).mono ?_); rintro e w' ⟨rfl, ⟨nd, rfl⟩⟩; refine ⟨_, rfl, ?_⟩) | ((with_reducible refine gate_callee (f := 30) rfl ?_); refine goesL_ (some 8) rfl rfl Try.func30 (by kernel_rfl) rfl #[.string a1] rfl (by (try simp only [List.map_toArray, List.map_cons, List.map_nil]); first | done | rfl | (simp only [List.length_drop, List.length_take]; rfl)) ?_; (with_reducible refine (tapewrightref02_Size.calls a1 t186 _ A4.out).mono ?_); rintro e w' ⟨rfl, ⟨nd, rfl⟩⟩; refine ⟨_, rfl, ?_⟩) | ((with_reducible refine gate_callee (f := 35) rfl ?_); refine goesL_ (some 9) rfl rfl Try.func35 (by kernel_rfl) rfl #[.string t185, .string t186] rfl (by (try simp only [List.map_toArray, List.map_cons, List.map_nil]); first | done | rfl | (simp only [List.length_drop, List.length_take]; rfl)) ?_; (with_reducible refine (tapewrightref01_Mul.calls t185 t186 t187 _ A5.out).mono ?_); rintro e w9 ⟨rfl, hb⟩; refine ⟨_, rfl, ?_⟩; have n0_ := Aside0.mk (below_step (by repeat (first | (with_reducible first | exact HB.out | apply below_alloc | apply pw_below_drewN | apply below_drew1) | exact HB.out)) hb); clear HB; have HB := n0_; clear n0_; (try clear hb); (try clear hb2); (try clear hk); (try clear hi)) | ((with_reducible refine gate_callee (f := 25) rfl ?_); refine goesL_ (some 11) rfl rfl Try.func25 (by kernel_rfl) rfl #[.string a0] rfl (by (try simp only [List.map_toArray, List.map_cons, List.map_nil]); first | done | rfl | (simp only [List.length_drop, List.length_take]; rfl)) ?_; (with_reducible refine (tapewrightref02_Sign.calls a0 t188 _ A6.out).mono ?_); rintro e w' ⟨rfl, ⟨nd, rfl⟩⟩; refine ⟨_, rfl, ?_⟩) | ((with_reducible refine gate_callee (f := 25) rfl ?_); refine goesL_ (some 13) rfl rfl Try.func25 (by kernel_rfl) rfl #[.string a1] rfl (by (try simp only [List.map_toArray, List.map_cons, List.map_nil]); first | done | rfl | (simp only [List.length_drop, List.length_take]; rfl)) ?_; (with_reducible refine (tapewrightref02_Sign.calls a1 t189 _ A7.out).mono ?_); rintro e w' ⟨rfl, ⟨nd, rfl⟩⟩; refine ⟨_, rfl, ?_⟩) | ((with_reducible refine gate_callee (f := 31) rfl ?_); refine goesL_ (some 15) rfl rfl Try.func31 (by kernel_rfl) rfl #[.string t187, .int .i64 (wrap64 (t188 * t189))] rfl (by (try simp only [List.map_toArray, List.map_cons, List.map_nil]); first | done | rfl | (simp only [List.length_drop, List.length_take]; rfl)) ?_; (with_reducible refine (tapewrightref02_of.calls t187 (wrap64 (t188 * t189)) t190 _ A8.out).mono ?_); rintro e w' ⟨rfl, ⟨nd, rfl⟩⟩; refine ⟨_, rfl, ?_⟩))
  go_ret
  exact ⟨by first | rfl | (simp [errW_none, errW_some] <;> rfl) | (simp [*, errW_none, errW_some] <;> rfl), by repeat (first | (with_reducible first | exact HB.out | apply below_alloc | apply pw_below_drewN | apply below_drew1) | exact HB.out)⟩

/-! ### tapewrightref01_Right: function 37 -/
def tapewrightref01_Right.f (a0 : ByteArray) : Option Bool := if a0.size ≤ 140737488351232 then some (Str.right a0) else none
theorem tapewrightref01_Right.calls (a0 : ByteArray) (r : Bool) (w : World) (h : tapewrightref01_Right.f a0 = some r) :
    Calls Try.prog 37 #[.string a0] w fun e w' => e = .returned (.bool r) ∧ Drawn0 w w' := by
  unfold tapewrightref01_Right.f at h
  by_cases c : a0.size ≤ 140737488351232
  · rw [if_pos c] at h
    obtain ⟨k, hk⟩ := (Th.Ref.right_spec a0 c).rounds
    exact PR.tapewrightref01_Right.calls k a0 r w (hk.trans h)
  · rw [if_neg c] at h
    cases h

/-! ### tapewrightref02_Right: function 24 -/
def tapewrightref02_Right.f (a0 : ByteArray) : Option (Bool) := (tapewrightref02_Size.f a0).bind fun t191 => ((tapewrightref01_Right.f t191).bind fun t192 => (if t192 = true then (some (a0.toList != ([45, 48] : List UInt8))) else (some false)))
set_option maxHeartbeats 8000000 in
set_option maxRecDepth 100000 in
theorem tapewrightref02_Right.calls (a0 : ByteArray) (r : Bool) (w : World) (h : tapewrightref02_Right.f a0 = some r) :
    Calls Try.prog 24 #[.string a0] w fun e w' => e = .returned (.bool r) ∧ Drawn0 w w' := by
  have H : ((tapewrightref02_Size.f a0).bind fun t191 => ((tapewrightref01_Right.f t191).bind fun t192 => (if t192 = true then (some (a0.toList != ([45, 48] : List UInt8))) else (some false)))) = some r := h
  clear h
  replace H := Option.bind_eq_some_iff.mp H
  obtain ⟨t191, A20, H⟩ := H
  replace H : ((tapewrightref01_Right.f t191).bind fun t192 => (if t192 = true then (some (a0.toList != ([45, 48] : List UInt8))) else (some false))) = some r := H
  have A2 := Aside0.mk A20
  clear A20
  replace H := Option.bind_eq_some_iff.mp H
  obtain ⟨t192, A30, H⟩ := H
  replace H : (if t192 = true then (some (a0.toList != ([45, 48] : List UInt8))) else (some false)) = some r := H
  have A3 := Aside0.mk A30
  clear A30
  by_cases c4 : t192 = true
  · subst c4
    have H1 : (some (a0.toList != ([45, 48] : List UInt8))) = some r := by rw [if_pos rfl] at H; exact H
    clear H
    have H := H1
    clear H1
    obtain rfl := Option.some.inj H
    go_enter Try.func24, Try.ntmps24
    go_wp2_with (first | ((with_reducible refine gate_callee (f := 30) rfl ?_); refine goesL_ (some 4) rfl rfl Try.func30 (by kernel_rfl) rfl #[.string a0] rfl (by (try simp only [List.map_toArray, List.map_cons, List.map_nil]); first | done | rfl | (simp only [List.length_drop, List.length_take]; rfl)) ?_; (with_reducible refine (tapewrightref02_Size.calls a0 t191 _ A2.out).mono ?_); rintro e w' ⟨rfl, ⟨nd, rfl⟩⟩; refine ⟨_, rfl, ?_⟩) | ((with_reducible refine gate_callee (f := 37) rfl ?_); refine goesL_ (some 5) rfl rfl Try.func37 (by kernel_rfl) rfl #[.string t191] rfl (by (try simp only [List.map_toArray, List.map_cons, List.map_nil]); first | done | rfl | (simp only [List.length_drop, List.length_take]; rfl)) ?_; (with_reducible refine (tapewrightref01_Right.calls t191 true _ A3.out).mono ?_); rintro e w' ⟨rfl, ⟨nd, rfl⟩⟩; refine ⟨_, rfl, ?_⟩))
    go_ret
    exact ⟨by first | rfl | (simp; done) | (simp [*]; done), by repeat (first | exact Drawn0.refl _ | apply Drawn0.step)⟩
  · replace c4 := Bool.eq_false_iff.mpr c4
    subst c4
    have H1 : (some false) = some r := by rw [if_neg (show ¬ (false = true) by decide)] at H; exact H
    clear H
    have H := H1
    clear H1
    obtain rfl := Option.some.inj H
    go_enter Try.func24, Try.ntmps24
    go_wp2_with (first | ((with_reducible refine gate_callee (f := 30) rfl ?_); refine goesL_ (some 4) rfl rfl Try.func30 (by kernel_rfl) rfl #[.string a0] rfl (by (try simp only [List.map_toArray, List.map_cons, List.map_nil]); first | done | rfl | (simp only [List.length_drop, List.length_take]; rfl)) ?_; (with_reducible refine (tapewrightref02_Size.calls a0 t191 _ A2.out).mono ?_); rintro e w' ⟨rfl, ⟨nd, rfl⟩⟩; refine ⟨_, rfl, ?_⟩) | ((with_reducible refine gate_callee (f := 37) rfl ?_); refine goesL_ (some 5) rfl rfl Try.func37 (by kernel_rfl) rfl #[.string t191] rfl (by (try simp only [List.map_toArray, List.map_cons, List.map_nil]); first | done | rfl | (simp only [List.length_drop, List.length_take]; rfl)) ?_; (with_reducible refine (tapewrightref01_Right.calls t191 false _ A3.out).mono ?_); rintro e w' ⟨rfl, ⟨nd, rfl⟩⟩; refine ⟨_, rfl, ?_⟩))
    go_ret
    exact ⟨by first | rfl | (simp; done) | (simp [*]; done), by repeat (first | exact Drawn0.refl _ | apply Drawn0.step)⟩

/-- THE ONE PURE STATEMENT of tapewrightref02_Right: yours. -/
def tapewrightref02_Right.Pure : Prop := ∀ (a0 : ByteArray), a0.size ≤ 140737488351232 → tapewrightref02_Right.f a0 = some true
theorem tapewrightref02_Right.walk (P : tapewrightref02_Right.Pure) (a0 : ByteArray) (w : World) (w0 : a0.size ≤ 140737488351232) :
    Calls Try.prog 24 #[.string a0] w fun e w' => e = .returned (.bool true) ∧ Below w.heap.size w w' := by
  have h := P a0 w0
  refine (tapewrightref02_Right.calls a0 true w h).mono ?_
  rintro e w' ⟨rfl, hd⟩
  exact ⟨rfl, hd.below⟩

end Go.Proofs.Ytgeijcfacaiplaa.PB
