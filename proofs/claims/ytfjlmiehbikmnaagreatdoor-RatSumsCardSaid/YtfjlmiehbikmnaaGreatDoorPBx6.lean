-- by wip/tool/mine.py of this repo (the kit's printer with given contracts)
import Derived.Test.YtfjlmiehbikmnaaGreatDoorPBx0
import Derived.Test.YtfjlmiehbikmnaaGreatDoorPBx1
import Derived.Test.YtfjlmiehbikmnaaGreatDoorPBx4
import Derived.Test.YtfjlmiehbikmnaaGreatDoorPBx5
namespace Go.Proofs.YtfjlmiehbikmnaaGreatDoor.PB
set_option maxHeartbeats 8000000
set_option maxRecDepth 100000
open Go.RowKit Go.Proofs.YtfjlmiehbikmnaaGreatDoorW.PrintWords Go.Proofs.YtfjlmiehbikmnaaGreatDoorW.PrintLast Go.Proofs.YtfjlmiehbikmnaaGreatDoorW.PrintMore
attribute [local go_sem] max2_int min2_int max_two min_two max_three min_three max_four min_four   -- for this text's walks alone
set_option linter.unusedVariables false
set_option linter.unusedSimpArgs false

/-! ### tapewrightref02_Neg: function 42 -/
def tapewrightref02_Neg.f (a0 : ByteArray) : Option (ByteArray) := (tapewrightref02_Size.f a0).bind fun t178 => ((tapewrightref02_Sign.f a0).bind fun t179 => ((tapewrightref02_of.f t178 (wrap64 (-t179))).bind fun t180 => (some t180)))
theorem tapewrightref02_Neg.calls (a0 : ByteArray) (r : ByteArray) (w : World) (h : tapewrightref02_Neg.f a0 = some r) :
  Calls Tryz.prog 42 #[.string a0] w fun e w' => e = .returned (.string r) ∧ Drawn0 w w' := by
 have H : ((tapewrightref02_Size.f a0).bind fun t178 => ((tapewrightref02_Sign.f a0).bind fun t179 => ((tapewrightref02_of.f t178 (wrap64 (-t179))).bind fun t180 => (some t180)))) = some r := h
 clear h
 replace H := Option.bind_eq_some_iff.mp H
 obtain ⟨t178, A20, H⟩ := H
 replace H : ((tapewrightref02_Sign.f a0).bind fun t179 => ((tapewrightref02_of.f t178 (wrap64 (-t179))).bind fun t180 => (some t180))) = some r := H
 have A2 := Aside0.mk A20
 clear A20
 replace H := Option.bind_eq_some_iff.mp H
 obtain ⟨t179, A30, H⟩ := H
 replace H : ((tapewrightref02_of.f t178 (wrap64 (-t179))).bind fun t180 => (some t180)) = some r := H
 have A3 := Aside0.mk A30
 clear A30
 replace H := Option.bind_eq_some_iff.mp H
 obtain ⟨t180, A40, H⟩ := H
 replace H : (some t180) = some r := H
 have A4 := Aside0.mk A40
 clear A40
 obtain rfl := Option.some.inj H
 go_enter Tryz.func42, Tryz.ntmps42
 go_wp2_with (first | ((with_reducible refine gate_callee (f := 27) rfl ?_); refine goesL_ (some 4) rfl rfl Tryz.func27 (by kernel_rfl) rfl #[.string a0] rfl T2_ ?_; (with_reducible refine (tapewrightref02_Size.calls a0 t178 _ A2.out).mono ?_); rintro e w' ⟨rfl, ⟨nd, rfl⟩⟩; refine ⟨_, rfl, ?_⟩) | ((with_reducible refine gate_callee (f := 25) rfl ?_); refine goesL_ (some 6) rfl rfl Tryz.func25 (by kernel_rfl) rfl #[.string a0] rfl T2_ ?_; (with_reducible refine (tapewrightref02_Sign.calls a0 t179 _ A3.out).mono ?_); rintro e w' ⟨rfl, ⟨nd, rfl⟩⟩; refine ⟨_, rfl, ?_⟩) | ((with_reducible refine gate_callee (f := 31) rfl ?_); refine goesL_ (some 8) rfl rfl Tryz.func31 (by kernel_rfl) rfl #[.string t178, .int .i64 (wrap64 (-t179))] rfl T2_ ?_; (with_reducible refine (tapewrightref02_of.calls t178 (wrap64 (-t179)) t180 _ A4.out).mono ?_); rintro e w' ⟨rfl, ⟨nd, rfl⟩⟩; refine ⟨_, rfl, ?_⟩))
 go_ret
 exact ⟨by first | rfl | (simp; done) | (simp [*]; done), by repeat (first | exact Drawn0.refl _ | apply Drawn0.step)⟩
/-! ### tapewrightref01_Mul: function 32 -/
def tapewrightref01_Mul.f (a0 : ByteArray) (a1 : ByteArray) : Option (ByteArray) := if (Str.right a0 = true ∧ Str.right a1 = true) ∧ Th.Fit a0 ∧ Th.Fit a1 then some (Th.txt (Th.num a0 * Th.num a1)) else none
theorem tapewrightref01_Mul.calls (a0 : ByteArray) (a1 : ByteArray) (r : ByteArray) (w : World) (h : tapewrightref01_Mul.f a0 a1 = some r) :
  Calls Tryz.prog 32 #[.string a0, .string a1] w fun e w' => e = .returned (.string r) ∧ Below w.heap.size w w' := by
 unfold tapewrightref01_Mul.f at h
 by_cases c : (Str.right a0 = true ∧ Str.right a1 = true) ∧ Th.Fit a0 ∧ Th.Fit a1
 ·
  rw [if_pos c] at h
  obtain ⟨⟨h1, h2⟩, h3⟩ := c
  obtain ⟨m, rfl⟩ := (Th.right_iff a0).1 h1
  obtain ⟨n, rfl⟩ := (Th.right_iff a1).1 h2
  simp only [Th.num_txt] at h h3
  obtain ⟨k, hk⟩ := (Th.Ref.mul_spec m n (Nat.le_trans h3.1 (by decide)) (Nat.le_trans h3.2 (by decide))).rounds
  exact PR.tapewrightref01_Mul.calls k _ _ r w (hk.trans h)
 ·
  rw [if_neg c] at h
  cases h
theorem tapewrightref01_Mul.txt {m n : Nat} (hm : Th.Fit (Th.txt m)) (hn : Th.Fit (Th.txt n)) : tapewrightref01_Mul.f (Th.txt m) (Th.txt n) = some (Th.txt (m * n)) := by
 rw [tapewrightref01_Mul.f, if_pos ⟨⟨Th.right_txt m, Th.right_txt n⟩, hm, hn⟩, Th.num_txt, Th.num_txt]
/-! ### tapewrightref02_Mul: function 9 -/
def tapewrightref02_Mul.f (a0 : ByteArray) (a1 : ByteArray) : Option (ByteArray) := (tapewrightref02_Size.f a0).bind fun t181 => ((tapewrightref02_Size.f a1).bind fun t182 => ((tapewrightref01_Mul.f t181 t182).bind fun t183 => ((tapewrightref02_Sign.f a0).bind fun t184 => ((tapewrightref02_Sign.f a1).bind fun t185 => ((tapewrightref02_of.f t183 (wrap64 (t184 * t185))).bind fun t186 => (some t186))))))
theorem tapewrightref02_Mul.calls (a0 : ByteArray) (a1 : ByteArray) (r : ByteArray) (w : World) (h : tapewrightref02_Mul.f a0 a1 = some r) :
  Calls Tryz.prog 9 #[.string a0, .string a1] w fun e w' => e = .returned (.string r) ∧ Below w.heap.size w w' := by
 have HB := Aside0.mk (Below.refl w.heap.size w)
 have H : ((tapewrightref02_Size.f a0).bind fun t181 => ((tapewrightref02_Size.f a1).bind fun t182 => ((tapewrightref01_Mul.f t181 t182).bind fun t183 => ((tapewrightref02_Sign.f a0).bind fun t184 => ((tapewrightref02_Sign.f a1).bind fun t185 => ((tapewrightref02_of.f t183 (wrap64 (t184 * t185))).bind fun t186 => (some t186))))))) = some r := h
 clear h
 replace H := Option.bind_eq_some_iff.mp H
 obtain ⟨t181, A30, H⟩ := H
 replace H : ((tapewrightref02_Size.f a1).bind fun t182 => ((tapewrightref01_Mul.f t181 t182).bind fun t183 => ((tapewrightref02_Sign.f a0).bind fun t184 => ((tapewrightref02_Sign.f a1).bind fun t185 => ((tapewrightref02_of.f t183 (wrap64 (t184 * t185))).bind fun t186 => (some t186)))))) = some r := H
 have A3 := Aside0.mk A30
 clear A30
 replace H := Option.bind_eq_some_iff.mp H
 obtain ⟨t182, A40, H⟩ := H
 replace H : ((tapewrightref01_Mul.f t181 t182).bind fun t183 => ((tapewrightref02_Sign.f a0).bind fun t184 => ((tapewrightref02_Sign.f a1).bind fun t185 => ((tapewrightref02_of.f t183 (wrap64 (t184 * t185))).bind fun t186 => (some t186))))) = some r := H
 have A4 := Aside0.mk A40
 clear A40
 replace H := Option.bind_eq_some_iff.mp H
 obtain ⟨t183, A50, H⟩ := H
 replace H : ((tapewrightref02_Sign.f a0).bind fun t184 => ((tapewrightref02_Sign.f a1).bind fun t185 => ((tapewrightref02_of.f t183 (wrap64 (t184 * t185))).bind fun t186 => (some t186)))) = some r := H
 have A5 := Aside0.mk A50
 clear A50
 replace H := Option.bind_eq_some_iff.mp H
 obtain ⟨t184, A60, H⟩ := H
 replace H : ((tapewrightref02_Sign.f a1).bind fun t185 => ((tapewrightref02_of.f t183 (wrap64 (t184 * t185))).bind fun t186 => (some t186))) = some r := H
 have A6 := Aside0.mk A60
 clear A60
 replace H := Option.bind_eq_some_iff.mp H
 obtain ⟨t185, A70, H⟩ := H
 replace H : ((tapewrightref02_of.f t183 (wrap64 (t184 * t185))).bind fun t186 => (some t186)) = some r := H
 have A7 := Aside0.mk A70
 clear A70
 replace H := Option.bind_eq_some_iff.mp H
 obtain ⟨t186, A80, H⟩ := H
 replace H : (some t186) = some r := H
 have A8 := Aside0.mk A80
 clear A80
 obtain rfl := Option.some.inj H
 go_enter Tryz.func9, Tryz.ntmps9
 go_wp2_with (first | ((with_reducible refine gate_callee (f := 27) rfl ?_); refine goesL_ (some 6) rfl rfl Tryz.func27 (by kernel_rfl) rfl #[.string a0] rfl T2_ ?_; (with_reducible refine (tapewrightref02_Size.calls a0 t181 _ A3.out).mono ?_); rintro e w' ⟨rfl, ⟨nd, rfl⟩⟩; refine ⟨_, rfl, ?_⟩) | ((with_reducible refine gate_callee (f := 27) rfl ?_); refine goesL_ (some 8) rfl rfl Tryz.func27 (by kernel_rfl) rfl #[.string a1] rfl T2_ ?_; (with_reducible refine (tapewrightref02_Size.calls a1 t182 _ A4.out).mono ?_); rintro e w' ⟨rfl, ⟨nd, rfl⟩⟩; refine ⟨_, rfl, ?_⟩) | ((with_reducible refine gate_callee (f := 32) rfl ?_); refine goesL_ (some 9) rfl rfl Tryz.func32 (by kernel_rfl) rfl #[.string t181, .string t182] rfl T2_ ?_; (with_reducible refine (tapewrightref01_Mul.calls t181 t182 t183 _ A5.out).mono ?_); rintro e w9 ⟨rfl, hb⟩; refine ⟨_, rfl, ?_⟩; replace HB := Aside0.mk (below_step T1_ hb); clear hb) | ((with_reducible refine gate_callee (f := 25) rfl ?_); refine goesL_ (some 11) rfl rfl Tryz.func25 (by kernel_rfl) rfl #[.string a0] rfl T2_ ?_; (with_reducible refine (tapewrightref02_Sign.calls a0 t184 _ A6.out).mono ?_); rintro e w' ⟨rfl, ⟨nd, rfl⟩⟩; refine ⟨_, rfl, ?_⟩) | ((with_reducible refine gate_callee (f := 25) rfl ?_); refine goesL_ (some 13) rfl rfl Tryz.func25 (by kernel_rfl) rfl #[.string a1] rfl T2_ ?_; (with_reducible refine (tapewrightref02_Sign.calls a1 t185 _ A7.out).mono ?_); rintro e w' ⟨rfl, ⟨nd, rfl⟩⟩; refine ⟨_, rfl, ?_⟩) | ((with_reducible refine gate_callee (f := 31) rfl ?_); refine goesL_ (some 15) rfl rfl Tryz.func31 (by kernel_rfl) rfl #[.string t183, .int .i64 (wrap64 (t184 * t185))] rfl T2_ ?_; (with_reducible refine (tapewrightref02_of.calls t183 (wrap64 (t184 * t185)) t186 _ A8.out).mono ?_); rintro e w' ⟨rfl, ⟨nd, rfl⟩⟩; refine ⟨_, rfl, ?_⟩))
 go_ret
 exact ⟨T4_, T1_⟩
/-! ### tapewrightref01_Right: function 26 -/
def tapewrightref01_Right.f (a0 : ByteArray) : Option Bool := if a0.size ≤ 140737488351232 then some (Str.right a0) else none
theorem tapewrightref01_Right.calls (a0 : ByteArray) (r : Bool) (w : World) (h : tapewrightref01_Right.f a0 = some r) :
  Calls Tryz.prog 26 #[.string a0] w fun e w' => e = .returned (.bool r) ∧ Drawn0 w w' := by
 unfold tapewrightref01_Right.f at h
 by_cases c : a0.size ≤ 140737488351232
 ·
  rw [if_pos c] at h
  obtain ⟨k, hk⟩ := (Th.Ref.right_spec a0 c).rounds
  exact PR.tapewrightref01_Right.calls k a0 r w (hk.trans h)
 ·
  rw [if_neg c] at h
  cases h
/-! ### tapewrightref02_Right: function 6 -/
def tapewrightref02_Right.f (a0 : ByteArray) : Option (Bool) := (tapewrightref02_Size.f a0).bind fun t187 => ((tapewrightref01_Right.f t187).bind fun t188 => (if t188 = true then (some (a0.toList != ([45, 48] : List UInt8))) else (some false)))
theorem tapewrightref02_Right.calls (a0 : ByteArray) (r : Bool) (w : World) (h : tapewrightref02_Right.f a0 = some r) :
  Calls Tryz.prog 6 #[.string a0] w fun e w' => e = .returned (.bool r) ∧ Drawn0 w w' := by
 have H : ((tapewrightref02_Size.f a0).bind fun t187 => ((tapewrightref01_Right.f t187).bind fun t188 => (if t188 = true then (some (a0.toList != ([45, 48] : List UInt8))) else (some false)))) = some r := h
 clear h
 replace H := Option.bind_eq_some_iff.mp H
 obtain ⟨t187, A20, H⟩ := H
 replace H : ((tapewrightref01_Right.f t187).bind fun t188 => (if t188 = true then (some (a0.toList != ([45, 48] : List UInt8))) else (some false))) = some r := H
 have A2 := Aside0.mk A20
 clear A20
 replace H := Option.bind_eq_some_iff.mp H
 obtain ⟨t188, A30, H⟩ := H
 replace H : (if t188 = true then (some (a0.toList != ([45, 48] : List UInt8))) else (some false)) = some r := H
 have A3 := Aside0.mk A30
 clear A30
 by_cases c4 : t188 = true
 ·
  subst c4
  rw [if_pos rfl] at H
  obtain rfl := Option.some.inj H
  go_enter Tryz.func6, Tryz.ntmps6
  go_wp2_with (first | ((with_reducible refine gate_callee (f := 27) rfl ?_); refine goesL_ (some 4) rfl rfl Tryz.func27 (by kernel_rfl) rfl #[.string a0] rfl T2_ ?_; (with_reducible refine (tapewrightref02_Size.calls a0 t187 _ A2.out).mono ?_); rintro e w' ⟨rfl, ⟨nd, rfl⟩⟩; refine ⟨_, rfl, ?_⟩) | ((with_reducible refine gate_callee (f := 26) rfl ?_); refine goesL_ (some 5) rfl rfl Tryz.func26 (by kernel_rfl) rfl #[.string t187] rfl T2_ ?_; (with_reducible refine (tapewrightref01_Right.calls t187 true _ A3.out).mono ?_); rintro e w' ⟨rfl, ⟨nd, rfl⟩⟩; refine ⟨_, rfl, ?_⟩))
  go_ret
  exact ⟨by first | rfl | (simp; done) | (simp [*]; done), by repeat (first | exact Drawn0.refl _ | apply Drawn0.step)⟩
 ·
  replace c4 := Bool.eq_false_iff.mpr c4
  subst c4
  rw [if_neg (show ¬ (false = true) by decide)] at H
  obtain rfl := Option.some.inj H
  go_enter Tryz.func6, Tryz.ntmps6
  go_wp2_with (first | ((with_reducible refine gate_callee (f := 27) rfl ?_); refine goesL_ (some 4) rfl rfl Tryz.func27 (by kernel_rfl) rfl #[.string a0] rfl T2_ ?_; (with_reducible refine (tapewrightref02_Size.calls a0 t187 _ A2.out).mono ?_); rintro e w' ⟨rfl, ⟨nd, rfl⟩⟩; refine ⟨_, rfl, ?_⟩) | ((with_reducible refine gate_callee (f := 26) rfl ?_); refine goesL_ (some 5) rfl rfl Tryz.func26 (by kernel_rfl) rfl #[.string t187] rfl T2_ ?_; (with_reducible refine (tapewrightref01_Right.calls t187 false _ A3.out).mono ?_); rintro e w' ⟨rfl, ⟨nd, rfl⟩⟩; refine ⟨_, rfl, ?_⟩))
  go_ret
  exact ⟨by first | rfl | (simp; done) | (simp [*]; done), by repeat (first | exact Drawn0.refl _ | apply Drawn0.step)⟩
/-- THE ONE PURE STATEMENT of tapewrightref02_Right: yours. -/
def tapewrightref02_Right.Pure : Prop := ∀ (a0 : ByteArray), a0.size ≤ 140737488351232 → tapewrightref02_Right.f a0 = some true
theorem tapewrightref02_Right.walk (P : tapewrightref02_Right.Pure) (a0 : ByteArray) (w : World) (w0 : a0.size ≤ 140737488351232) :
  Calls Tryz.prog 6 #[.string a0] w fun e w' => e = .returned (.bool true) ∧ Below w.heap.size w w' := by
 have h := P a0 w0
 refine (tapewrightref02_Right.calls a0 true w h).mono ?_
 rintro e w' ⟨rfl, hd⟩
 exact ⟨rfl, hd.below⟩
/-! ### strings_HasPrefix: function 50 -/
def strings_HasPrefix.f (a0 : ByteArray) (a1 : ByteArray) : Option (Bool) := (stringslite_HasPrefix.f a0 a1).bind fun t189 => (some t189)
theorem strings_HasPrefix.calls (a0 : ByteArray) (a1 : ByteArray) (r : Bool) (w : World) (h : strings_HasPrefix.f a0 a1 = some r) :
  Calls Tryz.prog 50 #[.string a0, .string a1] w fun e w' => e = .returned (.bool r) ∧ Drawn0 w w' := by
 have H : ((stringslite_HasPrefix.f a0 a1).bind fun t189 => (some t189)) = some r := h
 clear h
 replace H := Option.bind_eq_some_iff.mp H
 obtain ⟨t189, A30, H⟩ := H
 replace H : (some t189) = some r := H
 have A3 := Aside0.mk A30
 clear A30
 obtain rfl := Option.some.inj H
 go_enter Tryz.func50, Tryz.ntmps50
 go_wp2_with (first | ((with_reducible refine gate_callee (f := 70) rfl ?_); refine goesL_ (some 7) rfl rfl Tryz.func70 (by kernel_rfl) rfl #[.string a0, .string a1] rfl T2_ ?_; (with_reducible refine (stringslite_HasPrefix.calls a0 a1 t189 _ A3.out).mono ?_); rintro e w' ⟨rfl, ⟨nd, rfl⟩⟩; refine ⟨_, rfl, ?_⟩))
 go_ret
 exact ⟨by first | rfl | (simp; done) | (simp [*]; done), by repeat (first | exact Drawn0.refl _ | apply Drawn0.step)⟩
/-- THE ONE PURE STATEMENT of strings_HasPrefix: yours. -/
def strings_HasPrefix.Pure : Prop := ∀ (a0 : ByteArray) (a1 : ByteArray), a0.size ≤ 140737488351232 → a1.size ≤ 140737488351232 → strings_HasPrefix.f a0 a1 = some true
theorem strings_HasPrefix.walk (P : strings_HasPrefix.Pure) (a0 : ByteArray) (a1 : ByteArray) (w : World) (w0 : a0.size ≤ 140737488351232) (w1 : a1.size ≤ 140737488351232) :
  Calls Tryz.prog 50 #[.string a0, .string a1] w fun e w' => e = .returned (.bool true) ∧ Below w.heap.size w w' := by
 have h := P a0 a1 w0 w1
 refine (strings_HasPrefix.calls a0 a1 true w h).mono ?_
 rintro e w' ⟨rfl, hd⟩
 exact ⟨rfl, hd.below⟩
/-! ### stringslite_TrimPrefix: function 89 -/
def stringslite_TrimPrefix.f (a0 : ByteArray) (a1 : ByteArray) : Option (ByteArray) := (stringslite_HasPrefix.f a0 a1).bind fun t190 => (if t190 = true then (if 0 ≤ (a1.size : Int) then (if (a1.size : Int) ≤ (a0.size : Int) then (some (a0.extract ((a1.size : Int) : Int).toNat a0.size)) else (none)) else (none)) else (some a0))
theorem stringslite_TrimPrefix.calls (a0 : ByteArray) (a1 : ByteArray) (r : ByteArray) (w : World) (h : stringslite_TrimPrefix.f a0 a1 = some r) :
  Calls Tryz.prog 89 #[.string a0, .string a1] w fun e w' => e = .returned (.string r) ∧ Drawn0 w w' := by
 have H : ((stringslite_HasPrefix.f a0 a1).bind fun t190 => (if t190 = true then (if 0 ≤ (a1.size : Int) then (if (a1.size : Int) ≤ (a0.size : Int) then (some (a0.extract ((a1.size : Int) : Int).toNat a0.size)) else (none)) else (none)) else (some a0))) = some r := h
 clear h
 replace H := Option.bind_eq_some_iff.mp H
 obtain ⟨t190, A30, H⟩ := H
 replace H : (if t190 = true then (if 0 ≤ (a1.size : Int) then (if (a1.size : Int) ≤ (a0.size : Int) then (some (a0.extract ((a1.size : Int) : Int).toNat a0.size)) else (none)) else (none)) else (some a0)) = some r := H
 have A3 := Aside0.mk A30
 clear A30
 by_cases c4 : t190 = true
 ·
  subst c4
  rw [if_pos rfl] at H
  by_cases c5 : 0 ≤ (a1.size : Int)
  ·
   rw [if_pos c5] at H
   have c5b0 := eq_true c5
   have c5b1 : decide (0 ≤ (a1.size : Int)) = true := decide_eq_true c5
   clear c5
   by_cases c6 : (a1.size : Int) ≤ (a0.size : Int)
   ·
    rw [if_pos c6] at H
    have c6b0 := eq_true c6
    have c6b1 : decide ((a1.size : Int) ≤ (a0.size : Int)) = true := decide_eq_true c6
    clear c6
    obtain rfl := Option.some.inj H
    go_enter Tryz.func89, Tryz.ntmps89
    go_wp2_with (first | ((with_reducible refine gate_callee (f := 70) rfl ?_); refine goesL_ (some 7) rfl rfl Tryz.func70 (by kernel_rfl) rfl #[.string a0, .string a1] rfl T2_ ?_; (with_reducible refine (stringslite_HasPrefix.calls a0 a1 true _ A3.out).mono ?_); rintro e w' ⟨rfl, ⟨nd, rfl⟩⟩; refine ⟨_, rfl, ?_⟩))
    go_ret
    exact ⟨by first | rfl | (simp; done) | (simp [*]; done), by repeat (first | exact Drawn0.refl _ | apply Drawn0.step)⟩
   ·
    rw [if_neg c6] at H
    exact absurd H (by simp)
  ·
   rw [if_neg c5] at H
   exact absurd H (by simp)
 ·
  replace c4 := Bool.eq_false_iff.mpr c4
  subst c4
  rw [if_neg (show ¬ (false = true) by decide)] at H
  obtain rfl := Option.some.inj H
  go_enter Tryz.func89, Tryz.ntmps89
  go_wp2_with (first | ((with_reducible refine gate_callee (f := 70) rfl ?_); refine goesL_ (some 7) rfl rfl Tryz.func70 (by kernel_rfl) rfl #[.string a0, .string a1] rfl T2_ ?_; (with_reducible refine (stringslite_HasPrefix.calls a0 a1 false _ A3.out).mono ?_); rintro e w' ⟨rfl, ⟨nd, rfl⟩⟩; refine ⟨_, rfl, ?_⟩))
  go_ret
  exact ⟨by first | rfl | (simp; done) | (simp [*]; done), by repeat (first | exact Drawn0.refl _ | apply Drawn0.step)⟩
/-! ### strings_TrimPrefix: function 71 -/
def strings_TrimPrefix.f (a0 : ByteArray) (a1 : ByteArray) : Option (ByteArray) := (stringslite_TrimPrefix.f a0 a1).bind fun t191 => (some t191)
theorem strings_TrimPrefix.calls (a0 : ByteArray) (a1 : ByteArray) (r : ByteArray) (w : World) (h : strings_TrimPrefix.f a0 a1 = some r) :
  Calls Tryz.prog 71 #[.string a0, .string a1] w fun e w' => e = .returned (.string r) ∧ Drawn0 w w' := by
 have H : ((stringslite_TrimPrefix.f a0 a1).bind fun t191 => (some t191)) = some r := h
 clear h
 replace H := Option.bind_eq_some_iff.mp H
 obtain ⟨t191, A30, H⟩ := H
 replace H : (some t191) = some r := H
 have A3 := Aside0.mk A30
 clear A30
 obtain rfl := Option.some.inj H
 go_enter Tryz.func71, Tryz.ntmps71
 go_wp2_with (first | ((with_reducible refine gate_callee (f := 89) rfl ?_); refine goesL_ (some 7) rfl rfl Tryz.func89 (by kernel_rfl) rfl #[.string a0, .string a1] rfl T2_ ?_; (with_reducible refine (stringslite_TrimPrefix.calls a0 a1 t191 _ A3.out).mono ?_); rintro e w' ⟨rfl, ⟨nd, rfl⟩⟩; refine ⟨_, rfl, ?_⟩))
 go_ret
 exact ⟨by first | rfl | (simp; done) | (simp [*]; done), by repeat (first | exact Drawn0.refl _ | apply Drawn0.step)⟩
end Go.Proofs.YtfjlmiehbikmnaaGreatDoor.PB
