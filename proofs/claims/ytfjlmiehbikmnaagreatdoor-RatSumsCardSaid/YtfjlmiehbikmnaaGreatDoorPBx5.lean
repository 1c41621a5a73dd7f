-- by wip/tool/mine.py of this repo (the kit's printer with given contracts)
import Derived.Test.YtfjlmiehbikmnaaGreatDoorPBx0
import Derived.Test.YtfjlmiehbikmnaaGreatDoorPBx4
namespace Go.Proofs.YtfjlmiehbikmnaaGreatDoor.PB
set_option maxHeartbeats 8000000
set_option maxRecDepth 100000
open Go.RowKit Go.Proofs.YtfjlmiehbikmnaaGreatDoorW.PrintWords Go.Proofs.YtfjlmiehbikmnaaGreatDoorW.PrintLast Go.Proofs.YtfjlmiehbikmnaaGreatDoorW.PrintMore
attribute [local go_sem] max2_int min2_int max_two min_two max_three min_three max_four min_four   -- for this text's walks alone
set_option linter.unusedVariables false
set_option linter.unusedSimpArgs false

/-! ### tapewrightref02_Size: function 27 -/
def tapewrightref02_Size.f (a0 : ByteArray) : Option (ByteArray) := if (a0.size : Int) > 0 then (if 0 < (a0.size : Int) then (if (bt a0 0) = 45 then (if 1 ≤ (a0.size : Int) then (some (a0.extract 1 a0.size)) else (none)) else (some a0)) else (none)) else (some a0)
theorem tapewrightref02_Size.calls (a0 : ByteArray) (r : ByteArray) (w : World) (h : tapewrightref02_Size.f a0 = some r) :
  Calls Tryz.prog 27 #[.string a0] w fun e w' => e = .returned (.string r) ∧ Drawn0 w w' := by
 have H : (if (a0.size : Int) > 0 then (if 0 < (a0.size : Int) then (if (bt a0 0) = 45 then (if 1 ≤ (a0.size : Int) then (some (a0.extract 1 a0.size)) else (none)) else (some a0)) else (none)) else (some a0)) = some r := h
 clear h
 by_cases c2 : (a0.size : Int) > 0
 ·
  rw [if_pos c2] at H
  have c2b0 : decide (0 < (a0.size : Int)) = true := decide_eq_true c2
  have c2b1 : decide (0 < a0.size) = true := decide_eq_true (by omega)
  clear c2
  by_cases c3 : 0 < (a0.size : Int)
  ·
   rw [if_pos c3] at H
   have c3b0 : decide (0 < (a0.size : Int)) = true := decide_eq_true c3
   have c3b1 : decide (0 < a0.size) = true := decide_eq_true (by omega)
   clear c3
   by_cases c5 : (bt a0 0) = 45
   ·
    rw [if_pos c5] at H
    have c5b0 : ((bt a0 0) == 45) = true := beq_iff_eq.mpr c5
    have c5b1 : ((bt a0 0) != 45) = false := bne_eq_false_iff_eq.mpr c5
    clear c5
    by_cases c6 : 1 ≤ (a0.size : Int)
    ·
     rw [if_pos c6] at H
     have c6b0 := eq_true c6
     have c6b1 : decide (1 ≤ (a0.size : Int)) = true := decide_eq_true c6
     clear c6
     obtain rfl := Option.some.inj H
     have p4 : 0 ≤ (0 : Int) := (by omega)
     have q4 : 0 < a0.size := (by have : (0 : Int) < (a0.size : Int) := of_decide_eq_true (by first | (with_reducible assumption) | assumption); omega)
     have hx4 : ∀ h : 0 < a0.size, ((a0[0]'h).toNat : Int) = bt a0 0 := bt_at a0 0
     clear p4
     have qi4 : (0 < (a0.size : Int)) = True := eq_true (of_decide_eq_true (by first | (with_reducible assumption) | assumption))
     replace q4 := eq_true q4
     go_enter Tryz.func27, Tryz.ntmps27
     go_wp2
     go_ret
     exact ⟨by first | rfl | (simp; done) | (simp [*]; done), by repeat (first | exact Drawn0.refl _ | apply Drawn0.step)⟩
    ·
     rw [if_neg c6] at H
     exact absurd H (by simp)
   ·
    rw [if_neg c5] at H
    have c5b0 : ((bt a0 0) == 45) = false := beq_eq_false_iff_ne.mpr c5
    have c5b1 : ((bt a0 0) != 45) = true := bne_iff_ne.mpr c5
    obtain rfl := Option.some.inj H
    have p4 : 0 ≤ (0 : Int) := (by omega)
    have q4 : 0 < a0.size := (by have : (0 : Int) < (a0.size : Int) := of_decide_eq_true (by first | (with_reducible assumption) | assumption); omega)
    have hx4 : ∀ h : 0 < a0.size, ((a0[0]'h).toNat : Int) = bt a0 0 := bt_at a0 0
    clear p4
    have qi4 : (0 < (a0.size : Int)) = True := eq_true (of_decide_eq_true (by first | (with_reducible assumption) | assumption))
    replace q4 := eq_true q4
    go_enter Tryz.func27, Tryz.ntmps27
    go_wp2
    go_ret
    exact ⟨by first | rfl | (simp; done) | (simp [*]; done), by repeat (first | exact Drawn0.refl _ | apply Drawn0.step)⟩
  ·
   rw [if_neg c3] at H
   exact absurd H (by simp)
 ·
  rw [if_neg c2] at H
  have c2b0 : decide (0 < (a0.size : Int)) = false := decide_eq_false c2
  have c2b1 : decide (0 < a0.size) = false := decide_eq_false (by omega)
  clear c2
  obtain rfl := Option.some.inj H
  go_enter Tryz.func27, Tryz.ntmps27
  go_wp2
  go_ret
  exact ⟨by first | rfl | (simp; done) | (simp [*]; done), by repeat (first | exact Drawn0.refl _ | apply Drawn0.step)⟩
/-! ### tapewrightref02_of: function 31 -/
def tapewrightref02_of.f (a0 : ByteArray) (a1 : Int) : Option (ByteArray) := if a1 < 0 then (if a0.toList = ([48] : List UInt8) then (some a0) else (if 1 + a0.size ≤ 9223372036854775807 then (some ((⟨#[45]⟩ : ByteArray) ++ a0)) else (none))) else (some a0)
theorem tapewrightref02_of.calls (a0 : ByteArray) (a1 : Int) (r : ByteArray) (w : World) (h : tapewrightref02_of.f a0 a1 = some r) :
  Calls Tryz.prog 31 #[.string a0, .int .i64 a1] w fun e w' => e = .returned (.string r) ∧ Drawn0 w w' := by
 have H : (if a1 < 0 then (if a0.toList = ([48] : List UInt8) then (some a0) else (if 1 + a0.size ≤ 9223372036854775807 then (some ((⟨#[45]⟩ : ByteArray) ++ a0)) else (none))) else (some a0)) = some r := h
 clear h
 by_cases c3 : a1 < 0
 ·
  rw [if_pos c3] at H
  have c3b0 : decide (a1 < 0) = true := decide_eq_true c3
  clear c3
  by_cases c4 : a0.toList = ([48] : List UInt8)
  ·
   rw [if_pos c4] at H
   have c4b0 : (a0.toList == ([48] : List UInt8)) = true := beq_iff_eq.mpr c4
   have c4b1 : (a0.toList != ([48] : List UInt8)) = false := bne_eq_false_iff_eq.mpr c4
   clear c4
   obtain rfl := Option.some.inj H
   go_enter Tryz.func31, Tryz.ntmps31
   go_wp2
   go_ret
   exact ⟨by first | rfl | (simp; done) | (simp [*]; done), by repeat (first | exact Drawn0.refl _ | apply Drawn0.step)⟩
  ·
   rw [if_neg c4] at H
   have c4b0 : (a0.toList == ([48] : List UInt8)) = false := beq_eq_false_iff_ne.mpr c4
   have c4b1 : (a0.toList != ([48] : List UInt8)) = true := bne_iff_ne.mpr c4
   by_cases c5 : 1 + a0.size ≤ 9223372036854775807
   ·
    rw [if_pos c5] at H
    have c5b0 := eq_true c5
    have c5b1 : decide (1 + a0.size ≤ 9223372036854775807) = true := decide_eq_true c5
    try have c5b2 : (9223372036854775807 < 1 + a0.size) = False := eq_false (Nat.not_lt.2 c5)
    obtain rfl := Option.some.inj H
    go_enter Tryz.func31, Tryz.ntmps31
    go_wp2
    go_ret
    exact ⟨by first | rfl | (simp; done) | (simp [*]; done), by repeat (first | exact Drawn0.refl _ | apply Drawn0.step)⟩
   ·
    rw [if_neg c5] at H
    exact absurd H (by simp)
 ·
  rw [if_neg c3] at H
  have c3b0 : decide (a1 < 0) = false := decide_eq_false c3
  clear c3
  obtain rfl := Option.some.inj H
  go_enter Tryz.func31, Tryz.ntmps31
  go_wp2
  go_ret
  exact ⟨by first | rfl | (simp; done) | (simp [*]; done), by repeat (first | exact Drawn0.refl _ | apply Drawn0.step)⟩
/-! ### tapewrightref01_Add: function 61 -/
def tapewrightref01_Add.f (a0 : ByteArray) (a1 : ByteArray) : Option (ByteArray) := if (Str.right a0 = true ∧ Str.right a1 = true) ∧ Th.Fit a0 ∧ Th.Fit a1 then some (Th.txt (Th.num a0 + Th.num a1)) else none
theorem tapewrightref01_Add.calls (a0 : ByteArray) (a1 : ByteArray) (r : ByteArray) (w : World) (h : tapewrightref01_Add.f a0 a1 = some r) :
  Calls Tryz.prog 61 #[.string a0, .string a1] w fun e w' => e = .returned (.string r) ∧ Below w.heap.size w w' := by
 unfold tapewrightref01_Add.f at h
 by_cases c : (Str.right a0 = true ∧ Str.right a1 = true) ∧ Th.Fit a0 ∧ Th.Fit a1
 ·
  rw [if_pos c] at h
  obtain ⟨⟨h1, h2⟩, h3⟩ := c
  obtain ⟨m, rfl⟩ := (Th.right_iff a0).1 h1
  obtain ⟨n, rfl⟩ := (Th.right_iff a1).1 h2
  simp only [Th.num_txt] at h h3
  obtain ⟨k, hk⟩ := (Th.Ref.add_spec m n (Nat.le_trans h3.1 (by decide)) (Nat.le_trans h3.2 (by decide))).rounds
  exact PR.tapewrightref01_Add.calls k _ _ r w (hk.trans h)
 ·
  rw [if_neg c] at h
  cases h
theorem tapewrightref01_Add.txt {m n : Nat} (hm : Th.Fit (Th.txt m)) (hn : Th.Fit (Th.txt n)) : tapewrightref01_Add.f (Th.txt m) (Th.txt n) = some (Th.txt (m + n)) := by
 rw [tapewrightref01_Add.f, if_pos ⟨⟨Th.right_txt m, Th.right_txt n⟩, hm, hn⟩, Th.num_txt, Th.num_txt]
/-! ### tapewrightref01_Compare: function 62 -/
def tapewrightref01_Compare.f (a0 : ByteArray) (a1 : ByteArray) : Option (Int) := if (Str.right a0 = true ∧ Str.right a1 = true) ∧ Th.Fit a0 ∧ Th.Fit a1 then some (Th.Ref.cmpN (Th.num a0) (Th.num a1)) else none
theorem tapewrightref01_Compare.calls (a0 : ByteArray) (a1 : ByteArray) (r : Int) (w : World) (h : tapewrightref01_Compare.f a0 a1 = some r) :
  Calls Tryz.prog 62 #[.string a0, .string a1] w fun e w' => e = .returned (.int .i64 r) ∧ Drawn0 w w' := by
 unfold tapewrightref01_Compare.f at h
 by_cases c : (Str.right a0 = true ∧ Str.right a1 = true) ∧ Th.Fit a0 ∧ Th.Fit a1
 ·
  rw [if_pos c] at h
  obtain ⟨⟨h1, h2⟩, h3⟩ := c
  obtain ⟨m, rfl⟩ := (Th.right_iff a0).1 h1
  obtain ⟨n, rfl⟩ := (Th.right_iff a1).1 h2
  simp only [Th.num_txt] at h h3
  exact PR.tapewrightref01_Compare.calls _ _ r w ((Th.Ref.compare_spec m n).trans h)
 ·
  rw [if_neg c] at h
  cases h
theorem tapewrightref01_Compare.txt {m n : Nat} (hm : Th.Fit (Th.txt m)) (hn : Th.Fit (Th.txt n)) : tapewrightref01_Compare.f (Th.txt m) (Th.txt n) = some (Th.Ref.cmpN m n) := by
 rw [tapewrightref01_Compare.f, if_pos ⟨⟨Th.right_txt m, Th.right_txt n⟩, hm, hn⟩, Th.num_txt, Th.num_txt]
/-! ### tapewrightref01_Sub: function 63 -/
def tapewrightref01_Sub.f (a0 : ByteArray) (a1 : ByteArray) : Option (ByteArray) := if (Str.right a0 = true ∧ Str.right a1 = true) ∧ Th.Fit a0 ∧ Th.Fit a1 ∧ Th.num a1 ≤ Th.num a0 then some (Th.txt (Th.num a0 - Th.num a1)) else none
theorem tapewrightref01_Sub.calls (a0 : ByteArray) (a1 : ByteArray) (r : ByteArray) (w : World) (h : tapewrightref01_Sub.f a0 a1 = some r) :
  Calls Tryz.prog 63 #[.string a0, .string a1] w fun e w' => e = .returned (.string r) ∧ Below w.heap.size w w' := by
 unfold tapewrightref01_Sub.f at h
 by_cases c : (Str.right a0 = true ∧ Str.right a1 = true) ∧ Th.Fit a0 ∧ Th.Fit a1 ∧ Th.num a1 ≤ Th.num a0
 ·
  rw [if_pos c] at h
  obtain ⟨⟨h1, h2⟩, h3⟩ := c
  obtain ⟨m, rfl⟩ := (Th.right_iff a0).1 h1
  obtain ⟨n, rfl⟩ := (Th.right_iff a1).1 h2
  simp only [Th.num_txt] at h h3
  obtain ⟨k, hk⟩ := (Th.Ref.sub_spec m n h3.2.2 (Nat.le_trans h3.1 (by decide))).rounds
  exact PR.tapewrightref01_Sub.calls k _ _ r w (hk.trans h)
 ·
  rw [if_neg c] at h
  cases h
theorem tapewrightref01_Sub.txt {m n : Nat} (hm : Th.Fit (Th.txt m)) (hn : Th.Fit (Th.txt n)) (h : n ≤ m) : tapewrightref01_Sub.f (Th.txt m) (Th.txt n) = some (Th.txt (m - n)) := by
 rw [tapewrightref01_Sub.f, if_pos ⟨⟨Th.right_txt m, Th.right_txt n⟩, hm, hn, by rw [Th.num_txt, Th.num_txt]; exact h⟩, Th.num_txt, Th.num_txt]
/-! ### tapewrightref02_Add: function 41 -/
def tapewrightref02_Add.f (a0 : ByteArray) (a1 : ByteArray) : Option (ByteArray) := (tapewrightref02_Size.f a0).bind fun t163 => ((tapewrightref02_Size.f a1).bind fun t164 => ((tapewrightref02_Sign.f a0).bind fun t165 => ((tapewrightref02_Sign.f a1).bind fun t166 => (if (wrap64 (t165 * t166)) ≥ 0 then ((tapewrightref01_Add.f t163 t164).bind fun t167 => ((tapewrightref02_Sign.f a0).bind fun t168 => ((tapewrightref02_Sign.f a1).bind fun t169 => ((tapewrightref02_of.f t167 (wrap64 (t168 + t169))).bind fun t170 => (some t170))))) else ((tapewrightref01_Compare.f t163 t164).bind fun t171 => (if t171 ≥ 0 then ((tapewrightref01_Sub.f t163 t164).bind fun t172 => ((tapewrightref02_Sign.f a0).bind fun t173 => ((tapewrightref02_of.f t172 t173).bind fun t174 => (some t174)))) else ((tapewrightref01_Sub.f t164 t163).bind fun t175 => ((tapewrightref02_Sign.f a1).bind fun t176 => ((tapewrightref02_of.f t175 t176).bind fun t177 => (some t177))))))))))
theorem tapewrightref02_Add.calls (a0 : ByteArray) (a1 : ByteArray) (r : ByteArray) (w : World) (h : tapewrightref02_Add.f a0 a1 = some r) :
  Calls Tryz.prog 41 #[.string a0, .string a1] w fun e w' => e = .returned (.string r) ∧ Below w.heap.size w w' := by
 have HB := Aside0.mk (Below.refl w.heap.size w)
 have H : ((tapewrightref02_Size.f a0).bind fun t163 => ((tapewrightref02_Size.f a1).bind fun t164 => ((tapewrightref02_Sign.f a0).bind fun t165 => ((tapewrightref02_Sign.f a1).bind fun t166 => (if (wrap64 (t165 * t166)) ≥ 0 then ((tapewrightref01_Add.f t163 t164).bind fun t167 => ((tapewrightref02_Sign.f a0).bind fun t168 => ((tapewrightref02_Sign.f a1).bind fun t169 => ((tapewrightref02_of.f t167 (wrap64 (t168 + t169))).bind fun t170 => (some t170))))) else ((tapewrightref01_Compare.f t163 t164).bind fun t171 => (if t171 ≥ 0 then ((tapewrightref01_Sub.f t163 t164).bind fun t172 => ((tapewrightref02_Sign.f a0).bind fun t173 => ((tapewrightref02_of.f t172 t173).bind fun t174 => (some t174)))) else ((tapewrightref01_Sub.f t164 t163).bind fun t175 => ((tapewrightref02_Sign.f a1).bind fun t176 => ((tapewrightref02_of.f t175 t176).bind fun t177 => (some t177))))))))))) = some r := h
 clear h
 replace H := Option.bind_eq_some_iff.mp H
 obtain ⟨t163, A30, H⟩ := H
 replace H : ((tapewrightref02_Size.f a1).bind fun t164 => ((tapewrightref02_Sign.f a0).bind fun t165 => ((tapewrightref02_Sign.f a1).bind fun t166 => (if (wrap64 (t165 * t166)) ≥ 0 then ((tapewrightref01_Add.f t163 t164).bind fun t167 => ((tapewrightref02_Sign.f a0).bind fun t168 => ((tapewrightref02_Sign.f a1).bind fun t169 => ((tapewrightref02_of.f t167 (wrap64 (t168 + t169))).bind fun t170 => (some t170))))) else ((tapewrightref01_Compare.f t163 t164).bind fun t171 => (if t171 ≥ 0 then ((tapewrightref01_Sub.f t163 t164).bind fun t172 => ((tapewrightref02_Sign.f a0).bind fun t173 => ((tapewrightref02_of.f t172 t173).bind fun t174 => (some t174)))) else ((tapewrightref01_Sub.f t164 t163).bind fun t175 => ((tapewrightref02_Sign.f a1).bind fun t176 => ((tapewrightref02_of.f t175 t176).bind fun t177 => (some t177)))))))))) = some r := H
 have A3 := Aside0.mk A30
 clear A30
 replace H := Option.bind_eq_some_iff.mp H
 obtain ⟨t164, A40, H⟩ := H
 replace H : ((tapewrightref02_Sign.f a0).bind fun t165 => ((tapewrightref02_Sign.f a1).bind fun t166 => (if (wrap64 (t165 * t166)) ≥ 0 then ((tapewrightref01_Add.f t163 t164).bind fun t167 => ((tapewrightref02_Sign.f a0).bind fun t168 => ((tapewrightref02_Sign.f a1).bind fun t169 => ((tapewrightref02_of.f t167 (wrap64 (t168 + t169))).bind fun t170 => (some t170))))) else ((tapewrightref01_Compare.f t163 t164).bind fun t171 => (if t171 ≥ 0 then ((tapewrightref01_Sub.f t163 t164).bind fun t172 => ((tapewrightref02_Sign.f a0).bind fun t173 => ((tapewrightref02_of.f t172 t173).bind fun t174 => (some t174)))) else ((tapewrightref01_Sub.f t164 t163).bind fun t175 => ((tapewrightref02_Sign.f a1).bind fun t176 => ((tapewrightref02_of.f t175 t176).bind fun t177 => (some t177))))))))) = some r := H
 have A4 := Aside0.mk A40
 clear A40
 replace H := Option.bind_eq_some_iff.mp H
 obtain ⟨t165, A50, H⟩ := H
 replace H : ((tapewrightref02_Sign.f a1).bind fun t166 => (if (wrap64 (t165 * t166)) ≥ 0 then ((tapewrightref01_Add.f t163 t164).bind fun t167 => ((tapewrightref02_Sign.f a0).bind fun t168 => ((tapewrightref02_Sign.f a1).bind fun t169 => ((tapewrightref02_of.f t167 (wrap64 (t168 + t169))).bind fun t170 => (some t170))))) else ((tapewrightref01_Compare.f t163 t164).bind fun t171 => (if t171 ≥ 0 then ((tapewrightref01_Sub.f t163 t164).bind fun t172 => ((tapewrightref02_Sign.f a0).bind fun t173 => ((tapewrightref02_of.f t172 t173).bind fun t174 => (some t174)))) else ((tapewrightref01_Sub.f t164 t163).bind fun t175 => ((tapewrightref02_Sign.f a1).bind fun t176 => ((tapewrightref02_of.f t175 t176).bind fun t177 => (some t177)))))))) = some r := H
 have A5 := Aside0.mk A50
 clear A50
 replace H := Option.bind_eq_some_iff.mp H
 obtain ⟨t166, A60, H⟩ := H
 replace H : (if (wrap64 (t165 * t166)) ≥ 0 then ((tapewrightref01_Add.f t163 t164).bind fun t167 => ((tapewrightref02_Sign.f a0).bind fun t168 => ((tapewrightref02_Sign.f a1).bind fun t169 => ((tapewrightref02_of.f t167 (wrap64 (t168 + t169))).bind fun t170 => (some t170))))) else ((tapewrightref01_Compare.f t163 t164).bind fun t171 => (if t171 ≥ 0 then ((tapewrightref01_Sub.f t163 t164).bind fun t172 => ((tapewrightref02_Sign.f a0).bind fun t173 => ((tapewrightref02_of.f t172 t173).bind fun t174 => (some t174)))) else ((tapewrightref01_Sub.f t164 t163).bind fun t175 => ((tapewrightref02_Sign.f a1).bind fun t176 => ((tapewrightref02_of.f t175 t176).bind fun t177 => (some t177))))))) = some r := H
 have A6 := Aside0.mk A60
 clear A60
 by_cases c7 : (wrap64 (t165 * t166)) ≥ 0
 ·
  rw [if_pos c7] at H
  have c7b0 : decide (0 ≤ (wrap64 (t165 * t166))) = true := decide_eq_true c7
  clear c7
  replace H := Option.bind_eq_some_iff.mp H
  obtain ⟨t167, A80, H⟩ := H
  replace H : ((tapewrightref02_Sign.f a0).bind fun t168 => ((tapewrightref02_Sign.f a1).bind fun t169 => ((tapewrightref02_of.f t167 (wrap64 (t168 + t169))).bind fun t170 => (some t170)))) = some r := H
  have A8 := Aside0.mk A80
  clear A80
  replace H := Option.bind_eq_some_iff.mp H
  obtain ⟨t168, A90, H⟩ := H
  replace H : ((tapewrightref02_Sign.f a1).bind fun t169 => ((tapewrightref02_of.f t167 (wrap64 (t168 + t169))).bind fun t170 => (some t170))) = some r := H
  have A9 := Aside0.mk A90
  clear A90
  replace H := Option.bind_eq_some_iff.mp H
  obtain ⟨t169, A100, H⟩ := H
  replace H : ((tapewrightref02_of.f t167 (wrap64 (t168 + t169))).bind fun t170 => (some t170)) = some r := H
  have A10 := Aside0.mk A100
  clear A100
  replace H := Option.bind_eq_some_iff.mp H
  obtain ⟨t170, A110, H⟩ := H
  replace H : (some t170) = some r := H
  have A11 := Aside0.mk A110
  clear A110
  obtain rfl := Option.some.inj H
  go_enter Tryz.func41, Tryz.ntmps41
  go_wp2_with (first | ((with_reducible refine gate_callee (f := 27) rfl ?_); refine goesL_ (some 8) rfl rfl Tryz.func27 (by kernel_rfl) rfl #[.string a0] rfl T2_ ?_; (with_reducible refine (tapewrightref02_Size.calls a0 t163 _ A3.out).mono ?_); rintro e w' ⟨rfl, ⟨nd, rfl⟩⟩; refine ⟨_, rfl, ?_⟩) | ((with_reducible refine gate_callee (f := 27) rfl ?_); refine goesL_ (some 10) rfl rfl Tryz.func27 (by kernel_rfl) rfl #[.string a1] rfl T2_ ?_; (with_reducible refine (tapewrightref02_Size.calls a1 t164 _ A4.out).mono ?_); rintro e w' ⟨rfl, ⟨nd, rfl⟩⟩; refine ⟨_, rfl, ?_⟩) | ((with_reducible refine gate_callee (f := 25) rfl ?_); refine goesL_ (some 12) rfl rfl Tryz.func25 (by kernel_rfl) rfl #[.string a0] rfl T2_ ?_; (with_reducible refine (tapewrightref02_Sign.calls a0 t165 _ A5.out).mono ?_); rintro e w' ⟨rfl, ⟨nd, rfl⟩⟩; refine ⟨_, rfl, ?_⟩) | ((with_reducible refine gate_callee (f := 25) rfl ?_); refine goesL_ (some 14) rfl rfl Tryz.func25 (by kernel_rfl) rfl #[.string a1] rfl T2_ ?_; (with_reducible refine (tapewrightref02_Sign.calls a1 t166 _ A6.out).mono ?_); rintro e w' ⟨rfl, ⟨nd, rfl⟩⟩; refine ⟨_, rfl, ?_⟩) | ((with_reducible refine gate_callee (f := 61) rfl ?_); refine goesL_ (some 19) rfl rfl Tryz.func61 (by kernel_rfl) rfl #[.string t163, .string t164] rfl T2_ ?_; (with_reducible refine (tapewrightref01_Add.calls t163 t164 t167 _ A8.out).mono ?_); rintro e w12 ⟨rfl, hb⟩; refine ⟨_, rfl, ?_⟩; replace HB := Aside0.mk (below_step T1_ hb); clear hb) | ((with_reducible refine gate_callee (f := 25) rfl ?_); refine goesL_ (some 21) rfl rfl Tryz.func25 (by kernel_rfl) rfl #[.string a0] rfl T2_ ?_; (with_reducible refine (tapewrightref02_Sign.calls a0 t168 _ A9.out).mono ?_); rintro e w' ⟨rfl, ⟨nd, rfl⟩⟩; refine ⟨_, rfl, ?_⟩) | ((with_reducible refine gate_callee (f := 25) rfl ?_); refine goesL_ (some 23) rfl rfl Tryz.func25 (by kernel_rfl) rfl #[.string a1] rfl T2_ ?_; (with_reducible refine (tapewrightref02_Sign.calls a1 t169 _ A10.out).mono ?_); rintro e w' ⟨rfl, ⟨nd, rfl⟩⟩; refine ⟨_, rfl, ?_⟩) | ((with_reducible refine gate_callee (f := 31) rfl ?_); refine goesL_ (some 25) rfl rfl Tryz.func31 (by kernel_rfl) rfl #[.string t167, .int .i64 (wrap64 (t168 + t169))] rfl T2_ ?_; (with_reducible refine (tapewrightref02_of.calls t167 (wrap64 (t168 + t169)) t170 _ A11.out).mono ?_); rintro e w' ⟨rfl, ⟨nd, rfl⟩⟩; refine ⟨_, rfl, ?_⟩))
  go_ret
  exact ⟨T4_, T1_⟩
 ·
  rw [if_neg c7] at H
  have c7b0 : decide (0 ≤ (wrap64 (t165 * t166))) = false := decide_eq_false c7
  clear c7
  replace H := Option.bind_eq_some_iff.mp H
  obtain ⟨t171, A130, H⟩ := H
  replace H : (if t171 ≥ 0 then ((tapewrightref01_Sub.f t163 t164).bind fun t172 => ((tapewrightref02_Sign.f a0).bind fun t173 => ((tapewrightref02_of.f t172 t173).bind fun t174 => (some t174)))) else ((tapewrightref01_Sub.f t164 t163).bind fun t175 => ((tapewrightref02_Sign.f a1).bind fun t176 => ((tapewrightref02_of.f t175 t176).bind fun t177 => (some t177))))) = some r := H
  have A13 := Aside0.mk A130
  clear A130
  by_cases c14 : t171 ≥ 0
  ·
   rw [if_pos c14] at H
   have c14b0 : decide (0 ≤ t171) = true := decide_eq_true c14
   clear c14
   replace H := Option.bind_eq_some_iff.mp H
   obtain ⟨t172, A150, H⟩ := H
   replace H : ((tapewrightref02_Sign.f a0).bind fun t173 => ((tapewrightref02_of.f t172 t173).bind fun t174 => (some t174))) = some r := H
   have A15 := Aside0.mk A150
   clear A150
   replace H := Option.bind_eq_some_iff.mp H
   obtain ⟨t173, A160, H⟩ := H
   replace H : ((tapewrightref02_of.f t172 t173).bind fun t174 => (some t174)) = some r := H
   have A16 := Aside0.mk A160
   clear A160
   replace H := Option.bind_eq_some_iff.mp H
   obtain ⟨t174, A170, H⟩ := H
   replace H : (some t174) = some r := H
   have A17 := Aside0.mk A170
   clear A170
   obtain rfl := Option.some.inj H
   go_enter Tryz.func41, Tryz.ntmps41
   go_wp2_with (first | ((with_reducible refine gate_callee (f := 27) rfl ?_); refine goesL_ (some 8) rfl rfl Tryz.func27 (by kernel_rfl) rfl #[.string a0] rfl T2_ ?_; (with_reducible refine (tapewrightref02_Size.calls a0 t163 _ A3.out).mono ?_); rintro e w' ⟨rfl, ⟨nd, rfl⟩⟩; refine ⟨_, rfl, ?_⟩) | ((with_reducible refine gate_callee (f := 27) rfl ?_); refine goesL_ (some 10) rfl rfl Tryz.func27 (by kernel_rfl) rfl #[.string a1] rfl T2_ ?_; (with_reducible refine (tapewrightref02_Size.calls a1 t164 _ A4.out).mono ?_); rintro e w' ⟨rfl, ⟨nd, rfl⟩⟩; refine ⟨_, rfl, ?_⟩) | ((with_reducible refine gate_callee (f := 25) rfl ?_); refine goesL_ (some 12) rfl rfl Tryz.func25 (by kernel_rfl) rfl #[.string a0] rfl T2_ ?_; (with_reducible refine (tapewrightref02_Sign.calls a0 t165 _ A5.out).mono ?_); rintro e w' ⟨rfl, ⟨nd, rfl⟩⟩; refine ⟨_, rfl, ?_⟩) | ((with_reducible refine gate_callee (f := 25) rfl ?_); refine goesL_ (some 14) rfl rfl Tryz.func25 (by kernel_rfl) rfl #[.string a1] rfl T2_ ?_; (with_reducible refine (tapewrightref02_Sign.calls a1 t166 _ A6.out).mono ?_); rintro e w' ⟨rfl, ⟨nd, rfl⟩⟩; refine ⟨_, rfl, ?_⟩) | ((with_reducible refine gate_callee (f := 62) rfl ?_); refine goesL_ (some 28) rfl rfl Tryz.func62 (by kernel_rfl) rfl #[.string t163, .string t164] rfl T2_ ?_; (with_reducible refine (tapewrightref01_Compare.calls t163 t164 t171 _ A13.out).mono ?_); rintro e w' ⟨rfl, ⟨nd, rfl⟩⟩; refine ⟨_, rfl, ?_⟩) | ((with_reducible refine gate_callee (f := 63) rfl ?_); refine goesL_ (some 32) rfl rfl Tryz.func63 (by kernel_rfl) rfl #[.string t163, .string t164] rfl T2_ ?_; (with_reducible refine (tapewrightref01_Sub.calls t163 t164 t172 _ A15.out).mono ?_); rintro e w18 ⟨rfl, hb⟩; refine ⟨_, rfl, ?_⟩; replace HB := Aside0.mk (below_step T1_ hb); clear hb) | ((with_reducible refine gate_callee (f := 25) rfl ?_); refine goesL_ (some 34) rfl rfl Tryz.func25 (by kernel_rfl) rfl #[.string a0] rfl T2_ ?_; (with_reducible refine (tapewrightref02_Sign.calls a0 t173 _ A16.out).mono ?_); rintro e w' ⟨rfl, ⟨nd, rfl⟩⟩; refine ⟨_, rfl, ?_⟩) | ((with_reducible refine gate_callee (f := 31) rfl ?_); refine goesL_ (some 35) rfl rfl Tryz.func31 (by kernel_rfl) rfl #[.string t172, .int .i64 t173] rfl T2_ ?_; (with_reducible refine (tapewrightref02_of.calls t172 t173 t174 _ A17.out).mono ?_); rintro e w' ⟨rfl, ⟨nd, rfl⟩⟩; refine ⟨_, rfl, ?_⟩))
   go_ret
   exact ⟨T4_, T1_⟩
  ·
   rw [if_neg c14] at H
   have c14b0 : decide (0 ≤ t171) = false := decide_eq_false c14
   clear c14
   replace H := Option.bind_eq_some_iff.mp H
   obtain ⟨t175, A190, H⟩ := H
   replace H : ((tapewrightref02_Sign.f a1).bind fun t176 => ((tapewrightref02_of.f t175 t176).bind fun t177 => (some t177))) = some r := H
   have A19 := Aside0.mk A190
   clear A190
   replace H := Option.bind_eq_some_iff.mp H
   obtain ⟨t176, A200, H⟩ := H
   replace H : ((tapewrightref02_of.f t175 t176).bind fun t177 => (some t177)) = some r := H
   have A20 := Aside0.mk A200
   clear A200
   replace H := Option.bind_eq_some_iff.mp H
   obtain ⟨t177, A210, H⟩ := H
   replace H : (some t177) = some r := H
   have A21 := Aside0.mk A210
   clear A210
   obtain rfl := Option.some.inj H
   go_enter Tryz.func41, Tryz.ntmps41
   go_wp2_with (first | ((with_reducible refine gate_callee (f := 27) rfl ?_); refine goesL_ (some 8) rfl rfl Tryz.func27 (by kernel_rfl) rfl #[.string a0] rfl T2_ ?_; (with_reducible refine (tapewrightref02_Size.calls a0 t163 _ A3.out).mono ?_); rintro e w' ⟨rfl, ⟨nd, rfl⟩⟩; refine ⟨_, rfl, ?_⟩) | ((with_reducible refine gate_callee (f := 27) rfl ?_); refine goesL_ (some 10) rfl rfl Tryz.func27 (by kernel_rfl) rfl #[.string a1] rfl T2_ ?_; (with_reducible refine (tapewrightref02_Size.calls a1 t164 _ A4.out).mono ?_); rintro e w' ⟨rfl, ⟨nd, rfl⟩⟩; refine ⟨_, rfl, ?_⟩) | ((with_reducible refine gate_callee (f := 25) rfl ?_); refine goesL_ (some 12) rfl rfl Tryz.func25 (by kernel_rfl) rfl #[.string a0] rfl T2_ ?_; (with_reducible refine (tapewrightref02_Sign.calls a0 t165 _ A5.out).mono ?_); rintro e w' ⟨rfl, ⟨nd, rfl⟩⟩; refine ⟨_, rfl, ?_⟩) | ((with_reducible refine gate_callee (f := 25) rfl ?_); refine goesL_ (some 14) rfl rfl Tryz.func25 (by kernel_rfl) rfl #[.string a1] rfl T2_ ?_; (with_reducible refine (tapewrightref02_Sign.calls a1 t166 _ A6.out).mono ?_); rintro e w' ⟨rfl, ⟨nd, rfl⟩⟩; refine ⟨_, rfl, ?_⟩) | ((with_reducible refine gate_callee (f := 62) rfl ?_); refine goesL_ (some 28) rfl rfl Tryz.func62 (by kernel_rfl) rfl #[.string t163, .string t164] rfl T2_ ?_; (with_reducible refine (tapewrightref01_Compare.calls t163 t164 t171 _ A13.out).mono ?_); rintro e w' ⟨rfl, ⟨nd, rfl⟩⟩; refine ⟨_, rfl, ?_⟩) | ((with_reducible refine gate_callee (f := 63) rfl ?_); refine goesL_ (some 38) rfl rfl Tryz.func63 (by kernel_rfl) rfl #[.string t164, .string t163] rfl T2_ ?_; (with_reducible refine (tapewrightref01_Sub.calls t164 t163 t175 _ A19.out).mono ?_); rintro e w22 ⟨rfl, hb⟩; refine ⟨_, rfl, ?_⟩; replace HB := Aside0.mk (below_step T1_ hb); clear hb) | ((with_reducible refine gate_callee (f := 25) rfl ?_); refine goesL_ (some 40) rfl rfl Tryz.func25 (by kernel_rfl) rfl #[.string a1] rfl T2_ ?_; (with_reducible refine (tapewrightref02_Sign.calls a1 t176 _ A20.out).mono ?_); rintro e w' ⟨rfl, ⟨nd, rfl⟩⟩; refine ⟨_, rfl, ?_⟩) | ((with_reducible refine gate_callee (f := 31) rfl ?_); refine goesL_ (some 41) rfl rfl Tryz.func31 (by kernel_rfl) rfl #[.string t175, .int .i64 t176] rfl T2_ ?_; (with_reducible refine (tapewrightref02_of.calls t175 t176 t177 _ A21.out).mono ?_); rintro e w' ⟨rfl, ⟨nd, rfl⟩⟩; refine ⟨_, rfl, ?_⟩))
   go_ret
   exact ⟨T4_, T1_⟩
end Go.Proofs.YtfjlmiehbikmnaaGreatDoor.PB
