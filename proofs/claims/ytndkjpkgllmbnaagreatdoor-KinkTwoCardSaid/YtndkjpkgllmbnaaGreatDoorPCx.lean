-- by wip/tool/mine.py of this repo (the kit's printer with given contracts)
import Derived.Test.YtndkjpkgllmbnaaGreatDoorThW
namespace Go.Proofs.YtndkjpkgllmbnaaGreatDoor.PC
open Go.RowKit Go.ZPWords Go.ZPLast Go.ZPMore
attribute [local go_sem] max2_int min2_int max_two min_two max_three min_three max_four min_four   -- for this text's walks alone
set_option linter.unusedVariables false
set_option linter.unusedSimpArgs false
set_option maxHeartbeats 8000000
set_option maxRecDepth 100000
def errW : Option Int → Value
 | none => .nilIface
 | some c => .iface 0 (.int .i64 c)
theorem errW_none : errW none = .nilIface := rfl
theorem errW_some (c : Int) : errW (some c) = .iface 0 (.int .i64 c) := rfl
/-! ### stringslite_HasPrefix: function 110 -/
def stringslite_HasPrefix.f (a0 : ByteArray) (a1 : ByteArray) : Option (Bool) := if (a0.size : Int) ≥ (a1.size : Int) then (if 0 ≤ (a1.size : Int) then (if (a1.size : Int) ≤ (a0.size : Int) then (some ((a0.extract 0 ((a1.size : Int) : Int).toNat).toList == a1.toList)) else (none)) else (none)) else (some false)
theorem stringslite_HasPrefix.calls (a0 : ByteArray) (a1 : ByteArray) (r : Bool) (w : World) (h : stringslite_HasPrefix.f a0 a1 = some r) :
  Calls Tryz.prog 110 #[.string a0, .string a1] w fun e w' => e = .returned (.bool r) ∧ Drawn0 w w' := by
 unfold stringslite_HasPrefix.f at h;have H := h;clear h
 by_cases c3 : (a0.size : Int) ≥ (a1.size : Int)
 ·
  rw [if_pos c3] at H;have c3b0 : decide ((a1.size : Int) ≤ (a0.size : Int)) = true := decide_eq_true c3;have c3b1 : decide (a1.size ≤ a0.size) = true := decide_eq_true (Int.ofNat_le.mp c3);clear c3
  by_cases c4 : 0 ≤ (a1.size : Int)
  ·
   rw [if_pos c4] at H;have c4b0 := eq_true c4;have c4b1 := decide_eq_true c4;clear c4
   by_cases c5 : (a1.size : Int) ≤ (a0.size : Int)
   ·
    rw [if_pos c5] at H;have c5b0 := eq_true c5;have c5b1 := decide_eq_true c5;clear c5;obtain rfl := Option.some.inj H;go_enter Tryz.func110, Tryz.ntmps110
    go_wp2
    go_ret
    exact ⟨by first | rfl | (simp; done) | (simp [*]; done), by repeat (first | exact Drawn0.refl _ | apply Drawn0.step)⟩
   ·
    rw [if_neg c5] at H;exact absurd H (by simp)
  ·
   rw [if_neg c4] at H;exact absurd H (by simp)
 ·
  rw [if_neg c3] at H;have c3b0 : decide ((a1.size : Int) ≤ (a0.size : Int)) = false := decide_eq_false c3;have c3b1 : decide (a1.size ≤ a0.size) = false := decide_eq_false (fun h => c3 (Int.ofNat_le.mpr h));clear c3;obtain rfl := Option.some.inj H;go_enter Tryz.func110, Tryz.ntmps110
  go_wp2
  go_ret
  exact ⟨by first | rfl | (simp; done) | (simp [*]; done), by repeat (first | exact Drawn0.refl _ | apply Drawn0.step)⟩
/-! ### stringslite_TrimPrefix: function 134 -/
def stringslite_TrimPrefix.f (a0 : ByteArray) (a1 : ByteArray) : Option (ByteArray) := (stringslite_HasPrefix.f a0 a1).bind fun t101 => (if t101 = true then (if 0 ≤ (a1.size : Int) then (if (a1.size : Int) ≤ (a0.size : Int) then (some (a0.extract ((a1.size : Int) : Int).toNat a0.size)) else (none)) else (none)) else (some a0))
theorem stringslite_TrimPrefix.calls (a0 : ByteArray) (a1 : ByteArray) (r : ByteArray) (w : World) (h : stringslite_TrimPrefix.f a0 a1 = some r) :
  Calls Tryz.prog 134 #[.string a0, .string a1] w fun e w' => e = .returned (.string r) ∧ Drawn0 w w' := by
 unfold stringslite_TrimPrefix.f at h;have H := h;clear h;replace H := BE_ H;obtain ⟨t101, A30, H⟩ := H;have A3 := A_ A30;clear A30
 by_cases c4 : t101 = true
 ·
  subst c4;rw [if_pos rfl] at H
  by_cases c5 : 0 ≤ (a1.size : Int)
  ·
   rw [if_pos c5] at H;have c5b0 := eq_true c5;have c5b1 := decide_eq_true c5;clear c5
   by_cases c6 : (a1.size : Int) ≤ (a0.size : Int)
   ·
    rw [if_pos c6] at H;have c6b0 := eq_true c6;have c6b1 := decide_eq_true c6;clear c6;obtain rfl := Option.some.inj H;go_enter Tryz.func134, Tryz.ntmps134
    go_wp2_with (first | (refine GL_ 110 7 Tryz.func110 #[.string a0, .string a1] ?_; (with_reducible refine (stringslite_HasPrefix.calls a0 a1 true _ A3.out).mono ?_); rintro e w' ⟨rfl, ⟨nd, rfl⟩⟩; refine ⟨_, rfl, ?_⟩))
    go_ret
    exact ⟨by first | rfl | (simp; done) | (simp [*]; done), by repeat (first | exact Drawn0.refl _ | apply Drawn0.step)⟩
   ·
    rw [if_neg c6] at H;exact absurd H (by simp)
  ·
   rw [if_neg c5] at H;exact absurd H (by simp)
 ·
  replace c4 := Bool.eq_false_iff.mpr c4;subst c4;rw [if_neg (show ¬ (false = true) by decide)] at H;obtain rfl := Option.some.inj H;go_enter Tryz.func134, Tryz.ntmps134
  go_wp2_with (first | (refine GL_ 110 7 Tryz.func110 #[.string a0, .string a1] ?_; (with_reducible refine (stringslite_HasPrefix.calls a0 a1 false _ A3.out).mono ?_); rintro e w' ⟨rfl, ⟨nd, rfl⟩⟩; refine ⟨_, rfl, ?_⟩))
  go_ret
  exact ⟨by first | rfl | (simp; done) | (simp [*]; done), by repeat (first | exact Drawn0.refl _ | apply Drawn0.step)⟩
/-! ### strings_TrimPrefix: function 111 -/
def strings_TrimPrefix.f (a0 : ByteArray) (a1 : ByteArray) : Option (ByteArray) := (stringslite_TrimPrefix.f a0 a1).bind fun t102 => (some t102)
theorem strings_TrimPrefix.calls (a0 : ByteArray) (a1 : ByteArray) (r : ByteArray) (w : World) (h : strings_TrimPrefix.f a0 a1 = some r) :
  Calls Tryz.prog 111 #[.string a0, .string a1] w fun e w' => e = .returned (.string r) ∧ Drawn0 w w' := by
 unfold strings_TrimPrefix.f at h;have H := h;clear h;replace H := BE_ H;obtain ⟨t102, A30, H⟩ := H;have A3 := A_ A30;clear A30;obtain rfl := Option.some.inj H;go_enter Tryz.func111, Tryz.ntmps111
 go_wp2_with (first | (refine GL_ 134 7 Tryz.func134 #[.string a0, .string a1] ?_; (with_reducible refine (stringslite_TrimPrefix.calls a0 a1 t102 _ A3.out).mono ?_); rintro e w' ⟨rfl, ⟨nd, rfl⟩⟩; refine ⟨_, rfl, ?_⟩))
 go_ret
 exact ⟨by first | rfl | (simp; done) | (simp [*]; done), by repeat (first | exact Drawn0.refl _ | apply Drawn0.step)⟩
/-! ### rat_size: function 87 -/
def rat_size.f (a0 : ByteArray) : Option (ByteArray) := (strings_TrimPrefix.f a0 (⟨#[45]⟩ : ByteArray)).bind fun t103 => (some t103)
theorem rat_size.calls (a0 : ByteArray) (r : ByteArray) (w : World) (h : rat_size.f a0 = some r) :
  Calls Tryz.prog 87 #[.string a0] w fun e w' => e = .returned (.string r) ∧ Drawn0 w w' := by
 unfold rat_size.f at h;have H := h;clear h;replace H := BE_ H;obtain ⟨t103, A20, H⟩ := H;have A2 := A_ A20;clear A20;obtain rfl := Option.some.inj H;go_enter Tryz.func87, Tryz.ntmps87
 go_wp2_with (first | (refine GL_ 111 4 Tryz.func111 #[.string a0, .string (⟨#[45]⟩ : ByteArray)] ?_; (with_reducible refine (strings_TrimPrefix.calls a0 (⟨#[45]⟩ : ByteArray) t103 _ A2.out).mono ?_); rintro e w' ⟨rfl, ⟨nd, rfl⟩⟩; refine ⟨_, rfl, ?_⟩))
 go_ret
 exact ⟨by first | rfl | (simp; done) | (simp [*]; done), by repeat (first | exact Drawn0.refl _ | apply Drawn0.step)⟩
/-! ### whole_Mul: function 90 -/
def whole_Mul.f (a0 : ByteArray) (a1 : ByteArray) : Option (ByteArray × Int) := PB.whole_Mul.f a0 a1
theorem whole_Mul.calls (a0 : ByteArray) (a1 : ByteArray) (r1 : ByteArray) (r2 : Int) (w : World) (h : whole_Mul.f a0 a1 = some (r1, r2)) :
  Calls Tryz.prog 90 #[.string a0, .string a1] w fun e w' => e = .returned (.tuple #[.string r1, .int .i64 r2]) ∧ Below w.heap.size w w' := PB.whole_Mul.calls a0 a1 r1 r2 w h
theorem whole_Mul.zt {x y : Int} (hx : Th.Wh.Ft x) (hy : Th.Wh.Ft y) : whole_Mul.f (Th.Wh.zt x) (Th.Wh.zt y) = some (Th.Wh.zt (x * y), 0) := Th.Wh.mul_zt x y hx hy
theorem whole_Mul.no {a b : ByteArray} (h : (Th.Wh.right a && Th.Wh.right b) = false) : whole_Mul.f a b = some (⟨#[]⟩, 2) := Th.Wh.mul_no a b h
/-! ### rat_times: function 61 -/
def rat_times.f (a0 : ByteArray) (a1 : ByteArray) : Option (ByteArray) := (whole_Mul.f a0 a1).bind fun bt104 => (some bt104.1)
theorem rat_times.calls (a0 : ByteArray) (a1 : ByteArray) (r : ByteArray) (w : World) (h : rat_times.f a0 a1 = some r) :
  Calls Tryz.prog 61 #[.string a0, .string a1] w fun e w' => e = .returned (.string r) ∧ Below w.heap.size w w' := by
 have HB := A_ (Below.refl w.heap.size w);unfold rat_times.f at h;have H := h;clear h;replace H := BE_ H;obtain ⟨⟨t104, t105⟩, A30, H⟩ := H;have A3 := A_ A30;clear A30;obtain rfl := Option.some.inj H;go_enter Tryz.func61, Tryz.ntmps61
 go_wp2_with (first | (refine GL_ 90 10 Tryz.func90 #[.string a0, .string a1] ?_; (with_reducible refine (whole_Mul.calls a0 a1 t104 t105 _ A3.out).mono ?_); rintro e w4 ⟨rfl, hb⟩; refine ⟨_, rfl, ?_⟩; replace HB := BS_ hb; clear hb))
 go_ret
 exact ⟨T4_, T1_⟩
/-! ### rat_pair_text: function 82 -/
def rat_pair_text.f (a0_0 : ByteArray) (a0_1 : ByteArray) : Option (ByteArray) := if a0_1.toList = ([49] : List UInt8) then (some a0_0) else (if a0_0.size + 1 ≤ 9223372036854775807 then (if (a0_0 ++ (⟨#[47]⟩ : ByteArray)).size + a0_1.size ≤ 9223372036854775807 then (some ((a0_0 ++ (⟨#[47]⟩ : ByteArray)) ++ a0_1)) else (none)) else (none))
theorem rat_pair_text.calls (a0_0 : ByteArray) (a0_1 : ByteArray) (r : ByteArray) (w : World) (h : rat_pair_text.f a0_0 a0_1 = some r) :
  Calls Tryz.prog 82 #[.agg #[.string a0_0, .string a0_1]] w fun e w' => e = .returned (.string r) ∧ Below w.heap.size w w' := by
 have hu73 := Tryz.underlying73;have HB := A_ (Below.refl w.heap.size w);unfold rat_pair_text.f at h;have H := h;clear h
 by_cases c2 : a0_1.toList = ([49] : List UInt8)
 ·
  rw [if_pos c2] at H;have c2b0 : (a0_1.toList == ([49] : List UInt8)) = true := beq_iff_eq.mpr c2;have c2b1 : (a0_1.toList != ([49] : List UInt8)) = false := bne_eq_false_iff_eq.mpr c2;clear c2;obtain rfl := Option.some.inj H;go_enter Tryz.func82, Tryz.ntmps82
  go_wp2_with (first | (refine BX_ 1 #[.string a0_0, .string a0_1] 73 ?_; intro gb106 hg w3 hbox hb; have BK106 := A_ (hbox); have GE106 := GE_ hg; replace HB := BS_ hb; clear hb hbox hg; obtain ⟨hcz4_0, hcz4_1, hfz4_0, hfz4_1⟩ := CF_ BK106))
  go_ret
  exact ⟨T4_, T9_⟩
 ·
  rw [if_neg c2] at H;have c2b0 : (a0_1.toList == ([49] : List UInt8)) = false := beq_eq_false_iff_ne.mpr c2;have c2b1 : (a0_1.toList != ([49] : List UInt8)) = true := bne_iff_ne.mpr c2
  by_cases c5 : a0_0.size + 1 ≤ 9223372036854775807
  ·
   rw [if_pos c5] at H;have c5b0 := eq_true c5;have c5b1 := decide_eq_true c5
   try have c5b2 : (9223372036854775807 < a0_0.size + 1) = False := eq_false (Nat.not_lt.2 c5)
   by_cases c6 : (a0_0 ++ (⟨#[47]⟩ : ByteArray)).size + a0_1.size ≤ 9223372036854775807
   ·
    rw [if_pos c6] at H;have c6b0 := eq_true c6;have c6b1 := decide_eq_true c6
    try have c6b2 : (9223372036854775807 < (a0_0 ++ (⟨#[47]⟩ : ByteArray)).size + a0_1.size) = False := eq_false (Nat.not_lt.2 c6)
    obtain rfl := Option.some.inj H;go_enter Tryz.func82, Tryz.ntmps82
    go_wp2_with (first | (refine BX_ 1 #[.string a0_0, .string a0_1] 73 ?_; intro gb106 hg w7 hbox hb; have BK106 := A_ (hbox); have GE106 := GE_ hg; replace HB := BS_ hb; clear hb hbox hg; obtain ⟨hcz8_0, hcz8_1, hfz8_0, hfz8_1⟩ := CF_ BK106))
    go_ret
    exact ⟨T4_, T9_⟩
   ·
    rw [if_neg c6] at H;exact absurd H (by simp)
  ·
   rw [if_neg c5] at H;exact absurd H (by simp)
/-! ### whole_Add: function 64 -/
def whole_Add.f (a0 : ByteArray) (a1 : ByteArray) : Option (ByteArray × Int) := PB.whole_Add.f a0 a1
theorem whole_Add.zt {x y : Int} (hx : Th.Wh.Ft x) (hy : Th.Wh.Ft y) : whole_Add.f (Th.Wh.zt x) (Th.Wh.zt y) = some (Th.Wh.zt (x + y), 0) := Th.Wh.add_zt x y hx hy
theorem whole_Add.no {a b : ByteArray} (h : (Th.Wh.right a && Th.Wh.right b) = false) : whole_Add.f a b = some (⟨#[]⟩, 2) := Th.Wh.add_no a b h
/-! ### whole_Sub: function 66 -/
def whole_Sub.f (a0 : ByteArray) (a1 : ByteArray) : Option (ByteArray × Int) := PB.whole_Sub.f a0 a1
theorem whole_Sub.calls (a0 : ByteArray) (a1 : ByteArray) (r1 : ByteArray) (r2 : Int) (w : World) (h : whole_Sub.f a0 a1 = some (r1, r2)) :
  Calls Tryz.prog 66 #[.string a0, .string a1] w fun e w' => e = .returned (.tuple #[.string r1, .int .i64 r2]) ∧ Below w.heap.size w w' := PB.whole_Sub.calls a0 a1 r1 r2 w h
theorem whole_Sub.zt {x y : Int} (hx : Th.Wh.Ft x) (hy : Th.Wh.Ft y) : whole_Sub.f (Th.Wh.zt x) (Th.Wh.zt y) = some (Th.Wh.zt (x - y), 0) := Th.Wh.sub_zt x y hx hy
theorem whole_Sub.no {a b : ByteArray} (h : (Th.Wh.right a && Th.Wh.right b) = false) : whole_Sub.f a b = some (⟨#[]⟩, 2) := Th.Wh.sub_no a b h
/-! ### whole_Neg: function 86 -/
def whole_Neg.f (a0 : ByteArray) : Option (ByteArray × Int) := PB.whole_Neg.f a0
theorem whole_Neg.calls (a0 : ByteArray) (r1 : ByteArray) (r2 : Int) (w : World) (h : whole_Neg.f a0 = some (r1, r2)) :
  Calls Tryz.prog 86 #[.string a0] w fun e w' => e = .returned (.tuple #[.string r1, .int .i64 r2]) ∧ Below w.heap.size w w' := PB.whole_Neg.calls a0 r1 r2 w h
theorem whole_Neg.zt {x : Int} (hx : Th.Wh.Ft x) : whole_Neg.f (Th.Wh.zt x) = some (Th.Wh.zt (-x), 0) := Th.Wh.neg_zt x hx
theorem whole_Neg.no {a : ByteArray} (h : Th.Wh.right a = false) : whole_Neg.f a = some (⟨#[]⟩, 2) := Th.Wh.neg_no a h
/-! ### whole_Sign: function 103 -/
def whole_Sign.f (a0 : ByteArray) : Option (Int × Int) := PB.whole_Sign.f a0
theorem whole_Sign.calls (a0 : ByteArray) (r1 : Int) (r2 : Int) (w : World) (h : whole_Sign.f a0 = some (r1, r2)) :
  Calls Tryz.prog 103 #[.string a0] w fun e w' => e = .returned (.tuple #[.int .i64 r1, .int .i64 r2]) ∧ Below w.heap.size w w' := PB.whole_Sign.calls a0 r1 r2 w h
theorem whole_Sign.zt (x : Int) : whole_Sign.f (Th.Wh.zt x) = some (Th.Wh.sgn x, 0) := Th.Wh.sign_zt x
theorem whole_Sign.no {a : ByteArray} (h : Th.Wh.right a = false) : whole_Sign.f a = some (0, 2) := Th.Wh.sign_no a h
/-! ### whole_Right: function 80 -/
def whole_Right.f (a0 : ByteArray) : Option (Bool) := PB.whole_Right.f a0
theorem whole_Right.calls (a0 : ByteArray) (r : Bool) (w : World) (h : whole_Right.f a0 = some r) :
  Calls Tryz.prog 80 #[.string a0] w fun e w' => e = .returned (.bool r) ∧ Below w.heap.size w w' := PB.whole_Right.calls a0 r w h
theorem whole_Right.of (a : ByteArray) : whole_Right.f a = some (Th.Wh.right a) := Th.Wh.right_spec a
/-! ### nat_Gcd: function 88 -/
def nat_Gcd.f (a0 : ByteArray) (a1 : ByteArray) : Option (ByteArray × Int) := if Th.Fit a0 ∧ Th.Fit a1 then some (Th.sGcd a0 a1) else none
theorem nat_Gcd.calls (a0 : ByteArray) (a1 : ByteArray) (r1 : ByteArray) (r2 : Int) (w : World) (h : nat_Gcd.f a0 a1 = some (r1, r2)) :
  Calls Tryz.prog 88 #[.string a0, .string a1] w fun e w' => e = .returned (.tuple #[.string r1, .int .i64 r2]) ∧ Below w.heap.size w w' := by
 unfold nat_Gcd.f at h
 by_cases c : Th.Fit a0 ∧ Th.Fit a1
 ·
  rw [if_pos c] at h;obtain ⟨k, hk⟩ := (Th.gcd_spec a0 a1 c.1 c.2).rounds;exact PA.nat_Gcd.calls k a0 a1 r1 r2 w (hk.trans h)
 ·
  rw [if_neg c] at h
  cases h
theorem nat_Gcd.txt {m n : Nat} (hm : Th.Fit (Th.txt m)) (hn : Th.Fit (Th.txt n)) : nat_Gcd.f (Th.txt m) (Th.txt n) = some (Th.txt (Nat.gcd m n), 0) := by
 rw [nat_Gcd.f, if_pos ⟨hm, hn⟩, Th.sGcd, Th.right_txt, Th.right_txt, Th.num_txt, Th.num_txt];rfl
/-! ### nat_Div: function 89 -/
def nat_Div.f (a0 : ByteArray) (a1 : ByteArray) : Option (ByteArray × ByteArray × Int) := if Th.Fit a0 ∧ Th.Fit a1 then some (Th.sDiv a0 a1) else none
theorem nat_Div.calls (a0 : ByteArray) (a1 : ByteArray) (r1 : ByteArray) (r2 : ByteArray) (r3 : Int) (w : World) (h : nat_Div.f a0 a1 = some (r1, r2, r3)) :
  Calls Tryz.prog 89 #[.string a0, .string a1] w fun e w' => e = .returned (.tuple #[.string r1, .string r2, .int .i64 r3]) ∧ Below w.heap.size w w' := by
 unfold nat_Div.f at h
 by_cases c : Th.Fit a0 ∧ Th.Fit a1
 ·
  rw [if_pos c] at h;obtain ⟨k, hk⟩ := (Th.div_spec a0 a1 c.1 c.2).rounds;exact PA.nat_Div.calls k a0 a1 r1 r2 r3 w (hk.trans h)
 ·
  rw [if_neg c] at h
  cases h
theorem nat_Div.txt {m n : Nat} (hm : Th.Fit (Th.txt m)) (hn : Th.Fit (Th.txt n)) (h : n ≠ 0) : nat_Div.f (Th.txt m) (Th.txt n) = some (Th.txt (m / n), Th.txt (m % n), 0) := by
 rw [nat_Div.f, if_pos ⟨hm, hn⟩, Th.sDiv, Th.right_txt, Th.right_txt, Th.num_txt, Th.num_txt, if_neg h];rfl
/-! ### nat_Right: function 81 -/
def nat_Right.f (a0 : ByteArray) : Option Bool := some (Str.right a0)
theorem nat_Right.calls (a0 : ByteArray) (r : Bool) (w : World) (h : nat_Right.f a0 = some r) :
  Calls Tryz.prog 81 #[.string a0] w fun e w' => e = .returned (.bool r) ∧ Below w.heap.size w w' := by
 obtain rfl := Option.some.inj h;exact Str.right_calls a0 w
theorem nat_Right.txt (m : Nat) : nat_Right.f (Th.txt m) = some true := by rw [nat_Right.f, Th.right_txt]
/-! ### strings_HasPrefix: function 85 -/
def strings_HasPrefix.f (a0 : ByteArray) (a1 : ByteArray) : Option (Bool) := (stringslite_HasPrefix.f a0 a1).bind fun t107 => (some t107)
theorem strings_HasPrefix.calls (a0 : ByteArray) (a1 : ByteArray) (r : Bool) (w : World) (h : strings_HasPrefix.f a0 a1 = some r) :
  Calls Tryz.prog 85 #[.string a0, .string a1] w fun e w' => e = .returned (.bool r) ∧ Drawn0 w w' := by
 unfold strings_HasPrefix.f at h;have H := h;clear h;replace H := BE_ H;obtain ⟨t107, A30, H⟩ := H;have A3 := A_ A30;clear A30;obtain rfl := Option.some.inj H;go_enter Tryz.func85, Tryz.ntmps85
 go_wp2_with (first | (refine GL_ 110 7 Tryz.func110 #[.string a0, .string a1] ?_; (with_reducible refine (stringslite_HasPrefix.calls a0 a1 t107 _ A3.out).mono ?_); rintro e w' ⟨rfl, ⟨nd, rfl⟩⟩; refine ⟨_, rfl, ?_⟩))
 go_ret
 exact ⟨by first | rfl | (simp; done) | (simp [*]; done), by repeat (first | exact Drawn0.refl _ | apply Drawn0.step)⟩
end Go.Proofs.YtndkjpkgllmbnaaGreatDoor.PC
