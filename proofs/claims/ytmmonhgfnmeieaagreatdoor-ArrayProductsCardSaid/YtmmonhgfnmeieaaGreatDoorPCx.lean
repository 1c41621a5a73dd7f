-- by wip/tool/mine.py of this repo (the kit's printer with given contracts)
import Derived.Test.YtmmonhgfnmeieaaGreatDoorThW
namespace Go.Proofs.YtmmonhgfnmeieaaGreatDoor.PC
open Go.RowKit Go.ZPWords Go.ZPLast Go.ZPMore
attribute [local go_sem] max2_int min2_int max_two min_two max_three min_three max_four min_four   -- for this text's walks alone
set_option linter.unusedVariables false
set_option linter.unusedSimpArgs false
set_option maxHeartbeats 8000000
set_option maxRecDepth 100000
def errW : Option Int → Value
 | none => .nilIface
 | some c => .iface 0 (.int .i64 c)
theorem errW_none : errW none = .nilIface := rfl
theorem errW_some (c : Int) : errW (some c) = .iface 0 (.int .i64 c) := rfl
/-! ### stringslite_HasPrefix: function 100 -/
def stringslite_HasPrefix.f (a0 : ByteArray) (a1 : ByteArray) : Option (Bool) := if (a0.size : Int) ≥ (a1.size : Int) then (if 0 ≤ (a1.size : Int) then (if (a1.size : Int) ≤ (a0.size : Int) then (some ((a0.extract 0 ((a1.size : Int) : Int).toNat).toList == a1.toList)) else (none)) else (none)) else (some false)
theorem stringslite_HasPrefix.calls (a0 : ByteArray) (a1 : ByteArray) (r : Bool) (w : World) (h : stringslite_HasPrefix.f a0 a1 = some r) :
  Calls Tryz.prog 100 #[.string a0, .string a1] w fun e w' => e = .returned (.bool r) ∧ Drawn0 w w' := by
 unfold stringslite_HasPrefix.f at h;have H := h;clear h;by_cases c3 : (a0.size : Int) ≥ (a1.size : Int)
 · rw [if_pos c3] at H;have n0 : decide ((a1.size : Int) ≤ (a0.size : Int)) = true := decide_eq_true c3;have o0 : decide (a1.size ≤ a0.size) = true := decide_eq_true (Int.ofNat_le.mp c3);clear c3;revert H;refine YE_ fun c4 H => ?_;have f1 := eq_true c4;have g1 := decide_eq_true c4;clear c4;revert H;refine YE_ fun c5 H => ?_;have h0 := eq_true c5;have i0 := decide_eq_true c5;clear c5;obtain rfl := Option.some.inj H;go_enter Tryz.func100, Tryz.ntmps100;go_wp2;go_ret;exact ⟨S1_, by repeat (first | exact Drawn0.refl _ | apply Drawn0.step)⟩
 rw [if_neg c3] at H;have n0 : decide ((a1.size : Int) ≤ (a0.size : Int)) = false := decide_eq_false c3;have o0 : decide (a1.size ≤ a0.size) = false := decide_eq_false (fun h => c3 (Int.ofNat_le.mpr h));clear c3;obtain rfl := Option.some.inj H;go_enter Tryz.func100, Tryz.ntmps100;go_wp2;go_ret;exact ⟨S1_, by repeat (first | exact Drawn0.refl _ | apply Drawn0.step)⟩
/-! ### stringslite_TrimPrefix: function 124 -/
def stringslite_TrimPrefix.f (a0 : ByteArray) (a1 : ByteArray) : Option (ByteArray) := (stringslite_HasPrefix.f a0 a1).bind fun j0 => (if j0 = true then (if 0 ≤ (a1.size : Int) then (if (a1.size : Int) ≤ (a0.size : Int) then (some (a0.extract ((a1.size : Int) : Int).toNat a0.size)) else (none)) else (none)) else (some a0))
theorem stringslite_TrimPrefix.calls (a0 : ByteArray) (a1 : ByteArray) (r : ByteArray) (w : World) (h : stringslite_TrimPrefix.f a0 a1 = some r) :
  Calls Tryz.prog 124 #[.string a0, .string a1] w fun e w' => e = .returned (.string r) ∧ Drawn0 w w' := by
 unfold stringslite_TrimPrefix.f at h;have H := h;clear h;revert H;refine BV_ fun j0 A3 H => ?_;replace H := BI_ H;rcases H with ⟨rfl, H⟩ | ⟨rfl, H⟩
 · revert H;refine YE_ fun c5 H => ?_;have h0 := eq_true c5;have i0 := decide_eq_true c5;clear c5;revert H;refine YE_ fun c6 H => ?_;have p0 := eq_true c6;have q0 := decide_eq_true c6;clear c6;obtain rfl := Option.some.inj H;go_enter Tryz.func124, Tryz.ntmps124;go_wp2_with (first | (refine GL_ 100 7 Tryz.func100 #[.string a0, .string a1] ?_; (with_reducible refine (stringslite_HasPrefix.calls a0 a1 true _ A3.out).mono ?_); rintro e w' ⟨rfl, ⟨nd, rfl⟩⟩; refine ⟨_, rfl, ?_⟩));go_ret;exact ⟨S1_, by repeat (first | exact Drawn0.refl _ | apply Drawn0.step)⟩
 obtain rfl := Option.some.inj H;go_enter Tryz.func124, Tryz.ntmps124;go_wp2_with (first | (refine GL_ 100 7 Tryz.func100 #[.string a0, .string a1] ?_; (with_reducible refine (stringslite_HasPrefix.calls a0 a1 false _ A3.out).mono ?_); rintro e w' ⟨rfl, ⟨nd, rfl⟩⟩; refine ⟨_, rfl, ?_⟩));go_ret;exact ⟨S1_, by repeat (first | exact Drawn0.refl _ | apply Drawn0.step)⟩
/-! ### strings_TrimPrefix: function 101 -/
def strings_TrimPrefix.f (a0 : ByteArray) (a1 : ByteArray) : Option (ByteArray) := (stringslite_TrimPrefix.f a0 a1).bind fun e0 => (some e0)
theorem strings_TrimPrefix.calls (a0 : ByteArray) (a1 : ByteArray) (r : ByteArray) (w : World) (h : strings_TrimPrefix.f a0 a1 = some r) :
  Calls Tryz.prog 101 #[.string a0, .string a1] w fun e w' => e = .returned (.string r) ∧ Drawn0 w w' := by
 unfold strings_TrimPrefix.f at h;have H := h;clear h;revert H;refine BV_ fun e0 A3 H => ?_;obtain rfl := Option.some.inj H;go_enter Tryz.func101, Tryz.ntmps101;go_wp2_with (first | (refine GL_ 124 7 Tryz.func124 #[.string a0, .string a1] ?_; (with_reducible refine (stringslite_TrimPrefix.calls a0 a1 e0 _ A3.out).mono ?_); rintro e w' ⟨rfl, ⟨nd, rfl⟩⟩; refine ⟨_, rfl, ?_⟩));go_ret;exact ⟨S1_, by repeat (first | exact Drawn0.refl _ | apply Drawn0.step)⟩
/-! ### rat_size: function 74 -/
def rat_size.f (a0 : ByteArray) : Option (ByteArray) := (strings_TrimPrefix.f a0 (⟨#[45]⟩ : ByteArray)).bind fun f0 => (some f0)
theorem rat_size.calls (a0 : ByteArray) (r : ByteArray) (w : World) (h : rat_size.f a0 = some r) :
  Calls Tryz.prog 74 #[.string a0] w fun e w' => e = .returned (.string r) ∧ Drawn0 w w' := by
 unfold rat_size.f at h;have H := h;clear h;revert H;refine BV_ fun f0 A2 H => ?_;obtain rfl := Option.some.inj H;go_enter Tryz.func74, Tryz.ntmps74;go_wp2_with (first | (refine GL_ 101 4 Tryz.func101 #[.string a0, .string (⟨#[45]⟩ : ByteArray)] ?_; (with_reducible refine (strings_TrimPrefix.calls a0 (⟨#[45]⟩ : ByteArray) f0 _ A2.out).mono ?_); rintro e w' ⟨rfl, ⟨nd, rfl⟩⟩; refine ⟨_, rfl, ?_⟩));go_ret;exact ⟨S1_, by repeat (first | exact Drawn0.refl _ | apply Drawn0.step)⟩
/-! ### whole_Mul: function 71 -/
def whole_Mul.f (a0 : ByteArray) (a1 : ByteArray) : Option (ByteArray × Int) := PB.whole_Mul.f a0 a1
theorem whole_Mul.calls (a0 : ByteArray) (a1 : ByteArray) (r1 : ByteArray) (r2 : Int) (w : World) (h : whole_Mul.f a0 a1 = some (r1, r2)) :
  Calls Tryz.prog 71 #[.string a0, .string a1] w fun e w' => e = .returned (.tuple #[.string r1, .int .i64 r2]) ∧ Below w.heap.size w w' := PB.whole_Mul.calls a0 a1 r1 r2 w h
theorem whole_Mul.zt {x y : Int} (hx : Th.Wh.Ft x) (hy : Th.Wh.Ft y) : whole_Mul.f (Th.Wh.zt x) (Th.Wh.zt y) = some (Th.Wh.zt (x * y), 0) := Th.Wh.mul_zt x y hx hy
theorem whole_Mul.no {a b : ByteArray} (h : (Th.Wh.right a && Th.Wh.right b) = false) : whole_Mul.f a b = some (⟨#[]⟩, 2) := Th.Wh.mul_no a b h
/-! ### rat_times: function 49 -/
def rat_times.f (a0 : ByteArray) (a1 : ByteArray) : Option (ByteArray) := (whole_Mul.f a0 a1).bind fun k0 => (some k0.1)
theorem rat_times.calls (a0 : ByteArray) (a1 : ByteArray) (r : ByteArray) (w : World) (h : rat_times.f a0 a1 = some r) :
  Calls Tryz.prog 49 #[.string a0, .string a1] w fun e w' => e = .returned (.string r) ∧ Below w.heap.size w w' := by
 have HB := A_ (Below.refl w.heap.size w);unfold rat_times.f at h;have H := h;clear h;revert H;refine BV_ ?_;rintro ⟨r0, s0⟩ A3 H;obtain rfl := Option.some.inj H;go_enter Tryz.func49, Tryz.ntmps49;go_wp2_with (first | (refine GL_ 71 10 Tryz.func71 #[.string a0, .string a1] ?_; (with_reducible refine (whole_Mul.calls a0 a1 r0 s0 _ A3.out).mono ?_); rintro e w4 ⟨rfl, hb⟩; refine ⟨_, rfl, ?_⟩; replace HB := BS_ hb; clear hb));go_ret;exact ⟨T4_, T1_⟩
/-! ### rat_pair_text: function 92 -/
def rat_pair_text.f (b0 : ByteArray) (c0 : ByteArray) : Option (ByteArray) := if c0.toList = ([49] : List UInt8) then (some b0) else (if b0.size + 1 ≤ 9223372036854775807 then (if (b0 ++ (⟨#[47]⟩ : ByteArray)).size + c0.size ≤ 9223372036854775807 then (some ((b0 ++ (⟨#[47]⟩ : ByteArray)) ++ c0)) else (none)) else (none))
theorem rat_pair_text.calls (b0 : ByteArray) (c0 : ByteArray) (r : ByteArray) (w : World) (h : rat_pair_text.f b0 c0 = some r) :
  Calls Tryz.prog 92 #[.agg #[.string b0, .string c0]] w fun e w' => e = .returned (.string r) ∧ Below w.heap.size w w' := by
 have hu64 := Tryz.underlying64;have HB := A_ (Below.refl w.heap.size w);unfold rat_pair_text.f at h;have H := h;clear h;replace H := EQ_ H;rcases H with ⟨-, t0, u0, H⟩ | ⟨c2, t0, u0, H⟩
 · obtain rfl := Option.some.inj H;go_enter Tryz.func92, Tryz.ntmps92;go_wp2_with (first | (refine BX_ 1 #[.string b0, .string c0] 64 ?_; intro l0 hg w3 hbox hb; have d0 := A_ (hbox); have m0 := GE_ hg; replace HB := BS_ hb; clear hb hbox hg; obtain ⟨v0, x0, y0, z0⟩ := CF_ d0));go_ret;exact ⟨T4_, T9_⟩
 revert H;refine YE_ fun c5 H => ?_;have h0 := eq_true c5;have i0 := decide_eq_true c5;try have h1 : (9223372036854775807 < b0.size + 1) = False := eq_false (Nat.not_lt.2 c5)
 revert H;refine YE_ fun c6 H => ?_;have p0 := eq_true c6;have q0 := decide_eq_true c6;try have i1 : (9223372036854775807 < (b0 ++ (⟨#[47]⟩ : ByteArray)).size + c0.size) = False := eq_false (Nat.not_lt.2 c6)
 obtain rfl := Option.some.inj H;go_enter Tryz.func92, Tryz.ntmps92;go_wp2_with (first | (refine BX_ 1 #[.string b0, .string c0] 64 ?_; intro l0 hg w7 hbox hb; have d0 := A_ (hbox); have m0 := GE_ hg; replace HB := BS_ hb; clear hb hbox hg; obtain ⟨b1, c1, d1, e1⟩ := CF_ d0));go_ret;exact ⟨T4_, T9_⟩
/-! ### whole_Add: function 48 -/
def whole_Add.f (a0 : ByteArray) (a1 : ByteArray) : Option (ByteArray × Int) := PB.whole_Add.f a0 a1
theorem whole_Add.calls (a0 : ByteArray) (a1 : ByteArray) (r1 : ByteArray) (r2 : Int) (w : World) (h : whole_Add.f a0 a1 = some (r1, r2)) :
  Calls Tryz.prog 48 #[.string a0, .string a1] w fun e w' => e = .returned (.tuple #[.string r1, .int .i64 r2]) ∧ Below w.heap.size w w' := PB.whole_Add.calls a0 a1 r1 r2 w h
theorem whole_Add.zt {x y : Int} (hx : Th.Wh.Ft x) (hy : Th.Wh.Ft y) : whole_Add.f (Th.Wh.zt x) (Th.Wh.zt y) = some (Th.Wh.zt (x + y), 0) := Th.Wh.add_zt x y hx hy
theorem whole_Add.no {a b : ByteArray} (h : (Th.Wh.right a && Th.Wh.right b) = false) : whole_Add.f a b = some (⟨#[]⟩, 2) := Th.Wh.add_no a b h
/-! ### whole_Sub: function 62 -/
def whole_Sub.f (a0 : ByteArray) (a1 : ByteArray) : Option (ByteArray × Int) := PB.whole_Sub.f a0 a1
theorem whole_Sub.zt {x y : Int} (hx : Th.Wh.Ft x) (hy : Th.Wh.Ft y) : whole_Sub.f (Th.Wh.zt x) (Th.Wh.zt y) = some (Th.Wh.zt (x - y), 0) := Th.Wh.sub_zt x y hx hy
theorem whole_Sub.no {a b : ByteArray} (h : (Th.Wh.right a && Th.Wh.right b) = false) : whole_Sub.f a b = some (⟨#[]⟩, 2) := Th.Wh.sub_no a b h
/-! ### whole_Neg: function 73 -/
def whole_Neg.f (a0 : ByteArray) : Option (ByteArray × Int) := PB.whole_Neg.f a0
theorem whole_Neg.calls (a0 : ByteArray) (r1 : ByteArray) (r2 : Int) (w : World) (h : whole_Neg.f a0 = some (r1, r2)) :
  Calls Tryz.prog 73 #[.string a0] w fun e w' => e = .returned (.tuple #[.string r1, .int .i64 r2]) ∧ Below w.heap.size w w' := PB.whole_Neg.calls a0 r1 r2 w h
theorem whole_Neg.zt {x : Int} (hx : Th.Wh.Ft x) : whole_Neg.f (Th.Wh.zt x) = some (Th.Wh.zt (-x), 0) := Th.Wh.neg_zt x hx
theorem whole_Neg.no {a : ByteArray} (h : Th.Wh.right a = false) : whole_Neg.f a = some (⟨#[]⟩, 2) := Th.Wh.neg_no a h
/-! ### whole_Right: function 90 -/
def whole_Right.f (a0 : ByteArray) : Option (Bool) := PB.whole_Right.f a0
theorem whole_Right.calls (a0 : ByteArray) (r : Bool) (w : World) (h : whole_Right.f a0 = some r) :
  Calls Tryz.prog 90 #[.string a0] w fun e w' => e = .returned (.bool r) ∧ Below w.heap.size w w' := PB.whole_Right.calls a0 r w h
theorem whole_Right.of (a : ByteArray) : whole_Right.f a = some (Th.Wh.right a) := Th.Wh.right_spec a
/-! ### nat_Gcd: function 75 -/
def nat_Gcd.f (a0 : ByteArray) (a1 : ByteArray) : Option (ByteArray × Int) := if Th.Fit a0 ∧ Th.Fit a1 then some (Th.sGcd a0 a1) else none
theorem nat_Gcd.calls (a0 : ByteArray) (a1 : ByteArray) (r1 : ByteArray) (r2 : Int) (w : World) (h : nat_Gcd.f a0 a1 = some (r1, r2)) :
  Calls Tryz.prog 75 #[.string a0, .string a1] w fun e w' => e = .returned (.tuple #[.string r1, .int .i64 r2]) ∧ Below w.heap.size w w' := by
 unfold nat_Gcd.f at h;by_cases c : Th.Fit a0 ∧ Th.Fit a1
 · rw [if_pos c] at h;obtain ⟨k, hk⟩ := (Th.gcd_spec a0 a1 c.1 c.2).rounds;exact PA.nat_Gcd.calls k a0 a1 r1 r2 w (hk.trans h)
 rw [if_neg c] at h
 cases h
theorem nat_Gcd.txt {m n : Nat} (hm : Th.Fit (Th.txt m)) (hn : Th.Fit (Th.txt n)) : nat_Gcd.f (Th.txt m) (Th.txt n) = some (Th.txt (Nat.gcd m n), 0) := by
 rw [nat_Gcd.f, if_pos ⟨hm, hn⟩, Th.sGcd, Th.right_txt, Th.right_txt, Th.num_txt, Th.num_txt];rfl
/-! ### nat_Div: function 76 -/
def nat_Div.f (a0 : ByteArray) (a1 : ByteArray) : Option (ByteArray × ByteArray × Int) := if Th.Fit a0 ∧ Th.Fit a1 then some (Th.sDiv a0 a1) else none
theorem nat_Div.calls (a0 : ByteArray) (a1 : ByteArray) (r1 : ByteArray) (r2 : ByteArray) (r3 : Int) (w : World) (h : nat_Div.f a0 a1 = some (r1, r2, r3)) :
  Calls Tryz.prog 76 #[.string a0, .string a1] w fun e w' => e = .returned (.tuple #[.string r1, .string r2, .int .i64 r3]) ∧ Below w.heap.size w w' := by
 unfold nat_Div.f at h;by_cases c : Th.Fit a0 ∧ Th.Fit a1
 · rw [if_pos c] at h;obtain ⟨k, hk⟩ := (Th.div_spec a0 a1 c.1 c.2).rounds;exact PA.nat_Div.calls k a0 a1 r1 r2 r3 w (hk.trans h)
 rw [if_neg c] at h
 cases h
theorem nat_Div.txt {m n : Nat} (hm : Th.Fit (Th.txt m)) (hn : Th.Fit (Th.txt n)) (h : n ≠ 0) : nat_Div.f (Th.txt m) (Th.txt n) = some (Th.txt (m / n), Th.txt (m % n), 0) := by
 rw [nat_Div.f, if_pos ⟨hm, hn⟩, Th.sDiv, Th.right_txt, Th.right_txt, Th.num_txt, Th.num_txt, if_neg h];rfl
/-! ### nat_Right: function 91 -/
def nat_Right.f (a0 : ByteArray) : Option Bool := some (Str.right a0)
theorem nat_Right.calls (a0 : ByteArray) (r : Bool) (w : World) (h : nat_Right.f a0 = some r) :
  Calls Tryz.prog 91 #[.string a0] w fun e w' => e = .returned (.bool r) ∧ Below w.heap.size w w' := by
 obtain rfl := Option.some.inj h;exact Str.right_calls a0 w
theorem nat_Right.txt (m : Nat) : nat_Right.f (Th.txt m) = some true := by rw [nat_Right.f, Th.right_txt]
/-! ### strings_HasPrefix: function 72 -/
def strings_HasPrefix.f (a0 : ByteArray) (a1 : ByteArray) : Option (Bool) := (stringslite_HasPrefix.f a0 a1).bind fun g0 => (some g0)
theorem strings_HasPrefix.calls (a0 : ByteArray) (a1 : ByteArray) (r : Bool) (w : World) (h : strings_HasPrefix.f a0 a1 = some r) :
  Calls Tryz.prog 72 #[.string a0, .string a1] w fun e w' => e = .returned (.bool r) ∧ Drawn0 w w' := by
 unfold strings_HasPrefix.f at h;have H := h;clear h;revert H;refine BV_ fun g0 A3 H => ?_;obtain rfl := Option.some.inj H;go_enter Tryz.func72, Tryz.ntmps72;go_wp2_with (first | (refine GL_ 100 7 Tryz.func100 #[.string a0, .string a1] ?_; (with_reducible refine (stringslite_HasPrefix.calls a0 a1 g0 _ A3.out).mono ?_); rintro e w' ⟨rfl, ⟨nd, rfl⟩⟩; refine ⟨_, rfl, ?_⟩));go_ret;exact ⟨S1_, by repeat (first | exact Drawn0.refl _ | apply Drawn0.step)⟩
end Go.Proofs.YtmmonhgfnmeieaaGreatDoor.PC
