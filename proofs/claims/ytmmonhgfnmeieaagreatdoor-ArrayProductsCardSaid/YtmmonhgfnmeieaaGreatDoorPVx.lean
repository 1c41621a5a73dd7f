-- by wip/tool/mine.py of this repo (the kit's printer with given contracts)
import Derived.Test.YtmmonhgfnmeieaaGreatDoorProg
import Derived.Test.YtmmonhgfnmeieaaGreatDoorMine
namespace Go.Proofs.YtmmonhgfnmeieaaGreatDoor.PV
open Go.RowKit Go.ZPWords Go.ZPLast Go.ZPMore
attribute [local go_sem] max2_int min2_int max_two min_two max_three min_three max_four min_four   -- for this text's walks alone
set_option linter.unusedVariables false
set_option linter.unusedSimpArgs false
set_option maxHeartbeats 8000000
set_option maxRecDepth 100000
def errW : Option Int → Value
 | none => .nilIface
 | some c => .iface 0 (.int .i64 c)
theorem errW_none : errW none = .nilIface := rfl
theorem errW_some (c : Int) : errW (some c) = .iface 0 (.int .i64 c) := rfl
/-! ### shape_Right: function 30 -/
def shape_Right.l0 : Nat → List Int → Int → List Int → Int → Int → Option (Bool)
 | 0, _, _, _, _, _ => none
 | k + 1, x0, x3, x6, x7, x8 => if x8 < x7 then (if 0 ≤ x8 then (if x8 < (x6.length : Int) then (if (rd x6 x8) < 1 then (some false) else (if (rd x6 x8) > 64 then (some false) else (if (x0.length : Int) > 4 then (some false) else (shape_Right.l0 k x0 (wrap64 (x3 * (rd x6 x8))) x6 x7 (wrap64 (x8 + 1)))))) else (none)) else (none)) else (some (decide (x3 ≤ 64)))
def shape_Right.f (k : Nat) (l0 : List Int) : Option (Bool) := shape_Right.l0 k l0 1 l0 (l0.length : Int) 0
theorem shape_Right.calls (k : Nat) (A0 : Option Addr) (c0 : Nat) (l0 : List Int) (r : Bool) (w : World) (hr0 : Kd.C (Kd.int .i64) w A0 l0.length l0) (hc0 : l0.length ≤ c0) (h : shape_Right.f k l0 = some r) :
  Calls Tryz.prog 30 #[.slice A0 l0.length c0] w fun e w' => e = .returned (.bool r) ∧ Drawn0 w w' := by
 have b2 := A_ hr0;have q3 := A_ hc0;clear hr0 hc0;unfold shape_Right.f at h;have H := h;clear h;have H' := A_ H;clear H;go_enter Tryz.func30, Tryz.ntmps30;go_wp2;go_loopg [3, 8] k (fun kq v3 v8 w' => ∃ (f1 : Int) (v0 : Int), v3 = .int .i64 f1 ∧ v8 = .int .i64 v0 ∧ Aside0 (shape_Right.l0 kq l0 f1 l0 (l0.length : Int) v0 = some r) ∧ Aside0 (kq ≤ k) ∧ Drawn0 w w')
 case atStart => exact ⟨(1), (0), S1_, S1_, H', ⟨Nat.le_refl _⟩, by repeat (first | exact Drawn0.refl _ | apply Drawn0.step)⟩
 clear H';obtain ⟨f1, v0, rfl, rfl, HA, HK1, ⟨m1, rfl⟩⟩ := hrel
 cases gk with
 | zero => exact absurd HA.out (by simp [shape_Right.l0])
 | succ k1 => ?_
 have H := HA.out;clear HA;simp only [shape_Right.l0] at H;replace H := ID_ H;rcases H with ⟨a6, H⟩ | ⟨a6, H⟩
 · revert H;refine YD_ fun n2 H => ?_;revert H;refine YD_ fun b1 H => ?_;replace H := ID_ H;rcases H with ⟨o2, H⟩ | ⟨o2, H⟩
   · obtain rfl := Option.some.inj H;obtain ⟨l2, rfl, r3, s3, g1⟩ := AI_ b2.out v0;go_wp2;go_ret;exact ⟨S1_, by repeat (first | exact Drawn0.refl _ | apply Drawn0.step)⟩
   by_cases c6 : (rd l0 v0) > 64
   · rw [if_pos c6] at H;have p2 : decide (64 < (rd l0 v0)) = true := decide_eq_true c6;clear c6;obtain rfl := Option.some.inj H;obtain ⟨l2, rfl, r3, s3, g1⟩ := AI_ b2.out v0;go_wp2;go_ret;exact ⟨S1_, by repeat (first | exact Drawn0.refl _ | apply Drawn0.step)⟩
   rw [if_neg c6] at H;have p2 : decide (64 < (rd l0 v0)) = false := decide_eq_false c6;clear c6;by_cases c7 : (l0.length : Int) > 4
   · rw [if_pos c7] at H;have q2 : decide (4 < (l0.length : Int)) = true := decide_eq_true c7;have t3 : decide (4 < l0.length) = true := decide_eq_true (by omega);clear c7;obtain rfl := Option.some.inj H;obtain ⟨l2, rfl, r3, s3, g1⟩ := AI_ b2.out v0;go_wp2;go_ret;exact ⟨S1_, by repeat (first | exact Drawn0.refl _ | apply Drawn0.step)⟩
   rw [if_neg c7] at H;have q2 : decide (4 < (l0.length : Int)) = false := decide_eq_false c7;have t3 : decide (4 < l0.length) = false := decide_eq_false (by omega);clear c7;have H' := A_ H;clear H;obtain ⟨l2, rfl, r3, s3, g1⟩ := AI_ b2.out v0;go_wp2;go_roundg k1
   case measure => have := HK1.out; omega
   case rel => exact ⟨(wrap64 (f1 * (rd l0 v0))), (wrap64 (v0 + 1)), S1_, S1_, H', ⟨by have := HK1.out; omega⟩, by repeat (first | exact Drawn0.refl _ | apply Drawn0.step)⟩
 obtain rfl := Option.some.inj H;go_wp2;go_ret;exact ⟨S1_, by repeat (first | exact Drawn0.refl _ | apply Drawn0.step)⟩
/-! ### shape_Size: function 31 -/
def shape_Size.l0 : Nat → Int → List Int → Int → Int → Option (Int)
 | 0, _, _, _, _ => none
 | k + 1, x3, x9, j7, d4 => if d4 < j7 then (if 0 ≤ d4 then (if d4 < (x9.length : Int) then (shape_Size.l0 k (wrap64 (x3 * (rd x9 d4))) x9 j7 (wrap64 (d4 + 1))) else (none)) else (none)) else (some x3)
def shape_Size.f (k : Nat) (l0 : List Int) : Option (Int) := (shape_Right.f k l0).bind fun e4 => (if e4 = true then (shape_Size.l0 k 1 l0 (l0.length : Int) 0) else (some 0))
theorem shape_Size.calls (k : Nat) (A0 : Option Addr) (c0 : Nat) (l0 : List Int) (r : Int) (w : World) (hr0 : Kd.C (Kd.int .i64) w A0 l0.length l0) (hc0 : l0.length ≤ c0) (h : shape_Size.f k l0 = some r) :
  Calls Tryz.prog 31 #[.slice A0 l0.length c0] w fun e w' => e = .returned (.int .i64 r) ∧ Drawn0 w w' := by
 have b2 := A_ hr0;have q3 := A_ hc0;clear hr0 hc0;unfold shape_Size.f at h;have H := h;clear h;revert H;refine BV_ fun e4 A2 H => ?_;replace H := BI_ H;rcases H with ⟨rfl, H⟩ | ⟨rfl, H⟩
 · have H' := A_ H;clear H;go_enter Tryz.func31, Tryz.ntmps31;go_wp2_with (first | (refine GL_ 30 7 Tryz.func30 #[.slice A0 l0.length c0] ?_; (with_reducible refine (shape_Right.calls k _ _ l0 true _ (C1_ b2.out) q3.out A2.out).mono ?_); rintro e w' ⟨rfl, ⟨nd, rfl⟩⟩; refine ⟨_, rfl, ?_⟩));go_loopg [3, 11] k (fun kq v3 v11 w' => ∃ (f1 : Int) (e1 : Int), v3 = .int .i64 f1 ∧ v11 = .int .i64 e1 ∧ Aside0 (shape_Size.l0 kq f1 l0 (l0.length : Int) e1 = some r) ∧ Aside0 (kq ≤ k) ∧ Drawn0 w w')
   case atStart => exact ⟨(1), (0), S1_, S1_, H', ⟨Nat.le_refl _⟩, by repeat (first | exact Drawn0.refl _ | apply Drawn0.step)⟩
   clear H';obtain ⟨f1, e1, rfl, rfl, HA, HK1, ⟨m1, rfl⟩⟩ := hrel
   cases gk with
   | zero => exact absurd HA.out (by simp [shape_Size.l0])
   | succ k1 => ?_
   have H := HA.out;clear HA;simp only [shape_Size.l0] at H;replace H := ID_ H;rcases H with ⟨b1, H⟩ | ⟨b1, H⟩
   · revert H;refine YD_ fun o2 H => ?_;revert H;refine YD_ fun p2 H => ?_;have H' := A_ H;clear H;obtain ⟨k7, rfl, b8, d8, t4⟩ := AI_ b2.out e1;go_wp2;go_roundg k1
     case measure => have := HK1.out; omega
     case rel => exact ⟨(wrap64 (f1 * (rd l0 e1))), (wrap64 (e1 + 1)), S1_, S1_, H', ⟨by have := HK1.out; omega⟩, by repeat (first | exact Drawn0.refl _ | apply Drawn0.step)⟩
   obtain rfl := Option.some.inj H;go_wp2;go_ret;exact ⟨S1_, by repeat (first | exact Drawn0.refl _ | apply Drawn0.step)⟩
 obtain rfl := Option.some.inj H;go_enter Tryz.func31, Tryz.ntmps31;go_wp2_with (first | (refine GL_ 30 7 Tryz.func30 #[.slice A0 l0.length c0] ?_; (with_reducible refine (shape_Right.calls k _ _ l0 false _ (C1_ b2.out) q3.out A2.out).mono ?_); rintro e w' ⟨rfl, ⟨nd, rfl⟩⟩; refine ⟨_, rfl, ?_⟩));go_ret;exact ⟨S1_, by repeat (first | exact Drawn0.refl _ | apply Drawn0.step)⟩
/-! ### slices_Equal_int_int: function 63 -/
def slices_Equal_int_int.l0 : Nat → List Int → List Int → Int → Int → Option (Bool)
 | 0, _, _, _, _ => none
 | k + 1, x0, x1, l7, r2 => if r2 < l7 then (if 0 ≤ r2 then (if r2 < (x0.length : Int) then (if r2 < (x1.length : Int) then (if (rd x0 r2) = (rd x1 r2) then (slices_Equal_int_int.l0 k x0 x1 l7 (wrap64 (r2 + 1))) else (some false)) else (none)) else (none)) else (none)) else (some true)
def slices_Equal_int_int.f (k : Nat) (l0 : List Int) (l1 : List Int) : Option (Bool) := if (l0.length : Int) = (l1.length : Int) then (slices_Equal_int_int.l0 k l0 l1 (l0.length : Int) 0) else (some false)
theorem slices_Equal_int_int.calls (k : Nat) (A0 : Option Addr) (c0 : Nat) (l0 : List Int) (A1 : Option Addr) (c1 : Nat) (l1 : List Int) (r : Bool) (w : World) (hr0 : Kd.C (Kd.int .i64) w A0 l0.length l0) (hc0 : l0.length ≤ c0) (hr1 : Kd.C (Kd.int .i64) w A1 l1.length l1) (hc1 : l1.length ≤ c1) (h : slices_Equal_int_int.f k l0 l1 = some r) :
  Calls Tryz.prog 63 #[.slice A0 l0.length c0, .slice A1 l1.length c1] w fun e w' => e = .returned (.bool r) ∧ Drawn0 w w' := by
 have b2 := A_ hr0;have q3 := A_ hc0;clear hr0 hc0;have u3 := A_ hr1;have b6 := A_ hc1;clear hr1 hc1;unfold slices_Equal_int_int.f at h;have H := h;clear h;replace H := EQ_ H;rcases H with ⟨c3, n2, y3, H⟩ | ⟨c3, n2, y3, H⟩
 · have z3 : (l0.length == l1.length) = true := by first | simpa using c3 | (simp at c3 ⊢; omega)
   clear c3;have H' := A_ H;clear H;go_enter Tryz.func63, Tryz.ntmps63;go_wp2;repeat (go_quiet (fail); try go_wp2)
   go_loopg [13] k (fun kq v13 w' => ∃ (i0 : Int), v13 = .int .i64 i0 ∧ Aside0 (slices_Equal_int_int.l0 kq l0 l1 (l0.length : Int) i0 = some r) ∧ Aside0 (kq ≤ k) ∧ Drawn0 w w')
   case atStart => exact ⟨(0), S1_, H', ⟨Nat.le_refl _⟩, by repeat (first | exact Drawn0.refl _ | apply Drawn0.step)⟩
   clear H';obtain ⟨i0, rfl, HA, HK1, ⟨m1, rfl⟩⟩ := hrel
   cases gk with
   | zero => exact absurd HA.out (by simp [slices_Equal_int_int.l0])
   | succ k1 => ?_
   have H := HA.out;clear HA;simp only [slices_Equal_int_int.l0] at H;replace H := ID_ H;rcases H with ⟨b1, H⟩ | ⟨b1, H⟩
   · revert H;refine YD_ fun o2 H => ?_;revert H;refine YD_ fun p2 H => ?_;revert H;refine YD_ fun q2 H => ?_;replace H := EQ_ H;rcases H with ⟨-, a4, d6, H⟩ | ⟨c8, a4, d6, H⟩
     · have H' := A_ H;clear H;obtain ⟨f4, rfl, e6, f6, s2⟩ := AI_ b2.out i0;obtain ⟨g4, rfl, g6, h6, t2⟩ := AI_ u3.out i0;go_wp2;repeat (go_quiet (fail); try go_wp2)
       go_roundg k1
       case measure => have := HK1.out; omega
       case rel => exact ⟨(wrap64 (i0 + 1)), S1_, H', ⟨by have := HK1.out; omega⟩, by repeat (first | exact Drawn0.refl _ | apply Drawn0.step)⟩
     obtain rfl := Option.some.inj H;obtain ⟨f4, rfl, e6, f6, s2⟩ := AI_ b2.out i0;obtain ⟨g4, rfl, g6, h6, t2⟩ := AI_ u3.out i0;go_wp2;repeat (go_quiet (fail); try go_wp2)
     go_ret;exact ⟨S1_, by repeat (first | exact Drawn0.refl _ | apply Drawn0.step)⟩
   obtain rfl := Option.some.inj H;go_wp2;repeat (go_quiet (fail); try go_wp2)
   go_ret;exact ⟨S1_, by repeat (first | exact Drawn0.refl _ | apply Drawn0.step)⟩
 have z3 : (l0.length == l1.length) = false := by first | simpa using c3 | (simp at c3 ⊢; omega)
 obtain rfl := Option.some.inj H;go_enter Tryz.func63, Tryz.ntmps63;go_wp2;repeat (go_quiet (fail); try go_wp2)
 go_ret;exact ⟨S1_, by repeat (first | exact Drawn0.refl _ | apply Drawn0.step)⟩
/-! ### shape_Same: function 42 -/
def shape_Same.f (k : Nat) (l0 : List Int) (l1 : List Int) : Option (Bool) := (slices_Equal_int_int.f k l0 l1).bind fun b4 => (some b4)
/-! ### rf4_Same: function 28 -/
def rf4_Same.l0 : Nat → List Int → List Int → Int → Option (Bool)
 | 0, _, _, _ => none
 | k + 1, x0, x1, x5 => if x5 < (x0.length : Int) then (if 0 ≤ x5 then (if x5 < (x1.length : Int) then (if (rd x0 x5) = (rd x1 x5) then (rf4_Same.l0 k x0 x1 (wrap64 (x5 + 1))) else (some false)) else (none)) else (none)) else (some true)
def rf4_Same.f (k : Nat) (l0 : List Int) (l1 : List Int) : Option (Bool) := if (l0.length : Int) = (l1.length : Int) then (rf4_Same.l0 k l0 l1 0) else (some false)
theorem rf4_Same.calls (k : Nat) (A0 : Option Addr) (c0 : Nat) (l0 : List Int) (A1 : Option Addr) (c1 : Nat) (l1 : List Int) (r : Bool) (w : World) (hr0 : Kd.C (Kd.int .i64) w A0 l0.length l0) (hc0 : l0.length ≤ c0) (hr1 : Kd.C (Kd.int .i64) w A1 l1.length l1) (hc1 : l1.length ≤ c1) (h : rf4_Same.f k l0 l1 = some r) :
  Calls Tryz.prog 28 #[.slice A0 l0.length c0, .slice A1 l1.length c1] w fun e w' => e = .returned (.bool r) ∧ Drawn0 w w' := by
 have b2 := A_ hr0;have q3 := A_ hc0;clear hr0 hc0;have u3 := A_ hr1;have b6 := A_ hc1;clear hr1 hc1;unfold rf4_Same.f at h;have H := h;clear h;replace H := EQ_ H;rcases H with ⟨c3, n2, y3, H⟩ | ⟨c3, n2, y3, H⟩
 · have z3 : (l0.length == l1.length) = true := by first | simpa using c3 | (simp at c3 ⊢; omega)
   clear c3;have H' := A_ H;clear H;go_enter Tryz.func28, Tryz.ntmps28;go_wp2;repeat (go_quiet (fail); try go_wp2)
   go_loopg [5] k (fun kq v5 w' => ∃ (o1 : Int), v5 = .int .i64 o1 ∧ Aside0 (rf4_Same.l0 kq l0 l1 o1 = some r) ∧ Aside0 (kq ≤ k) ∧ Drawn0 w w')
   case atStart => exact ⟨(0), S1_, H', ⟨Nat.le_refl _⟩, by repeat (first | exact Drawn0.refl _ | apply Drawn0.step)⟩
   clear H';obtain ⟨o1, rfl, HA, HK1, ⟨m1, rfl⟩⟩ := hrel
   cases gk with
   | zero => exact absurd HA.out (by simp [rf4_Same.l0])
   | succ k1 => ?_
   have H := HA.out;clear HA;simp only [rf4_Same.l0] at H;replace H := ID_ H;rcases H with ⟨b1, H⟩ | ⟨b1, H⟩
   · revert H;refine YD_ fun o2 H => ?_;revert H;refine YD_ fun p2 H => ?_;replace H := EQ_ H;rcases H with ⟨-, q2, t3, H⟩ | ⟨c7, q2, t3, H⟩
     · have H' := A_ H;clear H;obtain ⟨h4, rfl, i6, j6, u2⟩ := AI_ b2.out o1;obtain ⟨i4, rfl, k6, l6, v2⟩ := AI_ u3.out o1;go_wp2;repeat (go_quiet (fail); try go_wp2)
       go_roundg k1
       case measure => have := HK1.out; omega
       case rel => exact ⟨(wrap64 (o1 + 1)), S1_, H', ⟨by have := HK1.out; omega⟩, by repeat (first | exact Drawn0.refl _ | apply Drawn0.step)⟩
     obtain rfl := Option.some.inj H;obtain ⟨h4, rfl, i6, j6, u2⟩ := AI_ b2.out o1;obtain ⟨i4, rfl, k6, l6, v2⟩ := AI_ u3.out o1;go_wp2;repeat (go_quiet (fail); try go_wp2)
     go_ret;exact ⟨S1_, by repeat (first | exact Drawn0.refl _ | apply Drawn0.step)⟩
   obtain rfl := Option.some.inj H;go_wp2;repeat (go_quiet (fail); try go_wp2)
   go_ret;exact ⟨S1_, by repeat (first | exact Drawn0.refl _ | apply Drawn0.step)⟩
 have z3 : (l0.length == l1.length) = false := by first | simpa using c3 | (simp at c3 ⊢; omega)
 obtain rfl := Option.some.inj H;go_enter Tryz.func28, Tryz.ntmps28;go_wp2;repeat (go_quiet (fail); try go_wp2)
 go_ret;exact ⟨S1_, by repeat (first | exact Drawn0.refl _ | apply Drawn0.step)⟩
/-! ### rf5_Small: function 12 -/
mutual
def rf5_Small.j0 : Nat → Bool → List Int → List ByteArray → Option (Bool)
 | 0, _, _, _ => none
 | k + 1, r2, i1, o0 => if r2 = true then (some false) else (rf5_Small.l0 k 0 i1 o0)
def rf5_Small.l0 : Nat → Int → List Int → List ByteArray → Option (Bool)
 | 0, _, _, _ => none
 | k + 1, x3, i1, o0 => if x3 < (o0.length : Int) then (if 0 ≤ x3 then (if ((rdOf ByteArray.empty o0 x3).size : Int) > 40 then (some false) else (rf5_Small.l0 k (wrap64 (x3 + 1)) i1 o0)) else (none)) else (some true)
end
def rf5_Small.f (k : Nat) (b0 : List Int) (d0 : List ByteArray) : Option (Bool) := if (b0.length : Int) > 10 then (rf5_Small.j0 k true b0 d0) else (rf5_Small.j0 k (decide ((d0.length : Int) > 70)) b0 d0)
theorem rf5_Small.calls (k : Nat) (r0 : Option Addr) (s0 : Nat) (b0 : List Int) (t0 : Option Addr) (u0 : Nat) (d0 : List ByteArray) (r : Bool) (w : World) (p1 : Kd.C (Kd.int .i64) w r0 b0.length b0) (q1 : b0.length ≤ s0) (r1 : Kd.C Kd.string w t0 d0.length d0) (s1 : d0.length ≤ u0) (h : rf5_Small.f k b0 d0 = some r) :
  Calls Tryz.prog 12 #[.agg #[.slice r0 b0.length s0, .slice t0 d0.length u0]] w fun e w' => e = .returned (.bool r) ∧ Below w.heap.size w w' := by
 have hu25 := Tryz.underlying25;have t1 := A_ p1;have u1 := A_ q1;clear p1 q1;have v1 := A_ r1;have j4 := A_ s1;clear r1 s1;have HB := A_ (Below.refl w.heap.size w);unfold rf5_Small.f at h;have H := h;clear h;have m6 := A_ H;clear H;go_enter Tryz.func12, Tryz.ntmps12;go_upto_region 1 with (first | ((with_reducible refine gate_dst (N := 1) rfl ?_); (try (refine gate_guard (by rfl) ?_; dsimp only)); refine BX_ 1 #[.slice r0 b0.length s0, .slice t0 d0.length u0] 25 ?_; intro i3 hg w3 hbox hb; have m0 := A_ (hbox); have m7 := GE_ hg; replace HB := BS_ hb; clear hb hbox hg));(try simp only [Act.put, List.setIfInBounds_toArray, List.set_cons_zero, List.set_cons_succ]);go_cut [13] (fun v13 wc => ∃ (kq : Nat) (i0 : Bool), v13 = .bool i0 ∧ Aside0 (rf5_Small.j0 kq i0 b0 d0 = some r) ∧ Aside0 (kq ≤ k) ∧ Aside0 (wc.heap[i3]? = some (.cells #[(.slice r0 b0.length s0), (.slice t0 d0.length u0)] 25 (0, 0))) ∧ Aside0 (Below w.heap.size w wc))
 case first =>
  have H := m6.out;clear m6;by_cases c4 : (b0.length : Int) > 10
  · rw [if_pos c4] at H;have b1 : decide (10 < (b0.length : Int)) = true := decide_eq_true c4;have n6 : decide (10 < b0.length) = true := decide_eq_true (by omega);clear c4;(first | rw [b1] | (simp only [i64_w, i32_w]; rw [b1]) | skip);have H' := A_ H;clear H;obtain ⟨o6, p6, q6, r6⟩ := CF_ m0;go_wp2;go_meet
    case rel => exact ⟨_, (true), S1_, H', ⟨OM_⟩, BW_ m0, ⟨T9_⟩⟩
  rw [if_neg c4] at H;have b1 : decide (10 < (b0.length : Int)) = false := decide_eq_false c4;have n6 : decide (10 < b0.length) = false := decide_eq_false (by omega);clear c4;(first | rw [b1] | (simp only [i64_w, i32_w]; rw [b1]) | skip);have H' := A_ H;clear H;obtain ⟨s6, t6, u6, v6⟩ := CF_ m0;go_wp2;go_meet
  case rel => exact ⟨_, (decide ((d0.length : Int) > 70)), S1_, H', ⟨OM_⟩, BW_ m0, ⟨T9_⟩⟩
 clear m6;obtain ⟨kq, i0, rfl, HA, n7, m0, HB⟩ := hcut
 cases kq with
 | zero => exact absurd HA.out (by simp [rf5_Small.j0])
 | succ kj1 => ?_
 have H := HA.out;clear HA;simp only [rf5_Small.j0] at H;replace H := BI_ H;rcases H with ⟨rfl, H⟩ | ⟨rfl, H⟩
 · obtain rfl := Option.some.inj H;go_wp2;go_ret;exact ⟨T4_, T9_⟩
 have H' := A_ H;clear H;go_wp2;go_loopg [3] kj1 (fun kq v3 w' => ∃ (d1 : Int), v3 = .int .i64 d1 ∧ Aside0 (rf5_Small.l0 kq d1 b0 d0 = some r) ∧ Aside0 (kq ≤ kj1) ∧ Aside0 (w'.heap[i3]? = some (.cells #[(.slice r0 b0.length s0), (.slice t0 d0.length u0)] 25 (0, 0))) ∧ Aside0 (Below w.heap.size w w'))
 case atStart => exact ⟨(0), S1_, H', ⟨Nat.le_refl _⟩, BW_ m0, ⟨T9_⟩⟩
 clear H';obtain ⟨d1, rfl, HA, HK2, m0, HB⟩ := hrel
 cases gk with
 | zero => exact absurd HA.out (by simp [rf5_Small.l0])
 | succ k2 => ?_
 have H := HA.out;clear HA;simp only [rf5_Small.l0] at H;replace H := ID_ H;rcases H with ⟨a4, H⟩ | ⟨a4, H⟩
 · revert H;refine YD_ fun e8 H => ?_;by_cases c10 : ((rdOf ByteArray.empty d0 d1).size : Int) > 40
   · rw [if_pos c10] at H;have k4 : decide (40 < ((rdOf ByteArray.empty d0 d1).size : Int)) = true := decide_eq_true c10;have l4 : decide (40 < (rdOf ByteArray.empty d0 d1).size) = true := decide_eq_true (by omega);clear c10;obtain rfl := Option.some.inj H;obtain ⟨u4, v4, x4, y4⟩ := CF_ m0;obtain ⟨m4, rfl, w6, y6, w2⟩ := ASH_ HB v1.out d1;go_wp2;go_ret;exact ⟨T4_, T9_⟩
   rw [if_neg c10] at H;have k4 : decide (40 < ((rdOf ByteArray.empty d0 d1).size : Int)) = false := decide_eq_false c10;have l4 : decide (40 < (rdOf ByteArray.empty d0 d1).size) = false := decide_eq_false (by omega);clear c10;have H' := A_ H;clear H;obtain ⟨x2, y2, z2, a3⟩ := CF_ m0;obtain ⟨m4, rfl, w6, y6, w2⟩ := ASH_ HB v1.out d1;go_wp2;go_roundg k2
   case measure => have := n7.out; have := HK2.out; omega
   case rel => exact ⟨(wrap64 (d1 + 1)), S1_, H', ⟨by have := n7.out; have := HK2.out; omega⟩, BW_ m0, ⟨T9_⟩⟩
 obtain rfl := Option.some.inj H;obtain ⟨b3, d3, e3, f3⟩ := CF_ m0;go_wp2;go_ret;exact ⟨T4_, T9_⟩
/-! ### rf5_Equal: function 15 -/
mutual
def rf5_Equal.j0 : Nat → Bool → List Int → List ByteArray → List Int → List ByteArray → Option (Bool)
 | 0, _, _, _, _, _ => none
 | k + 1, f8, j1, p0, n1, q0 => if f8 = true then (some false) else (rf5_Equal.l0 k 0 j1 p0 n1 q0)
def rf5_Equal.l0 : Nat → Int → List Int → List ByteArray → List Int → List ByteArray → Option (Bool)
 | 0, _, _, _, _, _ => none
 | k + 1, x5, j1, p0, n1, q0 => if x5 < (p0.length : Int) then (if 0 ≤ x5 then (if x5 < (q0.length : Int) then (if (rdOf ByteArray.empty p0 x5).toList = (rdOf ByteArray.empty q0 x5).toList then (rf5_Equal.l0 k (wrap64 (x5 + 1)) j1 p0 n1 q0) else (some false)) else (none)) else (none)) else (some true)
end
def rf5_Equal.f (k : Nat) (b0 : List Int) (d0 : List ByteArray) (h0 : List Int) (n0 : List ByteArray) : Option (Bool) := (rf4_Same.f k b0 h0).bind fun n4 => (if n4 = true then (rf5_Equal.j0 k ((d0.length : Int) != (n0.length : Int)) b0 d0 h0 n0) else (rf5_Equal.j0 k true b0 d0 h0 n0))
theorem rf5_Equal.calls (k : Nat) (r0 : Option Addr) (s0 : Nat) (b0 : List Int) (t0 : Option Addr) (u0 : Nat) (d0 : List ByteArray) (c2 : Option Addr) (d2 : Nat) (h0 : List Int) (e2 : Option Addr) (f2 : Nat) (n0 : List ByteArray) (r : Bool) (w : World) (p1 : Kd.C (Kd.int .i64) w r0 b0.length b0) (q1 : b0.length ≤ s0) (r1 : Kd.C Kd.string w t0 d0.length d0) (s1 : d0.length ≤ u0) (j3 : Kd.C (Kd.int .i64) w c2 h0.length h0) (k3 : h0.length ≤ d2) (l3 : Kd.C Kd.string w e2 n0.length n0) (m3 : n0.length ≤ f2) (h : rf5_Equal.f k b0 d0 h0 n0 = some r) :
  Calls Tryz.prog 15 #[.agg #[.slice r0 b0.length s0, .slice t0 d0.length u0], .agg #[.slice c2 h0.length d2, .slice e2 n0.length f2]] w fun e w' => e = .returned (.bool r) ∧ Below w.heap.size w w' := by
 have hu25 := Tryz.underlying25;have t1 := A_ p1;have u1 := A_ q1;clear p1 q1;have v1 := A_ r1;have j4 := A_ s1;clear r1 s1;have g2 := A_ j3;have h2 := A_ k3;clear j3 k3;have n3 := A_ l3;have o7 := A_ m3;clear l3 m3;have HB := A_ (Below.refl w.heap.size w);unfold rf5_Equal.f at h;have H := h;clear h;have z6 := A_ H;clear H;go_enter Tryz.func15, Tryz.ntmps15;go_upto_region 1 with (first | ((with_reducible refine gate_dst (N := 2) rfl ?_); (try (refine gate_guard (by rfl) ?_; dsimp only)); refine BX_ 2 #[.slice r0 b0.length s0, .slice t0 d0.length u0] 25 ?_; intro i2 hg w4 hbox hb; have e0 := A_ (hbox); have o3 := GE_ hg; replace HB := BS_ hb; clear hb hbox hg) | ((with_reducible refine gate_dst (N := 3) rfl ?_); (try (refine gate_guard (by rfl) ?_; dsimp only)); refine BX_ 3 #[.slice c2 h0.length d2, .slice e2 n0.length f2] 25 ?_; intro j2 hg w5 hbox hb; have k0 := A_ (hbox); have p3 := GE_ hg; replace HB := BU_ hb; have f0 := NB_ e0 hg; have g0 := NC_ e0 hg; replace e0 := BF_ e0 hb; clear hb hbox hg));repeat (go_quiet (first | ((with_reducible refine gate_dst (N := 2) rfl ?_); (try (refine gate_guard (by rfl) ?_; dsimp only)); refine BX_ 2 #[.slice r0 b0.length s0, .slice t0 d0.length u0] 25 ?_; intro i2 hg w4 hbox hb; have e0 := A_ (hbox); have o3 := GE_ hg; replace HB := BS_ hb; clear hb hbox hg) | ((with_reducible refine gate_dst (N := 3) rfl ?_); (try (refine gate_guard (by rfl) ?_; dsimp only)); refine BX_ 3 #[.slice c2 h0.length d2, .slice e2 n0.length f2] 25 ?_; intro j2 hg w5 hbox hb; have k0 := A_ (hbox); have p3 := GE_ hg; replace HB := BU_ hb; have f0 := NB_ e0 hg; have g0 := NC_ e0 hg; replace e0 := BF_ e0 hb; clear hb hbox hg)); go_upto_region 1 with (first | ((with_reducible refine gate_dst (N := 2) rfl ?_); (try (refine gate_guard (by rfl) ?_; dsimp only)); refine BX_ 2 #[.slice r0 b0.length s0, .slice t0 d0.length u0] 25 ?_; intro i2 hg w4 hbox hb; have e0 := A_ (hbox); have o3 := GE_ hg; replace HB := BS_ hb; clear hb hbox hg) | ((with_reducible refine gate_dst (N := 3) rfl ?_); (try (refine gate_guard (by rfl) ?_; dsimp only)); refine BX_ 3 #[.slice c2 h0.length d2, .slice e2 n0.length f2] 25 ?_; intro j2 hg w5 hbox hb; have k0 := A_ (hbox); have p3 := GE_ hg; replace HB := BU_ hb; have f0 := NB_ e0 hg; have g0 := NC_ e0 hg; replace e0 := BF_ e0 hb; clear hb hbox hg)))
 (try simp only [Act.put, List.setIfInBounds_toArray, List.set_cons_zero, List.set_cons_succ]);go_cut [20] (fun v20 wc => ∃ (kq : Nat) (m2 : Bool), v20 = .bool m2 ∧ Aside0 (rf5_Equal.j0 kq m2 b0 d0 h0 n0 = some r) ∧ Aside0 (kq ≤ k) ∧ Aside0 (wc.heap[i2]? = some (.cells #[(.slice r0 b0.length s0), (.slice t0 d0.length u0)] 25 (0, 0))) ∧ Aside0 (wc.heap[j2]? = some (.cells #[(.slice c2 h0.length d2), (.slice e2 n0.length f2)] 25 (0, 0))) ∧ Aside0 (Below w.heap.size w wc))
 case first =>
  have H := z6.out;clear z6;revert H;refine BV_ fun n4 A6 H => ?_;replace H := BI_ H;rcases H with ⟨rfl, H⟩ | ⟨rfl, H⟩
  · have H' := A_ H;clear H;have g8 := f0.out;have h8 := g0.out;obtain ⟨a7, b7, d7, e7⟩ := CF_ e0;obtain ⟨z4, a5, b5, c5⟩ := CF_ k0;iterate 3 ((try go_wp2_with (first | (go_at_call 28; (with_reducible refine (rf4_Same.calls k _ _ b0 _ _ h0 true _ (CW_ t1) u1.out (CW_ g2) h2.out A6.out).mono ?_); rintro e w' ⟨rfl, ⟨nd, rfl⟩⟩; (try first | exact ⟨rfl, _, World.drewN_drewN _ _ _⟩ | exact ⟨rfl, _, Eq.trans (World.drewN_drewN _ _ _) (congrArg (World.drewN _) (Nat.add_assoc _ _ _))⟩)))); (try go_quiet (first | (go_at_call 28; (with_reducible refine (rf4_Same.calls k _ _ b0 _ _ h0 true _ (CW_ t1) u1.out (CW_ g2) h2.out A6.out).mono ?_); rintro e w' ⟨rfl, ⟨nd, rfl⟩⟩; (try first | exact ⟨rfl, _, World.drewN_drewN _ _ _⟩ | exact ⟨rfl, _, Eq.trans (World.drewN_drewN _ _ _) (congrArg (World.drewN _) (Nat.add_assoc _ _ _))⟩)))))
    go_meet
    case rel => exact ⟨_, (((d0.length : Int) != (n0.length : Int))), S1_, H', ⟨OM_⟩, BW_ e0, BW_ k0, ⟨T9_⟩⟩
  have H' := A_ H;clear H;have p7 := f0.out;have q7 := g0.out;obtain ⟨x2, y2, z2, a3⟩ := CF_ e0;obtain ⟨b3, d3, e3, f3⟩ := CF_ k0;iterate 3 ((try go_wp2_with (first | (go_at_call 28; (with_reducible refine (rf4_Same.calls k _ _ b0 _ _ h0 false _ (CW_ t1) u1.out (CW_ g2) h2.out A6.out).mono ?_); rintro e w' ⟨rfl, ⟨nd, rfl⟩⟩; (try first | exact ⟨rfl, _, World.drewN_drewN _ _ _⟩ | exact ⟨rfl, _, Eq.trans (World.drewN_drewN _ _ _) (congrArg (World.drewN _) (Nat.add_assoc _ _ _))⟩)))); (try go_quiet (first | (go_at_call 28; (with_reducible refine (rf4_Same.calls k _ _ b0 _ _ h0 false _ (CW_ t1) u1.out (CW_ g2) h2.out A6.out).mono ?_); rintro e w' ⟨rfl, ⟨nd, rfl⟩⟩; (try first | exact ⟨rfl, _, World.drewN_drewN _ _ _⟩ | exact ⟨rfl, _, Eq.trans (World.drewN_drewN _ _ _) (congrArg (World.drewN _) (Nat.add_assoc _ _ _))⟩)))))
  go_meet
  case rel => exact ⟨_, (true), S1_, H', ⟨OM_⟩, BW_ e0, BW_ k0, ⟨T9_⟩⟩
 clear z6;obtain ⟨kq, m2, rfl, HA, r7, e0, k0, HB⟩ := hcut
 cases kq with
 | zero => exact absurd HA.out (by simp [rf5_Equal.j0])
 | succ kj2 => ?_
 have H := HA.out;clear HA;simp only [rf5_Equal.j0] at H;replace H := BI_ H;rcases H with ⟨rfl, H⟩ | ⟨rfl, H⟩
 · obtain rfl := Option.some.inj H;go_wp2;repeat (go_quiet (fail); try go_wp2)
   go_ret;exact ⟨T4_, T9_⟩
 have H' := A_ H;clear H;go_wp2;repeat (go_quiet (fail); try go_wp2)
 go_loopg [5] kj2 (fun kq v5 w' => ∃ (a2 : Int), v5 = .int .i64 a2 ∧ Aside0 (rf5_Equal.l0 kq a2 b0 d0 h0 n0 = some r) ∧ Aside0 (kq ≤ kj2) ∧ Aside0 (w'.heap[i2]? = some (.cells #[(.slice r0 b0.length s0), (.slice t0 d0.length u0)] 25 (0, 0))) ∧ Aside0 (w'.heap[j2]? = some (.cells #[(.slice c2 h0.length d2), (.slice e2 n0.length f2)] 25 (0, 0))) ∧ Aside0 (Below w.heap.size w w'))
 case atStart => exact ⟨(0), S1_, H', ⟨Nat.le_refl _⟩, BW_ e0, BW_ k0, ⟨T9_⟩⟩
 clear H';obtain ⟨a2, rfl, HA, HK2, e0, k0, HB⟩ := hrel
 cases gk with
 | zero => exact absurd HA.out (by simp [rf5_Equal.l0])
 | succ k2 => ?_
 have H := HA.out;clear HA;simp only [rf5_Equal.l0] at H;replace H := ID_ H;rcases H with ⟨o4, H⟩ | ⟨o4, H⟩
 · revert H;refine YD_ fun s7 H => ?_;revert H;refine YD_ fun t7 H => ?_;replace H := EQ_ H;rcases H with ⟨-, p4, q4, H⟩ | ⟨c18, p4, q4, H⟩
   · have H' := A_ H;clear H;have u7 := f0.out;have v7 := g0.out;obtain ⟨d5, e5, f5, g5⟩ := CF_ e0;obtain ⟨r4, rfl, f7, g7, g3⟩ := ASH_ HB v1.out a2;obtain ⟨h5, i5, j5, k5⟩ := CF_ k0;obtain ⟨s4, rfl, h7, i7, h3⟩ := ASH_ HB n3.out a2;go_wp2;repeat (go_quiet (fail); try go_wp2)
     go_roundg k2
     case measure => have := r7.out; have := HK2.out; omega
     case rel => exact ⟨(wrap64 (a2 + 1)), S1_, H', ⟨by have := r7.out; have := HK2.out; omega⟩, BW_ e0, BW_ k0, ⟨T9_⟩⟩
   obtain rfl := Option.some.inj H;have w7 := f0.out;have y7 := g0.out;obtain ⟨l5, m5, n5, o5⟩ := CF_ e0;obtain ⟨r4, rfl, f7, g7, g3⟩ := ASH_ HB v1.out a2;obtain ⟨p5, q5, r5, s5⟩ := CF_ k0;obtain ⟨s4, rfl, h7, i7, h3⟩ := ASH_ HB n3.out a2;go_wp2;repeat (go_quiet (fail); try go_wp2)
   go_ret;exact ⟨T4_, T9_⟩
 obtain rfl := Option.some.inj H;have z7 := f0.out;have a8 := g0.out;obtain ⟨t5, u5, y5, z5⟩ := CF_ e0;go_wp2;repeat (go_quiet (fail); try go_wp2)
 go_ret;exact ⟨T4_, T9_⟩
end Go.Proofs.YtmmonhgfnmeieaaGreatDoor.PV
