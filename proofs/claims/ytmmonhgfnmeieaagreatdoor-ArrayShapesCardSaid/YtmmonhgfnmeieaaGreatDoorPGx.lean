-- by wip/tool/mine.py of this repo (the kit's printer with given contracts)
import Derived.Test.YtmmonhgfnmeieaaGreatDoorRX2
namespace Go.Proofs.YtmmonhgfnmeieaaGreatDoor.PG
open Go.RowKit Go.ZPWords Go.ZPLast Go.ZPMore
attribute [local go_sem] max2_int min2_int max_two min_two max_three min_three max_four min_four   -- for this text's walks alone
set_option linter.unusedVariables false
set_option linter.unusedSimpArgs false
set_option maxHeartbeats 8000000
set_option maxRecDepth 100000
def errW : Option Int → Value
 | none => .nilIface
 | some c => .iface 0 (.int .i64 c)
theorem errW_none : errW none = .nilIface := rfl
theorem errW_some (c : Int) : errW (some c) = .iface 0 (.int .i64 c) := rfl
/-! ### rf4_Right: function 26 -/
noncomputable def rf4_Right.l0 : Nat → List Int → Int → Int → Option (Bool)
 | 0, _, _, _ => none
 | k + 1, x0, x3, x4 => if x4 < (x0.length : Int) then (if 0 ≤ x4 then (if (rd x0 x4) < 1 then (some false) else (if (rd x0 x4) > 64 then (some false) else (if (wrap64 (x3 * (rd x0 x4))) > 64 then (some false) else (rf4_Right.l0 k x0 (wrap64 (x3 * (rd x0 x4))) (wrap64 (x4 + 1)))))) else (none)) else (some true)
noncomputable def rf4_Right.f (k : Nat) (l0 : List Int) : Option (Bool) := if (l0.length : Int) > 4 then (some false) else (rf4_Right.l0 k l0 1 0)
theorem rf4_Right.calls (k : Nat) (A0 : Option Addr) (c0 : Nat) (l0 : List Int) (r : Bool) (w : World) (hr0 : Kd.C (Kd.int .i64) w A0 l0.length l0) (hc0 : l0.length ≤ c0) (h : rf4_Right.f k l0 = some r) :
  Calls Tryz.prog 26 #[.slice A0 l0.length c0] w fun e w' => e = .returned (.bool r) ∧ Drawn0 w w' := by
 have f1 := A_ hr0;have k4 := A_ hc0;clear hr0 hc0;unfold rf4_Right.f at h;have H := h;clear h;by_cases c2 : (l0.length : Int) > 4
 · rw [if_pos c2] at H;have h2 : decide (4 < (l0.length : Int)) = true := decide_eq_true c2;have n3 : decide (4 < l0.length) = true := decide_eq_true (by omega);clear c2;obtain rfl := Option.some.inj H;go_enter Tryz.func26, Tryz.ntmps26;go_wp2;go_ret;exact ⟨S1_, by repeat (first | exact Drawn0.refl _ | apply Drawn0.step)⟩
 rw [if_neg c2] at H;have h2 : decide (4 < (l0.length : Int)) = false := decide_eq_false c2;have n3 : decide (4 < l0.length) = false := decide_eq_false (by omega);clear c2;have H' := A_ H;clear H;go_enter Tryz.func26, Tryz.ntmps26;go_wp2;go_loopg [3, 4] k (fun kq v3 v4 w' => ∃ (m0 : Int) (d0 : Int), v3 = .int .i64 m0 ∧ v4 = .int .i64 d0 ∧ Aside0 (rf4_Right.l0 kq l0 m0 d0 = some r) ∧ Aside0 (kq ≤ k) ∧ Drawn0 w w')
 case atStart => exact ⟨(1), (0), S1_, S1_, H', ⟨Nat.le_refl _⟩, by repeat (first | exact Drawn0.refl _ | apply Drawn0.step)⟩
 clear H';obtain ⟨m0, d0, rfl, rfl, HA, HK1, ⟨m1, rfl⟩⟩ := hrel
 cases gk with
 | zero => exact absurd HA.out (by simp [rf4_Right.l0])
 | succ k1 => ?_
 have H := HA.out;clear HA;simp only [rf4_Right.l0] at H;replace H := ID_ H;rcases H with ⟨n2, H⟩ | ⟨n2, H⟩
 · revert H;refine YD_ fun l4 H => ?_;replace H := ID_ H;rcases H with ⟨o3, H⟩ | ⟨o3, H⟩
   · obtain rfl := Option.some.inj H;obtain ⟨i0, rfl, i2, j2, t0⟩ := AI_ f1.out d0;go_wp2;go_ret;exact ⟨S1_, by repeat (first | exact Drawn0.refl _ | apply Drawn0.step)⟩
   by_cases c6 : (rd l0 d0) > 64
   · rw [if_pos c6] at H;have p3 : decide (64 < (rd l0 d0)) = true := decide_eq_true c6;clear c6;obtain rfl := Option.some.inj H;obtain ⟨i0, rfl, i2, j2, t0⟩ := AI_ f1.out d0;have n0 : 0 ≤ (d0 : Int) := DA_;have o0 : d0 < (l0.length : Int) := DA_;obtain ⟨v0, e102, d1⟩ := Kd.at_int f1.out d0 n0 o0;obtain rfl : i0 = v0 := (by injection e102);replace n0 := eq_true n0;replace o0 := eq_true o0;go_wp2;go_ret;exact ⟨S1_, by repeat (first | exact Drawn0.refl _ | apply Drawn0.step)⟩
   rw [if_neg c6] at H;have p3 : decide (64 < (rd l0 d0)) = false := decide_eq_false c6;clear c6;by_cases c7 : (wrap64 (m0 * (rd l0 d0))) > 64
   · rw [if_pos c7] at H;have q3 : decide (64 < (wrap64 (m0 * (rd l0 d0)))) = true := decide_eq_true c7;clear c7;obtain rfl := Option.some.inj H;obtain ⟨i0, rfl, i2, j2, t0⟩ := AI_ f1.out d0;have n0 : 0 ≤ (d0 : Int) := DA_;have o0 : d0 < (l0.length : Int) := DA_;obtain ⟨v0, e102, d1⟩ := Kd.at_int f1.out d0 n0 o0;obtain rfl : i0 = v0 := (by injection e102);replace n0 := eq_true n0;replace o0 := eq_true o0;have w0 : 0 ≤ (d0 : Int) := DA_;have y0 : d0 < (l0.length : Int) := DA_;obtain ⟨g1, e103, n1⟩ := Kd.at_int f1.out d0 w0 y0;obtain rfl : i0 = g1 := (by injection e103);replace w0 := eq_true w0;replace y0 := eq_true y0;go_wp2;go_ret;exact ⟨S1_, by repeat (first | exact Drawn0.refl _ | apply Drawn0.step)⟩
   rw [if_neg c7] at H;have q3 : decide (64 < (wrap64 (m0 * (rd l0 d0)))) = false := decide_eq_false c7;clear c7;have H' := A_ H;clear H;obtain ⟨i0, rfl, i2, j2, t0⟩ := AI_ f1.out d0;have n0 : 0 ≤ (d0 : Int) := DA_;have o0 : d0 < (l0.length : Int) := DA_;obtain ⟨v0, e102, d1⟩ := Kd.at_int f1.out d0 n0 o0;obtain rfl : i0 = v0 := (by injection e102);replace n0 := eq_true n0;replace o0 := eq_true o0;have w0 : 0 ≤ (d0 : Int) := DA_;have y0 : d0 < (l0.length : Int) := DA_;obtain ⟨g1, e103, n1⟩ := Kd.at_int f1.out d0 w0 y0;obtain rfl : i0 = g1 := (by injection e103);replace w0 := eq_true w0;replace y0 := eq_true y0;have l2 : 0 ≤ (d0 : Int) := DA_;have m2 : d0 < (l0.length : Int) := DA_;obtain ⟨o2, e104, y2⟩ := Kd.at_int f1.out d0 l2 m2;obtain rfl : i0 = o2 := (by injection e104);replace l2 := eq_true l2;replace m2 := eq_true m2;go_wp2;go_roundg k1
   case measure => have := HK1.out; omega
   case rel => exact ⟨(wrap64 (m0 * (rd l0 d0))), (wrap64 (d0 + 1)), S1_, S1_, H', ⟨by have := HK1.out; omega⟩, by repeat (first | exact Drawn0.refl _ | apply Drawn0.step)⟩
 obtain rfl := Option.some.inj H;go_wp2;go_ret;exact ⟨S1_, by repeat (first | exact Drawn0.refl _ | apply Drawn0.step)⟩
/-! ### rf4_Size: function 27 -/
noncomputable def rf4_Size.l0 : Nat → List Int → Int → Int → Option (Int)
 | 0, _, _, _ => none
 | k + 1, x0, x3, x4 => if x4 < (x0.length : Int) then (if 0 ≤ x4 then (rf4_Size.l0 k x0 (wrap64 (x3 * (rd x0 x4))) (wrap64 (x4 + 1))) else (none)) else (some x3)
noncomputable def rf4_Size.f (k : Nat) (l0 : List Int) : Option (Int) := rf4_Size.l0 k l0 1 0
theorem rf4_Size.calls (k : Nat) (A0 : Option Addr) (c0 : Nat) (l0 : List Int) (r : Int) (w : World) (hr0 : Kd.C (Kd.int .i64) w A0 l0.length l0) (hc0 : l0.length ≤ c0) (h : rf4_Size.f k l0 = some r) :
  Calls Tryz.prog 27 #[.slice A0 l0.length c0] w fun e w' => e = .returned (.int .i64 r) ∧ Drawn0 w w' := by
 have f1 := A_ hr0;have k4 := A_ hc0;clear hr0 hc0;unfold rf4_Size.f at h;have H := h;clear h;have H' := A_ H;clear H;go_enter Tryz.func27, Tryz.ntmps27;go_wp2;go_loopg [3, 4] k (fun kq v3 v4 w' => ∃ (m0 : Int) (d0 : Int), v3 = .int .i64 m0 ∧ v4 = .int .i64 d0 ∧ Aside0 (rf4_Size.l0 kq l0 m0 d0 = some r) ∧ Aside0 (kq ≤ k) ∧ Drawn0 w w')
 case atStart => exact ⟨(1), (0), S1_, S1_, H', ⟨Nat.le_refl _⟩, by repeat (first | exact Drawn0.refl _ | apply Drawn0.step)⟩
 clear H';obtain ⟨m0, d0, rfl, rfl, HA, HK1, ⟨m1, rfl⟩⟩ := hrel
 cases gk with
 | zero => exact absurd HA.out (by simp [rf4_Size.l0])
 | succ k1 => ?_
 have H := HA.out;clear HA;simp only [rf4_Size.l0] at H;replace H := ID_ H;rcases H with ⟨h2, H⟩ | ⟨h2, H⟩
 · revert H;refine YD_ fun n2 H => ?_;have H' := A_ H;clear H;obtain ⟨g4, rfl, m4, n4, z2⟩ := AI_ f1.out d0;go_wp2;go_roundg k1
   case measure => have := HK1.out; omega
   case rel => exact ⟨(wrap64 (m0 * (rd l0 d0))), (wrap64 (d0 + 1)), S1_, S1_, H', ⟨by have := HK1.out; omega⟩, by repeat (first | exact Drawn0.refl _ | apply Drawn0.step)⟩
 obtain rfl := Option.some.inj H;go_wp2;go_ret;exact ⟨S1_, by repeat (first | exact Drawn0.refl _ | apply Drawn0.step)⟩
/-! ### rf3_Read: function 35 -/
noncomputable def rf3_Read.f (a0 : ByteArray) : Option (ByteArray × ByteArray × Bool) := if a0.size ≤ 40000000000 then some (Err.r3Read a0) else none
theorem rf3_Read.calls (a0 : ByteArray) (r1 : ByteArray) (r2 : ByteArray) (r3 : Bool) (w : World) (h : rf3_Read.f a0 = some (r1, r2, r3)) :
  Calls Tryz.prog 35 #[.string a0] w fun e w' => e = .returned (.tuple #[.agg #[.string r1, .string r2], .bool r3]) ∧ Below w.heap.size w w' := by
 unfold rf3_Read.f at h;by_cases c : a0.size ≤ 40000000000
 · rw [if_pos c] at h;obtain ⟨k, hk⟩ := (Err.r3Read_ev a0 c).rounds;exact PS.rf3_Read.calls k a0 r1 r2 r3 w (hk.trans h)
 rw [if_neg c] at h
 cases h
theorem rf3_Read.rt (x : Rat) (h : (Err.rt x).size ≤ 40000000000) : rf3_Read.f (Err.rt x) = some (Th.Wh.zt x.num, Th.txt x.den, true) := by rw [rf3_Read.f, if_pos h, Err.r3Read_rt x h]
theorem rf3_Read.no (s : ByteArray) (h : s.size ≤ 40000000000) (hs : Err.rv s = none) : ∃ p q, rf3_Read.f s = some (p, q, false) := ⟨(Err.r3Read s).1, (Err.r3Read s).2.1, by rw [rf3_Read.f, if_pos h, ← Err.r3Read_no s hs]⟩
/-! ### rf5_Right: function 18 -/
mutual
noncomputable def rf5_Right.j0 : Nat → Bool → List Int → List ByteArray → Option (Bool)
 | 0, _, _, _ => none
 | k + 1, o4, u0, k0 => if o4 = true then (some false) else (rf5_Right.l0 k 0 u0 k0)
noncomputable def rf5_Right.l0 : Nat → Int → List Int → List ByteArray → Option (Bool)
 | 0, _, _, _ => none
 | k + 1, x3, u0, k0 => if x3 < (k0.length : Int) then (if 0 ≤ x3 then ((rf3_Read.f (rdOf ByteArray.empty k0 x3)).bind fun p2 => (if p2.2.2 = true then (rf5_Right.l0 k (wrap64 (x3 + 1)) u0 k0) else (some false))) else (none)) else (some true)
end
noncomputable def rf5_Right.f (k : Nat) (g0 : List Int) (h0 : List ByteArray) : Option (Bool) := (rf4_Right.f k g0).bind fun q2 => (if q2 = true then ((rf4_Size.f k g0).bind fun h1 => (rf5_Right.j0 k ((h0.length : Int) != h1) g0 h0)) else (rf5_Right.j0 k true g0 h0))
theorem rf5_Right.calls (k : Nat) (z0 : Option Addr) (a1 : Nat) (g0 : List Int) (b1 : Option Addr) (c1 : Nat) (h0 : List ByteArray) (r : Bool) (w : World) (a2 : Kd.C (Kd.int .i64) w z0 g0.length g0) (b2 : g0.length ≤ a1) (d2 : Kd.C Kd.string w b1 h0.length h0) (e2 : h0.length ≤ c1) (h : rf5_Right.f k g0 h0 = some r) :
  Calls Tryz.prog 18 #[.agg #[.slice z0 g0.length a1, .slice b1 h0.length c1]] w fun e w' => e = .returned (.bool r) ∧ Below w.heap.size w w' := by
 have hu25 := Tryz.underlying25;have hu49 := Tryz.underlying49;have r0 := A_ a2;have s0 := A_ b2;clear a2 b2;have f2 := A_ d2;have h4 := A_ e2;clear d2 e2;have HB := A_ (Below.refl w.heap.size w);unfold rf5_Right.f at h;have H := h;clear h;have s3 := A_ H;clear H;go_enter Tryz.func18, Tryz.ntmps18;go_upto_region 1 with (first | ((with_reducible refine gate_dst (N := 1) rfl ?_); (try (refine gate_guard (by rfl) ?_; dsimp only)); refine BX_ 1 #[.slice z0 g0.length a1, .slice b1 h0.length c1] 25 ?_; intro e1 hg w3 hbox hb; have b0 := A_ (hbox); have g2 := GE_ hg; replace HB := BS_ hb; clear hb hbox hg));repeat (go_quiet (first | ((with_reducible refine gate_dst (N := 1) rfl ?_); (try (refine gate_guard (by rfl) ?_; dsimp only)); refine BX_ 1 #[.slice z0 g0.length a1, .slice b1 h0.length c1] 25 ?_; intro e1 hg w3 hbox hb; have b0 := A_ (hbox); have g2 := GE_ hg; replace HB := BS_ hb; clear hb hbox hg)); go_upto_region 1 with (first | ((with_reducible refine gate_dst (N := 1) rfl ?_); (try (refine gate_guard (by rfl) ?_; dsimp only)); refine BX_ 1 #[.slice z0 g0.length a1, .slice b1 h0.length c1] 25 ?_; intro e1 hg w3 hbox hb; have b0 := A_ (hbox); have g2 := GE_ hg; replace HB := BS_ hb; clear hb hbox hg)))
 (try simp only [Act.put, List.setIfInBounds_toArray, List.set_cons_zero, List.set_cons_succ]);go_cut [18] (fun v18 wc => ∃ (kq : Nat) (i1 : Bool), v18 = .bool i1 ∧ Aside0 (rf5_Right.j0 kq i1 g0 h0 = some r) ∧ Aside0 (kq ≤ k) ∧ Aside0 (wc.heap[e1]? = some (.cells #[(.slice z0 g0.length a1), (.slice b1 h0.length c1)] 25 (0, 0))) ∧ Aside0 (Below w.heap.size w wc))
 case first =>
  have H := s3.out;clear s3;revert H;refine BV_ fun q2 A4 H => ?_;replace H := BI_ H;rcases H with ⟨rfl, H⟩ | ⟨rfl, H⟩
  · revert H;refine BV_ fun h1 A6 H => ?_;have H' := A_ H;clear H;obtain ⟨t3, u3, y3, z3⟩ := CF_ b0;iterate 3 ((try go_wp2_with (first | (go_at_call 26; (with_reducible refine (rf4_Right.calls k _ _ g0 true _ (CW_ r0) s0.out A4.out).mono ?_); rintro e w' ⟨rfl, ⟨nd, rfl⟩⟩; (try first | exact ⟨rfl, _, World.drewN_drewN _ _ _⟩ | exact ⟨rfl, _, Eq.trans (World.drewN_drewN _ _ _) (congrArg (World.drewN _) (Nat.add_assoc _ _ _))⟩)) | (go_at_call 27; (with_reducible refine (rf4_Size.calls k _ _ g0 h1 _ ?side1 ?side2 A6.out).mono ?_); (case side1 => repeat (first | exact (Kd.C_below r0.out T9_) | (with_reducible refine Kd.C_alloc ?_ _) | (with_reducible refine Kd.C_drewN ?_ _) | (with_reducible refine Kd.C_drew ?_))); (case side2 => exact s0.out); rintro e w' ⟨rfl, ⟨nd, rfl⟩⟩; (try first | exact ⟨rfl, _, World.drewN_drewN _ _ _⟩ | exact ⟨rfl, _, Eq.trans (World.drewN_drewN _ _ _) (congrArg (World.drewN _) (Nat.add_assoc _ _ _))⟩)))); (try go_quiet (first | (go_at_call 26; (with_reducible refine (rf4_Right.calls k _ _ g0 true _ (CW_ r0) s0.out A4.out).mono ?_); rintro e w' ⟨rfl, ⟨nd, rfl⟩⟩; (try first | exact ⟨rfl, _, World.drewN_drewN _ _ _⟩ | exact ⟨rfl, _, Eq.trans (World.drewN_drewN _ _ _) (congrArg (World.drewN _) (Nat.add_assoc _ _ _))⟩)) | (go_at_call 27; (with_reducible refine (rf4_Size.calls k _ _ g0 h1 _ ?side1 ?side2 A6.out).mono ?_); (case side1 => repeat (first | exact (Kd.C_below r0.out T9_) | (with_reducible refine Kd.C_alloc ?_ _) | (with_reducible refine Kd.C_drewN ?_ _) | (with_reducible refine Kd.C_drew ?_))); (case side2 => exact s0.out); rintro e w' ⟨rfl, ⟨nd, rfl⟩⟩; (try first | exact ⟨rfl, _, World.drewN_drewN _ _ _⟩ | exact ⟨rfl, _, Eq.trans (World.drewN_drewN _ _ _) (congrArg (World.drewN _) (Nat.add_assoc _ _ _))⟩)))))
    go_meet
    case rel => exact ⟨_, (((h0.length : Int) != h1)), S1_, H', ⟨OM_⟩, BW_ b0, ⟨T9_⟩⟩
  have H' := A_ H;clear H;obtain ⟨a4, b4, c4, d4⟩ := CF_ b0;iterate 3 ((try go_wp2_with (first | (go_at_call 26; (with_reducible refine (rf4_Right.calls k _ _ g0 false _ (CW_ r0) s0.out A4.out).mono ?_); rintro e w' ⟨rfl, ⟨nd, rfl⟩⟩; (try first | exact ⟨rfl, _, World.drewN_drewN _ _ _⟩ | exact ⟨rfl, _, Eq.trans (World.drewN_drewN _ _ _) (congrArg (World.drewN _) (Nat.add_assoc _ _ _))⟩)))); (try go_quiet (first | (go_at_call 26; (with_reducible refine (rf4_Right.calls k _ _ g0 false _ (CW_ r0) s0.out A4.out).mono ?_); rintro e w' ⟨rfl, ⟨nd, rfl⟩⟩; (try first | exact ⟨rfl, _, World.drewN_drewN _ _ _⟩ | exact ⟨rfl, _, Eq.trans (World.drewN_drewN _ _ _) (congrArg (World.drewN _) (Nat.add_assoc _ _ _))⟩)))))
  go_meet
  case rel => exact ⟨_, (true), S1_, H', ⟨OM_⟩, BW_ b0, ⟨T9_⟩⟩
 clear s3;obtain ⟨kq, i1, rfl, HA, i4, b0, HB⟩ := hcut
 cases kq with
 | zero => exact absurd HA.out (by simp [rf5_Right.j0])
 | succ kj1 => ?_
 have H := HA.out;clear HA;simp only [rf5_Right.j0] at H;replace H := BI_ H;rcases H with ⟨rfl, H⟩ | ⟨rfl, H⟩
 · obtain rfl := Option.some.inj H;go_wp2;repeat (go_quiet (fail); try go_wp2)
   go_ret;exact ⟨T4_, T9_⟩
 have H' := A_ H;clear H;go_wp2;repeat (go_quiet (fail); try go_wp2)
 go_loopg [3] kj1 (fun kq v3 w' => ∃ (q0 : Int), v3 = .int .i64 q0 ∧ Aside0 (rf5_Right.l0 kq q0 g0 h0 = some r) ∧ Aside0 (kq ≤ kj1) ∧ Aside0 (w'.heap[e1]? = some (.cells #[(.slice z0 g0.length a1), (.slice b1 h0.length c1)] 25 (0, 0))) ∧ Aside0 (Below w.heap.size w w'))
 case atStart => exact ⟨(0), S1_, H', ⟨Nat.le_refl _⟩, BW_ b0, ⟨T9_⟩⟩
 clear H';obtain ⟨q0, rfl, HA, HK2, b0, HB⟩ := hrel
 cases gk with
 | zero => exact absurd HA.out (by simp [rf5_Right.l0])
 | succ k2 => ?_
 have H := HA.out;clear HA;simp only [rf5_Right.l0] at H;replace H := ID_ H;rcases H with ⟨s2, H⟩ | ⟨s2, H⟩
 · revert H;refine YD_ fun j4 H => ?_;revert H;refine BV_ ?_;rintro ⟨o1, p1, p4⟩ a3 H;replace H := BI_ H;rcases H with ⟨rfl, H⟩ | ⟨rfl, H⟩
   · have H' := A_ H;clear H;obtain ⟨b3, c3, d3, e3⟩ := CF_ b0;obtain ⟨t2, rfl, e4, f4, q1⟩ := ASH_ HB f2.out q0;iterate 3 ((try go_wp2_with (first | (go_at_call 35; (with_reducible refine (rf3_Read.calls (rdOf ByteArray.empty h0 q0) o1 p1 true _ a3.out).mono ?_); rintro e w15 ⟨rfl, hb⟩; replace b0 := BF_ b0 hb; replace HB := BU_ hb; clear hb) | ((with_reducible refine gate_dst (N := 4) rfl ?_); (try (refine gate_guard (by rfl) ?_; dsimp only)); refine BX_ 4 #[.string (⟨#[]⟩ : ByteArray), .string (⟨#[]⟩ : ByteArray)] 49 ?_; intro j1 hg w16 hbox hb; have p0 := A_ (hbox); have l1 := GE_ hg; replace HB := BU_ hb; have e0 := NB_ b0 hg; have f0 := NC_ b0 hg; replace b0 := BF_ b0 hb; clear hb hbox hg; have u2 := f0.out; have v2 := e0.out; obtain ⟨s1, t1, u1, v1⟩ := CF_ p0))); (try go_quiet (first | (go_at_call 35; (with_reducible refine (rf3_Read.calls (rdOf ByteArray.empty h0 q0) o1 p1 true _ a3.out).mono ?_); rintro e w15 ⟨rfl, hb⟩; replace b0 := BF_ b0 hb; replace HB := BU_ hb; clear hb) | ((with_reducible refine gate_dst (N := 4) rfl ?_); (try (refine gate_guard (by rfl) ?_; dsimp only)); refine BX_ 4 #[.string (⟨#[]⟩ : ByteArray), .string (⟨#[]⟩ : ByteArray)] 49 ?_; intro j1 hg w16 hbox hb; have p0 := A_ (hbox); have l1 := GE_ hg; replace HB := BU_ hb; have e0 := NB_ b0 hg; have f0 := NC_ b0 hg; replace b0 := BF_ b0 hb; clear hb hbox hg; have u2 := f0.out; have v2 := e0.out; obtain ⟨s1, t1, u1, v1⟩ := CF_ p0))))
     go_roundg k2
     case measure => have := i4.out; have := HK2.out; omega
     case rel => exact ⟨(wrap64 (q0 + 1)), S1_, H', ⟨by have := i4.out; have := HK2.out; omega⟩, BW_ b0, ⟨T9_⟩⟩
   obtain rfl := Option.some.inj H;obtain ⟨f3, g3, h3, i3⟩ := CF_ b0;obtain ⟨t2, rfl, e4, f4, q1⟩ := ASH_ HB f2.out q0;iterate 3 ((try go_wp2_with (first | (go_at_call 35; (with_reducible refine (rf3_Read.calls (rdOf ByteArray.empty h0 q0) o1 p1 false _ a3.out).mono ?_); rintro e w20 ⟨rfl, hb⟩; replace b0 := BF_ b0 hb; replace HB := BU_ hb; clear hb) | ((with_reducible refine gate_dst (N := 4) rfl ?_); (try (refine gate_guard (by rfl) ?_; dsimp only)); refine BX_ 4 #[.string (⟨#[]⟩ : ByteArray), .string (⟨#[]⟩ : ByteArray)] 49 ?_; intro j1 hg w21 hbox hb; have p0 := A_ (hbox); have l1 := GE_ hg; replace HB := BU_ hb; have e0 := NB_ b0 hg; have f0 := NC_ b0 hg; replace b0 := BF_ b0 hb; clear hb hbox hg; have w2 := f0.out; have x2 := e0.out; obtain ⟨w1, x1, y1, z1⟩ := CF_ p0))); (try go_quiet (first | (go_at_call 35; (with_reducible refine (rf3_Read.calls (rdOf ByteArray.empty h0 q0) o1 p1 false _ a3.out).mono ?_); rintro e w20 ⟨rfl, hb⟩; replace b0 := BF_ b0 hb; replace HB := BU_ hb; clear hb) | ((with_reducible refine gate_dst (N := 4) rfl ?_); (try (refine gate_guard (by rfl) ?_; dsimp only)); refine BX_ 4 #[.string (⟨#[]⟩ : ByteArray), .string (⟨#[]⟩ : ByteArray)] 49 ?_; intro j1 hg w21 hbox hb; have p0 := A_ (hbox); have l1 := GE_ hg; replace HB := BU_ hb; have e0 := NB_ b0 hg; have f0 := NC_ b0 hg; replace b0 := BF_ b0 hb; clear hb hbox hg; have w2 := f0.out; have x2 := e0.out; obtain ⟨w1, x1, y1, z1⟩ := CF_ p0))))
   go_ret;exact ⟨T4_, T9_⟩
 obtain rfl := Option.some.inj H;obtain ⟨j3, k3, l3, m3⟩ := CF_ b0;go_wp2;repeat (go_quiet (fail); try go_wp2)
 go_ret;exact ⟨T4_, T9_⟩
end Go.Proofs.YtmmonhgfnmeieaaGreatDoor.PG
