-- by wip/tool/mine.py of this repo (the kit's printer with given contracts)
import Derived.Test.YtndkjpkgllmbnaaGreatDoorRX2
namespace Go.Proofs.YtndkjpkgllmbnaaGreatDoor.PG
open Go.RowKit Go.ZPWords Go.ZPLast Go.ZPMore
attribute [local go_sem] max2_int min2_int max_two min_two max_three min_three max_four min_four   -- for this text's walks alone
set_option linter.unusedVariables false
set_option linter.unusedSimpArgs false
set_option maxHeartbeats 8000000
set_option maxRecDepth 100000
def errW : Option Int → Value
 | none => .nilIface
 | some c => .iface 0 (.int .i64 c)
theorem errW_none : errW none = .nilIface := rfl
theorem errW_some (c : Int) : errW (some c) = .iface 0 (.int .i64 c) := rfl
/-! ### rf4_Right: function 47 -/
noncomputable def rf4_Right.l0 : Nat → List Int → Int → Int → Option (Bool)
 | 0, _, _, _ => none
 | k + 1, x0, x3, x4 => if x4 < (x0.length : Int) then (if 0 ≤ x4 then (if (rd x0 x4) < 1 then (some false) else (if (rd x0 x4) > 64 then (some false) else (if (wrap64 (x3 * (rd x0 x4))) > 64 then (some false) else (rf4_Right.l0 k x0 (wrap64 (x3 * (rd x0 x4))) (wrap64 (x4 + 1)))))) else (none)) else (some true)
noncomputable def rf4_Right.f (k : Nat) (l0 : List Int) : Option (Bool) := if (l0.length : Int) > 4 then (some false) else (rf4_Right.l0 k l0 1 0)
theorem rf4_Right.calls (k : Nat) (A0 : Option Addr) (c0 : Nat) (l0 : List Int) (r : Bool) (w : World) (hr0 : Kd.C (Kd.int .i64) w A0 l0.length l0) (hc0 : l0.length ≤ c0) (h : rf4_Right.f k l0 = some r) :
  Calls Tryz.prog 47 #[.slice A0 l0.length c0] w fun e w' => e = .returned (.bool r) ∧ Drawn0 w w' := by
 have HR0 := A_ hr0;have HC0 := A_ hc0;clear hr0 hc0;unfold rf4_Right.f at h;have H := h;clear h
 by_cases c2 : (l0.length : Int) > 4
 ·
  rw [if_pos c2] at H;have c2b0 : decide (4 < (l0.length : Int)) = true := decide_eq_true c2;have c2b1 : decide (4 < l0.length) = true := decide_eq_true (by omega);clear c2;obtain rfl := Option.some.inj H;go_enter Tryz.func47, Tryz.ntmps47
  go_wp2
  go_ret
  exact ⟨by first | rfl | (simp; done) | (simp [*]; done), by repeat (first | exact Drawn0.refl _ | apply Drawn0.step)⟩
 ·
  rw [if_neg c2] at H;have c2b0 : decide (4 < (l0.length : Int)) = false := decide_eq_false c2;have c2b1 : decide (4 < l0.length) = false := decide_eq_false (by omega);clear c2;have H' := A_ H;clear H;go_enter Tryz.func47, Tryz.ntmps47
  go_wp2
  go_loopg [3, 4] k (fun kq v3 v4 w' => ∃ (x3_1 : Int) (x4_1 : Int), v3 = .int .i64 x3_1 ∧ v4 = .int .i64 x4_1 ∧ Aside0 (rf4_Right.l0 kq l0 x3_1 x4_1 = some r) ∧ Aside0 (kq ≤ k) ∧ Drawn0 w w')
  case atStart => exact ⟨(1), (0), S1_, S1_, H', ⟨Nat.le_refl _⟩, by repeat (first | exact Drawn0.refl _ | apply Drawn0.step)⟩
  case round =>
   clear H'
   try clear c2
   try clear c2b0
   try clear c2b1
   obtain ⟨x3_1, x4_1, rfl, rfl, HA, HK1, ⟨m1, rfl⟩⟩ := hrel
   cases gk with
   | zero => exact absurd HA.out (by simp [rf4_Right.l0])
   | succ k1 =>
    have H := HA.out;clear HA;simp only [rf4_Right.l0] at H
    by_cases c3 : x4_1 < (l0.length : Int)
    ·
     rw [if_pos c3] at H;have c3b0 := decide_eq_true c3;clear c3
     by_cases c4 : 0 ≤ x4_1
     ·
      rw [if_pos c4] at H;have c4b0 := decide_eq_true c4;clear c4
      by_cases c5 : (rd l0 x4_1) < 1
      ·
       rw [if_pos c5] at H;have c5b0 := decide_eq_true c5;clear c5;obtain rfl := Option.some.inj H;have p101 : 0 ≤ (x4_1 : Int) := DA_;have q101 : x4_1 < (l0.length : Int) := DA_;obtain ⟨ad101, e101, hx101_0⟩ := Kd.at_int HR0.out x4_1 p101 q101
       cases e101
       replace p101 := eq_true p101;replace q101 := eq_true q101
       go_wp2
       go_ret
       exact ⟨by first | rfl | (simp; done) | (simp [*]; done), by repeat (first | exact Drawn0.refl _ | apply Drawn0.step)⟩
      ·
       rw [if_neg c5] at H;have c5b0 := decide_eq_false c5;clear c5
       by_cases c6 : (rd l0 x4_1) > 64
       ·
        rw [if_pos c6] at H;have c6b0 : decide (64 < (rd l0 x4_1)) = true := decide_eq_true c6;clear c6;obtain rfl := Option.some.inj H;have p101 : 0 ≤ (x4_1 : Int) := DA_;have q101 : x4_1 < (l0.length : Int) := DA_;obtain ⟨ad101, e101, hx101_0⟩ := Kd.at_int HR0.out x4_1 p101 q101
        cases e101
        replace p101 := eq_true p101;replace q101 := eq_true q101;have p102 : 0 ≤ (x4_1 : Int) := DA_;have q102 : x4_1 < (l0.length : Int) := DA_;obtain ⟨ad102, e102, hx102_0⟩ := Kd.at_int HR0.out x4_1 p102 q102;obtain rfl : ad101 = ad102 := (by injection e102);replace p102 := eq_true p102;replace q102 := eq_true q102
        go_wp2
        go_ret
        exact ⟨by first | rfl | (simp; done) | (simp [*]; done), by repeat (first | exact Drawn0.refl _ | apply Drawn0.step)⟩
       ·
        rw [if_neg c6] at H;have c6b0 : decide (64 < (rd l0 x4_1)) = false := decide_eq_false c6;clear c6
        by_cases c7 : (wrap64 (x3_1 * (rd l0 x4_1))) > 64
        ·
         rw [if_pos c7] at H;have c7b0 : decide (64 < (wrap64 (x3_1 * (rd l0 x4_1)))) = true := decide_eq_true c7;clear c7;obtain rfl := Option.some.inj H;have p101 : 0 ≤ (x4_1 : Int) := DA_;have q101 : x4_1 < (l0.length : Int) := DA_;obtain ⟨ad101, e101, hx101_0⟩ := Kd.at_int HR0.out x4_1 p101 q101
         cases e101
         replace p101 := eq_true p101;replace q101 := eq_true q101;have p102 : 0 ≤ (x4_1 : Int) := DA_;have q102 : x4_1 < (l0.length : Int) := DA_;obtain ⟨ad102, e102, hx102_0⟩ := Kd.at_int HR0.out x4_1 p102 q102;obtain rfl : ad101 = ad102 := (by injection e102);replace p102 := eq_true p102;replace q102 := eq_true q102;have p103 : 0 ≤ (x4_1 : Int) := DA_;have q103 : x4_1 < (l0.length : Int) := DA_;obtain ⟨ad103, e103, hx103_0⟩ := Kd.at_int HR0.out x4_1 p103 q103;obtain rfl : ad101 = ad103 := (by injection e103);replace p103 := eq_true p103;replace q103 := eq_true q103
         go_wp2
         go_ret
         exact ⟨by first | rfl | (simp; done) | (simp [*]; done), by repeat (first | exact Drawn0.refl _ | apply Drawn0.step)⟩
        ·
         rw [if_neg c7] at H;have c7b0 : decide (64 < (wrap64 (x3_1 * (rd l0 x4_1)))) = false := decide_eq_false c7;clear c7;have H' := A_ H;clear H;have p101 : 0 ≤ (x4_1 : Int) := DA_;have q101 : x4_1 < (l0.length : Int) := DA_;obtain ⟨ad101, e101, hx101_0⟩ := Kd.at_int HR0.out x4_1 p101 q101
         cases e101
         replace p101 := eq_true p101;replace q101 := eq_true q101;have p102 : 0 ≤ (x4_1 : Int) := DA_;have q102 : x4_1 < (l0.length : Int) := DA_;obtain ⟨ad102, e102, hx102_0⟩ := Kd.at_int HR0.out x4_1 p102 q102;obtain rfl : ad101 = ad102 := (by injection e102);replace p102 := eq_true p102;replace q102 := eq_true q102;have p103 : 0 ≤ (x4_1 : Int) := DA_;have q103 : x4_1 < (l0.length : Int) := DA_;obtain ⟨ad103, e103, hx103_0⟩ := Kd.at_int HR0.out x4_1 p103 q103;obtain rfl : ad101 = ad103 := (by injection e103);replace p103 := eq_true p103;replace q103 := eq_true q103;have p104 : 0 ≤ (x4_1 : Int) := DA_;have q104 : x4_1 < (l0.length : Int) := DA_;obtain ⟨ad104, e104, hx104_0⟩ := Kd.at_int HR0.out x4_1 p104 q104;obtain rfl : ad101 = ad104 := (by injection e104);replace p104 := eq_true p104;replace q104 := eq_true q104
         go_wp2
         go_roundg k1
         case measure => have := HK1.out; omega
         case rel => exact ⟨(wrap64 (x3_1 * (rd l0 x4_1))), (wrap64 (x4_1 + 1)), S1_, S1_, H', ⟨by have := HK1.out; omega⟩, by repeat (first | exact Drawn0.refl _ | apply Drawn0.step)⟩
     ·
      rw [if_neg c4] at H;exact absurd H (by simp)
    ·
     rw [if_neg c3] at H;have c3b0 := decide_eq_false c3;clear c3;obtain rfl := Option.some.inj H
     go_wp2
     go_ret
     exact ⟨by first | rfl | (simp; done) | (simp [*]; done), by repeat (first | exact Drawn0.refl _ | apply Drawn0.step)⟩
/-! ### rf4_Size: function 48 -/
noncomputable def rf4_Size.l0 : Nat → List Int → Int → Int → Option (Int)
 | 0, _, _, _ => none
 | k + 1, x0, x3, x4 => if x4 < (x0.length : Int) then (if 0 ≤ x4 then (rf4_Size.l0 k x0 (wrap64 (x3 * (rd x0 x4))) (wrap64 (x4 + 1))) else (none)) else (some x3)
noncomputable def rf4_Size.f (k : Nat) (l0 : List Int) : Option (Int) := rf4_Size.l0 k l0 1 0
theorem rf4_Size.calls (k : Nat) (A0 : Option Addr) (c0 : Nat) (l0 : List Int) (r : Int) (w : World) (hr0 : Kd.C (Kd.int .i64) w A0 l0.length l0) (hc0 : l0.length ≤ c0) (h : rf4_Size.f k l0 = some r) :
  Calls Tryz.prog 48 #[.slice A0 l0.length c0] w fun e w' => e = .returned (.int .i64 r) ∧ Drawn0 w w' := by
 have HR0 := A_ hr0;have HC0 := A_ hc0;clear hr0 hc0;unfold rf4_Size.f at h;have H := h;clear h;have H' := A_ H;clear H;go_enter Tryz.func48, Tryz.ntmps48
 go_wp2
 go_loopg [3, 4] k (fun kq v3 v4 w' => ∃ (x3_1 : Int) (x4_1 : Int), v3 = .int .i64 x3_1 ∧ v4 = .int .i64 x4_1 ∧ Aside0 (rf4_Size.l0 kq l0 x3_1 x4_1 = some r) ∧ Aside0 (kq ≤ k) ∧ Drawn0 w w')
 case atStart => exact ⟨(1), (0), S1_, S1_, H', ⟨Nat.le_refl _⟩, by repeat (first | exact Drawn0.refl _ | apply Drawn0.step)⟩
 case round =>
  clear H';obtain ⟨x3_1, x4_1, rfl, rfl, HA, HK1, ⟨m1, rfl⟩⟩ := hrel
  cases gk with
  | zero => exact absurd HA.out (by simp [rf4_Size.l0])
  | succ k1 =>
   have H := HA.out;clear HA;simp only [rf4_Size.l0] at H
   by_cases c2 : x4_1 < (l0.length : Int)
   ·
    rw [if_pos c2] at H;have c2b0 := decide_eq_true c2;clear c2
    by_cases c3 : 0 ≤ x4_1
    ·
     rw [if_pos c3] at H;have c3b0 := decide_eq_true c3;clear c3;have H' := A_ H;clear H;have p105 : 0 ≤ (x4_1 : Int) := DA_;have q105 : x4_1 < (l0.length : Int) := DA_;obtain ⟨ad105, e105, hx105_0⟩ := Kd.at_int HR0.out x4_1 p105 q105
     cases e105
     replace p105 := eq_true p105;replace q105 := eq_true q105
     go_wp2
     go_roundg k1
     case measure => have := HK1.out; omega
     case rel => exact ⟨(wrap64 (x3_1 * (rd l0 x4_1))), (wrap64 (x4_1 + 1)), S1_, S1_, H', ⟨by have := HK1.out; omega⟩, by repeat (first | exact Drawn0.refl _ | apply Drawn0.step)⟩
    ·
     rw [if_neg c3] at H;exact absurd H (by simp)
   ·
    rw [if_neg c2] at H;have c2b0 := decide_eq_false c2;clear c2;obtain rfl := Option.some.inj H
    go_wp2
    go_ret
    exact ⟨by first | rfl | (simp; done) | (simp [*]; done), by repeat (first | exact Drawn0.refl _ | apply Drawn0.step)⟩
/-! ### rf3_Read: function 49 -/
noncomputable def rf3_Read.f (a0 : ByteArray) : Option (ByteArray × ByteArray × Bool) := if a0.size ≤ 40000000000 then some (Err.r3Read a0) else none
theorem rf3_Read.calls (a0 : ByteArray) (r1 : ByteArray) (r2 : ByteArray) (r3 : Bool) (w : World) (h : rf3_Read.f a0 = some (r1, r2, r3)) :
  Calls Tryz.prog 49 #[.string a0] w fun e w' => e = .returned (.tuple #[.agg #[.string r1, .string r2], .bool r3]) ∧ Below w.heap.size w w' := by
 unfold rf3_Read.f at h
 by_cases c : a0.size ≤ 40000000000
 ·
  rw [if_pos c] at h;obtain ⟨k, hk⟩ := (Err.r3Read_ev a0 c).rounds;exact PS.rf3_Read.calls k a0 r1 r2 r3 w (hk.trans h)
 ·
  rw [if_neg c] at h
  cases h
theorem rf3_Read.rt (x : Rat) (h : (Err.rt x).size ≤ 40000000000) : rf3_Read.f (Err.rt x) = some (Th.Wh.zt x.num, Th.txt x.den, true) := by rw [rf3_Read.f, if_pos h, Err.r3Read_rt x h]
theorem rf3_Read.no (s : ByteArray) (h : s.size ≤ 40000000000) (hs : Err.rv s = none) : ∃ p q, rf3_Read.f s = some (p, q, false) := ⟨(Err.r3Read s).1, (Err.r3Read s).2.1, by rw [rf3_Read.f, if_pos h, ← Err.r3Read_no s hs]⟩
/-! ### rf5_Right: function 24 -/
mutual
noncomputable def rf5_Right.j0 : Nat → Bool → List Int → List ByteArray → Option (Bool)
 | 0, _, _, _ => none
 | k + 1, x18, x107000, x107001 => if x18 = true then (some false) else (rf5_Right.l0 k 0 x107000 x107001)
noncomputable def rf5_Right.l0 : Nat → Int → List Int → List ByteArray → Option (Bool)
 | 0, _, _, _ => none
 | k + 1, x3, x107000, x107001 => if x3 < (x107001.length : Int) then (if 0 ≤ x3 then ((rf3_Read.f (rdOf ByteArray.empty x107001 x3)).bind fun bt110 => (if bt110.2.2 = true then (rf5_Right.l0 k (wrap64 (x3 + 1)) x107000 x107001) else (some false))) else (none)) else (some true)
end
noncomputable def rf5_Right.f (k : Nat) (l0_0 : List Int) (l0_1 : List ByteArray) : Option (Bool) := (rf4_Right.f k l0_0).bind fun t107 => (if t107 = true then ((rf4_Size.f k l0_0).bind fun t108 => (rf5_Right.j0 k ((l0_1.length : Int) != t108) l0_0 l0_1)) else (rf5_Right.j0 k true l0_0 l0_1))
theorem rf5_Right.calls (k : Nat) (A0_0 : Option Addr) (c0_0 : Nat) (l0_0 : List Int) (A0_1 : Option Addr) (c0_1 : Nat) (l0_1 : List ByteArray) (r : Bool) (w : World) (hr0_0 : Kd.C (Kd.int .i64) w A0_0 l0_0.length l0_0) (hc0_0 : l0_0.length ≤ c0_0) (hr0_1 : Kd.C Kd.string w A0_1 l0_1.length l0_1) (hc0_1 : l0_1.length ≤ c0_1) (h : rf5_Right.f k l0_0 l0_1 = some r) :
  Calls Tryz.prog 24 #[.agg #[.slice A0_0 l0_0.length c0_0, .slice A0_1 l0_1.length c0_1]] w fun e w' => e = .returned (.bool r) ∧ Below w.heap.size w w' := by
 have hu25 := Tryz.underlying25;have hu61 := Tryz.underlying61;have HR0_0 := A_ hr0_0;have HC0_0 := A_ hc0_0;clear hr0_0 hc0_0;have HR0_1 := A_ hr0_1;have HC0_1 := A_ hc0_1;clear hr0_1 hc0_1;have HB := A_ (Below.refl w.heap.size w);unfold rf5_Right.f at h;have H := h;clear h;have HC2 := A_ H;clear H;go_enter Tryz.func24, Tryz.ntmps24
 go_upto_region 1 with (first | ((with_reducible refine gate_dst (N := 1) rfl ?_); (try (refine gate_guard (by rfl) ?_; dsimp only)); refine BX_ 1 #[.slice A0_0 l0_0.length c0_0, .slice A0_1 l0_1.length c0_1] 25 ?_; intro gb106 hg w3 hbox hb; have BK106 := A_ (hbox); have GE106 := GE_ hg; replace HB := BS_ hb; clear hb hbox hg))
 repeat (go_quiet (first | ((with_reducible refine gate_dst (N := 1) rfl ?_); (try (refine gate_guard (by rfl) ?_; dsimp only)); refine BX_ 1 #[.slice A0_0 l0_0.length c0_0, .slice A0_1 l0_1.length c0_1] 25 ?_; intro gb106 hg w3 hbox hb; have BK106 := A_ (hbox); have GE106 := GE_ hg; replace HB := BS_ hb; clear hb hbox hg)); go_upto_region 1 with (first | ((with_reducible refine gate_dst (N := 1) rfl ?_); (try (refine gate_guard (by rfl) ?_; dsimp only)); refine BX_ 1 #[.slice A0_0 l0_0.length c0_0, .slice A0_1 l0_1.length c0_1] 25 ?_; intro gb106 hg w3 hbox hb; have BK106 := A_ (hbox); have GE106 := GE_ hg; replace HB := BS_ hb; clear hb hbox hg)))
 (try simp only [Act.put, List.setIfInBounds_toArray, List.set_cons_zero, List.set_cons_succ])
 go_cut [18] (fun v18 wc => ∃ (kq : Nat) (x18_1 : Bool), v18 = .bool x18_1 ∧ Aside0 (rf5_Right.j0 kq x18_1 l0_0 l0_1 = some r) ∧ Aside0 (kq ≤ k) ∧ Aside0 (wc.heap[gb106]? = some (.cells #[(.slice A0_0 l0_0.length c0_0), (.slice A0_1 l0_1.length c0_1)] 25 (0, 0))) ∧ Aside0 (Below w.heap.size w wc))
 case first =>
  have H := HC2.out;clear HC2;replace H := BE_ H;obtain ⟨t107, A40, H⟩ := H;have A4 := A_ A40;clear A40
  by_cases c5 : t107 = true
  ·
   subst c5;rw [if_pos rfl] at H;replace H := BE_ H;obtain ⟨t108, A60, H⟩ := H;have A6 := A_ A60;clear A60;have H' := A_ H;clear H;obtain ⟨hcz7_0, hcz7_1, hfz7_0, hfz7_1⟩ := CF_ BK106
   iterate 3 ((try go_wp2_with (first | (go_at_call 47; (with_reducible refine (rf4_Right.calls k _ _ l0_0 true _ (CW_ HR0_0) HC0_0.out A4.out).mono ?_); rintro e w' ⟨rfl, ⟨nd, rfl⟩⟩; (try first | exact ⟨rfl, _, World.drewN_drewN _ _ _⟩ | exact ⟨rfl, _, Eq.trans (World.drewN_drewN _ _ _) (congrArg (World.drewN _) (Nat.add_assoc _ _ _))⟩)) | (go_at_call 48; (with_reducible refine (rf4_Size.calls k _ _ l0_0 t108 _ ?side1 ?side2 A6.out).mono ?_); (case side1 => repeat (first | exact (Kd.C_below HR0_0.out T9_) | (with_reducible refine Kd.C_alloc ?_ _) | (with_reducible refine Kd.C_drewN ?_ _) | (with_reducible refine Kd.C_drew ?_))); (case side2 => exact HC0_0.out); rintro e w' ⟨rfl, ⟨nd, rfl⟩⟩; (try first | exact ⟨rfl, _, World.drewN_drewN _ _ _⟩ | exact ⟨rfl, _, Eq.trans (World.drewN_drewN _ _ _) (congrArg (World.drewN _) (Nat.add_assoc _ _ _))⟩)))); (try go_quiet (first | (go_at_call 47; (with_reducible refine (rf4_Right.calls k _ _ l0_0 true _ (CW_ HR0_0) HC0_0.out A4.out).mono ?_); rintro e w' ⟨rfl, ⟨nd, rfl⟩⟩; (try first | exact ⟨rfl, _, World.drewN_drewN _ _ _⟩ | exact ⟨rfl, _, Eq.trans (World.drewN_drewN _ _ _) (congrArg (World.drewN _) (Nat.add_assoc _ _ _))⟩)) | (go_at_call 48; (with_reducible refine (rf4_Size.calls k _ _ l0_0 t108 _ ?side1 ?side2 A6.out).mono ?_); (case side1 => repeat (first | exact (Kd.C_below HR0_0.out T9_) | (with_reducible refine Kd.C_alloc ?_ _) | (with_reducible refine Kd.C_drewN ?_ _) | (with_reducible refine Kd.C_drew ?_))); (case side2 => exact HC0_0.out); rintro e w' ⟨rfl, ⟨nd, rfl⟩⟩; (try first | exact ⟨rfl, _, World.drewN_drewN _ _ _⟩ | exact ⟨rfl, _, Eq.trans (World.drewN_drewN _ _ _) (congrArg (World.drewN _) (Nat.add_assoc _ _ _))⟩)))))
   go_meet
   case rel => exact ⟨_, (((l0_1.length : Int) != t108)), S1_, H', ⟨by first | omega | exact Nat.le_refl _⟩, BW_ BK106, ⟨T9_⟩⟩
  ·
   replace c5 := Bool.eq_false_iff.mpr c5;subst c5;rw [if_neg (show ¬ (false = true) by decide)] at H;have H' := A_ H;clear H;obtain ⟨hcz8_0, hcz8_1, hfz8_0, hfz8_1⟩ := CF_ BK106
   iterate 3 ((try go_wp2_with (first | (go_at_call 47; (with_reducible refine (rf4_Right.calls k _ _ l0_0 false _ (CW_ HR0_0) HC0_0.out A4.out).mono ?_); rintro e w' ⟨rfl, ⟨nd, rfl⟩⟩; (try first | exact ⟨rfl, _, World.drewN_drewN _ _ _⟩ | exact ⟨rfl, _, Eq.trans (World.drewN_drewN _ _ _) (congrArg (World.drewN _) (Nat.add_assoc _ _ _))⟩)))); (try go_quiet (first | (go_at_call 47; (with_reducible refine (rf4_Right.calls k _ _ l0_0 false _ (CW_ HR0_0) HC0_0.out A4.out).mono ?_); rintro e w' ⟨rfl, ⟨nd, rfl⟩⟩; (try first | exact ⟨rfl, _, World.drewN_drewN _ _ _⟩ | exact ⟨rfl, _, Eq.trans (World.drewN_drewN _ _ _) (congrArg (World.drewN _) (Nat.add_assoc _ _ _))⟩)))))
   go_meet
   case rel => exact ⟨_, (true), S1_, H', ⟨by first | omega | exact Nat.le_refl _⟩, BW_ BK106, ⟨T9_⟩⟩
 case rest =>
  clear HC2
  obtain ⟨kq, x18_1, rfl, HA, HJ1, BK106, HB⟩ := hcut
  cases kq with
  | zero => exact absurd HA.out (by simp [rf5_Right.j0])
  | succ kj1 =>
   have H := HA.out;clear HA;simp only [rf5_Right.j0] at H
   by_cases c9 : x18_1 = true
   ·
    subst c9;rw [if_pos rfl] at H;obtain rfl := Option.some.inj H
    go_wp2
    repeat (go_quiet (fail); try go_wp2)
    go_ret
    exact ⟨T4_, T9_⟩
   ·
    replace c9 := Bool.eq_false_iff.mpr c9;subst c9;rw [if_neg (show ¬ (false = true) by decide)] at H;have H' := A_ H;clear H
    go_wp2
    repeat (go_quiet (fail); try go_wp2)
    go_loopg [3] kj1 (fun kq v3 w' => ∃ (x3_2 : Int), v3 = .int .i64 x3_2 ∧ Aside0 (rf5_Right.l0 kq x3_2 l0_0 l0_1 = some r) ∧ Aside0 (kq ≤ kj1) ∧ Aside0 (w'.heap[gb106]? = some (.cells #[(.slice A0_0 l0_0.length c0_0), (.slice A0_1 l0_1.length c0_1)] 25 (0, 0))) ∧ Aside0 (Below w.heap.size w w'))
    case atStart => exact ⟨(0), S1_, H', ⟨Nat.le_refl _⟩, BW_ BK106, ⟨T9_⟩⟩
    case round =>
     clear H'
     try clear c9
     obtain ⟨x3_2, rfl, HA, HK2, BK106, HB⟩ := hrel
     cases gk with
     | zero => exact absurd HA.out (by simp [rf5_Right.l0])
     | succ k2 =>
      have H := HA.out;clear HA;simp only [rf5_Right.l0] at H
      by_cases c10 : x3_2 < (l0_1.length : Int)
      ·
       rw [if_pos c10] at H;have c10b0 := decide_eq_true c10;clear c10
       by_cases c11 : 0 ≤ x3_2
       ·
        rw [if_pos c11] at H;have c11b0 := decide_eq_true c11;clear c11;replace H := BE_ H;obtain ⟨⟨t110, t111, t112⟩, A120, H⟩ := H;have A12 := A_ A120;clear A120
        by_cases c13 : t112 = true
        ·
         subst c13;rw [if_pos rfl] at H;have H' := A_ H;clear H;obtain ⟨hcz14_0, hcz14_1, hfz14_0, hfz14_1⟩ := CF_ BK106;have p109 : 0 ≤ (x3_2 : Int) := DA_;have q109 : x3_2 < (l0_1.length : Int) := DA_;obtain ⟨ad109, e109, hx109_0⟩ := Kd.at_string HR0_1.out x3_2 p109 q109
         cases e109
         replace hx109_0 := (HB.out.cell (World.block_lt_of_cell? w _ hx109_0)).trans hx109_0;replace p109 := eq_true p109;replace q109 := eq_true q109
         iterate 3 ((try go_wp2_with (first | (go_at_call 49; (with_reducible refine (rf3_Read.calls (rdOf ByteArray.empty l0_1 x3_2) t110 t111 true _ A12.out).mono ?_); rintro e w15 ⟨rfl, hb⟩; replace BK106 := BF_ BK106 hb; replace HB := BU_ hb; clear hb) | ((with_reducible refine gate_dst (N := 4) rfl ?_); (try (refine gate_guard (by rfl) ?_; dsimp only)); refine BX_ 4 #[.string (⟨#[]⟩ : ByteArray), .string (⟨#[]⟩ : ByteArray)] 61 ?_; intro gb113 hg w16 hbox hb; have BK113 := A_ (hbox); have GE113 := GE_ hg; replace HB := BU_ hb; have NB106_113 := NB_ BK106 hg; have NB113_106 := NC_ BK106 hg; replace BK106 := BF_ BK106 hb; clear hb hbox hg; have hnb17 := NB113_106.out; have hnc17 := NB106_113.out; obtain ⟨hcz18_0, hcz18_1, hfz18_0, hfz18_1⟩ := CF_ BK113))); (try go_quiet (first | (go_at_call 49; (with_reducible refine (rf3_Read.calls (rdOf ByteArray.empty l0_1 x3_2) t110 t111 true _ A12.out).mono ?_); rintro e w15 ⟨rfl, hb⟩; replace BK106 := BF_ BK106 hb; replace HB := BU_ hb; clear hb) | ((with_reducible refine gate_dst (N := 4) rfl ?_); (try (refine gate_guard (by rfl) ?_; dsimp only)); refine BX_ 4 #[.string (⟨#[]⟩ : ByteArray), .string (⟨#[]⟩ : ByteArray)] 61 ?_; intro gb113 hg w16 hbox hb; have BK113 := A_ (hbox); have GE113 := GE_ hg; replace HB := BU_ hb; have NB106_113 := NB_ BK106 hg; have NB113_106 := NC_ BK106 hg; replace BK106 := BF_ BK106 hb; clear hb hbox hg; have hnb17 := NB113_106.out; have hnc17 := NB106_113.out; obtain ⟨hcz18_0, hcz18_1, hfz18_0, hfz18_1⟩ := CF_ BK113))))
         go_roundg k2
         case measure => have := HJ1.out; have := HK2.out; omega
         case rel => exact ⟨(wrap64 (x3_2 + 1)), S1_, H', ⟨by have := HJ1.out; have := HK2.out; omega⟩, BW_ BK106, ⟨T9_⟩⟩
        ·
         replace c13 := Bool.eq_false_iff.mpr c13;subst c13;rw [if_neg (show ¬ (false = true) by decide)] at H;obtain rfl := Option.some.inj H;obtain ⟨hcz19_0, hcz19_1, hfz19_0, hfz19_1⟩ := CF_ BK106;have p109 : 0 ≤ (x3_2 : Int) := DA_;have q109 : x3_2 < (l0_1.length : Int) := DA_;obtain ⟨ad109, e109, hx109_0⟩ := Kd.at_string HR0_1.out x3_2 p109 q109
         cases e109
         replace hx109_0 := (HB.out.cell (World.block_lt_of_cell? w _ hx109_0)).trans hx109_0;replace p109 := eq_true p109;replace q109 := eq_true q109
         iterate 3 ((try go_wp2_with (first | (go_at_call 49; (with_reducible refine (rf3_Read.calls (rdOf ByteArray.empty l0_1 x3_2) t110 t111 false _ A12.out).mono ?_); rintro e w20 ⟨rfl, hb⟩; replace BK106 := BF_ BK106 hb; replace HB := BU_ hb; clear hb) | ((with_reducible refine gate_dst (N := 4) rfl ?_); (try (refine gate_guard (by rfl) ?_; dsimp only)); refine BX_ 4 #[.string (⟨#[]⟩ : ByteArray), .string (⟨#[]⟩ : ByteArray)] 61 ?_; intro gb113 hg w21 hbox hb; have BK113 := A_ (hbox); have GE113 := GE_ hg; replace HB := BU_ hb; have NB106_113 := NB_ BK106 hg; have NB113_106 := NC_ BK106 hg; replace BK106 := BF_ BK106 hb; clear hb hbox hg; have hnb22 := NB113_106.out; have hnc22 := NB106_113.out; obtain ⟨hcz23_0, hcz23_1, hfz23_0, hfz23_1⟩ := CF_ BK113))); (try go_quiet (first | (go_at_call 49; (with_reducible refine (rf3_Read.calls (rdOf ByteArray.empty l0_1 x3_2) t110 t111 false _ A12.out).mono ?_); rintro e w20 ⟨rfl, hb⟩; replace BK106 := BF_ BK106 hb; replace HB := BU_ hb; clear hb) | ((with_reducible refine gate_dst (N := 4) rfl ?_); (try (refine gate_guard (by rfl) ?_; dsimp only)); refine BX_ 4 #[.string (⟨#[]⟩ : ByteArray), .string (⟨#[]⟩ : ByteArray)] 61 ?_; intro gb113 hg w21 hbox hb; have BK113 := A_ (hbox); have GE113 := GE_ hg; replace HB := BU_ hb; have NB106_113 := NB_ BK106 hg; have NB113_106 := NC_ BK106 hg; replace BK106 := BF_ BK106 hb; clear hb hbox hg; have hnb22 := NB113_106.out; have hnc22 := NB106_113.out; obtain ⟨hcz23_0, hcz23_1, hfz23_0, hfz23_1⟩ := CF_ BK113))))
         go_ret
         exact ⟨T4_, T9_⟩
       ·
        rw [if_neg c11] at H;exact absurd H (by simp)
      ·
       rw [if_neg c10] at H;have c10b0 := decide_eq_false c10;clear c10;obtain rfl := Option.some.inj H;obtain ⟨hcz24_0, hcz24_1, hfz24_0, hfz24_1⟩ := CF_ BK106
       go_wp2
       repeat (go_quiet (fail); try go_wp2)
       go_ret
       exact ⟨T4_, T9_⟩
end Go.Proofs.YtndkjpkgllmbnaaGreatDoor.PG
