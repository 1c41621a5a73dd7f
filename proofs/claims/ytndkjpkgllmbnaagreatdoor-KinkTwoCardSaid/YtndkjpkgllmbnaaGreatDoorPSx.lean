-- by wip/tool/mine.py of this repo (the kit's printer with given contracts)
import Derived.Test.YtndkjpkgllmbnaaGreatDoorRX1
namespace Go.Proofs.YtndkjpkgllmbnaaGreatDoor.PS
open Go.RowKit Go.ZPWords Go.ZPLast Go.ZPMore
attribute [local go_sem] max2_int min2_int max_two min_two max_three min_three max_four min_four   -- for this text's walks alone
set_option linter.unusedVariables false
set_option linter.unusedSimpArgs false
set_option maxHeartbeats 8000000
set_option maxRecDepth 100000
def errW : Option Int → Value
 | none => .nilIface
 | some c => .iface 0 (.int .i64 c)
theorem errW_none : errW none = .nilIface := rfl
theorem errW_some (c : Int) : errW (some c) = .iface 0 (.int .i64 c) := rfl
/-! ### rf2_Right: function 70 -/
noncomputable def rf2_Right.f (a0 : ByteArray) : Option (Bool) := PB.rf2_Right.f a0
theorem rf2_Right.calls (a0 : ByteArray) (r : Bool) (w : World) (h : rf2_Right.f a0 = some r) :
  Calls Tryz.prog 70 #[.string a0] w fun e w' => e = .returned (.bool r) ∧ Drawn0 w w' := PB.rf2_Right.calls a0 r w h
theorem rf2_Right.of {a : ByteArray} (h : a.size ≤ 140737488351232) : rf2_Right.f a = some (Th.Wh.right a) := Th.Wh.rright_spec a h
/-! ### rf1_Right: function 71 -/
noncomputable def rf1_Right.f (a0 : ByteArray) : Option Bool := if a0.size ≤ 140737488351232 then some (Str.right a0) else none
theorem rf1_Right.calls (a0 : ByteArray) (r : Bool) (w : World) (h : rf1_Right.f a0 = some r) :
  Calls Tryz.prog 71 #[.string a0] w fun e w' => e = .returned (.bool r) ∧ Drawn0 w w' := by
 unfold rf1_Right.f at h
 by_cases c : a0.size ≤ 140737488351232
 ·
  rw [if_pos c] at h;obtain ⟨k, hk⟩ := (Th.Ref.right_spec a0 c).rounds;exact PR.rf1_Right.calls k a0 r w (hk.trans h)
 ·
  rw [if_neg c] at h
  cases h
/-! ### rf3_Lowest: function 72 -/
noncomputable def rf3_Lowest.f (a0 : ByteArray) (a1 : ByteArray) : Option (ByteArray × ByteArray) := Err.rLowest a0 a1
theorem rf3_Lowest.calls (a0 : ByteArray) (a1 : ByteArray) (r1 : ByteArray) (r2 : ByteArray) (w : World) (h : rf3_Lowest.f a0 a1 = some (r1, r2)) :
  Calls Tryz.prog 72 #[.string a0, .string a1] w fun e w' => e = .returned (.agg #[.string r1, .string r2]) ∧ Below w.heap.size w w' := Err.rLowest_calls a0 a1 r1 r2 w h
/-! ### rf3_Text: function 73 -/
noncomputable def rf3_Text.f (a0_0 : ByteArray) (a0_1 : ByteArray) : Option (ByteArray) := if a0_0.size + a0_1.size ≤ 1000000000000 then some (if (a0_1.toList == ([49] : List UInt8)) = true then a0_0 else a0_0 ++ (⟨#[47]⟩ : ByteArray) ++ a0_1) else none
theorem rf3_Text.calls (a0_0 : ByteArray) (a0_1 : ByteArray) (r : ByteArray) (w : World) (h : rf3_Text.f a0_0 a0_1 = some r) :
  Calls Tryz.prog 73 #[.agg #[.string a0_0, .string a0_1]] w fun e w' => e = .returned (.string r) ∧ Below w.heap.size w w' := by
 unfold rf3_Text.f at h
 by_cases c : a0_0.size + a0_1.size ≤ 1000000000000
 ·
  rw [if_pos c] at h;injection h with h;subst h
  have hs : (a0_0 ++ (⟨#[47]⟩ : ByteArray)).size = a0_0.size + 1 := by rw [ByteArray.size_append]; rfl
  exact Err.text3 a0_0 a0_1 _ w rfl (by omega) (by omega)
 ·
  rw [if_neg c] at h
  cases h
theorem rf3_Text.rt (x : Rat) (h : Err.qm x ≤ 100000000000) : rf3_Text.f (Th.Wh.zt x.num) (Th.txt x.den) = some (Err.rt x) := by
 have h1 := (Th.Wh.zs_le x.num).2;have h2 := Err.qm_num x;have h3 := Err.qm_den x;rw [rf3_Text.f, if_pos (by omega)]
 by_cases hd : x.den = 1
 ·
  rw [if_pos (by rw [beq_iff_eq]; exact Err.toList49.2 hd), Err.rt_one hd]
 ·
  rw [if_neg (by rw [beq_iff_eq]; exact fun e => hd (Err.toList49.1 e)), Err.rt_frac hd]
/-! ### rf3_Read: function 49 -/
mutual
noncomputable def rf3_Read.l0 : Nat → ByteArray → Int → Int → Option (ByteArray × ByteArray × Bool)
 | 0, _, _, _ => none
 | k + 1, x0, x4, x5 => if x5 ≥ 0 then (if 0 ≤ x5 then (if x5 < (x0.size : Int) then (if (bt x0 x5) = 47 then (rf3_Read.l0 k x0 x5 (wrap64 (x5 - 1))) else (rf3_Read.l0 k x0 x4 (wrap64 (x5 - 1)))) else (none)) else (none)) else (if 0 ≤ x4 then (if x4 ≤ (x0.size : Int) then (if x4 < (x0.size : Int) then (if 0 ≤ (wrap64 (x4 + 1)) then (if (wrap64 (x4 + 1)) ≤ (x0.size : Int) then (rf3_Read.j1 k x0 x4 (x0.extract 0 (x4 : Int).toNat) (x0.extract ((wrap64 (x4 + 1)) : Int).toNat x0.size)) else (none)) else (none)) else (rf3_Read.j1 k x0 x4 (x0.extract 0 (x4 : Int).toNat) (⟨#[49]⟩ : ByteArray))) else (none)) else (none))
noncomputable def rf3_Read.j1 : Nat → ByteArray → Int → ByteArray → ByteArray → Option (ByteArray × ByteArray × Bool)
 | 0, _, _, _, _ => none
 | k + 1, x0, x4, x6, x7 => (rf2_Right.f x6).bind fun t102 => (if t102 = true then ((rf1_Right.f x7).bind fun t103 => (if t103 = true then (if x7.toList = ([48] : List UInt8) then (rf3_Read.j2 k x0 x6 x7 true) else (if x4 < (x0.size : Int) then (rf3_Read.j2 k x0 x6 x7 (x7.toList == ([49] : List UInt8))) else (rf3_Read.j2 k x0 x6 x7 false))) else (rf3_Read.j2 k x0 x6 x7 true))) else (rf3_Read.j2 k x0 x6 x7 true))
noncomputable def rf3_Read.j2 : Nat → ByteArray → ByteArray → ByteArray → Bool → Option (ByteArray × ByteArray × Bool)
 | 0, _, _, _, _ => none
 | k + 1, x0, x6, x7, x55 => if x55 = true then (some ((⟨#[]⟩ : ByteArray), (⟨#[]⟩ : ByteArray), false)) else ((rf3_Lowest.f x6 x7).bind fun bt104 => ((rf3_Text.f bt104.1 bt104.2).bind fun t107 => (some (bt104.1, bt104.2, (t107.toList == x0.toList)))))
end
noncomputable def rf3_Read.f (k : Nat) (a0 : ByteArray) : Option (ByteArray × ByteArray × Bool) := rf3_Read.l0 k a0 (a0.size : Int) (wrap64 ((a0.size : Int) - 1))
theorem rf3_Read.calls (k : Nat) (a0 : ByteArray) (r1 : ByteArray) (r2 : ByteArray) (r3 : Bool) (w : World) (h : rf3_Read.f k a0 = some (r1, r2, r3)) :
  Calls Tryz.prog 49 #[.string a0] w fun e w' => e = .returned (.tuple #[.agg #[.string r1, .string r2], .bool r3]) ∧ Below w.heap.size w w' := by
 have hu61 := Tryz.underlying61;have HB := A_ (Below.refl w.heap.size w);unfold rf3_Read.f at h;have H := h;clear h;have H' := A_ H;clear H;go_enter Tryz.func49, Tryz.ntmps49
 go_wp2_with (first | ((with_reducible refine gate_dst (N := 2) rfl ?_); (try (refine gate_guard (by rfl) ?_; dsimp only)); refine BX_ 2 #[.string (⟨#[]⟩ : ByteArray), .string (⟨#[]⟩ : ByteArray)] 61 ?_; intro gb101 hg w2 hbox hb; have BK101 := A_ (hbox); have GE101 := GE_ hg; replace HB := BS_ hb; clear hb hbox hg))
 go_loopg [4, 5] k (fun kq v4 v5 w' => ∃ (x4_1 : Int) (x5_1 : Int), v4 = .int .i64 x4_1 ∧ v5 = .int .i64 x5_1 ∧ Aside0 (rf3_Read.l0 kq a0 x4_1 x5_1 = some (r1, r2, r3)) ∧ Aside0 (kq ≤ k) ∧ Aside0 (w'.heap[gb101]? = some (.cells #[.string (⟨#[]⟩ : ByteArray), .string (⟨#[]⟩ : ByteArray)] 61 (0, 0))) ∧ Aside0 (Below w.heap.size w w'))
 case atStart => exact ⟨((a0.size : Int)), (wrap64 ((a0.size : Int) - 1)), S1_, S1_, H', ⟨Nat.le_refl _⟩, BW_ BK101, ⟨T9_⟩⟩
 case round =>
  clear H'
  obtain ⟨x4_1, x5_1, rfl, rfl, HA, HK1, BK101, HB⟩ := hrel
  cases gk with
  | zero => exact absurd HA.out (by simp [rf3_Read.l0])
  | succ k1 =>
   have H := HA.out;clear HA;simp only [rf3_Read.l0] at H
   by_cases c3 : x5_1 ≥ 0
   ·
    rw [if_pos c3] at H;have c3b0 : decide (0 ≤ x5_1) = true := decide_eq_true c3;clear c3
    by_cases c4 : 0 ≤ x5_1
    ·
     rw [if_pos c4] at H;have c4b0 := decide_eq_true c4;clear c4
     by_cases c5 : x5_1 < (a0.size : Int)
     ·
      rw [if_pos c5] at H;have c5b0 := decide_eq_true c5;clear c5
      by_cases c7 : (bt a0 x5_1) = 47
      ·
       rw [if_pos c7] at H;have c7b0 : ((bt a0 x5_1) == 47) = true := beq_iff_eq.mpr c7;have c7b1 : ((bt a0 x5_1) != 47) = false := bne_eq_false_iff_eq.mpr c7;clear c7;have H' := A_ H;clear H;have p6 : 0 ≤ (x5_1 : Int) := DA_;have q6 : x5_1 < (a0.size : Int) := DA_;have hx6 := bt_at a0 x5_1;replace p6 := eq_true p6;replace q6 := eq_true q6
       go_wp2
       go_roundg k1
       case measure => have := HK1.out; omega
       case rel => exact ⟨(x5_1), (wrap64 (x5_1 - 1)), S1_, S1_, H', ⟨by have := HK1.out; omega⟩, BW_ BK101, ⟨T9_⟩⟩
      ·
       rw [if_neg c7] at H;have c7b0 : ((bt a0 x5_1) == 47) = false := beq_eq_false_iff_ne.mpr c7;have c7b1 : ((bt a0 x5_1) != 47) = true := bne_iff_ne.mpr c7;have H' := A_ H;clear H;have p6 : 0 ≤ (x5_1 : Int) := DA_;have q6 : x5_1 < (a0.size : Int) := DA_;have hx6 := bt_at a0 x5_1;replace p6 := eq_true p6;replace q6 := eq_true q6
       go_wp2
       go_roundg k1
       case measure => have := HK1.out; omega
       case rel => exact ⟨(x4_1), (wrap64 (x5_1 - 1)), S1_, S1_, H', ⟨by have := HK1.out; omega⟩, BW_ BK101, ⟨T9_⟩⟩
     ·
      rw [if_neg c5] at H;exact absurd H (by simp)
    ·
     rw [if_neg c4] at H;exact absurd H (by simp)
   ·
    rw [if_neg c3] at H;have c3b0 : decide (0 ≤ x5_1) = false := decide_eq_false c3;clear c3
    by_cases c8 : 0 ≤ x4_1
    ·
     rw [if_pos c8] at H;have c8b0 := eq_true c8;have c8b1 := decide_eq_true c8;clear c8
     by_cases c9 : x4_1 ≤ (a0.size : Int)
     ·
      rw [if_pos c9] at H;have c9b0 := eq_true c9;have c9b1 := decide_eq_true c9;clear c9;have HC10 := A_ H;clear H
      go_upto_if 29 with (fail)
      go_cut [7] (fun v7 wc => ∃ (kq : Nat) (x7_9 : ByteArray), v7 = .string x7_9 ∧ Aside0 (rf3_Read.j1 kq a0 x4_1 (a0.extract 0 (x4_1 : Int).toNat) x7_9 = some (r1, r2, r3)) ∧ Aside0 (kq ≤ k1) ∧ Aside0 (wc.heap[gb101]? = some (.cells #[.string (⟨#[]⟩ : ByteArray), .string (⟨#[]⟩ : ByteArray)] 61 (0, 0))) ∧ Aside0 (Below w.heap.size w wc))
      case first =>
       have H := HC10.out;clear HC10
       by_cases c11 : x4_1 < (a0.size : Int)
       ·
        rw [if_pos c11] at H;have c11b0 := decide_eq_true c11;clear c11
        (first | rw [c11b0] | (simp only [i64_w, i32_w]; rw [c11b0]) | skip)
        obtain ⟨ji12, hji12⟩ : ∃ j_ : Int, (wrap64 (x4_1 + 1)) = j_ := ⟨_, rfl⟩
        first | rw [hji12] at H | simp only [hji12] at H
        have hji12w : (IntKind.i64.wrap (x4_1 + 1)) = ji12 := (i64_w _).trans hji12
        by_cases c13 : 0 ≤ (ji12)
        ·
         rw [if_pos c13] at H;have c13b0 := eq_true c13;have c13b1 := decide_eq_true c13;clear c13
         by_cases c14 : (ji12) ≤ (a0.size : Int)
         ·
          rw [if_pos c14] at H;have c14b0 := eq_true c14;have c14b1 := decide_eq_true c14;clear c14;have H' := A_ H;clear H
          go_wp2
          go_meet
          case rel => exact ⟨_, (a0.extract ((ji12) : Int).toNat a0.size), (by first | rfl | (simp; done) | (simp only [← hji12] <;> (first | rfl | simp)) | (simp [*]; done)), H', ⟨by have := HK1.out; first | omega | exact Nat.le_refl _⟩, BW_ BK101, ⟨T9_⟩⟩
         ·
          rw [if_neg c14] at H;exact absurd H (by simp)
        ·
         rw [if_neg c13] at H;exact absurd H (by simp)
       ·
        rw [if_neg c11] at H;have c11b0 := decide_eq_false c11;clear c11
        (first | rw [c11b0] | (simp only [i64_w, i32_w]; rw [c11b0]) | skip)
        have H' := A_ H;clear H
        go_wp2
        go_meet
        case rel => exact ⟨_, ((⟨#[49]⟩ : ByteArray)), S1_, H', ⟨by have := HK1.out; first | omega | exact Nat.le_refl _⟩, BW_ BK101, ⟨T9_⟩⟩
      case rest =>
       clear HC10
       try clear c3
       try clear c3b0
       try clear c8
       try clear c8b0
       try clear c8b1
       try clear c9
       try clear c9b0
       try clear c9b1
       obtain ⟨kq, x7_9, rfl, HA, HJ9, BK101, HB⟩ := hcut
       cases kq with
       | zero => exact absurd HA.out (by simp [rf3_Read.j1])
       | succ kj9 =>
        have H := HA.out;clear HA;simp only [rf3_Read.j1] at H;have HC15 := A_ H;clear H
        go_upto_region 10 with (fail)
        go_cut [55] (fun v55 wc => ∃ (kq : Nat) (x55_14 : Bool), v55 = .bool x55_14 ∧ Aside0 (rf3_Read.j2 kq a0 (a0.extract 0 (x4_1 : Int).toNat) x7_9 x55_14 = some (r1, r2, r3)) ∧ Aside0 (kq ≤ kj9) ∧ Aside0 (wc.heap[gb101]? = some (.cells #[.string (⟨#[]⟩ : ByteArray), .string (⟨#[]⟩ : ByteArray)] 61 (0, 0))) ∧ Aside0 (Below w.heap.size w wc))
        case first =>
         have H := HC15.out;clear HC15;replace H := BE_ H;obtain ⟨t102, A160, H⟩ := H;have A16 := A_ A160;clear A160
         by_cases c17 : t102 = true
         ·
          subst c17;rw [if_pos rfl] at H;replace H := BE_ H;obtain ⟨t103, A180, H⟩ := H;have A18 := A_ A180;clear A180
          by_cases c19 : t103 = true
          ·
           subst c19;rw [if_pos rfl] at H
           by_cases c20 : x7_9.toList = ([48] : List UInt8)
           ·
            rw [if_pos c20] at H;have c20b0 : (x7_9.toList == ([48] : List UInt8)) = true := beq_iff_eq.mpr c20;have c20b1 : (x7_9.toList != ([48] : List UInt8)) = false := bne_eq_false_iff_eq.mpr c20;clear c20
            (first | rw [c20b0] | (simp only [i64_w, i32_w]; rw [c20b0]) | skip)
            have H' := A_ H;clear H
            go_wp2_with (first | (refine GL_ 70 35 Tryz.func70 #[.string (a0.extract 0 (x4_1 : Int).toNat)] ?_; (with_reducible refine (rf2_Right.calls (a0.extract 0 (x4_1 : Int).toNat) true _ A16.out).mono ?_); rintro e w' ⟨rfl, ⟨nd, rfl⟩⟩; refine ⟨_, rfl, ?_⟩) | (go_at_call 71; (with_reducible refine (rf1_Right.calls x7_9 true _ A18.out).mono ?_); rintro e w' ⟨rfl, ⟨nd, rfl⟩⟩))
            go_meet
            case rel => exact ⟨_, (true), S1_, H', ⟨by have := HK1.out; have := HJ9.out; first | omega | exact Nat.le_refl _⟩, BW_ BK101, ⟨T9_⟩⟩
           ·
            rw [if_neg c20] at H;have c20b0 : (x7_9.toList == ([48] : List UInt8)) = false := beq_eq_false_iff_ne.mpr c20;have c20b1 : (x7_9.toList != ([48] : List UInt8)) = true := bne_iff_ne.mpr c20
            (first | rw [c20b0] | (simp only [i64_w, i32_w]; rw [c20b0]) | skip)
            by_cases c21 : x4_1 < (a0.size : Int)
            ·
             rw [if_pos c21] at H;have c21b0 := decide_eq_true c21;clear c21;have H' := A_ H;clear H
             go_wp2_with (first | (refine GL_ 70 35 Tryz.func70 #[.string (a0.extract 0 (x4_1 : Int).toNat)] ?_; (with_reducible refine (rf2_Right.calls (a0.extract 0 (x4_1 : Int).toNat) true _ A16.out).mono ?_); rintro e w' ⟨rfl, ⟨nd, rfl⟩⟩; refine ⟨_, rfl, ?_⟩) | (go_at_call 71; (with_reducible refine (rf1_Right.calls x7_9 true _ A18.out).mono ?_); rintro e w' ⟨rfl, ⟨nd, rfl⟩⟩))
             go_meet
             case rel => exact ⟨_, ((x7_9.toList == ([49] : List UInt8))), S1_, H', ⟨by have := HK1.out; have := HJ9.out; first | omega | exact Nat.le_refl _⟩, BW_ BK101, ⟨T9_⟩⟩
            ·
             rw [if_neg c21] at H;have c21b0 := decide_eq_false c21;clear c21;have H' := A_ H;clear H
             go_wp2_with (first | (refine GL_ 70 35 Tryz.func70 #[.string (a0.extract 0 (x4_1 : Int).toNat)] ?_; (with_reducible refine (rf2_Right.calls (a0.extract 0 (x4_1 : Int).toNat) true _ A16.out).mono ?_); rintro e w' ⟨rfl, ⟨nd, rfl⟩⟩; refine ⟨_, rfl, ?_⟩) | (go_at_call 71; (with_reducible refine (rf1_Right.calls x7_9 true _ A18.out).mono ?_); rintro e w' ⟨rfl, ⟨nd, rfl⟩⟩))
             go_meet
             case rel => exact ⟨_, (false), S1_, H', ⟨by have := HK1.out; have := HJ9.out; first | omega | exact Nat.le_refl _⟩, BW_ BK101, ⟨T9_⟩⟩
          ·
           replace c19 := Bool.eq_false_iff.mpr c19;subst c19;rw [if_neg (show ¬ (false = true) by decide)] at H;have H' := A_ H;clear H
           go_wp2_with (first | (refine GL_ 70 35 Tryz.func70 #[.string (a0.extract 0 (x4_1 : Int).toNat)] ?_; (with_reducible refine (rf2_Right.calls (a0.extract 0 (x4_1 : Int).toNat) true _ A16.out).mono ?_); rintro e w' ⟨rfl, ⟨nd, rfl⟩⟩; refine ⟨_, rfl, ?_⟩) | (go_at_call 71; (with_reducible refine (rf1_Right.calls x7_9 false _ A18.out).mono ?_); rintro e w' ⟨rfl, ⟨nd, rfl⟩⟩))
           go_meet
           case rel => exact ⟨_, (true), S1_, H', ⟨by have := HK1.out; have := HJ9.out; first | omega | exact Nat.le_refl _⟩, BW_ BK101, ⟨T9_⟩⟩
         ·
          replace c17 := Bool.eq_false_iff.mpr c17;subst c17;rw [if_neg (show ¬ (false = true) by decide)] at H;have H' := A_ H;clear H
          go_wp2_with (first | (refine GL_ 70 35 Tryz.func70 #[.string (a0.extract 0 (x4_1 : Int).toNat)] ?_; (with_reducible refine (rf2_Right.calls (a0.extract 0 (x4_1 : Int).toNat) false _ A16.out).mono ?_); rintro e w' ⟨rfl, ⟨nd, rfl⟩⟩; refine ⟨_, rfl, ?_⟩))
          go_meet
          case rel => exact ⟨_, (true), S1_, H', ⟨by have := HK1.out; have := HJ9.out; first | omega | exact Nat.le_refl _⟩, BW_ BK101, ⟨T9_⟩⟩
        case rest =>
         clear HC15
         try clear c3
         try clear c3b0
         try clear c8
         try clear c8b0
         try clear c8b1
         try clear c9
         try clear c9b0
         try clear c9b1
         obtain ⟨kq, x55_14, rfl, HA, HJ14, BK101, HB⟩ := hcut
         cases kq with
         | zero => exact absurd HA.out (by simp [rf3_Read.j2])
         | succ kj14 =>
          have H := HA.out;clear HA;simp only [rf3_Read.j2] at H
          by_cases c22 : x55_14 = true
          ·
           subst c22;rw [if_pos rfl] at H;simp only [Option.some.injEq, Prod.mk.injEq] at H;obtain ⟨rfl, rfl, rfl⟩ := H;obtain ⟨hcz23_0, hcz23_1, hfz23_0, hfz23_1⟩ := CF_ BK101
           go_wp2
           refine bodyPost_ret (results_ct rfl _ _ gb101 61 #[.string (⟨#[]⟩ : ByteArray), .string (⟨#[]⟩ : ByteArray)] (0, 0) _ rfl (by (with_reducible repeat (first | refine blk_drewN ?_ _ | refine blk_drew ?_ | refine blk_alloc ?_ _)); refine blk_put (cs := #[.string (⟨#[]⟩ : ByteArray), .string (⟨#[]⟩ : ByteArray)]) ?_ 1 _ rfl; (with_reducible repeat (first | refine blk_drewN ?_ _ | refine blk_drew ?_ | refine blk_alloc ?_ _)); refine blk_put (cs := #[.string (⟨#[]⟩ : ByteArray), .string (⟨#[]⟩ : ByteArray)]) ?_ 0 _ rfl; (with_reducible repeat (first | refine blk_drewN ?_ _ | refine blk_drew ?_ | refine blk_alloc ?_ _)); exact BK101.out) Tryz.underlying61 rfl (by kernel_rfl)) rfl ?_;exact ⟨T4_, T9_⟩
          ·
           replace c22 := Bool.eq_false_iff.mpr c22;subst c22;rw [if_neg (show ¬ (false = true) by decide)] at H;replace H := BE_ H;obtain ⟨⟨t104, t105⟩, A240, H⟩ := H;have A24 := A_ A240;clear A240;replace H := BE_ H;obtain ⟨t107, A250, H⟩ := H;have A25 := A_ A250;clear A250;simp only [Option.some.injEq, Prod.mk.injEq] at H;obtain ⟨rfl, rfl, rfl⟩ := H
           try go_wp2_with (first | (refine GL_ 72 59 Tryz.func72 #[.string (a0.extract 0 (x4_1 : Int).toNat), .string x7_9] ?_; (with_reducible refine (rf3_Lowest.calls (a0.extract 0 (x4_1 : Int).toNat) x7_9 t104 t105 _ A24.out).mono ?_); rintro e w26 ⟨rfl, hb⟩; refine ⟨_, rfl, ?_⟩; replace BK101 := BF_ BK101 hb; replace HB := BU_ hb; clear hb) | ((with_reducible refine gate_dst (N := 8) rfl ?_); (try (refine gate_guard (by rfl) ?_; dsimp only)); refine BX_ 8 #[.string (⟨#[]⟩ : ByteArray), .string (⟨#[]⟩ : ByteArray)] 61 ?_; intro gb106 hg w27 hbox hb; have BK106 := A_ (hbox); have GE106 := GE_ hg; replace HB := BU_ hb; have NB101_106 := NB_ BK101 hg; have NB106_101 := NC_ BK101 hg; replace BK101 := BF_ BK101 hb; clear hb hbox hg; have hnb28 := NB106_101.out; have hnc28 := NB101_106.out; obtain ⟨hcz29_0, hcz29_1, hfz29_0, hfz29_1⟩ := CF_ BK106))
           have n0_ : Aside0 (((w27.setCell ⟨gb106, 0, none⟩ (.string t104)).setCell ⟨gb106, 1, none⟩ (.string t105)).heap[gb101]? = some (.cells #[.string (⟨#[]⟩ : ByteArray), .string (⟨#[]⟩ : ByteArray)] 61 (0, 0))) := BW_ BK101;have n1_ : Aside0 (((w27.setCell ⟨gb106, 0, none⟩ (.string t104)).setCell ⟨gb106, 1, none⟩ (.string t105)).heap[gb106]? = some (.cells #[.string t104, .string t105] 61 (0, 0))) := ⟨by (with_reducible repeat (first | refine blk_drewN ?_ _ | refine blk_drew ?_ | refine blk_alloc ?_ _)); refine blk_put (cs := #[.string t104, .string (⟨#[]⟩ : ByteArray)]) ?_ 1 _ rfl; (with_reducible repeat (first | refine blk_drewN ?_ _ | refine blk_drew ?_ | refine blk_alloc ?_ _)); refine blk_put (cs := #[.string (⟨#[]⟩ : ByteArray), .string (⟨#[]⟩ : ByteArray)]) ?_ 0 _ rfl; (with_reducible repeat (first | refine blk_drewN ?_ _ | refine blk_drew ?_ | refine blk_alloc ?_ _)); exact BK106.out⟩;have n2_ : Aside0 (Below w.heap.size w ((w27.setCell ⟨gb106, 0, none⟩ (.string t104)).setCell ⟨gb106, 1, none⟩ (.string t105))) := ⟨T9_⟩
           (try clear BK101)
           (try clear BK106)
           (try clear HB)
           generalize ((w27.setCell ⟨gb106, 0, none⟩ (.string t104)).setCell ⟨gb106, 1, none⟩ (.string t105)) = w30 at n0_ n1_ n2_ ⊢;have BK101 := n0_;have BK106 := n1_;have HB := n2_;clear n0_ n1_ n2_;replace BK101 := A_ (blk_drew BK101.out);replace BK106 := A_ (blk_drew BK106.out);replace HB := A_ (below_drew1 HB.out);refine start_ (n := 7) (S := fun w' => w'.cell? ⟨gb106, 0, none⟩ = some (.string t104) ∧ w'.cell? ⟨gb106, 1, none⟩ = some (.string t105)) (ds := []) #[false, false, false, false, false, false, false] (by kernel_rfl) rfl rfl ⟨(blk_cell BK106.out 0).trans rfl, (blk_cell BK106.out 1).trans rfl⟩ (fun hHeld => ?_);generalize w30.drew = w31 at BK101 BK106 HB hHeld ⊢;refine pure_ (i := 3) (N := some 63) (v := ?_) (a' := ?_) #[false, false, false, true, false, false, false] rfl rfl (by kernel_rfl) (fun _ _ _ h => h) (Or.inl ⟨by rfl, ?_⟩) ?_ ?_;rotate_left
           ·
            intro w';go_simp;with_reducible rfl
           rotate_left
           ·
            simp only [Act.put, List.setIfInBounds_toArray, List.set_cons_zero, List.set_cons_succ, i64_w, i32_w];rfl
           refine take_ (i := 0) (N := some 60) (v := ?_) (a' := ?_) #[true, false, false, true, false, false, false] rfl rfl (by kernel_rfl) (fun _ _ _ h => h) (Or.inl ⟨by rfl, ?_⟩) hHeld ?_ ?_;rotate_left
           ·
            rintro w' ⟨s0, s1⟩;go_simp;with_reducible rfl
           rotate_left
           ·
            simp only [Act.put, List.setIfInBounds_toArray, List.set_cons_zero, List.set_cons_succ, i64_w, i32_w];rfl
           refine take_ (i := 1) (N := some 61) (v := ?_) (a' := ?_) #[true, true, false, true, false, false, false] rfl rfl (by kernel_rfl) (fun _ _ _ h => h) (Or.inl ⟨by rfl, ?_⟩) hHeld ?_ ?_;rotate_left
           ·
            rintro w' ⟨s0, s1⟩;go_simp;with_reducible rfl
           rotate_left
           ·
            simp only [Act.put, List.setIfInBounds_toArray, List.set_cons_zero, List.set_cons_succ, i64_w, i32_w];rfl
           refine one_ (i := 2) (N := some 62) #[true, true, true, true, false, false, false] rfl rfl (by kernel_rfl) (by decide) (fun K hK => ?_);refine goes_ Tryz.func73 (by kernel_rfl) rfl #[.agg #[.string t104, .string t105]] (by rfl) rfl rfl T2_ ?_
           with_reducible refine (rf3_Text.calls t104 t105 t107 _ A25.out).mono ?_
           rintro e w32 ⟨rfl, hb⟩;refine ⟨_, rfl, ?_⟩;replace BK101 := BF_ BK101 hb;replace BK106 := BF_ BK106 hb;replace HB := BU_ hb
           (try clear hb)
           (try clear hb2)
           (try clear hk)
           (try clear hi)
           refine hK.out _ _ ⟨(blk_cell BK106.out 0).trans rfl, (blk_cell BK106.out 1).trans rfl⟩ (fun hHeld => ?_);clear hK K;refine norm_ (a' := ?_) ?_ ?_;rotate_left
           ·
            show Act.put _ (some 62) _ = _
            simp only [Act.put, List.setIfInBounds_toArray, List.set_cons_zero, List.set_cons_succ, i64_w, i32_w];rfl
           refine pure_ (i := 4) (N := some 64) (v := ?_) (a' := ?_) #[true, true, true, true, true, false, false] rfl rfl (by kernel_rfl) (fun _ _ _ h => h) (Or.inl ⟨by rfl, ?_⟩) ?_ ?_;rotate_left
           ·
            intro w';go_simp;with_reducible rfl
           rotate_left
           ·
            simp only [Act.put, List.setIfInBounds_toArray, List.set_cons_zero, List.set_cons_succ, i64_w, i32_w];rfl
           refine one_ (i := 5) (N := none) #[true, true, true, true, true, true, false] rfl rfl (by kernel_rfl) (by decide) (fun K hK => ?_);have hs33 : w32.cell? ⟨gb101, 0, none⟩ = some (.string (⟨#[]⟩ : ByteArray)) := (blk_cell BK101.out 0).trans rfl;have hfs33 := blk_frozen BK101.out 0;have hns33_1 := NB106_101.out;have hms33_1 := NB101_106.out;have hs34 : w32.cell? ⟨gb101, 1, none⟩ = some (.string (⟨#[]⟩ : ByteArray)) := (blk_cell BK101.out 1).trans rfl;have hfs34 := blk_frozen BK101.out 1;have hns34_1 := NB106_101.out;have hms34_1 := NB101_106.out;refine skip_ (w1 := ?_) (by rfl) rfl ?_ ?_;rotate_left
           ·
            go_simp;rfl
           refine hK.out _ _ ⟨((cell_far (p := ⟨gb101, _, none⟩) NB106_101.out _).trans (((cell_far (p := ⟨gb101, _, none⟩) NB106_101.out _).trans (hHeld.1)))), ((cell_far (p := ⟨gb101, _, none⟩) NB106_101.out _).trans (((cell_far (p := ⟨gb101, _, none⟩) NB106_101.out _).trans (hHeld.2))))⟩ (fun hHeld => ?_);clear hK K;refine pure_ (i := 6) (N := some 3) (v := ?_) (a' := ?_) #[true, true, true, true, true, true, true] rfl rfl (by kernel_rfl) (fun _ _ _ h => h) (Or.inl ⟨by rfl, ?_⟩) ?_ ?_;rotate_left
           ·
            intro w';go_simp;with_reducible rfl
           rotate_left
           ·
            simp only [Act.put, List.setIfInBounds_toArray, List.set_cons_zero, List.set_cons_succ, i64_w, i32_w];rfl
           refine done_ (by kernel_rfl) ?_
           try go_wp2
           refine bodyPost_ret (results_ct rfl _ _ gb101 61 #[.string t104, .string t105] (0, 0) _ rfl (by (with_reducible repeat (first | refine blk_drewN ?_ _ | refine blk_drew ?_ | refine blk_alloc ?_ _)); refine blk_put (cs := #[.string t104, .string (⟨#[]⟩ : ByteArray)]) ?_ 1 _ rfl; (with_reducible repeat (first | refine blk_drewN ?_ _ | refine blk_drew ?_ | refine blk_alloc ?_ _)); refine blk_put (cs := #[.string (⟨#[]⟩ : ByteArray), .string (⟨#[]⟩ : ByteArray)]) ?_ 0 _ rfl; (with_reducible repeat (first | refine blk_drewN ?_ _ | refine blk_drew ?_ | refine blk_alloc ?_ _)); exact BK101.out) Tryz.underlying61 rfl (by kernel_rfl)) rfl ?_;exact ⟨T4_, T9_⟩
     ·
      rw [if_neg c9] at H;exact absurd H (by simp)
    ·
     rw [if_neg c8] at H;exact absurd H (by simp)
end Go.Proofs.YtndkjpkgllmbnaaGreatDoor.PS
