-- by wip/tool/mine.py of this repo (the kit's printer with given contracts)
import Derived.Test.YtfjlmiehbikmnaaGreatDoorPMx0
import Derived.Test.YtfjlmiehbikmnaaGreatDoorPMx1
namespace Go.Proofs.YtfjlmiehbikmnaaGreatDoor.PM
set_option maxHeartbeats 8000000
set_option maxRecDepth 100000
open Go.RowKit Go.Proofs.YtfjlmiehbikmnaaGreatDoorW.PrintWords Go.Proofs.YtfjlmiehbikmnaaGreatDoorW.PrintLast Go.Proofs.YtfjlmiehbikmnaaGreatDoorW.PrintMore
attribute [local go_sem] max2_int min2_int max_two min_two max_three min_three max_four min_four   -- for this text's walks alone
set_option linter.unusedVariables false
set_option linter.unusedSimpArgs false

/-! ### tapewrightlaw03_RatMakes: function 5 -/
mutual
noncomputable def tapewrightlaw03_RatMakes.j0 : Nat → ByteArray → ByteArray → Int → Bool → Option (Bool)
 | 0, _, _, _, _ => none
 | k + 1, x0, x1, x2, x24 => if x24 = true then ((tapewrightlaw03_awake.f).bind fun t107 => (some t107)) else ((rat_Make.f x0 x1).bind fun bt108 => ((rat_Power.f x0 x2).bind fun bt110 => ((rat_Sign.f x0).bind fun bt112 => ((rat_Neg.f x0).bind fun bt114 => ((tapewrightref03_Read.f x0).bind fun bt116 => ((rat_Right.f x0).bind fun t120 => (if (t120 != bt116.2.2) = true then (some false) else (if bt116.2.2 = true then (if x2 < 0 then (tapewrightlaw03_RatMakes.j1 k x0 x1 x2 bt108.1 bt108.2 bt110.1 bt110.2 bt112.1 bt112.2 bt114.1 bt114.2 true bt116.1 bt116.2.1) else (tapewrightlaw03_RatMakes.j1 k x0 x1 x2 bt108.1 bt108.2 bt110.1 bt110.2 bt112.1 bt112.2 bt114.1 bt114.2 (decide (x2 > 6)) bt116.1 bt116.2.1)) else (if bt110.1.toList = ([] : List UInt8) then (if bt110.2 = 2 then (if bt112.1 = 0 then (if bt112.2 = 2 then (if bt114.1.toList = ([] : List UInt8) then (if bt114.2 = 2 then (tapewrightlaw03_RatMakes.j2 k x0 x1 bt108.1 bt108.2) else (some false)) else (some false)) else (some false)) else (some false)) else (some false)) else (some false))))))))))
noncomputable def tapewrightlaw03_RatMakes.j2 : Nat → ByteArray → ByteArray → ByteArray → Int → Option (Bool)
 | 0, _, _, _, _ => none
 | k + 1, x0, x1, x7, x8 => (tapewrightref02_Right.f x0).bind fun t128 => (if t128 = true then ((tapewrightref02_Right.f x1).bind fun t129 => (tapewrightlaw03_RatMakes.j3 k x0 x1 x7 x8 (!t129))) else (tapewrightlaw03_RatMakes.j3 k x0 x1 x7 x8 true))
noncomputable def tapewrightlaw03_RatMakes.j3 : Nat → ByteArray → ByteArray → ByteArray → Int → Bool → Option (Bool)
 | 0, _, _, _, _, _ => none
 | k + 1, x0, x1, x7, x8, x134 => if x134 = true then (if x7.toList = ([] : List UInt8) then (if x8 = 2 then ((tapewrightlaw03_awake.f).bind fun t130 => (some t130)) else (some false)) else (some false)) else (if x1.toList = ([48] : List UInt8) then (if x7.toList = ([] : List UInt8) then (if x8 = 3 then ((tapewrightlaw03_awake.f).bind fun t131 => (some t131)) else (some false)) else (some false)) else ((tapewrightref03_Lowest.f x0 x1).bind fun bt132 => ((tapewrightref03_Text.f bt132.1 bt132.2).bind fun t134 => (if x7.toList = t134.toList then (if x8 = 0 then ((tapewrightlaw03_awake.f).bind fun t135 => (some t135)) else (some false)) else (some false)))))
noncomputable def tapewrightlaw03_RatMakes.j1 : Nat → ByteArray → ByteArray → Int → ByteArray → Int → ByteArray → Int → Int → Int → ByteArray → Int → Bool → ByteArray → ByteArray → Option (Bool)
 | 0, _, _, _, _, _, _, _, _, _, _, _, _, _, _ => none
 | k + 1, x0, x1, x2, x7, x8, x9, x10, x11, x12, x13, x14, x114, x120000, x120001 => if x114 = true then (if x9.toList = ([] : List UInt8) then (if x10 = 1 then (tapewrightlaw03_RatMakes.j2 k x0 x1 x7 x8) else (some false)) else (some false)) else ((tapewrightref03_Power.f x120000 x120001 x2).bind fun bt121 => ((tapewrightref03_Text.f bt121.1 bt121.2).bind fun t123 => (if x9.toList = t123.toList then (if x10 = 0 then ((tapewrightref02_Sign.f x120000).bind fun t124 => (if x11 = t124 then (if x12 = 0 then ((tapewrightref03_Neg.f x120000 x120001).bind fun bt125 => ((tapewrightref03_Text.f bt125.1 bt125.2).bind fun t127 => (if x13.toList = t127.toList then (if x14 = 0 then (tapewrightlaw03_RatMakes.j2 k x0 x1 x7 x8) else (some false)) else (some false)))) else (some false)) else (some false))) else (some false)) else (some false))))
end
noncomputable def tapewrightlaw03_RatMakes.f (k : Nat) (a0 : ByteArray) (a1 : ByteArray) (a2 : Int) : Option (Bool) := if (a0.size : Int) > 60 then (tapewrightlaw03_RatMakes.j0 k a0 a1 a2 true) else (tapewrightlaw03_RatMakes.j0 k a0 a1 a2 (decide ((a1.size : Int) > 60)))
theorem tapewrightlaw03_RatMakes.calls (k : Nat) (a0 : ByteArray) (a1 : ByteArray) (a2 : Int) (r : Bool) (w : World) (hG : Err.Gs w) (hrt : r = true) (h : tapewrightlaw03_RatMakes.f k a0 a1 a2 = some r) :
  Calls Tryz.prog 5 #[.string a0, .string a1, .int .i64 a2] w fun e w' => e = .returned (.bool r) ∧ Below w.heap.size w w' := by
 have hu30 := Tryz.underlying30
 have HB := Aside0.mk (Below.refl w.heap.size w)
 have HGs := Aside0.mk hG
 clear hG
 have HRT := Aside0.mk hrt
 clear hrt
 have H : (if (a0.size : Int) > 60 then (tapewrightlaw03_RatMakes.j0 k a0 a1 a2 true) else (tapewrightlaw03_RatMakes.j0 k a0 a1 a2 (decide ((a1.size : Int) > 60)))) = some r := h
 clear h
 have HC4 := Aside0.mk H
 clear H
 go_enter Tryz.func5, Tryz.ntmps5
 go_upto_region 1 with (fail)
 go_cut [24] (fun v24 wc => ∃ (kq : Nat) (x24_3 : Bool), v24 = .bool x24_3 ∧ Aside0 (tapewrightlaw03_RatMakes.j0 kq a0 a1 a2 x24_3 = some r) ∧ Aside0 (kq ≤ k) ∧ Aside0 (Below w.heap.size w wc))
 case first =>
  have H := HC4.out
  clear HC4
  by_cases c5 : (a0.size : Int) > 60
  ·
   rw [if_pos c5] at H
   have c5b0 : decide (60 < (a0.size : Int)) = true := decide_eq_true c5
   have c5b1 : decide (60 < a0.size) = true := decide_eq_true (by omega)
   clear c5
   (first | rw [c5b0] | (simp only [i64_w, i32_w]; rw [c5b0]) | skip)
   have H' := Aside0.mk H
   clear H
   go_wp2
   go_meet
   case rel => exact ⟨_, (true), (by first | rfl | (simp; done) | (simp [*]; done)), H', ⟨by first | omega | exact Nat.le_refl _⟩, ⟨by repeat (first | (with_reducible first | exact HB.out | apply below_alloc | apply pw_below_drewN | apply below_drew1) | exact HB.out)⟩⟩
  ·
   rw [if_neg c5] at H
   have c5b0 : decide (60 < (a0.size : Int)) = false := decide_eq_false c5
   have c5b1 : decide (60 < a0.size) = false := decide_eq_false (by omega)
   clear c5
   (first | rw [c5b0] | (simp only [i64_w, i32_w]; rw [c5b0]) | skip)
   have H' := Aside0.mk H
   clear H
   go_wp2
   go_meet
   case rel => exact ⟨_, (decide ((a1.size : Int) > 60)), (by first | rfl | (simp; done) | (simp [*]; done)), H', ⟨by first | omega | exact Nat.le_refl _⟩, ⟨by repeat (first | (with_reducible first | exact HB.out | apply below_alloc | apply pw_below_drewN | apply below_drew1) | exact HB.out)⟩⟩
 case rest =>
  clear HC4
  try clear p2
  try clear c5
  try clear c5b0
  try clear c5b1
  obtain ⟨kq, x24_3, rfl, HA, HJ3, HB⟩ := hcut
  cases kq with
  | zero => exact absurd HA.out (by simp [tapewrightlaw03_RatMakes.j0])
  | succ kj3 =>
   have H := HA.out
   clear HA
   simp only [tapewrightlaw03_RatMakes.j0] at H
   by_cases c6 : x24_3 = true
   ·
    subst c6
    rw [if_pos rfl] at H
    replace H := Option.bind_eq_some_iff.mp H
    obtain ⟨t107, A70, H⟩ := H
    replace H : (some t107) = some r := H
    have A7 := Aside0.mk A70
    clear A70
    obtain rfl := Option.some.inj H
    go_wp2_with (first | ((with_reducible refine gate_callee (f := 7) rfl ?_); refine goesL_ (some 25) rfl rfl Tryz.func7 (by kernel_rfl) rfl #[] rfl T2_ ?_; (with_reducible refine (tapewrightlaw03_awake.calls  t107 _ (Err.Gs.below HGs.out T1_) A7.out).mono ?_); rintro e w8 ⟨rfl, hb⟩; refine ⟨_, rfl, ?_⟩; replace HB := Aside0.mk (below_step T1_ hb); clear hb))
    go_ret
    exact ⟨T4_, T1_⟩
   ·
    replace c6 := Bool.eq_false_iff.mpr c6
    subst c6
    rw [if_neg (show ¬ (false = true) by decide)] at H
    replace H := Option.bind_eq_some_iff.mp H
    obtain ⟨⟨t108, t109⟩, A90, H⟩ := H
    replace H : ((rat_Power.f a0 a2).bind fun bt110 => ((rat_Sign.f a0).bind fun bt112 => ((rat_Neg.f a0).bind fun bt114 => ((tapewrightref03_Read.f a0).bind fun bt116 => ((rat_Right.f a0).bind fun t120 => (if (t120 != bt116.2.2) = true then (some false) else (if bt116.2.2 = true then (if a2 < 0 then (tapewrightlaw03_RatMakes.j1 kj3 a0 a1 a2 t108 t109 bt110.1 bt110.2 bt112.1 bt112.2 bt114.1 bt114.2 true bt116.1 bt116.2.1) else (tapewrightlaw03_RatMakes.j1 kj3 a0 a1 a2 t108 t109 bt110.1 bt110.2 bt112.1 bt112.2 bt114.1 bt114.2 (decide (a2 > 6)) bt116.1 bt116.2.1)) else (if bt110.1.toList = ([] : List UInt8) then (if bt110.2 = 2 then (if bt112.1 = 0 then (if bt112.2 = 2 then (if bt114.1.toList = ([] : List UInt8) then (if bt114.2 = 2 then (tapewrightlaw03_RatMakes.j2 kj3 a0 a1 t108 t109) else (some false)) else (some false)) else (some false)) else (some false)) else (some false)) else (some false))))))))) = some r := H
    have A9 := Aside0.mk A90
    clear A90
    replace H := Option.bind_eq_some_iff.mp H
    obtain ⟨⟨t110, t111⟩, A100, H⟩ := H
    replace H : ((rat_Sign.f a0).bind fun bt112 => ((rat_Neg.f a0).bind fun bt114 => ((tapewrightref03_Read.f a0).bind fun bt116 => ((rat_Right.f a0).bind fun t120 => (if (t120 != bt116.2.2) = true then (some false) else (if bt116.2.2 = true then (if a2 < 0 then (tapewrightlaw03_RatMakes.j1 kj3 a0 a1 a2 t108 t109 t110 t111 bt112.1 bt112.2 bt114.1 bt114.2 true bt116.1 bt116.2.1) else (tapewrightlaw03_RatMakes.j1 kj3 a0 a1 a2 t108 t109 t110 t111 bt112.1 bt112.2 bt114.1 bt114.2 (decide (a2 > 6)) bt116.1 bt116.2.1)) else (if t110.toList = ([] : List UInt8) then (if t111 = 2 then (if bt112.1 = 0 then (if bt112.2 = 2 then (if bt114.1.toList = ([] : List UInt8) then (if bt114.2 = 2 then (tapewrightlaw03_RatMakes.j2 kj3 a0 a1 t108 t109) else (some false)) else (some false)) else (some false)) else (some false)) else (some false)) else (some false)))))))) = some r := H
    have A10 := Aside0.mk A100
    clear A100
    replace H := Option.bind_eq_some_iff.mp H
    obtain ⟨⟨t112, t113⟩, A110, H⟩ := H
    replace H : ((rat_Neg.f a0).bind fun bt114 => ((tapewrightref03_Read.f a0).bind fun bt116 => ((rat_Right.f a0).bind fun t120 => (if (t120 != bt116.2.2) = true then (some false) else (if bt116.2.2 = true then (if a2 < 0 then (tapewrightlaw03_RatMakes.j1 kj3 a0 a1 a2 t108 t109 t110 t111 t112 t113 bt114.1 bt114.2 true bt116.1 bt116.2.1) else (tapewrightlaw03_RatMakes.j1 kj3 a0 a1 a2 t108 t109 t110 t111 t112 t113 bt114.1 bt114.2 (decide (a2 > 6)) bt116.1 bt116.2.1)) else (if t110.toList = ([] : List UInt8) then (if t111 = 2 then (if t112 = 0 then (if t113 = 2 then (if bt114.1.toList = ([] : List UInt8) then (if bt114.2 = 2 then (tapewrightlaw03_RatMakes.j2 kj3 a0 a1 t108 t109) else (some false)) else (some false)) else (some false)) else (some false)) else (some false)) else (some false))))))) = some r := H
    have A11 := Aside0.mk A110
    clear A110
    replace H := Option.bind_eq_some_iff.mp H
    obtain ⟨⟨t114, t115⟩, A120, H⟩ := H
    replace H : ((tapewrightref03_Read.f a0).bind fun bt116 => ((rat_Right.f a0).bind fun t120 => (if (t120 != bt116.2.2) = true then (some false) else (if bt116.2.2 = true then (if a2 < 0 then (tapewrightlaw03_RatMakes.j1 kj3 a0 a1 a2 t108 t109 t110 t111 t112 t113 t114 t115 true bt116.1 bt116.2.1) else (tapewrightlaw03_RatMakes.j1 kj3 a0 a1 a2 t108 t109 t110 t111 t112 t113 t114 t115 (decide (a2 > 6)) bt116.1 bt116.2.1)) else (if t110.toList = ([] : List UInt8) then (if t111 = 2 then (if t112 = 0 then (if t113 = 2 then (if t114.toList = ([] : List UInt8) then (if t115 = 2 then (tapewrightlaw03_RatMakes.j2 kj3 a0 a1 t108 t109) else (some false)) else (some false)) else (some false)) else (some false)) else (some false)) else (some false)))))) = some r := H
    have A12 := Aside0.mk A120
    clear A120
    replace H := Option.bind_eq_some_iff.mp H
    obtain ⟨⟨t116, t117, t118⟩, A130, H⟩ := H
    replace H : ((rat_Right.f a0).bind fun t120 => (if (t120 != t118) = true then (some false) else (if t118 = true then (if a2 < 0 then (tapewrightlaw03_RatMakes.j1 kj3 a0 a1 a2 t108 t109 t110 t111 t112 t113 t114 t115 true t116 t117) else (tapewrightlaw03_RatMakes.j1 kj3 a0 a1 a2 t108 t109 t110 t111 t112 t113 t114 t115 (decide (a2 > 6)) t116 t117)) else (if t110.toList = ([] : List UInt8) then (if t111 = 2 then (if t112 = 0 then (if t113 = 2 then (if t114.toList = ([] : List UInt8) then (if t115 = 2 then (tapewrightlaw03_RatMakes.j2 kj3 a0 a1 t108 t109) else (some false)) else (some false)) else (some false)) else (some false)) else (some false)) else (some false))))) = some r := H
    have A13 := Aside0.mk A130
    clear A130
    replace H := Option.bind_eq_some_iff.mp H
    obtain ⟨t120, A140, H⟩ := H
    replace H : (if (t120 != t118) = true then (some false) else (if t118 = true then (if a2 < 0 then (tapewrightlaw03_RatMakes.j1 kj3 a0 a1 a2 t108 t109 t110 t111 t112 t113 t114 t115 true t116 t117) else (tapewrightlaw03_RatMakes.j1 kj3 a0 a1 a2 t108 t109 t110 t111 t112 t113 t114 t115 (decide (a2 > 6)) t116 t117)) else (if t110.toList = ([] : List UInt8) then (if t111 = 2 then (if t112 = 0 then (if t113 = 2 then (if t114.toList = ([] : List UInt8) then (if t115 = 2 then (tapewrightlaw03_RatMakes.j2 kj3 a0 a1 t108 t109) else (some false)) else (some false)) else (some false)) else (some false)) else (some false)) else (some false)))) = some r := H
    have A14 := Aside0.mk A140
    clear A140
    by_cases c15 : (t120 != t118) = true
    ·
     rw [if_pos c15] at H
     have c15b0 : (t120 != t118) = true := c15
     (try (have c15b1 : decide (t120 = t118) = false := by simpa using c15))
     (try (have c15b2 : (t120 == t118) = false := by simpa using c15))
     (try (have c15b3 : ¬ (t120 = t118) := by simpa using c15))
     clear c15
     exact absurd ((Option.some.inj H).trans HRT.out) (by decide)
    ·
     rw [if_neg c15] at H
     have c15b0 : (t120 != t118) = false := by simpa using c15
     (try (have c15b1 : decide (t120 = t118) = true := by simpa using c15))
     (try (have c15b2 : (t120 == t118) = true := by simpa using c15))
     clear c15
     have HC16 := Aside0.mk H
     clear H
     go_upto_block 0 with (first | ((with_reducible refine gate_callee (f := 8) rfl ?_); refine goesL_ (some 29) rfl rfl Tryz.func8 (by kernel_rfl) rfl #[.string a0, .string a1] rfl T2_ ?_; (with_reducible refine (rat_Make.calls a0 a1 t108 t109 _ (Err.Gs.below HGs.out T1_) A9.out).mono ?_); rintro e w17 ⟨rfl, hb⟩; refine ⟨_, rfl, ?_⟩; replace HB := Aside0.mk (below_step T1_ hb); clear hb) | ((with_reducible refine gate_callee (f := 20) rfl ?_); refine goesL_ (some 35) rfl rfl Tryz.func20 (by kernel_rfl) rfl #[.string a0, .int .i64 a2] rfl T2_ ?_; (with_reducible refine (rat_Power.calls a0 a2 t110 t111 _ (Err.Gs.below HGs.out T1_) A10.out).mono ?_); rintro e w18 ⟨rfl, hb⟩; refine ⟨_, rfl, ?_⟩; replace HB := Aside0.mk (below_step T1_ hb); clear hb) | ((with_reducible refine gate_callee (f := 21) rfl ?_); refine goesL_ (some 40) rfl rfl Tryz.func21 (by kernel_rfl) rfl #[.string a0] rfl T2_ ?_; (with_reducible refine (rat_Sign.calls a0 t112 t113 _ (Err.Gs.below HGs.out T1_) A11.out).mono ?_); rintro e w19 ⟨rfl, hb⟩; refine ⟨_, rfl, ?_⟩; replace HB := Aside0.mk (below_step T1_ hb); clear hb) | ((with_reducible refine gate_callee (f := 22) rfl ?_); refine goesL_ (some 45) rfl rfl Tryz.func22 (by kernel_rfl) rfl #[.string a0] rfl T2_ ?_; (with_reducible refine (rat_Neg.calls a0 t114 t115 _ (Err.Gs.below HGs.out T1_) A12.out).mono ?_); rintro e w20 ⟨rfl, hb⟩; refine ⟨_, rfl, ?_⟩; replace HB := Aside0.mk (below_step T1_ hb); clear hb) | ((with_reducible refine gate_callee (f := 14) rfl ?_); refine goesL_ (some 50) rfl rfl Tryz.func14 (by kernel_rfl) rfl #[.string a0] rfl T2_ ?_; (with_reducible refine (tapewrightref03_Read.calls a0 t116 t117 t118 _ A13.out).mono ?_); rintro e w21 ⟨rfl, hb⟩; refine ⟨_, rfl, ?_⟩; replace HB := Aside0.mk (below_step T1_ hb); clear hb) | ((with_reducible refine gate_dst (N := 15) rfl ?_); (try (refine gate_guard (by rfl) ?_; dsimp only)); refine box_event ?hg (N := 15) ?hd (cs := #[.string (⟨#[]⟩ : ByteArray), .string (⟨#[]⟩ : ByteArray)]) (t := 30) ?hr ?_; (case hd => rfl); (case hg => rfl); (case hr => exact T3_); intro gb119 hg w22 hbox hb; have BK119 := Aside0.mk (hbox); have GW119 := Aside0.mk ((by rw [hg]; exact (below_size T1_) : w.heap.size ≤ gb119)); have GE119 := Aside0.mk ((by rw [hg]; exact (below_size T1_) : w.heap.size ≤ gb119)); replace HB := Aside0.mk (below_step T1_ hb); clear hb hbox hg; have hcz23_0 : w22.cell? ⟨gb119, 0, none⟩ = some (.string (⟨#[]⟩ : ByteArray)) := (blk_cell BK119.out 0).trans rfl; have hcz23_1 : w22.cell? ⟨gb119, 1, none⟩ = some (.string (⟨#[]⟩ : ByteArray)) := (blk_cell BK119.out 1).trans rfl; have hfz23_0 := blk_frozen BK119.out 0; have hfz23_1 := blk_frozen BK119.out 1) | ((with_reducible refine gate_callee (f := 23) rfl ?_); refine goesL_ (some 54) rfl rfl Tryz.func23 (by kernel_rfl) rfl #[.string a0] rfl T2_ ?_; (with_reducible refine (rat_Right.calls a0 t120 _ (Err.Gs.below HGs.out T9_) A14.out).mono ?_); rintro e w24 ⟨rfl, hb⟩; refine ⟨_, rfl, ?_⟩; replace BK119 := Aside0.mk (blk_below (g := gb119) (o := .cells #[.string t116, .string t117] 30 (0, 0)) (by (with_reducible repeat (first | refine blk_drewN ?_ _ | refine blk_drew ?_ | refine blk_alloc ?_ _)); refine blk_put (cs := #[.string t116, .string (⟨#[]⟩ : ByteArray)]) ?_ 1 _ rfl; (with_reducible repeat (first | refine blk_drewN ?_ _ | refine blk_drew ?_ | refine blk_alloc ?_ _)); refine blk_put (cs := #[.string (⟨#[]⟩ : ByteArray), .string (⟨#[]⟩ : ByteArray)]) ?_ 0 _ rfl; (with_reducible repeat (first | refine blk_drewN ?_ _ | refine blk_drew ?_ | refine blk_alloc ?_ _)); exact BK119.out) hb); replace HB := Aside0.mk (below_step T9_ hb); (try clear hb); (try clear hb2); (try clear hk); (try clear hi)))
     (try simp only [Act.put, List.setIfInBounds_toArray, List.set_cons_zero, List.set_cons_succ])
     go_cut [] (fun wc => ∃ (kq : Nat), Aside0 (tapewrightlaw03_RatMakes.j2 kq a0 a1 t108 t109 = some r) ∧ Aside0 (kq ≤ kj3) ∧ Aside0 (wc.heap[gb119]? = some (.cells #[.string t116, .string t117] 30 (0, 0))) ∧ Aside0 (Below w.heap.size w wc))
     case first =>
      have H := HC16.out
      clear HC16
      by_cases c25 : t118 = true
      ·
       subst c25
       rw [if_pos rfl] at H
       have HC26 := Aside0.mk H
       clear H
       go_upto_region 15 with (fail)
       go_cut [114] (fun v114 wc => ∃ (kq : Nat) (x114_25 : Bool), v114 = .bool x114_25 ∧ Aside0 (tapewrightlaw03_RatMakes.j1 kq a0 a1 a2 t108 t109 t110 t111 t112 t113 t114 t115 x114_25 t116 t117 = some r) ∧ Aside0 (kq ≤ kj3) ∧ Aside0 (wc.heap[gb119]? = some (.cells #[.string t116, .string t117] 30 (0, 0))) ∧ Aside0 (Below w.heap.size w wc))
       case first =>
        have H := HC26.out
        clear HC26
        by_cases c27 : a2 < 0
        ·
         rw [if_pos c27] at H
         have c27b0 : decide (a2 < 0) = true := decide_eq_true c27
         clear c27
         (first | rw [c27b0] | (simp only [i64_w, i32_w]; rw [c27b0]) | skip)
         have H' := Aside0.mk H
         clear H
         go_wp2
         go_meet
         case rel => exact ⟨_, (true), (by first | rfl | (simp; done) | (simp [*]; done)), H', ⟨by have := HJ3.out; first | omega | exact Nat.le_refl _⟩, ⟨by (with_reducible repeat (first | refine blk_drewN ?_ _ | refine blk_drew ?_ | refine blk_alloc ?_ _)); exact BK119.out⟩, ⟨by repeat (first | (with_reducible first | exact HB.out | apply below_alloc | apply pw_below_drewN | apply below_drew1 | refine below_set ?_ GE119.out) | exact HB.out)⟩⟩
        ·
         rw [if_neg c27] at H
         have c27b0 : decide (a2 < 0) = false := decide_eq_false c27
         clear c27
         (first | rw [c27b0] | (simp only [i64_w, i32_w]; rw [c27b0]) | skip)
         have H' := Aside0.mk H
         clear H
         go_wp2
         go_meet
         case rel => exact ⟨_, (decide (a2 > 6)), (by first | rfl | (simp; done) | (simp [*]; done)), H', ⟨by have := HJ3.out; first | omega | exact Nat.le_refl _⟩, ⟨by (with_reducible repeat (first | refine blk_drewN ?_ _ | refine blk_drew ?_ | refine blk_alloc ?_ _)); exact BK119.out⟩, ⟨by repeat (first | (with_reducible first | exact HB.out | apply below_alloc | apply pw_below_drewN | apply below_drew1 | refine below_set ?_ GE119.out) | exact HB.out)⟩⟩
       case rest =>
        clear HC26
        try clear c1
        try clear c2
        try clear p2
        try clear c5
        try clear c5b0
        try clear c5b1
        try clear c6
        try clear c7
        try clear c8
        try clear c14
        try clear c15
        try clear c15b0
        try clear c15b1
        try clear c15b2
        try clear c20
        try clear c21
        try clear c22
        try clear c23
        try clear c25
        try clear c27
        try clear c27b0
        try clear hcz23_0
        try clear hcz23_1
        try clear hfz23_0
        try clear hfz23_1
        try clear p2
        obtain ⟨kq, x114_25, rfl, HA, HJ25, BK119, HB⟩ := hcut
        cases kq with
        | zero => exact absurd HA.out (by simp [tapewrightlaw03_RatMakes.j1])
        | succ kj25 =>
         have H := HA.out
         clear HA
         simp only [tapewrightlaw03_RatMakes.j1] at H
         by_cases c28 : x114_25 = true
         ·
          subst c28
          rw [if_pos rfl] at H
          by_cases c29 : t110.toList = ([] : List UInt8)
          ·
           rw [if_pos c29] at H
           have c29b0 : (t110.toList == ([] : List UInt8)) = true := beq_iff_eq.mpr c29
           have c29b1 : (t110.toList != ([] : List UInt8)) = false := bne_eq_false_iff_eq.mpr c29
           clear c29
           by_cases c30 : t111 = 1
           ·
            rw [if_pos c30] at H
            have c30b0 : (t111 == 1) = true := beq_iff_eq.mpr c30
            have c30b1 : (t111 != 1) = false := bne_eq_false_iff_eq.mpr c30
            clear c30
            have H' := Aside0.mk H
            clear H
            go_wp2
            go_meet
            case rel => exact ⟨_, H', ⟨by have := HJ3.out; have := HJ25.out; first | omega | exact Nat.le_refl _⟩, ⟨by (with_reducible repeat (first | refine blk_drewN ?_ _ | refine blk_drew ?_ | refine blk_alloc ?_ _)); exact BK119.out⟩, ⟨by repeat (first | (with_reducible first | exact HB.out | apply below_alloc | apply pw_below_drewN | apply below_drew1 | refine below_set ?_ GE119.out) | exact HB.out)⟩⟩
           ·
            rw [if_neg c30] at H
            have c30b0 : (t111 == 1) = false := beq_eq_false_iff_ne.mpr c30
            have c30b1 : (t111 != 1) = true := bne_iff_ne.mpr c30
            exact absurd ((Option.some.inj H).trans HRT.out) (by decide)
          ·
           rw [if_neg c29] at H
           have c29b0 : (t110.toList == ([] : List UInt8)) = false := beq_eq_false_iff_ne.mpr c29
           have c29b1 : (t110.toList != ([] : List UInt8)) = true := bne_iff_ne.mpr c29
           exact absurd ((Option.some.inj H).trans HRT.out) (by decide)
         ·
          replace c28 := Bool.eq_false_iff.mpr c28
          subst c28
          rw [if_neg (show ¬ (false = true) by decide)] at H
          replace H := Option.bind_eq_some_iff.mp H
          obtain ⟨⟨t121, t122⟩, A310, H⟩ := H
          replace H : ((tapewrightref03_Text.f t121 t122).bind fun t123 => (if t110.toList = t123.toList then (if t111 = 0 then ((tapewrightref02_Sign.f t116).bind fun t124 => (if t112 = t124 then (if t113 = 0 then ((tapewrightref03_Neg.f t116 t117).bind fun bt125 => ((tapewrightref03_Text.f bt125.1 bt125.2).bind fun t127 => (if t114.toList = t127.toList then (if t115 = 0 then (tapewrightlaw03_RatMakes.j2 kj25 a0 a1 t108 t109) else (some false)) else (some false)))) else (some false)) else (some false))) else (some false)) else (some false))) = some r := H
          have A31 := Aside0.mk A310
          clear A310
          replace H := Option.bind_eq_some_iff.mp H
          obtain ⟨t123, A320, H⟩ := H
          replace H : (if t110.toList = t123.toList then (if t111 = 0 then ((tapewrightref02_Sign.f t116).bind fun t124 => (if t112 = t124 then (if t113 = 0 then ((tapewrightref03_Neg.f t116 t117).bind fun bt125 => ((tapewrightref03_Text.f bt125.1 bt125.2).bind fun t127 => (if t114.toList = t127.toList then (if t115 = 0 then (tapewrightlaw03_RatMakes.j2 kj25 a0 a1 t108 t109) else (some false)) else (some false)))) else (some false)) else (some false))) else (some false)) else (some false)) = some r := H
          have A32 := Aside0.mk A320
          clear A320
          by_cases c33 : t110.toList = t123.toList
          ·
           rw [if_pos c33] at H
           have c33b0 : (t110.toList == t123.toList) = true := beq_iff_eq.mpr c33
           have c33b1 : (t110.toList != t123.toList) = false := bne_eq_false_iff_eq.mpr c33
           clear c33
           by_cases c34 : t111 = 0
           ·
            rw [if_pos c34] at H
            have c34b0 : (t111 == 0) = true := beq_iff_eq.mpr c34
            have c34b1 : (t111 != 0) = false := bne_eq_false_iff_eq.mpr c34
            clear c34
            replace H := Option.bind_eq_some_iff.mp H
            obtain ⟨t124, A350, H⟩ := H
            replace H : (if t112 = t124 then (if t113 = 0 then ((tapewrightref03_Neg.f t116 t117).bind fun bt125 => ((tapewrightref03_Text.f bt125.1 bt125.2).bind fun t127 => (if t114.toList = t127.toList then (if t115 = 0 then (tapewrightlaw03_RatMakes.j2 kj25 a0 a1 t108 t109) else (some false)) else (some false)))) else (some false)) else (some false)) = some r := H
            have A35 := Aside0.mk A350
            clear A350
            by_cases c36 : t112 = t124
            ·
             rw [if_pos c36] at H
             have c36b0 : (t112 == t124) = true := beq_iff_eq.mpr c36
             have c36b1 : (t112 != t124) = false := bne_eq_false_iff_eq.mpr c36
             clear c36
             by_cases c37 : t113 = 0
             ·
              rw [if_pos c37] at H
              have c37b0 : (t113 == 0) = true := beq_iff_eq.mpr c37
              have c37b1 : (t113 != 0) = false := bne_eq_false_iff_eq.mpr c37
              clear c37
              replace H := Option.bind_eq_some_iff.mp H
              obtain ⟨⟨t125, t126⟩, A380, H⟩ := H
              replace H : ((tapewrightref03_Text.f t125 t126).bind fun t127 => (if t114.toList = t127.toList then (if t115 = 0 then (tapewrightlaw03_RatMakes.j2 kj25 a0 a1 t108 t109) else (some false)) else (some false))) = some r := H
              have A38 := Aside0.mk A380
              clear A380
              replace H := Option.bind_eq_some_iff.mp H
              obtain ⟨t127, A390, H⟩ := H
              replace H : (if t114.toList = t127.toList then (if t115 = 0 then (tapewrightlaw03_RatMakes.j2 kj25 a0 a1 t108 t109) else (some false)) else (some false)) = some r := H
              have A39 := Aside0.mk A390
              clear A390
              by_cases c40 : t114.toList = t127.toList
              ·
               rw [if_pos c40] at H
               have c40b0 : (t114.toList == t127.toList) = true := beq_iff_eq.mpr c40
               have c40b1 : (t114.toList != t127.toList) = false := bne_eq_false_iff_eq.mpr c40
               clear c40
               by_cases c41 : t115 = 0
               ·
                rw [if_pos c41] at H
                have c41b0 : (t115 == 0) = true := beq_iff_eq.mpr c41
                have c41b1 : (t115 != 0) = false := bne_eq_false_iff_eq.mpr c41
                clear c41
                have H' := Aside0.mk H
                clear H
                have hcz42_0 : wc.cell? ⟨gb119, 0, none⟩ = some (.string t116) := (blk_cell BK119.out 0).trans rfl
                have hcz42_1 : wc.cell? ⟨gb119, 1, none⟩ = some (.string t117) := (blk_cell BK119.out 1).trans rfl
                have hfz42_0 := blk_frozen BK119.out 0
                have hfz42_1 := blk_frozen BK119.out 1
                go_wp2_with (first | ((with_reducible refine gate_callee (f := 24) rfl ?_); refine goesL_ (some 60) rfl rfl Tryz.func24 (by kernel_rfl) rfl #[.agg #[.string t116, .string t117], .int .i64 a2] rfl T2_ ?_; (with_reducible refine (tapewrightref03_Power.calls t116 t117 a2 t121 t122 _ A31.out).mono ?_); rintro e w43 ⟨rfl, hb⟩; refine ⟨_, rfl, ?_⟩; replace BK119 := BF_ BK119 hb; replace HB := Aside0.mk (below_step T9_ hb); (try clear hb); (try clear hb2); (try clear hk); (try clear hi)) | ((with_reducible refine gate_callee (f := 15) rfl ?_); refine goesL_ (some 61) rfl rfl Tryz.func15 (by kernel_rfl) rfl #[.agg #[.string t121, .string t122]] rfl T2_ ?_; (with_reducible refine (tapewrightref03_Text.calls t121 t122 t123 _ A32.out).mono ?_); rintro e w44 ⟨rfl, hb⟩; refine ⟨_, rfl, ?_⟩; replace BK119 := BF_ BK119 hb; replace HB := Aside0.mk (below_step T9_ hb); (try clear hb); (try clear hb2); (try clear hk); (try clear hi); have hcz45_0 : w44.cell? ⟨gb119, 0, none⟩ = some (.string t116) := (blk_cell BK119.out 0).trans rfl; have hcz45_1 : w44.cell? ⟨gb119, 1, none⟩ = some (.string t117) := (blk_cell BK119.out 1).trans rfl; have hfz45_0 := blk_frozen BK119.out 0; have hfz45_1 := blk_frozen BK119.out 1) | (go_at_call 25; (with_reducible refine (tapewrightref02_Sign.calls t116 t124 _ A35.out).mono ?_); rintro e w' ⟨rfl, ⟨nd, rfl⟩⟩) | (go_at_call 17; (with_reducible refine (tapewrightref03_Neg.calls t116 t117 t125 t126 _ A38.out).mono ?_); rintro e w46 ⟨rfl, hb⟩; replace BK119 := BF_ BK119 hb; replace HB := Aside0.mk (below_step T9_ hb); (try clear hb); (try clear hb2); (try clear hk); (try clear hi)) | (go_at_call 15; (with_reducible refine (tapewrightref03_Text.calls t125 t126 t127 _ A39.out).mono ?_); rintro e w47 ⟨rfl, hb⟩; replace BK119 := BF_ BK119 hb; replace HB := Aside0.mk (below_step T9_ hb); (try clear hb); (try clear hb2); (try clear hk); (try clear hi)))
                go_meet
                case rel => exact ⟨_, H', ⟨by have := HJ3.out; have := HJ25.out; first | omega | exact Nat.le_refl _⟩, ⟨by (with_reducible repeat (first | refine blk_drewN ?_ _ | refine blk_drew ?_ | refine blk_alloc ?_ _)); exact BK119.out⟩, ⟨by repeat (first | (with_reducible first | exact HB.out | apply below_alloc | apply pw_below_drewN | apply below_drew1 | refine below_set ?_ GE119.out) | exact HB.out)⟩⟩
               ·
                rw [if_neg c41] at H
                have c41b0 : (t115 == 0) = false := beq_eq_false_iff_ne.mpr c41
                have c41b1 : (t115 != 0) = true := bne_iff_ne.mpr c41
                exact absurd ((Option.some.inj H).trans HRT.out) (by decide)
              ·
               rw [if_neg c40] at H
               have c40b0 : (t114.toList == t127.toList) = false := beq_eq_false_iff_ne.mpr c40
               have c40b1 : (t114.toList != t127.toList) = true := bne_iff_ne.mpr c40
               exact absurd ((Option.some.inj H).trans HRT.out) (by decide)
             ·
              rw [if_neg c37] at H
              have c37b0 : (t113 == 0) = false := beq_eq_false_iff_ne.mpr c37
              have c37b1 : (t113 != 0) = true := bne_iff_ne.mpr c37
              exact absurd ((Option.some.inj H).trans HRT.out) (by decide)
            ·
             rw [if_neg c36] at H
             have c36b0 : (t112 == t124) = false := beq_eq_false_iff_ne.mpr c36
             have c36b1 : (t112 != t124) = true := bne_iff_ne.mpr c36
             exact absurd ((Option.some.inj H).trans HRT.out) (by decide)
           ·
            rw [if_neg c34] at H
            have c34b0 : (t111 == 0) = false := beq_eq_false_iff_ne.mpr c34
            have c34b1 : (t111 != 0) = true := bne_iff_ne.mpr c34
            exact absurd ((Option.some.inj H).trans HRT.out) (by decide)
          ·
           rw [if_neg c33] at H
           have c33b0 : (t110.toList == t123.toList) = false := beq_eq_false_iff_ne.mpr c33
           have c33b1 : (t110.toList != t123.toList) = true := bne_iff_ne.mpr c33
           exact absurd ((Option.some.inj H).trans HRT.out) (by decide)
      ·
       replace c25 := Bool.eq_false_iff.mpr c25
       subst c25
       rw [if_neg (show ¬ (false = true) by decide)] at H
       by_cases c48 : t110.toList = ([] : List UInt8)
       ·
        rw [if_pos c48] at H
        have c48b0 : (t110.toList == ([] : List UInt8)) = true := beq_iff_eq.mpr c48
        have c48b1 : (t110.toList != ([] : List UInt8)) = false := bne_eq_false_iff_eq.mpr c48
        clear c48
        by_cases c49 : t111 = 2
        ·
         rw [if_pos c49] at H
         have c49b0 : (t111 == 2) = true := beq_iff_eq.mpr c49
         have c49b1 : (t111 != 2) = false := bne_eq_false_iff_eq.mpr c49
         clear c49
         by_cases c50 : t112 = 0
         ·
          rw [if_pos c50] at H
          have c50b0 : (t112 == 0) = true := beq_iff_eq.mpr c50
          have c50b1 : (t112 != 0) = false := bne_eq_false_iff_eq.mpr c50
          clear c50
          by_cases c51 : t113 = 2
          ·
           rw [if_pos c51] at H
           have c51b0 : (t113 == 2) = true := beq_iff_eq.mpr c51
           have c51b1 : (t113 != 2) = false := bne_eq_false_iff_eq.mpr c51
           clear c51
           by_cases c52 : t114.toList = ([] : List UInt8)
           ·
            rw [if_pos c52] at H
            have c52b0 : (t114.toList == ([] : List UInt8)) = true := beq_iff_eq.mpr c52
            have c52b1 : (t114.toList != ([] : List UInt8)) = false := bne_eq_false_iff_eq.mpr c52
            clear c52
            by_cases c53 : t115 = 2
            ·
             rw [if_pos c53] at H
             have c53b0 : (t115 == 2) = true := beq_iff_eq.mpr c53
             have c53b1 : (t115 != 2) = false := bne_eq_false_iff_eq.mpr c53
             clear c53
             have H' := Aside0.mk H
             clear H
             go_wp2
             go_meet
             case rel => exact ⟨_, H', ⟨by have := HJ3.out; first | omega | exact Nat.le_refl _⟩, ⟨by (with_reducible repeat (first | refine blk_drewN ?_ _ | refine blk_drew ?_ | refine blk_alloc ?_ _)); exact BK119.out⟩, ⟨by repeat (first | (with_reducible first | exact HB.out | apply below_alloc | apply pw_below_drewN | apply below_drew1 | refine below_set ?_ GE119.out) | exact HB.out)⟩⟩
            ·
             rw [if_neg c53] at H
             have c53b0 : (t115 == 2) = false := beq_eq_false_iff_ne.mpr c53
             have c53b1 : (t115 != 2) = true := bne_iff_ne.mpr c53
             exact absurd ((Option.some.inj H).trans HRT.out) (by decide)
           ·
            rw [if_neg c52] at H
            have c52b0 : (t114.toList == ([] : List UInt8)) = false := beq_eq_false_iff_ne.mpr c52
            have c52b1 : (t114.toList != ([] : List UInt8)) = true := bne_iff_ne.mpr c52
            exact absurd ((Option.some.inj H).trans HRT.out) (by decide)
          ·
           rw [if_neg c51] at H
           have c51b0 : (t113 == 2) = false := beq_eq_false_iff_ne.mpr c51
           have c51b1 : (t113 != 2) = true := bne_iff_ne.mpr c51
           exact absurd ((Option.some.inj H).trans HRT.out) (by decide)
         ·
          rw [if_neg c50] at H
          have c50b0 : (t112 == 0) = false := beq_eq_false_iff_ne.mpr c50
          have c50b1 : (t112 != 0) = true := bne_iff_ne.mpr c50
          exact absurd ((Option.some.inj H).trans HRT.out) (by decide)
        ·
         rw [if_neg c49] at H
         have c49b0 : (t111 == 2) = false := beq_eq_false_iff_ne.mpr c49
         have c49b1 : (t111 != 2) = true := bne_iff_ne.mpr c49
         exact absurd ((Option.some.inj H).trans HRT.out) (by decide)
       ·
        rw [if_neg c48] at H
        have c48b0 : (t110.toList == ([] : List UInt8)) = false := beq_eq_false_iff_ne.mpr c48
        have c48b1 : (t110.toList != ([] : List UInt8)) = true := bne_iff_ne.mpr c48
        exact absurd ((Option.some.inj H).trans HRT.out) (by decide)
     case rest =>
      clear HC16
      try clear c1
      try clear c2
      try clear p2
      try clear c3
      try clear c4
      try clear c5
      try clear c5b0
      try clear c5b1
      try clear c6
      try clear c7
      try clear c8
      try clear c14
      try clear c15
      try clear c15b0
      try clear c15b1
      try clear c15b2
      try clear c20
      try clear c21
      try clear c22
      try clear c23
      try clear c24
      try clear c25
      try clear c27
      try clear c27b0
      try clear c28
      try clear c29
      try clear c29b0
      try clear c29b1
      try clear c30
      try clear c30b0
      try clear c30b1
      try clear c33
      try clear c33b0
      try clear c33b1
      try clear c34
      try clear c34b0
      try clear c34b1
      try clear c36
      try clear c36b0
      try clear c36b1
      try clear c37
      try clear c37b0
      try clear c37b1
      try clear c40
      try clear c40b0
      try clear c40b1
      try clear c41
      try clear c41b0
      try clear c41b1
      try clear c48
      try clear c48b0
      try clear c48b1
      try clear c49
      try clear c49b0
      try clear c49b1
      try clear c50
      try clear c50b0
      try clear c50b1
      try clear c51
      try clear c51b0
      try clear c51b1
      try clear c52
      try clear c52b0
      try clear c52b1
      try clear c53
      try clear c53b0
      try clear c53b1
      try clear hcz23_0
      try clear hcz23_1
      try clear hcz42_0
      try clear hcz42_1
      try clear hcz45_0
      try clear hcz45_1
      try clear hfz23_0
      try clear hfz23_1
      try clear hfz42_0
      try clear hfz42_1
      try clear hfz45_0
      try clear hfz45_1
      try clear p2
      obtain ⟨kq, HA, HJ15, BK119, HB⟩ := hcut
      cases kq with
      | zero => exact absurd HA.out (by simp [tapewrightlaw03_RatMakes.j2])
      | succ kj15 =>
       have H := HA.out
       clear HA
       simp only [tapewrightlaw03_RatMakes.j2] at H
       have HC54 := Aside0.mk H
       clear H
       go_upto_region 18 with (fail)
       go_cut [134] (fun v134 wc => ∃ (kq : Nat) (x134_53 : Bool), v134 = .bool x134_53 ∧ Aside0 (tapewrightlaw03_RatMakes.j3 kq a0 a1 t108 t109 x134_53 = some r) ∧ Aside0 (kq ≤ kj15) ∧ Aside0 (wc.heap[gb119]? = some (.cells #[.string t116, .string t117] 30 (0, 0))) ∧ Aside0 (Below w.heap.size w wc))
       case first =>
        have H := HC54.out
        clear HC54
        replace H := Option.bind_eq_some_iff.mp H
        obtain ⟨t128, A550, H⟩ := H
        replace H : (if t128 = true then ((tapewrightref02_Right.f a1).bind fun t129 => (tapewrightlaw03_RatMakes.j3 kj15 a0 a1 t108 t109 (!t129))) else (tapewrightlaw03_RatMakes.j3 kj15 a0 a1 t108 t109 true)) = some r := H
        have A55 := Aside0.mk A550
        clear A550
        by_cases c56 : t128 = true
        ·
         subst c56
         rw [if_pos rfl] at H
         replace H := Option.bind_eq_some_iff.mp H
         obtain ⟨t129, A570, H⟩ := H
         replace H : (tapewrightlaw03_RatMakes.j3 kj15 a0 a1 t108 t109 (!t129)) = some r := H
         have A57 := Aside0.mk A570
         clear A570
         have H' := Aside0.mk H
         clear H
         go_wp2_with (first | ((with_reducible refine gate_callee (f := 6) rfl ?_); refine goesL_ (some 128) rfl rfl Tryz.func6 (by kernel_rfl) rfl #[.string a0] rfl T2_ ?_; (with_reducible refine (tapewrightref02_Right.calls a0 true _ A55.out).mono ?_); rintro e w' ⟨rfl, ⟨nd, rfl⟩⟩; refine ⟨_, rfl, ?_⟩) | (go_at_call 6; (with_reducible refine (tapewrightref02_Right.calls a1 t129 _ A57.out).mono ?_); rintro e w' ⟨rfl, ⟨nd, rfl⟩⟩))
         go_meet
         case rel => exact ⟨_, (!t129), (by first | rfl | (simp; done) | (simp [*]; done)), H', ⟨by have := HJ3.out; have := HJ15.out; first | omega | exact Nat.le_refl _⟩, ⟨by (with_reducible repeat (first | refine blk_drewN ?_ _ | refine blk_drew ?_ | refine blk_alloc ?_ _)); exact BK119.out⟩, ⟨by repeat (first | (with_reducible first | exact HB.out | apply below_alloc | apply pw_below_drewN | apply below_drew1 | refine below_set ?_ GE119.out) | exact HB.out)⟩⟩
        ·
         replace c56 := Bool.eq_false_iff.mpr c56
         subst c56
         rw [if_neg (show ¬ (false = true) by decide)] at H
         have H' := Aside0.mk H
         clear H
         go_wp2_with (first | ((with_reducible refine gate_callee (f := 6) rfl ?_); refine goesL_ (some 128) rfl rfl Tryz.func6 (by kernel_rfl) rfl #[.string a0] rfl T2_ ?_; (with_reducible refine (tapewrightref02_Right.calls a0 false _ A55.out).mono ?_); rintro e w' ⟨rfl, ⟨nd, rfl⟩⟩; refine ⟨_, rfl, ?_⟩))
         go_meet
         case rel => exact ⟨_, (true), (by first | rfl | (simp; done) | (simp [*]; done)), H', ⟨by have := HJ3.out; have := HJ15.out; first | omega | exact Nat.le_refl _⟩, ⟨by (with_reducible repeat (first | refine blk_drewN ?_ _ | refine blk_drew ?_ | refine blk_alloc ?_ _)); exact BK119.out⟩, ⟨by repeat (first | (with_reducible first | exact HB.out | apply below_alloc | apply pw_below_drewN | apply below_drew1 | refine below_set ?_ GE119.out) | exact HB.out)⟩⟩
       case rest =>
        clear HC54
        try clear c1
        try clear c2
        try clear p2
        try clear c3
        try clear c4
        try clear c5
        try clear c5b0
        try clear c5b1
        try clear c6
        try clear c7
        try clear c8
        try clear c14
        try clear c15
        try clear c15b0
        try clear c15b1
        try clear c15b2
        try clear c20
        try clear c21
        try clear c22
        try clear c23
        try clear c24
        try clear c25
        try clear c27
        try clear c27b0
        try clear c28
        try clear c29
        try clear c29b0
        try clear c29b1
        try clear c30
        try clear c30b0
        try clear c30b1
        try clear c33
        try clear c33b0
        try clear c33b1
        try clear c34
        try clear c34b0
        try clear c34b1
        try clear c36
        try clear c36b0
        try clear c36b1
        try clear c37
        try clear c37b0
        try clear c37b1
        try clear c40
        try clear c40b0
        try clear c40b1
        try clear c41
        try clear c41b0
        try clear c41b1
        try clear c48
        try clear c48b0
        try clear c48b1
        try clear c49
        try clear c49b0
        try clear c49b1
        try clear c50
        try clear c50b0
        try clear c50b1
        try clear c51
        try clear c51b0
        try clear c51b1
        try clear c52
        try clear c52b0
        try clear c52b1
        try clear c53
        try clear c53b0
        try clear c53b1
        try clear c56
        try clear hcz23_0
        try clear hcz23_1
        try clear hcz42_0
        try clear hcz42_1
        try clear hcz45_0
        try clear hcz45_1
        try clear hfz23_0
        try clear hfz23_1
        try clear hfz42_0
        try clear hfz42_1
        try clear hfz45_0
        try clear hfz45_1
        try clear p2
        obtain ⟨kq, x134_53, rfl, HA, HJ53, BK119, HB⟩ := hcut
        cases kq with
        | zero => exact absurd HA.out (by simp [tapewrightlaw03_RatMakes.j3])
        | succ kj53 =>
         have H := HA.out
         clear HA
         simp only [tapewrightlaw03_RatMakes.j3] at H
         by_cases c58 : x134_53 = true
         ·
          subst c58
          rw [if_pos rfl] at H
          by_cases c59 : t108.toList = ([] : List UInt8)
          ·
           rw [if_pos c59] at H
           have c59b0 : (t108.toList == ([] : List UInt8)) = true := beq_iff_eq.mpr c59
           have c59b1 : (t108.toList != ([] : List UInt8)) = false := bne_eq_false_iff_eq.mpr c59
           clear c59
           by_cases c60 : t109 = 2
           ·
            rw [if_pos c60] at H
            have c60b0 : (t109 == 2) = true := beq_iff_eq.mpr c60
            have c60b1 : (t109 != 2) = false := bne_eq_false_iff_eq.mpr c60
            clear c60
            replace H := Option.bind_eq_some_iff.mp H
            obtain ⟨t130, A610, H⟩ := H
            replace H : (some t130) = some r := H
            have A61 := Aside0.mk A610
            clear A610
            obtain rfl := Option.some.inj H
            go_wp2_with (first | (go_at_call 7; (with_reducible refine (tapewrightlaw03_awake.calls  t130 _ (Err.Gs.below HGs.out T9_) A61.out).mono ?_); rintro e w62 ⟨rfl, hb⟩; replace BK119 := BF_ BK119 hb; replace HB := Aside0.mk (below_step T9_ hb); (try clear hb); (try clear hb2); (try clear hk); (try clear hi)))
            go_ret
            exact ⟨T4_, T9_⟩
           ·
            rw [if_neg c60] at H
            have c60b0 : (t109 == 2) = false := beq_eq_false_iff_ne.mpr c60
            have c60b1 : (t109 != 2) = true := bne_iff_ne.mpr c60
            exact absurd ((Option.some.inj H).trans HRT.out) (by decide)
          ·
           rw [if_neg c59] at H
           have c59b0 : (t108.toList == ([] : List UInt8)) = false := beq_eq_false_iff_ne.mpr c59
           have c59b1 : (t108.toList != ([] : List UInt8)) = true := bne_iff_ne.mpr c59
           exact absurd ((Option.some.inj H).trans HRT.out) (by decide)
         ·
          replace c58 := Bool.eq_false_iff.mpr c58
          subst c58
          rw [if_neg (show ¬ (false = true) by decide)] at H
          by_cases c63 : a1.toList = ([48] : List UInt8)
          ·
           rw [if_pos c63] at H
           have c63b0 : (a1.toList == ([48] : List UInt8)) = true := beq_iff_eq.mpr c63
           have c63b1 : (a1.toList != ([48] : List UInt8)) = false := bne_eq_false_iff_eq.mpr c63
           clear c63
           by_cases c64 : t108.toList = ([] : List UInt8)
           ·
            rw [if_pos c64] at H
            have c64b0 : (t108.toList == ([] : List UInt8)) = true := beq_iff_eq.mpr c64
            have c64b1 : (t108.toList != ([] : List UInt8)) = false := bne_eq_false_iff_eq.mpr c64
            clear c64
            by_cases c65 : t109 = 3
            ·
             rw [if_pos c65] at H
             have c65b0 : (t109 == 3) = true := beq_iff_eq.mpr c65
             have c65b1 : (t109 != 3) = false := bne_eq_false_iff_eq.mpr c65
             clear c65
             replace H := Option.bind_eq_some_iff.mp H
             obtain ⟨t131, A660, H⟩ := H
             replace H : (some t131) = some r := H
             have A66 := Aside0.mk A660
             clear A660
             obtain rfl := Option.some.inj H
             go_wp2_with (first | (go_at_call 7; (with_reducible refine (tapewrightlaw03_awake.calls  t131 _ (Err.Gs.below HGs.out T9_) A66.out).mono ?_); rintro e w67 ⟨rfl, hb⟩; replace BK119 := BF_ BK119 hb; replace HB := Aside0.mk (below_step T9_ hb); (try clear hb); (try clear hb2); (try clear hk); (try clear hi)))
             go_ret
             exact ⟨T4_, T9_⟩
            ·
             rw [if_neg c65] at H
             have c65b0 : (t109 == 3) = false := beq_eq_false_iff_ne.mpr c65
             have c65b1 : (t109 != 3) = true := bne_iff_ne.mpr c65
             exact absurd ((Option.some.inj H).trans HRT.out) (by decide)
           ·
            rw [if_neg c64] at H
            have c64b0 : (t108.toList == ([] : List UInt8)) = false := beq_eq_false_iff_ne.mpr c64
            have c64b1 : (t108.toList != ([] : List UInt8)) = true := bne_iff_ne.mpr c64
            exact absurd ((Option.some.inj H).trans HRT.out) (by decide)
          ·
           rw [if_neg c63] at H
           have c63b0 : (a1.toList == ([48] : List UInt8)) = false := beq_eq_false_iff_ne.mpr c63
           have c63b1 : (a1.toList != ([48] : List UInt8)) = true := bne_iff_ne.mpr c63
           replace H := Option.bind_eq_some_iff.mp H
           obtain ⟨⟨t132, t133⟩, A680, H⟩ := H
           replace H : ((tapewrightref03_Text.f t132 t133).bind fun t134 => (if t108.toList = t134.toList then (if t109 = 0 then ((tapewrightlaw03_awake.f).bind fun t135 => (some t135)) else (some false)) else (some false))) = some r := H
           have A68 := Aside0.mk A680
           clear A680
           replace H := Option.bind_eq_some_iff.mp H
           obtain ⟨t134, A690, H⟩ := H
           replace H : (if t108.toList = t134.toList then (if t109 = 0 then ((tapewrightlaw03_awake.f).bind fun t135 => (some t135)) else (some false)) else (some false)) = some r := H
           have A69 := Aside0.mk A690
           clear A690
           by_cases c70 : t108.toList = t134.toList
           ·
            rw [if_pos c70] at H
            have c70b0 : (t108.toList == t134.toList) = true := beq_iff_eq.mpr c70
            have c70b1 : (t108.toList != t134.toList) = false := bne_eq_false_iff_eq.mpr c70
            clear c70
            by_cases c71 : t109 = 0
            ·
             rw [if_pos c71] at H
             have c71b0 : (t109 == 0) = true := beq_iff_eq.mpr c71
             have c71b1 : (t109 != 0) = false := bne_eq_false_iff_eq.mpr c71
             clear c71
             replace H := Option.bind_eq_some_iff.mp H
             obtain ⟨t135, A720, H⟩ := H
             replace H : (some t135) = some r := H
             have A72 := Aside0.mk A720
             clear A720
             obtain rfl := Option.some.inj H
             go_wp2_with (first | ((with_reducible refine gate_callee (f := 19) rfl ?_); refine goesL_ (some 158) rfl rfl Tryz.func19 (by kernel_rfl) rfl #[.string a0, .string a1] rfl T2_ ?_; (with_reducible refine (tapewrightref03_Lowest.calls a0 a1 t132 t133 _ A68.out).mono ?_); rintro e w73 ⟨rfl, hb⟩; refine ⟨_, rfl, ?_⟩; replace BK119 := BF_ BK119 hb; replace HB := Aside0.mk (below_step T9_ hb); (try clear hb); (try clear hb2); (try clear hk); (try clear hi)) | ((with_reducible refine gate_callee (f := 15) rfl ?_); refine goesL_ (some 159) rfl rfl Tryz.func15 (by kernel_rfl) rfl #[.agg #[.string t132, .string t133]] rfl T2_ ?_; (with_reducible refine (tapewrightref03_Text.calls t132 t133 t134 _ A69.out).mono ?_); rintro e w74 ⟨rfl, hb⟩; refine ⟨_, rfl, ?_⟩; replace BK119 := BF_ BK119 hb; replace HB := Aside0.mk (below_step T9_ hb); (try clear hb); (try clear hb2); (try clear hk); (try clear hi)) | (go_at_call 7; (with_reducible refine (tapewrightlaw03_awake.calls  t135 _ (Err.Gs.below HGs.out T9_) A72.out).mono ?_); rintro e w75 ⟨rfl, hb⟩; replace BK119 := BF_ BK119 hb; replace HB := Aside0.mk (below_step T9_ hb); (try clear hb); (try clear hb2); (try clear hk); (try clear hi)))
             go_ret
             exact ⟨T4_, T9_⟩
            ·
             rw [if_neg c71] at H
             have c71b0 : (t109 == 0) = false := beq_eq_false_iff_ne.mpr c71
             have c71b1 : (t109 != 0) = true := bne_iff_ne.mpr c71
             exact absurd ((Option.some.inj H).trans HRT.out) (by decide)
           ·
            rw [if_neg c70] at H
            have c70b0 : (t108.toList == t134.toList) = false := beq_eq_false_iff_ne.mpr c70
            have c70b1 : (t108.toList != t134.toList) = true := bne_iff_ne.mpr c70
            exact absurd ((Option.some.inj H).trans HRT.out) (by decide)
/-- THE ONE PURE STATEMENT of tapewrightlaw03_RatMakes: yours. -/
def tapewrightlaw03_RatMakes.Pure : Prop := ∀ (a0 : ByteArray) (a1 : ByteArray) (a2 : Int), a0.size ≤ 140737488351232 → a1.size ≤ 140737488351232 → (Lit.int .i64 a2).wf = true → ∃ k, tapewrightlaw03_RatMakes.f k a0 a1 a2 = some true
theorem tapewrightlaw03_RatMakes.walk (P : tapewrightlaw03_RatMakes.Pure) (a0 : ByteArray) (a1 : ByteArray) (a2 : Int) (w : World) (hG : Err.Gs w) (w0 : a0.size ≤ 140737488351232) (w1 : a1.size ≤ 140737488351232) (w2 : (Lit.int .i64 a2).wf = true) :
  Calls Tryz.prog 5 #[.string a0, .string a1, .int .i64 a2] w fun e w' => e = .returned (.bool true) ∧ Below w.heap.size w w' := by
 obtain ⟨k, h⟩ := P a0 a1 a2 w0 w1 w2
 refine (tapewrightlaw03_RatMakes.calls k a0 a1 a2 true w hG rfl h).mono ?_
 rintro e w' ⟨rfl, hd⟩
 exact ⟨rfl, hd⟩
end Go.Proofs.YtfjlmiehbikmnaaGreatDoor.PM
