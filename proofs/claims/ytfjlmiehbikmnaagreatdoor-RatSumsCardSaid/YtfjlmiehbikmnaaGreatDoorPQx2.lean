-- by wip/tool/mine.py of this repo (the kit's printer with given contracts)
import Derived.Test.YtfjlmiehbikmnaaGreatDoorPQx0
import Derived.Test.YtfjlmiehbikmnaaGreatDoorPQx1
namespace Go.Proofs.YtfjlmiehbikmnaaGreatDoor.PQ
set_option maxHeartbeats 8000000
set_option maxRecDepth 100000
open Go.RowKit Go.Proofs.YtfjlmiehbikmnaaGreatDoorW.PrintWords Go.Proofs.YtfjlmiehbikmnaaGreatDoorW.PrintLast Go.Proofs.YtfjlmiehbikmnaaGreatDoorW.PrintMore
attribute [local go_sem] max2_int min2_int max_two min_two max_three min_three max_four min_four   -- for this text's walks alone
set_option linter.unusedVariables false
set_option linter.unusedSimpArgs false

/-! ### tapewrightlaw03_RatSums: function 4 -/
mutual
noncomputable def tapewrightlaw03_RatSums.j0 : Nat → ByteArray → ByteArray → Bool → Option (Bool)
 | 0, _, _, _ => none
 | k + 1, x0, x1, x24 => if x24 = true then ((tapewrightlaw03_awake.f).bind fun t107 => (some t107)) else ((rat_Add.f x0 x1).bind fun bt108 => ((rat_Sub.f x0 x1).bind fun bt110 => ((rat_Mul.f x0 x1).bind fun bt112 => ((rat_Quo.f x0 x1).bind fun bt114 => ((tapewrightref03_Read.f x0).bind fun bt116 => ((tapewrightref03_Read.f x1).bind fun bt120 => (if bt116.2.2 = true then (tapewrightlaw03_RatSums.j1 k bt108.1 bt108.2 bt110.1 bt110.2 bt112.1 bt112.2 bt114.1 bt114.2 (!bt120.2.2) bt116.1 bt116.2.1 bt120.1 bt120.2.1) else (tapewrightlaw03_RatSums.j1 k bt108.1 bt108.2 bt110.1 bt110.2 bt112.1 bt112.2 bt114.1 bt114.2 true bt116.1 bt116.2.1 bt120.1 bt120.2.1))))))))
noncomputable def tapewrightlaw03_RatSums.j1 : Nat → ByteArray → Int → ByteArray → Int → ByteArray → Int → ByteArray → Int → Bool → ByteArray → ByteArray → ByteArray → ByteArray → Option (Bool)
 | 0, _, _, _, _, _, _, _, _, _, _, _, _, _ => none
 | k + 1, x5, x6, x7, x8, x9, x10, x11, x12, x65, x120000, x120001, x124000, x124001 => if x65 = true then (if x5.toList = ([] : List UInt8) then (if x7.toList = ([] : List UInt8) then (if x9.toList = ([] : List UInt8) then (if x11.toList = ([] : List UInt8) then (if x6 = 2 then (if x8 = x6 then (if x10 = x6 then (if x12 = x6 then ((tapewrightlaw03_awake.f).bind fun t124 => (some t124)) else (some false)) else (some false)) else (some false)) else (some false)) else (some false)) else (some false)) else (some false)) else (some false)) else ((tapewrightref03_Add.f x120000 x120001 x124000 x124001).bind fun bt125 => ((tapewrightref03_Text.f bt125.1 bt125.2).bind fun t127 => (if x5.toList = t127.toList then ((tapewrightref03_Neg.f x124000 x124001).bind fun bt128 => ((tapewrightref03_Add.f x120000 x120001 bt128.1 bt128.2).bind fun bt130 => ((tapewrightref03_Text.f bt130.1 bt130.2).bind fun t132 => (if x7.toList = t132.toList then ((tapewrightref03_Mul.f x120000 x120001 x124000 x124001).bind fun bt133 => ((tapewrightref03_Text.f bt133.1 bt133.2).bind fun t135 => (if x9.toList = t135.toList then (if x6 = 0 then (if x8 = 0 then (tapewrightlaw03_RatSums.j2 k x11 x12 (x10 != 0) x120000 x120001 x124000 x124001) else (tapewrightlaw03_RatSums.j2 k x11 x12 true x120000 x120001 x124000 x124001)) else (tapewrightlaw03_RatSums.j2 k x11 x12 true x120000 x120001 x124000 x124001)) else (tapewrightlaw03_RatSums.j2 k x11 x12 true x120000 x120001 x124000 x124001)))) else (tapewrightlaw03_RatSums.j2 k x11 x12 true x120000 x120001 x124000 x124001))))) else (tapewrightlaw03_RatSums.j2 k x11 x12 true x120000 x120001 x124000 x124001))))
noncomputable def tapewrightlaw03_RatSums.j2 : Nat → ByteArray → Int → Bool → ByteArray → ByteArray → ByteArray → ByteArray → Option (Bool)
 | 0, _, _, _, _, _, _, _ => none
 | k + 1, x11, x12, x136, x120000, x120001, x124000, x124001 => if x136 = true then (some false) else (if x124000.toList = ([48] : List UInt8) then (if x11.toList = ([] : List UInt8) then (if x12 = 3 then ((tapewrightlaw03_awake.f).bind fun t136 => (some t136)) else (some false)) else (some false)) else ((tapewrightref03_Lowest.f x124001 x124000).bind fun bt137 => ((tapewrightref03_Mul.f x120000 x120001 bt137.1 bt137.2).bind fun bt139 => ((tapewrightref03_Text.f bt139.1 bt139.2).bind fun t141 => (if x11.toList = t141.toList then (if x12 = 0 then ((tapewrightlaw03_awake.f).bind fun t142 => (some t142)) else (some false)) else (some false))))))
end
noncomputable def tapewrightlaw03_RatSums.f (k : Nat) (a0 : ByteArray) (a1 : ByteArray) : Option (Bool) := if (a0.size : Int) > 60 then (tapewrightlaw03_RatSums.j0 k a0 a1 true) else (tapewrightlaw03_RatSums.j0 k a0 a1 (decide ((a1.size : Int) > 60)))
def tapewrightlaw03_RatSums.T11 : Bool × List (List Nat × List Nat) := (true, [([], []), ([], []), ([], []), ([1, 2], [1, 2]), ([3, 3], [3]), ([0, 4], [0, 4]), ([5, 4], [5]), ([6], [6]), ([6], [6]), ([6], [6]), ([9, 6, 6], [6, 9]), ([8, 10, 10, 6], [6, 8, 10]), ([11, 11, 6], [6, 11]), ([7, 12, 6], [6, 7, 12]), ([6, 13], [6, 13]), ([14, 12], [14]), ([15], [15]), ([15], [15]), ([15], [15]), ([17, 18, 15, 15], [15, 17, 18]), ([19, 19, 15], [15, 19]), ([16, 20, 15], [15, 16, 20]), ([15, 21], [15, 21]), ([22, 20], [22]), ([23], [23]), ([24, 23], [23, 24]), ([23, 25], [23, 25]), ([26, 23], [26]), ([27], [27]), ([28, 27], [27, 28]), ([27, 29], [27, 29]), ([30, 27], [30]), ([31], [31]), ([32, 31], [31, 32]), ([31, 33], [31, 33])])
def tapewrightlaw03_RatSums.B11 : List Nat := [0, 0, 0, 6, 14, 31, 63, 127, 127, 127, 639, 1919, 3967, 8191, 16383, 32767, 65535, 65535, 65535, 458751, 983039, 2097151, 4194303, 8388607, 16777215, 33554431, 67108863, 134217727, 268435455, 536870911, 1073741823, 2147483647, 4294967295, 8589934591, 17179869183]
theorem tapewrightlaw03_RatSums.tab11 : rtab .any (opsOf Tryz.f4 11) = tapewrightlaw03_RatSums.T11 := by kernel_rfl
theorem tapewrightlaw03_RatSums.bits11 : waitsOk tapewrightlaw03_RatSums.T11.2 tapewrightlaw03_RatSums.B11 = true := by kernel_rfl
def tapewrightlaw03_RatSums.T15 : Bool × List (List Nat × List Nat) := (true, [([], []), ([], []), ([], []), ([2], [2]), ([], []), ([4], [4]), ([3, 5], [3, 5]), ([1, 6, 6], [1, 6]), ([7, 7], [7]), ([0, 8], [0, 8]), ([9, 8], [9]), ([10], [10]), ([11, 10], [10, 11]), ([10, 12], [10, 12]), ([13, 10], [13]), ([14, 14], [14]), ([14, 15], [14, 15]), ([16, 15, 0, 1, 2, 3, 4, 5, 6, 7, 8, 9, 10, 11, 12, 13, 14, 15, 16], [16])])
def tapewrightlaw03_RatSums.B15 : List Nat := [0, 0, 0, 4, 0, 16, 60, 126, 254, 511, 1023, 2047, 4095, 8191, 16383, 32767, 65535, 131071]
theorem tapewrightlaw03_RatSums.tab15 : rtab .any (opsOf Tryz.f4 15) = tapewrightlaw03_RatSums.T15 := by kernel_rfl
theorem tapewrightlaw03_RatSums.bits15 : waitsOk tapewrightlaw03_RatSums.T15.2 tapewrightlaw03_RatSums.B15 = true := by kernel_rfl
theorem tapewrightlaw03_RatSums.j2_false {k : Nat} {a0 a1 a3 a4 a5 a6} {r : Bool} (h : tapewrightlaw03_RatSums.j2 k a0 a1 true a3 a4 a5 a6 = some r) (hr : r = true) : False := by
 cases k with
 | zero => simp [tapewrightlaw03_RatSums.j2] at h
 | succ k =>
  rw [tapewrightlaw03_RatSums.j2, if_pos rfl] at h
  injection h with h
  rw [hr] at h
  cases h
theorem tapewrightlaw03_RatSums.calls (k : Nat) (a0 : ByteArray) (a1 : ByteArray) (r : Bool) (w : World) (hG : Err.Gs w) (hrt : r = true) (h : tapewrightlaw03_RatSums.f k a0 a1 = some r) :
  Calls Tryz.prog 4 #[.string a0, .string a1] w fun e w' => e = .returned (.bool r) ∧ Below w.heap.size w w' := by
 have hu30 := Tryz.underlying30
 have HB := Aside0.mk (Below.refl w.heap.size w)
 have HGs := Aside0.mk hG
 clear hG
 have HRT := Aside0.mk hrt
 clear hrt
 have H : (if (a0.size : Int) > 60 then (tapewrightlaw03_RatSums.j0 k a0 a1 true) else (tapewrightlaw03_RatSums.j0 k a0 a1 (decide ((a1.size : Int) > 60)))) = some r := h
 clear h
 have HC3 := Aside0.mk H
 clear H
 go_enter Tryz.func4, Tryz.ntmps4
 go_upto_region 1 with (fail)
 go_cut [24] (fun v24 wc => ∃ (kq : Nat) (x24_2 : Bool), v24 = .bool x24_2 ∧ Aside0 (tapewrightlaw03_RatSums.j0 kq a0 a1 x24_2 = some r) ∧ Aside0 (kq ≤ k) ∧ Aside0 (Below w.heap.size w wc))
 case first =>
  have H := HC3.out
  clear HC3
  by_cases c4 : (a0.size : Int) > 60
  ·
   rw [if_pos c4] at H
   have c4b0 : decide (60 < (a0.size : Int)) = true := decide_eq_true c4
   have c4b1 : decide (60 < a0.size) = true := decide_eq_true (by omega)
   clear c4
   (first | rw [c4b0] | (simp only [i64_w, i32_w]; rw [c4b0]) | skip)
   have H' := Aside0.mk H
   clear H
   go_wp2
   go_meet
   case rel => exact ⟨_, (true), (by first | rfl | (simp; done) | (simp [*]; done)), H', ⟨by first | omega | exact Nat.le_refl _⟩, ⟨by repeat (first | (with_reducible first | exact HB.out | apply below_alloc | apply pw_below_drewN | apply below_drew1) | exact HB.out)⟩⟩
  ·
   rw [if_neg c4] at H
   have c4b0 : decide (60 < (a0.size : Int)) = false := decide_eq_false c4
   have c4b1 : decide (60 < a0.size) = false := decide_eq_false (by omega)
   clear c4
   (first | rw [c4b0] | (simp only [i64_w, i32_w]; rw [c4b0]) | skip)
   have H' := Aside0.mk H
   clear H
   go_wp2
   go_meet
   case rel => exact ⟨_, (decide ((a1.size : Int) > 60)), (by first | rfl | (simp; done) | (simp [*]; done)), H', ⟨by first | omega | exact Nat.le_refl _⟩, ⟨by repeat (first | (with_reducible first | exact HB.out | apply below_alloc | apply pw_below_drewN | apply below_drew1) | exact HB.out)⟩⟩
 case rest =>
  clear HC3
  try clear p2
  try clear c4
  try clear c4b0
  try clear c4b1
  obtain ⟨kq, x24_2, rfl, HA, HJ2, HB⟩ := hcut
  cases kq with
  | zero => exact absurd HA.out (by simp [tapewrightlaw03_RatSums.j0])
  | succ kj2 =>
   have H := HA.out
   clear HA
   simp only [tapewrightlaw03_RatSums.j0] at H
   by_cases c5 : x24_2 = true
   ·
    subst c5
    rw [if_pos rfl] at H
    replace H := Option.bind_eq_some_iff.mp H
    obtain ⟨t107, A60, H⟩ := H
    replace H : (some t107) = some r := H
    have A6 := Aside0.mk A60
    clear A60
    obtain rfl := Option.some.inj H
    go_wp2_with (first | ((with_reducible refine gate_callee (f := 7) rfl ?_); refine goesL_ (some 25) rfl rfl Tryz.func7 (by kernel_rfl) rfl #[] rfl T2_ ?_; (with_reducible refine (tapewrightlaw03_awake.calls  t107 _ (Err.Gs.below HGs.out T1_) A6.out).mono ?_); rintro e w7 ⟨rfl, hb⟩; refine ⟨_, rfl, ?_⟩; replace HB := Aside0.mk (below_step T1_ hb); clear hb))
    go_ret
    exact ⟨T4_, T1_⟩
   ·
    replace c5 := Bool.eq_false_iff.mpr c5
    subst c5
    rw [if_neg (show ¬ (false = true) by decide)] at H
    replace H := Option.bind_eq_some_iff.mp H
    obtain ⟨⟨t108, t109⟩, A80, H⟩ := H
    replace H : ((rat_Sub.f a0 a1).bind fun bt110 => ((rat_Mul.f a0 a1).bind fun bt112 => ((rat_Quo.f a0 a1).bind fun bt114 => ((tapewrightref03_Read.f a0).bind fun bt116 => ((tapewrightref03_Read.f a1).bind fun bt120 => (if bt116.2.2 = true then (tapewrightlaw03_RatSums.j1 kj2 t108 t109 bt110.1 bt110.2 bt112.1 bt112.2 bt114.1 bt114.2 (!bt120.2.2) bt116.1 bt116.2.1 bt120.1 bt120.2.1) else (tapewrightlaw03_RatSums.j1 kj2 t108 t109 bt110.1 bt110.2 bt112.1 bt112.2 bt114.1 bt114.2 true bt116.1 bt116.2.1 bt120.1 bt120.2.1))))))) = some r := H
    have A8 := Aside0.mk A80
    clear A80
    replace H := Option.bind_eq_some_iff.mp H
    obtain ⟨⟨t110, t111⟩, A90, H⟩ := H
    replace H : ((rat_Mul.f a0 a1).bind fun bt112 => ((rat_Quo.f a0 a1).bind fun bt114 => ((tapewrightref03_Read.f a0).bind fun bt116 => ((tapewrightref03_Read.f a1).bind fun bt120 => (if bt116.2.2 = true then (tapewrightlaw03_RatSums.j1 kj2 t108 t109 t110 t111 bt112.1 bt112.2 bt114.1 bt114.2 (!bt120.2.2) bt116.1 bt116.2.1 bt120.1 bt120.2.1) else (tapewrightlaw03_RatSums.j1 kj2 t108 t109 t110 t111 bt112.1 bt112.2 bt114.1 bt114.2 true bt116.1 bt116.2.1 bt120.1 bt120.2.1)))))) = some r := H
    have A9 := Aside0.mk A90
    clear A90
    replace H := Option.bind_eq_some_iff.mp H
    obtain ⟨⟨t112, t113⟩, A100, H⟩ := H
    replace H : ((rat_Quo.f a0 a1).bind fun bt114 => ((tapewrightref03_Read.f a0).bind fun bt116 => ((tapewrightref03_Read.f a1).bind fun bt120 => (if bt116.2.2 = true then (tapewrightlaw03_RatSums.j1 kj2 t108 t109 t110 t111 t112 t113 bt114.1 bt114.2 (!bt120.2.2) bt116.1 bt116.2.1 bt120.1 bt120.2.1) else (tapewrightlaw03_RatSums.j1 kj2 t108 t109 t110 t111 t112 t113 bt114.1 bt114.2 true bt116.1 bt116.2.1 bt120.1 bt120.2.1))))) = some r := H
    have A10 := Aside0.mk A100
    clear A100
    replace H := Option.bind_eq_some_iff.mp H
    obtain ⟨⟨t114, t115⟩, A110, H⟩ := H
    replace H : ((tapewrightref03_Read.f a0).bind fun bt116 => ((tapewrightref03_Read.f a1).bind fun bt120 => (if bt116.2.2 = true then (tapewrightlaw03_RatSums.j1 kj2 t108 t109 t110 t111 t112 t113 t114 t115 (!bt120.2.2) bt116.1 bt116.2.1 bt120.1 bt120.2.1) else (tapewrightlaw03_RatSums.j1 kj2 t108 t109 t110 t111 t112 t113 t114 t115 true bt116.1 bt116.2.1 bt120.1 bt120.2.1)))) = some r := H
    have A11 := Aside0.mk A110
    clear A110
    replace H := Option.bind_eq_some_iff.mp H
    obtain ⟨⟨t116, t117, t118⟩, A120, H⟩ := H
    replace H : ((tapewrightref03_Read.f a1).bind fun bt120 => (if t118 = true then (tapewrightlaw03_RatSums.j1 kj2 t108 t109 t110 t111 t112 t113 t114 t115 (!bt120.2.2) t116 t117 bt120.1 bt120.2.1) else (tapewrightlaw03_RatSums.j1 kj2 t108 t109 t110 t111 t112 t113 t114 t115 true t116 t117 bt120.1 bt120.2.1))) = some r := H
    have A12 := Aside0.mk A120
    clear A120
    replace H := Option.bind_eq_some_iff.mp H
    obtain ⟨⟨t120, t121, t122⟩, A130, H⟩ := H
    replace H : (if t118 = true then (tapewrightlaw03_RatSums.j1 kj2 t108 t109 t110 t111 t112 t113 t114 t115 (!t122) t116 t117 t120 t121) else (tapewrightlaw03_RatSums.j1 kj2 t108 t109 t110 t111 t112 t113 t114 t115 true t116 t117 t120 t121)) = some r := H
    have A13 := Aside0.mk A130
    clear A130
    have HC14 := Aside0.mk H
    clear H
    go_upto_region 9 with (first | ((with_reducible refine gate_callee (f := 11) rfl ?_); refine goesL_ (some 29) rfl rfl Tryz.func11 (by kernel_rfl) rfl #[.string a0, .string a1] rfl T2_ ?_; (with_reducible refine (rat_Add.calls a0 a1 t108 t109 _ (Err.Gs.below HGs.out T1_) A8.out).mono ?_); rintro e w15 ⟨rfl, hb⟩; refine ⟨_, rfl, ?_⟩; replace HB := Aside0.mk (below_step T1_ hb); clear hb) | ((with_reducible refine gate_callee (f := 12) rfl ?_); refine goesL_ (some 35) rfl rfl Tryz.func12 (by kernel_rfl) rfl #[.string a0, .string a1] rfl T2_ ?_; (with_reducible refine (rat_Sub.calls a0 a1 t110 t111 _ (Err.Gs.below HGs.out T1_) A9.out).mono ?_); rintro e w16 ⟨rfl, hb⟩; refine ⟨_, rfl, ?_⟩; replace HB := Aside0.mk (below_step T1_ hb); clear hb) | ((with_reducible refine gate_callee (f := 10) rfl ?_); refine goesL_ (some 41) rfl rfl Tryz.func10 (by kernel_rfl) rfl #[.string a0, .string a1] rfl T2_ ?_; (with_reducible refine (rat_Mul.calls a0 a1 t112 t113 _ (Err.Gs.below HGs.out T1_) A10.out).mono ?_); rintro e w17 ⟨rfl, hb⟩; refine ⟨_, rfl, ?_⟩; replace HB := Aside0.mk (below_step T1_ hb); clear hb) | ((with_reducible refine gate_callee (f := 13) rfl ?_); refine goesL_ (some 47) rfl rfl Tryz.func13 (by kernel_rfl) rfl #[.string a0, .string a1] rfl T2_ ?_; (with_reducible refine (rat_Quo.calls a0 a1 t114 t115 _ (Err.Gs.below HGs.out T1_) A11.out).mono ?_); rintro e w18 ⟨rfl, hb⟩; refine ⟨_, rfl, ?_⟩; replace HB := Aside0.mk (below_step T1_ hb); clear hb) | ((with_reducible refine gate_callee (f := 14) rfl ?_); refine goesL_ (some 52) rfl rfl Tryz.func14 (by kernel_rfl) rfl #[.string a0] rfl T2_ ?_; (with_reducible refine (tapewrightref03_Read.calls a0 t116 t117 t118 _ A12.out).mono ?_); rintro e w19 ⟨rfl, hb⟩; refine ⟨_, rfl, ?_⟩; replace HB := Aside0.mk (below_step T1_ hb); clear hb) | ((with_reducible refine gate_dst (N := 13) rfl ?_); (try (refine gate_guard (by rfl) ?_; dsimp only)); refine box_event ?hg (N := 13) ?hd (cs := #[.string (⟨#[]⟩ : ByteArray), .string (⟨#[]⟩ : ByteArray)]) (t := 30) ?hr ?_; (case hd => rfl); (case hg => rfl); (case hr => exact T3_); intro gb119 hg w20 hbox hb; have BK119 := Aside0.mk (hbox); have GW119 := Aside0.mk ((by rw [hg]; exact (below_size T1_) : w.heap.size ≤ gb119)); have GE119 := Aside0.mk ((by rw [hg]; exact (below_size T1_) : w.heap.size ≤ gb119)); replace HB := Aside0.mk (below_step T1_ hb); clear hb hbox hg; have hcz21_0 : w20.cell? ⟨gb119, 0, none⟩ = some (.string (⟨#[]⟩ : ByteArray)) := (blk_cell BK119.out 0).trans rfl; have hcz21_1 : w20.cell? ⟨gb119, 1, none⟩ = some (.string (⟨#[]⟩ : ByteArray)) := (blk_cell BK119.out 1).trans rfl; have hfz21_0 := blk_frozen BK119.out 0; have hfz21_1 := blk_frozen BK119.out 1) | ((with_reducible refine gate_callee (f := 14) rfl ?_); refine goesL_ (some 57) rfl rfl Tryz.func14 (by kernel_rfl) rfl #[.string a1] rfl T2_ ?_; (with_reducible refine (tapewrightref03_Read.calls a1 t120 t121 t122 _ A13.out).mono ?_); rintro e w22 ⟨rfl, hb⟩; refine ⟨_, rfl, ?_⟩; replace BK119 := Aside0.mk (blk_below (g := gb119) (o := .cells #[.string t116, .string t117] 30 (0, 0)) (by (with_reducible repeat (first | refine blk_drewN ?_ _ | refine blk_drew ?_ | refine blk_alloc ?_ _)); refine blk_put (cs := #[.string t116, .string (⟨#[]⟩ : ByteArray)]) ?_ 1 _ rfl; (with_reducible repeat (first | refine blk_drewN ?_ _ | refine blk_drew ?_ | refine blk_alloc ?_ _)); refine blk_put (cs := #[.string (⟨#[]⟩ : ByteArray), .string (⟨#[]⟩ : ByteArray)]) ?_ 0 _ rfl; (with_reducible repeat (first | refine blk_drewN ?_ _ | refine blk_drew ?_ | refine blk_alloc ?_ _)); exact BK119.out) hb); replace HB := Aside0.mk (below_step T9_ hb); (try clear hb); (try clear hb2); (try clear hk); (try clear hi)) | ((with_reducible refine gate_dst (N := 15) rfl ?_); (try (refine gate_guard (by rfl) ?_; dsimp only)); refine box_event ?hg (N := 15) ?hd (cs := #[.string (⟨#[]⟩ : ByteArray), .string (⟨#[]⟩ : ByteArray)]) (t := 30) ?hr ?_; (case hd => rfl); (case hg => rfl); (case hr => exact T3_); intro gb123 hg w23 hbox hb; have BK123 := Aside0.mk (hbox); have GW123 := Aside0.mk ((by rw [hg]; exact (below_size T9_) : w.heap.size ≤ gb123)); have GE123 := Aside0.mk ((by rw [hg]; exact (below_size T9_) : w.heap.size ≤ gb123)); replace HB := Aside0.mk (below_step T9_ hb); have NB119_123 := Aside0.mk ((by rw [hg]; exact Nat.ne_of_lt (blk_lt (g := gb119) (o := .cells #[.string t116, .string t117] 30 (0, 0)) (by (with_reducible repeat (first | refine blk_drewN ?_ _ | refine blk_drew ?_ | refine blk_alloc ?_ _)); exact BK119.out)) : gb119 ≠ gb123)); have NB123_119 := Aside0.mk ((by rw [hg]; exact Nat.ne_of_gt (blk_lt (g := gb119) (o := .cells #[.string t116, .string t117] 30 (0, 0)) (by (with_reducible repeat (first | refine blk_drewN ?_ _ | refine blk_drew ?_ | refine blk_alloc ?_ _)); exact BK119.out)) : gb123 ≠ gb119)); replace BK119 := BF_ BK119 hb; clear hb hbox hg; have hnb24 := NB123_119.out; have hnc24 := NB119_123.out; have hcz25_0 : w23.cell? ⟨gb123, 0, none⟩ = some (.string (⟨#[]⟩ : ByteArray)) := (blk_cell BK123.out 0).trans rfl; have hcz25_1 : w23.cell? ⟨gb123, 1, none⟩ = some (.string (⟨#[]⟩ : ByteArray)) := (blk_cell BK123.out 1).trans rfl; have hfz25_0 := blk_frozen BK123.out 0; have hfz25_1 := blk_frozen BK123.out 1))
    (try simp only [Act.put, List.setIfInBounds_toArray, List.set_cons_zero, List.set_cons_succ])
    go_cut [65] (fun v65 wc => ∃ (kq : Nat) (x65_13 : Bool), v65 = .bool x65_13 ∧ Aside0 (tapewrightlaw03_RatSums.j1 kq t108 t109 t110 t111 t112 t113 t114 t115 x65_13 t116 t117 t120 t121 = some r) ∧ Aside0 (kq ≤ kj2) ∧ Aside0 (wc.heap[gb119]? = some (.cells #[.string t116, .string t117] 30 (0, 0))) ∧ Aside0 (wc.heap[gb123]? = some (.cells #[.string t120, .string t121] 30 (0, 0))) ∧ Aside0 (Below w.heap.size w wc))
    case first =>
     have H := HC14.out
     clear HC14
     by_cases c26 : t118 = true
     ·
      subst c26
      rw [if_pos rfl] at H
      have H' := Aside0.mk H
      clear H
      go_wp2
      go_meet
      case rel => exact ⟨_, (!t122), (by first | rfl | (simp; done) | (simp [*]; done)), H', ⟨by have := HJ2.out; first | omega | exact Nat.le_refl _⟩, ⟨by (with_reducible repeat (first | refine blk_drewN ?_ _ | refine blk_drew ?_ | refine blk_alloc ?_ _)); refine blk_far ?_ NB119_123.out _; (with_reducible repeat (first | refine blk_drewN ?_ _ | refine blk_drew ?_ | refine blk_alloc ?_ _)); refine blk_far ?_ NB119_123.out _; (with_reducible repeat (first | refine blk_drewN ?_ _ | refine blk_drew ?_ | refine blk_alloc ?_ _)); exact BK119.out⟩, ⟨by (with_reducible repeat (first | refine blk_drewN ?_ _ | refine blk_drew ?_ | refine blk_alloc ?_ _)); refine blk_put (cs := #[.string t120, .string (⟨#[]⟩ : ByteArray)]) ?_ 1 _ rfl; (with_reducible repeat (first | refine blk_drewN ?_ _ | refine blk_drew ?_ | refine blk_alloc ?_ _)); refine blk_put (cs := #[.string (⟨#[]⟩ : ByteArray), .string (⟨#[]⟩ : ByteArray)]) ?_ 0 _ rfl; (with_reducible repeat (first | refine blk_drewN ?_ _ | refine blk_drew ?_ | refine blk_alloc ?_ _)); exact BK123.out⟩, ⟨by repeat (first | (with_reducible first | exact HB.out | apply below_alloc | apply pw_below_drewN | apply below_drew1 | refine below_set ?_ GE119.out | refine below_set ?_ GE123.out) | exact HB.out)⟩⟩
     ·
      replace c26 := Bool.eq_false_iff.mpr c26
      subst c26
      rw [if_neg (show ¬ (false = true) by decide)] at H
      have H' := Aside0.mk H
      clear H
      go_wp2
      go_meet
      case rel => exact ⟨_, (true), (by first | rfl | (simp; done) | (simp [*]; done)), H', ⟨by have := HJ2.out; first | omega | exact Nat.le_refl _⟩, ⟨by (with_reducible repeat (first | refine blk_drewN ?_ _ | refine blk_drew ?_ | refine blk_alloc ?_ _)); refine blk_far ?_ NB119_123.out _; (with_reducible repeat (first | refine blk_drewN ?_ _ | refine blk_drew ?_ | refine blk_alloc ?_ _)); refine blk_far ?_ NB119_123.out _; (with_reducible repeat (first | refine blk_drewN ?_ _ | refine blk_drew ?_ | refine blk_alloc ?_ _)); exact BK119.out⟩, ⟨by (with_reducible repeat (first | refine blk_drewN ?_ _ | refine blk_drew ?_ | refine blk_alloc ?_ _)); refine blk_put (cs := #[.string t120, .string (⟨#[]⟩ : ByteArray)]) ?_ 1 _ rfl; (with_reducible repeat (first | refine blk_drewN ?_ _ | refine blk_drew ?_ | refine blk_alloc ?_ _)); refine blk_put (cs := #[.string (⟨#[]⟩ : ByteArray), .string (⟨#[]⟩ : ByteArray)]) ?_ 0 _ rfl; (with_reducible repeat (first | refine blk_drewN ?_ _ | refine blk_drew ?_ | refine blk_alloc ?_ _)); exact BK123.out⟩, ⟨by repeat (first | (with_reducible first | exact HB.out | apply below_alloc | apply pw_below_drewN | apply below_drew1 | refine below_set ?_ GE119.out | refine below_set ?_ GE123.out) | exact HB.out)⟩⟩
    case rest =>
     clear HC14
     try clear c1
     try clear c2
     try clear p2
     try clear c4
     try clear c4b0
     try clear c4b1
     try clear c5
     try clear c7
     try clear c10
     try clear c11
     try clear c12
     try clear c13
     try clear c14
     try clear c24
     try clear c26
     try clear hcz21_0
     try clear hcz21_1
     try clear hcz25_0
     try clear hcz25_1
     try clear hfz21_0
     try clear hfz21_1
     try clear hfz25_0
     try clear hfz25_1
     try clear p2
     obtain ⟨kq, x65_13, rfl, HA, HJ13, BK119, BK123, HB⟩ := hcut
     cases kq with
     | zero => exact absurd HA.out (by simp [tapewrightlaw03_RatSums.j1])
     | succ kj13 =>
      have H := HA.out
      clear HA
      simp only [tapewrightlaw03_RatSums.j1] at H
      by_cases c27 : x65_13 = true
      ·
       subst c27
       rw [if_pos rfl] at H
       by_cases c28 : t108.toList = ([] : List UInt8)
       ·
        rw [if_pos c28] at H
        have c28b0 : (t108.toList == ([] : List UInt8)) = true := beq_iff_eq.mpr c28
        have c28b1 : (t108.toList != ([] : List UInt8)) = false := bne_eq_false_iff_eq.mpr c28
        clear c28
        by_cases c29 : t110.toList = ([] : List UInt8)
        ·
         rw [if_pos c29] at H
         have c29b0 : (t110.toList == ([] : List UInt8)) = true := beq_iff_eq.mpr c29
         have c29b1 : (t110.toList != ([] : List UInt8)) = false := bne_eq_false_iff_eq.mpr c29
         clear c29
         by_cases c30 : t112.toList = ([] : List UInt8)
         ·
          rw [if_pos c30] at H
          have c30b0 : (t112.toList == ([] : List UInt8)) = true := beq_iff_eq.mpr c30
          have c30b1 : (t112.toList != ([] : List UInt8)) = false := bne_eq_false_iff_eq.mpr c30
          clear c30
          by_cases c31 : t114.toList = ([] : List UInt8)
          ·
           rw [if_pos c31] at H
           have c31b0 : (t114.toList == ([] : List UInt8)) = true := beq_iff_eq.mpr c31
           have c31b1 : (t114.toList != ([] : List UInt8)) = false := bne_eq_false_iff_eq.mpr c31
           clear c31
           by_cases c32 : t109 = 2
           ·
            rw [if_pos c32] at H
            have c32b0 : (t109 == 2) = true := beq_iff_eq.mpr c32
            have c32b1 : (t109 != 2) = false := bne_eq_false_iff_eq.mpr c32
            clear c32
            by_cases c33 : t111 = t109
            ·
             rw [if_pos c33] at H
             have c33b0 : (t111 == t109) = true := beq_iff_eq.mpr c33
             have c33b1 : (t111 != t109) = false := bne_eq_false_iff_eq.mpr c33
             clear c33
             by_cases c34 : t113 = t109
             ·
              rw [if_pos c34] at H
              have c34b0 : (t113 == t109) = true := beq_iff_eq.mpr c34
              have c34b1 : (t113 != t109) = false := bne_eq_false_iff_eq.mpr c34
              clear c34
              by_cases c35 : t115 = t109
              ·
               rw [if_pos c35] at H
               have c35b0 : (t115 == t109) = true := beq_iff_eq.mpr c35
               have c35b1 : (t115 != t109) = false := bne_eq_false_iff_eq.mpr c35
               clear c35
               replace H := Option.bind_eq_some_iff.mp H
               obtain ⟨t124, A360, H⟩ := H
               replace H : (some t124) = some r := H
               have A36 := Aside0.mk A360
               clear A360
               obtain rfl := Option.some.inj H
               go_wp2_with (first | (go_at_call 7; (with_reducible refine (tapewrightlaw03_awake.calls  t124 _ (Err.Gs.below HGs.out T9_) A36.out).mono ?_); rintro e w37 ⟨rfl, hb⟩; replace BK119 := BF_ BK119 hb; replace BK123 := BF_ BK123 hb; replace HB := Aside0.mk (below_step T9_ hb); (try clear hb); (try clear hb2); (try clear hk); (try clear hi)))
               go_ret
               exact ⟨T4_, T9_⟩
              ·
               rw [if_neg c35] at H
               have c35b0 : (t115 == t109) = false := beq_eq_false_iff_ne.mpr c35
               have c35b1 : (t115 != t109) = true := bne_iff_ne.mpr c35
               exact absurd ((Option.some.inj H).trans HRT.out) (by decide)
             ·
              rw [if_neg c34] at H
              have c34b0 : (t113 == t109) = false := beq_eq_false_iff_ne.mpr c34
              have c34b1 : (t113 != t109) = true := bne_iff_ne.mpr c34
              exact absurd ((Option.some.inj H).trans HRT.out) (by decide)
            ·
             rw [if_neg c33] at H
             have c33b0 : (t111 == t109) = false := beq_eq_false_iff_ne.mpr c33
             have c33b1 : (t111 != t109) = true := bne_iff_ne.mpr c33
             exact absurd ((Option.some.inj H).trans HRT.out) (by decide)
           ·
            rw [if_neg c32] at H
            have c32b0 : (t109 == 2) = false := beq_eq_false_iff_ne.mpr c32
            have c32b1 : (t109 != 2) = true := bne_iff_ne.mpr c32
            exact absurd ((Option.some.inj H).trans HRT.out) (by decide)
          ·
           rw [if_neg c31] at H
           have c31b0 : (t114.toList == ([] : List UInt8)) = false := beq_eq_false_iff_ne.mpr c31
           have c31b1 : (t114.toList != ([] : List UInt8)) = true := bne_iff_ne.mpr c31
           exact absurd ((Option.some.inj H).trans HRT.out) (by decide)
         ·
          rw [if_neg c30] at H
          have c30b0 : (t112.toList == ([] : List UInt8)) = false := beq_eq_false_iff_ne.mpr c30
          have c30b1 : (t112.toList != ([] : List UInt8)) = true := bne_iff_ne.mpr c30
          exact absurd ((Option.some.inj H).trans HRT.out) (by decide)
        ·
         rw [if_neg c29] at H
         have c29b0 : (t110.toList == ([] : List UInt8)) = false := beq_eq_false_iff_ne.mpr c29
         have c29b1 : (t110.toList != ([] : List UInt8)) = true := bne_iff_ne.mpr c29
         exact absurd ((Option.some.inj H).trans HRT.out) (by decide)
       ·
        rw [if_neg c28] at H
        have c28b0 : (t108.toList == ([] : List UInt8)) = false := beq_eq_false_iff_ne.mpr c28
        have c28b1 : (t108.toList != ([] : List UInt8)) = true := bne_iff_ne.mpr c28
        exact absurd ((Option.some.inj H).trans HRT.out) (by decide)
      ·
       replace c27 := Bool.eq_false_iff.mpr c27
       subst c27
       rw [if_neg (show ¬ (false = true) by decide)] at H
       have HC38 := Aside0.mk H
       clear H
       go_upto_region 11 with (fail)
       go_cut [136] (fun v136 wc => ∃ (kq : Nat) (x136_37 : Bool), v136 = .bool x136_37 ∧ Aside0 (tapewrightlaw03_RatSums.j2 kq t114 t115 x136_37 t116 t117 t120 t121 = some r) ∧ Aside0 (kq ≤ kj13) ∧ Aside0 (wc.heap[gb119]? = some (.cells #[.string t116, .string t117] 30 (0, 0))) ∧ Aside0 (wc.heap[gb123]? = some (.cells #[.string t120, .string t121] 30 (0, 0))) ∧ Aside0 (Below w.heap.size w wc))
       case first =>
        have H := HC38.out
        clear HC38
        replace H := Option.bind_eq_some_iff.mp H
        obtain ⟨⟨t125, t126⟩, A390, H⟩ := H
        replace H : ((tapewrightref03_Text.f t125 t126).bind fun t127 => (if t108.toList = t127.toList then ((tapewrightref03_Neg.f t120 t121).bind fun bt128 => ((tapewrightref03_Add.f t116 t117 bt128.1 bt128.2).bind fun bt130 => ((tapewrightref03_Text.f bt130.1 bt130.2).bind fun t132 => (if t110.toList = t132.toList then ((tapewrightref03_Mul.f t116 t117 t120 t121).bind fun bt133 => ((tapewrightref03_Text.f bt133.1 bt133.2).bind fun t135 => (if t112.toList = t135.toList then (if t109 = 0 then (if t111 = 0 then (tapewrightlaw03_RatSums.j2 kj13 t114 t115 (t113 != 0) t116 t117 t120 t121) else (tapewrightlaw03_RatSums.j2 kj13 t114 t115 true t116 t117 t120 t121)) else (tapewrightlaw03_RatSums.j2 kj13 t114 t115 true t116 t117 t120 t121)) else (tapewrightlaw03_RatSums.j2 kj13 t114 t115 true t116 t117 t120 t121)))) else (tapewrightlaw03_RatSums.j2 kj13 t114 t115 true t116 t117 t120 t121))))) else (tapewrightlaw03_RatSums.j2 kj13 t114 t115 true t116 t117 t120 t121))) = some r := H
        have A39 := Aside0.mk A390
        clear A390
        replace H := Option.bind_eq_some_iff.mp H
        obtain ⟨t127, A400, H⟩ := H
        replace H : (if t108.toList = t127.toList then ((tapewrightref03_Neg.f t120 t121).bind fun bt128 => ((tapewrightref03_Add.f t116 t117 bt128.1 bt128.2).bind fun bt130 => ((tapewrightref03_Text.f bt130.1 bt130.2).bind fun t132 => (if t110.toList = t132.toList then ((tapewrightref03_Mul.f t116 t117 t120 t121).bind fun bt133 => ((tapewrightref03_Text.f bt133.1 bt133.2).bind fun t135 => (if t112.toList = t135.toList then (if t109 = 0 then (if t111 = 0 then (tapewrightlaw03_RatSums.j2 kj13 t114 t115 (t113 != 0) t116 t117 t120 t121) else (tapewrightlaw03_RatSums.j2 kj13 t114 t115 true t116 t117 t120 t121)) else (tapewrightlaw03_RatSums.j2 kj13 t114 t115 true t116 t117 t120 t121)) else (tapewrightlaw03_RatSums.j2 kj13 t114 t115 true t116 t117 t120 t121)))) else (tapewrightlaw03_RatSums.j2 kj13 t114 t115 true t116 t117 t120 t121))))) else (tapewrightlaw03_RatSums.j2 kj13 t114 t115 true t116 t117 t120 t121)) = some r := H
        have A40 := Aside0.mk A400
        clear A400
        by_cases c41 : t108.toList = t127.toList
        ·
         rw [if_pos c41] at H
         have c41b0 : (t108.toList == t127.toList) = true := beq_iff_eq.mpr c41
         have c41b1 : (t108.toList != t127.toList) = false := bne_eq_false_iff_eq.mpr c41
         clear c41
         (first | rw [c41b0] | (simp only [i64_w, i32_w]; rw [c41b0]) | skip)
         replace H := Option.bind_eq_some_iff.mp H
         obtain ⟨⟨t128, t129⟩, A420, H⟩ := H
         replace H : ((tapewrightref03_Add.f t116 t117 t128 t129).bind fun bt130 => ((tapewrightref03_Text.f bt130.1 bt130.2).bind fun t132 => (if t110.toList = t132.toList then ((tapewrightref03_Mul.f t116 t117 t120 t121).bind fun bt133 => ((tapewrightref03_Text.f bt133.1 bt133.2).bind fun t135 => (if t112.toList = t135.toList then (if t109 = 0 then (if t111 = 0 then (tapewrightlaw03_RatSums.j2 kj13 t114 t115 (t113 != 0) t116 t117 t120 t121) else (tapewrightlaw03_RatSums.j2 kj13 t114 t115 true t116 t117 t120 t121)) else (tapewrightlaw03_RatSums.j2 kj13 t114 t115 true t116 t117 t120 t121)) else (tapewrightlaw03_RatSums.j2 kj13 t114 t115 true t116 t117 t120 t121)))) else (tapewrightlaw03_RatSums.j2 kj13 t114 t115 true t116 t117 t120 t121)))) = some r := H
         have A42 := Aside0.mk A420
         clear A420
         replace H := Option.bind_eq_some_iff.mp H
         obtain ⟨⟨t130, t131⟩, A430, H⟩ := H
         replace H : ((tapewrightref03_Text.f t130 t131).bind fun t132 => (if t110.toList = t132.toList then ((tapewrightref03_Mul.f t116 t117 t120 t121).bind fun bt133 => ((tapewrightref03_Text.f bt133.1 bt133.2).bind fun t135 => (if t112.toList = t135.toList then (if t109 = 0 then (if t111 = 0 then (tapewrightlaw03_RatSums.j2 kj13 t114 t115 (t113 != 0) t116 t117 t120 t121) else (tapewrightlaw03_RatSums.j2 kj13 t114 t115 true t116 t117 t120 t121)) else (tapewrightlaw03_RatSums.j2 kj13 t114 t115 true t116 t117 t120 t121)) else (tapewrightlaw03_RatSums.j2 kj13 t114 t115 true t116 t117 t120 t121)))) else (tapewrightlaw03_RatSums.j2 kj13 t114 t115 true t116 t117 t120 t121))) = some r := H
         have A43 := Aside0.mk A430
         clear A430
         replace H := Option.bind_eq_some_iff.mp H
         obtain ⟨t132, A440, H⟩ := H
         replace H : (if t110.toList = t132.toList then ((tapewrightref03_Mul.f t116 t117 t120 t121).bind fun bt133 => ((tapewrightref03_Text.f bt133.1 bt133.2).bind fun t135 => (if t112.toList = t135.toList then (if t109 = 0 then (if t111 = 0 then (tapewrightlaw03_RatSums.j2 kj13 t114 t115 (t113 != 0) t116 t117 t120 t121) else (tapewrightlaw03_RatSums.j2 kj13 t114 t115 true t116 t117 t120 t121)) else (tapewrightlaw03_RatSums.j2 kj13 t114 t115 true t116 t117 t120 t121)) else (tapewrightlaw03_RatSums.j2 kj13 t114 t115 true t116 t117 t120 t121)))) else (tapewrightlaw03_RatSums.j2 kj13 t114 t115 true t116 t117 t120 t121)) = some r := H
         have A44 := Aside0.mk A440
         clear A440
         by_cases c45 : t110.toList = t132.toList
         ·
          rw [if_pos c45] at H
          have c45b0 : (t110.toList == t132.toList) = true := beq_iff_eq.mpr c45
          have c45b1 : (t110.toList != t132.toList) = false := bne_eq_false_iff_eq.mpr c45
          clear c45
          replace H := Option.bind_eq_some_iff.mp H
          obtain ⟨⟨t133, t134⟩, A460, H⟩ := H
          replace H : ((tapewrightref03_Text.f t133 t134).bind fun t135 => (if t112.toList = t135.toList then (if t109 = 0 then (if t111 = 0 then (tapewrightlaw03_RatSums.j2 kj13 t114 t115 (t113 != 0) t116 t117 t120 t121) else (tapewrightlaw03_RatSums.j2 kj13 t114 t115 true t116 t117 t120 t121)) else (tapewrightlaw03_RatSums.j2 kj13 t114 t115 true t116 t117 t120 t121)) else (tapewrightlaw03_RatSums.j2 kj13 t114 t115 true t116 t117 t120 t121))) = some r := H
          have A46 := Aside0.mk A460
          clear A460
          replace H := Option.bind_eq_some_iff.mp H
          obtain ⟨t135, A470, H⟩ := H
          replace H : (if t112.toList = t135.toList then (if t109 = 0 then (if t111 = 0 then (tapewrightlaw03_RatSums.j2 kj13 t114 t115 (t113 != 0) t116 t117 t120 t121) else (tapewrightlaw03_RatSums.j2 kj13 t114 t115 true t116 t117 t120 t121)) else (tapewrightlaw03_RatSums.j2 kj13 t114 t115 true t116 t117 t120 t121)) else (tapewrightlaw03_RatSums.j2 kj13 t114 t115 true t116 t117 t120 t121)) = some r := H
          have A47 := Aside0.mk A470
          clear A470
          by_cases c48 : t112.toList = t135.toList
          ·
           rw [if_pos c48] at H
           have c48b0 : (t112.toList == t135.toList) = true := beq_iff_eq.mpr c48
           have c48b1 : (t112.toList != t135.toList) = false := bne_eq_false_iff_eq.mpr c48
           clear c48
           by_cases c49 : t109 = 0
           ·
            rw [if_pos c49] at H
            have c49b0 : (t109 == 0) = true := beq_iff_eq.mpr c49
            have c49b1 : (t109 != 0) = false := bne_eq_false_iff_eq.mpr c49
            clear c49
            by_cases c50 : t111 = 0
            ·
             rw [if_pos c50] at H
             have c50b0 : (t111 == 0) = true := beq_iff_eq.mpr c50
             have c50b1 : (t111 != 0) = false := bne_eq_false_iff_eq.mpr c50
             clear c50
             have H' := Aside0.mk H
             clear H
             try go_wp2
             have n0_ := Aside0.mk (blk_drew BK119.out)
             have n1_ := Aside0.mk (blk_drew BK123.out)
             have n2_ := Aside0.mk (below_drew1 HB.out)
             clear BK119
             clear BK123
             clear HB
             have BK119 := n0_
             have BK123 := n1_
             have HB := n2_
             clear n0_ n1_ n2_
             refine start_ (n := 35) (S := fun w' => w'.cell? ⟨gb119, 0, none⟩ = some (.string t116) ∧ w'.cell? ⟨gb119, 1, none⟩ = some (.string t117) ∧ w'.cell? ⟨gb123, 0, none⟩ = some (.string t120) ∧ w'.cell? ⟨gb123, 1, none⟩ = some (.string t121)) (ds := []) #[false, false, false, false, false, false, false, false, false, false, false, false, false, false, false, false, false, false, false, false, false, false, false, false, false, false, false, false, false, false, false, false, false, false, false] (by kernel_rfl) rfl rfl ⟨(blk_cell BK119.out 0).trans rfl, (blk_cell BK119.out 1).trans rfl, (blk_cell BK123.out 0).trans rfl, (blk_cell BK123.out 1).trans rfl⟩ (fun hHeld => ?_); refine with_tabW tapewrightlaw03_RatSums.tab11 tapewrightlaw03_RatSums.bits11 (fun HT_ HW_ => ?_)
             generalize wc.drew = w51 at BK119 BK123 HB hHeld ⊢
             refine pure_ (i := 0) (N := some 102) (v := ?_) (a' := ?_) #[true, false, false, false, false, false, false, false, false, false, false, false, false, false, false, false, false, false, false, false, false, false, false, false, false, false, false, false, false, false, false, false, false, false, false] rfl rfl (any_of HT_.out (by kernel_rfl)) (fun _ _ _ h => h) (Or.inl ⟨by rfl, ?_⟩) ?_ ?_
             rotate_left
             ·
              intro w'
              go_simp
              with_reducible rfl
             rotate_left
             ·
              simp only [Act.put, List.setIfInBounds_toArray, List.set_cons_zero, List.set_cons_succ, i64_w, i32_w]
              rfl
             refine take_ (i := 1) (N := some 103) (v := ?_) (a' := ?_) #[true, true, false, false, false, false, false, false, false, false, false, false, false, false, false, false, false, false, false, false, false, false, false, false, false, false, false, false, false, false, false, false, false, false, false] rfl rfl (take_ofW HT_.out HW_.out (by kernel_rfl)) (fun _ _ _ h => h) (Or.inl ⟨by rfl, ?_⟩) hHeld ?_ ?_
             rotate_left
             ·
              rintro w' ⟨s0, s1, s2, s3⟩
              go_simp
              with_reducible rfl
             rotate_left
             ·
              simp only [Act.put, List.setIfInBounds_toArray, List.set_cons_zero, List.set_cons_succ, i64_w, i32_w]
              rfl
             refine take_ (i := 2) (N := some 104) (v := ?_) (a' := ?_) #[true, true, true, false, false, false, false, false, false, false, false, false, false, false, false, false, false, false, false, false, false, false, false, false, false, false, false, false, false, false, false, false, false, false, false] rfl rfl (take_ofW HT_.out HW_.out (by kernel_rfl)) (fun _ _ _ h => h) (Or.inl ⟨by rfl, ?_⟩) hHeld ?_ ?_
             rotate_left
             ·
              rintro w' ⟨s0, s1, s2, s3⟩
              go_simp
              with_reducible rfl
             rotate_left
             ·
              simp only [Act.put, List.setIfInBounds_toArray, List.set_cons_zero, List.set_cons_succ, i64_w, i32_w]
              rfl
             refine one_ (i := 3) (N := some 105) #[true, true, true, true, false, false, false, false, false, false, false, false, false, false, false, false, false, false, false, false, false, false, false, false, false, false, false, false, false, false, false, false, false, false, false] rfl rfl (one_of HT_.out (by kernel_rfl)) (by decide) (fun K hK => ?_)
             refine goes_ Tryz.func16 (by kernel_rfl) rfl #[.agg #[.string t116, .string t117], .agg #[.string t120, .string t121]] (by rfl) rfl rfl T2_ ?_
             with_reducible refine (tapewrightref03_Add.calls t116 t117 t120 t121 t125 t126 _ A39.out).mono ?_
             rintro e w52 ⟨rfl, hb⟩
             refine ⟨_, rfl, ?_⟩
             have n0_ := Aside0.mk (blk_below (g := gb119) (o := .cells #[.string t116, .string t117] 30 (0, 0)) (by (with_reducible repeat (first | refine blk_drewN ?_ _ | refine blk_drew ?_ | refine blk_alloc ?_ _)); exact BK119.out) hb)
             have n1_ := Aside0.mk (blk_below (g := gb123) (o := .cells #[.string t120, .string t121] 30 (0, 0)) (by (with_reducible repeat (first | refine blk_drewN ?_ _ | refine blk_drew ?_ | refine blk_alloc ?_ _)); exact BK123.out) hb)
             have n2_ := Aside0.mk (below_step T9_ hb)
             clear BK119
             clear BK123
             clear HB
             have BK119 := n0_
             have BK123 := n1_
             have HB := n2_
             clear n0_ n1_ n2_
             (try clear hb)
             (try clear hb2)
             (try clear hk)
             (try clear hi)
             refine hK.out _ _ ⟨(blk_cell BK119.out 0).trans rfl, (blk_cell BK119.out 1).trans rfl, (blk_cell BK123.out 0).trans rfl, (blk_cell BK123.out 1).trans rfl⟩ (fun hHeld => ?_)
             clear hK K
             refine norm_ (a' := ?_) ?_ ?_
             rotate_left
             ·
              show Act.put _ (some 105) _ = _
              simp only [Act.put, List.setIfInBounds_toArray, List.set_cons_zero, List.set_cons_succ, i64_w, i32_w]
              rfl
             refine one_ (i := 4) (N := some 106) #[true, true, true, true, true, false, false, false, false, false, false, false, false, false, false, false, false, false, false, false, false, false, false, false, false, false, false, false, false, false, false, false, false, false, false] rfl rfl (one_of HT_.out (by kernel_rfl)) (by decide) (fun K hK => ?_)
             refine goes_ Tryz.func15 (by kernel_rfl) rfl #[.agg #[.string t125, .string t126]] (by rfl) rfl rfl T2_ ?_
             with_reducible refine (tapewrightref03_Text.calls t125 t126 t127 _ A40.out).mono ?_
             rintro e w53 ⟨rfl, hb⟩
             refine ⟨_, rfl, ?_⟩
             have n0_ := Aside0.mk (blk_below (g := gb119) (o := .cells #[.string t116, .string t117] 30 (0, 0)) (by (with_reducible repeat (first | refine blk_drewN ?_ _ | refine blk_drew ?_ | refine blk_alloc ?_ _)); exact BK119.out) hb)
             have n1_ := Aside0.mk (blk_below (g := gb123) (o := .cells #[.string t120, .string t121] 30 (0, 0)) (by (with_reducible repeat (first | refine blk_drewN ?_ _ | refine blk_drew ?_ | refine blk_alloc ?_ _)); exact BK123.out) hb)
             have n2_ := Aside0.mk (below_step T9_ hb)
             clear BK119
             clear BK123
             clear HB
             have BK119 := n0_
             have BK123 := n1_
             have HB := n2_
             clear n0_ n1_ n2_
             (try clear hb)
             (try clear hb2)
             (try clear hk)
             (try clear hi)
             refine hK.out _ _ ⟨(blk_cell BK119.out 0).trans rfl, (blk_cell BK119.out 1).trans rfl, (blk_cell BK123.out 0).trans rfl, (blk_cell BK123.out 1).trans rfl⟩ (fun hHeld => ?_)
             clear hK K
             refine norm_ (a' := ?_) ?_ ?_
             rotate_left
             ·
              show Act.put _ (some 106) _ = _
              simp only [Act.put, List.setIfInBounds_toArray, List.set_cons_zero, List.set_cons_succ, i64_w, i32_w]
              rfl
             refine pure_ (i := 5) (N := some 107) (v := ?_) (a' := ?_) #[true, true, true, true, true, true, false, false, false, false, false, false, false, false, false, false, false, false, false, false, false, false, false, false, false, false, false, false, false, false, false, false, false, false, false] rfl rfl (any_of HT_.out (by kernel_rfl)) (fun _ _ _ h => h) (Or.inl ⟨by rfl, ?_⟩) ?_ ?_
             rotate_left
             ·
              intro w'
              go_simp
              with_reducible rfl
             rotate_left
             ·
              simp only [Act.put, List.setIfInBounds_toArray, List.set_cons_zero, List.set_cons_succ, i64_w, i32_w]
              rfl
             refine pure_ (i := 6) (N := some 108) (v := ?_) (a' := ?_) #[true, true, true, true, true, true, true, false, false, false, false, false, false, false, false, false, false, false, false, false, false, false, false, false, false, false, false, false, false, false, false, false, false, false, false] rfl rfl (any_of HT_.out (by kernel_rfl)) (fun _ _ _ h => h) (Or.inl ⟨by rfl, ?_⟩) ?_ ?_
             rotate_left
             ·
              intro w'
              go_simp
              with_reducible rfl
             rotate_left
             ·
              simp only [Act.put, List.setIfInBounds_toArray, List.set_cons_zero, List.set_cons_succ, i64_w, i32_w]
              rfl
             refine pure_ (i := 7) (N := some 109) (v := ?_) (a' := ?_) #[true, true, true, true, true, true, true, true, false, false, false, false, false, false, false, false, false, false, false, false, false, false, false, false, false, false, false, false, false, false, false, false, false, false, false] rfl rfl (any_of HT_.out (by kernel_rfl)) (fun _ _ _ h => h) (Or.inl ⟨by rfl, ?_⟩) ?_ ?_
             rotate_left
             ·
              intro w'
              go_simp
              with_reducible rfl
             rotate_left
             ·
              simp only [Act.put, List.setIfInBounds_toArray, List.set_cons_zero, List.set_cons_succ, i64_w, i32_w]
              rfl
             refine take_ (i := 8) (N := some 110) (v := ?_) (a' := ?_) #[true, true, true, true, true, true, true, true, true, false, false, false, false, false, false, false, false, false, false, false, false, false, false, false, false, false, false, false, false, false, false, false, false, false, false] rfl rfl (take_ofW HT_.out HW_.out (by kernel_rfl)) (fun _ _ _ h => h) (Or.inl ⟨by rfl, ?_⟩) hHeld ?_ ?_
             rotate_left
             ·
              rintro w' ⟨s0, s1, s2, s3⟩
              go_simp
              with_reducible rfl
             rotate_left
             ·
              simp only [Act.put, List.setIfInBounds_toArray, List.set_cons_zero, List.set_cons_succ, i64_w, i32_w]
              rfl
             refine take_ (i := 9) (N := some 111) (v := ?_) (a' := ?_) #[true, true, true, true, true, true, true, true, true, true, false, false, false, false, false, false, false, false, false, false, false, false, false, false, false, false, false, false, false, false, false, false, false, false, false] rfl rfl (take_ofW HT_.out HW_.out (by kernel_rfl)) (fun _ _ _ h => h) (Or.inl ⟨by rfl, ?_⟩) hHeld ?_ ?_
             rotate_left
             ·
              rintro w' ⟨s0, s1, s2, s3⟩
              go_simp
              with_reducible rfl
             rotate_left
             ·
              simp only [Act.put, List.setIfInBounds_toArray, List.set_cons_zero, List.set_cons_succ, i64_w, i32_w]
              rfl
             refine one_ (i := 10) (N := some 112) #[true, true, true, true, true, true, true, true, true, true, true, false, false, false, false, false, false, false, false, false, false, false, false, false, false, false, false, false, false, false, false, false, false, false, false] rfl rfl (one_of HT_.out (by kernel_rfl)) (by decide) (fun K hK => ?_)
             refine goes_ Tryz.func17 (by kernel_rfl) rfl #[.agg #[.string t120, .string t121]] (by rfl) rfl rfl T2_ ?_
             with_reducible refine (tapewrightref03_Neg.calls t120 t121 t128 t129 _ A42.out).mono ?_
             rintro e w54 ⟨rfl, hb⟩
             refine ⟨_, rfl, ?_⟩
             have n0_ := Aside0.mk (blk_below (g := gb119) (o := .cells #[.string t116, .string t117] 30 (0, 0)) (by (with_reducible repeat (first | refine blk_drewN ?_ _ | refine blk_drew ?_ | refine blk_alloc ?_ _)); exact BK119.out) hb)
             have n1_ := Aside0.mk (blk_below (g := gb123) (o := .cells #[.string t120, .string t121] 30 (0, 0)) (by (with_reducible repeat (first | refine blk_drewN ?_ _ | refine blk_drew ?_ | refine blk_alloc ?_ _)); exact BK123.out) hb)
             have n2_ := Aside0.mk (below_step T9_ hb)
             clear BK119
             clear BK123
             clear HB
             have BK119 := n0_
             have BK123 := n1_
             have HB := n2_
             clear n0_ n1_ n2_
             (try clear hb)
             (try clear hb2)
             (try clear hk)
             (try clear hi)
             refine hK.out _ _ ⟨(blk_cell BK119.out 0).trans rfl, (blk_cell BK119.out 1).trans rfl, (blk_cell BK123.out 0).trans rfl, (blk_cell BK123.out 1).trans rfl⟩ (fun hHeld => ?_)
             clear hK K
             refine norm_ (a' := ?_) ?_ ?_
             rotate_left
             ·
              show Act.put _ (some 112) _ = _
              simp only [Act.put, List.setIfInBounds_toArray, List.set_cons_zero, List.set_cons_succ, i64_w, i32_w]
              rfl
             refine one_ (i := 11) (N := some 113) #[true, true, true, true, true, true, true, true, true, true, true, true, false, false, false, false, false, false, false, false, false, false, false, false, false, false, false, false, false, false, false, false, false, false, false] rfl rfl (one_of HT_.out (by kernel_rfl)) (by decide) (fun K hK => ?_)
             refine goes_ Tryz.func16 (by kernel_rfl) rfl #[.agg #[.string t116, .string t117], .agg #[.string t128, .string t129]] (by rfl) rfl rfl T2_ ?_
             with_reducible refine (tapewrightref03_Add.calls t116 t117 t128 t129 t130 t131 _ A43.out).mono ?_
             rintro e w55 ⟨rfl, hb⟩
             refine ⟨_, rfl, ?_⟩
             have n0_ := Aside0.mk (blk_below (g := gb119) (o := .cells #[.string t116, .string t117] 30 (0, 0)) (by (with_reducible repeat (first | refine blk_drewN ?_ _ | refine blk_drew ?_ | refine blk_alloc ?_ _)); exact BK119.out) hb)
             have n1_ := Aside0.mk (blk_below (g := gb123) (o := .cells #[.string t120, .string t121] 30 (0, 0)) (by (with_reducible repeat (first | refine blk_drewN ?_ _ | refine blk_drew ?_ | refine blk_alloc ?_ _)); exact BK123.out) hb)
             have n2_ := Aside0.mk (below_step T9_ hb)
             clear BK119
             clear BK123
             clear HB
             have BK119 := n0_
             have BK123 := n1_
             have HB := n2_
             clear n0_ n1_ n2_
             (try clear hb)
             (try clear hb2)
             (try clear hk)
             (try clear hi)
             refine hK.out _ _ ⟨(blk_cell BK119.out 0).trans rfl, (blk_cell BK119.out 1).trans rfl, (blk_cell BK123.out 0).trans rfl, (blk_cell BK123.out 1).trans rfl⟩ (fun hHeld => ?_)
             clear hK K
             refine norm_ (a' := ?_) ?_ ?_
             rotate_left
             ·
              show Act.put _ (some 113) _ = _
              simp only [Act.put, List.setIfInBounds_toArray, List.set_cons_zero, List.set_cons_succ, i64_w, i32_w]
              rfl
             refine one_ (i := 12) (N := some 114) #[true, true, true, true, true, true, true, true, true, true, true, true, true, false, false, false, false, false, false, false, false, false, false, false, false, false, false, false, false, false, false, false, false, false, false] rfl rfl (one_of HT_.out (by kernel_rfl)) (by decide) (fun K hK => ?_)
             refine goes_ Tryz.func15 (by kernel_rfl) rfl #[.agg #[.string t130, .string t131]] (by rfl) rfl rfl T2_ ?_
             with_reducible refine (tapewrightref03_Text.calls t130 t131 t132 _ A44.out).mono ?_
             rintro e w56 ⟨rfl, hb⟩
             refine ⟨_, rfl, ?_⟩
             have n0_ := Aside0.mk (blk_below (g := gb119) (o := .cells #[.string t116, .string t117] 30 (0, 0)) (by (with_reducible repeat (first | refine blk_drewN ?_ _ | refine blk_drew ?_ | refine blk_alloc ?_ _)); exact BK119.out) hb)
             have n1_ := Aside0.mk (blk_below (g := gb123) (o := .cells #[.string t120, .string t121] 30 (0, 0)) (by (with_reducible repeat (first | refine blk_drewN ?_ _ | refine blk_drew ?_ | refine blk_alloc ?_ _)); exact BK123.out) hb)
             have n2_ := Aside0.mk (below_step T9_ hb)
             clear BK119
             clear BK123
             clear HB
             have BK119 := n0_
             have BK123 := n1_
             have HB := n2_
             clear n0_ n1_ n2_
             (try clear hb)
             (try clear hb2)
             (try clear hk)
             (try clear hi)
             refine hK.out _ _ ⟨(blk_cell BK119.out 0).trans rfl, (blk_cell BK119.out 1).trans rfl, (blk_cell BK123.out 0).trans rfl, (blk_cell BK123.out 1).trans rfl⟩ (fun hHeld => ?_)
             clear hK K
             refine norm_ (a' := ?_) ?_ ?_
             rotate_left
             ·
              show Act.put _ (some 114) _ = _
              simp only [Act.put, List.setIfInBounds_toArray, List.set_cons_zero, List.set_cons_succ, i64_w, i32_w]
              rfl
             refine pure_ (i := 13) (N := some 115) (v := ?_) (a' := ?_) #[true, true, true, true, true, true, true, true, true, true, true, true, true, true, false, false, false, false, false, false, false, false, false, false, false, false, false, false, false, false, false, false, false, false, false] rfl rfl (any_of HT_.out (by kernel_rfl)) (fun _ _ _ h => h) (Or.inl ⟨by rfl, ?_⟩) ?_ ?_
             rotate_left
             ·
              intro w'
              go_simp
              with_reducible rfl
             rotate_left
             ·
              simp only [Act.put, List.setIfInBounds_toArray, List.set_cons_zero, List.set_cons_succ, i64_w, i32_w]
              rfl
             refine pure_ (i := 14) (N := some 116) (v := ?_) (a' := ?_) #[true, true, true, true, true, true, true, true, true, true, true, true, true, true, true, false, false, false, false, false, false, false, false, false, false, false, false, false, false, false, false, false, false, false, false] rfl rfl (any_of HT_.out (by kernel_rfl)) (fun _ _ _ h => h) (Or.inl ⟨by rfl, ?_⟩) ?_ ?_
             rotate_left
             ·
              intro w'
              go_simp
              with_reducible rfl
             rotate_left
             ·
              simp only [Act.put, List.setIfInBounds_toArray, List.set_cons_zero, List.set_cons_succ, i64_w, i32_w]
              rfl
             refine pure_ (i := 15) (N := some 117) (v := ?_) (a' := ?_) #[true, true, true, true, true, true, true, true, true, true, true, true, true, true, true, true, false, false, false, false, false, false, false, false, false, false, false, false, false, false, false, false, false, false, false] rfl rfl (any_of HT_.out (by kernel_rfl)) (fun _ _ _ h => h) (Or.inl ⟨by rfl, ?_⟩) ?_ ?_
             rotate_left
             ·
              intro w'
              go_simp
              with_reducible rfl
             rotate_left
             ·
              simp only [Act.put, List.setIfInBounds_toArray, List.set_cons_zero, List.set_cons_succ, i64_w, i32_w]
              rfl
             refine pure_ (i := 16) (N := some 118) (v := ?_) (a' := ?_) #[true, true, true, true, true, true, true, true, true, true, true, true, true, true, true, true, true, false, false, false, false, false, false, false, false, false, false, false, false, false, false, false, false, false, false] rfl rfl (any_of HT_.out (by kernel_rfl)) (fun _ _ _ h => h) (Or.inl ⟨by rfl, ?_⟩) ?_ ?_
             rotate_left
             ·
              intro w'
              go_simp
              with_reducible rfl
             rotate_left
             ·
              simp only [Act.put, List.setIfInBounds_toArray, List.set_cons_zero, List.set_cons_succ, i64_w, i32_w]
              rfl
             refine take_ (i := 17) (N := some 119) (v := ?_) (a' := ?_) #[true, true, true, true, true, true, true, true, true, true, true, true, true, true, true, true, true, true, false, false, false, false, false, false, false, false, false, false, false, false, false, false, false, false, false] rfl rfl (take_ofW HT_.out HW_.out (by kernel_rfl)) (fun _ _ _ h => h) (Or.inl ⟨by rfl, ?_⟩) hHeld ?_ ?_
             rotate_left
             ·
              rintro w' ⟨s0, s1, s2, s3⟩
              go_simp
              with_reducible rfl
             rotate_left
             ·
              simp only [Act.put, List.setIfInBounds_toArray, List.set_cons_zero, List.set_cons_succ, i64_w, i32_w]
              rfl
             refine take_ (i := 18) (N := some 120) (v := ?_) (a' := ?_) #[true, true, true, true, true, true, true, true, true, true, true, true, true, true, true, true, true, true, true, false, false, false, false, false, false, false, false, false, false, false, false, false, false, false, false] rfl rfl (take_ofW HT_.out HW_.out (by kernel_rfl)) (fun _ _ _ h => h) (Or.inl ⟨by rfl, ?_⟩) hHeld ?_ ?_
             rotate_left
             ·
              rintro w' ⟨s0, s1, s2, s3⟩
              go_simp
              with_reducible rfl
             rotate_left
             ·
              simp only [Act.put, List.setIfInBounds_toArray, List.set_cons_zero, List.set_cons_succ, i64_w, i32_w]
              rfl
             refine one_ (i := 19) (N := some 121) #[true, true, true, true, true, true, true, true, true, true, true, true, true, true, true, true, true, true, true, true, false, false, false, false, false, false, false, false, false, false, false, false, false, false, false] rfl rfl (one_of HT_.out (by kernel_rfl)) (by decide) (fun K hK => ?_)
             refine goes_ Tryz.func18 (by kernel_rfl) rfl #[.agg #[.string t116, .string t117], .agg #[.string t120, .string t121]] (by rfl) rfl rfl T2_ ?_
             with_reducible refine (tapewrightref03_Mul.calls t116 t117 t120 t121 t133 t134 _ A46.out).mono ?_
             rintro e w57 ⟨rfl, hb⟩
             refine ⟨_, rfl, ?_⟩
             have n0_ := Aside0.mk (blk_below (g := gb119) (o := .cells #[.string t116, .string t117] 30 (0, 0)) (by (with_reducible repeat (first | refine blk_drewN ?_ _ | refine blk_drew ?_ | refine blk_alloc ?_ _)); exact BK119.out) hb)
             have n1_ := Aside0.mk (blk_below (g := gb123) (o := .cells #[.string t120, .string t121] 30 (0, 0)) (by (with_reducible repeat (first | refine blk_drewN ?_ _ | refine blk_drew ?_ | refine blk_alloc ?_ _)); exact BK123.out) hb)
             have n2_ := Aside0.mk (below_step T9_ hb)
             clear BK119
             clear BK123
             clear HB
             have BK119 := n0_
             have BK123 := n1_
             have HB := n2_
             clear n0_ n1_ n2_
             (try clear hb)
             (try clear hb2)
             (try clear hk)
             (try clear hi)
             refine hK.out _ _ ⟨(blk_cell BK119.out 0).trans rfl, (blk_cell BK119.out 1).trans rfl, (blk_cell BK123.out 0).trans rfl, (blk_cell BK123.out 1).trans rfl⟩ (fun hHeld => ?_)
             clear hK K
             refine norm_ (a' := ?_) ?_ ?_
             rotate_left
             ·
              show Act.put _ (some 121) _ = _
              simp only [Act.put, List.setIfInBounds_toArray, List.set_cons_zero, List.set_cons_succ, i64_w, i32_w]
              rfl
             refine one_ (i := 20) (N := some 122) #[true, true, true, true, true, true, true, true, true, true, true, true, true, true, true, true, true, true, true, true, true, false, false, false, false, false, false, false, false, false, false, false, false, false, false] rfl rfl (one_of HT_.out (by kernel_rfl)) (by decide) (fun K hK => ?_)
             refine goes_ Tryz.func15 (by kernel_rfl) rfl #[.agg #[.string t133, .string t134]] (by rfl) rfl rfl T2_ ?_
             with_reducible refine (tapewrightref03_Text.calls t133 t134 t135 _ A47.out).mono ?_
             rintro e w58 ⟨rfl, hb⟩
             refine ⟨_, rfl, ?_⟩
             have n0_ := Aside0.mk (blk_below (g := gb119) (o := .cells #[.string t116, .string t117] 30 (0, 0)) (by (with_reducible repeat (first | refine blk_drewN ?_ _ | refine blk_drew ?_ | refine blk_alloc ?_ _)); exact BK119.out) hb)
             have n1_ := Aside0.mk (blk_below (g := gb123) (o := .cells #[.string t120, .string t121] 30 (0, 0)) (by (with_reducible repeat (first | refine blk_drewN ?_ _ | refine blk_drew ?_ | refine blk_alloc ?_ _)); exact BK123.out) hb)
             have n2_ := Aside0.mk (below_step T9_ hb)
             clear BK119
             clear BK123
             clear HB
             have BK119 := n0_
             have BK123 := n1_
             have HB := n2_
             clear n0_ n1_ n2_
             (try clear hb)
             (try clear hb2)
             (try clear hk)
             (try clear hi)
             refine hK.out _ _ ⟨(blk_cell BK119.out 0).trans rfl, (blk_cell BK119.out 1).trans rfl, (blk_cell BK123.out 0).trans rfl, (blk_cell BK123.out 1).trans rfl⟩ (fun hHeld => ?_)
             clear hK K
             refine norm_ (a' := ?_) ?_ ?_
             rotate_left
             ·
              show Act.put _ (some 122) _ = _
              simp only [Act.put, List.setIfInBounds_toArray, List.set_cons_zero, List.set_cons_succ, i64_w, i32_w]
              rfl
             refine pure_ (i := 21) (N := some 123) (v := ?_) (a' := ?_) #[true, true, true, true, true, true, true, true, true, true, true, true, true, true, true, true, true, true, true, true, true, true, false, false, false, false, false, false, false, false, false, false, false, false, false] rfl rfl (any_of HT_.out (by kernel_rfl)) (fun _ _ _ h => h) (Or.inl ⟨by rfl, ?_⟩) ?_ ?_
             rotate_left
             ·
              intro w'
              go_simp
              with_reducible rfl
             rotate_left
             ·
              simp only [Act.put, List.setIfInBounds_toArray, List.set_cons_zero, List.set_cons_succ, i64_w, i32_w]
              rfl
             refine pure_ (i := 22) (N := some 124) (v := ?_) (a' := ?_) #[true, true, true, true, true, true, true, true, true, true, true, true, true, true, true, true, true, true, true, true, true, true, true, false, false, false, false, false, false, false, false, false, false, false, false] rfl rfl (any_of HT_.out (by kernel_rfl)) (fun _ _ _ h => h) (Or.inl ⟨by rfl, ?_⟩) ?_ ?_
             rotate_left
             ·
              intro w'
              go_simp
              with_reducible rfl
             rotate_left
             ·
              simp only [Act.put, List.setIfInBounds_toArray, List.set_cons_zero, List.set_cons_succ, i64_w, i32_w]
              rfl
             refine pure_ (i := 23) (N := some 125) (v := ?_) (a' := ?_) #[true, true, true, true, true, true, true, true, true, true, true, true, true, true, true, true, true, true, true, true, true, true, true, true, false, false, false, false, false, false, false, false, false, false, false] rfl rfl (any_of HT_.out (by kernel_rfl)) (fun _ _ _ h => h) (Or.inl ⟨by rfl, ?_⟩) ?_ ?_
             rotate_left
             ·
              intro w'
              go_simp
              with_reducible rfl
             rotate_left
             ·
              simp only [Act.put, List.setIfInBounds_toArray, List.set_cons_zero, List.set_cons_succ, i64_w, i32_w]
              rfl
             refine pure_ (i := 24) (N := some 126) (v := ?_) (a' := ?_) #[true, true, true, true, true, true, true, true, true, true, true, true, true, true, true, true, true, true, true, true, true, true, true, true, true, false, false, false, false, false, false, false, false, false, false] rfl rfl (any_of HT_.out (by kernel_rfl)) (fun _ _ _ h => h) (Or.inl ⟨by rfl, ?_⟩) ?_ ?_
             rotate_left
             ·
              intro w'
              go_simp
              with_reducible rfl
             rotate_left
             ·
              simp only [Act.put, List.setIfInBounds_toArray, List.set_cons_zero, List.set_cons_succ, i64_w, i32_w]
              rfl
             refine pure_ (i := 25) (N := some 127) (v := ?_) (a' := ?_) #[true, true, true, true, true, true, true, true, true, true, true, true, true, true, true, true, true, true, true, true, true, true, true, true, true, true, false, false, false, false, false, false, false, false, false] rfl rfl (any_of HT_.out (by kernel_rfl)) (fun _ _ _ h => h) (Or.inl ⟨by rfl, ?_⟩) ?_ ?_
             rotate_left
             ·
              intro w'
              go_simp
              with_reducible rfl
             rotate_left
             ·
              simp only [Act.put, List.setIfInBounds_toArray, List.set_cons_zero, List.set_cons_succ, i64_w, i32_w]
              rfl
             refine pure_ (i := 26) (N := some 128) (v := ?_) (a' := ?_) #[true, true, true, true, true, true, true, true, true, true, true, true, true, true, true, true, true, true, true, true, true, true, true, true, true, true, true, false, false, false, false, false, false, false, false] rfl rfl (any_of HT_.out (by kernel_rfl)) (fun _ _ _ h => h) (Or.inl ⟨by rfl, ?_⟩) ?_ ?_
             rotate_left
             ·
              intro w'
              go_simp
              with_reducible rfl
             rotate_left
             ·
              simp only [Act.put, List.setIfInBounds_toArray, List.set_cons_zero, List.set_cons_succ, i64_w, i32_w]
              rfl
             refine pure_ (i := 27) (N := some 129) (v := ?_) (a' := ?_) #[true, true, true, true, true, true, true, true, true, true, true, true, true, true, true, true, true, true, true, true, true, true, true, true, true, true, true, true, false, false, false, false, false, false, false] rfl rfl (any_of HT_.out (by kernel_rfl)) (fun _ _ _ h => h) (Or.inl ⟨by rfl, ?_⟩) ?_ ?_
             rotate_left
             ·
              intro w'
              go_simp
              with_reducible rfl
             rotate_left
             ·
              simp only [Act.put, List.setIfInBounds_toArray, List.set_cons_zero, List.set_cons_succ, i64_w, i32_w]
              rfl
             refine pure_ (i := 28) (N := some 130) (v := ?_) (a' := ?_) #[true, true, true, true, true, true, true, true, true, true, true, true, true, true, true, true, true, true, true, true, true, true, true, true, true, true, true, true, true, false, false, false, false, false, false] rfl rfl (any_of HT_.out (by kernel_rfl)) (fun _ _ _ h => h) (Or.inl ⟨by rfl, ?_⟩) ?_ ?_
             rotate_left
             ·
              intro w'
              go_simp
              with_reducible rfl
             rotate_left
             ·
              simp only [Act.put, List.setIfInBounds_toArray, List.set_cons_zero, List.set_cons_succ, i64_w, i32_w]
              rfl
             refine pure_ (i := 29) (N := some 131) (v := ?_) (a' := ?_) #[true, true, true, true, true, true, true, true, true, true, true, true, true, true, true, true, true, true, true, true, true, true, true, true, true, true, true, true, true, true, false, false, false, false, false] rfl rfl (any_of HT_.out (by kernel_rfl)) (fun _ _ _ h => h) (Or.inl ⟨by rfl, ?_⟩) ?_ ?_
             rotate_left
             ·
              intro w'
              go_simp
              with_reducible rfl
             rotate_left
             ·
              simp only [Act.put, List.setIfInBounds_toArray, List.set_cons_zero, List.set_cons_succ, i64_w, i32_w]
              rfl
             refine pure_ (i := 30) (N := some 132) (v := ?_) (a' := ?_) #[true, true, true, true, true, true, true, true, true, true, true, true, true, true, true, true, true, true, true, true, true, true, true, true, true, true, true, true, true, true, true, false, false, false, false] rfl rfl (any_of HT_.out (by kernel_rfl)) (fun _ _ _ h => h) (Or.inl ⟨by rfl, ?_⟩) ?_ ?_
             rotate_left
             ·
              intro w'
              go_simp
              with_reducible rfl
             rotate_left
             ·
              simp only [Act.put, List.setIfInBounds_toArray, List.set_cons_zero, List.set_cons_succ, i64_w, i32_w]
              rfl
             refine pure_ (i := 31) (N := some 133) (v := ?_) (a' := ?_) #[true, true, true, true, true, true, true, true, true, true, true, true, true, true, true, true, true, true, true, true, true, true, true, true, true, true, true, true, true, true, true, true, false, false, false] rfl rfl (any_of HT_.out (by kernel_rfl)) (fun _ _ _ h => h) (Or.inl ⟨by rfl, ?_⟩) ?_ ?_
             rotate_left
             ·
              intro w'
              go_simp
              with_reducible rfl
             rotate_left
             ·
              simp only [Act.put, List.setIfInBounds_toArray, List.set_cons_zero, List.set_cons_succ, i64_w, i32_w]
              rfl
             refine pure_ (i := 32) (N := some 134) (v := ?_) (a' := ?_) #[true, true, true, true, true, true, true, true, true, true, true, true, true, true, true, true, true, true, true, true, true, true, true, true, true, true, true, true, true, true, true, true, true, false, false] rfl rfl (any_of HT_.out (by kernel_rfl)) (fun _ _ _ h => h) (Or.inl ⟨by rfl, ?_⟩) ?_ ?_
             rotate_left
             ·
              intro w'
              go_simp
              with_reducible rfl
             rotate_left
             ·
              simp only [Act.put, List.setIfInBounds_toArray, List.set_cons_zero, List.set_cons_succ, i64_w, i32_w]
              rfl
             refine pure_ (i := 33) (N := some 135) (v := ?_) (a' := ?_) #[true, true, true, true, true, true, true, true, true, true, true, true, true, true, true, true, true, true, true, true, true, true, true, true, true, true, true, true, true, true, true, true, true, true, false] rfl rfl (any_of HT_.out (by kernel_rfl)) (fun _ _ _ h => h) (Or.inl ⟨by rfl, ?_⟩) ?_ ?_
             rotate_left
             ·
              intro w'
              go_simp
              with_reducible rfl
             rotate_left
             ·
              simp only [Act.put, List.setIfInBounds_toArray, List.set_cons_zero, List.set_cons_succ, i64_w, i32_w]
              rfl
             refine pure_ (i := 34) (N := some 136) (v := ?_) (a' := ?_) #[true, true, true, true, true, true, true, true, true, true, true, true, true, true, true, true, true, true, true, true, true, true, true, true, true, true, true, true, true, true, true, true, true, true, true] rfl rfl (any_of HT_.out (by kernel_rfl)) (fun _ _ _ h => h) (Or.inl ⟨by rfl, ?_⟩) ?_ ?_
             rotate_left
             ·
              intro w'
              go_simp
              with_reducible rfl
             rotate_left
             ·
              simp only [Act.put, List.setIfInBounds_toArray, List.set_cons_zero, List.set_cons_succ, i64_w, i32_w]
              rfl
             refine done_ (done_of HT_.out (by kernel_rfl)) ?_
             try go_wp2
             go_meet
             case rel => exact ⟨_, ((t113 != 0)), (by first | rfl | (simp; done) | (simp [*]; done)), H', ⟨by have := HJ2.out; have := HJ13.out; first | omega | exact Nat.le_refl _⟩, ⟨by (with_reducible repeat (first | refine blk_drewN ?_ _ | refine blk_drew ?_ | refine blk_alloc ?_ _)); exact BK119.out⟩, ⟨by (with_reducible repeat (first | refine blk_drewN ?_ _ | refine blk_drew ?_ | refine blk_alloc ?_ _)); exact BK123.out⟩, ⟨by repeat (first | (with_reducible first | exact HB.out | apply below_alloc | apply pw_below_drewN | apply below_drew1 | refine below_set ?_ GE119.out | refine below_set ?_ GE123.out) | exact HB.out)⟩⟩
            ·
             rw [if_neg c50] at H
             have c50b0 : (t111 == 0) = false := beq_eq_false_iff_ne.mpr c50
             have c50b1 : (t111 != 0) = true := bne_iff_ne.mpr c50
             exact absurd H (fun h_ => tapewrightlaw03_RatSums.j2_false h_ HRT.out)
           ·
            rw [if_neg c49] at H
            have c49b0 : (t109 == 0) = false := beq_eq_false_iff_ne.mpr c49
            have c49b1 : (t109 != 0) = true := bne_iff_ne.mpr c49
            exact absurd H (fun h_ => tapewrightlaw03_RatSums.j2_false h_ HRT.out)
          ·
           rw [if_neg c48] at H
           have c48b0 : (t112.toList == t135.toList) = false := beq_eq_false_iff_ne.mpr c48
           have c48b1 : (t112.toList != t135.toList) = true := bne_iff_ne.mpr c48
           exact absurd H (fun h_ => tapewrightlaw03_RatSums.j2_false h_ HRT.out)
         ·
          rw [if_neg c45] at H
          have c45b0 : (t110.toList == t132.toList) = false := beq_eq_false_iff_ne.mpr c45
          have c45b1 : (t110.toList != t132.toList) = true := bne_iff_ne.mpr c45
          exact absurd H (fun h_ => tapewrightlaw03_RatSums.j2_false h_ HRT.out)
        ·
         rw [if_neg c41] at H
         have c41b0 : (t108.toList == t127.toList) = false := beq_eq_false_iff_ne.mpr c41
         have c41b1 : (t108.toList != t127.toList) = true := bne_iff_ne.mpr c41
         (first | rw [c41b0] | (simp only [i64_w, i32_w]; rw [c41b0]) | skip)
         exact absurd H (fun h_ => tapewrightlaw03_RatSums.j2_false h_ HRT.out)
       case rest =>
        clear HC38
        try clear c1
        try clear c2
        try clear p2
        try clear c3
        try clear c4
        try clear c5
        try clear c15
        try clear c16
        try clear c17
        try clear c18
        try clear c27
        try clear c28
        try clear c28b0
        try clear c28b1
        try clear c29
        try clear c29b0
        try clear c29b1
        try clear c30
        try clear c30b0
        try clear c30b1
        try clear c31
        try clear c31b0
        try clear c31b1
        try clear c32
        try clear c32b0
        try clear c32b1
        try clear c33
        try clear c33b0
        try clear c33b1
        try clear c34
        try clear c34b0
        try clear c34b1
        try clear c35
        try clear c35b0
        try clear c35b1
        try clear c41
        try clear c41b0
        try clear c41b1
        try clear c45
        try clear c45b0
        try clear c45b1
        try clear c48
        try clear c48b0
        try clear c48b1
        try clear c49
        try clear c49b0
        try clear c49b1
        try clear c50
        try clear c50b0
        try clear c50b1
        obtain ⟨kq, x136_37, rfl, HA, HJ37, BK119, BK123, HB⟩ := hcut
        cases kq with
        | zero => exact absurd HA.out (by simp [tapewrightlaw03_RatSums.j2])
        | succ kj37 =>
         have H := HA.out
         clear HA
         simp only [tapewrightlaw03_RatSums.j2] at H
         by_cases c59 : x136_37 = true
         ·
          subst c59
          rw [if_pos rfl] at H
          exact absurd ((Option.some.inj H).trans HRT.out) (by decide)
         ·
          replace c59 := Bool.eq_false_iff.mpr c59
          subst c59
          rw [if_neg (show ¬ (false = true) by decide)] at H
          by_cases c60 : t120.toList = ([48] : List UInt8)
          ·
           rw [if_pos c60] at H
           have c60b0 : (t120.toList == ([48] : List UInt8)) = true := beq_iff_eq.mpr c60
           have c60b1 : (t120.toList != ([48] : List UInt8)) = false := bne_eq_false_iff_eq.mpr c60
           clear c60
           by_cases c61 : t114.toList = ([] : List UInt8)
           ·
            rw [if_pos c61] at H
            have c61b0 : (t114.toList == ([] : List UInt8)) = true := beq_iff_eq.mpr c61
            have c61b1 : (t114.toList != ([] : List UInt8)) = false := bne_eq_false_iff_eq.mpr c61
            clear c61
            by_cases c62 : t115 = 3
            ·
             rw [if_pos c62] at H
             have c62b0 : (t115 == 3) = true := beq_iff_eq.mpr c62
             have c62b1 : (t115 != 3) = false := bne_eq_false_iff_eq.mpr c62
             clear c62
             replace H := Option.bind_eq_some_iff.mp H
             obtain ⟨t136, A630, H⟩ := H
             replace H : (some t136) = some r := H
             have A63 := Aside0.mk A630
             clear A630
             obtain rfl := Option.some.inj H
             have hnb64 := NB123_119.out
             have hnc64 := NB119_123.out
             have hcz65_0 : wc.cell? ⟨gb123, 0, none⟩ = some (.string t120) := (blk_cell BK123.out 0).trans rfl
             have hcz65_1 : wc.cell? ⟨gb123, 1, none⟩ = some (.string t121) := (blk_cell BK123.out 1).trans rfl
             have hfz65_0 := blk_frozen BK123.out 0
             have hfz65_1 := blk_frozen BK123.out 1
             go_wp2_with (first | (go_at_call 7; (with_reducible refine (tapewrightlaw03_awake.calls  t136 _ (Err.Gs.below HGs.out T9_) A63.out).mono ?_); rintro e w66 ⟨rfl, hb⟩; replace BK119 := BF_ BK119 hb; replace BK123 := BF_ BK123 hb; replace HB := Aside0.mk (below_step T9_ hb); (try clear hb); (try clear hb2); (try clear hk); (try clear hi)))
             go_ret
             exact ⟨T4_, T9_⟩
            ·
             rw [if_neg c62] at H
             have c62b0 : (t115 == 3) = false := beq_eq_false_iff_ne.mpr c62
             have c62b1 : (t115 != 3) = true := bne_iff_ne.mpr c62
             exact absurd ((Option.some.inj H).trans HRT.out) (by decide)
           ·
            rw [if_neg c61] at H
            have c61b0 : (t114.toList == ([] : List UInt8)) = false := beq_eq_false_iff_ne.mpr c61
            have c61b1 : (t114.toList != ([] : List UInt8)) = true := bne_iff_ne.mpr c61
            exact absurd ((Option.some.inj H).trans HRT.out) (by decide)
          ·
           rw [if_neg c60] at H
           have c60b0 : (t120.toList == ([48] : List UInt8)) = false := beq_eq_false_iff_ne.mpr c60
           have c60b1 : (t120.toList != ([48] : List UInt8)) = true := bne_iff_ne.mpr c60
           replace H := Option.bind_eq_some_iff.mp H
           obtain ⟨⟨t137, t138⟩, A670, H⟩ := H
           replace H : ((tapewrightref03_Mul.f t116 t117 t137 t138).bind fun bt139 => ((tapewrightref03_Text.f bt139.1 bt139.2).bind fun t141 => (if t114.toList = t141.toList then (if t115 = 0 then ((tapewrightlaw03_awake.f).bind fun t142 => (some t142)) else (some false)) else (some false)))) = some r := H
           have A67 := Aside0.mk A670
           clear A670
           replace H := Option.bind_eq_some_iff.mp H
           obtain ⟨⟨t139, t140⟩, A680, H⟩ := H
           replace H : ((tapewrightref03_Text.f t139 t140).bind fun t141 => (if t114.toList = t141.toList then (if t115 = 0 then ((tapewrightlaw03_awake.f).bind fun t142 => (some t142)) else (some false)) else (some false))) = some r := H
           have A68 := Aside0.mk A680
           clear A680
           replace H := Option.bind_eq_some_iff.mp H
           obtain ⟨t141, A690, H⟩ := H
           replace H : (if t114.toList = t141.toList then (if t115 = 0 then ((tapewrightlaw03_awake.f).bind fun t142 => (some t142)) else (some false)) else (some false)) = some r := H
           have A69 := Aside0.mk A690
           clear A690
           by_cases c70 : t114.toList = t141.toList
           ·
            rw [if_pos c70] at H
            have c70b0 : (t114.toList == t141.toList) = true := beq_iff_eq.mpr c70
            have c70b1 : (t114.toList != t141.toList) = false := bne_eq_false_iff_eq.mpr c70
            clear c70
            by_cases c71 : t115 = 0
            ·
             rw [if_pos c71] at H
             have c71b0 : (t115 == 0) = true := beq_iff_eq.mpr c71
             have c71b1 : (t115 != 0) = false := bne_eq_false_iff_eq.mpr c71
             clear c71
             replace H := Option.bind_eq_some_iff.mp H
             obtain ⟨t142, A720, H⟩ := H
             replace H : (some t142) = some r := H
             have A72 := Aside0.mk A720
             clear A720
             obtain rfl := Option.some.inj H
             have hnb73 := NB123_119.out
             have hnc73 := NB119_123.out
             have hcz74_0 : wc.cell? ⟨gb123, 0, none⟩ = some (.string t120) := (blk_cell BK123.out 0).trans rfl
             have hcz74_1 : wc.cell? ⟨gb123, 1, none⟩ = some (.string t121) := (blk_cell BK123.out 1).trans rfl
             have hfz74_0 := blk_frozen BK123.out 0
             have hfz74_1 := blk_frozen BK123.out 1
             try go_wp2
             have n0_ := Aside0.mk (blk_drew BK119.out)
             have n1_ := Aside0.mk (blk_drew BK123.out)
             have n2_ := Aside0.mk (below_drew1 HB.out)
             clear BK119
             clear BK123
             clear HB
             have BK119 := n0_
             have BK123 := n1_
             have HB := n2_
             clear n0_ n1_ n2_
             refine start_ (n := 18) (S := fun w' => w'.cell? ⟨gb119, 0, none⟩ = some (.string t116) ∧ w'.cell? ⟨gb119, 1, none⟩ = some (.string t117) ∧ w'.cell? ⟨gb123, 0, none⟩ = some (.string t120) ∧ w'.cell? ⟨gb123, 1, none⟩ = some (.string t121)) (ds := []) #[false, false, false, false, false, false, false, false, false, false, false, false, false, false, false, false, false, false] (by kernel_rfl) rfl rfl ⟨(blk_cell BK119.out 0).trans rfl, (blk_cell BK119.out 1).trans rfl, (blk_cell BK123.out 0).trans rfl, (blk_cell BK123.out 1).trans rfl⟩ (fun hHeld => ?_); refine with_tabW tapewrightlaw03_RatSums.tab15 tapewrightlaw03_RatSums.bits15 (fun HT_ HW_ => ?_)
             generalize wc.drew = w75 at BK119 BK123 HB hHeld ⊢
             refine pure_ (i := 0) (N := some 149) (v := ?_) (a' := ?_) #[true, false, false, false, false, false, false, false, false, false, false, false, false, false, false, false, false, false] rfl rfl (any_of HT_.out (by kernel_rfl)) (fun _ _ _ h => h) (Or.inl ⟨by rfl, ?_⟩) ?_ ?_
             rotate_left
             ·
              intro w'
              go_simp
              with_reducible rfl
             rotate_left
             ·
              simp only [Act.put, List.setIfInBounds_toArray, List.set_cons_zero, List.set_cons_succ, i64_w, i32_w]
              rfl
             refine pure_ (i := 2) (N := some 151) (v := ?_) (a' := ?_) #[true, false, true, false, false, false, false, false, false, false, false, false, false, false, false, false, false, false] rfl rfl (any_of HT_.out (by kernel_rfl)) (fun _ _ _ h => h) (Or.inl ⟨by rfl, ?_⟩) ?_ ?_
             rotate_left
             ·
              intro w'
              go_simp
              with_reducible rfl
             rotate_left
             ·
              simp only [Act.put, List.setIfInBounds_toArray, List.set_cons_zero, List.set_cons_succ, i64_w, i32_w]
              rfl
             refine pure_ (i := 4) (N := some 153) (v := ?_) (a' := ?_) #[true, false, true, false, true, false, false, false, false, false, false, false, false, false, false, false, false, false] rfl rfl (any_of HT_.out (by kernel_rfl)) (fun _ _ _ h => h) (Or.inl ⟨by rfl, ?_⟩) ?_ ?_
             rotate_left
             ·
              intro w'
              go_simp
              with_reducible rfl
             rotate_left
             ·
              simp only [Act.put, List.setIfInBounds_toArray, List.set_cons_zero, List.set_cons_succ, i64_w, i32_w]
              rfl
             refine take_ (i := 1) (N := some 150) (v := ?_) (a' := ?_) #[true, true, true, false, true, false, false, false, false, false, false, false, false, false, false, false, false, false] rfl rfl (take_ofW HT_.out HW_.out (by kernel_rfl)) (fun _ _ _ h => h) (Or.inl ⟨by rfl, ?_⟩) hHeld ?_ ?_
             rotate_left
             ·
              rintro w' ⟨s0, s1, s2, s3⟩
              go_simp
              with_reducible rfl
             rotate_left
             ·
              simp only [Act.put, List.setIfInBounds_toArray, List.set_cons_zero, List.set_cons_succ, i64_w, i32_w]
              rfl
             refine take_ (i := 3) (N := some 152) (v := ?_) (a' := ?_) #[true, true, true, true, true, false, false, false, false, false, false, false, false, false, false, false, false, false] rfl rfl (take_ofW HT_.out HW_.out (by kernel_rfl)) (fun _ _ _ h => h) (Or.inl ⟨by rfl, ?_⟩) hHeld ?_ ?_
             rotate_left
             ·
              rintro w' ⟨s0, s1, s2, s3⟩
              go_simp
              with_reducible rfl
             rotate_left
             ·
              simp only [Act.put, List.setIfInBounds_toArray, List.set_cons_zero, List.set_cons_succ, i64_w, i32_w]
              rfl
             refine take_ (i := 5) (N := some 154) (v := ?_) (a' := ?_) #[true, true, true, true, true, true, false, false, false, false, false, false, false, false, false, false, false, false] rfl rfl (take_ofW HT_.out HW_.out (by kernel_rfl)) (fun _ _ _ h => h) (Or.inl ⟨by rfl, ?_⟩) hHeld ?_ ?_
             rotate_left
             ·
              rintro w' ⟨s0, s1, s2, s3⟩
              go_simp
              with_reducible rfl
             rotate_left
             ·
              simp only [Act.put, List.setIfInBounds_toArray, List.set_cons_zero, List.set_cons_succ, i64_w, i32_w]
              rfl
             refine one_ (i := 6) (N := some 155) #[true, true, true, true, true, true, true, false, false, false, false, false, false, false, false, false, false, false] rfl rfl (one_of HT_.out (by kernel_rfl)) (by decide) (fun K hK => ?_)
             refine goes_ Tryz.func19 (by kernel_rfl) rfl #[.string t121, .string t120] (by rfl) rfl rfl T2_ ?_
             with_reducible refine (tapewrightref03_Lowest.calls t121 t120 t137 t138 _ A67.out).mono ?_
             rintro e w76 ⟨rfl, hb⟩
             refine ⟨_, rfl, ?_⟩
             have n0_ := Aside0.mk (blk_below (g := gb119) (o := .cells #[.string t116, .string t117] 30 (0, 0)) (by (with_reducible repeat (first | refine blk_drewN ?_ _ | refine blk_drew ?_ | refine blk_alloc ?_ _)); exact BK119.out) hb)
             have n1_ := Aside0.mk (blk_below (g := gb123) (o := .cells #[.string t120, .string t121] 30 (0, 0)) (by (with_reducible repeat (first | refine blk_drewN ?_ _ | refine blk_drew ?_ | refine blk_alloc ?_ _)); exact BK123.out) hb)
             have n2_ := Aside0.mk (below_step T9_ hb)
             clear BK119
             clear BK123
             clear HB
             have BK119 := n0_
             have BK123 := n1_
             have HB := n2_
             clear n0_ n1_ n2_
             (try clear hb)
             (try clear hb2)
             (try clear hk)
             (try clear hi)
             refine hK.out _ _ ⟨(blk_cell BK119.out 0).trans rfl, (blk_cell BK119.out 1).trans rfl, (blk_cell BK123.out 0).trans rfl, (blk_cell BK123.out 1).trans rfl⟩ (fun hHeld => ?_)
             clear hK K
             refine norm_ (a' := ?_) ?_ ?_
             rotate_left
             ·
              show Act.put _ (some 155) _ = _
              simp only [Act.put, List.setIfInBounds_toArray, List.set_cons_zero, List.set_cons_succ, i64_w, i32_w]
              rfl
             refine one_ (i := 7) (N := some 156) #[true, true, true, true, true, true, true, true, false, false, false, false, false, false, false, false, false, false] rfl rfl (one_of HT_.out (by kernel_rfl)) (by decide) (fun K hK => ?_)
             refine goes_ Tryz.func18 (by kernel_rfl) rfl #[.agg #[.string t116, .string t117], .agg #[.string t137, .string t138]] (by rfl) rfl rfl T2_ ?_
             with_reducible refine (tapewrightref03_Mul.calls t116 t117 t137 t138 t139 t140 _ A68.out).mono ?_
             rintro e w77 ⟨rfl, hb⟩
             refine ⟨_, rfl, ?_⟩
             have n0_ := Aside0.mk (blk_below (g := gb119) (o := .cells #[.string t116, .string t117] 30 (0, 0)) (by (with_reducible repeat (first | refine blk_drewN ?_ _ | refine blk_drew ?_ | refine blk_alloc ?_ _)); exact BK119.out) hb)
             have n1_ := Aside0.mk (blk_below (g := gb123) (o := .cells #[.string t120, .string t121] 30 (0, 0)) (by (with_reducible repeat (first | refine blk_drewN ?_ _ | refine blk_drew ?_ | refine blk_alloc ?_ _)); exact BK123.out) hb)
             have n2_ := Aside0.mk (below_step T9_ hb)
             clear BK119
             clear BK123
             clear HB
             have BK119 := n0_
             have BK123 := n1_
             have HB := n2_
             clear n0_ n1_ n2_
             (try clear hb)
             (try clear hb2)
             (try clear hk)
             (try clear hi)
             refine hK.out _ _ ⟨(blk_cell BK119.out 0).trans rfl, (blk_cell BK119.out 1).trans rfl, (blk_cell BK123.out 0).trans rfl, (blk_cell BK123.out 1).trans rfl⟩ (fun hHeld => ?_)
             clear hK K
             refine norm_ (a' := ?_) ?_ ?_
             rotate_left
             ·
              show Act.put _ (some 156) _ = _
              simp only [Act.put, List.setIfInBounds_toArray, List.set_cons_zero, List.set_cons_succ, i64_w, i32_w]
              rfl
             refine one_ (i := 8) (N := some 157) #[true, true, true, true, true, true, true, true, true, false, false, false, false, false, false, false, false, false] rfl rfl (one_of HT_.out (by kernel_rfl)) (by decide) (fun K hK => ?_)
             refine goes_ Tryz.func15 (by kernel_rfl) rfl #[.agg #[.string t139, .string t140]] (by rfl) rfl rfl T2_ ?_
             with_reducible refine (tapewrightref03_Text.calls t139 t140 t141 _ A69.out).mono ?_
             rintro e w78 ⟨rfl, hb⟩
             refine ⟨_, rfl, ?_⟩
             have n0_ := Aside0.mk (blk_below (g := gb119) (o := .cells #[.string t116, .string t117] 30 (0, 0)) (by (with_reducible repeat (first | refine blk_drewN ?_ _ | refine blk_drew ?_ | refine blk_alloc ?_ _)); exact BK119.out) hb)
             have n1_ := Aside0.mk (blk_below (g := gb123) (o := .cells #[.string t120, .string t121] 30 (0, 0)) (by (with_reducible repeat (first | refine blk_drewN ?_ _ | refine blk_drew ?_ | refine blk_alloc ?_ _)); exact BK123.out) hb)
             have n2_ := Aside0.mk (below_step T9_ hb)
             clear BK119
             clear BK123
             clear HB
             have BK119 := n0_
             have BK123 := n1_
             have HB := n2_
             clear n0_ n1_ n2_
             (try clear hb)
             (try clear hb2)
             (try clear hk)
             (try clear hi)
             refine hK.out _ _ ⟨(blk_cell BK119.out 0).trans rfl, (blk_cell BK119.out 1).trans rfl, (blk_cell BK123.out 0).trans rfl, (blk_cell BK123.out 1).trans rfl⟩ (fun hHeld => ?_)
             clear hK K
             refine norm_ (a' := ?_) ?_ ?_
             rotate_left
             ·
              show Act.put _ (some 157) _ = _
              simp only [Act.put, List.setIfInBounds_toArray, List.set_cons_zero, List.set_cons_succ, i64_w, i32_w]
              rfl
             refine pure_ (i := 9) (N := some 158) (v := ?_) (a' := ?_) #[true, true, true, true, true, true, true, true, true, true, false, false, false, false, false, false, false, false] rfl rfl (any_of HT_.out (by kernel_rfl)) (fun _ _ _ h => h) (Or.inl ⟨by rfl, ?_⟩) ?_ ?_
             rotate_left
             ·
              intro w'
              go_simp
              with_reducible rfl
             rotate_left
             ·
              simp only [Act.put, List.setIfInBounds_toArray, List.set_cons_zero, List.set_cons_succ, i64_w, i32_w]
              rfl
             refine pure_ (i := 10) (N := some 159) (v := ?_) (a' := ?_) #[true, true, true, true, true, true, true, true, true, true, true, false, false, false, false, false, false, false] rfl rfl (any_of HT_.out (by kernel_rfl)) (fun _ _ _ h => h) (Or.inl ⟨by rfl, ?_⟩) ?_ ?_
             rotate_left
             ·
              intro w'
              go_simp
              with_reducible rfl
             rotate_left
             ·
              simp only [Act.put, List.setIfInBounds_toArray, List.set_cons_zero, List.set_cons_succ, i64_w, i32_w]
              rfl
             refine pure_ (i := 11) (N := some 160) (v := ?_) (a' := ?_) #[true, true, true, true, true, true, true, true, true, true, true, true, false, false, false, false, false, false] rfl rfl (any_of HT_.out (by kernel_rfl)) (fun _ _ _ h => h) (Or.inl ⟨by rfl, ?_⟩) ?_ ?_
             rotate_left
             ·
              intro w'
              go_simp
              with_reducible rfl
             rotate_left
             ·
              simp only [Act.put, List.setIfInBounds_toArray, List.set_cons_zero, List.set_cons_succ, i64_w, i32_w]
              rfl
             refine pure_ (i := 12) (N := some 161) (v := ?_) (a' := ?_) #[true, true, true, true, true, true, true, true, true, true, true, true, true, false, false, false, false, false] rfl rfl (any_of HT_.out (by kernel_rfl)) (fun _ _ _ h => h) (Or.inl ⟨by rfl, ?_⟩) ?_ ?_
             rotate_left
             ·
              intro w'
              go_simp
              with_reducible rfl
             rotate_left
             ·
              simp only [Act.put, List.setIfInBounds_toArray, List.set_cons_zero, List.set_cons_succ, i64_w, i32_w]
              rfl
             refine pure_ (i := 13) (N := some 162) (v := ?_) (a' := ?_) #[true, true, true, true, true, true, true, true, true, true, true, true, true, true, false, false, false, false] rfl rfl (any_of HT_.out (by kernel_rfl)) (fun _ _ _ h => h) (Or.inl ⟨by rfl, ?_⟩) ?_ ?_
             rotate_left
             ·
              intro w'
              go_simp
              with_reducible rfl
             rotate_left
             ·
              simp only [Act.put, List.setIfInBounds_toArray, List.set_cons_zero, List.set_cons_succ, i64_w, i32_w]
              rfl
             refine pure_ (i := 14) (N := some 163) (v := ?_) (a' := ?_) #[true, true, true, true, true, true, true, true, true, true, true, true, true, true, true, false, false, false] rfl rfl (any_of HT_.out (by kernel_rfl)) (fun _ _ _ h => h) (Or.inl ⟨by rfl, ?_⟩) ?_ ?_
             rotate_left
             ·
              intro w'
              go_simp
              with_reducible rfl
             rotate_left
             ·
              simp only [Act.put, List.setIfInBounds_toArray, List.set_cons_zero, List.set_cons_succ, i64_w, i32_w]
              rfl
             refine one_ (i := 15) (N := some 164) #[true, true, true, true, true, true, true, true, true, true, true, true, true, true, true, true, false, false] rfl rfl (one_of HT_.out (by kernel_rfl)) (by decide) (fun K hK => ?_)
             refine goes_ Tryz.func7 (by kernel_rfl) rfl #[] (by rfl) rfl rfl T2_ ?_
             with_reducible refine (tapewrightlaw03_awake.calls  t142 _ (Err.Gs.below HGs.out T9_) A72.out).mono ?_
             rintro e w79 ⟨rfl, hb⟩
             refine ⟨_, rfl, ?_⟩
             have n0_ := Aside0.mk (blk_below (g := gb119) (o := .cells #[.string t116, .string t117] 30 (0, 0)) (by (with_reducible repeat (first | refine blk_drewN ?_ _ | refine blk_drew ?_ | refine blk_alloc ?_ _)); exact BK119.out) hb)
             have n1_ := Aside0.mk (blk_below (g := gb123) (o := .cells #[.string t120, .string t121] 30 (0, 0)) (by (with_reducible repeat (first | refine blk_drewN ?_ _ | refine blk_drew ?_ | refine blk_alloc ?_ _)); exact BK123.out) hb)
             have n2_ := Aside0.mk (below_step T9_ hb)
             clear BK119
             clear BK123
             clear HB
             have BK119 := n0_
             have BK123 := n1_
             have HB := n2_
             clear n0_ n1_ n2_
             (try clear hb)
             (try clear hb2)
             (try clear hk)
             (try clear hi)
             refine hK.out _ _ ⟨(blk_cell BK119.out 0).trans rfl, (blk_cell BK119.out 1).trans rfl, (blk_cell BK123.out 0).trans rfl, (blk_cell BK123.out 1).trans rfl⟩ (fun hHeld => ?_)
             clear hK K
             refine norm_ (a' := ?_) ?_ ?_
             rotate_left
             ·
              show Act.put _ (some 164) _ = _
              simp only [Act.put, List.setIfInBounds_toArray, List.set_cons_zero, List.set_cons_succ, i64_w, i32_w]
              rfl
             refine pure_ (i := 16) (N := some 165) (v := ?_) (a' := ?_) #[true, true, true, true, true, true, true, true, true, true, true, true, true, true, true, true, true, false] rfl rfl (any_of HT_.out (by kernel_rfl)) (fun _ _ _ h => h) (Or.inl ⟨by rfl, ?_⟩) ?_ ?_
             rotate_left
             ·
              intro w'
              go_simp
              with_reducible rfl
             rotate_left
             ·
              simp only [Act.put, List.setIfInBounds_toArray, List.set_cons_zero, List.set_cons_succ, i64_w, i32_w]
              rfl
             refine pure_ (i := 17) (N := some 4) (v := ?_) (a' := ?_) #[true, true, true, true, true, true, true, true, true, true, true, true, true, true, true, true, true, true] rfl rfl (any_of HT_.out (by kernel_rfl)) (fun _ _ _ h => h) (Or.inl ⟨by rfl, ?_⟩) ?_ ?_
             rotate_left
             ·
              intro w'
              go_simp
              with_reducible rfl
             rotate_left
             ·
              simp only [Act.put, List.setIfInBounds_toArray, List.set_cons_zero, List.set_cons_succ, i64_w, i32_w]
              rfl
             refine done_ (done_of HT_.out (by kernel_rfl)) ?_
             try go_wp2
             go_ret
             exact ⟨T4_, T9_⟩
            ·
             rw [if_neg c71] at H
             have c71b0 : (t115 == 0) = false := beq_eq_false_iff_ne.mpr c71
             have c71b1 : (t115 != 0) = true := bne_iff_ne.mpr c71
             exact absurd ((Option.some.inj H).trans HRT.out) (by decide)
           ·
            rw [if_neg c70] at H
            have c70b0 : (t114.toList == t141.toList) = false := beq_eq_false_iff_ne.mpr c70
            have c70b1 : (t114.toList != t141.toList) = true := bne_iff_ne.mpr c70
            exact absurd ((Option.some.inj H).trans HRT.out) (by decide)
/-- THE ONE PURE STATEMENT of tapewrightlaw03_RatSums: yours. -/
def tapewrightlaw03_RatSums.Pure : Prop := ∀ (a0 : ByteArray) (a1 : ByteArray), a0.size ≤ 140737488351232 → a1.size ≤ 140737488351232 → ∃ k, tapewrightlaw03_RatSums.f k a0 a1 = some true
theorem tapewrightlaw03_RatSums.walk (P : tapewrightlaw03_RatSums.Pure) (a0 : ByteArray) (a1 : ByteArray) (w : World) (hG : Err.Gs w) (w0 : a0.size ≤ 140737488351232) (w1 : a1.size ≤ 140737488351232) :
  Calls Tryz.prog 4 #[.string a0, .string a1] w fun e w' => e = .returned (.bool true) ∧ Below w.heap.size w w' := by
 obtain ⟨k, h⟩ := P a0 a1 w0 w1
 refine (tapewrightlaw03_RatSums.calls k a0 a1 true w hG rfl h).mono ?_
 rintro e w' ⟨rfl, hd⟩
 exact ⟨rfl, hd⟩
end Go.Proofs.YtfjlmiehbikmnaaGreatDoor.PQ
