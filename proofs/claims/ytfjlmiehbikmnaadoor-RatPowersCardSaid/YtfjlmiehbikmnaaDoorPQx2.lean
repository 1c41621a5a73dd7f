-- by wip/tool/mine.py of this repo (the kit's printer with given contracts)
import Derived.Test.YtfjlmiehbikmnaaDoorPQx0
import Derived.Test.YtfjlmiehbikmnaaDoorPQx1
namespace Go.Proofs.YtfjlmiehbikmnaaDoor.PQ
open Go.RowKit Go.Proofs.YtfjlmiehbikmnaaDoorW.PrintWords Go.Proofs.YtfjlmiehbikmnaaDoorW.PrintLast Go.Proofs.YtfjlmiehbikmnaaDoorW.PrintMore
attribute [local go_sem] max2_int min2_int max_two min_two max_three min_three max_four min_four   -- for this text's walks alone
set_option linter.unusedVariables false
set_option linter.unusedSimpArgs false

/-! ### rat_Mul: function 18 -/
noncomputable def rat_Mul.f (a0 : ByteArray) (a1 : ByteArray) : Option (ByteArray × Int) := if a0.size ≤ 40000000000 ∧ a1.size ≤ 40000000000 then some (Err.rMul a0 a1) else none
theorem rat_Mul.calls (a0 : ByteArray) (a1 : ByteArray) (r1 : ByteArray) (r2 : Int) (w : World) (hG : Err.Gs w) (h : rat_Mul.f a0 a1 = some (r1, r2)) :
  Calls Tryd.prog 18 #[.string a0, .string a1] w fun e w' => e = .returned (.tuple #[.string r1, .int .i64 r2]) ∧ Below w.heap.size w w' := by
 unfold rat_Mul.f at h
 by_cases c : a0.size ≤ 40000000000 ∧ a1.size ≤ 40000000000
 ·
  rw [if_pos c] at h
  injection h with h
  have := Err.mul_calls a0 a1 c.1 c.2 w hG
  rw [h] at this
  exact this
 ·
  rw [if_neg c] at h
  cases h
theorem rat_Mul.of (a b : ByteArray) (ha : a.size ≤ 40000000000) (hb : b.size ≤ 40000000000) : rat_Mul.f a b = some (Err.rMul a b) := by rw [rat_Mul.f, if_pos ⟨ha, hb⟩]
theorem rat_Mul.rt {x y : Rat} (hx : Err.Fr x) (hy : Err.Fr y) : rat_Mul.f (Err.rt x) (Err.rt y) = some (Err.rt (x * y), 0) := by
 rw [rat_Mul.of _ _ hx.size hy.size, Err.rMul, Err.rv_rt, Err.rv_rt]


/-! ### rat_Sub: function 20 -/
noncomputable def rat_Sub.f (a0 : ByteArray) (a1 : ByteArray) : Option (ByteArray × Int) := if a0.size ≤ 40000000000 ∧ a1.size ≤ 40000000000 then some (Err.rSub a0 a1) else none
theorem rat_Sub.calls (a0 : ByteArray) (a1 : ByteArray) (r1 : ByteArray) (r2 : Int) (w : World) (hG : Err.Gs w) (h : rat_Sub.f a0 a1 = some (r1, r2)) :
  Calls Tryd.prog 20 #[.string a0, .string a1] w fun e w' => e = .returned (.tuple #[.string r1, .int .i64 r2]) ∧ Below w.heap.size w w' := by
 unfold rat_Sub.f at h
 by_cases c : a0.size ≤ 40000000000 ∧ a1.size ≤ 40000000000
 ·
  rw [if_pos c] at h
  injection h with h
  have := Err.sub_calls a0 a1 c.1 c.2 w hG
  rw [h] at this
  exact this
 ·
  rw [if_neg c] at h
  cases h
theorem rat_Sub.of (a b : ByteArray) (ha : a.size ≤ 40000000000) (hb : b.size ≤ 40000000000) : rat_Sub.f a b = some (Err.rSub a b) := by rw [rat_Sub.f, if_pos ⟨ha, hb⟩]
theorem rat_Sub.rt {x y : Rat} (hx : Err.Fr x) (hy : Err.Fr y) : rat_Sub.f (Err.rt x) (Err.rt y) = some (Err.rt (x - y), 0) := by
 rw [rat_Sub.of _ _ hx.size hy.size, Err.rSub, Err.rv_rt, Err.rv_rt]


/-! ### tapewrightlaw03_RatLaws: function 6 -/
noncomputable def tapewrightlaw03_RatLaws.f (k : Nat) (a0 : ByteArray) (a1 : ByteArray) (a2 : ByteArray) : Option (Bool) := (tapewrightlaw03_right.f k (([a0, a1, a2] : List ByteArray))).bind fun t112 => (if t112 = true then ((rat_Add.f a1 a2).bind fun bt114 => ((rat_Add.f a2 a1).bind fun bt116 => ((rat_Mul.f a0 bt114.1).bind fun bt118 => ((rat_Mul.f a0 a1).bind fun bt120 => ((rat_Mul.f a2 a0).bind fun bt122 => ((rat_Add.f bt120.1 bt122.1).bind fun bt124 => ((rat_Sub.f bt114.1 a2).bind fun bt126 => ((rat_Quo.f bt120.1 a1).bind fun bt128 => (if bt114.1.toList = bt116.1.toList then (if bt118.1.toList = bt124.1.toList then (if bt126.1.toList = a1.toList then (if a1.toList = ([48] : List UInt8) then (if bt128.2 = 3 then ((rat_Right.f bt118.1).bind fun t130 => (if t130 = true then ((tapewrightlaw03_awake.f).bind fun t131 => (some t131)) else (some false))) else (some false)) else (if bt128.1.toList = a0.toList then (if bt128.2 = 0 then ((rat_Right.f bt118.1).bind fun t132 => (if t132 = true then ((tapewrightlaw03_awake.f).bind fun t133 => (some t133)) else (some false))) else (some false)) else (some false))) else (some false)) else (some false)) else (some false)))))))))) else ((tapewrightlaw03_awake.f).bind fun t113 => (some t113)))
set_option maxHeartbeats 8000000 in
set_option maxRecDepth 100000 in
theorem tapewrightlaw03_RatLaws.calls (k : Nat) (a0 : ByteArray) (a1 : ByteArray) (a2 : ByteArray) (r : Bool) (w : World) (hG : Err.Gs w) (hrt : r = true) (h : tapewrightlaw03_RatLaws.f k a0 a1 a2 = some r) :
  Calls Tryd.prog 6 #[.string a0, .string a1, .string a2] w fun e w' => e = .returned (.bool r) ∧ Below w.heap.size w w' := by
 have HB := Aside0.mk (Below.refl w.heap.size w)
 have HGs := Aside0.mk hG
 clear hG
 have HRT := Aside0.mk hrt
 clear hrt
 have H : ((tapewrightlaw03_right.f k (([a0, a1, a2] : List ByteArray))).bind fun t112 => (if t112 = true then ((rat_Add.f a1 a2).bind fun bt114 => ((rat_Add.f a2 a1).bind fun bt116 => ((rat_Mul.f a0 bt114.1).bind fun bt118 => ((rat_Mul.f a0 a1).bind fun bt120 => ((rat_Mul.f a2 a0).bind fun bt122 => ((rat_Add.f bt120.1 bt122.1).bind fun bt124 => ((rat_Sub.f bt114.1 a2).bind fun bt126 => ((rat_Quo.f bt120.1 a1).bind fun bt128 => (if bt114.1.toList = bt116.1.toList then (if bt118.1.toList = bt124.1.toList then (if bt126.1.toList = a1.toList then (if a1.toList = ([48] : List UInt8) then (if bt128.2 = 3 then ((rat_Right.f bt118.1).bind fun t130 => (if t130 = true then ((tapewrightlaw03_awake.f).bind fun t131 => (some t131)) else (some false))) else (some false)) else (if bt128.1.toList = a0.toList then (if bt128.2 = 0 then ((rat_Right.f bt118.1).bind fun t132 => (if t132 = true then ((tapewrightlaw03_awake.f).bind fun t133 => (some t133)) else (some false))) else (some false)) else (some false))) else (some false)) else (some false)) else (some false)))))))))) else ((tapewrightlaw03_awake.f).bind fun t113 => (some t113)))) = some r := h
 clear h
 obtain ⟨y109, hy109⟩ : ∃ y_ : List ByteArray, y_ = (([a0, a1, a2] : List ByteArray)) := ⟨_, rfl⟩
 replace H : ((tapewrightlaw03_right.f k y109).bind fun t112 => (if t112 = true then ((rat_Add.f a1 a2).bind fun bt114 => ((rat_Add.f a2 a1).bind fun bt116 => ((rat_Mul.f a0 bt114.1).bind fun bt118 => ((rat_Mul.f a0 a1).bind fun bt120 => ((rat_Mul.f a2 a0).bind fun bt122 => ((rat_Add.f bt120.1 bt122.1).bind fun bt124 => ((rat_Sub.f bt114.1 a2).bind fun bt126 => ((rat_Quo.f bt120.1 a1).bind fun bt128 => (if bt114.1.toList = bt116.1.toList then (if bt118.1.toList = bt124.1.toList then (if bt126.1.toList = a1.toList then (if a1.toList = ([48] : List UInt8) then (if bt128.2 = 3 then ((rat_Right.f bt118.1).bind fun t130 => (if t130 = true then ((tapewrightlaw03_awake.f).bind fun t131 => (some t131)) else (some false))) else (some false)) else (if bt128.1.toList = a0.toList then (if bt128.2 = 0 then ((rat_Right.f bt118.1).bind fun t132 => (if t132 = true then ((tapewrightlaw03_awake.f).bind fun t133 => (some t133)) else (some false))) else (some false)) else (some false))) else (some false)) else (some false)) else (some false)))))))))) else ((tapewrightlaw03_awake.f).bind fun t113 => (some t113)))) = some r := by first | (rw [hy109]; with_reducible exact H) | (have H2_ := (Option.bind_some _ _).symm.trans H; rw [hy109]; with_reducible exact H2_) | (have H2_ := (Option.bind_some _ _).symm.trans H; with_reducible exact H2_) | with_reducible exact H | (rw [hy109]; exact H) | exact H
 have Ny109 := Aside0.mk hy109
 clear hy109
 replace H := Option.bind_eq_some_iff.mp H
 obtain ⟨t112, A40, H⟩ := H
 replace H : (if t112 = true then ((rat_Add.f a1 a2).bind fun bt114 => ((rat_Add.f a2 a1).bind fun bt116 => ((rat_Mul.f a0 bt114.1).bind fun bt118 => ((rat_Mul.f a0 a1).bind fun bt120 => ((rat_Mul.f a2 a0).bind fun bt122 => ((rat_Add.f bt120.1 bt122.1).bind fun bt124 => ((rat_Sub.f bt114.1 a2).bind fun bt126 => ((rat_Quo.f bt120.1 a1).bind fun bt128 => (if bt114.1.toList = bt116.1.toList then (if bt118.1.toList = bt124.1.toList then (if bt126.1.toList = a1.toList then (if a1.toList = ([48] : List UInt8) then (if bt128.2 = 3 then ((rat_Right.f bt118.1).bind fun t130 => (if t130 = true then ((tapewrightlaw03_awake.f).bind fun t131 => (some t131)) else (some false))) else (some false)) else (if bt128.1.toList = a0.toList then (if bt128.2 = 0 then ((rat_Right.f bt118.1).bind fun t132 => (if t132 = true then ((tapewrightlaw03_awake.f).bind fun t133 => (some t133)) else (some false))) else (some false)) else (some false))) else (some false)) else (some false)) else (some false)))))))))) else ((tapewrightlaw03_awake.f).bind fun t113 => (some t113))) = some r := H
 have A4 := Aside0.mk A40
 clear A40
 by_cases c5 : t112 = true
 ·
  subst c5
  have H1 : ((rat_Add.f a1 a2).bind fun bt114 => ((rat_Add.f a2 a1).bind fun bt116 => ((rat_Mul.f a0 bt114.1).bind fun bt118 => ((rat_Mul.f a0 a1).bind fun bt120 => ((rat_Mul.f a2 a0).bind fun bt122 => ((rat_Add.f bt120.1 bt122.1).bind fun bt124 => ((rat_Sub.f bt114.1 a2).bind fun bt126 => ((rat_Quo.f bt120.1 a1).bind fun bt128 => (if bt114.1.toList = bt116.1.toList then (if bt118.1.toList = bt124.1.toList then (if bt126.1.toList = a1.toList then (if a1.toList = ([48] : List UInt8) then (if bt128.2 = 3 then ((rat_Right.f bt118.1).bind fun t130 => (if t130 = true then ((tapewrightlaw03_awake.f).bind fun t131 => (some t131)) else (some false))) else (some false)) else (if bt128.1.toList = a0.toList then (if bt128.2 = 0 then ((rat_Right.f bt118.1).bind fun t132 => (if t132 = true then ((tapewrightlaw03_awake.f).bind fun t133 => (some t133)) else (some false))) else (some false)) else (some false))) else (some false)) else (some false)) else (some false)))))))))) = some r := by rw [if_pos rfl] at H; exact H
  clear H
  have H := H1
  clear H1
  replace H := Option.bind_eq_some_iff.mp H
  obtain ⟨⟨t114, t115⟩, A60, H⟩ := H
  replace H : ((rat_Add.f a2 a1).bind fun bt116 => ((rat_Mul.f a0 t114).bind fun bt118 => ((rat_Mul.f a0 a1).bind fun bt120 => ((rat_Mul.f a2 a0).bind fun bt122 => ((rat_Add.f bt120.1 bt122.1).bind fun bt124 => ((rat_Sub.f t114 a2).bind fun bt126 => ((rat_Quo.f bt120.1 a1).bind fun bt128 => (if t114.toList = bt116.1.toList then (if bt118.1.toList = bt124.1.toList then (if bt126.1.toList = a1.toList then (if a1.toList = ([48] : List UInt8) then (if bt128.2 = 3 then ((rat_Right.f bt118.1).bind fun t130 => (if t130 = true then ((tapewrightlaw03_awake.f).bind fun t131 => (some t131)) else (some false))) else (some false)) else (if bt128.1.toList = a0.toList then (if bt128.2 = 0 then ((rat_Right.f bt118.1).bind fun t132 => (if t132 = true then ((tapewrightlaw03_awake.f).bind fun t133 => (some t133)) else (some false))) else (some false)) else (some false))) else (some false)) else (some false)) else (some false))))))))) = some r := H
  have A6 := Aside0.mk A60
  clear A60
  replace H := Option.bind_eq_some_iff.mp H
  obtain ⟨⟨t116, t117⟩, A70, H⟩ := H
  replace H : ((rat_Mul.f a0 t114).bind fun bt118 => ((rat_Mul.f a0 a1).bind fun bt120 => ((rat_Mul.f a2 a0).bind fun bt122 => ((rat_Add.f bt120.1 bt122.1).bind fun bt124 => ((rat_Sub.f t114 a2).bind fun bt126 => ((rat_Quo.f bt120.1 a1).bind fun bt128 => (if t114.toList = t116.toList then (if bt118.1.toList = bt124.1.toList then (if bt126.1.toList = a1.toList then (if a1.toList = ([48] : List UInt8) then (if bt128.2 = 3 then ((rat_Right.f bt118.1).bind fun t130 => (if t130 = true then ((tapewrightlaw03_awake.f).bind fun t131 => (some t131)) else (some false))) else (some false)) else (if bt128.1.toList = a0.toList then (if bt128.2 = 0 then ((rat_Right.f bt118.1).bind fun t132 => (if t132 = true then ((tapewrightlaw03_awake.f).bind fun t133 => (some t133)) else (some false))) else (some false)) else (some false))) else (some false)) else (some false)) else (some false)))))))) = some r := H
  have A7 := Aside0.mk A70
  clear A70
  replace H := Option.bind_eq_some_iff.mp H
  obtain ⟨⟨t118, t119⟩, A80, H⟩ := H
  replace H : ((rat_Mul.f a0 a1).bind fun bt120 => ((rat_Mul.f a2 a0).bind fun bt122 => ((rat_Add.f bt120.1 bt122.1).bind fun bt124 => ((rat_Sub.f t114 a2).bind fun bt126 => ((rat_Quo.f bt120.1 a1).bind fun bt128 => (if t114.toList = t116.toList then (if t118.toList = bt124.1.toList then (if bt126.1.toList = a1.toList then (if a1.toList = ([48] : List UInt8) then (if bt128.2 = 3 then ((rat_Right.f t118).bind fun t130 => (if t130 = true then ((tapewrightlaw03_awake.f).bind fun t131 => (some t131)) else (some false))) else (some false)) else (if bt128.1.toList = a0.toList then (if bt128.2 = 0 then ((rat_Right.f t118).bind fun t132 => (if t132 = true then ((tapewrightlaw03_awake.f).bind fun t133 => (some t133)) else (some false))) else (some false)) else (some false))) else (some false)) else (some false)) else (some false))))))) = some r := H
  have A8 := Aside0.mk A80
  clear A80
  replace H := Option.bind_eq_some_iff.mp H
  obtain ⟨⟨t120, t121⟩, A90, H⟩ := H
  replace H : ((rat_Mul.f a2 a0).bind fun bt122 => ((rat_Add.f t120 bt122.1).bind fun bt124 => ((rat_Sub.f t114 a2).bind fun bt126 => ((rat_Quo.f t120 a1).bind fun bt128 => (if t114.toList = t116.toList then (if t118.toList = bt124.1.toList then (if bt126.1.toList = a1.toList then (if a1.toList = ([48] : List UInt8) then (if bt128.2 = 3 then ((rat_Right.f t118).bind fun t130 => (if t130 = true then ((tapewrightlaw03_awake.f).bind fun t131 => (some t131)) else (some false))) else (some false)) else (if bt128.1.toList = a0.toList then (if bt128.2 = 0 then ((rat_Right.f t118).bind fun t132 => (if t132 = true then ((tapewrightlaw03_awake.f).bind fun t133 => (some t133)) else (some false))) else (some false)) else (some false))) else (some false)) else (some false)) else (some false)))))) = some r := H
  have A9 := Aside0.mk A90
  clear A90
  replace H := Option.bind_eq_some_iff.mp H
  obtain ⟨⟨t122, t123⟩, A100, H⟩ := H
  replace H : ((rat_Add.f t120 t122).bind fun bt124 => ((rat_Sub.f t114 a2).bind fun bt126 => ((rat_Quo.f t120 a1).bind fun bt128 => (if t114.toList = t116.toList then (if t118.toList = bt124.1.toList then (if bt126.1.toList = a1.toList then (if a1.toList = ([48] : List UInt8) then (if bt128.2 = 3 then ((rat_Right.f t118).bind fun t130 => (if t130 = true then ((tapewrightlaw03_awake.f).bind fun t131 => (some t131)) else (some false))) else (some false)) else (if bt128.1.toList = a0.toList then (if bt128.2 = 0 then ((rat_Right.f t118).bind fun t132 => (if t132 = true then ((tapewrightlaw03_awake.f).bind fun t133 => (some t133)) else (some false))) else (some false)) else (some false))) else (some false)) else (some false)) else (some false))))) = some r := H
  have A10 := Aside0.mk A100
  clear A100
  replace H := Option.bind_eq_some_iff.mp H
  obtain ⟨⟨t124, t125⟩, A110, H⟩ := H
  replace H : ((rat_Sub.f t114 a2).bind fun bt126 => ((rat_Quo.f t120 a1).bind fun bt128 => (if t114.toList = t116.toList then (if t118.toList = t124.toList then (if bt126.1.toList = a1.toList then (if a1.toList = ([48] : List UInt8) then (if bt128.2 = 3 then ((rat_Right.f t118).bind fun t130 => (if t130 = true then ((tapewrightlaw03_awake.f).bind fun t131 => (some t131)) else (some false))) else (some false)) else (if bt128.1.toList = a0.toList then (if bt128.2 = 0 then ((rat_Right.f t118).bind fun t132 => (if t132 = true then ((tapewrightlaw03_awake.f).bind fun t133 => (some t133)) else (some false))) else (some false)) else (some false))) else (some false)) else (some false)) else (some false)))) = some r := H
  have A11 := Aside0.mk A110
  clear A110
  replace H := Option.bind_eq_some_iff.mp H
  obtain ⟨⟨t126, t127⟩, A120, H⟩ := H
  replace H : ((rat_Quo.f t120 a1).bind fun bt128 => (if t114.toList = t116.toList then (if t118.toList = t124.toList then (if t126.toList = a1.toList then (if a1.toList = ([48] : List UInt8) then (if bt128.2 = 3 then ((rat_Right.f t118).bind fun t130 => (if t130 = true then ((tapewrightlaw03_awake.f).bind fun t131 => (some t131)) else (some false))) else (some false)) else (if bt128.1.toList = a0.toList then (if bt128.2 = 0 then ((rat_Right.f t118).bind fun t132 => (if t132 = true then ((tapewrightlaw03_awake.f).bind fun t133 => (some t133)) else (some false))) else (some false)) else (some false))) else (some false)) else (some false)) else (some false))) = some r := H
  have A12 := Aside0.mk A120
  clear A120
  replace H := Option.bind_eq_some_iff.mp H
  obtain ⟨⟨t128, t129⟩, A130, H⟩ := H
  replace H : (if t114.toList = t116.toList then (if t118.toList = t124.toList then (if t126.toList = a1.toList then (if a1.toList = ([48] : List UInt8) then (if t129 = 3 then ((rat_Right.f t118).bind fun t130 => (if t130 = true then ((tapewrightlaw03_awake.f).bind fun t131 => (some t131)) else (some false))) else (some false)) else (if t128.toList = a0.toList then (if t129 = 0 then ((rat_Right.f t118).bind fun t132 => (if t132 = true then ((tapewrightlaw03_awake.f).bind fun t133 => (some t133)) else (some false))) else (some false)) else (some false))) else (some false)) else (some false)) else (some false)) = some r := H
  have A13 := Aside0.mk A130
  clear A130
  by_cases c14 : t114.toList = t116.toList
  ·
   rw [if_pos c14] at H
   have c14b0 : (t114.toList == t116.toList) = true := beq_iff_eq.mpr c14
   have c14b1 : (t114.toList != t116.toList) = false := bne_eq_false_iff_eq.mpr c14
   clear c14
   by_cases c15 : t118.toList = t124.toList
   ·
    rw [if_pos c15] at H
    have c15b0 : (t118.toList == t124.toList) = true := beq_iff_eq.mpr c15
    have c15b1 : (t118.toList != t124.toList) = false := bne_eq_false_iff_eq.mpr c15
    clear c15
    by_cases c16 : t126.toList = a1.toList
    ·
     rw [if_pos c16] at H
     have c16b0 : (t126.toList == a1.toList) = true := beq_iff_eq.mpr c16
     have c16b1 : (t126.toList != a1.toList) = false := bne_eq_false_iff_eq.mpr c16
     clear c16
     by_cases c17 : a1.toList = ([48] : List UInt8)
     ·
      rw [if_pos c17] at H
      have c17b0 : (a1.toList == ([48] : List UInt8)) = true := beq_iff_eq.mpr c17
      have c17b1 : (a1.toList != ([48] : List UInt8)) = false := bne_eq_false_iff_eq.mpr c17
      clear c17
      by_cases c18 : t129 = 3
      ·
       rw [if_pos c18] at H
       have c18b0 : (t129 == 3) = true := beq_iff_eq.mpr c18
       have c18b1 : (t129 != 3) = false := bne_eq_false_iff_eq.mpr c18
       clear c18
       replace H := Option.bind_eq_some_iff.mp H
       obtain ⟨t130, A190, H⟩ := H
       replace H : (if t130 = true then ((tapewrightlaw03_awake.f).bind fun t131 => (some t131)) else (some false)) = some r := H
       have A19 := Aside0.mk A190
       clear A190
       by_cases c20 : t130 = true
       ·
        subst c20
        have H1 : ((tapewrightlaw03_awake.f).bind fun t131 => (some t131)) = some r := by rw [if_pos rfl] at H; exact H
        clear H
        have H := H1
        clear H1
        replace H := Option.bind_eq_some_iff.mp H
        obtain ⟨t131, A210, H⟩ := H
        replace H : (some t131) = some r := H
        have A21 := Aside0.mk A210
        clear A210
        obtain rfl := Option.some.inj H
        go_enter Tryd.func6, Tryd.ntmps6
        go_wp2_with (first | ((with_reducible refine gate_dst (N := 26) rfl ?_); refine Kd.R_lit Kd.string _ 9 ?hg (N := 26) ?hd (xs := ([a0, a1, a2] : List ByteArray)) (inner := [.string a0, .string a1, .string a2]) (ok := fun _ => True) (okp := fun _ => True) ?hr ?hp (fun _ hk => hk) trivial (Below.refl _ _) (Nat.le_refl _) (by simp) ?_; (case hd => rfl); (case hg => rfl); (case hr => exact T3_); (case hp => exact (Reps.one (show Kd.M Kd.string _ _ _ a0 [.string a0] from rfl) (Reps.one (show Kd.M Kd.string _ _ _ a1 [.string a1] from rfl) (Reps.one (show Kd.M Kd.string _ _ _ a2 [.string a2] from rfl) (Reps.none _ _))))); intro v110 w22 ho23 hb hg_ hnew_; clear hg_ hnew_; (first | rw [← Ny109.out] at ho23 | (simp only [Int.reduceToNat] at ho23; rw [← Ny109.out] at ho23)); have HO111 := Aside0.mk (Kd.R_lower ho23 (below_size T1_)); replace HB := Aside0.mk (below_step T1_ hb); clear hb ho23; obtain ⟨Ao24, co24, eo24⟩ := Kd.R_slice HO111.out; subst eo24) | ((with_reducible refine gate_callee (f := 12) rfl ?_); refine goesL_ (some 27) rfl rfl Tryd.func12 (by kernel_rfl) rfl #[.slice Ao24 y109.length co24] rfl T2_ ?_; (with_reducible refine (tapewrightlaw03_right.calls k _ _ y109 true _ (Err.Gs.below HGs.out T1_) ?side1 ?side2 A4.out).mono ?_); (case side1 => exact C1_ (Kd.R_reads' HO111.out).2.2); (case side2 => exact (Kd.R_reads' HO111.out).2.1); rintro e w25 ⟨rfl, hb⟩; refine ⟨_, rfl, ?_⟩; replace HO111 := Aside0.mk (Kd.R_below (K1_ HO111) hb); replace HB := Aside0.mk (below_step T1_ hb); clear hb) | ((with_reducible refine gate_callee (f := 14) rfl ?_); refine goesL_ (some 33) rfl rfl Tryd.func14 (by kernel_rfl) rfl #[.string a1, .string a2] rfl T2_ ?_; (with_reducible refine (rat_Add.calls a1 a2 t114 t115 _ (Err.Gs.below HGs.out T1_) A6.out).mono ?_); rintro e w26 ⟨rfl, hb⟩; refine ⟨_, rfl, ?_⟩; replace HO111 := Aside0.mk (Kd.R_below (K1_ HO111) hb); replace HB := Aside0.mk (below_step T1_ hb); clear hb) | ((with_reducible refine gate_callee (f := 14) rfl ?_); refine goesL_ (some 39) rfl rfl Tryd.func14 (by kernel_rfl) rfl #[.string a2, .string a1] rfl T2_ ?_; (with_reducible refine (rat_Add.calls a2 a1 t116 t117 _ (Err.Gs.below HGs.out T1_) A7.out).mono ?_); rintro e w27 ⟨rfl, hb⟩; refine ⟨_, rfl, ?_⟩; replace HO111 := Aside0.mk (Kd.R_below (K1_ HO111) hb); replace HB := Aside0.mk (below_step T1_ hb); clear hb) | ((with_reducible refine gate_callee (f := 18) rfl ?_); refine goesL_ (some 45) rfl rfl Tryd.func18 (by kernel_rfl) rfl #[.string a0, .string t114] rfl T2_ ?_; (with_reducible refine (rat_Mul.calls a0 t114 t118 t119 _ (Err.Gs.below HGs.out T1_) A8.out).mono ?_); rintro e w28 ⟨rfl, hb⟩; refine ⟨_, rfl, ?_⟩; replace HO111 := Aside0.mk (Kd.R_below (K1_ HO111) hb); replace HB := Aside0.mk (below_step T1_ hb); clear hb) | ((with_reducible refine gate_callee (f := 18) rfl ?_); refine goesL_ (some 51) rfl rfl Tryd.func18 (by kernel_rfl) rfl #[.string a0, .string a1] rfl T2_ ?_; (with_reducible refine (rat_Mul.calls a0 a1 t120 t121 _ (Err.Gs.below HGs.out T1_) A9.out).mono ?_); rintro e w29 ⟨rfl, hb⟩; refine ⟨_, rfl, ?_⟩; replace HO111 := Aside0.mk (Kd.R_below (K1_ HO111) hb); replace HB := Aside0.mk (below_step T1_ hb); clear hb) | ((with_reducible refine gate_callee (f := 18) rfl ?_); refine goesL_ (some 57) rfl rfl Tryd.func18 (by kernel_rfl) rfl #[.string a2, .string a0] rfl T2_ ?_; (with_reducible refine (rat_Mul.calls a2 a0 t122 t123 _ (Err.Gs.below HGs.out T1_) A10.out).mono ?_); rintro e w30 ⟨rfl, hb⟩; refine ⟨_, rfl, ?_⟩; replace HO111 := Aside0.mk (Kd.R_below (K1_ HO111) hb); replace HB := Aside0.mk (below_step T1_ hb); clear hb) | ((with_reducible refine gate_callee (f := 14) rfl ?_); refine goesL_ (some 63) rfl rfl Tryd.func14 (by kernel_rfl) rfl #[.string t120, .string t122] rfl T2_ ?_; (with_reducible refine (rat_Add.calls t120 t122 t124 t125 _ (Err.Gs.below HGs.out T1_) A11.out).mono ?_); rintro e w31 ⟨rfl, hb⟩; refine ⟨_, rfl, ?_⟩; replace HO111 := Aside0.mk (Kd.R_below (K1_ HO111) hb); replace HB := Aside0.mk (below_step T1_ hb); clear hb) | ((with_reducible refine gate_callee (f := 20) rfl ?_); refine goesL_ (some 69) rfl rfl Tryd.func20 (by kernel_rfl) rfl #[.string t114, .string a2] rfl T2_ ?_; (with_reducible refine (rat_Sub.calls t114 a2 t126 t127 _ (Err.Gs.below HGs.out T1_) A12.out).mono ?_); rintro e w32 ⟨rfl, hb⟩; refine ⟨_, rfl, ?_⟩; replace HO111 := Aside0.mk (Kd.R_below (K1_ HO111) hb); replace HB := Aside0.mk (below_step T1_ hb); clear hb) | ((with_reducible refine gate_callee (f := 17) rfl ?_); refine goesL_ (some 75) rfl rfl Tryd.func17 (by kernel_rfl) rfl #[.string t120, .string a1] rfl T2_ ?_; (with_reducible refine (rat_Quo.calls t120 a1 t128 t129 _ (Err.Gs.below HGs.out T1_) A13.out).mono ?_); rintro e w33 ⟨rfl, hb⟩; refine ⟨_, rfl, ?_⟩; replace HO111 := Aside0.mk (Kd.R_below (K1_ HO111) hb); replace HB := Aside0.mk (below_step T1_ hb); clear hb) | (go_at_call 16; (with_reducible refine (rat_Right.calls t118 true _ (Err.Gs.below HGs.out T1_) A19.out).mono ?_); rintro e w34 ⟨rfl, hb⟩; replace HO111 := Aside0.mk (Kd.R_below (K1_ HO111) hb); replace HB := Aside0.mk (below_step T1_ hb); clear hb) | (go_at_call 13; (with_reducible refine (tapewrightlaw03_awake.calls  t131 _ (Err.Gs.below HGs.out T1_) A21.out).mono ?_); rintro e w35 ⟨rfl, hb⟩; replace HO111 := Aside0.mk (Kd.R_below (K1_ HO111) hb); replace HB := Aside0.mk (below_step T1_ hb); clear hb))
        go_ret
        exact ⟨T4_, T1_⟩
       ·
        replace c20 := Bool.eq_false_iff.mpr c20
        subst c20
        have H1 : (some false) = some r := by rw [if_neg (show ¬ (false = true) by decide)] at H; exact H
        clear H
        have H := H1
        clear H1
        exact absurd ((Option.some.inj H).trans HRT.out) (by decide)
      ·
       rw [if_neg c18] at H
       have c18b0 : (t129 == 3) = false := beq_eq_false_iff_ne.mpr c18
       have c18b1 : (t129 != 3) = true := bne_iff_ne.mpr c18
       exact absurd ((Option.some.inj H).trans HRT.out) (by decide)
     ·
      rw [if_neg c17] at H
      have c17b0 : (a1.toList == ([48] : List UInt8)) = false := beq_eq_false_iff_ne.mpr c17
      have c17b1 : (a1.toList != ([48] : List UInt8)) = true := bne_iff_ne.mpr c17
      by_cases c36 : t128.toList = a0.toList
      ·
       rw [if_pos c36] at H
       have c36b0 : (t128.toList == a0.toList) = true := beq_iff_eq.mpr c36
       have c36b1 : (t128.toList != a0.toList) = false := bne_eq_false_iff_eq.mpr c36
       clear c36
       by_cases c37 : t129 = 0
       ·
        rw [if_pos c37] at H
        have c37b0 : (t129 == 0) = true := beq_iff_eq.mpr c37
        have c37b1 : (t129 != 0) = false := bne_eq_false_iff_eq.mpr c37
        clear c37
        replace H := Option.bind_eq_some_iff.mp H
        obtain ⟨t132, A380, H⟩ := H
        replace H : (if t132 = true then ((tapewrightlaw03_awake.f).bind fun t133 => (some t133)) else (some false)) = some r := H
        have A38 := Aside0.mk A380
        clear A380
        by_cases c39 : t132 = true
        ·
         subst c39
         have H1 : ((tapewrightlaw03_awake.f).bind fun t133 => (some t133)) = some r := by rw [if_pos rfl] at H; exact H
         clear H
         have H := H1
         clear H1
         replace H := Option.bind_eq_some_iff.mp H
         obtain ⟨t133, A400, H⟩ := H
         replace H : (some t133) = some r := H
         have A40 := Aside0.mk A400
         clear A400
         obtain rfl := Option.some.inj H
         go_enter Tryd.func6, Tryd.ntmps6
         go_wp2_with (first | ((with_reducible refine gate_dst (N := 26) rfl ?_); refine Kd.R_lit Kd.string _ 9 ?hg (N := 26) ?hd (xs := ([a0, a1, a2] : List ByteArray)) (inner := [.string a0, .string a1, .string a2]) (ok := fun _ => True) (okp := fun _ => True) ?hr ?hp (fun _ hk => hk) trivial (Below.refl _ _) (Nat.le_refl _) (by simp) ?_; (case hd => rfl); (case hg => rfl); (case hr => exact T3_); (case hp => exact (Reps.one (show Kd.M Kd.string _ _ _ a0 [.string a0] from rfl) (Reps.one (show Kd.M Kd.string _ _ _ a1 [.string a1] from rfl) (Reps.one (show Kd.M Kd.string _ _ _ a2 [.string a2] from rfl) (Reps.none _ _))))); intro v110 w41 ho42 hb hg_ hnew_; clear hg_ hnew_; (first | rw [← Ny109.out] at ho42 | (simp only [Int.reduceToNat] at ho42; rw [← Ny109.out] at ho42)); have HO111 := Aside0.mk (Kd.R_lower ho42 (below_size T1_)); replace HB := Aside0.mk (below_step T1_ hb); clear hb ho42; obtain ⟨Ao43, co43, eo43⟩ := Kd.R_slice HO111.out; subst eo43) | ((with_reducible refine gate_callee (f := 12) rfl ?_); refine goesL_ (some 27) rfl rfl Tryd.func12 (by kernel_rfl) rfl #[.slice Ao43 y109.length co43] rfl T2_ ?_; (with_reducible refine (tapewrightlaw03_right.calls k _ _ y109 true _ (Err.Gs.below HGs.out T1_) ?side1 ?side2 A4.out).mono ?_); (case side1 => exact C1_ (Kd.R_reads' HO111.out).2.2); (case side2 => exact (Kd.R_reads' HO111.out).2.1); rintro e w44 ⟨rfl, hb⟩; refine ⟨_, rfl, ?_⟩; replace HO111 := Aside0.mk (Kd.R_below (K1_ HO111) hb); replace HB := Aside0.mk (below_step T1_ hb); clear hb) | ((with_reducible refine gate_callee (f := 14) rfl ?_); refine goesL_ (some 33) rfl rfl Tryd.func14 (by kernel_rfl) rfl #[.string a1, .string a2] rfl T2_ ?_; (with_reducible refine (rat_Add.calls a1 a2 t114 t115 _ (Err.Gs.below HGs.out T1_) A6.out).mono ?_); rintro e w45 ⟨rfl, hb⟩; refine ⟨_, rfl, ?_⟩; replace HO111 := Aside0.mk (Kd.R_below (K1_ HO111) hb); replace HB := Aside0.mk (below_step T1_ hb); clear hb) | ((with_reducible refine gate_callee (f := 14) rfl ?_); refine goesL_ (some 39) rfl rfl Tryd.func14 (by kernel_rfl) rfl #[.string a2, .string a1] rfl T2_ ?_; (with_reducible refine (rat_Add.calls a2 a1 t116 t117 _ (Err.Gs.below HGs.out T1_) A7.out).mono ?_); rintro e w46 ⟨rfl, hb⟩; refine ⟨_, rfl, ?_⟩; replace HO111 := Aside0.mk (Kd.R_below (K1_ HO111) hb); replace HB := Aside0.mk (below_step T1_ hb); clear hb) | ((with_reducible refine gate_callee (f := 18) rfl ?_); refine goesL_ (some 45) rfl rfl Tryd.func18 (by kernel_rfl) rfl #[.string a0, .string t114] rfl T2_ ?_; (with_reducible refine (rat_Mul.calls a0 t114 t118 t119 _ (Err.Gs.below HGs.out T1_) A8.out).mono ?_); rintro e w47 ⟨rfl, hb⟩; refine ⟨_, rfl, ?_⟩; replace HO111 := Aside0.mk (Kd.R_below (K1_ HO111) hb); replace HB := Aside0.mk (below_step T1_ hb); clear hb) | ((with_reducible refine gate_callee (f := 18) rfl ?_); refine goesL_ (some 51) rfl rfl Tryd.func18 (by kernel_rfl) rfl #[.string a0, .string a1] rfl T2_ ?_; (with_reducible refine (rat_Mul.calls a0 a1 t120 t121 _ (Err.Gs.below HGs.out T1_) A9.out).mono ?_); rintro e w48 ⟨rfl, hb⟩; refine ⟨_, rfl, ?_⟩; replace HO111 := Aside0.mk (Kd.R_below (K1_ HO111) hb); replace HB := Aside0.mk (below_step T1_ hb); clear hb) | ((with_reducible refine gate_callee (f := 18) rfl ?_); refine goesL_ (some 57) rfl rfl Tryd.func18 (by kernel_rfl) rfl #[.string a2, .string a0] rfl T2_ ?_; (with_reducible refine (rat_Mul.calls a2 a0 t122 t123 _ (Err.Gs.below HGs.out T1_) A10.out).mono ?_); rintro e w49 ⟨rfl, hb⟩; refine ⟨_, rfl, ?_⟩; replace HO111 := Aside0.mk (Kd.R_below (K1_ HO111) hb); replace HB := Aside0.mk (below_step T1_ hb); clear hb) | ((with_reducible refine gate_callee (f := 14) rfl ?_); refine goesL_ (some 63) rfl rfl Tryd.func14 (by kernel_rfl) rfl #[.string t120, .string t122] rfl T2_ ?_; (with_reducible refine (rat_Add.calls t120 t122 t124 t125 _ (Err.Gs.below HGs.out T1_) A11.out).mono ?_); rintro e w50 ⟨rfl, hb⟩; refine ⟨_, rfl, ?_⟩; replace HO111 := Aside0.mk (Kd.R_below (K1_ HO111) hb); replace HB := Aside0.mk (below_step T1_ hb); clear hb) | ((with_reducible refine gate_callee (f := 20) rfl ?_); refine goesL_ (some 69) rfl rfl Tryd.func20 (by kernel_rfl) rfl #[.string t114, .string a2] rfl T2_ ?_; (with_reducible refine (rat_Sub.calls t114 a2 t126 t127 _ (Err.Gs.below HGs.out T1_) A12.out).mono ?_); rintro e w51 ⟨rfl, hb⟩; refine ⟨_, rfl, ?_⟩; replace HO111 := Aside0.mk (Kd.R_below (K1_ HO111) hb); replace HB := Aside0.mk (below_step T1_ hb); clear hb) | ((with_reducible refine gate_callee (f := 17) rfl ?_); refine goesL_ (some 75) rfl rfl Tryd.func17 (by kernel_rfl) rfl #[.string t120, .string a1] rfl T2_ ?_; (with_reducible refine (rat_Quo.calls t120 a1 t128 t129 _ (Err.Gs.below HGs.out T1_) A13.out).mono ?_); rintro e w52 ⟨rfl, hb⟩; refine ⟨_, rfl, ?_⟩; replace HO111 := Aside0.mk (Kd.R_below (K1_ HO111) hb); replace HB := Aside0.mk (below_step T1_ hb); clear hb) | (go_at_call 16; (with_reducible refine (rat_Right.calls t118 true _ (Err.Gs.below HGs.out T1_) A38.out).mono ?_); rintro e w53 ⟨rfl, hb⟩; replace HO111 := Aside0.mk (Kd.R_below (K1_ HO111) hb); replace HB := Aside0.mk (below_step T1_ hb); clear hb) | (go_at_call 13; (with_reducible refine (tapewrightlaw03_awake.calls  t133 _ (Err.Gs.below HGs.out T1_) A40.out).mono ?_); rintro e w54 ⟨rfl, hb⟩; replace HO111 := Aside0.mk (Kd.R_below (K1_ HO111) hb); replace HB := Aside0.mk (below_step T1_ hb); clear hb))
         go_ret
         exact ⟨T4_, T1_⟩
        ·
         replace c39 := Bool.eq_false_iff.mpr c39
         subst c39
         have H1 : (some false) = some r := by rw [if_neg (show ¬ (false = true) by decide)] at H; exact H
         clear H
         have H := H1
         clear H1
         exact absurd ((Option.some.inj H).trans HRT.out) (by decide)
       ·
        rw [if_neg c37] at H
        have c37b0 : (t129 == 0) = false := beq_eq_false_iff_ne.mpr c37
        have c37b1 : (t129 != 0) = true := bne_iff_ne.mpr c37
        exact absurd ((Option.some.inj H).trans HRT.out) (by decide)
      ·
       rw [if_neg c36] at H
       have c36b0 : (t128.toList == a0.toList) = false := beq_eq_false_iff_ne.mpr c36
       have c36b1 : (t128.toList != a0.toList) = true := bne_iff_ne.mpr c36
       exact absurd ((Option.some.inj H).trans HRT.out) (by decide)
    ·
     rw [if_neg c16] at H
     have c16b0 : (t126.toList == a1.toList) = false := beq_eq_false_iff_ne.mpr c16
     have c16b1 : (t126.toList != a1.toList) = true := bne_iff_ne.mpr c16
     exact absurd ((Option.some.inj H).trans HRT.out) (by decide)
   ·
    rw [if_neg c15] at H
    have c15b0 : (t118.toList == t124.toList) = false := beq_eq_false_iff_ne.mpr c15
    have c15b1 : (t118.toList != t124.toList) = true := bne_iff_ne.mpr c15
    exact absurd ((Option.some.inj H).trans HRT.out) (by decide)
  ·
   rw [if_neg c14] at H
   have c14b0 : (t114.toList == t116.toList) = false := beq_eq_false_iff_ne.mpr c14
   have c14b1 : (t114.toList != t116.toList) = true := bne_iff_ne.mpr c14
   exact absurd ((Option.some.inj H).trans HRT.out) (by decide)
 ·
  replace c5 := Bool.eq_false_iff.mpr c5
  subst c5
  have H1 : ((tapewrightlaw03_awake.f).bind fun t113 => (some t113)) = some r := by rw [if_neg (show ¬ (false = true) by decide)] at H; exact H
  clear H
  have H := H1
  clear H1
  replace H := Option.bind_eq_some_iff.mp H
  obtain ⟨t113, A550, H⟩ := H
  replace H : (some t113) = some r := H
  have A55 := Aside0.mk A550
  clear A550
  obtain rfl := Option.some.inj H
  go_enter Tryd.func6, Tryd.ntmps6
  go_wp2_with (first | ((with_reducible refine gate_dst (N := 26) rfl ?_); refine Kd.R_lit Kd.string _ 9 ?hg (N := 26) ?hd (xs := ([a0, a1, a2] : List ByteArray)) (inner := [.string a0, .string a1, .string a2]) (ok := fun _ => True) (okp := fun _ => True) ?hr ?hp (fun _ hk => hk) trivial (Below.refl _ _) (Nat.le_refl _) (by simp) ?_; (case hd => rfl); (case hg => rfl); (case hr => exact T3_); (case hp => exact (Reps.one (show Kd.M Kd.string _ _ _ a0 [.string a0] from rfl) (Reps.one (show Kd.M Kd.string _ _ _ a1 [.string a1] from rfl) (Reps.one (show Kd.M Kd.string _ _ _ a2 [.string a2] from rfl) (Reps.none _ _))))); intro v110 w56 ho57 hb hg_ hnew_; clear hg_ hnew_; (first | rw [← Ny109.out] at ho57 | (simp only [Int.reduceToNat] at ho57; rw [← Ny109.out] at ho57)); have HO111 := Aside0.mk (Kd.R_lower ho57 (below_size T1_)); replace HB := Aside0.mk (below_step T1_ hb); clear hb ho57; obtain ⟨Ao58, co58, eo58⟩ := Kd.R_slice HO111.out; subst eo58) | ((with_reducible refine gate_callee (f := 12) rfl ?_); refine goesL_ (some 27) rfl rfl Tryd.func12 (by kernel_rfl) rfl #[.slice Ao58 y109.length co58] rfl T2_ ?_; (with_reducible refine (tapewrightlaw03_right.calls k _ _ y109 false _ (Err.Gs.below HGs.out T1_) ?side1 ?side2 A4.out).mono ?_); (case side1 => exact C1_ (Kd.R_reads' HO111.out).2.2); (case side2 => exact (Kd.R_reads' HO111.out).2.1); rintro e w59 ⟨rfl, hb⟩; refine ⟨_, rfl, ?_⟩; replace HO111 := Aside0.mk (Kd.R_below (K1_ HO111) hb); replace HB := Aside0.mk (below_step T1_ hb); clear hb) | ((with_reducible refine gate_callee (f := 13) rfl ?_); refine goesL_ (some 29) rfl rfl Tryd.func13 (by kernel_rfl) rfl #[] rfl T2_ ?_; (with_reducible refine (tapewrightlaw03_awake.calls  t113 _ (Err.Gs.below HGs.out T1_) A55.out).mono ?_); rintro e w60 ⟨rfl, hb⟩; refine ⟨_, rfl, ?_⟩; replace HO111 := Aside0.mk (Kd.R_below (K1_ HO111) hb); replace HB := Aside0.mk (below_step T1_ hb); clear hb))
  go_ret
  exact ⟨T4_, T1_⟩

/-- THE ONE PURE STATEMENT of tapewrightlaw03_RatLaws: yours. -/
def tapewrightlaw03_RatLaws.Pure : Prop := ∀ (a0 : ByteArray) (a1 : ByteArray) (a2 : ByteArray), a0.size ≤ 140737488351232 → a1.size ≤ 140737488351232 → a2.size ≤ 140737488351232 → ∃ k, tapewrightlaw03_RatLaws.f k a0 a1 a2 = some true
theorem tapewrightlaw03_RatLaws.walk (P : tapewrightlaw03_RatLaws.Pure) (a0 : ByteArray) (a1 : ByteArray) (a2 : ByteArray) (w : World) (hG : Err.Gs w) (w0 : a0.size ≤ 140737488351232) (w1 : a1.size ≤ 140737488351232) (w2 : a2.size ≤ 140737488351232) :
  Calls Tryd.prog 6 #[.string a0, .string a1, .string a2] w fun e w' => e = .returned (.bool true) ∧ Below w.heap.size w w' := by
 obtain ⟨k, h⟩ := P a0 a1 a2 w0 w1 w2
 refine (tapewrightlaw03_RatLaws.calls k a0 a1 a2 true w hG rfl h).mono ?_
 rintro e w' ⟨rfl, hd⟩
 exact ⟨rfl, hd⟩

/-! ### rat_Compare: function 23 -/
noncomputable def rat_Compare.f (a0 : ByteArray) (a1 : ByteArray) : Option (Int × Int) := if a0.size ≤ 40000000000 ∧ a1.size ≤ 40000000000 then some (Err.rCompare a0 a1) else none
theorem rat_Compare.calls (a0 : ByteArray) (a1 : ByteArray) (r1 : Int) (r2 : Int) (w : World) (hG : Err.Gs w) (h : rat_Compare.f a0 a1 = some (r1, r2)) :
  Calls Tryd.prog 23 #[.string a0, .string a1] w fun e w' => e = .returned (.tuple #[.int .i64 r1, .int .i64 r2]) ∧ Below w.heap.size w w' := by
 unfold rat_Compare.f at h
 by_cases c : a0.size ≤ 40000000000 ∧ a1.size ≤ 40000000000
 ·
  rw [if_pos c] at h
  injection h with h
  have := Err.compare_calls a0 a1 c.1 c.2 w hG
  rw [h] at this
  exact this
 ·
  rw [if_neg c] at h
  cases h
theorem rat_Compare.of (a b : ByteArray) (ha : a.size ≤ 40000000000) (hb : b.size ≤ 40000000000) : rat_Compare.f a b = some (Err.rCompare a b) := by rw [rat_Compare.f, if_pos ⟨ha, hb⟩]
theorem rat_Compare.rt {x y : Rat} (hx : Err.Fr x) (hy : Err.Fr y) : rat_Compare.f (Err.rt x) (Err.rt y) = some (Th.Wh.sgn (x - y).num, 0) := by
 rw [rat_Compare.of _ _ hx.size hy.size, Err.rCompare, Err.rv_rt, Err.rv_rt]


end Go.Proofs.YtfjlmiehbikmnaaDoor.PQ
