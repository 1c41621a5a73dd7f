-- by wip/tool/mine.py of this repo (the kit's printer with given contracts)
import Derived.Test.YtfjlmiehbikmnaaDoorPQx0
import Derived.Test.YtfjlmiehbikmnaaDoorPQx1
import Derived.Test.YtfjlmiehbikmnaaDoorPQx2
import Derived.Test.YtfjlmiehbikmnaaDoorPQx3
namespace Go.Proofs.YtfjlmiehbikmnaaDoor.PQ
open Go.RowKit Go.Proofs.YtfjlmiehbikmnaaDoorW.PrintWords Go.Proofs.YtfjlmiehbikmnaaDoorW.PrintLast Go.Proofs.YtfjlmiehbikmnaaDoorW.PrintMore
attribute [local go_sem] max2_int min2_int max_two min_two max_three min_three max_four min_four   -- for this text's walks alone
set_option linter.unusedVariables false
set_option linter.unusedSimpArgs false

/-! ### tapewrightlaw03_RatUnits: function 7 -/
noncomputable def tapewrightlaw03_RatUnits.f (k : Nat) (a0 : ByteArray) : Option (Bool) := (tapewrightlaw03_right.f k (([a0] : List ByteArray))).bind fun t227 => (if t227 = true then ((rat_Mul.f a0 (⟨#[49]⟩ : ByteArray)).bind fun bt229 => ((rat_Quo.f a0 (⟨#[49]⟩ : ByteArray)).bind fun bt231 => ((rat_Add.f (⟨#[48]⟩ : ByteArray) a0).bind fun bt233 => ((rat_Sub.f a0 a0).bind fun bt235 => ((rat_Quo.f a0 a0).bind fun bt237 => ((rat_Neg.f a0).bind fun bt239 => ((rat_Neg.f bt239.1).bind fun bt241 => (if bt229.1.toList = a0.toList then (if bt231.1.toList = a0.toList then (if bt233.1.toList = a0.toList then (if bt235.1.toList = ([48] : List UInt8) then (if a0.toList = ([48] : List UInt8) then (if bt237.2 = 3 then (if bt241.1.toList = a0.toList then (if bt241.2 = 0 then ((tapewrightlaw03_awake.f).bind fun t243 => (some t243)) else (some false)) else (some false)) else (if bt237.1.toList = ([49] : List UInt8) then (if bt237.2 = 0 then (if bt241.1.toList = a0.toList then (if bt241.2 = 0 then ((tapewrightlaw03_awake.f).bind fun t244 => (some t244)) else (some false)) else (some false)) else (some false)) else (some false))) else (if bt237.1.toList = ([49] : List UInt8) then (if bt237.2 = 0 then (if bt241.1.toList = a0.toList then (if bt241.2 = 0 then ((tapewrightlaw03_awake.f).bind fun t245 => (some t245)) else (some false)) else (some false)) else (some false)) else (some false))) else (some false)) else (some false)) else (some false)) else (some false))))))))) else ((tapewrightlaw03_awake.f).bind fun t228 => (some t228)))
set_option maxHeartbeats 8000000 in
set_option maxRecDepth 100000 in
theorem tapewrightlaw03_RatUnits.calls (k : Nat) (a0 : ByteArray) (r : Bool) (w : World) (hG : Err.Gs w) (hrt : r = true) (h : tapewrightlaw03_RatUnits.f k a0 = some r) :
  Calls Tryd.prog 7 #[.string a0] w fun e w' => e = .returned (.bool r) ∧ Below w.heap.size w w' := by
 have HB := Aside0.mk (Below.refl w.heap.size w)
 have HGs := Aside0.mk hG
 clear hG
 have HRT := Aside0.mk hrt
 clear hrt
 have H : ((tapewrightlaw03_right.f k (([a0] : List ByteArray))).bind fun t227 => (if t227 = true then ((rat_Mul.f a0 (⟨#[49]⟩ : ByteArray)).bind fun bt229 => ((rat_Quo.f a0 (⟨#[49]⟩ : ByteArray)).bind fun bt231 => ((rat_Add.f (⟨#[48]⟩ : ByteArray) a0).bind fun bt233 => ((rat_Sub.f a0 a0).bind fun bt235 => ((rat_Quo.f a0 a0).bind fun bt237 => ((rat_Neg.f a0).bind fun bt239 => ((rat_Neg.f bt239.1).bind fun bt241 => (if bt229.1.toList = a0.toList then (if bt231.1.toList = a0.toList then (if bt233.1.toList = a0.toList then (if bt235.1.toList = ([48] : List UInt8) then (if a0.toList = ([48] : List UInt8) then (if bt237.2 = 3 then (if bt241.1.toList = a0.toList then (if bt241.2 = 0 then ((tapewrightlaw03_awake.f).bind fun t243 => (some t243)) else (some false)) else (some false)) else (if bt237.1.toList = ([49] : List UInt8) then (if bt237.2 = 0 then (if bt241.1.toList = a0.toList then (if bt241.2 = 0 then ((tapewrightlaw03_awake.f).bind fun t244 => (some t244)) else (some false)) else (some false)) else (some false)) else (some false))) else (if bt237.1.toList = ([49] : List UInt8) then (if bt237.2 = 0 then (if bt241.1.toList = a0.toList then (if bt241.2 = 0 then ((tapewrightlaw03_awake.f).bind fun t245 => (some t245)) else (some false)) else (some false)) else (some false)) else (some false))) else (some false)) else (some false)) else (some false)) else (some false))))))))) else ((tapewrightlaw03_awake.f).bind fun t228 => (some t228)))) = some r := h
 clear h
 obtain ⟨y224, hy224⟩ : ∃ y_ : List ByteArray, y_ = (([a0] : List ByteArray)) := ⟨_, rfl⟩
 replace H : ((tapewrightlaw03_right.f k y224).bind fun t227 => (if t227 = true then ((rat_Mul.f a0 (⟨#[49]⟩ : ByteArray)).bind fun bt229 => ((rat_Quo.f a0 (⟨#[49]⟩ : ByteArray)).bind fun bt231 => ((rat_Add.f (⟨#[48]⟩ : ByteArray) a0).bind fun bt233 => ((rat_Sub.f a0 a0).bind fun bt235 => ((rat_Quo.f a0 a0).bind fun bt237 => ((rat_Neg.f a0).bind fun bt239 => ((rat_Neg.f bt239.1).bind fun bt241 => (if bt229.1.toList = a0.toList then (if bt231.1.toList = a0.toList then (if bt233.1.toList = a0.toList then (if bt235.1.toList = ([48] : List UInt8) then (if a0.toList = ([48] : List UInt8) then (if bt237.2 = 3 then (if bt241.1.toList = a0.toList then (if bt241.2 = 0 then ((tapewrightlaw03_awake.f).bind fun t243 => (some t243)) else (some false)) else (some false)) else (if bt237.1.toList = ([49] : List UInt8) then (if bt237.2 = 0 then (if bt241.1.toList = a0.toList then (if bt241.2 = 0 then ((tapewrightlaw03_awake.f).bind fun t244 => (some t244)) else (some false)) else (some false)) else (some false)) else (some false))) else (if bt237.1.toList = ([49] : List UInt8) then (if bt237.2 = 0 then (if bt241.1.toList = a0.toList then (if bt241.2 = 0 then ((tapewrightlaw03_awake.f).bind fun t245 => (some t245)) else (some false)) else (some false)) else (some false)) else (some false))) else (some false)) else (some false)) else (some false)) else (some false))))))))) else ((tapewrightlaw03_awake.f).bind fun t228 => (some t228)))) = some r := by first | (rw [hy224]; with_reducible exact H) | (have H2_ := (Option.bind_some _ _).symm.trans H; rw [hy224]; with_reducible exact H2_) | (have H2_ := (Option.bind_some _ _).symm.trans H; with_reducible exact H2_) | with_reducible exact H | (rw [hy224]; exact H) | exact H
 have Ny224 := Aside0.mk hy224
 clear hy224
 replace H := Option.bind_eq_some_iff.mp H
 obtain ⟨t227, A20, H⟩ := H
 replace H : (if t227 = true then ((rat_Mul.f a0 (⟨#[49]⟩ : ByteArray)).bind fun bt229 => ((rat_Quo.f a0 (⟨#[49]⟩ : ByteArray)).bind fun bt231 => ((rat_Add.f (⟨#[48]⟩ : ByteArray) a0).bind fun bt233 => ((rat_Sub.f a0 a0).bind fun bt235 => ((rat_Quo.f a0 a0).bind fun bt237 => ((rat_Neg.f a0).bind fun bt239 => ((rat_Neg.f bt239.1).bind fun bt241 => (if bt229.1.toList = a0.toList then (if bt231.1.toList = a0.toList then (if bt233.1.toList = a0.toList then (if bt235.1.toList = ([48] : List UInt8) then (if a0.toList = ([48] : List UInt8) then (if bt237.2 = 3 then (if bt241.1.toList = a0.toList then (if bt241.2 = 0 then ((tapewrightlaw03_awake.f).bind fun t243 => (some t243)) else (some false)) else (some false)) else (if bt237.1.toList = ([49] : List UInt8) then (if bt237.2 = 0 then (if bt241.1.toList = a0.toList then (if bt241.2 = 0 then ((tapewrightlaw03_awake.f).bind fun t244 => (some t244)) else (some false)) else (some false)) else (some false)) else (some false))) else (if bt237.1.toList = ([49] : List UInt8) then (if bt237.2 = 0 then (if bt241.1.toList = a0.toList then (if bt241.2 = 0 then ((tapewrightlaw03_awake.f).bind fun t245 => (some t245)) else (some false)) else (some false)) else (some false)) else (some false))) else (some false)) else (some false)) else (some false)) else (some false))))))))) else ((tapewrightlaw03_awake.f).bind fun t228 => (some t228))) = some r := H
 have A2 := Aside0.mk A20
 clear A20
 by_cases c3 : t227 = true
 ·
  subst c3
  have H1 : ((rat_Mul.f a0 (⟨#[49]⟩ : ByteArray)).bind fun bt229 => ((rat_Quo.f a0 (⟨#[49]⟩ : ByteArray)).bind fun bt231 => ((rat_Add.f (⟨#[48]⟩ : ByteArray) a0).bind fun bt233 => ((rat_Sub.f a0 a0).bind fun bt235 => ((rat_Quo.f a0 a0).bind fun bt237 => ((rat_Neg.f a0).bind fun bt239 => ((rat_Neg.f bt239.1).bind fun bt241 => (if bt229.1.toList = a0.toList then (if bt231.1.toList = a0.toList then (if bt233.1.toList = a0.toList then (if bt235.1.toList = ([48] : List UInt8) then (if a0.toList = ([48] : List UInt8) then (if bt237.2 = 3 then (if bt241.1.toList = a0.toList then (if bt241.2 = 0 then ((tapewrightlaw03_awake.f).bind fun t243 => (some t243)) else (some false)) else (some false)) else (if bt237.1.toList = ([49] : List UInt8) then (if bt237.2 = 0 then (if bt241.1.toList = a0.toList then (if bt241.2 = 0 then ((tapewrightlaw03_awake.f).bind fun t244 => (some t244)) else (some false)) else (some false)) else (some false)) else (some false))) else (if bt237.1.toList = ([49] : List UInt8) then (if bt237.2 = 0 then (if bt241.1.toList = a0.toList then (if bt241.2 = 0 then ((tapewrightlaw03_awake.f).bind fun t245 => (some t245)) else (some false)) else (some false)) else (some false)) else (some false))) else (some false)) else (some false)) else (some false)) else (some false))))))))) = some r := by rw [if_pos rfl] at H; exact H
  clear H
  have H := H1
  clear H1
  replace H := Option.bind_eq_some_iff.mp H
  obtain ⟨⟨t229, t230⟩, A40, H⟩ := H
  replace H : ((rat_Quo.f a0 (⟨#[49]⟩ : ByteArray)).bind fun bt231 => ((rat_Add.f (⟨#[48]⟩ : ByteArray) a0).bind fun bt233 => ((rat_Sub.f a0 a0).bind fun bt235 => ((rat_Quo.f a0 a0).bind fun bt237 => ((rat_Neg.f a0).bind fun bt239 => ((rat_Neg.f bt239.1).bind fun bt241 => (if t229.toList = a0.toList then (if bt231.1.toList = a0.toList then (if bt233.1.toList = a0.toList then (if bt235.1.toList = ([48] : List UInt8) then (if a0.toList = ([48] : List UInt8) then (if bt237.2 = 3 then (if bt241.1.toList = a0.toList then (if bt241.2 = 0 then ((tapewrightlaw03_awake.f).bind fun t243 => (some t243)) else (some false)) else (some false)) else (if bt237.1.toList = ([49] : List UInt8) then (if bt237.2 = 0 then (if bt241.1.toList = a0.toList then (if bt241.2 = 0 then ((tapewrightlaw03_awake.f).bind fun t244 => (some t244)) else (some false)) else (some false)) else (some false)) else (some false))) else (if bt237.1.toList = ([49] : List UInt8) then (if bt237.2 = 0 then (if bt241.1.toList = a0.toList then (if bt241.2 = 0 then ((tapewrightlaw03_awake.f).bind fun t245 => (some t245)) else (some false)) else (some false)) else (some false)) else (some false))) else (some false)) else (some false)) else (some false)) else (some false)))))))) = some r := H
  have A4 := Aside0.mk A40
  clear A40
  replace H := Option.bind_eq_some_iff.mp H
  obtain ⟨⟨t231, t232⟩, A50, H⟩ := H
  replace H : ((rat_Add.f (⟨#[48]⟩ : ByteArray) a0).bind fun bt233 => ((rat_Sub.f a0 a0).bind fun bt235 => ((rat_Quo.f a0 a0).bind fun bt237 => ((rat_Neg.f a0).bind fun bt239 => ((rat_Neg.f bt239.1).bind fun bt241 => (if t229.toList = a0.toList then (if t231.toList = a0.toList then (if bt233.1.toList = a0.toList then (if bt235.1.toList = ([48] : List UInt8) then (if a0.toList = ([48] : List UInt8) then (if bt237.2 = 3 then (if bt241.1.toList = a0.toList then (if bt241.2 = 0 then ((tapewrightlaw03_awake.f).bind fun t243 => (some t243)) else (some false)) else (some false)) else (if bt237.1.toList = ([49] : List UInt8) then (if bt237.2 = 0 then (if bt241.1.toList = a0.toList then (if bt241.2 = 0 then ((tapewrightlaw03_awake.f).bind fun t244 => (some t244)) else (some false)) else (some false)) else (some false)) else (some false))) else (if bt237.1.toList = ([49] : List UInt8) then (if bt237.2 = 0 then (if bt241.1.toList = a0.toList then (if bt241.2 = 0 then ((tapewrightlaw03_awake.f).bind fun t245 => (some t245)) else (some false)) else (some false)) else (some false)) else (some false))) else (some false)) else (some false)) else (some false)) else (some false))))))) = some r := H
  have A5 := Aside0.mk A50
  clear A50
  replace H := Option.bind_eq_some_iff.mp H
  obtain ⟨⟨t233, t234⟩, A60, H⟩ := H
  replace H : ((rat_Sub.f a0 a0).bind fun bt235 => ((rat_Quo.f a0 a0).bind fun bt237 => ((rat_Neg.f a0).bind fun bt239 => ((rat_Neg.f bt239.1).bind fun bt241 => (if t229.toList = a0.toList then (if t231.toList = a0.toList then (if t233.toList = a0.toList then (if bt235.1.toList = ([48] : List UInt8) then (if a0.toList = ([48] : List UInt8) then (if bt237.2 = 3 then (if bt241.1.toList = a0.toList then (if bt241.2 = 0 then ((tapewrightlaw03_awake.f).bind fun t243 => (some t243)) else (some false)) else (some false)) else (if bt237.1.toList = ([49] : List UInt8) then (if bt237.2 = 0 then (if bt241.1.toList = a0.toList then (if bt241.2 = 0 then ((tapewrightlaw03_awake.f).bind fun t244 => (some t244)) else (some false)) else (some false)) else (some false)) else (some false))) else (if bt237.1.toList = ([49] : List UInt8) then (if bt237.2 = 0 then (if bt241.1.toList = a0.toList then (if bt241.2 = 0 then ((tapewrightlaw03_awake.f).bind fun t245 => (some t245)) else (some false)) else (some false)) else (some false)) else (some false))) else (some false)) else (some false)) else (some false)) else (some false)))))) = some r := H
  have A6 := Aside0.mk A60
  clear A60
  replace H := Option.bind_eq_some_iff.mp H
  obtain ⟨⟨t235, t236⟩, A70, H⟩ := H
  replace H : ((rat_Quo.f a0 a0).bind fun bt237 => ((rat_Neg.f a0).bind fun bt239 => ((rat_Neg.f bt239.1).bind fun bt241 => (if t229.toList = a0.toList then (if t231.toList = a0.toList then (if t233.toList = a0.toList then (if t235.toList = ([48] : List UInt8) then (if a0.toList = ([48] : List UInt8) then (if bt237.2 = 3 then (if bt241.1.toList = a0.toList then (if bt241.2 = 0 then ((tapewrightlaw03_awake.f).bind fun t243 => (some t243)) else (some false)) else (some false)) else (if bt237.1.toList = ([49] : List UInt8) then (if bt237.2 = 0 then (if bt241.1.toList = a0.toList then (if bt241.2 = 0 then ((tapewrightlaw03_awake.f).bind fun t244 => (some t244)) else (some false)) else (some false)) else (some false)) else (some false))) else (if bt237.1.toList = ([49] : List UInt8) then (if bt237.2 = 0 then (if bt241.1.toList = a0.toList then (if bt241.2 = 0 then ((tapewrightlaw03_awake.f).bind fun t245 => (some t245)) else (some false)) else (some false)) else (some false)) else (some false))) else (some false)) else (some false)) else (some false)) else (some false))))) = some r := H
  have A7 := Aside0.mk A70
  clear A70
  replace H := Option.bind_eq_some_iff.mp H
  obtain ⟨⟨t237, t238⟩, A80, H⟩ := H
  replace H : ((rat_Neg.f a0).bind fun bt239 => ((rat_Neg.f bt239.1).bind fun bt241 => (if t229.toList = a0.toList then (if t231.toList = a0.toList then (if t233.toList = a0.toList then (if t235.toList = ([48] : List UInt8) then (if a0.toList = ([48] : List UInt8) then (if t238 = 3 then (if bt241.1.toList = a0.toList then (if bt241.2 = 0 then ((tapewrightlaw03_awake.f).bind fun t243 => (some t243)) else (some false)) else (some false)) else (if t237.toList = ([49] : List UInt8) then (if t238 = 0 then (if bt241.1.toList = a0.toList then (if bt241.2 = 0 then ((tapewrightlaw03_awake.f).bind fun t244 => (some t244)) else (some false)) else (some false)) else (some false)) else (some false))) else (if t237.toList = ([49] : List UInt8) then (if t238 = 0 then (if bt241.1.toList = a0.toList then (if bt241.2 = 0 then ((tapewrightlaw03_awake.f).bind fun t245 => (some t245)) else (some false)) else (some false)) else (some false)) else (some false))) else (some false)) else (some false)) else (some false)) else (some false)))) = some r := H
  have A8 := Aside0.mk A80
  clear A80
  replace H := Option.bind_eq_some_iff.mp H
  obtain ⟨⟨t239, t240⟩, A90, H⟩ := H
  replace H : ((rat_Neg.f t239).bind fun bt241 => (if t229.toList = a0.toList then (if t231.toList = a0.toList then (if t233.toList = a0.toList then (if t235.toList = ([48] : List UInt8) then (if a0.toList = ([48] : List UInt8) then (if t238 = 3 then (if bt241.1.toList = a0.toList then (if bt241.2 = 0 then ((tapewrightlaw03_awake.f).bind fun t243 => (some t243)) else (some false)) else (some false)) else (if t237.toList = ([49] : List UInt8) then (if t238 = 0 then (if bt241.1.toList = a0.toList then (if bt241.2 = 0 then ((tapewrightlaw03_awake.f).bind fun t244 => (some t244)) else (some false)) else (some false)) else (some false)) else (some false))) else (if t237.toList = ([49] : List UInt8) then (if t238 = 0 then (if bt241.1.toList = a0.toList then (if bt241.2 = 0 then ((tapewrightlaw03_awake.f).bind fun t245 => (some t245)) else (some false)) else (some false)) else (some false)) else (some false))) else (some false)) else (some false)) else (some false)) else (some false))) = some r := H
  have A9 := Aside0.mk A90
  clear A90
  replace H := Option.bind_eq_some_iff.mp H
  obtain ⟨⟨t241, t242⟩, A100, H⟩ := H
  replace H : (if t229.toList = a0.toList then (if t231.toList = a0.toList then (if t233.toList = a0.toList then (if t235.toList = ([48] : List UInt8) then (if a0.toList = ([48] : List UInt8) then (if t238 = 3 then (if t241.toList = a0.toList then (if t242 = 0 then ((tapewrightlaw03_awake.f).bind fun t243 => (some t243)) else (some false)) else (some false)) else (if t237.toList = ([49] : List UInt8) then (if t238 = 0 then (if t241.toList = a0.toList then (if t242 = 0 then ((tapewrightlaw03_awake.f).bind fun t244 => (some t244)) else (some false)) else (some false)) else (some false)) else (some false))) else (if t237.toList = ([49] : List UInt8) then (if t238 = 0 then (if t241.toList = a0.toList then (if t242 = 0 then ((tapewrightlaw03_awake.f).bind fun t245 => (some t245)) else (some false)) else (some false)) else (some false)) else (some false))) else (some false)) else (some false)) else (some false)) else (some false)) = some r := H
  have A10 := Aside0.mk A100
  clear A100
  by_cases c11 : t229.toList = a0.toList
  ·
   rw [if_pos c11] at H
   have c11b0 : (t229.toList == a0.toList) = true := beq_iff_eq.mpr c11
   have c11b1 : (t229.toList != a0.toList) = false := bne_eq_false_iff_eq.mpr c11
   clear c11
   by_cases c12 : t231.toList = a0.toList
   ·
    rw [if_pos c12] at H
    have c12b0 : (t231.toList == a0.toList) = true := beq_iff_eq.mpr c12
    have c12b1 : (t231.toList != a0.toList) = false := bne_eq_false_iff_eq.mpr c12
    clear c12
    by_cases c13 : t233.toList = a0.toList
    ·
     rw [if_pos c13] at H
     have c13b0 : (t233.toList == a0.toList) = true := beq_iff_eq.mpr c13
     have c13b1 : (t233.toList != a0.toList) = false := bne_eq_false_iff_eq.mpr c13
     clear c13
     by_cases c14 : t235.toList = ([48] : List UInt8)
     ·
      rw [if_pos c14] at H
      have c14b0 : (t235.toList == ([48] : List UInt8)) = true := beq_iff_eq.mpr c14
      have c14b1 : (t235.toList != ([48] : List UInt8)) = false := bne_eq_false_iff_eq.mpr c14
      clear c14
      by_cases c15 : a0.toList = ([48] : List UInt8)
      ·
       rw [if_pos c15] at H
       have c15b0 : (a0.toList == ([48] : List UInt8)) = true := beq_iff_eq.mpr c15
       have c15b1 : (a0.toList != ([48] : List UInt8)) = false := bne_eq_false_iff_eq.mpr c15
       clear c15
       by_cases c16 : t238 = 3
       ·
        rw [if_pos c16] at H
        have c16b0 : (t238 == 3) = true := beq_iff_eq.mpr c16
        have c16b1 : (t238 != 3) = false := bne_eq_false_iff_eq.mpr c16
        clear c16
        by_cases c17 : t241.toList = a0.toList
        ·
         rw [if_pos c17] at H
         have c17b0 : (t241.toList == a0.toList) = true := beq_iff_eq.mpr c17
         have c17b1 : (t241.toList != a0.toList) = false := bne_eq_false_iff_eq.mpr c17
         clear c17
         by_cases c18 : t242 = 0
         ·
          rw [if_pos c18] at H
          have c18b0 : (t242 == 0) = true := beq_iff_eq.mpr c18
          have c18b1 : (t242 != 0) = false := bne_eq_false_iff_eq.mpr c18
          clear c18
          replace H := Option.bind_eq_some_iff.mp H
          obtain ⟨t243, A190, H⟩ := H
          replace H : (some t243) = some r := H
          have A19 := Aside0.mk A190
          clear A190
          obtain rfl := Option.some.inj H
          go_enter Tryd.func7, Tryd.ntmps7
          go_wp2_with (first | ((with_reducible refine gate_dst (N := 18) rfl ?_); refine Kd.R_lit Kd.string _ 9 ?hg (N := 18) ?hd (xs := ([a0] : List ByteArray)) (inner := [.string a0]) (ok := fun _ => True) (okp := fun _ => True) ?hr ?hp (fun _ hk => hk) trivial (Below.refl _ _) (Nat.le_refl _) (by simp) ?_; (case hd => rfl); (case hg => rfl); (case hr => exact T3_); (case hp => exact (Reps.one (show Kd.M Kd.string _ _ _ a0 [.string a0] from rfl) (Reps.none _ _))); intro v225 w20 ho21 hb hg_ hnew_; clear hg_ hnew_; (first | rw [← Ny224.out] at ho21 | (simp only [Int.reduceToNat] at ho21; rw [← Ny224.out] at ho21)); have HO226 := Aside0.mk (Kd.R_lower ho21 (below_size T1_)); replace HB := Aside0.mk (below_step T1_ hb); clear hb ho21; obtain ⟨Ao22, co22, eo22⟩ := Kd.R_slice HO226.out; subst eo22) | ((with_reducible refine gate_callee (f := 12) rfl ?_); refine goesL_ (some 19) rfl rfl Tryd.func12 (by kernel_rfl) rfl #[.slice Ao22 y224.length co22] rfl T2_ ?_; (with_reducible refine (tapewrightlaw03_right.calls k _ _ y224 true _ (Err.Gs.below HGs.out T1_) ?side1 ?side2 A2.out).mono ?_); (case side1 => exact C1_ (Kd.R_reads' HO226.out).2.2); (case side2 => exact (Kd.R_reads' HO226.out).2.1); rintro e w23 ⟨rfl, hb⟩; refine ⟨_, rfl, ?_⟩; replace HO226 := Aside0.mk (Kd.R_below (K1_ HO226) hb); replace HB := Aside0.mk (below_step T1_ hb); clear hb) | ((with_reducible refine gate_callee (f := 18) rfl ?_); refine goesL_ (some 24) rfl rfl Tryd.func18 (by kernel_rfl) rfl #[.string a0, .string (⟨#[49]⟩ : ByteArray)] rfl T2_ ?_; (with_reducible refine (rat_Mul.calls a0 (⟨#[49]⟩ : ByteArray) t229 t230 _ (Err.Gs.below HGs.out T1_) A4.out).mono ?_); rintro e w24 ⟨rfl, hb⟩; refine ⟨_, rfl, ?_⟩; replace HO226 := Aside0.mk (Kd.R_below (K1_ HO226) hb); replace HB := Aside0.mk (below_step T1_ hb); clear hb) | ((with_reducible refine gate_callee (f := 17) rfl ?_); refine goesL_ (some 29) rfl rfl Tryd.func17 (by kernel_rfl) rfl #[.string a0, .string (⟨#[49]⟩ : ByteArray)] rfl T2_ ?_; (with_reducible refine (rat_Quo.calls a0 (⟨#[49]⟩ : ByteArray) t231 t232 _ (Err.Gs.below HGs.out T1_) A5.out).mono ?_); rintro e w25 ⟨rfl, hb⟩; refine ⟨_, rfl, ?_⟩; replace HO226 := Aside0.mk (Kd.R_below (K1_ HO226) hb); replace HB := Aside0.mk (below_step T1_ hb); clear hb) | ((with_reducible refine gate_callee (f := 14) rfl ?_); refine goesL_ (some 34) rfl rfl Tryd.func14 (by kernel_rfl) rfl #[.string (⟨#[48]⟩ : ByteArray), .string a0] rfl T2_ ?_; (with_reducible refine (rat_Add.calls (⟨#[48]⟩ : ByteArray) a0 t233 t234 _ (Err.Gs.below HGs.out T1_) A6.out).mono ?_); rintro e w26 ⟨rfl, hb⟩; refine ⟨_, rfl, ?_⟩; replace HO226 := Aside0.mk (Kd.R_below (K1_ HO226) hb); replace HB := Aside0.mk (below_step T1_ hb); clear hb) | ((with_reducible refine gate_callee (f := 20) rfl ?_); refine goesL_ (some 40) rfl rfl Tryd.func20 (by kernel_rfl) rfl #[.string a0, .string a0] rfl T2_ ?_; (with_reducible refine (rat_Sub.calls a0 a0 t235 t236 _ (Err.Gs.below HGs.out T1_) A7.out).mono ?_); rintro e w27 ⟨rfl, hb⟩; refine ⟨_, rfl, ?_⟩; replace HO226 := Aside0.mk (Kd.R_below (K1_ HO226) hb); replace HB := Aside0.mk (below_step T1_ hb); clear hb) | ((with_reducible refine gate_callee (f := 17) rfl ?_); refine goesL_ (some 46) rfl rfl Tryd.func17 (by kernel_rfl) rfl #[.string a0, .string a0] rfl T2_ ?_; (with_reducible refine (rat_Quo.calls a0 a0 t237 t238 _ (Err.Gs.below HGs.out T1_) A8.out).mono ?_); rintro e w28 ⟨rfl, hb⟩; refine ⟨_, rfl, ?_⟩; replace HO226 := Aside0.mk (Kd.R_below (K1_ HO226) hb); replace HB := Aside0.mk (below_step T1_ hb); clear hb) | ((with_reducible refine gate_callee (f := 21) rfl ?_); refine goesL_ (some 51) rfl rfl Tryd.func21 (by kernel_rfl) rfl #[.string a0] rfl T2_ ?_; (with_reducible refine (rat_Neg.calls a0 t239 t240 _ (Err.Gs.below HGs.out T1_) A9.out).mono ?_); rintro e w29 ⟨rfl, hb⟩; refine ⟨_, rfl, ?_⟩; replace HO226 := Aside0.mk (Kd.R_below (K1_ HO226) hb); replace HB := Aside0.mk (below_step T1_ hb); clear hb) | ((with_reducible refine gate_callee (f := 21) rfl ?_); refine goesL_ (some 56) rfl rfl Tryd.func21 (by kernel_rfl) rfl #[.string t239] rfl T2_ ?_; (with_reducible refine (rat_Neg.calls t239 t241 t242 _ (Err.Gs.below HGs.out T1_) A10.out).mono ?_); rintro e w30 ⟨rfl, hb⟩; refine ⟨_, rfl, ?_⟩; replace HO226 := Aside0.mk (Kd.R_below (K1_ HO226) hb); replace HB := Aside0.mk (below_step T1_ hb); clear hb) | (go_at_call 13; (with_reducible refine (tapewrightlaw03_awake.calls  t243 _ (Err.Gs.below HGs.out T1_) A19.out).mono ?_); rintro e w31 ⟨rfl, hb⟩; replace HO226 := Aside0.mk (Kd.R_below (K1_ HO226) hb); replace HB := Aside0.mk (below_step T1_ hb); clear hb))
          go_ret
          exact ⟨T4_, T1_⟩
         ·
          rw [if_neg c18] at H
          have c18b0 : (t242 == 0) = false := beq_eq_false_iff_ne.mpr c18
          have c18b1 : (t242 != 0) = true := bne_iff_ne.mpr c18
          exact absurd ((Option.some.inj H).trans HRT.out) (by decide)
        ·
         rw [if_neg c17] at H
         have c17b0 : (t241.toList == a0.toList) = false := beq_eq_false_iff_ne.mpr c17
         have c17b1 : (t241.toList != a0.toList) = true := bne_iff_ne.mpr c17
         exact absurd ((Option.some.inj H).trans HRT.out) (by decide)
       ·
        rw [if_neg c16] at H
        have c16b0 : (t238 == 3) = false := beq_eq_false_iff_ne.mpr c16
        have c16b1 : (t238 != 3) = true := bne_iff_ne.mpr c16
        by_cases c32 : t237.toList = ([49] : List UInt8)
        ·
         rw [if_pos c32] at H
         have c32b0 : (t237.toList == ([49] : List UInt8)) = true := beq_iff_eq.mpr c32
         have c32b1 : (t237.toList != ([49] : List UInt8)) = false := bne_eq_false_iff_eq.mpr c32
         clear c32
         by_cases c33 : t238 = 0
         ·
          rw [if_pos c33] at H
          have c33b0 : (t238 == 0) = true := beq_iff_eq.mpr c33
          have c33b1 : (t238 != 0) = false := bne_eq_false_iff_eq.mpr c33
          clear c33
          by_cases c34 : t241.toList = a0.toList
          ·
           rw [if_pos c34] at H
           have c34b0 : (t241.toList == a0.toList) = true := beq_iff_eq.mpr c34
           have c34b1 : (t241.toList != a0.toList) = false := bne_eq_false_iff_eq.mpr c34
           clear c34
           by_cases c35 : t242 = 0
           ·
            rw [if_pos c35] at H
            have c35b0 : (t242 == 0) = true := beq_iff_eq.mpr c35
            have c35b1 : (t242 != 0) = false := bne_eq_false_iff_eq.mpr c35
            clear c35
            replace H := Option.bind_eq_some_iff.mp H
            obtain ⟨t244, A360, H⟩ := H
            replace H : (some t244) = some r := H
            have A36 := Aside0.mk A360
            clear A360
            obtain rfl := Option.some.inj H
            go_enter Tryd.func7, Tryd.ntmps7
            go_wp2_with (first | ((with_reducible refine gate_dst (N := 18) rfl ?_); refine Kd.R_lit Kd.string _ 9 ?hg (N := 18) ?hd (xs := ([a0] : List ByteArray)) (inner := [.string a0]) (ok := fun _ => True) (okp := fun _ => True) ?hr ?hp (fun _ hk => hk) trivial (Below.refl _ _) (Nat.le_refl _) (by simp) ?_; (case hd => rfl); (case hg => rfl); (case hr => exact T3_); (case hp => exact (Reps.one (show Kd.M Kd.string _ _ _ a0 [.string a0] from rfl) (Reps.none _ _))); intro v225 w37 ho38 hb hg_ hnew_; clear hg_ hnew_; (first | rw [← Ny224.out] at ho38 | (simp only [Int.reduceToNat] at ho38; rw [← Ny224.out] at ho38)); have HO226 := Aside0.mk (Kd.R_lower ho38 (below_size T1_)); replace HB := Aside0.mk (below_step T1_ hb); clear hb ho38; obtain ⟨Ao39, co39, eo39⟩ := Kd.R_slice HO226.out; subst eo39) | ((with_reducible refine gate_callee (f := 12) rfl ?_); refine goesL_ (some 19) rfl rfl Tryd.func12 (by kernel_rfl) rfl #[.slice Ao39 y224.length co39] rfl T2_ ?_; (with_reducible refine (tapewrightlaw03_right.calls k _ _ y224 true _ (Err.Gs.below HGs.out T1_) ?side1 ?side2 A2.out).mono ?_); (case side1 => exact C1_ (Kd.R_reads' HO226.out).2.2); (case side2 => exact (Kd.R_reads' HO226.out).2.1); rintro e w40 ⟨rfl, hb⟩; refine ⟨_, rfl, ?_⟩; replace HO226 := Aside0.mk (Kd.R_below (K1_ HO226) hb); replace HB := Aside0.mk (below_step T1_ hb); clear hb) | ((with_reducible refine gate_callee (f := 18) rfl ?_); refine goesL_ (some 24) rfl rfl Tryd.func18 (by kernel_rfl) rfl #[.string a0, .string (⟨#[49]⟩ : ByteArray)] rfl T2_ ?_; (with_reducible refine (rat_Mul.calls a0 (⟨#[49]⟩ : ByteArray) t229 t230 _ (Err.Gs.below HGs.out T1_) A4.out).mono ?_); rintro e w41 ⟨rfl, hb⟩; refine ⟨_, rfl, ?_⟩; replace HO226 := Aside0.mk (Kd.R_below (K1_ HO226) hb); replace HB := Aside0.mk (below_step T1_ hb); clear hb) | ((with_reducible refine gate_callee (f := 17) rfl ?_); refine goesL_ (some 29) rfl rfl Tryd.func17 (by kernel_rfl) rfl #[.string a0, .string (⟨#[49]⟩ : ByteArray)] rfl T2_ ?_; (with_reducible refine (rat_Quo.calls a0 (⟨#[49]⟩ : ByteArray) t231 t232 _ (Err.Gs.below HGs.out T1_) A5.out).mono ?_); rintro e w42 ⟨rfl, hb⟩; refine ⟨_, rfl, ?_⟩; replace HO226 := Aside0.mk (Kd.R_below (K1_ HO226) hb); replace HB := Aside0.mk (below_step T1_ hb); clear hb) | ((with_reducible refine gate_callee (f := 14) rfl ?_); refine goesL_ (some 34) rfl rfl Tryd.func14 (by kernel_rfl) rfl #[.string (⟨#[48]⟩ : ByteArray), .string a0] rfl T2_ ?_; (with_reducible refine (rat_Add.calls (⟨#[48]⟩ : ByteArray) a0 t233 t234 _ (Err.Gs.below HGs.out T1_) A6.out).mono ?_); rintro e w43 ⟨rfl, hb⟩; refine ⟨_, rfl, ?_⟩; replace HO226 := Aside0.mk (Kd.R_below (K1_ HO226) hb); replace HB := Aside0.mk (below_step T1_ hb); clear hb) | ((with_reducible refine gate_callee (f := 20) rfl ?_); refine goesL_ (some 40) rfl rfl Tryd.func20 (by kernel_rfl) rfl #[.string a0, .string a0] rfl T2_ ?_; (with_reducible refine (rat_Sub.calls a0 a0 t235 t236 _ (Err.Gs.below HGs.out T1_) A7.out).mono ?_); rintro e w44 ⟨rfl, hb⟩; refine ⟨_, rfl, ?_⟩; replace HO226 := Aside0.mk (Kd.R_below (K1_ HO226) hb); replace HB := Aside0.mk (below_step T1_ hb); clear hb) | ((with_reducible refine gate_callee (f := 17) rfl ?_); refine goesL_ (some 46) rfl rfl Tryd.func17 (by kernel_rfl) rfl #[.string a0, .string a0] rfl T2_ ?_; (with_reducible refine (rat_Quo.calls a0 a0 t237 t238 _ (Err.Gs.below HGs.out T1_) A8.out).mono ?_); rintro e w45 ⟨rfl, hb⟩; refine ⟨_, rfl, ?_⟩; replace HO226 := Aside0.mk (Kd.R_below (K1_ HO226) hb); replace HB := Aside0.mk (below_step T1_ hb); clear hb) | ((with_reducible refine gate_callee (f := 21) rfl ?_); refine goesL_ (some 51) rfl rfl Tryd.func21 (by kernel_rfl) rfl #[.string a0] rfl T2_ ?_; (with_reducible refine (rat_Neg.calls a0 t239 t240 _ (Err.Gs.below HGs.out T1_) A9.out).mono ?_); rintro e w46 ⟨rfl, hb⟩; refine ⟨_, rfl, ?_⟩; replace HO226 := Aside0.mk (Kd.R_below (K1_ HO226) hb); replace HB := Aside0.mk (below_step T1_ hb); clear hb) | ((with_reducible refine gate_callee (f := 21) rfl ?_); refine goesL_ (some 56) rfl rfl Tryd.func21 (by kernel_rfl) rfl #[.string t239] rfl T2_ ?_; (with_reducible refine (rat_Neg.calls t239 t241 t242 _ (Err.Gs.below HGs.out T1_) A10.out).mono ?_); rintro e w47 ⟨rfl, hb⟩; refine ⟨_, rfl, ?_⟩; replace HO226 := Aside0.mk (Kd.R_below (K1_ HO226) hb); replace HB := Aside0.mk (below_step T1_ hb); clear hb) | (go_at_call 13; (with_reducible refine (tapewrightlaw03_awake.calls  t244 _ (Err.Gs.below HGs.out T1_) A36.out).mono ?_); rintro e w48 ⟨rfl, hb⟩; replace HO226 := Aside0.mk (Kd.R_below (K1_ HO226) hb); replace HB := Aside0.mk (below_step T1_ hb); clear hb))
            go_ret
            exact ⟨T4_, T1_⟩
           ·
            rw [if_neg c35] at H
            have c35b0 : (t242 == 0) = false := beq_eq_false_iff_ne.mpr c35
            have c35b1 : (t242 != 0) = true := bne_iff_ne.mpr c35
            exact absurd ((Option.some.inj H).trans HRT.out) (by decide)
          ·
           rw [if_neg c34] at H
           have c34b0 : (t241.toList == a0.toList) = false := beq_eq_false_iff_ne.mpr c34
           have c34b1 : (t241.toList != a0.toList) = true := bne_iff_ne.mpr c34
           exact absurd ((Option.some.inj H).trans HRT.out) (by decide)
         ·
          rw [if_neg c33] at H
          have c33b0 : (t238 == 0) = false := beq_eq_false_iff_ne.mpr c33
          have c33b1 : (t238 != 0) = true := bne_iff_ne.mpr c33
          exact absurd ((Option.some.inj H).trans HRT.out) (by decide)
        ·
         rw [if_neg c32] at H
         have c32b0 : (t237.toList == ([49] : List UInt8)) = false := beq_eq_false_iff_ne.mpr c32
         have c32b1 : (t237.toList != ([49] : List UInt8)) = true := bne_iff_ne.mpr c32
         exact absurd ((Option.some.inj H).trans HRT.out) (by decide)
      ·
       rw [if_neg c15] at H
       have c15b0 : (a0.toList == ([48] : List UInt8)) = false := beq_eq_false_iff_ne.mpr c15
       have c15b1 : (a0.toList != ([48] : List UInt8)) = true := bne_iff_ne.mpr c15
       by_cases c49 : t237.toList = ([49] : List UInt8)
       ·
        rw [if_pos c49] at H
        have c49b0 : (t237.toList == ([49] : List UInt8)) = true := beq_iff_eq.mpr c49
        have c49b1 : (t237.toList != ([49] : List UInt8)) = false := bne_eq_false_iff_eq.mpr c49
        clear c49
        by_cases c50 : t238 = 0
        ·
         rw [if_pos c50] at H
         have c50b0 : (t238 == 0) = true := beq_iff_eq.mpr c50
         have c50b1 : (t238 != 0) = false := bne_eq_false_iff_eq.mpr c50
         clear c50
         by_cases c51 : t241.toList = a0.toList
         ·
          rw [if_pos c51] at H
          have c51b0 : (t241.toList == a0.toList) = true := beq_iff_eq.mpr c51
          have c51b1 : (t241.toList != a0.toList) = false := bne_eq_false_iff_eq.mpr c51
          clear c51
          by_cases c52 : t242 = 0
          ·
           rw [if_pos c52] at H
           have c52b0 : (t242 == 0) = true := beq_iff_eq.mpr c52
           have c52b1 : (t242 != 0) = false := bne_eq_false_iff_eq.mpr c52
           clear c52
           replace H := Option.bind_eq_some_iff.mp H
           obtain ⟨t245, A530, H⟩ := H
           replace H : (some t245) = some r := H
           have A53 := Aside0.mk A530
           clear A530
           obtain rfl := Option.some.inj H
           go_enter Tryd.func7, Tryd.ntmps7
           go_wp2_with (first | ((with_reducible refine gate_dst (N := 18) rfl ?_); refine Kd.R_lit Kd.string _ 9 ?hg (N := 18) ?hd (xs := ([a0] : List ByteArray)) (inner := [.string a0]) (ok := fun _ => True) (okp := fun _ => True) ?hr ?hp (fun _ hk => hk) trivial (Below.refl _ _) (Nat.le_refl _) (by simp) ?_; (case hd => rfl); (case hg => rfl); (case hr => exact T3_); (case hp => exact (Reps.one (show Kd.M Kd.string _ _ _ a0 [.string a0] from rfl) (Reps.none _ _))); intro v225 w54 ho55 hb hg_ hnew_; clear hg_ hnew_; (first | rw [← Ny224.out] at ho55 | (simp only [Int.reduceToNat] at ho55; rw [← Ny224.out] at ho55)); have HO226 := Aside0.mk (Kd.R_lower ho55 (below_size T1_)); replace HB := Aside0.mk (below_step T1_ hb); clear hb ho55; obtain ⟨Ao56, co56, eo56⟩ := Kd.R_slice HO226.out; subst eo56) | ((with_reducible refine gate_callee (f := 12) rfl ?_); refine goesL_ (some 19) rfl rfl Tryd.func12 (by kernel_rfl) rfl #[.slice Ao56 y224.length co56] rfl T2_ ?_; (with_reducible refine (tapewrightlaw03_right.calls k _ _ y224 true _ (Err.Gs.below HGs.out T1_) ?side1 ?side2 A2.out).mono ?_); (case side1 => exact C1_ (Kd.R_reads' HO226.out).2.2); (case side2 => exact (Kd.R_reads' HO226.out).2.1); rintro e w57 ⟨rfl, hb⟩; refine ⟨_, rfl, ?_⟩; replace HO226 := Aside0.mk (Kd.R_below (K1_ HO226) hb); replace HB := Aside0.mk (below_step T1_ hb); clear hb) | ((with_reducible refine gate_callee (f := 18) rfl ?_); refine goesL_ (some 24) rfl rfl Tryd.func18 (by kernel_rfl) rfl #[.string a0, .string (⟨#[49]⟩ : ByteArray)] rfl T2_ ?_; (with_reducible refine (rat_Mul.calls a0 (⟨#[49]⟩ : ByteArray) t229 t230 _ (Err.Gs.below HGs.out T1_) A4.out).mono ?_); rintro e w58 ⟨rfl, hb⟩; refine ⟨_, rfl, ?_⟩; replace HO226 := Aside0.mk (Kd.R_below (K1_ HO226) hb); replace HB := Aside0.mk (below_step T1_ hb); clear hb) | ((with_reducible refine gate_callee (f := 17) rfl ?_); refine goesL_ (some 29) rfl rfl Tryd.func17 (by kernel_rfl) rfl #[.string a0, .string (⟨#[49]⟩ : ByteArray)] rfl T2_ ?_; (with_reducible refine (rat_Quo.calls a0 (⟨#[49]⟩ : ByteArray) t231 t232 _ (Err.Gs.below HGs.out T1_) A5.out).mono ?_); rintro e w59 ⟨rfl, hb⟩; refine ⟨_, rfl, ?_⟩; replace HO226 := Aside0.mk (Kd.R_below (K1_ HO226) hb); replace HB := Aside0.mk (below_step T1_ hb); clear hb) | ((with_reducible refine gate_callee (f := 14) rfl ?_); refine goesL_ (some 34) rfl rfl Tryd.func14 (by kernel_rfl) rfl #[.string (⟨#[48]⟩ : ByteArray), .string a0] rfl T2_ ?_; (with_reducible refine (rat_Add.calls (⟨#[48]⟩ : ByteArray) a0 t233 t234 _ (Err.Gs.below HGs.out T1_) A6.out).mono ?_); rintro e w60 ⟨rfl, hb⟩; refine ⟨_, rfl, ?_⟩; replace HO226 := Aside0.mk (Kd.R_below (K1_ HO226) hb); replace HB := Aside0.mk (below_step T1_ hb); clear hb) | ((with_reducible refine gate_callee (f := 20) rfl ?_); refine goesL_ (some 40) rfl rfl Tryd.func20 (by kernel_rfl) rfl #[.string a0, .string a0] rfl T2_ ?_; (with_reducible refine (rat_Sub.calls a0 a0 t235 t236 _ (Err.Gs.below HGs.out T1_) A7.out).mono ?_); rintro e w61 ⟨rfl, hb⟩; refine ⟨_, rfl, ?_⟩; replace HO226 := Aside0.mk (Kd.R_below (K1_ HO226) hb); replace HB := Aside0.mk (below_step T1_ hb); clear hb) | ((with_reducible refine gate_callee (f := 17) rfl ?_); refine goesL_ (some 46) rfl rfl Tryd.func17 (by kernel_rfl) rfl #[.string a0, .string a0] rfl T2_ ?_; (with_reducible refine (rat_Quo.calls a0 a0 t237 t238 _ (Err.Gs.below HGs.out T1_) A8.out).mono ?_); rintro e w62 ⟨rfl, hb⟩; refine ⟨_, rfl, ?_⟩; replace HO226 := Aside0.mk (Kd.R_below (K1_ HO226) hb); replace HB := Aside0.mk (below_step T1_ hb); clear hb) | ((with_reducible refine gate_callee (f := 21) rfl ?_); refine goesL_ (some 51) rfl rfl Tryd.func21 (by kernel_rfl) rfl #[.string a0] rfl T2_ ?_; (with_reducible refine (rat_Neg.calls a0 t239 t240 _ (Err.Gs.below HGs.out T1_) A9.out).mono ?_); rintro e w63 ⟨rfl, hb⟩; refine ⟨_, rfl, ?_⟩; replace HO226 := Aside0.mk (Kd.R_below (K1_ HO226) hb); replace HB := Aside0.mk (below_step T1_ hb); clear hb) | ((with_reducible refine gate_callee (f := 21) rfl ?_); refine goesL_ (some 56) rfl rfl Tryd.func21 (by kernel_rfl) rfl #[.string t239] rfl T2_ ?_; (with_reducible refine (rat_Neg.calls t239 t241 t242 _ (Err.Gs.below HGs.out T1_) A10.out).mono ?_); rintro e w64 ⟨rfl, hb⟩; refine ⟨_, rfl, ?_⟩; replace HO226 := Aside0.mk (Kd.R_below (K1_ HO226) hb); replace HB := Aside0.mk (below_step T1_ hb); clear hb) | (go_at_call 13; (with_reducible refine (tapewrightlaw03_awake.calls  t245 _ (Err.Gs.below HGs.out T1_) A53.out).mono ?_); rintro e w65 ⟨rfl, hb⟩; replace HO226 := Aside0.mk (Kd.R_below (K1_ HO226) hb); replace HB := Aside0.mk (below_step T1_ hb); clear hb))
           go_ret
           exact ⟨T4_, T1_⟩
          ·
           rw [if_neg c52] at H
           have c52b0 : (t242 == 0) = false := beq_eq_false_iff_ne.mpr c52
           have c52b1 : (t242 != 0) = true := bne_iff_ne.mpr c52
           exact absurd ((Option.some.inj H).trans HRT.out) (by decide)
         ·
          rw [if_neg c51] at H
          have c51b0 : (t241.toList == a0.toList) = false := beq_eq_false_iff_ne.mpr c51
          have c51b1 : (t241.toList != a0.toList) = true := bne_iff_ne.mpr c51
          exact absurd ((Option.some.inj H).trans HRT.out) (by decide)
        ·
         rw [if_neg c50] at H
         have c50b0 : (t238 == 0) = false := beq_eq_false_iff_ne.mpr c50
         have c50b1 : (t238 != 0) = true := bne_iff_ne.mpr c50
         exact absurd ((Option.some.inj H).trans HRT.out) (by decide)
       ·
        rw [if_neg c49] at H
        have c49b0 : (t237.toList == ([49] : List UInt8)) = false := beq_eq_false_iff_ne.mpr c49
        have c49b1 : (t237.toList != ([49] : List UInt8)) = true := bne_iff_ne.mpr c49
        exact absurd ((Option.some.inj H).trans HRT.out) (by decide)
     ·
      rw [if_neg c14] at H
      have c14b0 : (t235.toList == ([48] : List UInt8)) = false := beq_eq_false_iff_ne.mpr c14
      have c14b1 : (t235.toList != ([48] : List UInt8)) = true := bne_iff_ne.mpr c14
      exact absurd ((Option.some.inj H).trans HRT.out) (by decide)
    ·
     rw [if_neg c13] at H
     have c13b0 : (t233.toList == a0.toList) = false := beq_eq_false_iff_ne.mpr c13
     have c13b1 : (t233.toList != a0.toList) = true := bne_iff_ne.mpr c13
     exact absurd ((Option.some.inj H).trans HRT.out) (by decide)
   ·
    rw [if_neg c12] at H
    have c12b0 : (t231.toList == a0.toList) = false := beq_eq_false_iff_ne.mpr c12
    have c12b1 : (t231.toList != a0.toList) = true := bne_iff_ne.mpr c12
    exact absurd ((Option.some.inj H).trans HRT.out) (by decide)
  ·
   rw [if_neg c11] at H
   have c11b0 : (t229.toList == a0.toList) = false := beq_eq_false_iff_ne.mpr c11
   have c11b1 : (t229.toList != a0.toList) = true := bne_iff_ne.mpr c11
   exact absurd ((Option.some.inj H).trans HRT.out) (by decide)
 ·
  replace c3 := Bool.eq_false_iff.mpr c3
  subst c3
  have H1 : ((tapewrightlaw03_awake.f).bind fun t228 => (some t228)) = some r := by rw [if_neg (show ¬ (false = true) by decide)] at H; exact H
  clear H
  have H := H1
  clear H1
  replace H := Option.bind_eq_some_iff.mp H
  obtain ⟨t228, A660, H⟩ := H
  replace H : (some t228) = some r := H
  have A66 := Aside0.mk A660
  clear A660
  obtain rfl := Option.some.inj H
  go_enter Tryd.func7, Tryd.ntmps7
  go_wp2_with (first | ((with_reducible refine gate_dst (N := 18) rfl ?_); refine Kd.R_lit Kd.string _ 9 ?hg (N := 18) ?hd (xs := ([a0] : List ByteArray)) (inner := [.string a0]) (ok := fun _ => True) (okp := fun _ => True) ?hr ?hp (fun _ hk => hk) trivial (Below.refl _ _) (Nat.le_refl _) (by simp) ?_; (case hd => rfl); (case hg => rfl); (case hr => exact T3_); (case hp => exact (Reps.one (show Kd.M Kd.string _ _ _ a0 [.string a0] from rfl) (Reps.none _ _))); intro v225 w67 ho68 hb hg_ hnew_; clear hg_ hnew_; (first | rw [← Ny224.out] at ho68 | (simp only [Int.reduceToNat] at ho68; rw [← Ny224.out] at ho68)); have HO226 := Aside0.mk (Kd.R_lower ho68 (below_size T1_)); replace HB := Aside0.mk (below_step T1_ hb); clear hb ho68; obtain ⟨Ao69, co69, eo69⟩ := Kd.R_slice HO226.out; subst eo69) | ((with_reducible refine gate_callee (f := 12) rfl ?_); refine goesL_ (some 19) rfl rfl Tryd.func12 (by kernel_rfl) rfl #[.slice Ao69 y224.length co69] rfl T2_ ?_; (with_reducible refine (tapewrightlaw03_right.calls k _ _ y224 false _ (Err.Gs.below HGs.out T1_) ?side1 ?side2 A2.out).mono ?_); (case side1 => exact C1_ (Kd.R_reads' HO226.out).2.2); (case side2 => exact (Kd.R_reads' HO226.out).2.1); rintro e w70 ⟨rfl, hb⟩; refine ⟨_, rfl, ?_⟩; replace HO226 := Aside0.mk (Kd.R_below (K1_ HO226) hb); replace HB := Aside0.mk (below_step T1_ hb); clear hb) | ((with_reducible refine gate_callee (f := 13) rfl ?_); refine goesL_ (some 21) rfl rfl Tryd.func13 (by kernel_rfl) rfl #[] rfl T2_ ?_; (with_reducible refine (tapewrightlaw03_awake.calls  t228 _ (Err.Gs.below HGs.out T1_) A66.out).mono ?_); rintro e w71 ⟨rfl, hb⟩; refine ⟨_, rfl, ?_⟩; replace HO226 := Aside0.mk (Kd.R_below (K1_ HO226) hb); replace HB := Aside0.mk (below_step T1_ hb); clear hb))
  go_ret
  exact ⟨T4_, T1_⟩

/-- THE ONE PURE STATEMENT of tapewrightlaw03_RatUnits: yours. -/
def tapewrightlaw03_RatUnits.Pure : Prop := ∀ (a0 : ByteArray), a0.size ≤ 140737488351232 → ∃ k, tapewrightlaw03_RatUnits.f k a0 = some true
theorem tapewrightlaw03_RatUnits.walk (P : tapewrightlaw03_RatUnits.Pure) (a0 : ByteArray) (w : World) (hG : Err.Gs w) (w0 : a0.size ≤ 140737488351232) :
  Calls Tryd.prog 7 #[.string a0] w fun e w' => e = .returned (.bool true) ∧ Below w.heap.size w w' := by
 obtain ⟨k, h⟩ := P a0 w0
 refine (tapewrightlaw03_RatUnits.calls k a0 true w hG rfl h).mono ?_
 rintro e w' ⟨rfl, hd⟩
 exact ⟨rfl, hd⟩

end Go.Proofs.YtfjlmiehbikmnaaDoor.PQ
