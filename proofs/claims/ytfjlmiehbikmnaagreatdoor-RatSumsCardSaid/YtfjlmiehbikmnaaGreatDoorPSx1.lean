-- by wip/tool/mine.py of this repo (the kit's printer with given contracts)
import Derived.Test.YtfjlmiehbikmnaaGreatDoorPSx0
namespace Go.Proofs.YtfjlmiehbikmnaaGreatDoor.PS
open Go.RowKit Go.Proofs.YtfjlmiehbikmnaaGreatDoorW.PrintWords Go.Proofs.YtfjlmiehbikmnaaGreatDoorW.PrintLast Go.Proofs.YtfjlmiehbikmnaaGreatDoorW.PrintMore
attribute [local go_sem] max2_int min2_int max_two min_two max_three min_three max_four min_four   -- for this text's walks alone
set_option linter.unusedVariables false
set_option linter.unusedSimpArgs false

/-! ### tapewrightref02_Right: function 6 -/
noncomputable def tapewrightref02_Right.f (a0 : ByteArray) : Option (Bool) := PB.tapewrightref02_Right.f a0
theorem tapewrightref02_Right.calls (a0 : ByteArray) (r : Bool) (w : World) (h : tapewrightref02_Right.f a0 = some r) :
  Calls Tryz.prog 6 #[.string a0] w fun e w' => e = .returned (.bool r) ∧ Drawn0 w w' := PB.tapewrightref02_Right.calls a0 r w h
theorem tapewrightref02_Right.of {a : ByteArray} (h : a.size ≤ 140737488351232) : tapewrightref02_Right.f a = some (Th.Wh.right a) := Th.Wh.rright_spec a h
/-! ### tapewrightref03_Text: function 15 -/
noncomputable def tapewrightref03_Text.f (a0_0 : ByteArray) (a0_1 : ByteArray) : Option (ByteArray) := if a0_0.size + a0_1.size ≤ 1000000000000 then some (if (a0_1.toList == ([49] : List UInt8)) = true then a0_0 else a0_0 ++ (⟨#[47]⟩ : ByteArray) ++ a0_1) else none
theorem tapewrightref03_Text.calls (a0_0 : ByteArray) (a0_1 : ByteArray) (r : ByteArray) (w : World) (h : tapewrightref03_Text.f a0_0 a0_1 = some r) :
  Calls Tryz.prog 15 #[.agg #[.string a0_0, .string a0_1]] w fun e w' => e = .returned (.string r) ∧ Below w.heap.size w w' := by
 unfold tapewrightref03_Text.f at h
 by_cases c : a0_0.size + a0_1.size ≤ 1000000000000
 ·
  rw [if_pos c] at h
  injection h with h
  subst h
  have hs : (a0_0 ++ (⟨#[47]⟩ : ByteArray)).size = a0_0.size + 1 := by rw [ByteArray.size_append]; rfl
  exact Err.text3 a0_0 a0_1 _ w rfl (by omega) (by omega)
 ·
  rw [if_neg c] at h
  cases h
theorem tapewrightref03_Text.rt (x : Rat) (h : Err.qm x ≤ 100000000000) : tapewrightref03_Text.f (Th.Wh.zt x.num) (Th.txt x.den) = some (Err.rt x) := by
 have h1 := (Th.Wh.zs_le x.num).2
 have h2 := Err.qm_num x
 have h3 := Err.qm_den x
 rw [tapewrightref03_Text.f, if_pos (by omega)]
 by_cases hd : x.den = 1
 ·
  rw [if_pos (by rw [beq_iff_eq]; exact Err.toList49.2 hd), Err.rt_one hd]
 ·
  rw [if_neg (by rw [beq_iff_eq]; exact fun e => hd (Err.toList49.1 e)), Err.rt_frac hd]
/-! ### tapewrightref03_Lowest: function 19 -/
noncomputable def tapewrightref03_Lowest.f (a0 : ByteArray) (a1 : ByteArray) : Option (ByteArray × ByteArray) := Err.rLowest a0 a1
theorem tapewrightref03_Lowest.calls (a0 : ByteArray) (a1 : ByteArray) (r1 : ByteArray) (r2 : ByteArray) (w : World) (h : tapewrightref03_Lowest.f a0 a1 = some (r1, r2)) :
  Calls Tryz.prog 19 #[.string a0, .string a1] w fun e w' => e = .returned (.agg #[.string r1, .string r2]) ∧ Below w.heap.size w w' := Err.rLowest_calls a0 a1 r1 r2 w h
/-! ### tapewrightref01_Right: function 26 -/
noncomputable def tapewrightref01_Right.f (a0 : ByteArray) : Option Bool := if a0.size ≤ 140737488351232 then some (Str.right a0) else none
theorem tapewrightref01_Right.calls (a0 : ByteArray) (r : Bool) (w : World) (h : tapewrightref01_Right.f a0 = some r) :
  Calls Tryz.prog 26 #[.string a0] w fun e w' => e = .returned (.bool r) ∧ Drawn0 w w' := by
 unfold tapewrightref01_Right.f at h
 by_cases c : a0.size ≤ 140737488351232
 ·
  rw [if_pos c] at h
  obtain ⟨k, hk⟩ := (Th.Ref.right_spec a0 c).rounds
  exact PR.tapewrightref01_Right.calls k a0 r w (hk.trans h)
 ·
  rw [if_neg c] at h
  cases h
end Go.Proofs.YtfjlmiehbikmnaaGreatDoor.PS
