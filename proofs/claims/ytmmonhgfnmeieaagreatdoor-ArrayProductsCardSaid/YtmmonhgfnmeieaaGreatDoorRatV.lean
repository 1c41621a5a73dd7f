/- Words over rationals for what is printed above. -/
import Derived.Test.YtmmonhgfnmeieaaGreatDoorRatMr
-- mini
namespace Go.Proofs.YtmmonhgfnmeieaaGreatDoor.Err
open Go Go.RowKit Go.ZPWords Go.Proofs.YtmmonhgfnmeieaaGreatDoor.PC Go.Proofs.YtmmonhgfnmeieaaGreatDoor.Th Go.Proofs.YtmmonhgfnmeieaaGreatDoor.Th.Wh
/-- Fit: of at most 10^9 digits. -/
def Fr (x : Rat) : Prop := qm x ≤ 1000000000
theorem Fr.size {x : Rat} (h : Fr x) : (rt x).size ≤ 40000000000 := by
  have := size_rt x;unfold Fr at h
  omega
theorem Fr.size' {x : Rat} (h : Fr x) : (rt x).size ≤ 3000000000 := by
  have := size_rt x;unfold Fr at h
  omega
theorem fr {x : Rat} {d : Nat} (h : qm x ≤ d) (hd : d ≤ 1000000000 := by decide) : Fr x := Nat.le_trans h hd
theorem rt_0 : rt 0 = (⟨#[48]⟩ : ByteArray) := by rw [rt_one rfl]; exact (zt_nat 0).trans (txt_small 0 (by decide))
theorem rt_1 : rt 1 = (⟨#[49]⟩ : ByteArray) := by rw [rt_one rfl]; exact zt_one.trans one49.symm
theorem rRight_rt (x : Rat) : rRight (rt x) = true := by rw [rRight, rv_rt]; rfl
theorem right_some {s : ByteArray} (h : rRight s = true) : ∃ x, s = rt x := by
 rcases rv_cases s with h' | ⟨x, hx, _⟩
 · rw [rRight, h'] at h; cases h
 exact ⟨x, hx⟩
theorem qa {x y : Rat} {d e : Nat} (hx : qm x ≤ d) (hy : qm y ≤ e) : qm (x + y) ≤ d + e + 1 := by have := qm_add x y; omega
theorem qx {x y : Rat} {d e : Nat} (hx : qm x ≤ d) (hy : qm y ≤ e) : qm (x * y) ≤ d + e := by have := qm_mul x y; omega
end Go.Proofs.YtmmonhgfnmeieaaGreatDoor.Err
