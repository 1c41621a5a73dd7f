/- Tensors: what their functions answer, as functions of what lies in memory. -/
import Derived.Test.YtmmonhgfnmeieaaGreatDoorTenA
import Derived.Test.YtmmonhgfnmeieaaGreatDoorRatOa
import Derived.Test.YtmmonhgfnmeieaaGreatDoorRatOs
import Derived.Test.YtmmonhgfnmeieaaGreatDoorRatOm
-- mini
namespace Go.Proofs.YtmmonhgfnmeieaaGreatDoor.Ten
open Go Go.RowKit Go.ZPWords Go.ZPMore Go.ZPLast Go.Proofs.YtmmonhgfnmeieaaGreatDoor.PC Go.Proofs.YtmmonhgfnmeieaaGreatDoor.Th Go.Proofs.YtmmonhgfnmeieaaGreatDoor.Th.Wh Go.Proofs.YtmmonhgfnmeieaaGreatDoor.Err
set_option linter.unusedVariables false
/-- Short enough for the walks. -/
def Sm (s : List Int) (d : List ByteArray) : Prop := s.length ≤ 1000 ∧ d.length ≤ 1000 ∧ ∀ x ∈ d, x.size ≤ 3000000000
theorem Sm.big {s : List Int} {d : List ByteArray} (h : Sm s d) : ∀ x ∈ d, x.size ≤ 40000000000 := fun x hx => Nat.le_trans (h.2.2 x hx) (by decide)
def nilT : TV := ⟨[], []⟩
theorem tRight_all {t : TV} (h : tRight t = true) : ∀ x ∈ t.d, rRight x = true := by
  unfold tRight at h;rw [Bool.and_eq_true, Bool.not_eq_true'] at h;intro x hx;have h2 := h.2;rw [List.any_eq_false] at h2;have := h2 x hx;unfold nr at this
  simpa using this
theorem tRight_sh {t : TV} (h : tRight t = true) : shOk t.s = true ∧ (t.d.length : Int) = sz t.s := by
  unfold tRight at h;rw [Bool.and_eq_true, Bool.and_eq_true, beq_iff_eq] at h;refine ⟨h.1.1, ?_⟩;rw [h.1.2, size, if_pos h.1.1]
noncomputable def tFill (s : List Int) (k : ByteArray) : TV × Int := if shOk s = true then if rRight k = true then (⟨s, List.replicate (size s).toNat k⟩, 0) else (nilT, 1) else (nilT, 1)
noncomputable def accS (d : List ByteArray) : ByteArray := d.foldl (fun a x => (rAdd a x).1) ⟨#[48]⟩
noncomputable def tSum (t : TV) : ByteArray × Int := if tRight t = true then (accS t.d, 0) else (⟨#[]⟩, 1)
/-- What a function that hands back a tensor and a number leaves. -/
def Res (w : World) (r : TV × Int) (e : Ending) (w' : World) : Prop := ∃ v0_ v1_ : Value, e = .returned (.tuple #[.agg #[v0_, v1_], .int .i64 r.2]) ∧ Kd.R (Kd.int .i64) 3 w' w.heap.size (fun _ => True) v0_ r.1.s ∧ Kd.R Kd.string 9 w' w.heap.size (fun _ => True) v1_ r.1.d ∧ Below w.heap.size w w'
end Go.Proofs.YtmmonhgfnmeieaaGreatDoor.Ten
