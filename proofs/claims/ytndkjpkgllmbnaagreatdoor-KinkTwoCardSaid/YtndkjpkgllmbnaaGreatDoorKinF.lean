/- kink.Flat: is one 0? -/
import Derived.Test.YtndkjpkgllmbnaaGreatDoorPIx
-- mini
namespace Go.Proofs.YtndkjpkgllmbnaaGreatDoor.Ten
open Go Go.RowKit Go.ZPWords Go.ZPMore Go.ZPLast Go.Proofs.YtndkjpkgllmbnaaGreatDoor.PI Go.Proofs.YtndkjpkgllmbnaaGreatDoor.Th Go.Proofs.YtndkjpkgllmbnaaGreatDoor.Th.Wh Go.Proofs.YtndkjpkgllmbnaaGreatDoor.Err
set_option linter.unusedVariables false
open Classical in
theorem flat_f (s : List Int) (d : List ByteArray) (h : Sm s d) : kink_Flat.f s d = some (tFlat ⟨s, d⟩) := by
  rw [kink_Flat.f, tensor_Right.of _ _ h, Option.bind_some];unfold tFlat
  by_cases ht : tRight ⟨s, d⟩ = true
  · rw [if_pos ht, if_pos ht, slices_Contains_string_string.of _ _ h.2.1, Option.bind_some]
  · rw [if_neg ht, if_neg ht]
theorem flat_calls (A0 : Option Addr) (c0 : Nat) (A1 : Option Addr) (c1 : Nat) (s : List Int) (d : List ByteArray) (w : World) (hG : Gs w) (hr0 : Kd.C (Kd.int .i64) w A0 s.length s) (hc0 : s.length ≤ c0) (hr1 : Kd.C Kd.string w A1 d.length d) (hc1 : d.length ≤ c1) (h : Sm s d) :
    Calls Tryz.prog 23 #[.agg #[.slice A0 s.length c0, .slice A1 d.length c1]] w fun e w' => e = .returned (.tuple #[.bool (tFlat ⟨s, d⟩).1, .int .i64 (tFlat ⟨s, d⟩).2]) ∧ Below w.heap.size w w' :=
  kink_Flat.calls A0 c0 s A1 c1 d _ _ w hG hr0 hc0 hr1 hc1 (flat_f s d h)
end Go.Proofs.YtndkjpkgllmbnaaGreatDoor.Ten
