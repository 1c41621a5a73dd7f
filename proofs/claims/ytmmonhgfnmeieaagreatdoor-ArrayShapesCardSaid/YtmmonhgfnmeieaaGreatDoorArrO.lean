/- array.Total: what it answers. -/
import Derived.Test.YtmmonhgfnmeieaaGreatDoorPOx
import Derived.Test.YtmmonhgfnmeieaaGreatDoorArrS
-- mini
namespace Go.Proofs.YtmmonhgfnmeieaaGreatDoor.Ten
open Go Go.RowKit Go.ZPWords Go.ZPMore Go.ZPLast Go.Proofs.YtmmonhgfnmeieaaGreatDoor.PO Go.Proofs.YtmmonhgfnmeieaaGreatDoor.Th Go.Proofs.YtmmonhgfnmeieaaGreatDoor.Th.Wh Go.Proofs.YtmmonhgfnmeieaaGreatDoor.Err
set_option linter.unusedVariables false
theorem total_f (s : List Int) (d : List ByteArray) (h : Sm s d) (ha : ∀ p, (accS (d.take p)).size ≤ 40000000000) : array_Total.f s d = some ((tTotal ⟨s, d⟩).1.s, (tTotal ⟨s, d⟩).1.d, (tTotal ⟨s, d⟩).2) := by
 unfold tTotal;rw [array_Total.f, tensor_Sum.of _ _ h ha, Option.bind_some, tSum];by_cases ht : tRight ⟨s, d⟩ = true
 · rw [if_pos ht, if_pos ht, if_pos rfl]
 rw [if_neg ht, if_neg ht, if_neg (by decide)]; rfl
theorem total_calls (A0 : Option Addr) (c0 : Nat) (A1 : Option Addr) (c1 : Nat) (s : List Int) (d : List ByteArray) (w : World) (hG : Gs w) (hr0 : Kd.C (Kd.int .i64) w A0 s.length s) (hc0 : s.length ≤ c0) (hr1 : Kd.C Kd.string w A1 d.length d) (hc1 : d.length ≤ c1) (h : Sm s d) (ha : ∀ p, (accS (d.take p)).size ≤ 40000000000) :
    Calls Tryz.prog 22 #[.agg #[.slice A0 s.length c0, .slice A1 d.length c1]] w (Res w (tTotal ⟨s, d⟩)) :=
  array_Total.calls A0 c0 s A1 c1 d _ _ _ w hG hr0 hc0 hr1 hc1 (total_f s d h ha)
end Go.Proofs.YtmmonhgfnmeieaaGreatDoor.Ten
