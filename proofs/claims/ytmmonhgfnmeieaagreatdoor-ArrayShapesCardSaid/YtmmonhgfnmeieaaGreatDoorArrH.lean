/- array.Reshape: what it answers. -/
import Derived.Test.YtmmonhgfnmeieaaGreatDoorPHx
import Derived.Test.YtmmonhgfnmeieaaGreatDoorArrS
-- mini
namespace Go.Proofs.YtmmonhgfnmeieaaGreatDoor.Ten
open Go Go.RowKit Go.ZPWords Go.ZPMore Go.ZPLast Go.Proofs.YtmmonhgfnmeieaaGreatDoor.PH Go.Proofs.YtmmonhgfnmeieaaGreatDoor.Th Go.Proofs.YtmmonhgfnmeieaaGreatDoor.Th.Wh Go.Proofs.YtmmonhgfnmeieaaGreatDoor.Err
set_option linter.unusedVariables false
theorem reshape_f (s : List Int) (d : List ByteArray) (z : List Int) (h : Sm s d) (hz : z.length ≤ 1000) : array_Reshape.f (0 + 1) s d z = some ((tShape ⟨s, d⟩ z).1.s, (tShape ⟨s, d⟩ z).1.d, (tShape ⟨s, d⟩ z).2) := by
 unfold tShape;have hd := h.2.1;rw [array_Reshape.f, tensor_Right.of _ _ h, Option.bind_some, shape_Right.of _ hz, Option.bind_some];by_cases ht : tRight ⟨s, d⟩ = true
 case neg => rw [if_neg ht, if_neg ht, array_Reshape.j0, if_pos rfl]; rfl
 rw [if_pos ht, if_pos ht];by_cases hs : shOk z = true
 case neg => rw [if_neg hs, array_Reshape.j0, if_pos (by simpa using hs)]; rfl
 rw [if_pos hs, array_Reshape.j0, if_neg (by simp [hs]), shape_Size.of _ hz, Option.bind_some];by_cases hn : size z = (d.length : Int)
 · rw [if_pos hn, if_pos hn, slices_Clone_int_int.of _ (by omega), Option.bind_some, slices_Clone_string_string.of _ (by omega), Option.bind_some]
 rw [if_neg hn, if_neg hn]; rfl
theorem reshape_calls (A0 : Option Addr) (c0 : Nat) (A1 : Option Addr) (c1 : Nat) (s : List Int) (d : List ByteArray) (B : Option Addr) (e : Nat) (z : List Int) (w : World) (hG : Gs w) (hr0 : Kd.C (Kd.int .i64) w A0 s.length s) (hc0 : s.length ≤ c0) (hr1 : Kd.C Kd.string w A1 d.length d) (hc1 : d.length ≤ c1) (h : Sm s d) (ir : Kd.C (Kd.int .i64) w B z.length z) (ic : z.length ≤ e) (hz : z.length ≤ 1000) :
    Calls Tryz.prog 14 #[.agg #[.slice A0 s.length c0, .slice A1 d.length c1], .slice B z.length e] w (Res w (tShape ⟨s, d⟩ z)) :=
  array_Reshape.calls (0 + 1) A0 c0 s A1 c1 d B e z _ _ _ w hG hr0 hc0 hr1 hc1 ir ic (reshape_f s d z h hz)
end Go.Proofs.YtmmonhgfnmeieaaGreatDoor.Ten
