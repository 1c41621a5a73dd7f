/- array.Spread: what it answers. -/
import Derived.Test.YtmmonhgfnmeieaaGreatDoorPPx
import Derived.Test.YtmmonhgfnmeieaaGreatDoorArrS
-- mini
namespace Go.Proofs.YtmmonhgfnmeieaaGreatDoor.Ten
open Go Go.RowKit Go.ZPWords Go.ZPMore Go.ZPLast Go.Proofs.YtmmonhgfnmeieaaGreatDoor.PP Go.Proofs.YtmmonhgfnmeieaaGreatDoor.Th Go.Proofs.YtmmonhgfnmeieaaGreatDoor.Th.Wh Go.Proofs.YtmmonhgfnmeieaaGreatDoor.Err
set_option linter.unusedVariables false
theorem spread_f (s : List Int) (d : List ByteArray) (z : List Int) (h : Sm s d) (hz : z.length ≤ 1000) : array_Spread.f (0 + 1) s d z = some ((tSpread ⟨s, d⟩ z).1.s, (tSpread ⟨s, d⟩ z).1.d, (tSpread ⟨s, d⟩ z).2) := by
 unfold tSpread;rw [array_Spread.f, tensor_Right.of _ _ h, Option.bind_some, shape_Right.of _ hz, Option.bind_some];by_cases ht : tRight ⟨s, d⟩ = true
 case neg => rw [if_neg ht, if_neg ht, array_Spread.j0, if_pos rfl]; rfl
 rw [if_pos ht, if_pos ht];by_cases hs : shOk z = true
 case neg => rw [if_neg hs, array_Spread.j0, if_pos (by simpa using hs)]; rfl
 rw [if_pos hs, array_Spread.j0, if_neg (by simp [hs])];by_cases hn : s.length = 0
 · obtain rfl := List.eq_nil_of_length_eq_zero hn;have h1 := (tRight_sh ht).2;have e : sz [] = 1 := rfl;dsimp only at h1;rw [e] at h1;have hx : (rdOf ByteArray.empty d 0).size ≤ 40000000000 := h.big _ (rdOf_mem d 0 (by omega));rw [show (if (⟨[], d⟩ : TV).s.length = 0 then tFill z (rdOf ByteArray.empty (⟨[], d⟩ : TV).d 0) else (nilT, 4)) = tFill z (rdOf ByteArray.empty d 0) from if_pos rfl, if_pos (by decide), if_pos (by omega), tensor_Fill.of _ _ hz hx, Option.bind_some]
 rw [if_neg (by omega), if_neg hn]; rfl
theorem spread_calls (A0 : Option Addr) (c0 : Nat) (A1 : Option Addr) (c1 : Nat) (s : List Int) (d : List ByteArray) (B : Option Addr) (e : Nat) (z : List Int) (w : World) (hG : Gs w) (hr0 : Kd.C (Kd.int .i64) w A0 s.length s) (hc0 : s.length ≤ c0) (hr1 : Kd.C Kd.string w A1 d.length d) (hc1 : d.length ≤ c1) (h : Sm s d) (ir : Kd.C (Kd.int .i64) w B z.length z) (ic : z.length ≤ e) (hz : z.length ≤ 1000) :
    Calls Tryz.prog 24 #[.agg #[.slice A0 s.length c0, .slice A1 d.length c1], .slice B z.length e] w (Res w (tSpread ⟨s, d⟩ z)) :=
  array_Spread.calls (0 + 1) A0 c0 s A1 c1 d B e z _ _ _ w hG hr0 hc0 hr1 hc1 ir ic (spread_f s d z h hz)
end Go.Proofs.YtmmonhgfnmeieaaGreatDoor.Ten
