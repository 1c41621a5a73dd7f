-- by wip/tool/mine.py of this repo (the kit's printer with given contracts)
import Derived.Test.YtmmonhgfnmeieaaGreatDoorProg
import Derived.Test.YtmmonhgfnmeieaaGreatDoorMine
namespace Go.Proofs.YtmmonhgfnmeieaaGreatDoor.PBI
open Go.RowKit Go.ZPWords Go.ZPLast Go.ZPMore
attribute [local go_sem] max2_int min2_int max_two min_two max_three min_three max_four min_four   -- for this text's walks alone
set_option linter.unusedVariables false
set_option linter.unusedSimpArgs false
set_option maxHeartbeats 8000000
set_option maxRecDepth 100000
def errW : Option Int → Value
 | none => .nilIface
 | some c => .iface 0 (.int .i64 c)
theorem errW_none : errW none = .nilIface := rfl
theorem errW_some (c : Int) : errW (some c) = .iface 0 (.int .i64 c) := rfl
/-! ### lw6_b2i: function 21 -/
def lw6_b2i.f (a0 : Bool) : Option (Int) := if a0 = true then (some 1) else (some 0)
theorem lw6_b2i.calls (a0 : Bool) (r : Int) (w : World) (h : lw6_b2i.f a0 = some r) :
  Calls Tryz.prog 21 #[.bool a0] w fun e w' => e = .returned (.int .i64 r) ∧ Drawn0 w w' := by
 unfold lw6_b2i.f at h;have H := h;clear h;replace H := BI_ H;rcases H with ⟨rfl, H⟩ | ⟨rfl, H⟩
 · obtain rfl := Option.some.inj H;go_enter Tryz.func21, Tryz.ntmps21;go_wp2;go_ret;exact ⟨S1_, by repeat (first | exact Drawn0.refl _ | apply Drawn0.step)⟩
 obtain rfl := Option.some.inj H;go_enter Tryz.func21, Tryz.ntmps21;go_wp2;go_ret;exact ⟨S1_, by repeat (first | exact Drawn0.refl _ | apply Drawn0.step)⟩
end Go.Proofs.YtmmonhgfnmeieaaGreatDoor.PBI
