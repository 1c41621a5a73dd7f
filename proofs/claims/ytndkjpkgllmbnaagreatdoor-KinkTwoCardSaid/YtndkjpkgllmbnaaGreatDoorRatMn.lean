/- rat.Neg, told by rationals. -/
import Derived.Test.YtndkjpkgllmbnaaGreatDoorRatOs
import Derived.Test.YtndkjpkgllmbnaaGreatDoorRatV
-- mini
namespace Go.Proofs.YtndkjpkgllmbnaaGreatDoor.Err
open Go Go.RowKit Go.Extern.Stop Go.Stop Go.Extern Go.ZPWords Go.ZPMore Go.ZPLast Go.Proofs.YtndkjpkgllmbnaaGreatDoor.PC Go.Proofs.YtndkjpkgllmbnaaGreatDoor.Th Go.Proofs.YtndkjpkgllmbnaaGreatDoor.Th.Wh
set_option maxHeartbeats 4000000
set_option maxRecDepth 1000000
noncomputable def rNeg (a : ByteArray) : ByteArray × Int := rSub ⟨#[48]⟩ a
theorem neg_calls (a : ByteArray) (ha : a.size ≤ 40000000000) (w : World) (hG : Gs w) :
    Calls Tryz.prog 91 #[.string a] w fun e w' => e = .returned (.tuple #[.string (rNeg a).1, .int .i64 (rNeg a).2]) ∧ Below w.heap.size w w' := by
  have KB := A_ (sub_calls ⟨#[48]⟩ a (by decide) ha w hG);unfold rNeg;clear ha hG;generalize rSub ⟨#[48]⟩ a = r at KB ⊢;have HB := A_ (Below.refl w.heap.size w);go_enter Tryz.func91, Tryz.ntmps91
  go_wp2_with (first
      | (go_at_call 38; with_reducible refine (KB.out).mono ?_; rintro e w' ⟨rfl, hb⟩; replace HB := BT_ hb; clear hb))
  go_ret2
  exact ⟨rfl, HB.out⟩
theorem rNeg_rt (x : Rat) : rNeg (rt x) = (rt (-x), 0) := by
  rw [rNeg, ← rt_0, rSub, rv_rt, rv_rt];dsimp only;rw [show (0 : Rat) - x = -x by grind]
end Go.Proofs.YtndkjpkgllmbnaaGreatDoor.Err
