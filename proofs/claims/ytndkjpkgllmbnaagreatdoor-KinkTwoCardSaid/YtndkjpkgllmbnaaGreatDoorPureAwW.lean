/- kink: the fixed answer of the stage. -/
import Derived.Test.YtndkjpkgllmbnaaGreatDoorKinV
import Derived.Test.YtndkjpkgllmbnaaGreatDoorPWx
-- mini
namespace Go.Proofs.YtndkjpkgllmbnaaGreatDoor.Pure
open Go Go.RowKit Go.ZPWords Go.Proofs.YtndkjpkgllmbnaaGreatDoor.PW Go.Proofs.YtndkjpkgllmbnaaGreatDoor.Err Go.Proofs.YtndkjpkgllmbnaaGreatDoor.Th Go.Proofs.YtndkjpkgllmbnaaGreatDoor.Ten
set_option linter.unusedVariables false
theorem awake0 : lw7_awake.f = some true := by
  have h1 : ([(⟨#[45, 49]⟩ : ByteArray), (⟨#[50]⟩ : ByteArray)] : List ByteArray) = tx [-1, 2] := by rw [← rt_m1, ← rt_2]; rfl
  have h2 : ([(⟨#[48]⟩ : ByteArray)] : List ByteArray) = tx [0] := by rw [← rt_0]; rfl
  have o1 : Ok [2] [-1, 2] 40 := ⟨by decide +kernel, rfl, by decide +kernel⟩;have o2 : Ok [] [0] 40 := ok_one 0 (by decide +kernel)
  have e : List.map (qOne 0) [-1, 2] = [0, 2] := by decide +kernel
  have e0 : rdOf ByteArray.empty (tx [0, 2]) 0 = ⟨#[48]⟩ := rt_0;have e1 : rdOf ByteArray.empty (tx [0, 2]) 1 = ⟨#[50]⟩ := rt_2;have l2 : ((tx [0, 2]).length : Int) = 2 := rfl;rw [lw7_awake.f, h1, h2, kink_Relu.of _ _ (o1.sm (by decide)), kink_Flat.of _ _ (o2.sm (by decide)), teach o1, tflat o2, e];simp only [Option.bind_some];rw [e0, e1, l2, if_pos rfl, if_pos (by decide), if_pos (by decide +kernel), if_pos (by decide), if_pos (by decide +kernel), if_pos trivial, if_pos (by simp)];rfl
theorem awake_calls (w : World) (hG : Gs w) : Calls Tryz.prog 12 #[] w fun e w' => e = .returned (.bool true) ∧ Below w.heap.size w w' := lw7_awake.calls true w hG rfl awake0
end Go.Proofs.YtndkjpkgllmbnaaGreatDoor.Pure
