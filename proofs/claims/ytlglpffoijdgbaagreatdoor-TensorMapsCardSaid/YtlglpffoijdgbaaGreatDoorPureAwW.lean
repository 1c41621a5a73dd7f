/- Tensors: the fixed answer of the stage. -/
import Derived.Test.YtlglpffoijdgbaaGreatDoorTenV
import Derived.Test.YtlglpffoijdgbaaGreatDoorPWx
-- mini
namespace Go.Proofs.YtlglpffoijdgbaaGreatDoor.Pure
open Go Go.RowKit Go.ZPWords Go.Proofs.YtlglpffoijdgbaaGreatDoor.PW Go.Proofs.YtlglpffoijdgbaaGreatDoor.Err Go.Proofs.YtlglpffoijdgbaaGreatDoor.Ten
theorem awake0 : lw5_awake.f = some true := by
 have h1 : ([(⟨#[49]⟩ : ByteArray), (⟨#[50]⟩ : ByteArray)] : List ByteArray) = tx [1, 2] := by rw [← rt_1, ← rt_2]; rfl
 have h2 : ([(⟨#[49, 47, 50]⟩ : ByteArray), (⟨#[51]⟩ : ByteArray)] : List ByteArray) = tx [mkRat 1 2, 3] := by rw [← rt_h, ← rt_3]; rfl
 have o1 : Ok [2] [1, 2] 40 := ⟨by decide +kernel, rfl, by decide +kernel⟩;have o2 : Ok [2] [mkRat 1 2, 3] 40 := ⟨by decide +kernel, rfl, by decide +kernel⟩;have e : List.zipWith (· + ·) [1, 2] [mkRat 1 2, 3] = [mkRat 3 2, 5] := by decide +kernel
 have e0 : rdOf ByteArray.empty (tx [mkRat 3 2, 5]) 0 = ⟨#[51, 47, 50]⟩ := rt_3h;have e1 : rdOf ByteArray.empty (tx [mkRat 3 2, 5]) 1 = ⟨#[53]⟩ := rt_5;have l2 : ((tx [mkRat 3 2, 5]).length : Int) = 2 := rfl;rw [lw5_awake.f, h1, h2, tensor_Zip.of _ _ _ _ _ (o1.sm (by decide)) (o2.sm (by decide)), tadd o1 o2, e];simp only [Option.bind_some];rw [e0, e1, l2, if_pos rfl, if_pos (by decide), if_pos (by decide +kernel), if_pos (by decide), if_pos (by decide +kernel)];rfl
theorem awake_calls (w : World) (hG : Gs w) : Calls Tryz.prog 13 #[] w fun e w' => e = .returned (.bool true) ∧ Below w.heap.size w w' := lw5_awake.calls true w hG rfl awake0
end Go.Proofs.YtlglpffoijdgbaaGreatDoor.Pure
