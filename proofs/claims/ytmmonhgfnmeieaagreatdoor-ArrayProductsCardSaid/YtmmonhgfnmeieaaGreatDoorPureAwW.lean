/- array: the fixed answer of the stage. -/
import Derived.Test.YtmmonhgfnmeieaaGreatDoorArrV
import Derived.Test.YtmmonhgfnmeieaaGreatDoorPWx
-- mini
namespace Go.Proofs.YtmmonhgfnmeieaaGreatDoor.Pure
open Go Go.RowKit Go.ZPWords Go.Proofs.YtmmonhgfnmeieaaGreatDoor.PW Go.Proofs.YtmmonhgfnmeieaaGreatDoor.Err Go.Proofs.YtmmonhgfnmeieaaGreatDoor.Th Go.Proofs.YtmmonhgfnmeieaaGreatDoor.Ten
set_option linter.unusedVariables false
theorem awake0 : lw6_awake.f = some true := by
 have rt_4 : rt 4 = (⟨#[52]⟩ : ByteArray) := by decide +kernel
 have rt_11 : rt 11 = (⟨#[49, 49]⟩ : ByteArray) := by decide +kernel
 have h1 : ([(⟨#[49]⟩ : ByteArray), (⟨#[50]⟩ : ByteArray)] : List ByteArray) = tx [1, 2] := by rw [← rt_1, ← rt_2]; rfl
 have h2 : ([(⟨#[51]⟩ : ByteArray), (⟨#[52]⟩ : ByteArray)] : List ByteArray) = tx [3, 4] := by rw [← rt_3, ← rt_4]; rfl
 have o1 : Ok [((1 : Nat) : Int), ((2 : Nat) : Int)] [1, 2] 40 := ⟨by decide +kernel, rfl, by decide +kernel⟩;have o2 : Ok [((2 : Nat) : Int), ((1 : Nat) : Int)] [3, 4] 40 := ⟨by decide +kernel, rfl, by decide +kernel⟩;have e : mm 1 2 1 [1, 2] [3, 4] = [11] := by decide +kernel
 have em : tMat ⟨[1, 2], tx [1, 2]⟩ ⟨[2, 1], tx [3, 4]⟩ = (⟨[1, 1], tx [11]⟩, 0) := by
  have := tmat_ok o1 o2 (by decide +kernel);rw [e] at this;exact this
 have e0 : rdOf ByteArray.empty (tx [11]) 0 = ⟨#[49, 49]⟩ := rt_11;have l1 : ((tx [11]).length : Int) = 1 := rfl
 have ef : array_MatMul.f [1, 2] (tx [1, 2]) [2, 1] (tx [3, 4]) = some ([1, 1], tx [11], 0) := by
  have h := array_MatMul.of [1, 2] (tx [1, 2]) [2, 1] (tx [3, 4]) ⟨o1.sm1 (by decide), o2.sm1 (by decide)⟩;rw [em] at h;exact h
 rw [lw6_awake.f, h1, h2, ef];simp only [Option.bind_some];rw [e0, l1, if_pos rfl, if_pos (by decide), if_pos (by decide +kernel)];rfl
theorem awake_calls (w : World) (hG : Gs w) : Calls Tryz.prog 13 #[] w fun e w' => e = .returned (.bool true) ∧ Below w.heap.size w w' := lw6_awake.calls true w hG rfl awake0
end Go.Proofs.YtmmonhgfnmeieaaGreatDoor.Pure
