/- TensorSums: the plain law. -/
import Derived.Test.YtlglpffoijdgbaaGreatDoorTenV
import Derived.Test.YtlglpffoijdgbaaGreatDoorPureAwQS
import Derived.Test.YtlglpffoijdgbaaGreatDoorPQSx2
namespace Go.Proofs.YtlglpffoijdgbaaGreatDoor.Pure
open Go Go.RowKit Go.Proofs.YtlglpffoijdgbaaGreatDoorW.PrintWords Go.Proofs.YtlglpffoijdgbaaGreatDoor.PQS Go.Proofs.YtlglpffoijdgbaaGreatDoor.Err Go.Proofs.YtlglpffoijdgbaaGreatDoor.Ten
set_option linter.unusedVariables false
theorem TensorSums (s : List Int) (d : List ByteArray) (k : ByteArray) : ∃ n, tapewrightlaw05_TensorSums.f n s d k = some true := by
  refine ⟨0 + 1, ?_⟩
  have hz : tapewrightlaw05_TensorSums.j0 (0 + 1) k true s d = some true := by rw [tapewrightlaw05_TensorSums.j0, if_pos rfl, awake]; rfl
  rw [tapewrightlaw05_TensorSums.f, tapewrightref05_Small.f, Option.bind_some]
  by_cases h1 : small ⟨s, d⟩ = true
  case neg => rw [if_neg h1]; exact hz
  rw [if_pos h1]
  by_cases hk : (k.size : Int) > 40
  · rw [if_pos hk]; exact hz
  have m1 := (small_parts h1).1
  have hk' : k.size ≤ 40 := by omega
  rw [if_neg hk, tensor_Right.of _ _ m1, Option.bind_some]
  rcases cases_t h1 with r1 | ⟨l, rfl, o1⟩
  · rw [r1]; exact hz
  clear hz
  rw [o1.right]
  show tapewrightlaw05_TensorSums.j0 (0 + 1) k false s (tx l) = some true
  rw [tapewrightlaw05_TensorSums.j0, if_neg (by decide), tensor_Scale.of _ _ _ m1 (by omega), Option.bind_some]
  by_cases hr : rRight k = true
  case neg =>
    rw [tscale_no (Or.inr (by simpa using hr))]
    dsimp only
    rw [if_neg (by decide), if_pos (by rfl), awake]
    rfl
  obtain ⟨q, rfl⟩ := right_some hr
  have hq := Nat.le_trans (qm_le q) hk'
  have o2 := o1.by hq
  have p1 := ok_one (su l) o1.su
  rw [tscale o1]
  dsimp only
  rw [if_pos rfl, tensor_Sum.of _ _ (o2.sm (by decide)) (o2.acc (by decide)), Option.bind_some, tensor_Sum.of _ _ m1 (o1.acc (by decide)), Option.bind_some, tsum o2, tsum o1]
  dsimp only
  rw [show ([rt (su l)] : List ByteArray) = tx [su l] from rfl, tensor_Scale.of _ _ _ (p1.sm (by decide)) (by omega), Option.bind_some, tscale p1]
  dsimp only
  rw [if_pos rfl, if_pos (by rfl), if_pos (by simp [tx]), show rdOf ByteArray.empty (tx ([su l].map (· * q))) 0 = rt (su l * q) from rfl, su_mul, if_pos rfl, awake]
  rfl
end Go.Proofs.YtlglpffoijdgbaaGreatDoor.Pure
