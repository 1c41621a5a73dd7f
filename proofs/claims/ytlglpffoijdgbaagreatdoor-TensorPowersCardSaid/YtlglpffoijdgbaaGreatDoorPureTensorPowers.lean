/- TensorPowers: the plain law. -/
import Derived.Test.YtlglpffoijdgbaaGreatDoorTenV
import Derived.Test.YtlglpffoijdgbaaGreatDoorPureAwQP
import Derived.Test.YtlglpffoijdgbaaGreatDoorPQPx2
namespace Go.Proofs.YtlglpffoijdgbaaGreatDoor.Pure
open Go Go.RowKit Go.Proofs.YtlglpffoijdgbaaGreatDoorW.PrintWords Go.Proofs.YtlglpffoijdgbaaGreatDoor.PQP Go.Proofs.YtlglpffoijdgbaaGreatDoor.Err Go.Proofs.YtlglpffoijdgbaaGreatDoor.Ten
set_option linter.unusedVariables false
theorem TensorPowers (s : List Int) (d : List ByteArray) : ∃ k, tapewrightlaw05_TensorPowers.f k s d = some true := by
  refine ⟨0 + 1, ?_⟩
  have hz : tapewrightlaw05_TensorPowers.j0 (0 + 1) true s d = some true := by rw [tapewrightlaw05_TensorPowers.j0, if_pos rfl, awake]; rfl
  rw [tapewrightlaw05_TensorPowers.f, tapewrightref05_Small.f, Option.bind_some]
  by_cases h1 : small ⟨s, d⟩ = true
  case neg => rw [if_neg h1]; exact hz
  have m1 := (small_parts h1).1
  rw [if_pos h1, tensor_Right.of _ _ m1, Option.bind_some]
  rcases cases_t h1 with r1 | ⟨l, rfl, o1⟩
  · rw [r1]; exact hz
  clear hz
  rw [o1.right]
  show tapewrightlaw05_TensorPowers.j0 (0 + 1) false s (tx l) = some true
  have q0' : tPower ⟨s, tx l⟩ 0 = (⟨s, tx (l.map (· ^ 0))⟩, 0) := tpower o1 0 (by decide)
  have q1 := tpower o1 1 (by decide)
  have q2 := tpower o1 2 (by decide)
  have f0 := ok_fill o1.sh 0
  have f1 := ok_fill o1.sh 1
  have w1 : (⟨#[49]⟩ : ByteArray).size ≤ 40000000000 := by decide
  have w0 : (⟨#[48]⟩ : ByteArray).size ≤ 40000000000 := by decide
  have hl := o1.le64
  have ls : s.length ≤ 1000 := m1.1
  rw [tapewrightlaw05_TensorPowers.j0, if_neg (by decide), tensor_Power.of _ _ _ m1, Option.bind_some, tensor_Power.of _ _ _ m1, Option.bind_some, tensor_Power.of _ _ _ m1, Option.bind_some, tensor_Zip.of _ _ _ _ _ m1 m1, Option.bind_some, tensor_Scale.of _ _ _ m1 w0, Option.bind_some, tensor_Fill.of _ _ ls w1, Option.bind_some, tensor_Fill.of _ _ ls w0, Option.bind_some,
    show (1 : Int) = ((1 : Nat) : Int) from rfl, q1, q0', show (2 : Int) = ((2 : Nat) : Int) from rfl, q2, tmul o1 o1, ← rt_0, ← rt_1, tscale o1, tfill o1.sh, tfill o1.sh]
  dsimp only
  have e1 : l.map (· ^ 1) = l := by
    rw [show (fun x : Rat => x ^ 1) = id from funext fun x => Rat.pow_one x, List.map_id]
  have e0 : l.map (· ^ 0) = List.replicate (sz s).toNat 1 := map_rep o1 (fun x => Rat.pow_zero x)
  have e2 : l.map (· ^ 2) = List.zipWith (· * ·) l l := (zw_self (fun x => by grind) l).symm
  have e3 : l.map (· * 0) = List.replicate (sz s).toNat 0 := map_rep o1 (fun x => Rat.mul_zero x)
  have n : ∀ {f : Rat → Rat}, (tx (l.map f)).length ≤ 1000000 := by intro f; rw [tx_len, List.length_map]; omega
  rw [tapewrightref05_Equal.of _ _ _ _ ⟨by omega, n⟩, Option.bind_some, decide_eq_true (by rw [e1]; exact ⟨rfl, rfl⟩), if_pos rfl, tapewrightref05_Equal.of _ _ _ _ ⟨by omega, n⟩, Option.bind_some, decide_eq_true (by rw [e0]; exact ⟨rfl, rfl⟩), if_pos rfl,
    tapewrightref05_Equal.of _ _ _ _ ⟨by omega, n⟩, Option.bind_some, decide_eq_true (by rw [e2]; exact ⟨rfl, rfl⟩), if_pos rfl, tapewrightref05_Equal.of _ _ _ _ ⟨by omega, n⟩, Option.bind_some, decide_eq_true (by rw [e3]; exact ⟨rfl, rfl⟩), if_pos rfl, if_pos rfl, if_pos rfl, awake]
  rfl
end Go.Proofs.YtlglpffoijdgbaaGreatDoor.Pure
