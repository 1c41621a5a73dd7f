/- TensorShapes: the plain law. -/
import Derived.Test.YtlglpffoijdgbaaGreatDoorTenV
import Derived.Test.YtlglpffoijdgbaaGreatDoorPureAwQH
import Derived.Test.YtlglpffoijdgbaaGreatDoorPQHx2
namespace Go.Proofs.YtlglpffoijdgbaaGreatDoor.Pure
open Go Go.RowKit Go.Proofs.YtlglpffoijdgbaaGreatDoorW.PrintWords Go.Proofs.YtlglpffoijdgbaaGreatDoor.PQH Go.Proofs.YtlglpffoijdgbaaGreatDoor.Err Go.Proofs.YtlglpffoijdgbaaGreatDoor.Ten
set_option linter.unusedVariables false
theorem TensorShapes (s : List Int) (d : List ByteArray) (s2 : List Int) (d2 : List ByteArray) (k : ByteArray) (n : Int) (hn : (Lit.int .u8 n).wf = true) : ∃ m, tapewrightlaw05_TensorShapes.f m s d s2 d2 k n = some true := by
  refine ⟨0 + 1 + 1, ?_⟩
  have hz : tapewrightlaw05_TensorShapes.j0 (0 + 1 + 1) k n true s d s2 d2 = some true := by rw [tapewrightlaw05_TensorShapes.j0, if_pos rfl, awake]; rfl
  rw [tapewrightlaw05_TensorShapes.f, tapewrightref05_Small.f, tapewrightref05_Small.f, Option.bind_some, Option.bind_some]
  by_cases h1 : small ⟨s, d⟩ = true
  case neg => rw [if_neg h1]; exact hz
  rw [if_pos h1]
  by_cases h2 : small ⟨s2, d2⟩ = true
  case neg => rw [if_neg h2]; exact hz
  rw [if_pos h2]
  by_cases hk : (k.size : Int) > 40
  · rw [decide_eq_true hk]; exact hz
  rw [decide_eq_false hk]
  clear hz
  have hk' : k.size ≤ 40 := by omega
  have m1 := (small_parts h1).1
  have m2 := (small_parts h2).1
  show tapewrightlaw05_TensorShapes.j0 (0 + 1 + 1) k n false s d s2 d2 = some true
  rw [tapewrightlaw05_TensorShapes.j0, if_neg (by decide), tensor_Zip.of _ _ _ _ _ m1 m2, Option.bind_some, tensor_Scale.of _ _ _ m1 (by omega), Option.bind_some, tensor_Power.of _ _ _ m1, Option.bind_some]
  generalize wrap64 (Int.tmod n 7) = p
  have ls : s.length ≤ 1000 := m1.1
  have last : tapewrightlaw05_TensorShapes.j1 (0 + 1) (tPower ⟨s, d⟩ p).2 false s d (tPower ⟨s, d⟩ p).1.s (tPower ⟨s, d⟩ p).1.d = some true := by
    rw [tapewrightlaw05_TensorShapes.j1, if_neg (by decide)]
    rcases cases_t h1 with r1 | ⟨l, rfl, o1⟩
    · rw [tpower_no (Or.inl r1), if_neg (by decide), awake]; rfl
    by_cases hp : 0 ≤ p ∧ p ≤ 6
    · obtain ⟨q, rfl⟩ := Int.eq_ofNat_of_zero_le hp.1
      have o2 := o1.pow q (by omega)
      rw [tpower o1 q (by omega), if_pos rfl, tensor_Right.of _ _ (o2.sm (by decide)), Option.bind_some, o2.right, if_pos rfl, tapewrightref04_Same.of _ _ ls, Option.bind_some, decide_eq_true rfl, if_pos rfl, awake]
      rfl
    · rw [tpower_no (Or.inr (by omega)), if_neg (by decide), awake]; rfl
  have sc : (tScale ⟨s, d⟩ k).2 = 0 → ∃ l N, tScale ⟨s, d⟩ k = (⟨s, tx l⟩, 0) ∧ Ok s l N ∧ N ≤ 1000 := by
    intro h
    rcases cases_t h1 with r1 | ⟨l, rfl, o1⟩
    · rw [tscale_no (Or.inl r1)] at h; cases h
    by_cases hr : rRight k = true
    · obtain ⟨x, rfl⟩ := right_some hr
      exact ⟨_, _, tscale o1 x, o1.by (Nat.le_trans (qm_le x) hk'), by decide⟩
    · rw [tscale_no (Or.inr (by simpa using hr))] at h; cases h
  by_cases c1 : (tZip ⟨#[115, 117, 98]⟩ ⟨s, d⟩ ⟨s2, d2⟩).2 = 0
  · rw [if_pos c1]
    obtain ⟨l, N, e, o, hN⟩ : ∃ l N, tZip ⟨#[115, 117, 98]⟩ ⟨s, d⟩ ⟨s2, d2⟩ = (⟨s, tx l⟩, 0) ∧ Ok s l N ∧ N ≤ 1000 := by
      rcases pair_cases h1 h2 with ⟨rfl, l, m, rfl, rfl, o1, o2⟩ | ⟨c, hc, hh⟩
      · exact ⟨_, _, tsub o1 o2, o1.sub o2, by decide⟩
      · rw [(hh _ _ opf_sub).1] at c1; exact absurd c1 hc
    rw [e]
    dsimp only
    rw [tensor_Right.of _ _ (o.sm (by omega)), Option.bind_some, o.right, if_pos rfl, tapewrightref04_Same.of _ _ ls, Option.bind_some, decide_eq_true rfl, if_pos rfl]
    by_cases c2 : (tScale ⟨s, d⟩ k).2 = 0
    · rw [if_pos c2]
      obtain ⟨l2, M, e2, o2, hM⟩ := sc c2
      rw [e2]
      dsimp only
      rw [tensor_Right.of _ _ (o2.sm (by omega)), Option.bind_some, o2.right, if_pos rfl, tapewrightref04_Same.of _ _ ls, Option.bind_some, decide_eq_true rfl]
      exact last
    · rw [if_neg c2]; exact last
  · rw [if_neg c1]
    by_cases c2 : (tScale ⟨s, d⟩ k).2 = 0
    · rw [if_pos c2]
      obtain ⟨l2, M, e2, o2, hM⟩ := sc c2
      rw [e2]
      dsimp only
      rw [tensor_Right.of _ _ (o2.sm (by omega)), Option.bind_some, o2.right, if_pos rfl, tapewrightref04_Same.of _ _ ls, Option.bind_some, decide_eq_true rfl]
      exact last
    · rw [if_neg c2]; exact last
end Go.Proofs.YtlglpffoijdgbaaGreatDoor.Pure
