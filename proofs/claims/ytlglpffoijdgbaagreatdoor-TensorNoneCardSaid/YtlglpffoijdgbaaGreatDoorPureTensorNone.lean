/- TensorNone: the plain law. -/
import Derived.Test.YtlglpffoijdgbaaGreatDoorTenV
import Derived.Test.YtlglpffoijdgbaaGreatDoorPureAwQN
import Derived.Test.YtlglpffoijdgbaaGreatDoorPQNx2
namespace Go.Proofs.YtlglpffoijdgbaaGreatDoor.Pure
open Go Go.RowKit Go.Proofs.YtlglpffoijdgbaaGreatDoorW.PrintWords Go.Proofs.YtlglpffoijdgbaaGreatDoor.PQN Go.Proofs.YtlglpffoijdgbaaGreatDoor.Err Go.Proofs.YtlglpffoijdgbaaGreatDoor.Ten
set_option linter.unusedVariables false
theorem none_l0 (s : List Int) (d : List ByteArray) (l : List Rat) (hl : l.length ≤ 64) (h : ∀ x ∈ l, x = 0) (o : Ok s l 100) (hd : d.length = l.length) : ∀ g p : Nat, p + g = l.length →
    tapewrightlaw05_TensorNone.l0 (g + 1) (tx l) ((tx l).length : Int) (p : Int) s d s (tx l) = some true := by
  intro g
  induction g with
  | zero =>
    intro p hp
    rw [tapewrightlaw05_TensorNone.l0, if_neg (by rw [tx_len]; omega), tensor_Sum.of _ _ (o.sm (by decide)) (o.acc (by decide)), Option.bind_some, tsum o, su_zero h, if_pos (by rw [tx_len, hd])]
    dsimp only
    rw [rt_0, if_pos (by decide +kernel), if_pos rfl, awake]
    rfl
  | succ g ih =>
    intro p hp
    have hlt : p < l.length := by omega
    have hw : wrap64 ((p : Int) + 1) = ((p + 1 : Nat) : Int) := by unfold wrap64; omega
    rw [tapewrightlaw05_TensorNone.l0, if_pos (by rw [tx_len]; omega), if_pos (by omega), if_pos (by rw [tx_len]; omega), rdOf_tx l p hlt, h _ (List.getElem_mem hlt), rt_0, if_pos (by decide +kernel), hw]
    exact ih (p + 1) (by omega)
theorem TensorNone (s : List Int) (d : List ByteArray) : ∃ k, tapewrightlaw05_TensorNone.f k s d = some true := by
  by_cases h1 : small ⟨s, d⟩ = true
  case neg =>
    refine ⟨0, ?_⟩
    rw [tapewrightlaw05_TensorNone.f, tapewrightref05_Small.f, Option.bind_some, if_neg h1, awake]
    rfl
  have m1 := (small_parts h1).1
  rcases cases_t h1 with r1 | ⟨l, rfl, o1⟩
  · refine ⟨0, ?_⟩
    rw [tapewrightlaw05_TensorNone.f, tapewrightref05_Small.f, Option.bind_some, if_pos h1, tensor_Zip.of _ _ _ _ _ m1 m1, Option.bind_some, tzip_no _ (Or.inl r1)]
    dsimp only
    rw [if_neg (by decide), if_pos (by rfl), tensor_Right.of _ _ m1, Option.bind_some, r1, if_neg (by decide), awake]
    rfl
  · have o2 := o1.sub o1
    have e : List.zipWith (· - ·) l l = l.map (fun _ => 0) := zw_self (fun x => by grind) l
    refine ⟨(List.zipWith (· - ·) l l).length + 1, ?_⟩
    rw [tapewrightlaw05_TensorNone.f, tapewrightref05_Small.f, Option.bind_some, if_pos h1, tensor_Zip.of _ _ _ _ _ m1 m1, Option.bind_some, tsub o1 o1]
    dsimp only
    rw [if_pos rfl]
    have hz : ∀ x ∈ List.zipWith (· - ·) l l, x = 0 := by
      rw [e]
      intro x hx
      obtain ⟨_, _, rfl⟩ := List.mem_map.1 hx
      rfl
    exact none_l0 s (tx l) _ o2.le64.1 hz (o2.mono (by decide)) (by rw [tx_len, e, List.length_map]) _ 0 (by omega)
end Go.Proofs.YtlglpffoijdgbaaGreatDoor.Pure
