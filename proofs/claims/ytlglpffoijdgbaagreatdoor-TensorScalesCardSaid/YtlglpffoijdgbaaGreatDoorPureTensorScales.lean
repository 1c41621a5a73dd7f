/- TensorScales: the plain law. -/
import Derived.Test.YtlglpffoijdgbaaGreatDoorTenV
import Derived.Test.YtlglpffoijdgbaaGreatDoorPureAwQC
import Derived.Test.YtlglpffoijdgbaaGreatDoorPQCx2
namespace Go.Proofs.YtlglpffoijdgbaaGreatDoor.Pure
open Go Go.RowKit Go.Proofs.YtlglpffoijdgbaaGreatDoorW.PrintWords Go.Proofs.YtlglpffoijdgbaaGreatDoor.PQC Go.Proofs.YtlglpffoijdgbaaGreatDoor.Err Go.Proofs.YtlglpffoijdgbaaGreatDoor.Ten
set_option linter.unusedVariables false
theorem TensorScales (s : List Int) (d : List ByteArray) (k m : ByteArray) : ∃ n, tapewrightlaw05_TensorScales.f n s d k m = some true := by
  refine ⟨0 + 1 + 1, ?_⟩
  have hz : tapewrightlaw05_TensorScales.j0 (0 + 1 + 1) k m true s d = some true := by rw [tapewrightlaw05_TensorScales.j0, if_pos rfl, awake]; rfl
  rw [tapewrightlaw05_TensorScales.f, tapewrightref05_Small.f, Option.bind_some]
  by_cases h1 : small ⟨s, d⟩ = true
  case neg => rw [if_neg h1]; exact hz
  rw [if_pos h1]
  by_cases hk : (k.size : Int) > 20
  · rw [if_pos hk]; exact hz
  rw [if_neg hk]
  by_cases hm : (m.size : Int) > 20
  · rw [decide_eq_true hm]; exact hz
  rw [decide_eq_false hm]
  clear hz
  have hk' : k.size ≤ 20 := by omega
  have hm' : m.size ≤ 20 := by omega
  have m1 := (small_parts h1).1
  have mx : Sml (tScale ⟨s, d⟩ k) := sml_scale h1 (by omega)
  have w1 : (⟨#[49]⟩ : ByteArray).size ≤ 40000000000 := by decide
  have hp : (rMul k m).1.size ≤ 1000 := by
    rcases rv_cases k with h | ⟨x, rfl, h⟩
    · rw [rMul, h]; exact Nat.zero_le _
    rcases rv_cases m with h' | ⟨y, rfl, h'⟩
    · rw [rMul, h, h']; exact Nat.zero_le _
    rw [rMul_rt]
    have e1 := qm_le x
    have e2 := qm_le y
    have e3 := qm_mul x y
    have := size_rt (x * y)
    dsimp only
    omega
  show tapewrightlaw05_TensorScales.j0 (0 + 1 + 1) k m false s d = some true
  rw [tapewrightlaw05_TensorScales.j0, if_neg (by decide), tensor_Scale.of _ _ _ m1 (by omega), Option.bind_some, tensor_Scale.of _ _ _ mx (by omega), Option.bind_some, rat_Mul.of _ _ (by omega) (by omega), Option.bind_some, tensor_Scale.of _ _ _ m1 (by omega), Option.bind_some, tensor_Scale.of _ _ _ m1 w1, Option.bind_some]
  rcases cases_t h1 with r1 | ⟨l, rfl, o1⟩
  · rw [tscale_no (Or.inl r1), tscale_no (Or.inl r1), tscale_no (Or.inl r1)]
    dsimp only
    rw [if_neg (by decide)]
    show tapewrightlaw05_TensorScales.j1 (0 + 1) _ _ true _ _ _ _ _ _ _ _ = some true
    rw [tapewrightlaw05_TensorScales.j1, if_pos rfl, if_neg (by decide), awake]
    rfl
  have e1 : l.map (· * 1) = l := by
    rw [show (fun x : Rat => x * 1) = id from funext fun x => Rat.mul_one x, List.map_id]
  have hl := o1.le64
  have ls : s.length ≤ 1000 := m1.1
  have ne : (tx l).length ≤ 1000000 := by rw [tx_len]; omega
  have eqs : tapewrightref05_Equal.f s (tx l) s (tx l) = some true := by rw [tapewrightref05_Equal.of _ _ _ _ ⟨by omega, ne⟩, decide_eq_true ⟨rfl, rfl⟩]
  have no : ∀ (c : Int) (a b : List Int) (g h : List ByteArray), tapewrightlaw05_TensorScales.j1 (0 + 1) c 0 true s (tx l) a g b h s (tx l) = some true := by
    intro c a b g h
    rw [tapewrightlaw05_TensorScales.j1, if_pos rfl, if_pos rfl, eqs, Option.bind_some, if_pos rfl, awake]
    rfl
  rw [← rt_1, tscale o1 1, e1]
  dsimp only
  by_cases hr : rRight k = true
  case neg =>
    rw [tscale_no (k := k) (Or.inr (by simpa using hr))]
    dsimp only
    rw [if_neg (by decide)]
    exact no _ _ _ _ _
  obtain ⟨x, rfl⟩ := right_some hr
  have hx := Nat.le_trans (qm_le x) hk'
  have o2 := o1.by hx
  rw [tscale o1 x]
  dsimp only
  rw [if_pos rfl]
  by_cases hr' : rRight m = true
  case neg =>
    rw [tscale_no (k := m) (Or.inr (by simpa using hr'))]
    dsimp only
    rw [if_neg (by decide)]
    exact no _ _ _ _ _
  obtain ⟨y, rfl⟩ := right_some hr'
  have hy := Nat.le_trans (qm_le y) hm'
  have o3 := o2.by hy
  have e2 : (l.map (· * x)).map (· * y) = l.map (· * (x * y)) := by
    rw [List.map_map]
    congr 1
    funext z
    show z * x * y = z * (x * y)
    rw [Rat.mul_assoc]
  rw [tscale o2 y, rMul_rt, tscale o1 (x * y)]
  show tapewrightlaw05_TensorScales.j1 (0 + 1) 0 0 false _ _ _ _ _ _ _ _ = some true
  have l3 : (tx ((l.map (· * x)).map (· * y))).length ≤ 1000000 := by rw [tx_len, List.length_map, List.length_map]; omega
  have ls3 : s.length ≤ 1000000 := by omega
  rw [tapewrightlaw05_TensorScales.j1, if_neg (by decide), tapewrightref05_Equal.of _ _ _ _ ⟨ls3, l3⟩, Option.bind_some, decide_eq_true (by rw [e2]; exact ⟨rfl, rfl⟩), if_pos rfl, if_pos rfl, eqs, Option.bind_some, if_pos rfl, if_pos rfl, awake]
  rfl
end Go.Proofs.YtlglpffoijdgbaaGreatDoor.Pure
