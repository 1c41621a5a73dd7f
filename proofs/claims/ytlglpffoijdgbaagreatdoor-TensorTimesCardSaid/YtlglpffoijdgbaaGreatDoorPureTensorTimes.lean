/- TensorTimes: the plain law. -/
import Derived.Test.YtlglpffoijdgbaaGreatDoorTenV
import Derived.Test.YtlglpffoijdgbaaGreatDoorPureAwQT
import Derived.Test.YtlglpffoijdgbaaGreatDoorPQTx2
namespace Go.Proofs.YtlglpffoijdgbaaGreatDoor.Pure
open Go Go.RowKit Go.Proofs.YtlglpffoijdgbaaGreatDoorW.PrintWords Go.Proofs.YtlglpffoijdgbaaGreatDoor.PQT Go.Proofs.YtlglpffoijdgbaaGreatDoor.Err Go.Proofs.YtlglpffoijdgbaaGreatDoor.Ten
set_option linter.unusedVariables false
theorem TensorTimes (s : List Int) (d : List ByteArray) (s2 : List Int) (d2 : List ByteArray) (s3 : List Int) (d3 : List ByteArray) : ∃ k, tapewrightlaw05_TensorTimes.f k s d s2 d2 s3 d3 = some true := by
  refine ⟨0 + 1 + 1, ?_⟩
  have hz : tapewrightlaw05_TensorTimes.j0 (0 + 1 + 1) true s d s2 d2 s3 d3 = some true := by rw [tapewrightlaw05_TensorTimes.j0, if_pos rfl, awake]; rfl
  rw [tapewrightlaw05_TensorTimes.f, tapewrightref05_Small.f, tapewrightref05_Small.f, tapewrightref05_Small.f, Option.bind_some, Option.bind_some, Option.bind_some]
  by_cases h1 : small ⟨s, d⟩ = true
  case neg => rw [if_neg h1]; exact hz
  rw [if_pos h1]
  by_cases h2 : small ⟨s2, d2⟩ = true
  case neg => rw [if_neg h2]; exact hz
  rw [if_pos h2]
  by_cases h3 : small ⟨s3, d3⟩ = true
  case neg => rw [Bool.not_eq_true] at h3; rw [h3]; exact hz
  rw [h3]
  clear hz
  have m1 := (small_parts h1).1
  have m2 := (small_parts h2).1
  have m3 := (small_parts h3).1
  have mx : Sml (tZip ⟨#[97, 100, 100]⟩ ⟨s2, d2⟩ ⟨s3, d3⟩) := sml_zip h2 h3 opf_add
  show tapewrightlaw05_TensorTimes.j0 (0 + 1 + 1) false s d s2 d2 s3 d3 = some true
  rw [tapewrightlaw05_TensorTimes.j0, if_neg (by decide), tensor_Zip.of _ _ _ _ _ m2 m3, Option.bind_some, tensor_Zip.of _ _ _ _ _ m1 mx, Option.bind_some]
  have no : ∀ (x y : TV) (c : Int), tapewrightlaw05_TensorTimes.j1 (0 + 1) true s d s2 d2 s3 d3 [] [] = some true := by
    intro x y c
    rw [tapewrightlaw05_TensorTimes.j1, if_pos rfl, if_pos (by rfl), awake]
    rfl
  rcases pair_cases h2 h3 with ⟨rfl, l, m, rfl, rfl, o2, o3⟩ | ⟨c, hc, hh⟩
  case inr =>
    rw [(hh _ _ opf_add).1]
    dsimp only
    rw [if_neg hc, tzip_no _ (Or.inr nil_not)]
    exact no nilT nilT 0
  have o4 := o2.add o3
  rw [tadd o2 o3]
  dsimp only
  rw [if_pos rfl]
  rcases cases_t h1 with r1 | ⟨n, rfl, o1⟩
  · rw [tzip_no _ (Or.inl r1)]
    exact no nilT nilT 0
  by_cases he : s = s2
  case neg =>
    rw [tzip_sh opf_mul o1 o4 he]
    exact no nilT nilT 0
  subst he
  have o5 := o1.mul o4
  have x1 := o1.mul o2
  have x2 := o3.mul o1
  have x3 := x1.add x2
  rw [tmul o1 o4]
  show tapewrightlaw05_TensorTimes.j1 (0 + 1) false _ _ _ _ _ _ _ _ = some true
  rw [tapewrightlaw05_TensorTimes.j1, if_neg (by decide), tensor_Zip.of _ _ _ _ _ m1 m2, Option.bind_some, tensor_Zip.of _ _ _ _ _ m3 m1, Option.bind_some, tmul o1 o2, tmul o3 o1]
  dsimp only
  rw [tensor_Zip.of _ _ _ _ _ (x1.sm (by decide)) (x2.sm (by decide)), Option.bind_some, tadd x1 x2]
  dsimp only
  have key : ∀ n l m : List Rat, n.length = l.length → l.length = m.length → List.zipWith (· * ·) n (List.zipWith (· + ·) l m) = List.zipWith (· + ·) (List.zipWith (· * ·) n l) (List.zipWith (· * ·) m n) := by
    intro n
    induction n with
    | nil => intro l m _ _; simp
    | cons x n ih =>
      intro l m h1 h2
      cases l with
      | nil => simp at h1
      | cons y l =>
        cases m with
        | nil => simp at h2
        | cons z m =>
          simp only [List.zipWith_cons_cons]
          rw [ih l m (by simpa using h1) (by simpa using h2)]
          congr 1
          grind
  have l5 := (o5.sm (by decide)).2.1
  have ls := m1.1
  rw [tapewrightref05_Equal.of _ _ _ _ ⟨by omega, by omega⟩, Option.bind_some, decide_eq_true (by rw [key n l m (len_eq o1 o2) (len_eq o2 o3)]; exact ⟨rfl, rfl⟩), if_pos rfl, if_pos rfl, awake]
  rfl
end Go.Proofs.YtlglpffoijdgbaaGreatDoor.Pure
