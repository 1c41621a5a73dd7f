/- ArrayLinear: the plain law. -/
import Derived.Test.YtmmonhgfnmeieaaGreatDoorArrV
import Derived.Test.YtmmonhgfnmeieaaGreatDoorPQLx
namespace Go.Proofs.YtmmonhgfnmeieaaGreatDoor.Pure
open Go Go.RowKit Go.Proofs.YtmmonhgfnmeieaaGreatDoorW.PrintWords Go.Proofs.YtmmonhgfnmeieaaGreatDoor.PQL Go.Proofs.YtmmonhgfnmeieaaGreatDoor.Err Go.Proofs.YtmmonhgfnmeieaaGreatDoor.Th Go.Proofs.YtmmonhgfnmeieaaGreatDoor.Ten
set_option linter.unusedVariables false
theorem awake : tapewrightlaw06_awake.f = some true := rfl
theorem eqT {s : List Int} {d e : List ByteArray} {l m : List Rat} {N M : Nat} (h : Ok s l N) (h' : Ok s m M) (hd : d = tx l) (he : e = tx m) (hl : l = m) : tapewrightref05_Equal.f s d s e = some true := by
  subst hd he hl
  have h1 := h.le64
  rw [tapewrightref05_Equal.of _ _ _ _ ⟨by omega, by rw [tx_len]; omega⟩, decide_eq_true ⟨rfl, rfl⟩]
theorem ArrayLinear (s : List Int) (d : List ByteArray) (s2 : List Int) (d2 : List ByteArray) (s3 : List Int) (d3 : List ByteArray) : ∃ k, tapewrightlaw06_ArrayLinear.f k s d s2 d2 s3 d3 = some true := by
  refine ⟨0 + 1 + 1, ?_⟩
  have hz : tapewrightlaw06_ArrayLinear.j0 (0 + 1 + 1) true s d s2 d2 s3 d3 = some true := by rw [tapewrightlaw06_ArrayLinear.j0, if_pos rfl, awake]; rfl
  rw [tapewrightlaw06_ArrayLinear.f, tapewrightref05_Small.f, tapewrightref05_Small.f, tapewrightref05_Small.f, Option.bind_some, Option.bind_some, Option.bind_some]
  by_cases h1 : small ⟨s, d⟩ = true
  case neg => rw [if_neg h1]; exact hz
  rw [if_pos h1]
  by_cases h2 : small ⟨s2, d2⟩ = true
  case neg => rw [if_neg h2]; exact hz
  rw [if_pos h2]
  by_cases h3 : small ⟨s3, d3⟩ = true
  case neg => rw [Bool.not_eq_true] at h3; rw [h3]; exact hz
  rw [h3]
  clear hz
  have m2 := (small_parts h2).1
  show tapewrightlaw06_ArrayLinear.j0 (0 + 1 + 1) false s d s2 d2 s3 d3 = some true
  rw [tapewrightlaw06_ArrayLinear.j0, if_neg (by decide), array_MatMul.of _ _ _ _ ⟨small_sm1 h1, small_sm1 h2⟩, Option.bind_some, tensor_Zip.of _ _ _ _ _ m2 m2, Option.bind_some]
  rcases mat_cases h1 h2 with ⟨r, n, c, A, B, rfl, rfl, rfl, rfl, oA, oB, hs, hr, hn, hc, la, lb⟩ | ⟨e, he, hh⟩
  case inr =>
    rw [hh]
    dsimp only
    rw [if_neg he, tapewrightlaw06_ArrayLinear.j1, if_pos rfl, if_pos (by rfl), awake]
    rfl
  have op := ok_mm oA oB (by decide) hn hs
  have ob := oB.add oB
  have oq := ok_mm (oA.mono (show 40 ≤ 81 by decide)) ob (by decide) hn hs
  have od := op.add op
  have ea : List.zipWith (· + ·) B B = List.zipWith (· + ·) B B := rfl
  rw [tmat_ok oA oB hs, tadd oB oB]
  dsimp only
  rw [if_pos rfl]
  show tapewrightlaw06_ArrayLinear.j1 (0 + 1) false _ _ _ _ _ _ _ _ _ _ = some true
  rw [tapewrightlaw06_ArrayLinear.j1, if_neg (by decide), array_MatMul.of _ _ _ _ ⟨small_sm1 h1, ob.sm1 (by decide)⟩, Option.bind_some, tensor_Zip.of _ _ _ _ _ (op.sm (by decide)) (op.sm (by decide)), Option.bind_some, array_MatMul.of _ _ _ _ ⟨op.sm1 (by decide), small_sm1 h3⟩, Option.bind_some, array_MatMul.of _ _ _ _ ⟨small_sm1 h2, small_sm1 h3⟩, Option.bind_some, tmat_ok oA ob hs, tadd op op]
  dsimp only
  have eq : tapewrightref05_Equal.f [(r : Int), (c : Int)] (tx (mm r n c A (List.zipWith (· + ·) B B))) [(r : Int), (c : Int)] (tx (List.zipWith (· + ·) (mm r n c A B) (mm r n c A B))) = some true := eqT oq od rfl rfl (mm_add lb)
  rcases mat_cases' oB h3 with ⟨m, C, rfl, rfl, oC, hnm, hm⟩ | ⟨e, he, hh⟩
  · have oy := ok_mm oB oC (by decide) hc hnm
    rw [tmat_ok oB oC hnm]
    dsimp only
    rw [array_MatMul.of _ _ _ _ ⟨small_sm1 h1, oy.sm1 (by decide)⟩, Option.bind_some, eq, Option.bind_some, if_pos rfl, if_pos rfl]
    by_cases hrm : shOk [(r : Int), (m : Int)] = true
    · have ox := ok_mm op (oC.mono (show 40 ≤ 64 * (2 * 40 + 1) + 1 by decide)) (by decide) hc hrm
      have oz := ok_mm (oA.mono (show 40 ≤ 64 * (2 * 40 + 1) + 1 by decide)) oy (by decide) hn hrm
      rw [tmat_ok op oC hrm, tmat_ok oA oy hrm]
      dsimp only
      rw [if_pos rfl, if_pos rfl, if_pos rfl, eqT ox oz rfl rfl (mm_assoc r n c m A B C), Option.bind_some, if_pos rfl, awake]
      rfl
    · rw [tmat_no op oC hrm]
      dsimp only
      rw [if_neg (by decide), awake]
      rfl
  · rw [hh]
    dsimp only
    rw [array_MatMul.of _ _ _ _ ⟨small_sm1 h1, (show Sm1 nilT.s nilT.d from sm1_nil)⟩, Option.bind_some, eq, Option.bind_some, if_pos rfl, if_pos rfl]
    by_cases hx : (tMat ⟨[(r : Int), (c : Int)], tx (mm r n c A B)⟩ ⟨s3, d3⟩).2 = 0
    · rw [if_pos hx, if_neg he, awake]; rfl
    · rw [if_neg hx, awake]; rfl
end Go.Proofs.YtmmonhgfnmeieaaGreatDoor.Pure
