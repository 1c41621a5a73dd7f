/- ArrayTurns: the plain law. -/
import Derived.Test.YtmmonhgfnmeieaaGreatDoorArrV
import Derived.Test.YtmmonhgfnmeieaaGreatDoorPQTx
namespace Go.Proofs.YtmmonhgfnmeieaaGreatDoor.Pure
open Go Go.RowKit Go.Proofs.YtmmonhgfnmeieaaGreatDoorW.PrintWords Go.Proofs.YtmmonhgfnmeieaaGreatDoor.PQT Go.Proofs.YtmmonhgfnmeieaaGreatDoor.Err Go.Proofs.YtmmonhgfnmeieaaGreatDoor.Th Go.Proofs.YtmmonhgfnmeieaaGreatDoor.Ten
set_option linter.unusedVariables false
theorem awake : tapewrightlaw06_awake.f = some true := rfl
theorem eqT {s : List Int} {d e : List ByteArray} {l m : List Rat} {N M : Nat} (h : Ok s l N) (h' : Ok s m M) (hd : d = tx l) (he : e = tx m) (hl : l = m) : tapewrightref05_Equal.f s d s e = some true := by
  subst hd he hl
  have h1 := h.le64
  rw [tapewrightref05_Equal.of _ _ _ _ ⟨by omega, by rw [tx_len]; omega⟩, decide_eq_true ⟨rfl, rfl⟩]
theorem ArrayTurns (s : List Int) (d : List ByteArray) (s2 : List Int) (d2 : List ByteArray) : ∃ k, tapewrightlaw06_ArrayTurns.f k s d s2 d2 = some true := by
  refine ⟨0 + 1, ?_⟩
  have hz : tapewrightlaw06_ArrayTurns.j0 (0 + 1) true s d s2 d2 = some true := by rw [tapewrightlaw06_ArrayTurns.j0, if_pos rfl, awake]; rfl
  rw [tapewrightlaw06_ArrayTurns.f, tapewrightref05_Small.f, tapewrightref05_Small.f, Option.bind_some, Option.bind_some]
  by_cases h1 : small ⟨s, d⟩ = true
  case neg => rw [if_neg h1]; exact hz
  rw [if_pos h1]
  by_cases h2 : small ⟨s2, d2⟩ = true
  case neg => rw [Bool.not_eq_true] at h2; rw [h2]; exact hz
  rw [h2]
  clear hz
  have m1 := (small_parts h1).1
  have m2 := (small_parts h2).1
  show tapewrightlaw06_ArrayTurns.j0 (0 + 1) false s d s2 d2 = some true
  rw [tapewrightlaw06_ArrayTurns.j0, if_neg (by decide), array_MatMul.of _ _ _ _ ⟨small_sm1 h1, small_sm1 h2⟩, Option.bind_some]
  rcases mat_cases h1 h2 with ⟨r, n, c, A, B, rfl, rfl, rfl, rfl, oA, oB, hs, hr, hn, hc, la, lb⟩ | ⟨e, he, hh⟩
  case inr => rw [hh]; dsimp only; rw [if_neg he, if_pos (by rfl), awake]; rfl
  have om := ok_mm oA oB (by decide) hn hs
  have ox := ok_tr oA (by decide)
  have oy := ok_tr oB (by decide)
  have ot := ok_tr om (by decide)
  have on := ok_mm oy ox (by decide) hn (shOk_swap hs)
  have oz := ok_tr ox (by decide)
  rw [tmat_ok oA oB hs]
  dsimp only
  rw [if_pos rfl, array_Transpose.of _ _ (om.sm (by decide)), Option.bind_some, array_Transpose.of _ _ m1, Option.bind_some, array_Transpose.of _ _ m2, Option.bind_some, ttr_ok om, ttr_ok oA, ttr_ok oB]
  dsimp only
  rw [array_MatMul.of _ _ _ _ ⟨oy.sm1 (by decide), ox.sm1 (by decide)⟩, Option.bind_some, array_Transpose.of _ _ (ox.sm (by decide)), Option.bind_some, tmat_ok oy ox (shOk_swap hs), ttr_ok ox]
  dsimp only
  rw [eqT ot on rfl rfl (tr_mm r n c A B), Option.bind_some, if_pos rfl, eqT oz oA rfl rfl (tr_tr la), Option.bind_some, if_pos rfl, if_pos rfl, if_pos rfl, awake]
  rfl
end Go.Proofs.YtmmonhgfnmeieaaGreatDoor.Pure
