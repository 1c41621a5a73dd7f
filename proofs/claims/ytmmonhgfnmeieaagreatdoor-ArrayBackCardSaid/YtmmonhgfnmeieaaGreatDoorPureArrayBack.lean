/- ArrayBack: the plain law. -/
import Derived.Test.YtmmonhgfnmeieaaGreatDoorArrV
import Derived.Test.YtmmonhgfnmeieaaGreatDoorPQBx
namespace Go.Proofs.YtmmonhgfnmeieaaGreatDoor.Pure
open Go Go.RowKit Go.Proofs.YtmmonhgfnmeieaaGreatDoorW.PrintWords Go.Proofs.YtmmonhgfnmeieaaGreatDoor.PQB Go.Proofs.YtmmonhgfnmeieaaGreatDoor.Err Go.Proofs.YtmmonhgfnmeieaaGreatDoor.Th Go.Proofs.YtmmonhgfnmeieaaGreatDoor.Ten
set_option linter.unusedVariables false
theorem awake : tapewrightlaw06_awake.f = some true := rfl
theorem eqT {s : List Int} {d e : List ByteArray} {l m : List Rat} {N M : Nat} (h : Ok s l N) (h' : Ok s m M) (hd : d = tx l) (he : e = tx m) (hl : l = m) : tapewrightref05_Equal.f s d s e = some true := by
  subst hd he hl
  have h1 := h.le64
  rw [tapewrightref05_Equal.of _ _ _ _ ⟨by omega, by rw [tx_len]; omega⟩, decide_eq_true ⟨rfl, rfl⟩]
theorem tshape_own {s : List Int} {l : List Rat} {N : Nat} (h : Ok s l N) {z : List Int} (hz : shOk z = true) (hn : size z = (l.length : Int)) : tShape ⟨s, tx l⟩ z = (⟨z, tx l⟩, 0) := by
  unfold tShape
  rw [if_pos h.right, if_pos hz, if_pos (by rw [tx_len]; exact hn)]
theorem ArrayBack (s : List Int) (d : List ByteArray) (z : List Int) : ∃ k, tapewrightlaw06_ArrayBack.f k s d z = some true := by
  refine ⟨0 + 1, ?_⟩
  have hz : tapewrightlaw06_ArrayBack.j0 (0 + 1) z true s d = some true := by rw [tapewrightlaw06_ArrayBack.j0, if_pos rfl, awake]; rfl
  rw [tapewrightlaw06_ArrayBack.f, tapewrightref05_Small.f, Option.bind_some]
  by_cases h1 : small ⟨s, d⟩ = true
  case neg => rw [if_neg h1]; exact hz
  rw [if_pos h1]
  by_cases hk : (z.length : Int) > 10
  · rw [decide_eq_true hk]; exact hz
  rw [decide_eq_false hk]
  clear hz
  have m1 := (small_parts h1).1
  have ms : s.length ≤ 1000 := m1.1
  have zl : z.length ≤ 1000 := by omega
  rw [tapewrightlaw06_ArrayBack.j0, if_neg (by decide), array_Reshape.of _ _ _ ⟨m1, zl⟩, Option.bind_some]
  rcases cases_t h1 with r1 | ⟨l, rfl, o1⟩
  · have e : ∀ z, tShape ⟨s, d⟩ z = (nilT, 1) := fun z => by unfold tShape; rw [if_neg (by simp [r1])]
    rw [e]
    dsimp only
    rw [array_Reshape.of _ _ _ ⟨(show Sm nilT.s nilT.d from sm_nil), ms⟩, Option.bind_some, array_Reshape.of _ _ _ ⟨m1, ms⟩, Option.bind_some, e]
    dsimp only
    rw [if_neg (by decide), if_neg (by decide), if_pos rfl, awake]
    rfl
  have hs : size s = (l.length : Int) := by rw [size, if_pos o1.sh]; exact o1.ln.symm
  have eo := tshape_own o1 o1.sh hs
  have eq : tapewrightref05_Equal.f s (tx l) s (tx l) = some true := eqT o1 o1 rfl rfl rfl
  by_cases c1 : shOk z = true
  · by_cases c2 : size z = (l.length : Int)
    · have o2 : Ok z l 40 := ⟨c1, by rw [← c2, size, if_pos c1], o1.bd⟩
      rw [tshape_own o1 c1 c2]
      dsimp only
      rw [array_Reshape.of _ _ _ ⟨o2.sm (by decide), ms⟩, Option.bind_some, array_Reshape.of _ _ _ ⟨m1, ms⟩, Option.bind_some, tshape_own o2 o1.sh hs, eo]
      dsimp only
      rw [if_pos rfl, if_pos rfl, eq, Option.bind_some, if_pos rfl, if_pos rfl, Option.bind_some, if_pos rfl, awake]
      rfl
    · have e : tShape ⟨s, tx l⟩ z = (nilT, 4) := by unfold tShape; rw [if_pos o1.right, if_pos c1, if_neg (by rw [tx_len]; exact c2)]
      rw [e]
      dsimp only
      rw [array_Reshape.of _ _ _ ⟨(show Sm nilT.s nilT.d from sm_nil), ms⟩, Option.bind_some, array_Reshape.of _ _ _ ⟨m1, ms⟩, Option.bind_some, eo]
      dsimp only
      rw [if_neg (by decide), if_pos rfl, eq, Option.bind_some, if_pos rfl, awake]
      rfl
  · have e : tShape ⟨s, tx l⟩ z = (nilT, 1) := by unfold tShape; rw [if_pos o1.right, if_neg c1]
    rw [e]
    dsimp only
    rw [array_Reshape.of _ _ _ ⟨(show Sm nilT.s nilT.d from sm_nil), ms⟩, Option.bind_some, array_Reshape.of _ _ _ ⟨m1, ms⟩, Option.bind_some, eo]
    dsimp only
    rw [if_neg (by decide), if_pos rfl, eq, Option.bind_some, if_pos rfl, awake]
    rfl
end Go.Proofs.YtmmonhgfnmeieaaGreatDoor.Pure
