/- KinkSlopes: the plain law. -/
import Derived.Test.YtndkjpkgllmbnaaGreatDoorKinV
import Derived.Test.YtndkjpkgllmbnaaGreatDoorPQSx
namespace Go.Proofs.YtndkjpkgllmbnaaGreatDoor.Pure
open Go Go.RowKit Go.Proofs.YtndkjpkgllmbnaaGreatDoorW.PrintWords Go.Proofs.YtndkjpkgllmbnaaGreatDoor.PQS Go.Proofs.YtndkjpkgllmbnaaGreatDoor.Err Go.Proofs.YtndkjpkgllmbnaaGreatDoor.Th Go.Proofs.YtndkjpkgllmbnaaGreatDoor.Ten
set_option linter.unusedVariables false
theorem awake : tapewrightlaw07_awake.f = some true := rfl
theorem eqT {s : List Int} {d e : List ByteArray} {l m : List Rat} {N M : Nat} (h : Ok s l N) (h' : Ok s m M) (hN : N ≤ 1000000000) (hd : d = tx l) (he : e = tx m) (hl : l = m) : tapewrightref05_Equal.f s d s e = some true := by
  subst hd he hl
  have h1 := h.le64
  rw [tapewrightref05_Equal.of _ _ _ _ ⟨by omega, by rw [tx_len]; omega⟩, decide_eq_true ⟨rfl, rfl⟩]
theorem KinkSlopes (s : List Int) (d : List ByteArray) (s2 : List Int) (d2 : List ByteArray) : ∃ k, tapewrightlaw07_KinkSlopes.f k s d s2 d2 = some true := by
  refine ⟨0 + 1, ?_⟩
  have hz : tapewrightlaw07_KinkSlopes.j0 (0 + 1) true s d s2 d2 = some true := by rw [tapewrightlaw07_KinkSlopes.j0, if_pos rfl, awake]; rfl
  rw [tapewrightlaw07_KinkSlopes.f, tapewrightref05_Small.f, tapewrightref05_Small.f, Option.bind_some, Option.bind_some]
  by_cases h1 : small ⟨s, d⟩ = true
  case neg => rw [if_neg h1]; exact hz
  rw [if_pos h1]
  by_cases h2 : small ⟨s2, d2⟩ = true
  case neg => rw [Bool.not_eq_true] at h2; rw [h2]; exact hz
  rw [h2]
  clear hz
  have m1 := (small_parts h1).1
  have m2 := (small_parts h2).1
  show tapewrightlaw07_KinkSlopes.j0 (0 + 1) false s d s2 d2 = some true
  rw [tapewrightlaw07_KinkSlopes.j0, if_neg (by decide), kink_Max.of _ _ _ _ m1 m2, Option.bind_some]
  rcases both_cases h1 h2 with ⟨rfl, l, m, rfl, rfl, o1, o2⟩ | ⟨c, hc, hh⟩
  case inr => rw [hh]; dsimp only; rw [if_neg hc, if_pos (by rfl), awake]; rfl
  have hl := len_eq o1 o2
  have hn : (sz s).toNat = l.length := by have := o1.ln; omega
  have w1 : (⟨#[49]⟩ : ByteArray).size ≤ 40000000000 := by decide
  have of := ok_fill o1.sh 1
  have st := o1.one 1
  have sg := o1.one 3
  have ab := o1.above o2
  have ow := of.sub ab
  have oc := ab.mul o1
  have od := ow.mul o2
  have q1 : qm 1 ≤ 1000 := by decide +kernel
  rw [tmax o1 o2]
  dsimp only
  rw [if_pos rfl, kink_Relu.of _ _ m1, Option.bind_some, kink_Step.of _ _ m1, Option.bind_some, teach o1, teach o1]
  dsimp only
  rw [tensor_Zip.of _ _ _ _ _ (st.sm (by decide)) m1, Option.bind_some, kink_Abs.of _ _ m1, Option.bind_some, kink_Sign.of _ _ m1, Option.bind_some, teach o1, teach o1]
  dsimp only
  rw [tensor_Zip.of _ _ _ _ _ (sg.sm (by decide)) m1, Option.bind_some, kink_Above.of _ _ _ _ m1 m2, Option.bind_some, tensor_Fill.of _ _ m1.1 w1, Option.bind_some, tabove o1 o2, ← rt_1, tfill o1.sh]
  dsimp only
  rw [tensor_Zip.of _ _ _ _ _ (of.sm (by omega)) (ab.sm (by decide)), Option.bind_some, tensor_Zip.of _ _ _ _ _ (ab.sm (by decide)) m1, Option.bind_some, tsub of ab]
  dsimp only
  rw [tensor_Zip.of _ _ _ _ _ (ow.sm (by omega)) m2, Option.bind_some, tmul ab o1, tmul ow o2]
  dsimp only
  rw [tensor_Zip.of _ _ _ _ _ (oc.sm (by decide)) (od.sm (by omega)), Option.bind_some, tmul st o1, tmul sg o1, tadd oc od]
  dsimp only
  have e1 : l.map (qOne 0) = List.zipWith (· * ·) (l.map (qOne 1)) l := by
    apply List.ext_getElem
    · simp
    · intro i a b
      simp only [List.getElem_zipWith, List.getElem_map]
      unfold qOne
      grind
  have e2 : l.map (qOne 2) = List.zipWith (· * ·) (l.map (qOne 3)) l := by
    apply List.ext_getElem
    · simp
    · intro i a b
      simp only [List.getElem_zipWith, List.getElem_map]
      unfold qOne
      grind
  have e3 : List.zipWith qMax l m = List.zipWith (· + ·) (List.zipWith (· * ·) (List.zipWith qAbove l m) l) (List.zipWith (· * ·) (List.zipWith (· - ·) (List.replicate (sz s).toNat 1) (List.zipWith qAbove l m)) m) := by
    apply List.ext_getElem
    · simp only [List.length_zipWith, List.length_replicate]; omega
    · intro i a b
      simp only [List.getElem_zipWith, List.getElem_replicate]
      unfold qMax qAbove
      grind
  rw [eqT (o1.one 0) (st.mul o1) (by decide) rfl rfl e1, Option.bind_some, if_pos rfl, eqT (o1.one 2) (sg.mul o1) (by decide) rfl rfl e2, Option.bind_some, if_pos rfl, eqT (o1.max o2) (oc.add od) (by decide) rfl rfl e3, Option.bind_some, if_pos rfl, if_pos rfl, awake]
  rfl
end Go.Proofs.YtndkjpkgllmbnaaGreatDoor.Pure
