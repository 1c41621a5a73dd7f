/- KinkLaws: the plain law. -/
import Derived.Test.YtndkjpkgllmbnaaGreatDoorKinV
import Derived.Test.YtndkjpkgllmbnaaGreatDoorPQLx
namespace Go.Proofs.YtndkjpkgllmbnaaGreatDoor.Pure
open Go Go.RowKit Go.Proofs.YtndkjpkgllmbnaaGreatDoorW.PrintWords Go.Proofs.YtndkjpkgllmbnaaGreatDoor.PQL Go.Proofs.YtndkjpkgllmbnaaGreatDoor.Err Go.Proofs.YtndkjpkgllmbnaaGreatDoor.Th Go.Proofs.YtndkjpkgllmbnaaGreatDoor.Ten
set_option linter.unusedVariables false
theorem awake : tapewrightlaw07_awake.f = some true := rfl
theorem eqT {s : List Int} {d e : List ByteArray} {l m : List Rat} {N M : Nat} (h : Ok s l N) (h' : Ok s m M) (hN : N ≤ 1000000000) (hd : d = tx l) (he : e = tx m) (hl : l = m) : tapewrightref05_Equal.f s d s e = some true := by
  subst hd he hl
  have h1 := h.le64
  rw [tapewrightref05_Equal.of _ _ _ _ ⟨by omega, by rw [tx_len]; omega⟩, decide_eq_true ⟨rfl, rfl⟩]
theorem KinkLaws (s : List Int) (d : List ByteArray) (s2 : List Int) (d2 : List ByteArray) : ∃ k, tapewrightlaw07_KinkLaws.f k s d s2 d2 = some true := by
  refine ⟨0 + 1, ?_⟩
  have hz : tapewrightlaw07_KinkLaws.j0 (0 + 1) true s d s2 d2 = some true := by rw [tapewrightlaw07_KinkLaws.j0, if_pos rfl, awake]; rfl
  rw [tapewrightlaw07_KinkLaws.f, tapewrightref05_Small.f, tapewrightref05_Small.f, Option.bind_some, Option.bind_some]
  by_cases h1 : small ⟨s, d⟩ = true
  case neg => rw [if_neg h1]; exact hz
  rw [if_pos h1]
  by_cases h2 : small ⟨s2, d2⟩ = true
  case neg => rw [Bool.not_eq_true] at h2; rw [h2]; exact hz
  rw [h2]
  clear hz
  have m1 := (small_parts h1).1
  have m2 := (small_parts h2).1
  show tapewrightlaw07_KinkLaws.j0 (0 + 1) false s d s2 d2 = some true
  rw [tapewrightlaw07_KinkLaws.j0, if_neg (by decide), kink_Max.of _ _ _ _ m1 m2, Option.bind_some]
  rcases both_cases h1 h2 with ⟨rfl, l, m, rfl, rfl, o1, o2⟩ | ⟨c, hc, hh⟩
  case inr => rw [hh]; dsimp only; rw [if_neg hc, if_pos (by rfl), awake]; rfl
  have hl := len_eq o1 o2
  have hn : (sz s).toNat = l.length := by have := o1.ln; omega
  have w0 : (⟨#[48]⟩ : ByteArray).size ≤ 40000000000 := by decide
  have wm : (⟨#[45, 49]⟩ : ByteArray).size ≤ 40000000000 := by decide
  have on := o1.by (k := -1) (M := 40) (by decide +kernel)
  have of := ok_fill o1.sh 0
  have p := o1.one 0
  have q := on.one 0
  rw [tmax o1 o2]
  dsimp only
  rw [if_pos rfl, kink_Max.of _ _ _ _ m2 m1, Option.bind_some, tensor_Scale.of _ _ _ m1 wm, Option.bind_some, kink_Relu.of _ _ m1, Option.bind_some, ← rt_m1, tscale o1]
  dsimp only
  rw [kink_Relu.of _ _ (on.sm (by decide)), Option.bind_some, teach o1, teach on]
  dsimp only
  rw [tensor_Zip.of _ _ _ _ _ (p.sm (by decide)) (q.sm (by decide)), Option.bind_some, kink_Abs.of _ _ m1, Option.bind_some, tensor_Fill.of _ _ m1.1 w0, Option.bind_some, ← rt_0, tfill o1.sh]
  dsimp only
  rw [kink_Max.of _ _ _ _ m1 (of.sm (by decide +kernel)), Option.bind_some, kink_Relu.of _ _ (p.sm (by decide)), Option.bind_some, tmax o2 o1, tadd p q, teach o1, tmax o1 (of.mono (show qm 0 ≤ 40 by decide +kernel)), teach p]
  dsimp only
  have e1 : List.zipWith qMax l m = List.zipWith qMax m l := zw_comm _ (fun x y => by unfold qMax; grind) l m
  have e2 : List.zipWith (· + ·) (l.map (qOne 0)) ((l.map (· * -1)).map (qOne 0)) = l.map (qOne 2) := by
    apply List.ext_getElem
    · simp
    · intro i a b
      simp only [List.getElem_zipWith, List.getElem_map]
      unfold qOne
      grind
  have e3 : List.zipWith qMax l (List.replicate (sz s).toNat 0) = l.map (qOne 0) := by
    apply List.ext_getElem
    · simp only [List.length_zipWith, List.length_map, List.length_replicate]; omega
    · intro i a b
      simp only [List.getElem_zipWith, List.getElem_map, List.getElem_replicate]
      unfold qMax qOne
      grind
  have e4 : (l.map (qOne 0)).map (qOne 0) = l.map (qOne 0) := by
    rw [List.map_map]
    congr 1
    funext x
    show qOne 0 (qOne 0 x) = qOne 0 x
    unfold qOne
    grind
  rw [eqT (o1.max o2) (o2.max o1) (by decide) rfl rfl e1, Option.bind_some, if_pos rfl, eqT (p.add q) (o1.one 2) (by decide) rfl rfl e2, Option.bind_some, if_pos rfl, eqT (o1.max (of.mono (show qm 0 ≤ 40 by decide +kernel))) p (by decide) rfl rfl e3, Option.bind_some, if_pos rfl, eqT (p.one 0) p (by decide) rfl rfl e4, Option.bind_some, if_pos rfl, if_pos rfl, awake]
  rfl
end Go.Proofs.YtndkjpkgllmbnaaGreatDoor.Pure
