/- KinkOrder: the plain law. -/
import Derived.Test.YtndkjpkgllmbnaaGreatDoorKinV
import Derived.Test.YtndkjpkgllmbnaaGreatDoorPQOx
namespace Go.Proofs.YtndkjpkgllmbnaaGreatDoor.Pure
open Go Go.RowKit Go.Proofs.YtndkjpkgllmbnaaGreatDoorW.PrintWords Go.Proofs.YtndkjpkgllmbnaaGreatDoor.PQO Go.Proofs.YtndkjpkgllmbnaaGreatDoor.Err Go.Proofs.YtndkjpkgllmbnaaGreatDoor.Th Go.Proofs.YtndkjpkgllmbnaaGreatDoor.Ten
set_option linter.unusedVariables false
theorem awake : tapewrightlaw07_awake.f = some true := rfl
theorem eqT {s : List Int} {d e : List ByteArray} {l m : List Rat} {N M : Nat} (h : Ok s l N) (h' : Ok s m M) (hN : N ≤ 1000000000) (hd : d = tx l) (he : e = tx m) (hl : l = m) : tapewrightref05_Equal.f s d s e = some true := by
  subst hd he hl
  have h1 := h.le64
  rw [tapewrightref05_Equal.of _ _ _ _ ⟨by omega, by rw [tx_len]; omega⟩, decide_eq_true ⟨rfl, rfl⟩]
theorem KinkOrder (s : List Int) (d : List ByteArray) (s2 : List Int) (d2 : List ByteArray) : ∃ k, tapewrightlaw07_KinkOrder.f k s d s2 d2 = some true := by
  refine ⟨0 + 1, ?_⟩
  have hz : tapewrightlaw07_KinkOrder.j0 (0 + 1) true s d s2 d2 = some true := by rw [tapewrightlaw07_KinkOrder.j0, if_pos rfl, awake]; rfl
  rw [tapewrightlaw07_KinkOrder.f, tapewrightref05_Small.f, tapewrightref05_Small.f, Option.bind_some, Option.bind_some]
  by_cases h1 : small ⟨s, d⟩ = true
  case neg => rw [if_neg h1]; exact hz
  rw [if_pos h1]
  by_cases h2 : small ⟨s2, d2⟩ = true
  case neg => rw [Bool.not_eq_true] at h2; rw [h2]; exact hz
  rw [h2]
  clear hz
  have m1 := (small_parts h1).1
  have m2 := (small_parts h2).1
  show tapewrightlaw07_KinkOrder.j0 (0 + 1) false s d s2 d2 = some true
  rw [tapewrightlaw07_KinkOrder.j0, if_neg (by decide), kink_Max.of _ _ _ _ m1 m2, Option.bind_some]
  rcases both_cases h1 h2 with ⟨rfl, l, m, rfl, rfl, o1, o2⟩ | ⟨c, hc, hh⟩
  case inr => rw [hh]; dsimp only; rw [if_neg hc, if_pos (by rfl), awake]; rfl
  have hl := len_eq o1 o2
  have hn : (sz s).toNat = l.length := by have := o1.ln; omega
  have o3 := o1.max o2
  have w1 : (⟨#[49]⟩ : ByteArray).size ≤ 40000000000 := by decide
  have of := ok_fill o1.sh 1
  rw [tmax o1 o2]
  dsimp only
  rw [if_pos rfl, kink_Above.of _ _ _ _ (o3.sm (by decide)) m1, Option.bind_some, kink_Above.of _ _ _ _ (o3.sm (by decide)) m2, Option.bind_some, kink_Above.of _ _ _ _ m1 m1, Option.bind_some, tensor_Fill.of _ _ m1.1 w1, Option.bind_some, tabove o3 o1, tabove o3 o2, tabove o1 o1, ← rt_1, tfill o1.sh]
  dsimp only
  have a1 : List.zipWith qAbove (List.zipWith qMax l m) l = List.replicate (sz s).toNat 1 := zip_rep o3 o1 (fun i a b => by rw [List.getElem_zipWith]; unfold qAbove qMax; grind)
  have a2 : List.zipWith qAbove (List.zipWith qMax l m) m = List.replicate (sz s).toNat 1 := zip_rep o3 o2 (fun i a b => by rw [List.getElem_zipWith]; unfold qAbove qMax; grind)
  have a3 : List.zipWith qAbove l l = List.replicate (sz s).toNat 1 := zip_rep o1 o1 (fun i a b => by unfold qAbove; grind)
  rw [eqT (o3.above o1) of (by decide) rfl rfl a1, Option.bind_some, if_pos rfl, eqT (o3.above o2) of (by decide) rfl rfl a2, Option.bind_some, if_pos rfl, eqT (o1.above o1) of (by decide) rfl rfl a3, Option.bind_some, if_pos rfl, if_pos rfl, awake]
  rfl
end Go.Proofs.YtndkjpkgllmbnaaGreatDoor.Pure
