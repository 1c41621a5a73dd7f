/- TensorLaws: the plain law. -/
import Derived.Test.YtlglpffoijdgbaaGreatDoorTenV
import Derived.Test.YtlglpffoijdgbaaGreatDoorPureAwQL
import Derived.Test.YtlglpffoijdgbaaGreatDoorPQLx2
namespace Go.Proofs.YtlglpffoijdgbaaGreatDoor.Pure
open Go Go.RowKit Go.Proofs.YtlglpffoijdgbaaGreatDoorW.PrintWords Go.Proofs.YtlglpffoijdgbaaGreatDoor.PQL Go.Proofs.YtlglpffoijdgbaaGreatDoor.Err Go.Proofs.YtlglpffoijdgbaaGreatDoor.Ten
set_option linter.unusedVariables false
theorem TensorLaws (s : List Int) (d : List ByteArray) (s2 : List Int) (d2 : List ByteArray) : ∃ k, tapewrightlaw05_TensorLaws.f k s d s2 d2 = some true := by
  refine ⟨0 + 1, ?_⟩
  have hz : tapewrightlaw05_TensorLaws.j0 (0 + 1) true s d s2 d2 = some true := by rw [tapewrightlaw05_TensorLaws.j0, if_pos rfl, awake]; rfl
  rw [tapewrightlaw05_TensorLaws.f, tapewrightref05_Small.f, tapewrightref05_Small.f, Option.bind_some, Option.bind_some]
  by_cases h1 : small ⟨s, d⟩ = true
  case neg => rw [if_neg h1]; exact hz
  rw [if_pos h1]
  by_cases h2 : small ⟨s2, d2⟩ = true
  case neg => rw [Bool.not_eq_true] at h2; rw [h2]; exact hz
  rw [h2]
  clear hz
  have m1 := (small_parts h1).1
  have m2 := (small_parts h2).1
  have mx : Sml (tScale ⟨s2, d2⟩ ⟨#[45, 49]⟩) := sml_scale h2 (by decide)
  show tapewrightlaw05_TensorLaws.j0 (0 + 1) false s d s2 d2 = some true
  rw [tapewrightlaw05_TensorLaws.j0, if_neg (by decide), tensor_Zip.of _ _ _ _ _ m1 m2, Option.bind_some, tensor_Zip.of _ _ _ _ _ m2 m1, Option.bind_some, tensor_Zip.of _ _ _ _ _ m1 m2, Option.bind_some, tensor_Scale.of _ _ _ m2 (by decide), Option.bind_some, tensor_Zip.of _ _ _ _ _ m1 mx, Option.bind_some]
  rcases pair_cases h1 h2 with ⟨rfl, l, m, rfl, rfl, o1, o2⟩ | ⟨c, hc, hh⟩
  · have o3 := o1.add o2
    have o4 := o2.by (k := -1) (M := 40) (by decide +kernel)
    have p1 := ok_one (su l) o1.su
    have p2 := ok_one (su m) o2.su
    rw [tadd o1 o2, tadd o2 o1, tsub o1 o2, ← rt_m1, tscale o2, tadd o1 o4]
    dsimp only
    rw [if_pos rfl, tensor_Sum.of _ _ m1 (o1.acc (by decide)), Option.bind_some, tensor_Sum.of _ _ m2 (o2.acc (by decide)), Option.bind_some, tensor_Sum.of _ _ (o3.sm (by decide)) (o3.acc (by decide)), Option.bind_some, tsum o1, tsum o2, tsum o3]
    dsimp only
    rw [show ([rt (su l)] : List ByteArray) = tx [su l] from rfl, show ([rt (su m)] : List ByteArray) = tx [su m] from rfl, tensor_Zip.of _ _ _ _ _ (p1.sm (by decide)) (p2.sm (by decide)), Option.bind_some, tadd p1 p2]
    have e1 : List.zipWith (· + ·) l m = List.zipWith (· + ·) m l := zw_comm _ (fun x y => Rat.add_comm x y) l m
    have e2 : List.zipWith (· - ·) l m = List.zipWith (· + ·) l (m.map (· * -1)) := by
      rw [List.zipWith_map_right]
      congr 1
      funext x y
      grind
    have ls := m1.1
    have l3 := (o3.sm (by decide)).2.1
    have l4 := ((o1.sub o2).sm (by decide)).2.1
    dsimp only
    rw [tapewrightref05_Equal.of _ _ _ _ ⟨by omega, by omega⟩, Option.bind_some, decide_eq_true (by rw [e1]; exact ⟨rfl, rfl⟩), if_pos rfl, tapewrightref05_Equal.of _ _ _ _ ⟨by omega, by omega⟩, Option.bind_some, decide_eq_true (by rw [e2]; exact ⟨rfl, rfl⟩), if_pos rfl, if_pos rfl,
      show List.zipWith (· + ·) [su l] [su m] = [su l + su m] from rfl, if_pos (by rfl), if_pos (by simp [tx]), show rdOf ByteArray.empty (tx [su l + su m]) 0 = rt (su l + su m) from rfl, su_add (len_eq o1 o2), if_pos rfl, awake]
    rfl
  · rw [(hh _ _ opf_add).1, (hh _ _ opf_add).2]
    dsimp only
    rw [if_neg hc, if_pos rfl, if_pos (by rfl), awake]
    rfl
end Go.Proofs.YtlglpffoijdgbaaGreatDoor.Pure
