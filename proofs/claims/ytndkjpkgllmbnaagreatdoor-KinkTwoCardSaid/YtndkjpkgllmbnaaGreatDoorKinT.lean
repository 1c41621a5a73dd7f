/- kink: what its functions answer, as functions of what lies in memory. -/
import Derived.Test.YtndkjpkgllmbnaaGreatDoorTenT
import Derived.Test.YtndkjpkgllmbnaaGreatDoorRatMn
import Derived.Test.YtndkjpkgllmbnaaGreatDoorRatMc
-- mini
namespace Go.Proofs.YtndkjpkgllmbnaaGreatDoor.Ten
open Go Go.RowKit Go.ZPWords Go.Proofs.YtndkjpkgllmbnaaGreatDoor.Th Go.Proofs.YtndkjpkgllmbnaaGreatDoor.Th.Wh Go.Proofs.YtndkjpkgllmbnaaGreatDoor.Err
noncomputable def kOne (k : Int) (x : ByteArray) : ByteArray :=
  if k = 0 then (if 0 < (rSign x).1 then x else ⟨#[48]⟩) else if k = 2 then (if 0 ≤ (rSign x).1 then x else (rNeg x).1) else if k = 1 then (if 0 < (rSign x).1 then ⟨#[49]⟩ else ⟨#[48]⟩) else (if 0 < (rSign x).1 then ⟨#[49]⟩ else if (rSign x).1 = 0 then ⟨#[48]⟩ else ⟨#[45, 49]⟩)
noncomputable def tEach (k : Int) (t : TV) : TV × Int := if tRight t = true then (⟨t.s, t.d.map (kOne k)⟩, 0) else (nilT, 1)
open Classical in
noncomputable def tFlat (t : TV) : Bool × Int := if tRight t = true then (decide ((⟨#[48]⟩ : ByteArray) ∈ t.d), 0) else (false, 1)
/-- What is picked of two numbers. -/
noncomputable def kF (pick : ByteArray → ByteArray → Bool → ByteArray) (x y : ByteArray) : ByteArray := pick x y (decide ((rCompare x y).1 ≥ 0))
noncomputable def tBoth (pick : ByteArray → ByteArray → Bool → ByteArray) (a b : TV) : TV × Int :=
  if tRight a = true then if tRight b = true then if a.s = b.s then (⟨a.s, List.zipWith (kF pick) a.d b.d⟩, 0) else (nilT, 4) else (nilT, 1) else (nilT, 1)
def pMax (x y : ByteArray) (b : Bool) : ByteArray := if b = true then x else y
def pAbove (_ _ : ByteArray) (b : Bool) : ByteArray := if b = true then ⟨#[49]⟩ else ⟨#[48]⟩
end Go.Proofs.YtndkjpkgllmbnaaGreatDoor.Ten
