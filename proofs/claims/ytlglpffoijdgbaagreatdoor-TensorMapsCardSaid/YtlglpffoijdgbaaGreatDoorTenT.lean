/- Tensors: what their functions answer, as functions of what lies in memory. -/
import Derived.Test.YtlglpffoijdgbaaGreatDoorTenA
import Derived.Test.YtlglpffoijdgbaaGreatDoorRatOa
import Derived.Test.YtlglpffoijdgbaaGreatDoorRatOs
import Derived.Test.YtlglpffoijdgbaaGreatDoorRatMp
-- mini
namespace Go.Proofs.YtlglpffoijdgbaaGreatDoor.Ten
open Go Go.RowKit Go.ZPWords Go.ZPMore Go.ZPLast Go.Proofs.YtlglpffoijdgbaaGreatDoor.PC Go.Proofs.YtlglpffoijdgbaaGreatDoor.Th Go.Proofs.YtlglpffoijdgbaaGreatDoor.Th.Wh Go.Proofs.YtlglpffoijdgbaaGreatDoor.Err
set_option linter.unusedVariables false
/-- Short enough for the walks. -/
def Sm (s : List Int) (d : List ByteArray) : Prop := s.length ≤ 1000 ∧ d.length ≤ 1000 ∧ ∀ x ∈ d, x.size ≤ 3000000000
theorem Sm.big {s : List Int} {d : List ByteArray} (h : Sm s d) : ∀ x ∈ d, x.size ≤ 40000000000 := fun x hx => Nat.le_trans (h.2.2 x hx) (by decide)
def nilT : TV := ⟨[], []⟩
theorem tRight_all {t : TV} (h : tRight t = true) : ∀ x ∈ t.d, rRight x = true := by
  unfold tRight at h;rw [Bool.and_eq_true, Bool.not_eq_true'] at h;intro x hx;have h2 := h.2;rw [List.any_eq_false] at h2;have := h2 x hx;unfold nr at this
  simpa using this
theorem tRight_sh {t : TV} (h : tRight t = true) : shOk t.s = true ∧ (t.d.length : Int) = sz t.s := by
  unfold tRight at h;rw [Bool.and_eq_true, Bool.and_eq_true, beq_iff_eq] at h;refine ⟨h.1.1, ?_⟩;rw [h.1.2, size, if_pos h.1.1]
theorem rRight_some {x : ByteArray} (h : rRight x = true) : ∃ q, rv x = some q := by
  unfold rRight at h;exact Option.isSome_iff_exists.1 h
theorem rMul_ok {x y : ByteArray} (h : rRight x = true) (h' : rRight y = true) : (rMul x y).2 = 0 := by
  obtain ⟨p, hp⟩ := rRight_some h;obtain ⟨q, hq⟩ := rRight_some h';rw [rMul, hp, hq]
theorem rAdd_ok {x y : ByteArray} (h : rRight x = true) (h' : rRight y = true) : (rAdd x y).2 = 0 := by
  obtain ⟨p, hp⟩ := rRight_some h;obtain ⟨q, hq⟩ := rRight_some h';rw [rAdd, hp, hq]
theorem rSub_ok {x y : ByteArray} (h : rRight x = true) (h' : rRight y = true) : (rSub x y).2 = 0 := by
  obtain ⟨p, hp⟩ := rRight_some h;obtain ⟨q, hq⟩ := rRight_some h';rw [rSub, hp, hq]
theorem rPower_ok {x : ByteArray} {n : Int} (h : rRight x = true) (h0 : 0 ≤ n) (h6 : n ≤ 6) : (rPower x n).2 = 0 := by
  obtain ⟨p, hp⟩ := rRight_some h;rw [rPower, hp];dsimp only;rw [if_neg (by omega)]
theorem map_at {α : Type} (d : List ByteArray) (f : ByteArray → α) : ((List.range d.length).map fun (i : Nat) => f (rdOf ByteArray.empty d (i : Int))) = d.map f := by
 apply List.ext_getElem
 · simp
 intro i h1 h2;simp only [List.length_map, List.length_range] at h1;simp [rdOf, List.getD, h1]
theorem zip_at {α : Type} (d d' : List ByteArray) (f : ByteArray → ByteArray → α) (h : d.length = d'.length) : ((List.range d.length).map fun (i : Nat) => f (rdOf ByteArray.empty d (i : Int)) (rdOf ByteArray.empty d' (i : Int))) = List.zipWith f d d' := by
 apply List.ext_getElem
 · simp; omega
 intro i h1 h2;simp only [List.length_map, List.length_range] at h1;have h3 : i < d'.length := by omega
 simp [rdOf, List.getD, h1, h3]
noncomputable def tScale (t : TV) (k : ByteArray) : TV × Int := if tRight t = true then if rRight k = true then (⟨t.s, t.d.map fun x => (rMul x k).1⟩, 0) else (nilT, 1) else (nilT, 1)
noncomputable def tPower (t : TV) (n : Int) : TV × Int := if tRight t = true then if 0 ≤ n ∧ n ≤ 6 then (⟨t.s, t.d.map fun x => (rPower x n).1⟩, 0) else (nilT, 1) else (nilT, 1)
noncomputable def tFill (s : List Int) (k : ByteArray) : TV × Int := if shOk s = true then if rRight k = true then (⟨s, List.replicate (size s).toNat k⟩, 0) else (nilT, 1) else (nilT, 1)
noncomputable def accS (d : List ByteArray) : ByteArray := d.foldl (fun a x => (rAdd a x).1) ⟨#[48]⟩
noncomputable def tSum (t : TV) : ByteArray × Int := if tRight t = true then (accS t.d, 0) else (⟨#[]⟩, 1)
noncomputable def opf (op : ByteArray) : Option (ByteArray → ByteArray → ByteArray × Int) := if op = ⟨#[97, 100, 100]⟩ then some rAdd else if op = ⟨#[115, 117, 98]⟩ then some rSub else if op = ⟨#[109, 117, 108]⟩ then some rMul else none
noncomputable def tZip (op : ByteArray) (a b : TV) : TV × Int := match opf op with
  | none => (nilT, 1)
  | some rf => if tRight a = true then if tRight b = true then if a.s = b.s then (⟨a.s, List.zipWith (fun x y => (rf x y).1) a.d b.d⟩, 0) else (nilT, 4) else (nilT, 1) else (nilT, 1)
/-- What a function that hands back a tensor and a number leaves. -/
def Res (w : World) (r : TV × Int) (e : Ending) (w' : World) : Prop := ∃ v0_ v1_ : Value, e = .returned (.tuple #[.agg #[v0_, v1_], .int .i64 r.2]) ∧ Kd.R (Kd.int .i64) 3 w' w.heap.size (fun _ => True) v0_ r.1.s ∧ Kd.R Kd.string 9 w' w.heap.size (fun _ => True) v1_ r.1.d ∧ Below w.heap.size w w'
end Go.Proofs.YtlglpffoijdgbaaGreatDoor.Ten
