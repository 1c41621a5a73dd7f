/- array: what its functions answer, as functions of what lies in memory. -/
import Derived.Test.YtmmonhgfnmeieaaGreatDoorArrA
-- mini
namespace Go.Proofs.YtmmonhgfnmeieaaGreatDoor.Ten
open Go Go.RowKit Go.ZPWords Go.Proofs.YtmmonhgfnmeieaaGreatDoor.Th Go.Proofs.YtmmonhgfnmeieaaGreatDoor.Th.Wh Go.Proofs.YtmmonhgfnmeieaaGreatDoor.Err
set_option linter.unusedVariables false
/-- The numbers that texts tell. -/
noncomputable def rvl (d : List ByteArray) : List Rat := d.map fun x => (rv x).getD 0
theorem rvl_tx (l : List Rat) : rvl (tx l) = l := by
  unfold rvl tx;rw [List.map_map]
  have : ((fun x => (rv x).getD 0) ∘ rt) = id := by funext x; simp [rv_rt]
  rw [this, List.map_id]
/-- .. short enough for products. -/
def Sm1 (s : List Int) (d : List ByteArray) : Prop := Sm s d ∧ ∀ x ∈ d, x.size ≤ 100000000
noncomputable def tMat (a b : TV) : TV × Int :=
  if tRight a = true then if tRight b = true then if a.s.length = 2 ∧ b.s.length = 2 ∧ rd a.s 1 = rd b.s 0 then if shOk [rd a.s 0, rd b.s 1] = true then
    (⟨[rd a.s 0, rd b.s 1], tx (mm (rd a.s 0).toNat (rd a.s 1).toNat (rd b.s 1).toNat (rvl a.d) (rvl b.d))⟩, 0) else (nilT, 4) else (nilT, 4) else (nilT, 1) else (nilT, 1)
noncomputable def tTr (t : TV) : TV × Int := if tRight t = true then if t.s.length = 2 then (⟨[rd t.s 1, rd t.s 0], tx (tr (rd t.s 0).toNat (rd t.s 1).toNat (rvl t.d))⟩, 0) else (nilT, 4) else (nilT, 1)
noncomputable def tShape (t : TV) (s : List Int) : TV × Int := if tRight t = true then if shOk s = true then if size s = (t.d.length : Int) then (⟨s, t.d⟩, 0) else (nilT, 4) else (nilT, 1) else (nilT, 1)
noncomputable def tTotal (t : TV) : TV × Int := if tRight t = true then (⟨[], [accS t.d]⟩, 0) else (nilT, 1)
noncomputable def tSpread (t : TV) (s : List Int) : TV × Int := if tRight t = true then if shOk s = true then if t.s.length = 0 then tFill s (rdOf ByteArray.empty t.d 0) else (nilT, 4) else (nilT, 1) else (nilT, 1)
theorem rdOf_txD (l : List Rat) (p : Nat) (h : p < l.length) : rdOf ByteArray.empty (tx l) (p : Int) = rt (l.getD p 0) := by
  rw [rdOf_tx l p h]
  simp [List.getD_eq_getElem?_getD, h]
theorem qm_getD {l : List Rat} {N : Nat} (h : ∀ x ∈ l, qm x ≤ N) (hN : 1 ≤ N) (p : Nat) : qm (l.getD p 0) ≤ N := by
 by_cases hp : p < l.length
 · have : l.getD p 0 = l[p] := by simp [List.getD_eq_getElem?_getD, hp]
   rw [this];exact h _ (List.getElem_mem hp)
 have : l.getD p 0 = 0 := by simp [List.getD_eq_getElem?_getD, hp]
 rw [this];exact Nat.le_trans (by decide +kernel : qm 0 ≤ 1) hN
theorem qm_sm {f : Nat → Rat} {K : Nat} (h : ∀ j, qm (f j) ≤ K) : ∀ n : Nat, qm (sm f n) ≤ n * (K + 1) + 1
  | 0 => Nat.le_trans (by decide +kernel : qm 0 ≤ 1) (by omega)
  | n + 1 => by
    rw [sm, Nat.add_mul, Nat.one_mul];have := qa (qm_sm h n) (h n)
    omega
theorem tx_app (l m : List Rat) : tx (l ++ m) = tx l ++ tx m := by unfold tx; rw [List.map_append]
theorem lt_mul {i k r c : Nat} (hi : i < r) (hk : k < c) : i * c + k < r * c := by
  have := Nat.mul_le_mul_right c (show i + 1 ≤ r from hi);rw [Nat.add_mul, Nat.one_mul] at this
  omega
theorem wr {i k c : Nat} (hi : i ≤ 64) (hc : c ≤ 64) (hk : k ≤ 64) : wrap64 (wrap64 ((i : Int) * (c : Int)) + (k : Int)) = ((i * c + k : Nat) : Int) := by
 have h := Nat.mul_le_mul hi hc;have e : (i : Int) * (c : Int) = ((i * c : Nat) : Int) := by rw [Int.natCast_mul]
 rw [e];generalize i * c = m at *;unfold wrap64;omega
theorem w1 {i : Nat} (hi : i ≤ 64) : wrap64 ((i : Int) + 1) = ((i + 1 : Nat) : Int) := by unfold wrap64; omega
theorem two_of {s : List Int} (h : s.length = 2) : ∃ x y, s = [x, y] := by
  match s, h with
  | [x, y], _ => exact ⟨x, y, rfl⟩
theorem two_ok {x y : Int} {l : List Rat} {N : Nat} (h : Ok [x, y] l N) : ∃ r c : Nat, x = r ∧ y = c ∧ r ≤ 64 ∧ c ≤ 64 ∧ 1 ≤ r ∧ 1 ≤ c ∧ l.length = r * c := by
 have hp := (shOk_parts h.sh).1;have hl := h.ln;rw [List.all_cons, List.all_cons, Bool.and_eq_true, Bool.and_eq_true, in64_iff, in64_iff] at hp;obtain ⟨r, rfl⟩ := Int.eq_ofNat_of_zero_le (show 0 ≤ x by omega);obtain ⟨c, rfl⟩ := Int.eq_ofNat_of_zero_le (show 0 ≤ y by omega);refine ⟨r, c, rfl, rfl, by omega, by omega, by omega, by omega, ?_⟩
 have e : sz [(r : Int), (c : Int)] = ((r * c : Nat) : Int) := by
  show (r : Int) * ((c : Int) * 1) = _;rw [Int.mul_one, Int.natCast_mul]
 rw [e] at hl;exact Int.ofNat.inj hl
end Go.Proofs.YtmmonhgfnmeieaaGreatDoor.Ten
