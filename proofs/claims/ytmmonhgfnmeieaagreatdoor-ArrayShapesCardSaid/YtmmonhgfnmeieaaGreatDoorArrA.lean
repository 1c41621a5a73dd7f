/- Grids of rational numbers: products, transposition. -/
import Derived.Test.YtmmonhgfnmeieaaGreatDoorTenV
-- mini
namespace Go.Proofs.YtmmonhgfnmeieaaGreatDoor.Ten
open Go Go.RowKit Go.ZPWords Go.Proofs.YtmmonhgfnmeieaaGreatDoor.Th Go.Proofs.YtmmonhgfnmeieaaGreatDoor.Th.Wh Go.Proofs.YtmmonhgfnmeieaaGreatDoor.Err
set_option linter.unusedVariables false
/-- r rows of c numbers. -/
def grid (r c : Nat) (f : Nat → Nat → Rat) : List Rat := (List.range r).flatMap fun i => (List.range c).map (f i)
theorem grid_zero (c : Nat) (f : Nat → Nat → Rat) : grid 0 c f = [] := rfl
theorem grid_succ (r c : Nat) (f : Nat → Nat → Rat) : grid (r + 1) c f = grid r c f ++ (List.range c).map (f r) := by
  unfold grid;rw [List.range_succ, List.flatMap_append]
  simp
theorem grid_len (r c : Nat) (f : Nat → Nat → Rat) : (grid r c f).length = r * c := by
  induction r with
  | zero => simp [grid_zero]
  | succ r ih => rw [grid_succ, List.length_append, ih, List.length_map, List.length_range, Nat.add_mul, Nat.one_mul]
theorem grid_get (c : Nat) (f : Nat → Nat → Rat) (k : Nat) (hk : k < c) : ∀ (r i : Nat), i < r → (grid r c f).getD (i * c + k) 0 = f i k := by
 intro r;induction r with
 | zero => intro i hi; omega
 | succ r ih =>
  intro i hi;rw [grid_succ];by_cases h : i < r
  · have hlt : i * c + k < (grid r c f).length := by
     rw [grid_len];have := Nat.mul_le_mul_right c (show i + 1 ≤ r from h);rw [Nat.add_mul, Nat.one_mul] at this;omega
    have := ih i h;simp only [List.getD_eq_getElem?_getD] at this ⊢;rw [List.getElem?_append_left hlt];exact this
  have e : i = r := by omega
  subst e;have hge : (grid i c f).length ≤ i * c + k := by rw [grid_len]; omega
  simp only [List.getD_eq_getElem?_getD];rw [List.getElem?_append_right hge, grid_len, Nat.add_sub_cancel_left];simp [hk]
theorem grid_congr {r c : Nat} {f g : Nat → Nat → Rat} (h : ∀ i k, i < r → k < c → f i k = g i k) : grid r c f = grid r c g := by
 induction r with
 | zero => rfl
 | succ r ih =>
  rw [grid_succ, grid_succ, ih (fun i k hi hk => h i k (by omega) hk)];congr 1;apply List.map_congr_left;intro k hk;exact h r k (by omega) (List.mem_range.1 hk)
theorem grid_eq {r c : Nat} {l : List Rat} (hl : l.length = r * c) : grid r c (fun i k => l.getD (i * c + k) 0) = l := by
 apply List.ext_getElem
 · rw [grid_len, hl]
 intro n h1 h2;rw [grid_len] at h1
 have hc : 0 < c := by
  rcases Nat.eq_zero_or_pos c with h | h
  · rw [h, Nat.mul_zero] at h1; omega
  exact h
 have hk : n % c < c := Nat.mod_lt _ hc;have hi : n / c < r := Nat.div_lt_of_lt_mul (by rw [Nat.mul_comm]; exact h1);have e : n / c * c + n % c = n := by rw [Nat.mul_comm]; exact Nat.div_add_mod n c
 have := grid_get c (fun i k => l.getD (i * c + k) 0) (n % c) hk r (n / c) hi;simp only [e] at this;simp only [List.getD_eq_getElem?_getD] at this;rw [List.getElem?_eq_getElem (by rw [grid_len]; exact h1), List.getElem?_eq_getElem h2] at this;exact this
/-- The sum of n numbers. -/
def sm (f : Nat → Rat) : Nat → Rat
  | 0 => 0
  | n + 1 => sm f n + f n
theorem sm_congr {f g : Nat → Rat} : ∀ {n : Nat}, (∀ j, j < n → f j = g j) → sm f n = sm g n
  | 0, _ => rfl
  | n + 1, h => by rw [sm, sm, sm_congr (fun j hj => h j (by omega)), h n (by omega)]
/-- The number in row i, column k. -/
def at_ (l : List Rat) (c i k : Nat) : Rat := l.getD (i * c + k) 0
/-- Rows by columns. -/
def mm (r n c : Nat) (A B : List Rat) : List Rat := grid r c (fun i k => sm (fun j => at_ A n i j * at_ B c j k) n)
/-- Rows are columns. -/
def tr (r c : Nat) (A : List Rat) : List Rat := grid c r (fun k i => at_ A c i k)
end Go.Proofs.YtmmonhgfnmeieaaGreatDoor.Ten
