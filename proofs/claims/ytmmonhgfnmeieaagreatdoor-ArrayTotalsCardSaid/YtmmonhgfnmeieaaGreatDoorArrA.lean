/- Grids of rational numbers: products, transposition. -/
import Derived.Test.YtmmonhgfnmeieaaGreatDoorTenV
-- mini
namespace Go.Proofs.YtmmonhgfnmeieaaGreatDoor.Ten
open Go Go.RowKit Go.ZPWords Go.Proofs.YtmmonhgfnmeieaaGreatDoor.Th Go.Proofs.YtmmonhgfnmeieaaGreatDoor.Th.Wh Go.Proofs.YtmmonhgfnmeieaaGreatDoor.Err
set_option linter.unusedVariables false
/-- r rows of c numbers. -/
def grid (r c : Nat) (f : Nat → Nat → Rat) : List Rat := (List.range r).flatMap fun i => (List.range c).map (f i)
theorem grid_zero (c : Nat) (f : Nat → Nat → Rat) : grid 0 c f = [] := rfl
theorem grid_succ (r c : Nat) (f : Nat → Nat → Rat) : grid (r + 1) c f = grid r c f ++ (List.range c).map (f r) := by
  unfold grid;rw [List.range_succ, List.flatMap_append]
  simp
theorem grid_len (r c : Nat) (f : Nat → Nat → Rat) : (grid r c f).length = r * c := by
  induction r with
  | zero => simp [grid_zero]
  | succ r ih => rw [grid_succ, List.length_append, ih, List.length_map, List.length_range, Nat.add_mul, Nat.one_mul]
theorem grid_get (c : Nat) (f : Nat → Nat → Rat) (k : Nat) (hk : k < c) : ∀ (r i : Nat), i < r → (grid r c f).getD (i * c + k) 0 = f i k := by
 intro r;induction r with
 | zero => intro i hi; omega
 | succ r ih =>
  intro i hi;rw [grid_succ];by_cases h : i < r
  · have hlt : i * c + k < (grid r c f).length := by
     rw [grid_len];have := Nat.mul_le_mul_right c (show i + 1 ≤ r from h);rw [Nat.add_mul, Nat.one_mul] at this;omega
    have := ih i h;simp only [List.getD_eq_getElem?_getD] at this ⊢;rw [List.getElem?_append_left hlt];exact this
  have e : i = r := by omega
  subst e;have hge : (grid i c f).length ≤ i * c + k := by rw [grid_len]; omega
  simp only [List.getD_eq_getElem?_getD];rw [List.getElem?_append_right hge, grid_len, Nat.add_sub_cancel_left];simp [hk]
theorem grid_congr {r c : Nat} {f g : Nat → Nat → Rat} (h : ∀ i k, i < r → k < c → f i k = g i k) : grid r c f = grid r c g := by
 induction r with
 | zero => rfl
 | succ r ih =>
  rw [grid_succ, grid_succ, ih (fun i k hi hk => h i k (by omega) hk)];congr 1;apply List.map_congr_left;intro k hk;exact h r k (by omega) (List.mem_range.1 hk)
theorem grid_eq {r c : Nat} {l : List Rat} (hl : l.length = r * c) : grid r c (fun i k => l.getD (i * c + k) 0) = l := by
 apply List.ext_getElem
 · rw [grid_len, hl]
 intro n h1 h2;rw [grid_len] at h1
 have hc : 0 < c := by
  rcases Nat.eq_zero_or_pos c with h | h
  · rw [h, Nat.mul_zero] at h1; omega
  exact h
 have hk : n % c < c := Nat.mod_lt _ hc;have hi : n / c < r := Nat.div_lt_of_lt_mul (by rw [Nat.mul_comm]; exact h1);have e : n / c * c + n % c = n := by rw [Nat.mul_comm]; exact Nat.div_add_mod n c
 have := grid_get c (fun i k => l.getD (i * c + k) 0) (n % c) hk r (n / c) hi;simp only [e] at this;simp only [List.getD_eq_getElem?_getD] at this;rw [List.getElem?_eq_getElem (by rw [grid_len]; exact h1), List.getElem?_eq_getElem h2] at this;exact this
/-- The sum of n numbers. -/
def sm (f : Nat → Rat) : Nat → Rat
  | 0 => 0
  | n + 1 => sm f n + f n
theorem sm_congr {f g : Nat → Rat} : ∀ {n : Nat}, (∀ j, j < n → f j = g j) → sm f n = sm g n
  | 0, _ => rfl
  | n + 1, h => by rw [sm, sm, sm_congr (fun j hj => h j (by omega)), h n (by omega)]
theorem sm_add (f g : Nat → Rat) : ∀ n : Nat, sm (fun j => f j + g j) n = sm f n + sm g n
  | 0 => by simp only [sm]; grind
  | n + 1 => by rw [sm, sm, sm, sm_add f g n]; grind
theorem sm_mul (f : Nat → Rat) (q : Rat) : ∀ n : Nat, sm (fun j => f j * q) n = sm f n * q
  | 0 => by simp only [sm]; grind
  | n + 1 => by rw [sm, sm, sm_mul f q n]; grind
theorem sm_mul' (f : Nat → Rat) (q : Rat) : ∀ n : Nat, sm (fun j => q * f j) n = q * sm f n
  | 0 => by simp only [sm]; grind
  | n + 1 => by rw [sm, sm, sm_mul' f q n]; grind
theorem sm_zero : ∀ n : Nat, sm (fun _ => 0) n = 0
  | 0 => rfl
  | n + 1 => by rw [sm, sm_zero n]; grind
theorem sm_swap (f : Nat → Nat → Rat) (m : Nat) : ∀ n : Nat, sm (fun j => sm (f j) m) n = sm (fun k => sm (fun j => f j k) n) m
  | 0 => by simp only [sm]; rw [sm_zero]
  | n + 1 => by
    rw [sm, sm_swap f m n, ← sm_add];exact sm_congr (fun j _ => rfl)
/-- The number in row i, column k. -/
def at_ (l : List Rat) (c i k : Nat) : Rat := l.getD (i * c + k) 0
/-- Rows by columns. -/
def mm (r n c : Nat) (A B : List Rat) : List Rat := grid r c (fun i k => sm (fun j => at_ A n i j * at_ B c j k) n)
/-- Rows are columns. -/
def tr (r c : Nat) (A : List Rat) : List Rat := grid c r (fun k i => at_ A c i k)
theorem at_mm {r n c : Nat} {A B : List Rat} {i k : Nat} (hi : i < r) (hk : k < c) : at_ (mm r n c A B) c i k = sm (fun j => at_ A n i j * at_ B c j k) n := grid_get c _ k hk r i hi
theorem at_tr {r c : Nat} {A : List Rat} {i k : Nat} (hi : i < r) (hk : k < c) : at_ (tr r c A) r k i = at_ A c i k := grid_get r _ i hi c k hk
theorem tr_mm (r n c : Nat) (A B : List Rat) : tr r c (mm r n c A B) = mm c n r (tr n c B) (tr r n A) := by
 show grid c r (fun k i => at_ (mm r n c A B) c i k) = grid c r (fun k i => sm (fun j => at_ (tr n c B) n k j * at_ (tr r n A) r j i) n);apply grid_congr;intro k i hk hi;rw [at_mm hi hk];apply sm_congr;intro j hj;have e1 : at_ (tr n c B) n k j = at_ B c j k := at_tr hj hk;have e2 : at_ (tr r n A) r j i = at_ A n i j := at_tr hi hj;rw [e1, e2, Rat.mul_comm]
theorem tr_tr {r c : Nat} {A : List Rat} (h : A.length = r * c) : tr c r (tr r c A) = A := by
  rw [tr];rw [grid_congr (g := fun i k => A.getD (i * c + k) 0) (fun i k hi hk => at_tr hi hk)];exact grid_eq h
theorem mm_add {r n c : Nat} {A B : List Rat} (hB : B.length = n * c) : mm r n c A (List.zipWith (· + ·) B B) = List.zipWith (· + ·) (mm r n c A B) (mm r n c A B) := by
 have key : ∀ (l : List Rat) (p : Nat), (List.zipWith (· + ·) l l).getD p 0 = l.getD p 0 + l.getD p 0 := by
  intro l p;simp only [List.getD_eq_getElem?_getD, List.getElem?_zipWith]
  cases h : l[p]? with
  | none => simp; grind
  | some x => simp
 have e : ∀ l : List Rat, l.length = r * c → List.zipWith (· + ·) l l = grid r c (fun i k => at_ l c i k + at_ l c i k) := by
  intro l hl;rw [← grid_eq (l := List.zipWith (· + ·) l l) (r := r) (c := c) (by rw [List.length_zipWith, hl]; omega)];apply grid_congr;intro i k _ _;exact key l _
 rw [e (mm r n c A B) (grid_len _ _ _)];show grid r c (fun i k => sm (fun j => at_ A n i j * at_ (List.zipWith (· + ·) B B) c j k) n) = _;apply grid_congr;intro i k hi hk;rw [at_mm hi hk, ← sm_add];apply sm_congr;intro j hj;have : at_ (List.zipWith (· + ·) B B) c j k = at_ B c j k + at_ B c j k := key B _;rw [this];grind
theorem mm_assoc (r n m c : Nat) (A B C : List Rat) : mm r m c (mm r n m A B) C = mm r n c A (mm n m c B C) := by
 show grid r c (fun i k => sm (fun j => at_ (mm r n m A B) m i j * at_ C c j k) m) = grid r c (fun i k => sm (fun p => at_ A n i p * at_ (mm n m c B C) c p k) n);apply grid_congr;intro i k hi hk
 have e1 : sm (fun j => at_ (mm r n m A B) m i j * at_ C c j k) m = sm (fun j => sm (fun p => at_ A n i p * at_ B m p j * at_ C c j k) n) m := by
  apply sm_congr;intro j hj;rw [at_mm hi hj, ← sm_mul]
 have e2 : sm (fun p => at_ A n i p * at_ (mm n m c B C) c p k) n = sm (fun p => sm (fun j => at_ A n i p * at_ B m p j * at_ C c j k) m) n := by
  apply sm_congr;intro p hp;rw [at_mm hp hk, ← sm_mul'];apply sm_congr;intro j _;rw [Rat.mul_assoc]
 rw [e1, e2, sm_swap]
end Go.Proofs.YtmmonhgfnmeieaaGreatDoor.Ten
