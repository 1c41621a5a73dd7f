/- Tensors of rational numbers: what tensor's functions make of them. -/
import Derived.Test.YtmmonhgfnmeieaaGreatDoorTenT
-- mini
namespace Go.Proofs.YtmmonhgfnmeieaaGreatDoor.Ten
open Go Go.RowKit Go.ZPWords Go.ZPMore Go.Proofs.YtmmonhgfnmeieaaGreatDoor.PC Go.Proofs.YtmmonhgfnmeieaaGreatDoor.Th Go.Proofs.YtmmonhgfnmeieaaGreatDoor.Th.Wh Go.Proofs.YtmmonhgfnmeieaaGreatDoor.Err
set_option linter.unusedVariables false
/-- Texts of numbers. -/
def tx (l : List Rat) : List ByteArray := l.map rt
theorem tx_len (l : List Rat) : (tx l).length = l.length := by simp [tx]
/-- Numbers in a shape, none of more than N digits. -/
structure Ok (s : List Int) (l : List Rat) (N : Nat) : Prop where
  sh : shOk s = true
  ln : (l.length : Int) = sz s
  bd : ∀ x ∈ l, qm x ≤ N
theorem Ok.le64 {s : List Int} {l : List Rat} {N : Nat} (h : Ok s l N) : l.length ≤ 64 ∧ 1 ≤ l.length ∧ s.length ≤ 4 := by
  have hp := shOk_parts h.sh;have h1 := sz_pos hp.1;have := h.ln;have := hp.2.2;exact ⟨by omega, by omega, hp.2.1⟩
theorem Ok.sm {s : List Int} {l : List Rat} {N : Nat} (h : Ok s l N) (hN : N ≤ 1000000000) : Sm s (tx l) := by
  have h1 := h.le64;refine ⟨by omega, by rw [tx_len]; omega, fun x hx => ?_⟩;obtain ⟨q, hq, rfl⟩ := List.mem_map.1 hx;exact (fr (Nat.le_trans (h.bd q hq) hN) (Nat.le_refl _)).size'
theorem nr_rt (x : Rat) : nr (rt x) = false := by unfold nr; rw [rRight_rt]; rfl
theorem Ok.right {s : List Int} {l : List Rat} {N : Nat} (h : Ok s l N) : tRight ⟨s, tx l⟩ = true := by
 unfold tRight;dsimp only
 have h2 : ((tx l).any nr) = false := by
  rw [List.any_eq_false];intro x hx;obtain ⟨q, _, rfl⟩ := List.mem_map.1 hx;rw [nr_rt]; decide
 rw [h2, h.sh, size, if_pos h.sh, tx_len, h.ln];simp
theorem right_some' {s : List Int} {d : List ByteArray} {n : Nat} (h : tRight ⟨s, d⟩ = true) (hd : ∀ x ∈ d, x.size ≤ n) : ∃ l, d = tx l ∧ Ok s l n := by
 have ha := tRight_all h;have hs := tRight_sh h;dsimp only at ha hs
 have key : ∀ d : List ByteArray, (∀ x ∈ d, rRight x = true) → (∀ x ∈ d, x.size ≤ n) → ∃ l : List Rat, d = tx l ∧ ∀ x ∈ l, qm x ≤ n := by
  intro d;induction d with
  | nil => exact fun _ _ => ⟨[], rfl, by simp⟩
  | cons x d ih =>
   intro h1 h2;obtain ⟨l, rfl, hl⟩ := ih (fun y hy => h1 y (List.mem_cons_of_mem _ hy)) (fun y hy => h2 y (List.mem_cons_of_mem _ hy));obtain ⟨q, rfl⟩ := right_some (h1 x List.mem_cons_self);refine ⟨q :: l, rfl, fun y hy => ?_⟩;rcases List.mem_cons.1 hy with rfl | hy
   · exact Nat.le_trans (qm_le y) (h2 _ List.mem_cons_self)
   exact hl y hy
 obtain ⟨l, rfl, hl⟩ := key d ha hd;exact ⟨l, rfl, hs.1, by rw [← hs.2, tx_len], hl⟩
theorem small_parts {s : List Int} {d : List ByteArray} (h : small ⟨s, d⟩ = true) : Sm s d ∧ ∀ x ∈ d, x.size ≤ 40 := by
  unfold small at h;dsimp only at h;rw [Bool.and_eq_true, Bool.and_eq_true, decide_eq_true_eq, decide_eq_true_eq, List.all_eq_true] at h
  have h2 : ∀ x ∈ d, x.size ≤ 40 := fun x hx => by simpa using h.2 x hx
  exact ⟨⟨by omega, by omega, fun x hx => Nat.le_trans (h2 x hx) (by decide)⟩, h2⟩
/-- A short tensor is none, or has numbers. -/
theorem cases_t {s : List Int} {d : List ByteArray} (h : small ⟨s, d⟩ = true) : tRight ⟨s, d⟩ = false ∨ ∃ l, d = tx l ∧ Ok s l 40 := by
  cases ht : tRight ⟨s, d⟩ with
  | false => exact Or.inl rfl
  | true => exact Or.inr (right_some' ht (small_parts h).2)
theorem Ok.map {s : List Int} {l : List Rat} {N K : Nat} (h : Ok s l N) (f : Rat → Rat) (hf : ∀ x, qm x ≤ N → qm (f x) ≤ K) : Ok s (l.map f) K := by
  refine ⟨h.sh, by rw [List.length_map]; exact h.ln, fun z hz => ?_⟩;obtain ⟨x, hx, rfl⟩ := List.mem_map.1 hz;exact hf x (h.bd x hx)
theorem rAdd_rt (x y : Rat) : rAdd (rt x) (rt y) = (rt (x + y), 0) := by rw [rAdd, rv_rt, rv_rt]
theorem rMul_rt (x y : Rat) : rMul (rt x) (rt y) = (rt (x * y), 0) := by rw [rMul, rv_rt, rv_rt]
theorem Ok.by {s : List Int} {l : List Rat} {N M : Nat} (h : Ok s l N) {k : Rat} (hk : qm k ≤ M) : Ok s (l.map (· * k)) (N + M) := h.map _ (fun _ hx => qx hx hk)
theorem tx_rep (n : Nat) (k : Rat) : List.replicate n (rt k) = tx (List.replicate n k) := by simp [tx]
theorem tfill {s : List Int} (h : shOk s = true) (k : Rat) : tFill s (rt k) = (⟨s, tx (List.replicate (sz s).toNat k)⟩, 0) := by
  unfold tFill;rw [if_pos h, if_pos (rRight_rt k), size, if_pos h, tx_rep]
/-- The sum of numbers. -/
def su (l : List Rat) : Rat := l.foldl (· + ·) 0
theorem su_acc (l : List Rat) : ∀ a : Rat, l.foldl (· + ·) a = a + su l := by
 unfold su;induction l with
 | nil => intro a; simp [Rat.add_zero]
 | cons x l ih =>
  intro a;rw [List.foldl_cons, List.foldl_cons, ih (a + x), ih (0 + x)];grind
theorem su_cons (x : Rat) (l : List Rat) : su (x :: l) = x + su l := by
  rw [su, List.foldl_cons, su_acc]
  grind
theorem su_nil : su [] = 0 := rfl
theorem acc_tx (l : List Rat) : ∀ a : Rat, (tx l).foldl (fun a x => (rAdd a x).1) (rt a) = rt (l.foldl (· + ·) a) := by
 induction l with
 | nil => intro a; rfl
 | cons x l ih =>
  intro a;show (tx l).foldl (fun a x => (rAdd a x).1) (rAdd (rt a) (rt x)).1 = _;rw [rAdd_rt, ih (a + x)]; rfl
theorem accS_tx (l : List Rat) : accS (tx l) = rt (su l) := by
  unfold accS su;rw [← acc_tx l 0, rt_0]
theorem qm_su {N : Nat} (l : List Rat) (h : ∀ x ∈ l, qm x ≤ N) : qm (su l) ≤ l.length * (N + 1) + 1 := by
 induction l with
 | nil =>
  rw [su_nil];exact Nat.le_trans (by decide +kernel : qm 0 ≤ 1) (by simp)
 | cons x l ih =>
  rw [su_cons];have h1 := ih (fun y hy => h y (List.mem_cons_of_mem _ hy));have h2 := qa (h x List.mem_cons_self) h1;rw [List.length_cons, Nat.add_mul];omega
theorem Ok.su {s : List Int} {l : List Rat} {N : Nat} (h : Ok s l N) : qm (su l) ≤ 64 * (N + 1) + 1 := by
  have h1 := qm_su l h.bd;have h2 := Nat.mul_le_mul_right (N + 1) h.le64.1
  omega
theorem rt_2 : rt 2 = (⟨#[50]⟩ : ByteArray) := by decide +kernel
theorem rt_3 : rt 3 = (⟨#[51]⟩ : ByteArray) := by decide +kernel
end Go.Proofs.YtmmonhgfnmeieaaGreatDoor.Ten
/- Tensors of rational numbers: two at once; what is refused. -/
namespace Go.Proofs.YtmmonhgfnmeieaaGreatDoor.Ten
open Go Go.RowKit Go.ZPWords Go.Proofs.YtmmonhgfnmeieaaGreatDoor.PC Go.Proofs.YtmmonhgfnmeieaaGreatDoor.Th Go.Proofs.YtmmonhgfnmeieaaGreatDoor.Th.Wh Go.Proofs.YtmmonhgfnmeieaaGreatDoor.Err
set_option linter.unusedVariables false
theorem rdOf_tx (l : List Rat) (p : Nat) (h : p < l.length) : rdOf ByteArray.empty (tx l) (p : Int) = rt l[p] := by
  simp [rdOf, tx, List.getD, h]
end Go.Proofs.YtmmonhgfnmeieaaGreatDoor.Ten
