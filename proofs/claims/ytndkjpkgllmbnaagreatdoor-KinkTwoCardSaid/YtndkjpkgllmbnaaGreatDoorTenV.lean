/- Tensors of rational numbers: what tensor's functions make of them. -/
import Derived.Test.YtndkjpkgllmbnaaGreatDoorTenT
-- mini
namespace Go.Proofs.YtndkjpkgllmbnaaGreatDoor.Ten
open Go Go.RowKit Go.ZPWords Go.ZPMore Go.Proofs.YtndkjpkgllmbnaaGreatDoor.PC Go.Proofs.YtndkjpkgllmbnaaGreatDoor.Th Go.Proofs.YtndkjpkgllmbnaaGreatDoor.Th.Wh Go.Proofs.YtndkjpkgllmbnaaGreatDoor.Err
set_option linter.unusedVariables false
/-- Texts of numbers. -/
def tx (l : List Rat) : List ByteArray := l.map rt
theorem tx_len (l : List Rat) : (tx l).length = l.length := by simp [tx]
/-- Numbers in a shape, none of more than N digits. -/
structure Ok (s : List Int) (l : List Rat) (N : Nat) : Prop where
  sh : shOk s = true
  ln : (l.length : Int) = sz s
  bd : ∀ x ∈ l, qm x ≤ N
theorem Ok.le64 {s : List Int} {l : List Rat} {N : Nat} (h : Ok s l N) : l.length ≤ 64 ∧ 1 ≤ l.length ∧ s.length ≤ 4 := by
  have hp := shOk_parts h.sh;have h1 := sz_pos hp.1;have := h.ln;have := hp.2.2;exact ⟨by omega, by omega, hp.2.1⟩
theorem Ok.sm {s : List Int} {l : List Rat} {N : Nat} (h : Ok s l N) (hN : N ≤ 1000000000) : Sm s (tx l) := by
  have h1 := h.le64;refine ⟨by omega, by rw [tx_len]; omega, fun x hx => ?_⟩;obtain ⟨q, hq, rfl⟩ := List.mem_map.1 hx;exact (fr (Nat.le_trans (h.bd q hq) hN) (Nat.le_refl _)).size'
theorem nr_rt (x : Rat) : nr (rt x) = false := by unfold nr; rw [rRight_rt]; rfl
theorem Ok.right {s : List Int} {l : List Rat} {N : Nat} (h : Ok s l N) : tRight ⟨s, tx l⟩ = true := by
  unfold tRight;dsimp only
  have h2 : ((tx l).any nr) = false := by
    rw [List.any_eq_false];intro x hx;obtain ⟨q, _, rfl⟩ := List.mem_map.1 hx;rw [nr_rt]; decide
  rw [h2, h.sh, size, if_pos h.sh, tx_len, h.ln]
  simp
theorem right_some' {s : List Int} {d : List ByteArray} {n : Nat} (h : tRight ⟨s, d⟩ = true) (hd : ∀ x ∈ d, x.size ≤ n) : ∃ l, d = tx l ∧ Ok s l n := by
  have ha := tRight_all h;have hs := tRight_sh h;dsimp only at ha hs
  have key : ∀ d : List ByteArray, (∀ x ∈ d, rRight x = true) → (∀ x ∈ d, x.size ≤ n) → ∃ l : List Rat, d = tx l ∧ ∀ x ∈ l, qm x ≤ n := by
    intro d
    induction d with
    | nil => exact fun _ _ => ⟨[], rfl, by simp⟩
    | cons x d ih =>
      intro h1 h2;obtain ⟨l, rfl, hl⟩ := ih (fun y hy => h1 y (List.mem_cons_of_mem _ hy)) (fun y hy => h2 y (List.mem_cons_of_mem _ hy));obtain ⟨q, rfl⟩ := right_some (h1 x List.mem_cons_self);refine ⟨q :: l, rfl, fun y hy => ?_⟩
      rcases List.mem_cons.1 hy with rfl | hy
      · exact Nat.le_trans (qm_le y) (h2 _ List.mem_cons_self)
      · exact hl y hy
  obtain ⟨l, rfl, hl⟩ := key d ha hd;exact ⟨l, rfl, hs.1, by rw [← hs.2, tx_len], hl⟩
theorem small_parts {s : List Int} {d : List ByteArray} (h : small ⟨s, d⟩ = true) : Sm s d ∧ ∀ x ∈ d, x.size ≤ 40 := by
  unfold small at h;dsimp only at h;rw [Bool.and_eq_true, Bool.and_eq_true, decide_eq_true_eq, decide_eq_true_eq, List.all_eq_true] at h
  have h2 : ∀ x ∈ d, x.size ≤ 40 := fun x hx => by simpa using h.2 x hx
  exact ⟨⟨by omega, by omega, fun x hx => Nat.le_trans (h2 x hx) (by decide)⟩, h2⟩
/-- A short tensor is none, or has numbers. -/
theorem cases_t {s : List Int} {d : List ByteArray} (h : small ⟨s, d⟩ = true) : tRight ⟨s, d⟩ = false ∨ ∃ l, d = tx l ∧ Ok s l 40 := by
  cases ht : tRight ⟨s, d⟩ with
  | false => exact Or.inl rfl
  | true => exact Or.inr (right_some' ht (small_parts h).2)
theorem mem_zip {f : Rat → Rat → Rat} {l m : List Rat} {z : Rat} (h : z ∈ List.zipWith f l m) : ∃ x ∈ l, ∃ y ∈ m, z = f x y := by
  induction l generalizing m with
  | nil => simp at h
  | cons x l ih =>
    cases m with
    | nil => simp at h
    | cons y m =>
      rw [List.zipWith_cons_cons, List.mem_cons] at h
      rcases h with rfl | h
      · exact ⟨x, List.mem_cons_self, y, List.mem_cons_self, rfl⟩
      · obtain ⟨x', hx, y', hy, rfl⟩ := ih h
        exact ⟨x', List.mem_cons_of_mem _ hx, y', List.mem_cons_of_mem _ hy, rfl⟩
theorem Ok.zip {s : List Int} {l m : List Rat} {N M K : Nat} (h : Ok s l N) (h' : Ok s m M) (f : Rat → Rat → Rat) (hf : ∀ x y, qm x ≤ N → qm y ≤ M → qm (f x y) ≤ K) : Ok s (List.zipWith f l m) K := by
  refine ⟨h.sh, ?_, fun z hz => ?_⟩
  · have := h.ln
    have := h'.ln;rw [List.length_zipWith]
    omega
  · obtain ⟨x, hx, y, hy, rfl⟩ := mem_zip hz
    exact hf x y (h.bd x hx) (h'.bd y hy)
theorem Ok.map {s : List Int} {l : List Rat} {N K : Nat} (h : Ok s l N) (f : Rat → Rat) (hf : ∀ x, qm x ≤ N → qm (f x) ≤ K) : Ok s (l.map f) K := by
  refine ⟨h.sh, by rw [List.length_map]; exact h.ln, fun z hz => ?_⟩;obtain ⟨x, hx, rfl⟩ := List.mem_map.1 hz;exact hf x (h.bd x hx)
theorem Ok.by {s : List Int} {l : List Rat} {N M : Nat} (h : Ok s l N) {k : Rat} (hk : qm k ≤ M) : Ok s (l.map (· * k)) (N + M) := h.map _ (fun _ hx => qx hx hk)
theorem ok_one (x : Rat) {N : Nat} (h : qm x ≤ N) : Ok [] [x] N := ⟨by decide +kernel, rfl, fun y hy => by rw [List.mem_singleton] at hy; rw [hy]; exact h⟩
theorem rt_m1 : rt (-1) = (⟨#[45, 49]⟩ : ByteArray) := by decide +kernel
theorem rt_2 : rt 2 = (⟨#[50]⟩ : ByteArray) := by decide +kernel
end Go.Proofs.YtndkjpkgllmbnaaGreatDoor.Ten
/- Tensors of rational numbers: two at once; what is refused. -/
namespace Go.Proofs.YtndkjpkgllmbnaaGreatDoor.Ten
open Go Go.RowKit Go.ZPWords Go.Proofs.YtndkjpkgllmbnaaGreatDoor.PC Go.Proofs.YtndkjpkgllmbnaaGreatDoor.Th Go.Proofs.YtndkjpkgllmbnaaGreatDoor.Th.Wh Go.Proofs.YtndkjpkgllmbnaaGreatDoor.Err
set_option linter.unusedVariables false
theorem len_eq {s : List Int} {l m : List Rat} {N M : Nat} (h : Ok s l N) (h' : Ok s m M) : l.length = m.length := by
  have := h.ln;have := h'.ln
  omega
end Go.Proofs.YtndkjpkgllmbnaaGreatDoor.Ten
