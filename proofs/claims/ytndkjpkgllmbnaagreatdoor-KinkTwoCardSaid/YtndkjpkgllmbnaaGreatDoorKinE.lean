/- kink: one number; all of a tensor. -/
import Derived.Test.YtndkjpkgllmbnaaGreatDoorPKx
import Derived.Test.YtndkjpkgllmbnaaGreatDoorKinT
-- mini
namespace Go.Proofs.YtndkjpkgllmbnaaGreatDoor.Ten
open Go Go.RowKit Go.ZPWords Go.ZPMore Go.ZPLast Go.Proofs.YtndkjpkgllmbnaaGreatDoor.PK Go.Proofs.YtndkjpkgllmbnaaGreatDoor.Th Go.Proofs.YtndkjpkgllmbnaaGreatDoor.Th.Wh Go.Proofs.YtndkjpkgllmbnaaGreatDoor.Err
set_option linter.unusedVariables false
theorem sign3 (x : ByteArray) : (rSign x).1 = -1 ∨ (rSign x).1 = 0 ∨ (rSign x).1 = 1 := by
  unfold rSign sgn
  split
  · dsimp only
    split
    · exact Or.inl rfl
    · split
      · exact Or.inr (Or.inl rfl)
      · exact Or.inr (Or.inr rfl)
  · exact Or.inr (Or.inl rfl)
theorem one_f (k : Int) (hk : 0 ≤ k ∧ k ≤ 3) (x : ByteArray) (hx : x.size ≤ 40000000000) : kink_one.f k x = some (kOne k x) := by
  rw [kink_one.f, rat_Sign.of _ hx, Option.bind_some, rat_Neg.of _ hx];unfold kOne;have h3 := sign3 x;generalize rSign x = q at *;generalize rNeg x = n at *;obtain ⟨q, e⟩ := q;dsimp only at *
  rcases (by omega : k = 0 ∨ k = 1 ∨ k = 2 ∨ k = 3) with rfl | rfl | rfl | rfl
  · rw [if_pos rfl, if_pos rfl]
    by_cases h : q > 0
    · rw [if_pos h, if_pos h]
    · rw [if_neg h, if_neg h]
  · rw [if_neg (by decide), if_neg (by decide), if_pos rfl, if_neg (by decide), if_neg (by decide), if_pos rfl]
    rcases h3 with rfl | rfl | rfl
    · rw [show wrap64 (mx (-1) 0 + 1) = 1 from by decide +kernel]; rfl
    · rw [show wrap64 (mx 0 0 + 1) = 1 from by decide +kernel]; rfl
    · rw [show wrap64 (mx 1 0 + 1) = 2 from by decide +kernel]; rfl
  · by_cases h : q ≥ 0
    · rw [if_neg (by decide), if_pos rfl, if_pos h, if_neg (by decide), if_pos rfl, if_pos h]
    · rw [if_neg (by decide), if_pos rfl, if_neg h, if_neg (by decide), if_pos rfl, if_neg h]; rfl
  · rw [if_neg (by decide), if_neg (by decide), if_neg (by decide), if_pos rfl, if_neg (by decide), if_neg (by decide), if_neg (by decide)]
    rcases h3 with rfl | rfl | rfl
    · rw [show wrap64 (-1 + 1) = 0 from by decide +kernel]; rfl
    · rw [show wrap64 (0 + 1) = 1 from by decide +kernel]; rfl
    · rw [show wrap64 (1 + 1) = 2 from by decide +kernel]; rfl
theorem take_snoc {α : Type} (f : ByteArray → α) (d : List ByteArray) (p : Nat) (h : p < d.length) : (d.take p).map f ++ [f (rdOf ByteArray.empty d (p : Int))] = (d.take (p + 1)).map f := by
  rw [List.take_succ_eq_append_getElem h, List.map_append]
  simp [rdOf, List.getD, h]
theorem each_l0 (k : Int) (hk : 0 ≤ k ∧ k ≤ 3) (s : List Int) (d : List ByteArray) (hl : d.length ≤ 1000) (hd : ∀ x ∈ d, x.size ≤ 40000000000) : ∀ g p : Nat, p + g = d.length →
    kink_each.l0 (g + 1) k d (d.length : Int) (p : Int) s ((d.take p).map (kOne k)) = some (s, d.map (kOne k), 0) := by
  intro g
  induction g with
  | zero =>
    intro p hp;rw [kink_each.l0, if_neg (by omega), List.take_of_length_le (by omega)]
  | succ g ih =>
    intro p hp
    have hlt : p < d.length := by omega
    have hw : wrap64 ((p : Int) + 1) = ((p + 1 : Nat) : Int) := by unfold wrap64; omega
    rw [kink_each.l0, if_pos (by omega), if_pos (by omega), if_pos (by omega), one_f k hk _ (hd _ (rdOf_mem d p hlt)), Option.bind_some, if_pos (by rw [List.length_map, List.length_take]; omega), hw, take_snoc (kOne k) d p hlt];exact ih (p + 1) (by omega)
theorem each_f (k : Int) (hk : 0 ≤ k ∧ k ≤ 3) (s : List Int) (d : List ByteArray) (h : Sm s d) : kink_each.f (d.length + 1) k s d = some ((tEach k ⟨s, d⟩).1.s, (tEach k ⟨s, d⟩).1.d, (tEach k ⟨s, d⟩).2) := by
  rw [kink_each.f, tensor_Right.of _ _ h, Option.bind_some];unfold tEach
  by_cases ht : tRight ⟨s, d⟩ = true
  · have hs := h.1
    rw [if_pos ht, if_pos ht, slices_Clone_int_int.of _ (by omega), Option.bind_some];exact each_l0 k hk s d h.2.1 h.big d.length 0 (by omega)
  · rw [if_neg ht, if_neg ht]; rfl
theorem keach_calls (k : Int) (hk : 0 ≤ k ∧ k ≤ 3) (A0 : Option Addr) (c0 : Nat) (A1 : Option Addr) (c1 : Nat) (s : List Int) (d : List ByteArray) (w : World) (hG : Gs w) (hr0 : Kd.C (Kd.int .i64) w A0 s.length s) (hc0 : s.length ≤ c0) (hr1 : Kd.C Kd.string w A1 d.length d) (hc1 : d.length ≤ c1) (h : Sm s d) :
    Calls Tryz.prog 36 #[.int .i64 k, .agg #[.slice A0 s.length c0, .slice A1 d.length c1]] w (Res w (tEach k ⟨s, d⟩)) :=
  kink_each.calls (d.length + 1) k A0 c0 s A1 c1 d _ _ _ w hG hr0 hc0 hr1 hc1 (each_f k hk s d h)
end Go.Proofs.YtndkjpkgllmbnaaGreatDoor.Ten
