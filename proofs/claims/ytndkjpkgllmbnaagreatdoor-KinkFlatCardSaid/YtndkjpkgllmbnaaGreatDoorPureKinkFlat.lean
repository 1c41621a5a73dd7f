/- KinkFlat: the plain law. -/
import Derived.Test.YtndkjpkgllmbnaaGreatDoorKinV
import Derived.Test.YtndkjpkgllmbnaaGreatDoorPQFx
namespace Go.Proofs.YtndkjpkgllmbnaaGreatDoor.Pure
open Go Go.RowKit Go.Proofs.YtndkjpkgllmbnaaGreatDoorW.PrintWords Go.Proofs.YtndkjpkgllmbnaaGreatDoor.PQF Go.Proofs.YtndkjpkgllmbnaaGreatDoor.Err Go.Proofs.YtndkjpkgllmbnaaGreatDoor.Th Go.Proofs.YtndkjpkgllmbnaaGreatDoor.Ten
set_option linter.unusedVariables false
theorem awake : tapewrightlaw07_awake.f = some true := rfl
theorem su_nonneg : ∀ {l : List Rat}, (∀ x ∈ l, 0 ≤ x) → 0 ≤ su l
  | [], _ => by rw [su_nil]; exact Rat.le_refl
  | x :: l, h => by
    rw [su_cons]
    have h1 := su_nonneg (l := l) (fun y hy => h y (List.mem_cons_of_mem _ hy))
    have h2 := h x List.mem_cons_self
    grind
theorem abs_nonneg (x : Rat) : 0 ≤ qOne 2 x := by unfold qOne; grind
theorem abs_zero {x : Rat} : qOne 2 x = 0 ↔ x = 0 := by unfold qOne; grind
theorem su_abs : ∀ l : List Rat, su (l.map (qOne 2)) = 0 ↔ ∀ x ∈ l, x = 0
  | [] => by simp [su_nil]
  | x :: l => by
    rw [List.map_cons, su_cons, List.forall_mem_cons, ← su_abs l]
    have h1 : 0 ≤ su (l.map (qOne 2)) := su_nonneg (fun y hy => by obtain ⟨z, _, rfl⟩ := List.mem_map.1 hy; exact abs_nonneg z)
    have h2 := abs_nonneg x
    have h3 := @abs_zero x
    grind
theorem rt0_list {x : Rat} : ((rt x).toList == ([48] : List UInt8)) = decide (x = 0) := by
  have e : ([48] : List UInt8) = (rt 0).toList := by decide +kernel
  rw [e]
  by_cases h : x = 0
  · rw [h, decide_eq_true rfl]; simp
  · rw [decide_eq_false h, beq_eq_false_iff_ne]
    exact fun c => h (rt_inj (toList_inj.1 c))
theorem flat_l0 (l : List Rat) (hl : l.length ≤ 64) (a : Bool) (x : ByteArray) (ha : a = true ↔ (0 : Rat) ∈ l) (hn : 1 ≤ l.length) (hx : (x.toList == ([48] : List UInt8)) = decide (∀ y ∈ l, y = 0)) : ∀ g p : Nat, p + g = l.length →
    tapewrightlaw07_KinkFlat.l0 (g + 1) a a 0 x (decide (∀ y ∈ l.take p, y = 0)) (tx l) (l.length : Int) (p : Int) = some true := by
  intro g
  induction g with
  | zero =>
    intro p hp
    rw [tapewrightlaw07_KinkFlat.l0, if_neg (by omega), List.take_of_length_le (by omega), hx, if_pos (by simp), if_pos (by simp)]
    by_cases hall : ∀ y ∈ l, y = 0
    · have h0 : (0 : Rat) ∈ l := by
        have h := List.getElem_mem (l := l) (n := 0) (by omega)
        rw [hall _ h] at h
        exact h
      rw [if_pos (decide_eq_true hall), if_pos (ha.2 h0), if_pos rfl, awake]
      rfl
    · rw [if_neg (by simpa using hall), if_pos rfl, awake]
      rfl
  | succ g ih =>
    intro p hp
    have hlt : p < l.length := by omega
    have hw : wrap64 ((p : Int) + 1) = ((p + 1 : Nat) : Int) := by unfold wrap64; omega
    have hall : (∀ y ∈ l.take (p + 1), y = 0) ↔ (∀ y ∈ l.take p, y = 0) ∧ l[p] = 0 := by
      rw [List.take_succ_eq_append_getElem hlt]
      simp only [List.mem_append, List.mem_singleton]
      constructor
      · exact fun h => ⟨fun y hy => h y (Or.inl hy), h _ (Or.inr rfl)⟩
      · rintro ⟨h, h'⟩ y (hy | rfl)
        · exact h y hy
        · exact h'
    have ih' := ih (p + 1) (by omega)
    rw [tapewrightlaw07_KinkFlat.l0, if_pos (by omega), if_pos (by omega), if_pos (by rw [tx_len]; omega), rdOf_tx l p hlt, rt0_list, hw]
    by_cases c : ∀ y ∈ l.take p, y = 0
    · rw [if_pos (decide_eq_true c)]
      rw [decide_eq_decide.2 (hall.trans ⟨fun h => h.2, fun h => ⟨c, h⟩⟩)] at ih'
      exact ih'
    · rw [if_neg (by simpa using c)]
      rw [decide_eq_false (fun h => c (hall.1 h).1)] at ih'
      exact ih'
theorem KinkFlat (s : List Int) (d : List ByteArray) : ∃ k, tapewrightlaw07_KinkFlat.f k s d = some true := by
  by_cases h1 : small ⟨s, d⟩ = true
  case neg => exact ⟨0, by rw [tapewrightlaw07_KinkFlat.f, tapewrightref05_Small.f, Option.bind_some, if_neg h1, awake]; rfl⟩
  have m1 := (small_parts h1).1
  rcases cases_t h1 with r1 | ⟨l, rfl, o1⟩
  · refine ⟨0, ?_⟩
    rw [tapewrightlaw07_KinkFlat.f, tapewrightref05_Small.f, Option.bind_some, if_pos h1, kink_Abs.of _ _ m1, Option.bind_some, teach_no _ r1]
    dsimp only
    rw [if_neg (by decide), if_pos (by rfl), awake]
    rfl
  have oa := o1.one 2
  have hl := o1.le64
  refine ⟨l.length + 1, ?_⟩
  rw [tapewrightlaw07_KinkFlat.f, tapewrightref05_Small.f, Option.bind_some, if_pos h1, kink_Abs.of _ _ m1, Option.bind_some, teach o1]
  dsimp only
  rw [if_pos rfl, kink_Flat.of _ _ m1, Option.bind_some, kink_Flat.of _ _ (oa.sm (by decide)), Option.bind_some, tensor_Sum.of _ _ (oa.sm (by decide)) (oa.acc (by decide)), Option.bind_some, tflat o1, tflat oa, tsum oa]
  dsimp only
  have em : (0 : Rat) ∈ l.map (qOne 2) ↔ (0 : Rat) ∈ l := by
    rw [List.mem_map]
    constructor
    · rintro ⟨x, hx, e⟩; rw [abs_zero.1 e] at hx; exact hx
    · exact fun h => ⟨0, h, abs_zero.2 rfl⟩
  rw [decide_eq_decide.2 em, tx_len]
  have := flat_l0 l hl.1 (decide ((0 : Rat) ∈ l)) (rt (su (l.map (qOne 2)))) (by simp) hl.2.1 (by rw [rt0_list, decide_eq_decide.2 (su_abs l)]) l.length 0 (by omega)
  simpa using this
end Go.Proofs.YtndkjpkgllmbnaaGreatDoor.Pure
