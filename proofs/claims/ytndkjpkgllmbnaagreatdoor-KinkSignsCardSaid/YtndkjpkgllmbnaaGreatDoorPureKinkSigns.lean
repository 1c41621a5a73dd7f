/- KinkSigns: the plain law. -/
import Derived.Test.YtndkjpkgllmbnaaGreatDoorKinV
import Derived.Test.YtndkjpkgllmbnaaGreatDoorPQGx
namespace Go.Proofs.YtndkjpkgllmbnaaGreatDoor.Pure
open Go Go.RowKit Go.Proofs.YtndkjpkgllmbnaaGreatDoorW.PrintWords Go.Proofs.YtndkjpkgllmbnaaGreatDoor.PQG Go.Proofs.YtndkjpkgllmbnaaGreatDoor.Err Go.Proofs.YtndkjpkgllmbnaaGreatDoor.Th Go.Proofs.YtndkjpkgllmbnaaGreatDoor.Ten
set_option linter.unusedVariables false
theorem awake : tapewrightlaw07_awake.f = some true := rfl
theorem eqT {s : List Int} {d e : List ByteArray} {l m : List Rat} {N M : Nat} (h : Ok s l N) (h' : Ok s m M) (hN : N ≤ 1000000000) (hd : d = tx l) (he : e = tx m) (hl : l = m) : tapewrightref05_Equal.f s d s e = some true := by
  subst hd he hl
  have h1 := h.le64
  rw [tapewrightref05_Equal.of _ _ _ _ ⟨by omega, by rw [tx_len]; omega⟩, decide_eq_true ⟨rfl, rfl⟩]
theorem num2 : ∀ c : Nat, c < 65 → (c < 10 → 1 ≤ ((strOfNums [(wrap64 (48 + (wrap64 (Int.tdiv (c : Int) 10)))) % 256, (wrap64 (48 + (Int.tmod (c : Int) 10))) % 256]).size : Int) ∧ (rt (c : Rat)).toList = ((strOfNums [(wrap64 (48 + (wrap64 (Int.tdiv (c : Int) 10)))) % 256, (wrap64 (48 + (Int.tmod (c : Int) 10))) % 256]).extract 1 (strOfNums [(wrap64 (48 + (wrap64 (Int.tdiv (c : Int) 10)))) % 256, (wrap64 (48 + (Int.tmod (c : Int) 10))) % 256]).size).toList) ∧ (¬ c < 10 → (rt (c : Rat)).toList = (strOfNums [(wrap64 (48 + (wrap64 (Int.tdiv (c : Int) 10)))) % 256, (wrap64 (48 + (Int.tmod (c : Int) 10))) % 256]).toList) := by decide +kernel
/-- How many are not 0. -/
def cnt (l : List Rat) : Nat := l.countP (fun x => decide (x ≠ 0))
theorem su_cnt : ∀ l : List Rat, su (l.map (fun x => qOne 3 x * qOne 3 x)) = ((cnt l : Nat) : Rat)
  | [] => by simp [su_nil, cnt]
  | x :: l => by
    rw [List.map_cons, su_cons, su_cnt l]
    unfold cnt
    rw [List.countP_cons]
    by_cases h : x = 0
    · have : qOne 3 x * qOne 3 x = 0 := by unfold qOne; grind
      rw [this, if_neg (by simp [h])]
      grind
    · have : qOne 3 x * qOne 3 x = 1 := by unfold qOne; grind
      rw [this, if_pos (by simp [h])]
      push_cast
      grind
theorem signs_l0 (l : List Rat) (hl : l.length ≤ 64) (a : Bool) (s : List Int) (d : List ByteArray) (he : tapewrightref05_Equal.f s d s d = some true) : ∀ g p : Nat, p + g = l.length →
    tapewrightlaw07_KinkSigns.l0 (g + 1) a 0 a 0 (rt ((cnt l : Nat) : Rat)) ((cnt (l.take p) : Nat) : Int) (tx l) (l.length : Int) (p : Int) s d s d = some true := by
  intro g
  induction g with
  | zero =>
    intro p hp
    have hc : cnt l ≤ l.length := List.countP_le_length
    have h2 := num2 (cnt l) (by omega)
    rw [tapewrightlaw07_KinkSigns.l0, if_neg (by omega), List.take_of_length_le (by omega), Option.bind_some]
    by_cases c : cnt l < 10
    · rw [if_pos (by omega), if_pos (h2.1 c).1, he, Option.bind_some, if_pos rfl, if_pos (by simp), if_pos (h2.1 c).2, if_pos rfl, if_pos rfl, awake]
      rfl
    · rw [if_neg (by omega), he, Option.bind_some, if_pos rfl, if_pos (by simp), if_pos (h2.2 c), if_pos rfl, if_pos rfl, awake]
      rfl
  | succ g ih =>
    intro p hp
    have hlt : p < l.length := by omega
    have hw : wrap64 ((p : Int) + 1) = ((p + 1 : Nat) : Int) := by unfold wrap64; omega
    have ih' := ih (p + 1) (by omega)
    have hc : cnt (l.take p) ≤ (l.take p).length := List.countP_le_length
    have hcl : (l.take p).length ≤ 64 := by rw [List.length_take]; omega
    have hs : cnt (l.take (p + 1)) = cnt (l.take p) + (if l[p] = 0 then 0 else 1) := by
      unfold cnt
      rw [List.take_succ_eq_append_getElem hlt, List.countP_append, List.countP_cons, List.countP_nil]
      by_cases h : l[p] = 0
      · rw [if_pos h, if_neg (by simp [h])]
      · rw [if_neg h, if_pos (by simp [h])]
    rw [hs] at ih'
    have e48 : ([48] : List UInt8) = (rt 0).toList := by decide +kernel
    rw [tapewrightlaw07_KinkSigns.l0, if_pos (by omega), if_pos (by omega), if_pos (by rw [tx_len]; omega), rdOf_tx l p hlt, hw]
    by_cases h : l[p] = 0
    · rw [if_pos (by rw [e48, h])]
      rw [if_pos h, Nat.add_zero] at ih'
      exact ih'
    · rw [if_neg (by rw [e48]; exact fun c => h (rt_inj (toList_inj.1 c)))]
      rw [if_neg h] at ih'
      have hw2 : wrap64 (((cnt (l.take p) : Nat) : Int) + 1) = ((cnt (l.take p) + 1 : Nat) : Int) := by unfold wrap64; omega
      rw [hw2]
      exact ih'
theorem KinkSigns (s : List Int) (d : List ByteArray) : ∃ k, tapewrightlaw07_KinkSigns.f k s d = some true := by
  by_cases h1 : small ⟨s, d⟩ = true
  case neg => exact ⟨0, by rw [tapewrightlaw07_KinkSigns.f, tapewrightref05_Small.f, Option.bind_some, if_neg h1, awake]; rfl⟩
  have m1 := (small_parts h1).1
  rcases cases_t h1 with r1 | ⟨l, rfl, o1⟩
  · refine ⟨0, ?_⟩
    rw [tapewrightlaw07_KinkSigns.f, tapewrightref05_Small.f, Option.bind_some, if_pos h1, kink_Sign.of _ _ m1, Option.bind_some, teach_no _ r1]
    dsimp only
    rw [if_neg (by decide), if_pos (by rfl), awake]
    rfl
  have os := o1.one 3
  have op := os.mul os
  have hl := o1.le64
  refine ⟨l.length + 1, ?_⟩
  rw [tapewrightlaw07_KinkSigns.f, tapewrightref05_Small.f, Option.bind_some, if_pos h1, kink_Sign.of _ _ m1, Option.bind_some, teach o1]
  dsimp only
  have es : List.zipWith (· * ·) (l.map (qOne 3)) (l.map (qOne 3)) = l.map (fun x => qOne 3 x * qOne 3 x) := by
    rw [List.zipWith_map_left, List.zipWith_map_right, List.zipWith_self]
  rw [if_pos rfl, tensor_Zip.of _ _ _ _ _ (os.sm (by decide)) (os.sm (by decide)), Option.bind_some, kink_Step.of _ _ m1, Option.bind_some, kink_Step.of _ _ (os.sm (by decide)), Option.bind_some, tmul os os]
  dsimp only
  rw [kink_Flat.of _ _ (op.sm (by decide)), Option.bind_some, kink_Flat.of _ _ m1, Option.bind_some, tensor_Sum.of _ _ (op.sm (by decide)) (op.acc (by decide)), Option.bind_some, tflat o1, tflat op, tsum op, teach o1, teach os, es, su_cnt]
  dsimp only
  have em : (0 : Rat) ∈ l.map (fun x => qOne 3 x * qOne 3 x) ↔ (0 : Rat) ∈ l := by
    rw [List.mem_map]
    constructor
    · rintro ⟨x, hx, e⟩
      have : x = 0 := by unfold qOne at e; grind
      rw [this] at hx; exact hx
    · exact fun h => ⟨0, h, by decide +kernel⟩
  have e1 : (l.map (qOne 3)).map (qOne 1) = l.map (qOne 1) := by
    rw [List.map_map]
    congr 1
    funext x
    show qOne 1 (qOne 3 x) = qOne 1 x
    unfold qOne
    grind
  have o2 := o1.one 1
  rw [decide_eq_decide.2 em, tx_len, e1]
  exact signs_l0 l hl.1 _ s _ (eqT o2 o2 (by decide) rfl rfl rfl) l.length 0 (by omega)
end Go.Proofs.YtndkjpkgllmbnaaGreatDoor.Pure
