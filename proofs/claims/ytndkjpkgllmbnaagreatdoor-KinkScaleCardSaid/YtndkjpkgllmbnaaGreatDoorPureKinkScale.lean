/- KinkScale: the plain law. -/
import Derived.Test.YtndkjpkgllmbnaaGreatDoorKinV
import Derived.Test.YtndkjpkgllmbnaaGreatDoorPQCx
namespace Go.Proofs.YtndkjpkgllmbnaaGreatDoor.Pure
open Go Go.RowKit Go.Proofs.YtndkjpkgllmbnaaGreatDoorW.PrintWords Go.Proofs.YtndkjpkgllmbnaaGreatDoor.PQC Go.Proofs.YtndkjpkgllmbnaaGreatDoor.Err Go.Proofs.YtndkjpkgllmbnaaGreatDoor.Th Go.Proofs.YtndkjpkgllmbnaaGreatDoor.Ten
set_option linter.unusedVariables false
theorem awake : tapewrightlaw07_awake.f = some true := rfl
theorem eqT {s : List Int} {d e : List ByteArray} {l m : List Rat} {N M : Nat} (h : Ok s l N) (h' : Ok s m M) (hN : N ≤ 1000000000) (hd : d = tx l) (he : e = tx m) (hl : l = m) : tapewrightref05_Equal.f s d s e = some true := by
  subst hd he hl
  have h1 := h.le64
  rw [tapewrightref05_Equal.of _ _ _ _ ⟨by omega, by rw [tx_len]; omega⟩, decide_eq_true ⟨rfl, rfl⟩]
theorem neg_first {q : Rat} (h : q < 0) : bt (rt q) 0 = 45 := by
  have hn : q.num < 0 := by
    rcases rs_cases q with ⟨_, e⟩ | ⟨a, _⟩ | ⟨a, _⟩
    · unfold Wh.sgn at e
      split at e
      · assumption
      · split at e <;> omega
    · grind
    · grind
  have hl : ∃ m, (rt q).data.toList = 45 :: m := by
    unfold rt Wh.zt
    rw [if_pos hn]
    split
    · exact ⟨(txt q.num.natAbs).data.toList, by simp⟩
    · exact ⟨(txt q.num.natAbs).data.toList ++ 47 :: (txt q.den).data.toList, by simp⟩
  obtain ⟨m, hm⟩ := hl
  exact bt_zero hm
theorem KinkScale (s : List Int) (d : List ByteArray) (k : ByteArray) : ∃ n, tapewrightlaw07_KinkScale.f n s d k = some true := by
  refine ⟨0 + 1, ?_⟩
  have hz : tapewrightlaw07_KinkScale.j0 (0 + 1) k true s d = some true := by rw [tapewrightlaw07_KinkScale.j0, if_pos rfl, awake]; rfl
  rw [tapewrightlaw07_KinkScale.f, tapewrightref05_Small.f, Option.bind_some]
  by_cases h1 : small ⟨s, d⟩ = true
  case neg => rw [if_neg h1]; exact hz
  rw [if_pos h1]
  by_cases hk : (k.size : Int) > 20
  · rw [if_pos hk]; exact hz
  rw [if_neg hk]
  by_cases h0 : k.toList = ([] : List UInt8)
  · rw [if_pos h0]; exact hz
  have hs : 0 < (k.size : Int) := by
    have : k.size ≠ 0 := fun e => h0 (by rw [show k = ByteArray.empty from by cases k with | mk a => simp only [ByteArray.size] at e; rw [Array.eq_empty_of_size_eq_zero e]; rfl]; decide +kernel)
    omega
  rw [if_neg h0, if_pos hs]
  by_cases hb : (bt k 0 == 45) = true
  · rw [hb]; exact hz
  have hb' : bt k 0 ≠ 45 := by simpa using hb
  rw [Bool.not_eq_true] at hb
  rw [hb]
  clear hz
  have hk' : k.size ≤ 20 := by omega
  have m1 := (small_parts h1).1
  rw [tapewrightlaw07_KinkScale.j0, if_neg (by decide), tensor_Scale.of _ _ _ m1 (by omega), Option.bind_some]
  have no : tScale ⟨s, d⟩ k = (nilT, 1) → _ := fun e => e
  rcases cases_t h1 with r1 | ⟨l, rfl, o1⟩
  · rw [tscale_no (Or.inl r1)]
    dsimp only
    rw [if_neg (by decide), if_pos (by rfl), awake]
    rfl
  by_cases hr : rRight k = true
  case neg =>
    rw [tscale_no (Or.inr (by simpa using hr))]
    dsimp only
    rw [if_neg (by decide), if_pos (by rfl), awake]
    rfl
  obtain ⟨q, rfl⟩ := right_some hr
  have hq := Nat.le_trans (qm_le q) hk'
  have hq0 : 0 ≤ q := Rat.not_lt.1 (fun h => hb' (neg_first h))
  have ot := o1.by hq
  have orl := o1.one 0
  have oa := o1.one 2
  rw [tscale o1]
  dsimp only
  rw [if_pos rfl, kink_Relu.of _ _ (ot.sm (by decide)), Option.bind_some, kink_Relu.of _ _ m1, Option.bind_some, teach o1, teach ot]
  dsimp only
  rw [tensor_Scale.of _ _ _ (orl.sm (by decide)) (by omega), Option.bind_some, kink_Abs.of _ _ (ot.sm (by decide)), Option.bind_some, kink_Abs.of _ _ m1, Option.bind_some, teach o1, teach ot]
  dsimp only
  rw [tensor_Scale.of _ _ _ (oa.sm (by decide)) (by omega), Option.bind_some, tscale orl, tscale oa]
  dsimp only
  have sg : ∀ x : Rat, (0 < x → 0 ≤ x * q) ∧ (0 ≤ x → 0 ≤ x * q) ∧ (x ≤ 0 → x * q ≤ 0) := fun x => by
    refine ⟨fun h => Rat.mul_nonneg (Rat.le_of_lt h) hq0, fun h => Rat.mul_nonneg h hq0, fun h => ?_⟩
    have := Rat.mul_nonneg (show 0 ≤ -x by grind) hq0
    grind
  have e1 : (l.map (· * q)).map (qOne 0) = (l.map (qOne 0)).map (· * q) := by
    rw [List.map_map, List.map_map]
    congr 1
    funext x
    show qOne 0 (x * q) = qOne 0 x * q
    have := sg x
    unfold qOne
    grind
  have e2 : (l.map (· * q)).map (qOne 2) = (l.map (qOne 2)).map (· * q) := by
    rw [List.map_map, List.map_map]
    congr 1
    funext x
    show qOne 2 (x * q) = qOne 2 x * q
    have h := sg x
    have q2 : ∀ y, qOne 2 y = if 0 ≤ y then y else -y := fun y => by unfold qOne; rw [if_neg (by decide), if_pos rfl]
    rw [q2, q2]
    by_cases hx : 0 ≤ x
    · rw [if_pos hx, if_pos (h.2.1 hx)]
    · have h3 := h.2.2 (by grind)
      rw [if_neg hx]
      split <;> grind
  rw [eqT (ot.one 0) (orl.by hq) (by decide) rfl rfl e1, Option.bind_some, if_pos rfl, eqT (ot.one 2) (oa.by hq) (by decide) rfl rfl e2, Option.bind_some, if_pos rfl, if_pos rfl, awake]
  rfl
end Go.Proofs.YtndkjpkgllmbnaaGreatDoor.Pure
