/- ArrayScalars: the plain law. -/
import Derived.Test.YtmmonhgfnmeieaaGreatDoorArrV
import Derived.Test.YtmmonhgfnmeieaaGreatDoorPQSx
namespace Go.Proofs.YtmmonhgfnmeieaaGreatDoor.Pure
open Go Go.RowKit Go.Proofs.YtmmonhgfnmeieaaGreatDoorW.PrintWords Go.Proofs.YtmmonhgfnmeieaaGreatDoor.PQS Go.Proofs.YtmmonhgfnmeieaaGreatDoor.Err Go.Proofs.YtmmonhgfnmeieaaGreatDoor.Th Go.Proofs.YtmmonhgfnmeieaaGreatDoor.Ten
set_option linter.unusedVariables false
theorem awake : tapewrightlaw06_awake.f = some true := rfl
theorem su_rep (q : Rat) : ∀ n : Nat, su (List.replicate n q) = sm (fun _ => q) n
  | 0 => su_nil
  | n + 1 => by rw [List.replicate_succ, su_cons, su_rep q n, sm]; grind
theorem scal_l0 (s : List Int) (q : Rat) (hq : qm q ≤ 20) (n : Nat) (hn : n ≤ 64) (h1 : 1 ≤ n) : ∀ g i : Nat, i + g = n →
    tapewrightlaw06_ArrayScalars.l0 (g + 1) (rt q) 0 (rt (sm (fun _ => q) i)) (n : Int) (i : Int) s (tx (List.replicate n q)) [] [rt (sm (fun _ => q) n)] = some true := by
  intro g
  induction g with
  | zero =>
    intro i hi
    obtain rfl : i = n := by omega
    have e : rdOf ByteArray.empty [rt (sm (fun _ => q) i)] 0 = rt (sm (fun _ => q) i) := rfl
    rw [tapewrightlaw06_ArrayScalars.l0, if_neg (by omega), if_pos (by rw [tx_len, List.length_replicate]; omega), if_pos (by rfl), if_pos (by rfl), if_pos (by simp), e, if_pos rfl, if_pos rfl, awake]
    rfl
  | succ g ih =>
    intro i hi
    have a1 := qm_sm (f := fun _ => q) (K := 20) (fun _ => hq) i
    have a2 := size_rt (sm (fun _ => q) i)
    have a3 := size_rt q
    rw [tapewrightlaw06_ArrayScalars.l0, if_pos (by omega), rat_Add.of _ _ (by omega) (by omega), Option.bind_some, rAdd_rt, w1 (by omega)]
    exact ih (i + 1) (by omega)
theorem ArrayScalars (k : ByteArray) (z : List Int) : ∃ n, tapewrightlaw06_ArrayScalars.f n k z = some true := by
  have hz : tapewrightlaw06_ArrayScalars.j0 (0 + 1) k z true = some true := by rw [tapewrightlaw06_ArrayScalars.j0, if_pos rfl, awake]; rfl
  by_cases h0 : (k.size : Int) > 20
  · exact ⟨0 + 1, by rw [tapewrightlaw06_ArrayScalars.f, if_pos h0]; exact hz⟩
  by_cases hk : (z.length : Int) > 10
  · exact ⟨0 + 1, by rw [tapewrightlaw06_ArrayScalars.f, if_neg h0, decide_eq_true hk]; exact hz⟩
  clear hz
  have hs : Sm [] [k] := ⟨by simp, by simp, fun x hx => by rw [List.mem_singleton] at hx; rw [hx]; omega⟩
  have zl : z.length ≤ 1000 := by omega
  have st : ∀ q, tapewrightlaw06_ArrayScalars.f q k z = tapewrightlaw06_ArrayScalars.j0 q k z false := fun q => by rw [tapewrightlaw06_ArrayScalars.f, if_neg h0, decide_eq_false hk]
  by_cases c : tRight ⟨[], [k]⟩ = true ∧ shOk z = true
  case neg =>
    have e : tSpread ⟨[], [k]⟩ z = (nilT, 1) := by
      unfold tSpread
      by_cases a : tRight ⟨[], [k]⟩ = true
      · rw [if_pos a, if_neg (fun b => c ⟨a, b⟩)]
      · rw [if_neg a]
    refine ⟨0 + 1, ?_⟩
    rw [st, tapewrightlaw06_ArrayScalars.j0, if_neg (by decide), array_Spread.of _ _ _ ⟨hs, zl⟩, Option.bind_some, e]
    dsimp only
    rw [if_neg (by decide), if_pos (by rfl), if_pos rfl, awake]
    rfl
  obtain ⟨ct, cz⟩ := c
  obtain ⟨q, rfl⟩ := right_some (tRight_all ct k List.mem_cons_self)
  have hq : qm q ≤ 20 := Nat.le_trans (qm_le q) (by omega)
  have of := ok_fill cz q
  have hl := of.le64
  rw [List.length_replicate] at hl
  generalize hnn : (sz z).toNat = n at *
  have e : tSpread ⟨[], [rt q]⟩ z = (⟨z, tx (List.replicate n q)⟩, 0) := by
    unfold tSpread
    rw [if_pos ct, if_pos cz, if_pos (by rfl)]
    show tFill z (rt q) = _
    rw [tfill cz, hnn]
  have et : tTotal ⟨z, tx (List.replicate n q)⟩ = (⟨[], [rt (sm (fun _ => q) n)]⟩, 0) := by
    unfold tTotal
    rw [if_pos of.right]
    dsimp only
    rw [accS_tx, su_rep]
  refine ⟨n + 1 + 1, ?_⟩
  rw [st, tapewrightlaw06_ArrayScalars.j0, if_neg (by decide), array_Spread.of _ _ _ ⟨hs, zl⟩, Option.bind_some, e]
  dsimp only
  rw [if_pos rfl, array_Total.of _ _ ⟨of.sm (by omega), of.acc (by omega)⟩, Option.bind_some, et, tx_len, List.length_replicate]
  dsimp only
  have := scal_l0 z q hq n hl.1 hl.2.1 n 0 (by omega)
  have e0 : rt (sm (fun _ => q) 0) = ⟨#[48]⟩ := rt_0
  rw [e0] at this
  exact this
end Go.Proofs.YtmmonhgfnmeieaaGreatDoor.Pure
