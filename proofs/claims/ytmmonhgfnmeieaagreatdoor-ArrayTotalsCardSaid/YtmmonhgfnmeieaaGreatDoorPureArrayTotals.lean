/- ArrayTotals: the plain law. -/
import Derived.Test.YtmmonhgfnmeieaaGreatDoorPQOx
-- mini
namespace Go.Proofs.YtmmonhgfnmeieaaGreatDoor.Pure
open Go Go.RowKit Go.ZPWords Go.Proofs.YtmmonhgfnmeieaaGreatDoor.PQO Go.Proofs.YtmmonhgfnmeieaaGreatDoor.Err Go.Proofs.YtmmonhgfnmeieaaGreatDoor.Th Go.Proofs.YtmmonhgfnmeieaaGreatDoor.Ten
set_option linter.unusedVariables false
theorem awake : lw6_awake.f = some true := rfl
theorem su_append : ∀ l m : List Rat, su (l ++ m) = su l + su m
  | [], m => by rw [List.nil_append, su_nil]; grind
  | x :: l, m => by rw [List.cons_append, su_cons, su_cons, su_append l m]; grind
theorem su_map (f : Nat → Rat) : ∀ n, su ((List.range n).map f) = sm f n
  | 0 => su_nil
  | n + 1 => by rw [List.range_succ, List.map_append, su_append, su_map f n, sm]; show _ + su [f n] = _; rw [su_cons, su_nil]; grind
theorem su_grid (c : Nat) (f : Nat → Nat → Rat) : ∀ r, su (grid r c f) = sm (fun i => sm (f i) c) r
  | 0 => su_nil
  | r + 1 => by rw [grid_succ, su_append, su_grid c f r, su_map, sm]
theorem su_at {r c : Nat} {A : List Rat} (hA : A.length = r * c) : su A = sm (fun i => sm (fun k => at_ A c i k) c) r := by
  conv => lhs; rw [← grid_eq hA]
  rw [su_grid]; rfl
theorem su_tr {r c : Nat} {A : List Rat} (hA : A.length = r * c) : su (tr r c A) = su A := by
  rw [tr, su_grid, su_at hA, sm_swap]
theorem tot_ok {s : List Int} {A : List Rat} {N : Nat} (o : Ok s A N) : tTotal ⟨s, tx A⟩ = (⟨[], [rt (su A)]⟩, 0) := by
  unfold tTotal;rw [if_pos o.right];dsimp only;rw [accS_tx]
theorem tot_nil : tTotal nilT = (nilT, 1) := by unfold tTotal; rw [if_neg (by rw [nil_not]; decide)]
theorem acc_nil (p : Nat) : (accS (([] : List ByteArray).take p)).size ≤ 40000000000 := by rw [List.take_nil]; decide +kernel
theorem eq1 (x : ByteArray) : rf5_Equal.f [] [x] [] [x] = some true := by rw [rf5_Equal.of _ _ _ _ ⟨by decide, by show 1 ≤ 1000000; decide⟩, decide_eq_true ⟨rfl, rfl⟩]
theorem ArrayTotals (s : List Int) (d : List ByteArray) (z : List Int) : ∃ k, lw6_ArrayTotals.f k s d z = some true := by
 refine ⟨0 + 1, ?_⟩;have hz : lw6_ArrayTotals.j0 (0 + 1) z true s d = some true := by rw [lw6_ArrayTotals.j0, if_pos rfl, awake]; rfl
 rw [lw6_ArrayTotals.f, rf5_Small.f, Option.bind_some];by_cases h1 : small ⟨s, d⟩ = true
 case neg => rw [if_neg h1]; exact hz
 rw [if_pos h1];by_cases hk : (z.length : Int) > 10
 · rw [if_pos hk]; exact hz
 have m1 := (small_parts h1).1;rw [if_neg hk, rf5_Right.of _ _ m1, Option.bind_some];rcases cases_t h1 with r1 | ⟨A, rfl, oA⟩
 · rw [r1]; exact hz
 rw [oA.right];show lw6_ArrayTotals.j0 (0 + 1) z false s (tx A) = some true;clear hz;rw [lw6_ArrayTotals.j0, if_neg (by decide), array_Total.of _ _ ⟨m1, oA.acc (by decide)⟩, Option.bind_some, array_Transpose.of _ _ m1, Option.bind_some]
 -- what is transposed: the same total, or refused
 have ht : (∃ s' B, tTr ⟨s, tx A⟩ = (⟨s', tx B⟩, 0) ∧ Ok s' B 40 ∧ su B = su A) ∨ tTr ⟨s, tx A⟩ = (nilT, 4) := by
  by_cases h2 : s.length = 2
  · obtain ⟨x, y, rfl⟩ := two_of h2;obtain ⟨r, c, rfl, rfl, hr, hc, r1, c1, la⟩ := two_ok oA;exact Or.inl ⟨_, _, ttr_ok oA, ok_tr oA (by decide), su_tr la⟩
  right;unfold tTr;rw [if_pos oA.right, if_neg h2]
 have hr : (∃ s', tShape ⟨s, tx A⟩ z = (⟨s', tx A⟩, 0) ∧ Ok s' A 40) ∨ ∃ c : Int, c ≠ 0 ∧ tShape ⟨s, tx A⟩ z = (nilT, c) := by
  unfold tShape;rw [if_pos oA.right];by_cases c1 : shOk z = true
  · by_cases c2 : size z = ((tx A).length : Int)
    · left;rw [if_pos c1, if_pos c2];refine ⟨z, rfl, c1, ?_, oA.bd⟩;rw [tx_len, size, if_pos c1] at c2;exact c2.symm
    exact Or.inr ⟨4, by decide, by rw [if_pos c1, if_neg c2]⟩
  exact Or.inr ⟨1, by decide, by rw [if_neg c1]⟩
 have zl : z.length ≤ 1000 := by omega
 have nsm : Sm ([] : List Int) ([] : List ByteArray) := sm_nil;rcases ht with ⟨s', B, e, oB, hB⟩ | e <;> rw [e]
 · dsimp only;rw [array_Total.of _ _ ⟨oB.sm (by decide), oB.acc (by decide)⟩, Option.bind_some, array_Reshape.of _ _ _ ⟨m1, zl⟩, Option.bind_some];rcases hr with ⟨s2, e2, o2⟩ | ⟨c, hc, e2⟩ <;> rw [e2]
   · dsimp only;rw [array_Total.of _ _ ⟨o2.sm (by decide), o2.acc (by decide)⟩, Option.bind_some, tot_ok oA, tot_ok oB, tot_ok o2, hB];dsimp only;rw [if_pos rfl, eq1, Option.bind_some, if_pos rfl, if_pos rfl, if_pos (by rfl), awake];rfl
   dsimp only [nilT];rw [array_Total.of _ _ ⟨nsm, acc_nil⟩, Option.bind_some, tot_ok oA, tot_ok oB, hB];dsimp only;rw [if_pos rfl, eq1, Option.bind_some, if_pos rfl, if_neg hc, if_pos (by rfl), awake];rfl
 dsimp only [nilT];rw [array_Total.of _ _ ⟨nsm, acc_nil⟩, Option.bind_some, array_Reshape.of _ _ _ ⟨m1, zl⟩, Option.bind_some];rcases hr with ⟨s2, e2, o2⟩ | ⟨c, hc, e2⟩ <;> rw [e2]
 · dsimp only;rw [array_Total.of _ _ ⟨o2.sm (by decide), o2.acc (by decide)⟩, Option.bind_some, tot_ok oA, tot_ok o2];dsimp only;rw [if_neg (by decide), if_pos rfl, eq1, Option.bind_some, if_pos rfl, if_pos (by rfl), awake];rfl
 dsimp only [nilT];rw [array_Total.of _ _ ⟨nsm, acc_nil⟩, Option.bind_some, tot_ok oA];dsimp only;rw [if_neg (by decide), if_neg hc, if_pos (by rfl), awake];rfl
end Go.Proofs.YtmmonhgfnmeieaaGreatDoor.Pure
