/- RatPowers: whatever the texts, the law answers true: a power of more is that of fewer, and of the others, as factors. No conditions beyond the row's own (what the listed variables hold is tied by the card). -/
import Derived.Test.YtfjlmiehbikmnaaDoorRB
import Derived.Test.YtfjlmiehbikmnaaDoorPQx3
set_option linter.unusedSimpArgs false
set_option linter.unusedVariables false
namespace Go.Proofs.YtfjlmiehbikmnaaDoor.Pure
open Go Go.RowKit Go.Proofs.YtfjlmiehbikmnaaDoor.PQ Go.Proofs.YtfjlmiehbikmnaaDoorW.PrintWords Go.Proofs.YtfjlmiehbikmnaaDoor.Th Go.Proofs.YtfjlmiehbikmnaaDoor.Th.Wh Go.Proofs.YtfjlmiehbikmnaaDoor.Err
theorem pow_add' (x : Rat) (i j : Nat) : x ^ (i + j) = x ^ i * x ^ j := by
  induction j with
  | zero => rw [Rat.pow_zero, Nat.add_zero]; grind
  | succ j ih => rw [← Nat.add_assoc, Rat.pow_succ, ih, Rat.pow_succ]; grind
theorem tm {n : Int} (h : (Lit.int .u8 n).wf = true) : ∃ i : Nat, wrap64 (Int.tmod n 4) = (i : Int) ∧ i < 4 := by
  have h0 : 0 ≤ n ∧ n ≤ 255 := by
    rw [Lit.wf, Bool.and_eq_true, decide_eq_true_eq, decide_eq_true_eq, show IntKind.u8.min = 0 from rfl, show IntKind.u8.max = 255 from rfl] at h
    exact h
  have e : Int.tmod n 4 = n % 4 := Int.tmod_eq_emod_of_nonneg h0.1
  refine ⟨(n % 4).toNat, ?_, by omega⟩
  rw [e, w64 (by omega) (by omega)]
  omega
theorem RatPowers : tapewrightlaw03_RatPowers.Pure := by
  intro a n m s0 s1 s2
  apply Ev.rounds
  refine Ev.bind (short_ev [a] (by simp)) ?_
  by_cases g : ¬ ([a].all ok) = true
  · exact Ev.congr (fun k => by rw [if_neg g, awake_true]; rfl) (Ev.now _)
  replace g := Decidable.not_not.1 g
  refine Ev.congr (fun k => by rw [if_pos g]) ?_
  simp only [List.all_cons, List.all_nil, Bool.and_true, Bool.and_eq_true] at g
  have g0 := g
  obtain ⟨x, rfl, f0⟩ := ok_rt g0
  clear g0
  refine Ev.congr (f := fun _ => some true) (fun k => ?_) (Ev.now _)
  
  obtain ⟨i, hi, hi'⟩ : ∃ i : Nat, wrap64 (Int.tmod n 4) = (i : Int) ∧ i < 4 := tm s1
  obtain ⟨j, hj, hj'⟩ : ∃ j : Nat, wrap64 (Int.tmod m 4) = (j : Int) ∧ j < 4 := tm s2
  have hw : wrap64 ((i : Int) + (j : Int)) = ((i + j : Nat) : Int) := by rw [w64 (by omega) (by omega)]; omega
  have e1 := rat_Power.rt (fr f0) i (by omega)
  have e2 := rat_Power.rt (fr f0) j (by omega)
  have e3 := rat_Power.rt (fr f0) (i + j) (by omega)
  have e4 := rat_Mul.rt (fr (qp f0 i)) (fr (qp f0 j))
  have i1 : x ^ (i + j) = x ^ i * x ^ j := pow_add' x i j
  rw [hi, hj, hw]
  simp only [e1, e2, e3, e4, Option.bind_some]
  rw [if_pos (tl i1), if_pos trivial, if_pos trivial, awake_true]
  rfl
end Go.Proofs.YtfjlmiehbikmnaaDoor.Pure
