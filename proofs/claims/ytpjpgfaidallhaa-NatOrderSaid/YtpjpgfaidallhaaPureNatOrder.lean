/- NatOrder: whatever the texts, the law answers true: which is less does not turn when a number is added to both, or both are times one that is not 0, and goes on from one to the next. No conditions beyond the row's own. -/
import Derived.Test.YtpjpgfaidallhaaQS
import Derived.Test.YtpjpgfaidallhaaPQx6
set_option linter.unusedSimpArgs false
namespace Go.Proofs.Ytpjpgfaidallhaa.Pure
open Go Go.RowKit Go.Proofs.Ytpjpgfaidallhaa.PQ Go.Proofs.YtpjpgfaidallhaaW.PrintWords Go.Proofs.Ytpjpgfaidallhaa.Th
theorem cmp_add (m n p : Nat) : cmp ((m + p : Nat) : Int) ((n + p : Nat) : Int) = cmp (m : Int) (n : Int) := by
  unfold cmp
  by_cases h1 : m < n
  · rw [if_pos (by omega), if_pos (by omega)]
  · by_cases h2 : n < m
    · rw [if_neg (by omega), if_pos (by omega), if_neg (by omega), if_pos (by omega)]
    · rw [if_neg (by omega), if_neg (by omega), if_neg (by omega), if_neg (by omega)]
theorem cmp_of {a b : Nat} : cmp (a : Int) (b : Int) = if a < b then -1 else if b < a then 1 else 0 := by
  unfold cmp
  by_cases h1 : a < b
  · rw [if_pos (by omega), if_pos h1]
  · rw [if_neg (by omega), if_neg h1]
    by_cases h2 : b < a
    · rw [if_pos (by omega), if_pos h2]
    · rw [if_neg (by omega), if_neg h2]
theorem cmp_mul (m n p : Nat) (hp : p ≠ 0) : cmp ((m * p : Nat) : Int) ((n * p : Nat) : Int) = cmp (m : Int) (n : Int) := by
  have hpp := Nat.pos_of_ne_zero hp
  have e1 : m * p < n * p ↔ m < n := Nat.mul_lt_mul_right hpp
  have e2 : n * p < m * p ↔ n < m := Nat.mul_lt_mul_right hpp
  rw [cmp_of, cmp_of]
  simp only [e1, e2]
theorem NatOrder : tapewrightlaw01_NatOrder.Pure := by
  intro a b c s0 s1 s2
  apply Ev.rounds
  have hj : Ev (fun k => tapewrightlaw01_NatOrder.j0 k a b c true) true := Ev.step (fun k => by rw [tapewrightlaw01_NatOrder.j0, if_pos rfl, awake_true]; rfl) (Ev.now _)
  refine Ev.bind (short_ev [a, b, c] (by simp)) ?_
  by_cases g : ¬ ([a, b, c].all fun s => decide (s.size ≤ 120)) = true
  · exact Ev.congr (fun k => by rw [if_neg g]) hj
  replace g := Decidable.not_not.1 g
  refine Ev.congr (fun k => by rw [if_pos g]) ?_
  by_cases gs : (wrap64 ((wrap64 ((a.size : Int) + (b.size : Int))) + (c.size : Int))) > 180
  · exact Ev.congr (fun k => by rw [if_pos gs]) hj
  refine Ev.congr (fun k => by rw [if_neg gs, right_f s0, Option.bind_some, right_f s1, Option.bind_some, right_f s2, Option.bind_some]) ?_
  clear gs
  by_cases r0 : ¬ Str.right a = true
  · exact Ev.congr (fun k => by rw [if_neg r0]) hj
  replace r0 := Decidable.not_not.1 r0
  by_cases r1 : ¬ Str.right b = true
  · exact Ev.congr (fun k => by rw [if_pos r0, if_neg r1]) hj
  replace r1 := Decidable.not_not.1 r1
  refine Ev.congr (fun k => by rw [if_pos r0, if_pos r1]) ?_
  by_cases r2 : ¬ Str.right c = true
  · rw [Bool.not_eq_true] at r2
    rw [r2]
    exact hj
  replace r2 := Decidable.not_not.1 r2
  rw [r2]
  simp only [List.all_cons, List.all_nil, Bool.and_true, Bool.and_eq_true, decide_eq_true_eq] at g
  obtain ⟨m, rfl⟩ := (right_iff a).1 r0
  obtain ⟨n, rfl⟩ := (right_iff b).1 r1
  obtain ⟨p, rfl⟩ := (right_iff c).1 r2
  have f0 : (txt m).size ≤ 120 := by omega
  have f1 : (txt n).size ≤ 120 := by omega
  have f2 : (txt p).size ≤ 120 := by omega
  have F0 : Fit (txt m) := fit_of f0 (by omega)
  have F1 : Fit (txt n) := fit_of f1 (by omega)
  have F2 : Fit (txt p) := fit_of f2 (by omega)
  have e1 := nat_Compare.txt F0 F1
  have e2 := nat_Add.txt F0 F2
  have e3 := nat_Add.txt F1 F2
  have e4 := nat_Compare.txt (fit_of (fit_add f0 f2) (by omega)) (fit_of (fit_add f1 f2) (by omega))
  have e5 := nat_Mul.txt F0 F2
  have e6 := nat_Mul.txt F1 F2
  have e7 := nat_Compare.txt (fit_of (fit_mul f0 f2) (by omega)) (fit_of (fit_mul f1 f2) (by omega))
  have e8 := nat_Compare.txt F1 F2
  have e9 := nat_Compare.txt F0 F2
  rw [cmp_add] at e4
  have hE : ((cmp (m : Int) (n : Int) == 0) == ((txt m).toList == (txt n).toList)) = true := by
    rw [beq_iff_eq, Bool.eq_iff_iff, beq_iff_eq, beq_iff_eq, txt_iff, cmp_of]
    by_cases h1 : m < n
    · rw [if_pos h1]; omega
    · rw [if_neg h1]
      by_cases h2 : n < m
      · rw [if_pos h2]; omega
      · rw [if_neg h2]; omega
  have hT : ¬ cmp (m : Int) (n : Int) > 0 → ¬ cmp (n : Int) (p : Int) > 0 → cmp (m : Int) (p : Int) ≤ 0 := by
    intro h1 h2
    have k1 : ¬ n < m := by
      intro h
      apply h1
      rw [cmp_of, if_neg (by omega), if_pos h]
      omega
    have k2 : ¬ p < n := by
      intro h
      apply h2
      rw [cmp_of, if_neg (by omega), if_pos h]
      omega
    rw [cmp_of]
    by_cases h3 : m < p
    · rw [if_pos h3]; omega
    · rw [if_neg h3, if_neg (by omega)]; omega
  refine Ev.step (f := fun k => tapewrightlaw01_NatOrder.j1 k (txt m) (txt n) (txt p) (cmp (m : Int) (n : Int)) 0 (cmp (m : Int) (n : Int)) 0 (cmp ((m * p : Nat) : Int) ((n * p : Nat) : Int)) 0 (cmp (n : Int) (p : Int)) (cmp (m : Int) (p : Int))) (fun k => ?_) ?_
  · rw [tapewrightlaw01_NatOrder.j0, if_neg (by simp)]
    simp only [e1, e2, e3, e4, e5, e6, e7, e8, e9, Option.bind_some]
  refine Ev.step (f := fun _ => some true) (fun k => ?_) (Ev.now _)
  rw [tapewrightlaw01_NatOrder.j1, if_pos rfl]
  by_cases hz : p = 0
  · have hn : cmp ((m * p : Nat) : Int) ((n * p : Nat) : Int) = 0 := by rw [hz, Nat.mul_zero, Nat.mul_zero]; rfl
    rw [if_pos (zero_iff.2 hz), if_pos hn]
    by_cases h1 : cmp (m : Int) (n : Int) > 0
    · rw [if_pos h1, if_pos hE, if_pos rfl, if_pos rfl, if_pos rfl, awake_true]; rfl
    · by_cases h2 : cmp (n : Int) (p : Int) > 0
      · rw [if_neg h1, if_pos h2, if_pos hE, if_pos rfl, if_pos rfl, if_pos rfl, awake_true]; rfl
      · rw [if_neg h1, if_neg h2, if_pos (hT h1 h2), if_pos hE, if_pos rfl, if_pos rfl, if_pos rfl, awake_true]; rfl
  · rw [if_neg (fun h => hz (zero_iff.1 h)), if_pos (cmp_mul m n p hz)]
    by_cases h1 : cmp (m : Int) (n : Int) > 0
    · rw [if_pos h1, if_pos hE, if_pos rfl, if_pos rfl, if_pos rfl, awake_true]; rfl
    · by_cases h2 : cmp (n : Int) (p : Int) > 0
      · rw [if_neg h1, if_pos h2, if_pos hE, if_pos rfl, if_pos rfl, if_pos rfl, awake_true]; rfl
      · rw [if_neg h1, if_neg h2, if_pos (hT h1 h2), if_pos hE, if_pos rfl, if_pos rfl, if_pos rfl, awake_true]; rfl
end Go.Proofs.Ytpjpgfaidallhaa.Pure
