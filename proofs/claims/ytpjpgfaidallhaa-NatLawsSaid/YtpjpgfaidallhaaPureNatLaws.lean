/- NatLaws: whatever the texts, the law answers true: sums and products do not hang on their order; a product with a sum is the sum of the products; a quotient, times the divisor, and what is left over, are the number. No conditions beyond the row's own. -/
import Derived.Test.YtpjpgfaidallhaaQS
import Derived.Test.YtpjpgfaidallhaaPQx5
set_option linter.unusedSimpArgs false
namespace Go.Proofs.Ytpjpgfaidallhaa.Pure
open Go Go.RowKit Go.Proofs.Ytpjpgfaidallhaa.PQ Go.Proofs.YtpjpgfaidallhaaW.PrintWords Go.Proofs.Ytpjpgfaidallhaa.Th
theorem NatLaws : tapewrightlaw01_NatLaws.Pure := by
  intro a b c s0 s1 s2
  apply Ev.rounds
  have hj : Ev (fun k => tapewrightlaw01_NatLaws.j0 k a b c true) true := Ev.step (fun k => by rw [tapewrightlaw01_NatLaws.j0, if_pos rfl, awake_true]; rfl) (Ev.now _)
  refine Ev.bind (short_ev [a, b, c] (by simp)) ?_
  by_cases g : ¬ ([a, b, c].all fun s => decide (s.size ≤ 120)) = true
  · exact Ev.congr (fun k => by rw [if_neg g]) hj
  replace g := Decidable.not_not.1 g
  refine Ev.congr (fun k => by rw [if_pos g, right_f s0, Option.bind_some, right_f s1, Option.bind_some, right_f s2, Option.bind_some]) ?_
  by_cases r0 : ¬ Str.right a = true
  · exact Ev.congr (fun k => by rw [if_neg r0]) hj
  replace r0 := Decidable.not_not.1 r0
  by_cases r1 : ¬ Str.right b = true
  · exact Ev.congr (fun k => by rw [if_pos r0, if_neg r1]) hj
  replace r1 := Decidable.not_not.1 r1
  refine Ev.congr (fun k => by rw [if_pos r0, if_pos r1]) ?_
  by_cases r2 : ¬ Str.right c = true
  · rw [Bool.not_eq_true] at r2
    rw [r2]
    exact hj
  replace r2 := Decidable.not_not.1 r2
  rw [r2]
  simp only [List.all_cons, List.all_nil, Bool.and_true, Bool.and_eq_true, decide_eq_true_eq] at g
  obtain ⟨m, rfl⟩ := (right_iff a).1 r0
  obtain ⟨n, rfl⟩ := (right_iff b).1 r1
  obtain ⟨p, rfl⟩ := (right_iff c).1 r2
  have f0 : (txt m).size ≤ 120 := by omega
  have f1 : (txt n).size ≤ 120 := by omega
  have f2 : (txt p).size ≤ 120 := by omega
  have F0 : Fit (txt m) := fit_of f0 (by omega)
  have F1 : Fit (txt n) := fit_of f1 (by omega)
  have F2 : Fit (txt p) := fit_of f2 (by omega)
  have e1 := nat_Add.txt F1 F2
  have e2 := nat_Add.txt F2 F1
  have F12 := fit_add f1 f2
  have e3 := nat_Mul.txt F0 (fit_of F12 (by omega))
  have e4 := nat_Mul.txt F0 F1
  have e5 := nat_Mul.txt F2 F0
  have e6 := nat_Add.txt (fit_of (fit_mul f0 f1) (by omega)) (fit_of (fit_mul f2 f0) (by omega))
  have hc : p + n = n + p := Nat.add_comm p n
  have hd : m * n + p * m = m * (n + p) := by rw [Nat.mul_add, Nat.mul_comm p m]
  refine Ev.step (f := fun k => tapewrightlaw01_NatLaws.j1 k (txt m) (txt p) false) (fun k => ?_) ?_
  · rw [tapewrightlaw01_NatLaws.j0, if_neg (by simp)]
    simp only [e1, e2, e3, e4, e5, e6, Option.bind_some]
    rw [hc, hd, if_pos rfl, if_pos rfl]
    rfl
  refine Ev.step (f := fun _ => some true) (fun k => ?_) (Ev.now _)
  rw [tapewrightlaw01_NatLaws.j1, if_neg (by simp)]
  by_cases hz : p = 0
  · rw [if_pos (zero_iff.2 hz), awake_true]
    rfl
  · have hlt := Nat.mod_lt m (Nat.pos_of_ne_zero hz)
    have hq : (txt (m / p)).size ≤ 120 := fit_le (Nat.div_le_self _ _) f0
    have hr : (txt (m % p)).size ≤ 120 := fit_le (Nat.mod_le _ _) f0
    have e7 := nat_Div.txt F0 F2 hz
    have e8 := nat_Mul.txt (fit_of hq (by omega)) F2
    have e9 := nat_Add.txt (fit_of (fit_mul hq f2) (by omega)) (fit_of hr (by omega))
    have e10 := nat_Compare.txt (fit_of hr (by omega)) F2
    have hs : m / p * p + m % p = m := by rw [Nat.mul_comm]; exact Nat.div_add_mod m p
    have hcmp : cmp ((m % p : Nat) : Int) (p : Int) = -1 := by unfold cmp; rw [if_pos (by omega)]
    rw [if_neg (fun h => hz (zero_iff.1 h))]
    simp only [e7, e8, e9, e10, Option.bind_some]
    rw [hs, hcmp]
    simp [awake_true]
end Go.Proofs.Ytpjpgfaidallhaa.Pure
