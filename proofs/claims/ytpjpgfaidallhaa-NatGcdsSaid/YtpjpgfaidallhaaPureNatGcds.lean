/- NatGcds: whatever the texts, the law answers true: what divides both divides both, in either order, and products with one number have that much more. No conditions beyond the row's own. -/
import Derived.Test.YtpjpgfaidallhaaQB
import Derived.Test.YtpjpgfaidallhaaPQx3
set_option linter.unusedSimpArgs false
namespace Go.Proofs.Ytpjpgfaidallhaa.Pure
open Go Go.RowKit Go.Proofs.Ytpjpgfaidallhaa.PQ Go.Proofs.YtpjpgfaidallhaaW.PrintWords Go.Proofs.Ytpjpgfaidallhaa.Th
theorem NatGcds : tapewrightlaw01_NatGcds.Pure := by
  intro a b c s0 s1 s2
  apply Ev.rounds
  have hj : Ev (fun k => tapewrightlaw01_NatGcds.j0 k a b c true) true := Ev.step (fun k => by rw [tapewrightlaw01_NatGcds.j0, if_pos rfl, awake_true]; rfl) (Ev.now _)
  by_cases g0 : (a.size : Int) > 40
  · exact Ev.congr (fun k => by rw [tapewrightlaw01_NatGcds.f, if_pos g0]) hj
  by_cases g1 : (b.size : Int) > 40
  · exact Ev.congr (fun k => by rw [tapewrightlaw01_NatGcds.f, if_neg g0, if_pos g1]) hj
  by_cases g2 : (c.size : Int) > 40
  · exact Ev.congr (fun k => by rw [tapewrightlaw01_NatGcds.f, if_neg g0, if_neg g1, if_pos g2]) hj
  refine Ev.congr (fun k => by rw [tapewrightlaw01_NatGcds.f, if_neg g0, if_neg g1, if_neg g2, right_f s0, Option.bind_some, right_f s1, Option.bind_some, right_f s2, Option.bind_some]) ?_
  by_cases r0 : ¬ Str.right a = true
  · exact Ev.congr (fun k => by rw [if_neg r0]) hj
  replace r0 := Decidable.not_not.1 r0
  by_cases r1 : ¬ Str.right b = true
  · exact Ev.congr (fun k => by rw [if_pos r0, if_neg r1]) hj
  replace r1 := Decidable.not_not.1 r1
  refine Ev.congr (fun k => by rw [if_pos r0, if_pos r1]) ?_
  by_cases r2 : ¬ Str.right c = true
  · rw [Bool.not_eq_true] at r2
    rw [r2]
    exact hj
  replace r2 := Decidable.not_not.1 r2
  rw [r2]
  obtain ⟨m, rfl⟩ := (right_iff a).1 r0
  obtain ⟨n, rfl⟩ := (right_iff b).1 r1
  obtain ⟨p, rfl⟩ := (right_iff c).1 r2
  have f0 : (txt m).size ≤ 40 := by omega
  have f1 : (txt n).size ≤ 40 := by omega
  have f2 : (txt p).size ≤ 40 := by omega
  have F0 : Fit (txt m) := fit_of f0 (by omega)
  have F1 : Fit (txt n) := fit_of f1 (by omega)
  have F2 : Fit (txt p) := fit_of f2 (by omega)
  have e1 := nat_Gcd.txt F0 F1
  have e2 := nat_Gcd.txt F1 F0
  have e3 := nat_Mul.txt F0 F2
  have e4 := nat_Mul.txt F1 F2
  have e5 := nat_Gcd.txt (fit_of (fit_mul f0 f2) (by omega)) (fit_of (fit_mul f1 f2) (by omega))
  have hg : (txt (Nat.gcd m n)).size ≤ 41 := by
    by_cases h : n = 0
    · subst h; rw [Nat.gcd_zero_right]; omega
    · exact Nat.le_trans (fit_le (Nat.le_of_dvd (by omega) (Nat.gcd_dvd_right m n)) f1) (by omega)
  have FG := fit_of hg (by omega)
  have e6 := nat_Mul.txt FG F2
  have hc : Nat.gcd n m = Nat.gcd m n := Nat.gcd_comm n m
  have hm : Nat.gcd (m * p) (n * p) = Nat.gcd m n * p := Nat.gcd_mul_right m p n
  by_cases hz : Nat.gcd m n = 0
  · obtain ⟨h1, h2⟩ := Nat.gcd_eq_zero_iff.1 hz
    refine Ev.step (f := fun k => tapewrightlaw01_NatGcds.j1 k (txt m) (txt n) (txt (Nat.gcd m n)) false) (fun k => ?_) ?_
    · rw [tapewrightlaw01_NatGcds.j0, if_neg (by simp)]
      simp only [e1, e2, e3, e4, e5, e6, Option.bind_some]
      rw [hc, hm, if_pos rfl, if_pos rfl]
      rfl
    · refine Ev.step (f := fun _ => some true) (fun k => ?_) (Ev.now _)
      rw [tapewrightlaw01_NatGcds.j1, if_neg (by simp), if_pos (zero_iff.2 hz), if_pos (zero_iff.2 h1), if_pos (zero_iff.2 h2), awake_true]
      rfl
  · have e7 := nat_Div.txt F0 FG hz
    have e8 := nat_Div.txt F1 FG hz
    refine Ev.step (f := fun k => tapewrightlaw01_NatGcds.j1 k (txt m) (txt n) (txt (Nat.gcd m n)) false) (fun k => ?_) ?_
    · rw [tapewrightlaw01_NatGcds.j0, if_neg (by simp)]
      simp only [e1, e2, e3, e4, e5, e6, Option.bind_some]
      rw [hc, hm, if_pos rfl, if_pos rfl]
      rfl
    · refine Ev.step (f := fun _ => some true) (fun k => ?_) (Ev.now _)
      rw [tapewrightlaw01_NatGcds.j1, if_neg (by simp), if_neg (fun h => hz (zero_iff.1 h))]
      simp only [e7, e8, Option.bind_some]
      rw [if_pos (zero_iff.2 (Nat.mod_eq_zero_of_dvd (Nat.gcd_dvd_left m n))), if_pos (zero_iff.2 (Nat.mod_eq_zero_of_dvd (Nat.gcd_dvd_right m n))), awake_true]
      rfl
end Go.Proofs.Ytpjpgfaidallhaa.Pure
