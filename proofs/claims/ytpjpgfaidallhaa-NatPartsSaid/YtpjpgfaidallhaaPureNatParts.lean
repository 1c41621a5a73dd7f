/- NatParts: whatever the three texts, the law answers true: a quotient by a product is that by one factor, and then by the other one. No conditions beyond the row's own. -/
import Derived.Test.YtpjpgfaidallhaaQB
import Derived.Test.YtpjpgfaidallhaaPQx2
set_option linter.unusedSimpArgs false
namespace Go.Proofs.Ytpjpgfaidallhaa.Pure
open Go Go.RowKit Go.Proofs.Ytpjpgfaidallhaa.PQ Go.Proofs.YtpjpgfaidallhaaW.PrintWords Go.Proofs.Ytpjpgfaidallhaa.Th
theorem NatParts : tapewrightlaw01_NatParts.Pure := by
  intro a b c s0 s1 s2
  apply Ev.rounds
  have hj : Ev (fun k => tapewrightlaw01_NatParts.j0 k a b c true) true := Ev.step (fun k => by rw [tapewrightlaw01_NatParts.j0, if_pos rfl, awake_true]; rfl) (Ev.now _)
  by_cases g0 : (a.size : Int) > 60
  · exact Ev.congr (fun k => by rw [tapewrightlaw01_NatParts.f, if_pos g0]) hj
  by_cases g1 : (b.size : Int) > 60
  · exact Ev.congr (fun k => by rw [tapewrightlaw01_NatParts.f, if_neg g0, if_pos g1]) hj
  by_cases g2 : (c.size : Int) > 60
  · exact Ev.congr (fun k => by rw [tapewrightlaw01_NatParts.f, if_neg g0, if_neg g1, if_pos g2]) hj
  refine Ev.congr (fun k => by rw [tapewrightlaw01_NatParts.f, if_neg g0, if_neg g1, if_neg g2, right_f s0, right_f s1, right_f s2, Option.bind_some, Option.bind_some, Option.bind_some]) ?_
  by_cases ra : ¬ Str.right a = true
  · exact Ev.congr (fun k => by rw [if_neg ra]) hj
  replace ra := Decidable.not_not.1 ra
  by_cases rb : ¬ Str.right b = true
  · exact Ev.congr (fun k => by rw [if_pos ra, if_neg rb]) hj
  replace rb := Decidable.not_not.1 rb
  by_cases rc : ¬ Str.right c = true
  · exact Ev.congr (fun k => by rw [if_pos ra, if_pos rb, if_neg rc]) hj
  replace rc := Decidable.not_not.1 rc
  refine Ev.congr (fun k => by rw [if_pos ra, if_pos rb, if_pos rc]) ?_
  obtain ⟨m, rfl⟩ := (right_iff a).1 ra
  obtain ⟨n, rfl⟩ := (right_iff b).1 rb
  obtain ⟨p, rfl⟩ := (right_iff c).1 rc
  by_cases zb : (txt n).toList = ([48] : List UInt8)
  · exact Ev.congr (fun k => by rw [if_pos zb]) hj
  refine Ev.congr (fun k => by rw [if_neg zb]) ?_
  by_cases zc : (txt p).toList = ([48] : List UInt8)
  · have : ((txt p).toList == ([48] : List UInt8)) = true := by simpa using zc
    rw [this]
    exact hj
  have hzc : ((txt p).toList == ([48] : List UInt8)) = false := by simpa using zc
  rw [hzc]
  rw [zero_iff] at zb zc
  have f0 : (txt m).size ≤ 60 := by omega
  have f1 : (txt n).size ≤ 60 := by omega
  have f2 : (txt p).size ≤ 60 := by omega
  have e1 := nat_Mul.txt (m := n) (n := p) (fit_of f1 (by omega)) (fit_of f2 (by omega))
  have e2 := nat_Div.txt (m := m) (n := n * p) (fit_of f0 (by omega)) (fit_of (fit_mul f1 f2) (by omega)) (Nat.mul_ne_zero zb zc)
  have e3 := nat_Div.txt (m := m) (n := n) (fit_of f0 (by omega)) (fit_of f1 (by omega)) zb
  have e4 := nat_Div.txt (m := m / n) (n := p) (fit_of (fit_le (Nat.div_le_self _ _) f0) (by omega)) (fit_of f2 (by omega)) zc
  refine Ev.step (f := fun _ => some true) (fun k => ?_) (Ev.now _)
  rw [tapewrightlaw01_NatParts.j0, if_neg (by simp)]
  simp only [e1, e2, e3, e4, Option.bind_some, awake_true]
  simp [Nat.div_div_eq_div_mul]
end Go.Proofs.Ytpjpgfaidallhaa.Pure
