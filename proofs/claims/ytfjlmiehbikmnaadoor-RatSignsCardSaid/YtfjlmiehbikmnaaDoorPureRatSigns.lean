/- RatSigns: whatever the texts, the law answers true: a product's sign is that of both signs, a quotient's, too; a power of an even number of factors is never below 0. No conditions beyond the row's own (what the listed variables hold is tied by the card). -/
import Derived.Test.YtfjlmiehbikmnaaDoorRB
import Derived.Test.YtfjlmiehbikmnaaDoorPQx5
set_option linter.unusedSimpArgs false
set_option linter.unusedVariables false
namespace Go.Proofs.YtfjlmiehbikmnaaDoor.Pure
open Go Go.RowKit Go.Proofs.YtfjlmiehbikmnaaDoor.PQ Go.Proofs.YtfjlmiehbikmnaaDoorW.PrintWords Go.Proofs.YtfjlmiehbikmnaaDoor.Th Go.Proofs.YtfjlmiehbikmnaaDoor.Th.Wh Go.Proofs.YtfjlmiehbikmnaaDoor.Err
theorem tm2 {n : Int} (h : (Lit.int .u8 n).wf = true) : ∃ i : Nat, wrap64 (2 * (wrap64 (Int.tmod n 4))) = ((2 * i : Nat) : Int) ∧ i < 4 := by
  have h0 : 0 ≤ n ∧ n ≤ 255 := by
    rw [Lit.wf, Bool.and_eq_true, decide_eq_true_eq, decide_eq_true_eq, show IntKind.u8.min = 0 from rfl, show IntKind.u8.max = 255 from rfl] at h
    exact h
  have e : Int.tmod n 4 = n % 4 := Int.tmod_eq_emod_of_nonneg h0.1
  refine ⟨(n % 4).toNat, ?_, by omega⟩
  rw [e, w64 (x := n % 4) (by omega) (by omega), w64 (by omega) (by omega)]
  omega
theorem mul_pos' {x y : Rat} (h1 : 0 < x) (h2 : 0 < y) : 0 < x * y := Rat.mul_pos h1 h2
theorem rs_mul (x y : Rat) : sgn (x * y).num = wrap64 (sgn x.num * sgn y.num) := by
  rcases rs_cases x with ⟨h1, e1⟩ | ⟨h1, e1⟩ | ⟨h1, e1⟩ <;> rcases rs_cases y with ⟨h2, e2⟩ | ⟨h2, e2⟩ | ⟨h2, e2⟩ <;> rw [e1, e2, w64 (by decide) (by decide)]
  · have h := mul_pos' (x := -x) (y := -y) (by grind) (by grind)
    have h3 : 0 < x * y := by grind
    have := rs_pos.2 h3; have := rs_le (x * y); omega
  · rw [h2]; have := (rs_zero (x := x * 0)).2 (by grind); omega
  · have h := mul_pos' (x := -x) (y := y) (by grind) h2
    have h3 : 0 < -(x * y) := by grind
    have := rs_pos.2 h3; rw [rs_neg] at this; have := rs_le (x * y); omega
  · rw [h1]; have := (rs_zero (x := 0 * y)).2 (by grind); omega
  · rw [h1]; have := (rs_zero (x := 0 * y)).2 (by grind); omega
  · rw [h1]; have := (rs_zero (x := 0 * y)).2 (by grind); omega
  · have h := mul_pos' (x := x) (y := -y) h1 (by grind)
    have h3 : 0 < -(x * y) := by grind
    have := rs_pos.2 h3; rw [rs_neg] at this; have := rs_le (x * y); omega
  · rw [h2]; have := (rs_zero (x := x * 0)).2 (by grind); omega
  · have h := mul_pos' h1 h2
    have := rs_pos.2 h; have := rs_le (x * y); omega
theorem rs_inv (y : Rat) : sgn (y⁻¹).num = sgn y.num := by
  apply rs_congr
  · exact Rat.inv_pos
  · have h := @Rat.inv_pos (-y)
    have e : (-y)⁻¹ = -(y⁻¹) := by grind
    rw [e] at h
    grind
theorem rs_div (x y : Rat) (_ : y ≠ 0) : sgn (x / y).num = wrap64 (sgn x.num * sgn y.num) := by rw [Rat.div_def, rs_mul, rs_inv]
theorem pow_even (x : Rat) (i : Nat) : 0 ≤ x ^ (2 * i) := by
  induction i with
  | zero => rw [Nat.mul_zero, Rat.pow_zero]; decide
  | succ i ih =>
    rw [Nat.mul_succ, Rat.pow_succ, Rat.pow_succ]
    have h : 0 ≤ x * x := by
      rcases Rat.le_total (a := 0) (b := x) with h | h
      · exact Rat.mul_nonneg h h
      · have := Rat.mul_nonneg (a := -x) (b := -x) (by grind) (by grind)
        grind
    have := Rat.mul_nonneg ih h
    grind
theorem rv_nil : rv (⟨#[]⟩ : ByteArray) = none := by
  rcases rv_cases (⟨#[]⟩ : ByteArray) with h | ⟨x, hx, _⟩
  · exact h
  · exfalso
    have := qm_le x
    rw [← hx] at this
    have := qm_pos x
    have e : (⟨#[]⟩ : ByteArray).size = 0 := rfl
    omega
theorem RatSigns : tapewrightlaw03_RatSigns.Pure := by
  intro a b n s0 s1 s2
  apply Ev.rounds
  refine Ev.bind (short_ev [a, b] (by simp)) ?_
  by_cases g : ¬ ([a, b].all ok) = true
  · exact Ev.congr (fun k => by rw [if_neg g, awake_true]; rfl) (Ev.now _)
  replace g := Decidable.not_not.1 g
  refine Ev.congr (fun k => by rw [if_pos g]) ?_
  simp only [List.all_cons, List.all_nil, Bool.and_true, Bool.and_eq_true] at g
  obtain ⟨g0, g1⟩ := g
  obtain ⟨x, rfl, f0⟩ := ok_rt g0
  obtain ⟨y, rfl, f1⟩ := ok_rt g1
  clear g0 g1
  refine Ev.congr (f := fun _ => some true) (fun k => ?_) (Ev.now _)
  
  obtain ⟨i, hi, hi'⟩ : ∃ i : Nat, wrap64 (2 * (wrap64 (Int.tmod n 4))) = ((2 * i : Nat) : Int) ∧ i < 4 := tm2 s2
  have e1 := rat_Sign.rt (fr f0)
  have e2 := rat_Sign.rt (fr f1)
  have e3 := rat_Mul.rt (fr f0) (fr f1)
  have e4 := rat_Sign.rt (fr (qx f0 f1))
  have e5 := rat_Power.rt (fr f0) (2 * i) (by omega)
  have e6 := rat_Sign.rt (fr (qp f0 (2 * i)))
  have i1 : sgn (x * y).num = wrap64 (sgn x.num * sgn y.num) := rs_mul x y
  have i2 : sgn (x ^ (2 * i)).num ≥ 0 := by
    have h := pow_even x i
    rcases rs_cases (x ^ (2 * i)) with ⟨a, e⟩ | ⟨a, e⟩ | ⟨a, e⟩
    · exfalso; grind
    · omega
    · omega
  rw [hi]
  by_cases h0 : y = 0
  · subst h0
    have e7 := rat_Quo.rt0 (fr f0)
    have e8 : rat_Sign.f (⟨#[]⟩ : ByteArray) = some (0, 2) := by
      rw [rat_Sign.of _ (by decide), rSign, rv_nil]
    simp only [e1, e2, e3, e4, e5, e6, e7, e8, Option.bind_some]
    rw [if_pos i1, if_pos i2, if_pos (l48.2 rfl), if_pos trivial, if_pos trivial, if_pos trivial, awake_true]
    rfl
  · have e7 := rat_Quo.rt (fr f0) (fr f1) h0
    have e8 := rat_Sign.rt (fr (qd f0 f1))
    have i3 : sgn (x / y).num = wrap64 (sgn x.num * sgn y.num) := rs_div x y h0
    simp only [e1, e2, e3, e4, e5, e6, e7, e8, Option.bind_some]
    rw [if_pos i1, if_pos i2, if_neg (fun e => h0 (l48.1 e)), if_pos trivial, if_pos i3, if_pos trivial, if_pos trivial, awake_true]
    rfl
end Go.Proofs.YtfjlmiehbikmnaaDoor.Pure
