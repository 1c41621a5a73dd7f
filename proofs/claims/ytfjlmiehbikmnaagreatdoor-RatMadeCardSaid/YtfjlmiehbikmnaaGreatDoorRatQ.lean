/- Rational numbers: their texts, and what is in lowest terms. -/
import Derived.Test.YtfjlmiehbikmnaaGreatDoorRatZ
import Derived.Test.YtfjlmiehbikmnaaGreatDoorRatC
namespace Go.Proofs.YtfjlmiehbikmnaaGreatDoor.Err
open Go Go.RowKit Go.Proofs.YtfjlmiehbikmnaaGreatDoorW.PrintWords Go.Proofs.YtfjlmiehbikmnaaGreatDoor.PC Go.Proofs.YtfjlmiehbikmnaaGreatDoor.Th Go.Proofs.YtfjlmiehbikmnaaGreatDoor.Th.Wh
theorem ld_divInt (x y : Int) (hy : y ≠ 0) : ld x y = (Rat.divInt x y).den := by
  rw [Rat.den_divInt, if_neg hy, ld, Int.gcd, Nat.gcd_comm]
theorem lp_sign (x y : Int) (hy : y ≠ 0) : y.sign * x = lp x y := by
  unfold lp
  split
  · rw [Int.sign_eq_neg_one_of_neg (by assumption)]; omega
  · rw [Int.sign_eq_one_of_pos (by omega)]; omega
theorem ln_divInt (x y : Int) (hy : y ≠ 0) : ln x y = (Rat.divInt x y).num := by
  rw [Rat.num_divInt, lp_sign x y hy]
  have hg : (Int.gcd y x) = Nat.gcd x.natAbs y.natAbs := by rw [Int.gcd, Nat.gcd_comm]
  rw [hg]
  unfold ln
  have hd : Nat.gcd x.natAbs y.natAbs ∣ x.natAbs := Nat.gcd_dvd_left _ _
  have ha : (lp x y).natAbs = x.natAbs := by unfold lp; split <;> simp
  rw [← ha] at hd
  rw [← ha]
  generalize lp x y = p at *
  generalize Nat.gcd p.natAbs y.natAbs = g at *
  dsimp only
  split
  · rw [show (p : Int) = -(p.natAbs : Int) by omega, Int.natAbs_neg, Int.natAbs_natCast, Int.neg_ediv_of_dvd (Int.natCast_dvd_natCast.2 hd)]
    rfl
  · rw [show (p : Int) = (p.natAbs : Int) by omega, Int.natAbs_natCast]
    rfl
theorem num_bound (x y : Int) : (Rat.divInt x y).num.natAbs ≤ x.natAbs := by
  by_cases hy : y = 0
  · subst hy; rw [Rat.divInt_zero]; exact Nat.zero_le _
  rw [← ln_divInt x y hy]
  unfold ln
  have h := Nat.div_le_self x.natAbs (Nat.gcd x.natAbs y.natAbs)
  dsimp only
  generalize x.natAbs / Nat.gcd x.natAbs y.natAbs = q at *
  split <;> omega
theorem den_bound (x y : Int) (hy : y ≠ 0) : (Rat.divInt x y).den ≤ y.natAbs := by
  rw [← ld_divInt x y hy]
  exact Nat.div_le_self _ _
theorem add_divInt (x y : Rat) : x + y = Rat.divInt (x.num * y.den + y.num * x.den) (x.den * y.den : Nat) := by rw [Rat.add_def', Rat.divInt_ofNat]
theorem sub_divInt (x y : Rat) : x - y = Rat.divInt (x.num * y.den - y.num * x.den) (x.den * y.den : Nat) := by rw [Rat.sub_def', Rat.divInt_ofNat]
theorem mul_divInt (x y : Rat) : x * y = Rat.divInt (x.num * y.num) (x.den * y.den : Nat) := by rw [Rat.mul_def', Rat.divInt_ofNat]
theorem quo_divInt (x y : Rat) : x / y = Rat.divInt (x.num * y.den) (x.den * y.num) := by
  rw [Rat.div_def, Rat.inv_def]
  rw (occs := .pos [1]) [← Rat.num_divInt_den x]
  rw [Rat.divInt_mul_divInt]
theorem self_divInt (x : Rat) : Rat.divInt x.num (x.den : Int) = x := Rat.num_divInt_den x
/-- A rational's text. -/
def rt (x : Rat) : ByteArray := if x.den = 1 then zt x.num else zt x.num ++ (⟨#[47]⟩ : ByteArray) ++ txt x.den
theorem rt_one {x : Rat} (h : x.den = 1) : rt x = zt x.num := by unfold rt; rw [if_pos h]
theorem rt_frac {x : Rat} (h : x.den ≠ 1) : rt x = zt x.num ++ (⟨#[47]⟩ : ByteArray) ++ txt x.den := by unfold rt; rw [if_neg h]
theorem list_frac (a b : ByteArray) : (a ++ (⟨#[47]⟩ : ByteArray) ++ b).data.toList = a.data.toList ++ 47 :: b.data.toList := by simp
theorem no47_txt (n : Nat) : (47 : UInt8) ∉ (txt n).data.toList := by
  rw [txt_data]
  intro h
  have := List.all_eq_true.1 (digs_dig n) _ h
  exact absurd this (by decide)
theorem no47_zt (z : Int) : (47 : UInt8) ∉ (zt z).data.toList := by
  by_cases h : z < 0
  · rw [zt_minus h, List.mem_cons]
    intro h
    rcases h with h | h
    · exact absurd h (by decide)
    · exact no47_txt _ h
  · rw [zt_plain h]; exact no47_txt _
theorem idx_none : ∀ {l : List UInt8}, (47 : UInt8) ∉ l → Lib.indexByte l 47 = -1
  | [], _ => rfl
  | b :: l, h => by
    rw [List.mem_cons, not_or] at h
    unfold Lib.indexByte
    rw [if_neg (by rw [beq_iff_eq]; exact fun e => h.1 e.symm), if_pos (by rw [idx_none h.2]; rfl)]
theorem idx_mid (q : List UInt8) : ∀ {p : List UInt8}, (47 : UInt8) ∉ p → Lib.indexByte (p ++ 47 :: q) 47 = (p.length : Int)
  | [], _ => rfl
  | b :: l, h => by
    rw [List.mem_cons, not_or] at h
    rw [List.cons_append]
    unfold Lib.indexByte
    have e := idx_mid q h.2
    rw [if_neg (by rw [beq_iff_eq]; exact fun e => h.1 e.symm), if_neg (by rw [e, beq_iff_eq]; omega), e, List.length_cons]
    omega
theorem idx_cases : ∀ l : List UInt8, ((47 : UInt8) ∉ l) ∨ ∃ p q, l = p ++ 47 :: q ∧ (47 : UInt8) ∉ p
  | [] => Or.inl (by simp)
  | b :: l => by
    by_cases hb : b = 47
    · exact Or.inr ⟨[], l, by rw [hb]; rfl, by simp⟩
    rcases idx_cases l with h | ⟨p, q, rfl, h⟩
    · exact Or.inl (by rw [List.mem_cons]; exact fun e => e.elim (fun e => hb e.symm) h)
    · exact Or.inr ⟨b :: p, q, rfl, by rw [List.mem_cons]; exact fun e => e.elim (fun e => hb e.symm) h⟩
theorem mid_inj {p q p' q' : List UInt8} (h : p ++ 47 :: q = p' ++ 47 :: q') (h1 : (47 : UInt8) ∉ p) (h2 : (47 : UInt8) ∉ p') : p = p' ∧ q = q' := by
  have e1 := idx_mid q h1
  rw [h, idx_mid q' h2] at e1
  have := List.append_inj h (by omega)
  exact ⟨this.1, by have := this.2; injection this⟩
theorem rt_inj {x y : Rat} (h : rt x = rt y) : x = y := by
  by_cases hx : x.den = 1 <;> by_cases hy : y.den = 1
  · rw [rt_one hx, rt_one hy] at h
    exact Rat.ext (zt_inj h) (hx.trans hy.symm)
  · rw [rt_one hx, rt_frac hy] at h
    have := congrArg (fun s => s.data.toList) h
    rw [list_frac] at this
    exact absurd (by rw [this]; simp) (no47_zt x.num)
  · rw [rt_frac hx, rt_one hy] at h
    have := congrArg (fun s => s.data.toList) h
    rw [list_frac] at this
    exact absurd (by rw [← this]; simp) (no47_zt y.num)
  · rw [rt_frac hx, rt_frac hy] at h
    have := congrArg (fun s => s.data.toList) h
    rw [list_frac, list_frac] at this
    have := mid_inj this (no47_zt _) (no47_zt _)
    exact Rat.ext (zt_inj (ext_of this.1)) (txt_inj (ext_of this.2))
/-- A rational's size: the greater one of both sizes. -/
def qm (x : Rat) : Nat := max (zs x.num) (txt x.den).size
theorem ts_mono {m n : Nat} (h : m ≤ n) : (txt m).size ≤ (txt n).size := size_le (Nat.lt_of_le_of_lt h (lt_pow_size n)) (size_pos n)
theorem qm_le_of {x : Rat} {d : Nat} (h1 : zs x.num ≤ d) (h2 : (txt x.den).size ≤ d) : qm x ≤ d := Nat.max_le.2 ⟨h1, h2⟩
theorem qm_num (x : Rat) : zs x.num ≤ qm x := Nat.le_max_left _ _
theorem qm_den (x : Rat) : (txt x.den).size ≤ qm x := Nat.le_max_right _ _
theorem qm_pos (x : Rat) : 1 ≤ qm x := Nat.le_trans (size_pos x.den) (qm_den x)
theorem qm_divInt (a b : Int) {d : Nat} (h1 : zs a ≤ d) (h2 : zs b ≤ d) : qm (Rat.divInt a b) ≤ d := by
  refine qm_le_of (Nat.le_trans (ts_mono (num_bound a b)) h1) ?_
  by_cases hb : b = 0
  · subst hb
    rw [Rat.divInt_zero]
    exact Nat.le_trans (ts_mono (by decide : (0 : Rat).den ≤ 1)) (Nat.le_trans (by decide +kernel : (txt 1).size ≤ 1) (Nat.le_trans (size_pos _) h1))
  · exact Nat.le_trans (ts_mono (den_bound a b hb)) h2
theorem zs_cast (n : Nat) : zs (n : Int) = (txt n).size := rfl
theorem den_mul' (x y : Rat) : zs ((x.den * y.den : Nat) : Int) ≤ qm x + qm y := by
  rw [zs_cast]
  have := size_mul x.den y.den
  have := qm_den x
  have := qm_den y
  omega
theorem cross (x y : Rat) : zs (x.num * y.den) ≤ qm x + qm y := by
  have := zs_mul x.num y.den
  rw [zs_cast] at this
  have := qm_num x
  have := qm_den y
  omega
theorem qm_add (x y : Rat) : qm (x + y) ≤ qm x + qm y + 1 := by
  rw [add_divInt]
  refine qm_divInt _ _ ?_ (Nat.le_succ_of_le (den_mul' x y))
  have := zs_add (x.num * y.den) (y.num * x.den)
  have := cross x y
  have := cross y x
  omega
theorem qm_sub (x y : Rat) : qm (x - y) ≤ qm x + qm y + 1 := by
  rw [sub_divInt]
  refine qm_divInt _ _ ?_ (Nat.le_succ_of_le (den_mul' x y))
  have := zs_sub (x.num * y.den) (y.num * x.den)
  have := cross x y
  have := cross y x
  omega
theorem qm_mul (x y : Rat) : qm (x * y) ≤ qm x + qm y := by
  rw [mul_divInt]
  refine qm_divInt _ _ ?_ (den_mul' x y)
  have := zs_mul x.num y.num
  have := qm_num x
  have := qm_num y
  omega
theorem cross' (x y : Rat) : zs (x.den * y.num) ≤ qm x + qm y := by
  have := zs_mul x.den y.num
  rw [zs_cast] at this
  have := qm_den x
  have := qm_num y
  omega
theorem qm_div (x y : Rat) : qm (x / y) ≤ qm x + qm y := by
  rw [quo_divInt]
  exact qm_divInt _ _ (cross x y) (cross' x y)
theorem qm_neg (x : Rat) : qm (-x) = qm x := by unfold qm; rw [Rat.neg_num, Rat.neg_den, zs_neg]
theorem size_frac (a b : ByteArray) : (a ++ (⟨#[47]⟩ : ByteArray) ++ b).size = a.size + b.size + 1 := by
  rw [size_list', list_frac, List.length_append, List.length_cons, ← size_list', ← size_list']; omega
theorem qm_le (x : Rat) : qm x ≤ (rt x).size := by
  have h1 := (zs_le x.num).1
  by_cases h : x.den = 1
  · rw [rt_one h]
    refine qm_le_of h1 ?_
    rw [h]
    exact Nat.le_trans (by decide +kernel : (txt 1).size ≤ 1) (zt_len _)
  · rw [rt_frac h, size_frac]
    exact qm_le_of (by omega) (by omega)
theorem size_rt (x : Rat) : (rt x).size ≤ 2 * qm x + 2 := by
  have h1 := (zs_le x.num).2
  have h2 := qm_num x
  have h3 := qm_den x
  by_cases h : x.den = 1
  · rw [rt_one h]; omega
  · rw [rt_frac h, size_frac]; omega
/-- What a text tells: a rational, or none. -/
noncomputable def rv (s : ByteArray) : Option Rat := by
  classical exact if h : ∃ x, s = rt x then some h.choose else none
theorem rv_rt (x : Rat) : rv (rt x) = some x := by
  unfold rv
  rw [dif_pos ⟨x, rfl⟩]
  exact congrArg some (rt_inj (Exists.choose_spec (p := fun y => rt x = rt y) ⟨x, rfl⟩)).symm
theorem rv_some {s : ByteArray} {x : Rat} (h : rv s = some x) : s = rt x := by
  unfold rv at h
  split at h
  · rename_i h'
    injection h with h
    rw [← h]
    exact h'.choose_spec
  · cases h
theorem rv_none {s : ByteArray} (h : rv s = none) (x : Rat) : s ≠ rt x := by
  intro e
  rw [e, rv_rt] at h
  cases h
end Go.Proofs.YtfjlmiehbikmnaaGreatDoor.Err
