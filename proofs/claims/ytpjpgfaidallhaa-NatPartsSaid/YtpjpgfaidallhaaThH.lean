/- What the exported functions of nat come to. -/
import Derived.Test.YtpjpgfaidallhaaThG
namespace Go.Proofs.Ytpjpgfaidallhaa.Th
open Go Go.RowKit Go.Proofs.YtpjpgfaidallhaaW.PrintWords Go.Proofs.YtpjpgfaidallhaaW.PrintMore Go.Proofs.Ytpjpgfaidallhaa.Str Go.Proofs.Ytpjpgfaidallhaa.PA
/-! ### sizes -/
theorem size_mono {m n : Nat} (h : m ≤ n) : (txt m).size ≤ (txt n).size := size_le (Nat.lt_of_le_of_lt h (lt_pow_size n)) (size_pos n)
theorem size_add (m n : Nat) : (txt (m + n)).size ≤ max (txt m).size (txt n).size + 1 := by
  apply size_le _ (by omega)
  have h1 := lt_pow_size m
  have h2 := lt_pow_size n
  have h3 : 10 ^ (txt m).size ≤ 10 ^ max (txt m).size (txt n).size := Nat.pow_le_pow_right (by omega) (by omega)
  have h4 : 10 ^ (txt n).size ≤ 10 ^ max (txt m).size (txt n).size := Nat.pow_le_pow_right (by omega) (by omega)
  rw [Nat.pow_succ]
  omega
theorem size_mul (m n : Nat) : (txt (m * n)).size ≤ (txt m).size + (txt n).size := by
  apply size_le _ (by have := size_pos m; omega)
  rw [Nat.pow_add]
  exact Nat.mul_lt_mul'' (lt_pow_size m) (lt_pow_size n)
theorem size_num {a : ByteArray} (h : right a = true) : (txt (num a)).size = a.size := by rw [← txt_num h]
/-! ### what they come to -/
def sAdd (a b : ByteArray) : ByteArray × Int := if right a && right b then (txt (num a + num b), 0) else (⟨#[]⟩, 2)
def sSub (a b : ByteArray) : ByteArray × Int := if right a && right b then (if num a < num b then (⟨#[]⟩, 1) else (txt (num a - num b), 0)) else (⟨#[]⟩, 2)
def sMul (a b : ByteArray) : ByteArray × Int := if right a && right b then (txt (num a * num b), 0) else (⟨#[]⟩, 2)
def sDiv (a b : ByteArray) : ByteArray × ByteArray × Int := if right a && right b then (if num b = 0 then (⟨#[]⟩, ⟨#[]⟩, 3) else (txt (num a / num b), txt (num a % num b), 0)) else (⟨#[]⟩, ⟨#[]⟩, 2)
def sGcd (a b : ByteArray) : ByteArray × Int := if right a && right b then (txt (Nat.gcd (num a) (num b)), 0) else (⟨#[]⟩, 2)
def sCompare (a b : ByteArray) : Int × Int := if right a && right b then (cmp (num a : Int) (num b : Int), 0) else (0, 2)
/-- What is short enough to be told of. -/
abbrev Fit (a : ByteArray) : Prop := a.size ≤ 549755813888
theorem cond_of {a b : ByteArray} (h : (right a && right b) = true) : right a = true ∧ right b = true := by simpa using h
theorem add_spec (a b : ByteArray) (ha : Fit a) (hb : Fit b) : Ev (fun k => nat_Add.f k a b) (sAdd a b) := by
  unfold Fit at ha hb
  unfold sAdd
  cases h : (right a && right b) with
  | false =>
    refine Ev.bind (both_no a b h) ?_
    exact Ev.congr (fun k => by rw [if_neg (by simp)]; rfl) (Ev.now _)
  | true =>
    obtain ⟨hra, hrb⟩ := cond_of h
    obtain ⟨x, y, h1, h2, h3, h4, h5, h6, h7⟩ := both_yes a b (by omega) (by omega) hra hrb
    obtain ⟨r, r1, r2, r3, r4⟩ := add_ev x y h4.ok h5.ok (by omega) (by omega)
    have hsz := size_add (num a) (num b)
    rw [size_num hra, size_num hrb] at hsz
    refine Ev.bind h1 ?_
    refine Ev.congr (fun k => by rw [if_pos rfl]) ?_
    refine Ev.bind r1 ?_
    exact Ev.bind (text_ev r (num a + num b) r3 (by rw [r2, h2, h3]; simp) (by omega) (by omega)) (Ev.now _)
theorem mul_spec (a b : ByteArray) (ha : Fit a) (hb : Fit b) : Ev (fun k => nat_Mul.f k a b) (sMul a b) := by
  unfold Fit at ha hb
  unfold sMul
  cases h : (right a && right b) with
  | false =>
    refine Ev.bind (both_no a b h) ?_
    exact Ev.congr (fun k => by rw [if_neg (by simp)]; rfl) (Ev.now _)
  | true =>
    obtain ⟨hra, hrb⟩ := cond_of h
    obtain ⟨x, y, h1, h2, h3, h4, h5, h6, h7⟩ := both_yes a b (by omega) (by omega) hra hrb
    obtain ⟨r, r1, r2, r3, r4⟩ := mul_ev x y h4.ok h5.ok (by omega) (by omega)
    have hsz := size_mul (num a) (num b)
    rw [size_num hra, size_num hrb] at hsz
    refine Ev.bind h1 ?_
    refine Ev.congr (fun k => by rw [if_pos rfl]) ?_
    refine Ev.bind r1 ?_
    exact Ev.bind (text_ev r (num a * num b) r3 (by rw [r2, h2, h3]; simp) (by omega) (by omega)) (Ev.now _)
theorem compare_spec (a b : ByteArray) (ha : Fit a) (hb : Fit b) : Ev (fun k => nat_Compare.f k a b) (sCompare a b) := by
  unfold Fit at ha hb
  unfold sCompare
  cases h : (right a && right b) with
  | false =>
    refine Ev.bind (both_no a b h) ?_
    exact Ev.congr (fun k => by rw [if_neg (by simp)]; rfl) (Ev.now _)
  | true =>
    obtain ⟨hra, hrb⟩ := cond_of h
    obtain ⟨x, y, h1, h2, h3, h4, h5, h6, h7⟩ := both_yes a b (by omega) (by omega) hra hrb
    have hc := cmp_ev x y h4 h5 (by omega)
    rw [h2, h3] at hc
    refine Ev.bind h1 ?_
    refine Ev.congr (fun k => by rw [if_pos rfl]) ?_
    exact Ev.bind hc (Ev.now _)
theorem sub_spec (a b : ByteArray) (ha : Fit a) (hb : Fit b) : Ev (fun k => nat_Sub.f k a b) (sSub a b) := by
  unfold Fit at ha hb
  unfold sSub
  cases h : (right a && right b) with
  | false =>
    refine Ev.bind (both_no a b h) ?_
    exact Ev.congr (fun k => by rw [if_neg (by simp)]; rfl) (Ev.now _)
  | true =>
    obtain ⟨hra, hrb⟩ := cond_of h
    obtain ⟨x, y, h1, h2, h3, h4, h5, h6, h7⟩ := both_yes a b (by omega) (by omega) hra hrb
    have hc := cmp_ev x y h4 h5 (by omega)
    rw [h2, h3] at hc
    by_cases hlt : num a < num b
    · have h8 : cmp (num a : Int) (num b : Int) = -1 := by unfold cmp; rw [if_pos (by omega)]
      rw [h8] at hc
      rw [if_pos hlt]
      refine Ev.bind h1 ?_
      refine Ev.congr (fun k => by rw [if_pos rfl]) ?_
      refine Ev.bind hc ?_
      exact Ev.congr (fun k => by rw [if_pos (by omega)]; rfl) (Ev.now _)
    · have h8 : ¬ cmp (num a : Int) (num b : Int) < 0 := by
        unfold cmp
        rw [if_neg (by omega)]
        split <;> omega
      obtain ⟨r, r1, r2, r3, r4⟩ := sub_ev x y h4.ok h5.ok (len_le h5 h4.ok (by omega)) (by omega) (by omega)
      have hsz := size_mono (m := num a - num b) (n := num a) (by omega)
      rw [size_num hra] at hsz
      rw [if_neg hlt]
      refine Ev.bind h1 ?_
      refine Ev.congr (fun k => by rw [if_pos rfl]) ?_
      refine Ev.bind hc ?_
      refine Ev.congr (fun k => by rw [if_neg h8]) ?_
      refine Ev.bind r1 ?_
      exact Ev.bind (text_ev r (num a - num b) r3 (by rw [r2, h2, h3]; omega) (by omega) (by omega)) (Ev.now _)
theorem nat_of {m n q r : Nat} (h : (m : Int) = q * n + r) (hr : (r : Int) < n) : q = m / n ∧ r = m % n := by
  have h1 : m = q * n + r := by exact_mod_cast h
  have h2 : r < n := by exact_mod_cast hr
  subst h1
  rw [Nat.mul_comm]
  refine ⟨?_, ?_⟩
  · rw [Nat.mul_add_div (by omega), Nat.div_eq_of_lt h2, Nat.add_zero]
  · rw [Nat.mul_add_mod, Nat.mod_eq_of_lt h2]
/-- Division, in numbers. -/
theorem divide_nat (x y : List Int) (m n : Nat) (hx : Norm x) (hy : Norm y) (hm : val x = (m : Int)) (hn : val y = (n : Int)) (hn0 : n ≠ 0) (hlx : x.length ≤ 1099511627776) (hly : y.length ≤ 1099511627776) :
    ∃ q r, Ev (fun k => nat_divide.f k x y) (q, r) ∧ val q = ((m / n : Nat) : Int) ∧ val r = ((m % n : Nat) : Int) ∧ Norm q ∧ Norm r ∧ q.length ≤ x.length + 1 ∧ r.length ≤ y.length := by
  have hyne : y ≠ [] := by
    intro h
    rw [h] at hn
    simp [val] at hn
    omega
  obtain ⟨q, r, h1, h2, h3, h4, h5, h6, h7, h8⟩ := divide_ev x y hx hy hyne hlx hly
  obtain ⟨q', hq'⟩ := Int.eq_ofNat_of_zero_le (val_nonneg h5.ok)
  obtain ⟨r', hr'⟩ := Int.eq_ofNat_of_zero_le h3
  rw [hm, hn, hq', hr'] at h2
  rw [hr', hn] at h4
  obtain ⟨e1, e2⟩ := nat_of h2 h4
  exact ⟨q, r, h1, by rw [hq', e1], by rw [hr', e2], h5, h6, h7, len_le h6 hy.ok (by rw [hr', hn]; omega)⟩
theorem div_spec (a b : ByteArray) (ha : Fit a) (hb : Fit b) : Ev (fun k => nat_Div.f k a b) (sDiv a b) := by
  unfold Fit at ha hb
  unfold sDiv
  cases h : (right a && right b) with
  | false =>
    refine Ev.bind (both_no a b h) ?_
    exact Ev.congr (fun k => by rw [if_neg (by simp)]; rfl) (Ev.now _)
  | true =>
    obtain ⟨hra, hrb⟩ := cond_of h
    obtain ⟨x, y, h1, h2, h3, h4, h5, h6, h7⟩ := both_yes a b (by omega) (by omega) hra hrb
    refine Ev.bind h1 ?_
    refine Ev.congr (fun k => by rw [if_pos rfl]) ?_
    by_cases h0 : num b = 0
    · have hy : y = [] := h5.zero.1 (by rw [h3, h0]; rfl)
      subst hy
      exact Ev.congr (fun k => by rw [if_pos (by simp), if_pos rfl, if_pos h0]) (Ev.now _)
    · have hy : y ≠ [] := by
        intro e
        have := h5.zero.2 e
        rw [h3] at this
        omega
      have hyl := List.length_pos_iff.2 hy
      obtain ⟨q, r, d1, d2, d3, d4, d5, d6, d7⟩ := divide_nat x y (num a) (num b) h4 h5 h2 h3 h0 (by omega) (by omega)
      have hs1 := size_mono (m := num a / num b) (n := num a) (Nat.div_le_self _ _)
      have hs2 := size_mono (m := num a % num b) (n := num a) (Nat.mod_le _ _)
      rw [size_num hra] at hs1 hs2
      rw [if_pos rfl, if_neg h0]
      refine Ev.congr (fun k => by rw [if_neg (show ¬ (y.length : Int) = 0 by omega)]) ?_
      refine Ev.bind d1 ?_
      refine Ev.bind (text_ev q (num a / num b) d4 d2 (by omega) (by omega)) ?_
      exact Ev.bind (text_ev r (num a % num b) d5 d3 (by omega) (by omega)) (Ev.now _)
theorem gcd_l0 (n : Nat) : ∀ (m : Nat) (x y : List Int), Norm x → Norm y → val x = (m : Int) → val y = (n : Int) → x.length ≤ 549755813888 → y.length ≤ 549755813888 → (txt m).size ≤ 549755813888 → (txt n).size ≤ 549755813888 →
    Ev (fun k => nat_Gcd.l0 k x y) (txt (Nat.gcd m n), 0) := by
  induction n using Nat.strongRecOn with
  | _ n ih =>
    intro m x y hx hy hm hn hlx hly hsm hsn
    by_cases h0 : n = 0
    · have hyn : y = [] := hy.zero.1 (by rw [hn, h0]; rfl)
      subst hyn
      subst h0
      rw [Nat.gcd_zero_right]
      refine Ev.step (fun k => by rw [nat_Gcd.l0, if_neg (by simp)]) ?_
      exact Ev.bind (text_ev x m hx hm (by omega) (by omega)) (Ev.now _)
    · have hyn : y ≠ [] := by
        intro e
        have := hy.zero.2 e
        omega
      have hyl := List.length_pos_iff.2 hyn
      obtain ⟨q, r, d1, d2, d3, d4, d5, d6, d7⟩ := divide_nat x y m n hx hy hm hn h0 (by omega) (by omega)
      have hlt := Nat.mod_lt m (show n > 0 by omega)
      have hi := ih (m % n) hlt n y r hy d5 hn d3 hly (by omega) hsn (Nat.le_trans (size_mono (Nat.le_of_lt hlt)) hsn)
      have he : Nat.gcd m n = Nat.gcd n (m % n) := by rw [Nat.gcd_comm m n, Nat.gcd_rec n m, Nat.gcd_comm]
      rw [he]
      refine Ev.step (fun k => by rw [nat_Gcd.l0, if_pos (by omega)]) ?_
      exact Ev.bind d1 hi
theorem gcd_spec (a b : ByteArray) (ha : Fit a) (hb : Fit b) : Ev (fun k => nat_Gcd.f k a b) (sGcd a b) := by
  unfold Fit at ha hb
  unfold sGcd
  cases h : (right a && right b) with
  | false =>
    refine Ev.bind (both_no a b h) ?_
    exact Ev.congr (fun k => by rw [if_neg (by simp)]; rfl) (Ev.now _)
  | true =>
    obtain ⟨hra, hrb⟩ := cond_of h
    obtain ⟨x, y, h1, h2, h3, h4, h5, h6, h7⟩ := both_yes a b (by omega) (by omega) hra hrb
    refine Ev.bind h1 ?_
    refine Ev.congr (fun k => by rw [if_pos rfl]) ?_
    exact gcd_l0 (num b) (num a) x y h4 h5 h2 h3 (by omega) (by omega) (by rw [size_num hra]; omega) (by rw [size_num hrb]; omega)
end Go.Proofs.Ytpjpgfaidallhaa.Th
