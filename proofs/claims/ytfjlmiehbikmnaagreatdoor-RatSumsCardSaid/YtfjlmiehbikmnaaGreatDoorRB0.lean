/- For the laws of layer 3: the fixed answer, and small words. -/
import Derived.Test.YtfjlmiehbikmnaaGreatDoorPQx1
set_option linter.unusedSimpArgs false
namespace Go.Proofs.YtfjlmiehbikmnaaGreatDoor.Pure
open Go Go.RowKit Go.Proofs.YtfjlmiehbikmnaaGreatDoor.PQ Go.Proofs.YtfjlmiehbikmnaaGreatDoorW.PrintWords Go.Proofs.YtfjlmiehbikmnaaGreatDoor.Th Go.Proofs.YtfjlmiehbikmnaaGreatDoor.Th.Wh Go.Proofs.YtfjlmiehbikmnaaGreatDoor.Err
theorem tl {x y : Rat} (h : x = y) : (rt x).toList = (rt y).toList := by rw [h]
theorem rt_iff {x y : Rat} : (rt x).toList = (rt y).toList ↔ x = y := by
  constructor
  · intro h
    exact rt_inj (toList_inj.1 h)
  · exact tl
theorem l48 {x : Rat} : (rt x).toList = ([48] : List UInt8) ↔ x = 0 := by
  have e : ([48] : List UInt8) = (rt 0).toList := by rw [rt_0, ByteArray.toList_eq]
  rw [e, rt_iff]
theorem l49 {x : Rat} : (rt x).toList = ([49] : List UInt8) ↔ x = 1 := by
  have e : ([49] : List UInt8) = (rt 1).toList := by rw [rt_1, ByteArray.toList_eq]
  rw [e, rt_iff]
theorem dig1 {n : Nat} {c : UInt8} (h : n < 10) (hc : UInt8.ofNat (48 + n) = c) : txt n = ⟨#[c]⟩ := by rw [txt_small n h, hc]
theorem rt_2 : rt 2 = (⟨#[50]⟩ : ByteArray) := by rw [rt_one rfl]; exact (zt_nat 2).trans (dig1 (by decide) rfl)
theorem ml {s : ByteArray} {l : List UInt8} {z : Rat} (h : rt z = s) (e : s.data.toList = l) : (rt z).toList = l := by rw [h, ByteArray.toList_eq, e]
theorem frac {n : Int} {d : Nat} {a b : ByteArray} (nz : d ≠ 0) (red : n.natAbs.Coprime d) (h1 : d ≠ 1) (ha : zt n = a) (hb : txt d = b) : rt ⟨n, d, nz, red⟩ = a ++ (⟨#[47]⟩ : ByteArray) ++ b := by
  rw [rt_frac h1, ← ha, ← hb]
theorem neg1 {n : Nat} {c : UInt8} (h : n < 10) (h0 : n ≠ 0) (hc : UInt8.ofNat (48 + n) = c) : zt (-(n : Int)) = ⟨#[45, c]⟩ := by
  apply ext_of
  rw [zt_minus (by omega), show (-(n : Int)).natAbs = n by omega, dig1 h hc]
theorem app {a b c : List UInt8} {s t u : ByteArray} (hs : s = ⟨a.toArray⟩) (ht : t = ⟨b.toArray⟩) (hu : u = ⟨c.toArray⟩) (h : c = a ++ 47 :: b) : s ++ (⟨#[47]⟩ : ByteArray) ++ t = u := by
  apply ext_of
  rw [list_frac, hs, ht, hu, h]
def q12 : Rat := ⟨1, 2, by decide, by decide⟩
def q13 : Rat := ⟨1, 3, by decide, by decide⟩
def q56 : Rat := ⟨5, 6, by decide, by decide⟩
def q23 : Rat := ⟨-2, 3, by decide, by decide⟩
def q73 : Rat := ⟨-7, 3, by decide, by decide⟩
theorem e12 : rt q12 = (⟨#[49, 47, 50]⟩ : ByteArray) := (frac _ _ (by decide) ((zt_nat 1).trans (dig1 (by decide) rfl)) (dig1 (by decide) rfl)).trans (app (a := [49]) (b := [50]) rfl rfl rfl rfl)
theorem e13 : rt q13 = (⟨#[49, 47, 51]⟩ : ByteArray) := (frac _ _ (by decide) ((zt_nat 1).trans (dig1 (by decide) rfl)) (dig1 (by decide) rfl)).trans (app (a := [49]) (b := [51]) rfl rfl rfl rfl)
theorem e56 : rt q56 = (⟨#[53, 47, 54]⟩ : ByteArray) := (frac _ _ (by decide) ((zt_nat 5).trans (dig1 (by decide) rfl)) (dig1 (by decide) rfl)).trans (app (a := [53]) (b := [54]) rfl rfl rfl rfl)
theorem e23 : rt q23 = (⟨#[45, 50, 47, 51]⟩ : ByteArray) := (frac _ _ (by decide) (neg1 (n := 2) (by decide) (by decide) rfl) (dig1 (by decide) rfl)).trans (app (a := [45, 50]) (b := [51]) rfl rfl rfl rfl)
theorem e73 : rt q73 = (⟨#[45, 55, 47, 51]⟩ : ByteArray) := (frac _ _ (by decide) (neg1 (n := 7) (by decide) (by decide) rfl) (dig1 (by decide) rfl)).trans (app (a := [45, 55]) (b := [51]) rfl rfl rfl rfl)
theorem two4 : rRight (⟨#[50, 47, 52]⟩ : ByteArray) = false := by
  cases h : rRight (⟨#[50, 47, 52]⟩ : ByteArray) with
  | false => rfl
  | true =>
    exfalso
    obtain ⟨x, hx⟩ := right_some h
    have hl := congrArg (fun s => s.data.toList) hx
    by_cases hd : x.den = 1
    · rw [rt_one hd] at hl
      exact no47_zt x.num (by rw [← hl]; decide)
    · rw [rt_frac hd, list_frac] at hl
      have := mid_inj (p := [50]) (q := [52]) hl (by decide) (no47_zt _)
      have h1 : zt x.num = zt 2 := by
        rw [show zt 2 = (⟨#[50]⟩ : ByteArray) from (zt_nat 2).trans (dig1 (by decide) rfl)]
        exact ext_of this.1.symm
      have h2 : txt x.den = txt 4 := by
        rw [show txt 4 = (⟨#[52]⟩ : ByteArray) from dig1 (by decide) rfl]
        exact ext_of this.2.symm
      have h3 := x.reduced
      rw [zt_inj h1, txt_inj h2] at h3
      exact absurd h3 (by decide)
theorem awake_true : tapewrightlaw03_awake.f = some true := by
  have f12 : Fr q12 := fr_small (by decide +kernel)
  have f13 : Fr q13 := fr_small (by decide +kernel)
  have a1 := rat_Add.rt f12 f13
  rw [show q12 + q13 = q56 by decide +kernel] at a1
  have z4 : zt 4 = (⟨#[52]⟩ : ByteArray) := (zt_nat 4).trans (dig1 (by decide) rfl)
  have z6 : zt (-6) = (⟨#[45, 54]⟩ : ByteArray) := neg1 (n := 6) (by decide) (by decide) rfl
  have a2 := rat_Make.of (⟨#[52]⟩ : ByteArray) (⟨#[45, 54]⟩ : ByteArray) (by decide) (by decide)
  rw [← z4, ← z6, rMake, zv_zt, zv_zt] at a2
  dsimp only at a2
  rw [if_neg (by decide), show Rat.divInt 4 (-6) = q23 by decide +kernel, z4, z6] at a2
  have a3 := rat_Right.of (rt q73) (by rw [e73]; decide)
  rw [rRight_rt, e73] at a3
  have a4 := rat_Right.of (⟨#[50, 47, 52]⟩ : ByteArray) (by decide)
  rw [two4] at a4
  rw [e12, e13] at a1
  rw [tapewrightlaw03_awake.f, a1, Option.bind_some, a2, Option.bind_some]
  dsimp only
  rw [if_pos (ml e56 rfl), if_pos rfl, if_pos (ml e23 rfl), if_pos rfl, a3, Option.bind_some, if_pos rfl, a4, Option.bind_some]
  rfl
/-- A rational's sign. -/
theorem rs_pos {x : Rat} : sgn x.num > 0 ↔ 0 < x := by
  have h1 := @Rat.num_nonneg x
  have h2 := @Rat.num_eq_zero x
  have h3 := @Rat.not_le 0 x
  unfold sgn
  split
  · constructor
    · intro h; omega
    · intro h; exfalso; have := h1.2 (Rat.le_of_lt h); omega
  · split
    · rename_i h
      rw [h2] at h
      subst h
      constructor
      · intro h; omega
      · intro h; exact absurd h Rat.lt_irrefl
    · rename_i ha hb
      constructor
      · intro _; exact Rat.lt_of_le_of_ne (h1.1 (by omega)) (fun e => hb (h2.2 e.symm))
      · intro _; omega
theorem rs_zero {x : Rat} : sgn x.num = 0 ↔ x = 0 := by
  rw [← @Rat.num_eq_zero x]
  unfold sgn; split <;> (try split) <;> omega
theorem rs_le (x : Rat) : -1 ≤ sgn x.num ∧ sgn x.num ≤ 1 := by unfold sgn; split <;> (try split) <;> omega
theorem rs_neg (x : Rat) : sgn (-x).num = -(sgn x.num) := by rw [Rat.neg_num]; unfold sgn; split <;> split <;> (try split) <;> omega
theorem wneg (x : Rat) : wrap64 (-(sgn x.num)) = -(sgn x.num) := by have := rs_le x; exact w64 (by omega) (by omega)
theorem rs_cases (x : Rat) : (x < 0 ∧ sgn x.num = -1) ∨ (x = 0 ∧ sgn x.num = 0) ∨ (0 < x ∧ sgn x.num = 1) := by
  have h := rs_le x
  have h1 := @rs_pos x
  have h2 := @rs_zero x
  by_cases a : 0 < x
  · exact Or.inr (Or.inr ⟨a, by have := h1.2 a; omega⟩)
  by_cases b : x = 0
  · exact Or.inr (Or.inl ⟨b, h2.2 b⟩)
  · refine Or.inl ⟨Rat.lt_of_le_of_ne (Rat.not_lt.1 a) b, ?_⟩
    have : ¬ sgn x.num > 0 := fun h => a (h1.1 h)
    have : ¬ sgn x.num = 0 := fun h => b (h2.1 h)
    omega
theorem rs_congr {x y : Rat} (h1 : 0 < x ↔ 0 < y) (h2 : x < 0 ↔ y < 0) : sgn x.num = sgn y.num := by
  rcases rs_cases x with ⟨a, e⟩ | ⟨a, e⟩ | ⟨a, e⟩ <;> rcases rs_cases y with ⟨b, e'⟩ | ⟨b, e'⟩ | ⟨b, e'⟩ <;> first | (rw [e, e']; done) | (exfalso; subst_vars; grind)
theorem beq_both {a b : Bool} (h : a = true ↔ b = true) : (a == b) = true := by cases a <;> cases b <;> simp at h ⊢
end Go.Proofs.YtfjlmiehbikmnaaGreatDoor.Pure
