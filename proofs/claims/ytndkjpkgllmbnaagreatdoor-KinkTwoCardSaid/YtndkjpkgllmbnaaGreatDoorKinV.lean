/- kink over rational numbers. -/
import Derived.Test.YtndkjpkgllmbnaaGreatDoorTenV
import Derived.Test.YtndkjpkgllmbnaaGreatDoorKinT
-- mini
namespace Go.Proofs.YtndkjpkgllmbnaaGreatDoor.Ten
open Go Go.RowKit Go.ZPWords Go.Proofs.YtndkjpkgllmbnaaGreatDoor.Th Go.Proofs.YtndkjpkgllmbnaaGreatDoor.Th.Wh Go.Proofs.YtndkjpkgllmbnaaGreatDoor.Err
set_option linter.unusedVariables false
/-- A rational's sign. -/
theorem rs_pos {x : Rat} : sgn x.num > 0 ↔ 0 < x := by
  have h1 := @Rat.num_nonneg x;have h2 := @Rat.num_eq_zero x;have h3 := @Rat.not_le 0 x;unfold sgn
  split
  · constructor
    · intro h; omega
    · intro h; exfalso; have := h1.2 (Rat.le_of_lt h); omega
  · split
    · rename_i h
      rw [h2] at h;subst h;constructor
      · intro h; omega
      · intro h; exact absurd h Rat.lt_irrefl
    · rename_i ha hb
      constructor
      · intro _; exact Rat.lt_of_le_of_ne (h1.1 (by omega)) (fun e => hb (h2.2 e.symm))
      · intro _; omega
theorem rs_zero {x : Rat} : sgn x.num = 0 ↔ x = 0 := by
  rw [← @Rat.num_eq_zero x];unfold sgn; split <;> (try split) <;> omega
theorem rs_le (x : Rat) : -1 ≤ sgn x.num ∧ sgn x.num ≤ 1 := by unfold sgn; split <;> (try split) <;> omega
theorem rs_cases (x : Rat) : (x < 0 ∧ sgn x.num = -1) ∨ (x = 0 ∧ sgn x.num = 0) ∨ (0 < x ∧ sgn x.num = 1) := by
  have h := rs_le x;have h1 := @rs_pos x;have h2 := @rs_zero x
  by_cases a : 0 < x
  · exact Or.inr (Or.inr ⟨a, by have := h1.2 a; omega⟩)
  by_cases b : x = 0
  · exact Or.inr (Or.inl ⟨b, h2.2 b⟩)
  · refine Or.inl ⟨Rat.lt_of_le_of_ne (Rat.not_lt.1 a) b, ?_⟩
    have : ¬ sgn x.num > 0 := fun h => a (h1.1 h)
    have : ¬ sgn x.num = 0 := fun h => b (h2.1 h)
    omega
theorem rSign_rt (x : Rat) : rSign (rt x) = (sgn x.num, 0) := by rw [rSign, rv_rt]
theorem rCompare_rt (x y : Rat) : rCompare (rt x) (rt y) = (sgn (x - y).num, 0) := by rw [rCompare, rv_rt, rv_rt]
/-- Of a number: relu 0, step 1, abs 2, sign 3. -/
def qOne (k : Int) (x : Rat) : Rat := if k = 0 then (if 0 < x then x else 0) else if k = 2 then (if 0 ≤ x then x else -x) else if k = 1 then (if 0 < x then 1 else 0) else (if 0 < x then 1 else if x = 0 then 0 else -1)
theorem rs_nonneg {x : Rat} : 0 ≤ sgn x.num ↔ 0 ≤ x := by
  rcases rs_cases x with ⟨a, e⟩ | ⟨a, e⟩ | ⟨a, e⟩ <;> rw [e] <;> grind
theorem kOne_rt (k : Int) (x : Rat) : kOne k (rt x) = rt (qOne k x) := by
  unfold kOne qOne;rw [rSign_rt, rNeg_rt];dsimp only;have hp := @rs_pos x;have hn := @rs_nonneg x;have hz := @rs_zero x
  by_cases k0 : k = 0
  · rw [if_pos k0, if_pos k0]
    by_cases h : 0 < x
    · rw [if_pos (hp.2 h), if_pos h]
    · rw [if_neg (fun e => h (hp.1 e)), if_neg h, rt_0]
  rw [if_neg k0, if_neg k0]
  by_cases k2 : k = 2
  · rw [if_pos k2, if_pos k2]
    by_cases h : 0 ≤ x
    · rw [if_pos (hn.2 h), if_pos h]
    · rw [if_neg (fun e => h (hn.1 e)), if_neg h]
  rw [if_neg k2, if_neg k2]
  by_cases k1 : k = 1
  · rw [if_pos k1, if_pos k1]
    by_cases h : 0 < x
    · rw [if_pos (hp.2 h), if_pos h, rt_1]
    · rw [if_neg (fun e => h (hp.1 e)), if_neg h, rt_0]
  rw [if_neg k1, if_neg k1]
  by_cases h : 0 < x
  · rw [if_pos (hp.2 h), if_pos h, rt_1]
  · rw [if_neg (fun e => h (hp.1 e)), if_neg h]
    by_cases h0 : x = 0
    · rw [if_pos (hz.2 h0), if_pos h0, rt_0]
    · rw [if_neg (fun e => h0 (hz.1 e)), if_neg h0, rt_m1]
theorem qm_one (k : Int) {x : Rat} {N : Nat} (h : qm x ≤ N) : qm (qOne k x) ≤ N + 2 := by
  have h0 : qm 0 ≤ 2 := by decide +kernel
  have h1 : qm 1 ≤ 2 := by decide +kernel
  have hm : qm (-1) ≤ 2 := by decide +kernel
  have hn := qm_neg x;unfold qOne
  repeat' split
  all_goals omega
theorem teach {s : List Int} {l : List Rat} {N : Nat} (h : Ok s l N) (k : Int) : tEach k ⟨s, tx l⟩ = (⟨s, tx (l.map (qOne k))⟩, 0) := by
  unfold tEach;rw [if_pos h.right]
  have : (tx l).map (kOne k) = tx (l.map (qOne k)) := by
    unfold tx;rw [List.map_map, List.map_map]
    congr 1
    funext x
    exact kOne_rt k x
  rw [this]
theorem teach_no {t : TV} (k : Int) (h : tRight t = false) : tEach k t = (nilT, 1) := by
  unfold tEach;rw [if_neg (by simp [h])]
def qMax (x y : Rat) : Rat := if y ≤ x then x else y
def qAbove (x y : Rat) : Rat := if y ≤ x then 1 else 0
theorem sub_nonneg' {x y : Rat} : 0 ≤ sgn (x - y).num ↔ y ≤ x := by rw [rs_nonneg]; grind
theorem kF_max (x y : Rat) : kF pMax (rt x) (rt y) = rt (qMax x y) := by
  unfold kF pMax qMax;rw [rCompare_rt];dsimp only;have h := @sub_nonneg' x y
  by_cases c : y ≤ x
  · rw [if_pos c, if_pos (decide_eq_true (h.2 c))]
  · rw [if_neg c, if_neg (by simpa using fun e => c (h.1 e))]
theorem kF_above (x y : Rat) : kF pAbove (rt x) (rt y) = rt (qAbove x y) := by
  unfold kF pAbove qAbove;rw [rCompare_rt];dsimp only;have h := @sub_nonneg' x y
  by_cases c : y ≤ x
  · rw [if_pos c, if_pos (decide_eq_true (h.2 c)), rt_1]
  · rw [if_neg c, if_neg (by simpa using fun e => c (h.1 e)), rt_0]
theorem tboth {p : ByteArray → ByteArray → Bool → ByteArray} {f : Rat → Rat → Rat} (hf : ∀ x y, kF p (rt x) (rt y) = rt (f x y)) {s : List Int} {l m : List Rat} {N M : Nat} (h : Ok s l N) (h' : Ok s m M) : tBoth p ⟨s, tx l⟩ ⟨s, tx m⟩ = (⟨s, tx (List.zipWith f l m)⟩, 0) := by
  unfold tBoth;rw [if_pos h.right, if_pos h'.right, if_pos rfl]
  have : List.zipWith (kF p) (tx l) (tx m) = tx (List.zipWith f l m) := by
    unfold tx;rw [List.zipWith_map_left, List.zipWith_map_right, List.map_zipWith]
    congr 1
    funext x y
    exact hf x y
  rw [this]
theorem tmax {s : List Int} {l m : List Rat} {N M : Nat} (h : Ok s l N) (h' : Ok s m M) : tBoth pMax ⟨s, tx l⟩ ⟨s, tx m⟩ = (⟨s, tx (List.zipWith qMax l m)⟩, 0) := tboth kF_max h h'
theorem tabove {s : List Int} {l m : List Rat} {N M : Nat} (h : Ok s l N) (h' : Ok s m M) : tBoth pAbove ⟨s, tx l⟩ ⟨s, tx m⟩ = (⟨s, tx (List.zipWith qAbove l m)⟩, 0) := tboth kF_above h h'
theorem Ok.max {s : List Int} {l m : List Rat} {N : Nat} (h : Ok s l N) (h' : Ok s m N) : Ok s (List.zipWith qMax l m) N := h.zip h' _ (fun x y hx hy => by unfold qMax; split <;> assumption)
theorem Ok.above {s : List Int} {l m : List Rat} {N M : Nat} (h : Ok s l N) (h' : Ok s m M) : Ok s (List.zipWith qAbove l m) 2 := h.zip h' _ (fun x y hx hy => by unfold qAbove; split <;> decide +kernel)
theorem mem_tx0 (l : List Rat) : (⟨#[48]⟩ : ByteArray) ∈ tx l ↔ (0 : Rat) ∈ l := by
  unfold tx;rw [List.mem_map, ← rt_0];constructor
  · rintro ⟨x, hx, e⟩; rw [← rt_inj e]; exact hx
  · intro h; exact ⟨0, h, rfl⟩
theorem tflat {s : List Int} {l : List Rat} {N : Nat} (h : Ok s l N) : tFlat ⟨s, tx l⟩ = (decide ((0 : Rat) ∈ l), 0) := by
  unfold tFlat;rw [if_pos h.right];dsimp only;rw [decide_eq_decide.2 (mem_tx0 l)]
end Go.Proofs.YtndkjpkgllmbnaaGreatDoor.Ten
