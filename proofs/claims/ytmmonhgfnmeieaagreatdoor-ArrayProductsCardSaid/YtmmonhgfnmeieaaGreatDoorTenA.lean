/- Tensors: a shape and texts of numbers; what is right; what the printed functions over shapes and short tensors come to. -/
import Derived.Test.YtmmonhgfnmeieaaGreatDoorRatV
import Derived.Test.YtmmonhgfnmeieaaGreatDoorPVx
-- mini
namespace Go.Proofs.YtmmonhgfnmeieaaGreatDoor.Ten
open Go Go.RowKit Go.Proofs.YtmmonhgfnmeieaaGreatDoor.PV Go.ZPWords Go.Proofs.YtmmonhgfnmeieaaGreatDoor.Th Go.Proofs.YtmmonhgfnmeieaaGreatDoor.Th.Wh Go.Proofs.YtmmonhgfnmeieaaGreatDoor.Err
/-- A tensor: its shape, its numbers' texts. -/
structure TV where
  s : List Int
  d : List ByteArray
/-- How many numbers. -/
def sz : List Int → Int
  | [] => 1
  | x :: s => x * sz s
def in64 (x : Int) : Bool := decide (1 ≤ x) && decide (x ≤ 64)
def shOk (s : List Int) : Bool := s.all in64 && decide (s.length ≤ 4) && decide (sz s ≤ 64)
theorem rd_mid (p q : List Int) (x : Int) : rd (p ++ x :: q) (p.length : Int) = x := by
  unfold rd
  simp [List.getD]
theorem rdOf_mid (p s : List ByteArray) (x : ByteArray) : rdOf ByteArray.empty (p ++ x :: s) (p.length : Int) = x := by
  unfold rdOf
  simp [List.getD]
theorem in64_iff {x : Int} : in64 x = true ↔ 1 ≤ x ∧ x ≤ 64 := by unfold in64; simp
def pw : Nat → Int
  | 0 => 1
  | n + 1 => 64 * pw n
theorem pw_pos : ∀ n, 1 ≤ pw n
  | 0 => by decide
  | n + 1 => by have := pw_pos n; unfold pw; omega
theorem pw_step {m x : Int} {n : Nat} (h0 : 0 ≤ m) (hx : 1 ≤ x) (hx' : x ≤ 64) (h : m * pw (n + 1) ≤ 16777216) : 0 ≤ m * x ∧ m * x * pw n ≤ 16777216 ∧ m * x ≤ 16777216 := by
  have hp := pw_pos n;have h1 : m * x ≤ m * 64 := Int.mul_le_mul_of_nonneg_left hx' h0;have h2 : 0 ≤ m * x := Int.mul_nonneg h0 (by omega);have h3 : m * x * pw n ≤ m * 64 * pw n := Int.mul_le_mul_of_nonneg_right h1 (by omega)
  have h4 : m * 64 * pw n = m * pw (n + 1) := by rw [show pw (n + 1) = 64 * pw n from rfl, Int.mul_assoc]
  have h5 : m * x * 1 ≤ m * x * pw n := Int.mul_le_mul_of_nonneg_left hp h2;rw [h4] at h3;exact ⟨h2, Int.le_trans h3 h, by omega⟩
theorem right_l0 (s : List Int) (hs : s.length ≤ 1000000) : ∀ (q p : List Int) (m : Int), p ++ q = s → 0 ≤ m → (s.length ≤ 4 → m * pw q.length ≤ 16777216) → (p = [] ∨ s.length ≤ 4) →
    Ev (fun k => shape_Right.l0 k s m s (s.length : Int) (p.length : Int)) (q.all in64 && decide (q = [] ∨ s.length ≤ 4) && decide (m * sz q ≤ 64))
  | [], p, m, hpq, h0, hb, hp => by
    refine Ev.step (fun k => by rw [shape_Right.l0, if_neg (by rw [← hpq]; simp)]) ?_;simp only [List.all_nil, sz, Int.mul_one]
    simpa using Ev.now (decide (m ≤ 64))
  | x :: q, p, m, hpq, h0, hb, hp => by
    have hl : p.length + q.length + 1 = s.length := by rw [← hpq]; simp; omega
    have h1 : (0 : Int) ≤ (p.length : Int) := by omega
    have h2 : (p.length : Int) < (s.length : Int) := by omega
    have hr : rd s (p.length : Int) = x := by rw [← hpq, rd_mid]
    by_cases c1 : x < 1
    · have e : in64 x = false := by unfold in64; simp; omega
      rw [List.all_cons, e, Bool.false_and, Bool.false_and, Bool.false_and];exact Ev.step (fun k => by rw [shape_Right.l0, if_pos h2, if_pos h1, if_pos h2, hr, if_pos c1]) (Ev.now _)
    by_cases c2 : x > 64
    · have e : in64 x = false := by unfold in64; simp; omega
      rw [List.all_cons, e, Bool.false_and, Bool.false_and, Bool.false_and];exact Ev.step (fun k => by rw [shape_Right.l0, if_pos h2, if_pos h1, if_pos h2, hr, if_neg c1, if_pos c2]) (Ev.now _)
    by_cases c3 : (s.length : Int) > 4
    · rw [decide_eq_false (show ¬ (x :: q = [] ∨ s.length ≤ 4) by simp; omega), Bool.and_false, Bool.false_and]
      exact Ev.step (fun k => by rw [shape_Right.l0, if_pos h2, if_pos h1, if_pos h2, hr, if_neg c1, if_neg c2, if_pos c3]) (Ev.now _)
    have h4 : s.length ≤ 4 := by omega
    have hb4 := hb h4;rw [List.length_cons] at hb4;obtain ⟨hn1, hn2, hn3⟩ := pw_step h0 (by omega : 1 ≤ x) (by omega) hb4;have ih := right_l0 s hs q (p ++ [x]) (m * x) (by rw [← hpq]; simp) hn1 (fun _ => hn2) (Or.inr h4);have e : in64 x = true := in64_iff.2 ⟨by omega, by omega⟩;have e2 : decide (x :: q = [] ∨ s.length ≤ 4) = true := decide_eq_true (Or.inr h4);have e3 : decide (q = [] ∨ s.length ≤ 4) = true := decide_eq_true (Or.inr h4);rw [e3] at ih;rw [List.all_cons, e, Bool.true_and, e2, sz, ← Int.mul_assoc];have hw1 : Aside0 (wrap64 (m * x) = m * x) := ⟨w64 (by omega) (by omega)⟩;have hw2 : Aside0 (wrap64 ((p.length : Int) + 1) = ((p ++ [x]).length : Int)) := ⟨by rw [w64 (by omega) (by omega)]; simp⟩;exact Ev.step (fun k => by rw [shape_Right.l0, if_pos h2, if_pos h1, if_pos h2, hr, if_neg c1, if_neg c2, if_neg c3, hw1.out, hw2.out]) ih
theorem right_ev (s : List Int) (hs : s.length ≤ 1000000) : Ev (fun k => shape_Right.f k s) (shOk s) := by
 have h := right_l0 s hs s [] 1 rfl (by decide) (fun h4 => by
  have : ∀ n, n ≤ 4 → 1 * pw n ≤ 16777216 := by decide
  exact this _ h4) (Or.inl rfl)
 have e : (s.all in64 && decide (s = [] ∨ s.length ≤ 4) && decide (1 * sz s ≤ 64)) = shOk s := by
  unfold shOk;rw [Int.one_mul];congr 2;rw [decide_eq_decide];constructor
  · rintro (rfl | h)
    · simp
    exact h
  exact Or.inr
 rw [e] at h;exact h
theorem size_l0 (s : List Int) (hs : s.length ≤ 1000000) : ∀ (q p : List Int) (m : Int), p ++ q = s → q.all in64 = true → 0 ≤ m → m * pw q.length ≤ 16777216 →
    Ev (fun k => shape_Size.l0 k m s (s.length : Int) (p.length : Int)) (m * sz q)
  | [], p, m, hpq, ha, h0, hb => by
    refine Ev.step (fun k => by rw [shape_Size.l0, if_neg (by rw [← hpq]; simp)]) ?_;simp only [sz, Int.mul_one];exact Ev.now m
  | x :: q, p, m, hpq, ha, h0, hb => by
    have hl : p.length + q.length + 1 = s.length := by rw [← hpq]; simp; omega
    have h1 : (0 : Int) ≤ (p.length : Int) := by omega
    have h2 : (p.length : Int) < (s.length : Int) := by omega
    have hr : rd s (p.length : Int) = x := by rw [← hpq, rd_mid]
    rw [List.all_cons, Bool.and_eq_true, in64_iff] at ha;rw [List.length_cons] at hb;obtain ⟨hn1, hn2, hn3⟩ := pw_step h0 ha.1.1 ha.1.2 hb;have ih := size_l0 s hs q (p ++ [x]) (m * x) (by rw [← hpq]; simp) ha.2 hn1 hn2;rw [sz, ← Int.mul_assoc];have hw1 : Aside0 (wrap64 (m * x) = m * x) := ⟨w64 (by omega) (by omega)⟩;have hw2 : Aside0 (wrap64 ((p.length : Int) + 1) = ((p ++ [x]).length : Int)) := ⟨by rw [w64 (by omega) (by omega)]; simp⟩;exact Ev.step (fun k => by rw [shape_Size.l0, if_pos h2, if_pos h1, if_pos h2, hr, hw1.out, hw2.out]) ih
theorem shOk_parts {s : List Int} (h : shOk s = true) : s.all in64 = true ∧ s.length ≤ 4 ∧ sz s ≤ 64 := by
  unfold shOk at h
  simpa [and_assoc] using h
theorem sz_pos : ∀ {s : List Int}, s.all in64 = true → 1 ≤ sz s
  | [], _ => by decide
  | x :: s, h => by
    rw [List.all_cons, Bool.and_eq_true, in64_iff] at h;have := sz_pos h.2;have h3 : 1 * 1 ≤ x * sz s := Int.mul_le_mul h.1.1 this (by decide) (by omega);rw [sz]; omega
/-- What shape.Size tells. -/
def size (s : List Int) : Int := if shOk s = true then sz s else 0
theorem size_ev (s : List Int) (hs : s.length ≤ 1000000) : Ev (fun k => shape_Size.f k s) (size s) := by
 unfold size;refine Ev.bind (a := shOk s) (right_ev s hs) ?_;by_cases h : shOk s = true
 · rw [if_pos h, h];have hp := shOk_parts h
   have := size_l0 s hs s [] 1 rfl hp.1 (by decide) (by
    have : ∀ n, n ≤ 4 → 1 * pw n ≤ 16777216 := by decide
    exact this _ hp.2.1)
   rw [Int.one_mul] at this;exact Ev.congr (fun k => by rw [if_pos rfl]; rfl) this
 rw [if_neg h, Bool.eq_false_iff.2 h];exact Ev.congr (fun k => by rw [if_neg (by decide)]) (Ev.now _)
theorem equal_l0 (s t : List Int) (hl : s.length = t.length) (hs : s.length ≤ 1000000) : ∀ (q q' p p' : List Int), p ++ q = s → p' ++ q' = t → p.length = p'.length →
    Ev (fun k => slices_Equal_int_int.l0 k s t (s.length : Int) (p.length : Int)) (decide (q = q'))
  | [], [], p, p', hpq, hpq', hp => by
    refine Ev.step (fun k => by rw [slices_Equal_int_int.l0, if_neg (by rw [← hpq]; simp)]) ?_
    simpa using Ev.now true
  | [], y :: q', p, p', hpq, hpq', hp => by rw [← hpq, ← hpq'] at hl; simp at hl; omega
  | x :: q, [], p, p', hpq, hpq', hp => by rw [← hpq, ← hpq'] at hl; simp at hl; omega
  | x :: q, y :: q', p, p', hpq, hpq', hp => by
    have hn : p.length + q.length + 1 = s.length := by rw [← hpq]; simp; omega
    have h1 : (0 : Int) ≤ (p.length : Int) := by omega
    have h2 : (p.length : Int) < (s.length : Int) := by omega
    have h3 : (p.length : Int) < (t.length : Int) := by omega
    have hr : rd s (p.length : Int) = x := by rw [← hpq, rd_mid]
    have hr' : rd t (p.length : Int) = y := by rw [hp, ← hpq', rd_mid]
    by_cases c : x = y
    · subst c
      have ih := equal_l0 s t hl hs q q' (p ++ [x]) (p' ++ [x]) (by rw [← hpq]; simp) (by rw [← hpq']; simp) (by simp [hp]);have hw2 : Aside0 (wrap64 ((p.length : Int) + 1) = ((p ++ [x]).length : Int)) := ⟨by rw [w64 (by omega) (by omega)]; simp⟩
      have e : decide (x :: q = x :: q') = decide (q = q') := by simp
      rw [e];exact Ev.step (fun k => by rw [slices_Equal_int_int.l0, if_pos h2, if_pos h1, if_pos h2, if_pos h3, hr, hr', if_pos rfl, hw2.out]) ih
    · have e : decide (x :: q = y :: q') = false := by simp [c]
      rw [e];exact Ev.step (fun k => by rw [slices_Equal_int_int.l0, if_pos h2, if_pos h1, if_pos h2, if_pos h3, hr, hr', if_neg c]) (Ev.now _)
theorem shape_same_ev (s t : List Int) (hs : s.length ≤ 1000000) : Ev (fun k => shape_Same.f k s t) (decide (s = t)) := by
 refine Ev.bind (a := decide (s = t)) ?_ (Ev.now _);by_cases c : (s.length : Int) = (t.length : Int)
 · exact Ev.congr (fun k => by rw [slices_Equal_int_int.f, if_pos c]; rfl) (equal_l0 s t (by omega) hs s t [] [] rfl rfl rfl)
 rw [decide_eq_false (fun h : s = t => c (by rw [h]))];exact Ev.congr (fun k => by rw [slices_Equal_int_int.f, if_neg c]) (Ev.now _)
theorem same_l0 (s t : List Int) (hl : s.length = t.length) (hs : s.length ≤ 1000000) : ∀ (q q' p p' : List Int), p ++ q = s → p' ++ q' = t → p.length = p'.length →
    Ev (fun k => rf4_Same.l0 k s t (p.length : Int)) (decide (q = q'))
  | [], [], p, p', hpq, hpq', hp => by
    refine Ev.step (fun k => by rw [rf4_Same.l0, if_neg (by rw [← hpq]; simp)]) ?_
    simpa using Ev.now true
  | [], y :: q', p, p', hpq, hpq', hp => by rw [← hpq, ← hpq'] at hl; simp at hl; omega
  | x :: q, [], p, p', hpq, hpq', hp => by rw [← hpq, ← hpq'] at hl; simp at hl; omega
  | x :: q, y :: q', p, p', hpq, hpq', hp => by
    have hn : p.length + q.length + 1 = s.length := by rw [← hpq]; simp; omega
    have h1 : (0 : Int) ≤ (p.length : Int) := by omega
    have h2 : (p.length : Int) < (s.length : Int) := by omega
    have h3 : (p.length : Int) < (t.length : Int) := by omega
    have hr : rd s (p.length : Int) = x := by rw [← hpq, rd_mid]
    have hr' : rd t (p.length : Int) = y := by rw [hp, ← hpq', rd_mid]
    by_cases c : x = y
    · subst c
      have ih := same_l0 s t hl hs q q' (p ++ [x]) (p' ++ [x]) (by rw [← hpq]; simp) (by rw [← hpq']; simp) (by simp [hp]);have hw2 : Aside0 (wrap64 ((p.length : Int) + 1) = ((p ++ [x]).length : Int)) := ⟨by rw [w64 (by omega) (by omega)]; simp⟩
      have e : decide (x :: q = x :: q') = decide (q = q') := by simp
      rw [e];exact Ev.step (fun k => by rw [rf4_Same.l0, if_pos h2, if_pos h1, if_pos h3, hr, hr', if_pos rfl, hw2.out]) ih
    · have e : decide (x :: q = y :: q') = false := by simp [c]
      rw [e];exact Ev.step (fun k => by rw [rf4_Same.l0, if_pos h2, if_pos h1, if_pos h3, hr, hr', if_neg c]) (Ev.now _)
theorem same_ev (s t : List Int) (hs : s.length ≤ 1000000) : Ev (fun k => rf4_Same.f k s t) (decide (s = t)) := by
 by_cases c : (s.length : Int) = (t.length : Int)
 · exact Ev.congr (fun k => by rw [rf4_Same.f, if_pos c]; rfl) (same_l0 s t (by omega) hs s t [] [] rfl rfl rfl)
 rw [decide_eq_false (fun h : s = t => c (by rw [h]))];exact Ev.congr (fun k => by rw [rf4_Same.f, if_neg c]) (Ev.now _)
theorem eqd_l0 (a a' : List Int) (s t : List ByteArray) (hl : s.length = t.length) (hs : s.length ≤ 1000000) : ∀ (q q' p p' : List ByteArray), p ++ q = s → p' ++ q' = t → p.length = p'.length →
    Ev (fun k => rf5_Equal.l0 k (p.length : Int) a s a' t) (decide (q = q'))
  | [], [], p, p', hpq, hpq', hp => by
    refine Ev.step (fun k => by rw [rf5_Equal.l0, if_neg (by rw [← hpq]; simp)]) ?_
    simpa using Ev.now true
  | [], y :: q', p, p', hpq, hpq', hp => by rw [← hpq, ← hpq'] at hl; simp at hl; omega
  | x :: q, [], p, p', hpq, hpq', hp => by rw [← hpq, ← hpq'] at hl; simp at hl; omega
  | x :: q, y :: q', p, p', hpq, hpq', hp => by
    have hn : p.length + q.length + 1 = s.length := by rw [← hpq]; simp; omega
    have h1 : (0 : Int) ≤ (p.length : Int) := by omega
    have h2 : (p.length : Int) < (s.length : Int) := by omega
    have h3 : (p.length : Int) < (t.length : Int) := by omega
    have hr : rdOf ByteArray.empty s (p.length : Int) = x := by rw [← hpq, rdOf_mid]
    have hr' : rdOf ByteArray.empty t (p.length : Int) = y := by rw [hp, ← hpq', rdOf_mid]
    by_cases c : x = y
    · subst c
      have ih := eqd_l0 a a' s t hl hs q q' (p ++ [x]) (p' ++ [x]) (by rw [← hpq]; simp) (by rw [← hpq']; simp) (by simp [hp]);have hw2 : Aside0 (wrap64 ((p.length : Int) + 1) = ((p ++ [x]).length : Int)) := ⟨by rw [w64 (by omega) (by omega)]; simp⟩
      have e : decide (x :: q = x :: q') = decide (q = q') := by simp
      rw [e];exact Ev.step (fun k => by rw [rf5_Equal.l0, if_pos h2, if_pos h1, if_pos h3, hr, hr', if_pos rfl, hw2.out]) ih
    · have e : decide (x :: q = y :: q') = false := by simp [c]
      have c' : ¬ x.toList = y.toList := fun h => c (toList_inj.1 h)
      rw [e];exact Ev.step (fun k => by rw [rf5_Equal.l0, if_pos h2, if_pos h1, if_pos h3, hr, hr', if_neg c']) (Ev.now _)
theorem equal_ev (a b : TV) (ha : a.s.length ≤ 1000000) (hd : a.d.length ≤ 1000000) : Ev (fun k => rf5_Equal.f k a.s a.d b.s b.d) (decide (a.s = b.s ∧ a.d = b.d)) := by
 refine Ev.bind (a := decide (a.s = b.s)) (same_ev _ _ ha) ?_;by_cases c : a.s = b.s
 · rw [decide_eq_true c];by_cases c2 : (a.d.length : Int) = (b.d.length : Int)
   · have e : decide (a.s = b.s ∧ a.d = b.d) = decide (a.d = b.d) := by simp [c]
     rw [e];refine Ev.step (f := fun k => rf5_Equal.l0 k ((([] : List ByteArray).length : Nat) : Int) a.s a.d b.s b.d) (fun k => ?_) (eqd_l0 a.s b.s a.d b.d (by omega) hd a.d b.d [] [] rfl rfl rfl);rw [if_pos rfl, rf5_Equal.j0, c2, if_neg (by simp)];rfl
   rw [decide_eq_false (fun h : a.s = b.s ∧ a.d = b.d => c2 (by rw [h.2]))];refine Ev.step (f := fun _ => some false) (fun k => ?_) (Ev.now _);rw [if_pos rfl, rf5_Equal.j0, if_pos (by simpa using c2)]
 rw [decide_eq_false c, decide_eq_false (fun h : a.s = b.s ∧ a.d = b.d => c h.1)];refine Ev.step (f := fun _ => some false) (fun k => ?_) (Ev.now _);rw [if_neg (by decide), rf5_Equal.j0, if_pos rfl]
/-- Short enough to be gone through. -/
def small (t : TV) : Bool := decide (t.s.length ≤ 10) && decide (t.d.length ≤ 70) && t.d.all (fun x => decide (x.size ≤ 40))
theorem small_l0 (a : List Int) (s : List ByteArray) (hs : s.length ≤ 1000000) : ∀ (q p : List ByteArray), p ++ q = s →
    Ev (fun k => rf5_Small.l0 k (p.length : Int) a s) (q.all (fun x => decide (x.size ≤ 40)))
  | [], p, hpq => by
    refine Ev.step (fun k => by rw [rf5_Small.l0, if_neg (by rw [← hpq]; simp)]) ?_;exact Ev.now true
  | x :: q, p, hpq => by
    have hn : p.length + q.length + 1 = s.length := by rw [← hpq]; simp; omega
    have h1 : (0 : Int) ≤ (p.length : Int) := by omega
    have h2 : (p.length : Int) < (s.length : Int) := by omega
    have hr : rdOf ByteArray.empty s (p.length : Int) = x := by rw [← hpq, rdOf_mid]
    by_cases c : (x.size : Int) > 40
    · rw [List.all_cons, decide_eq_false (by omega), Bool.false_and]
      exact Ev.step (fun k => by rw [rf5_Small.l0, if_pos h2, if_pos h1, hr, if_pos c]) (Ev.now _)
    · have ih := small_l0 a s hs q (p ++ [x]) (by rw [← hpq]; simp)
      have hw2 : Aside0 (wrap64 ((p.length : Int) + 1) = ((p ++ [x]).length : Int)) := ⟨by rw [w64 (by omega) (by omega)]; simp⟩;rw [List.all_cons, decide_eq_true (by omega : x.size ≤ 40), Bool.true_and];exact Ev.step (fun k => by rw [rf5_Small.l0, if_pos h2, if_pos h1, hr, if_neg c, hw2.out]) ih
theorem small_ev (t : TV) : Ev (fun k => rf5_Small.f k t.s t.d) (small t) := by
 unfold small;by_cases c : (t.s.length : Int) > 10
 · rw [decide_eq_false (by omega), Bool.false_and, Bool.false_and];exact Ev.step (fun k => by rw [rf5_Small.f, if_pos c, rf5_Small.j0, if_pos rfl]) (Ev.now _)
 rw [decide_eq_true (by omega : t.s.length ≤ 10), Bool.true_and];by_cases c2 : (t.d.length : Int) > 70
 · rw [decide_eq_false (by omega), Bool.false_and];exact Ev.step (fun k => by rw [rf5_Small.f, if_neg c, rf5_Small.j0, if_pos (decide_eq_true c2)]) (Ev.now _)
 rw [decide_eq_true (by omega : t.d.length ≤ 70), Bool.true_and];refine Ev.step (f := fun k => rf5_Small.l0 k ((([] : List ByteArray).length : Nat) : Int) t.s t.d) (fun k => ?_) (small_l0 t.s t.d (by omega) t.d [] rfl);rw [rf5_Small.f, if_neg c, rf5_Small.j0, if_neg (by simpa using c2)];rfl
/-- A tensor as it lies in memory: two rows; of bounded length, each text of at most n bytes. -/
structure Tz (n : Nat) (w : World) (A0 : Option Addr) (c0 : Nat) (A1 : Option Addr) (c1 : Nat) (t : TV) : Prop where
  h0 : Kd.C (Kd.int .i64) w A0 t.s.length t.s
  g0 : t.s.length ≤ c0
  h1 : Kd.C Kd.string w A1 t.d.length t.d
  g1 : t.d.length ≤ c1
  b0 : t.s.length ≤ 1000
  b1 : t.d.length ≤ 1000
  bs : ∀ x ∈ t.d, x.size ≤ n
theorem shRight_calls (A : Option Addr) (c : Nat) (s : List Int) (w : World) (hr : Kd.C (Kd.int .i64) w A s.length s) (hc : s.length ≤ c) (hs : s.length ≤ 1000) :
    Calls Tryz.prog 30 #[.slice A s.length c] w fun e w' => e = .returned (.bool (shOk s)) ∧ Below w.heap.size w w' := by
  obtain ⟨k, h⟩ := (right_ev s (by omega)).rounds
  exact (shape_Right.calls k _ _ s _ w hr hc h).mono fun e w' hh => ⟨hh.1, hh.2.below⟩
theorem same_calls (A : Option Addr) (c : Nat) (s : List Int) (A' : Option Addr) (c' : Nat) (s' : List Int) (w : World) (hr : Kd.C (Kd.int .i64) w A s.length s) (hc : s.length ≤ c) (hr' : Kd.C (Kd.int .i64) w A' s'.length s') (hc' : s'.length ≤ c') (hs : s.length ≤ 1000) :
    Calls Tryz.prog 28 #[.slice A s.length c, .slice A' s'.length c'] w fun e w' => e = .returned (.bool (decide (s = s'))) ∧ Below w.heap.size w w' := by
  obtain ⟨k, h⟩ := (same_ev s s' (by omega)).rounds
  exact (rf4_Same.calls k _ _ s _ _ s' _ w hr hc hr' hc' h).mono fun e w' hh => ⟨hh.1, hh.2.below⟩
end Go.Proofs.YtmmonhgfnmeieaaGreatDoor.Ten
/- Tensors: is one of the texts none? slices.ContainsFunc at tensor.Right's closure. -/
namespace Go.Proofs.YtmmonhgfnmeieaaGreatDoor.Ten
open Go Go.RowKit Go.Extern.Stop Go.Stop Go.Extern Go.ZPWords Go.ZPMore Go.ZPLast Go.Proofs.YtmmonhgfnmeieaaGreatDoor.PC Go.Proofs.YtmmonhgfnmeieaaGreatDoor.Th Go.Proofs.YtmmonhgfnmeieaaGreatDoor.Th.Wh Go.Proofs.YtmmonhgfnmeieaaGreatDoor.Err
set_option maxHeartbeats 4000000
set_option maxRecDepth 1000000
theorem tr1_calls (s : ByteArray) (hs : s.size ≤ 40000000000) (w : World) (hG : Gs w) :
    Calls Tryz.prog 52 #[.string s] w fun e w' => e = .returned (.bool (!(rRight s))) ∧ Below w.heap.size w w' := by
 have KR := A_ (right_calls s hs w hG);clear hs hG;go_enter Tryz.func52, Tryz.ntmps52;go_wp2_with (go_at_call 53; with_reducible refine KR.out.mono ?_; rintro e w' ⟨rfl, hb⟩; have HB := A_ hb; clear hb);go_ret;exact ⟨rfl, HB.out⟩
/-- A text that tells no rational. -/
noncomputable def nr (s : ByteArray) : Bool := !(rRight s)
theorem any_step (d : List ByteArray) (p : Nat) (h : p < d.length) : (d.drop p).any nr = (nr (rdOf ByteArray.empty d (p : Int)) || (d.drop (p + 1)).any nr) := by
  rw [List.drop_eq_getElem_cons h, List.any_cons]
  simp [rdOf, List.getD, h]
theorem rdOf_mem (d : List ByteArray) (p : Nat) (h : p < d.length) : rdOf ByteArray.empty d (p : Int) ∈ d := by
  simp [rdOf, List.getD, h]
theorem index_calls (A : Option Addr) (c : Nat) (d : List ByteArray) (w : World) (hG : Gs w) (hr : Kd.C Kd.string w A d.length d) (hl : d.length ≤ 1000) (hd : ∀ x ∈ d, x.size ≤ 40000000000) :
    Calls Tryz.prog 77 #[.slice A d.length c, .func (.func 52) #[] #[]] w fun e w' => (∃ i : Int, e = .returned (.int .i64 i) ∧ decide (0 ≤ i) = d.any nr) ∧ Below w.heap.size w w' := by
 have HR := A_ hr;have HG := A_ hG;have HD := A_ hd;clear hr hG hd;have HB := A_ (Below.refl w.heap.size w);go_enter Tryz.func77, Tryz.ntmps77;go_wp2;go_loopg [8] d.length (fun gf v8 wx => ∃ p : Nat, v8 = .int .i64 p ∧ Aside0 (p + gf = d.length) ∧ Aside0 (d.any nr = (d.drop p).any nr) ∧ Aside0 (Below w.heap.size w wx))
 case atStart => exact ⟨0, rfl, ⟨by omega⟩, ⟨by rw [List.drop_zero]⟩, HB⟩
 obtain ⟨p, rfl, HL, HA, HB⟩ := hrel;by_cases hlt : p < d.length
 · obtain ⟨g', rfl⟩ : ∃ g', gk = g' + 1 := ⟨gk - 1, by have := HL.out; omega⟩;obtain ⟨ad, e, hx⟩ := Kd.at_string HR.out (p : Int) (by omega) (by omega)
   cases e
   replace hx := (HB.out.cell (World.block_lt_of_cell? w _ hx)).trans hx;have hs := HD.out _ (rdOf_mem d p hlt);have hst' := HA.out.trans (any_step d p hlt);have KR := A_ (tr1_calls _ hs wr (HG.out.below HB.out));clear hs HA;generalize rdOf ByteArray.empty d (p : Int) = x at *;simp only [Int.toNat_natCast] at hx
   cases hc : rRight x <;> rw [hc] at KR <;> unfold nr at hst' <;> rw [hc] at hst'
   · simp only [Bool.not_false, Bool.true_or] at hst';have HF := A_ hst';clear hst';go_wp2_with (go_at_call 52; with_reducible refine KR.out.mono ?_; rintro e w' ⟨rfl, hb⟩; replace HB := A_ (below_step HB.out hb); clear hb);go_ret;exact ⟨⟨_, rfl, by unfold nr; rw [HF.out]; simp⟩, HB.out⟩
   simp only [Bool.not_true, Bool.false_or] at hst';have HF := A_ hst';clear hst';go_wp2_with (go_at_call 52; with_reducible refine KR.out.mono ?_; rintro e w' ⟨rfl, hb⟩; replace HB := A_ (below_step HB.out hb); clear hb);go_roundg g'
   case measure => omega
   case rel => exact ⟨p + 1, by go_num, ⟨by have := HL.out; omega⟩, ⟨by unfold nr; exact HF.out⟩, HB⟩
 have hst := HA.out;rw [List.drop_eq_nil_of_le (by omega)] at hst;have HF := A_ hst;clear hst HA;go_wp2;go_ret;exact ⟨⟨_, rfl, by rw [HF.out]; rfl⟩, HB.out⟩
theorem contains_calls (A : Option Addr) (c : Nat) (d : List ByteArray) (w : World) (hG : Gs w) (hr : Kd.C Kd.string w A d.length d) (hl : d.length ≤ 1000) (hd : ∀ x ∈ d, x.size ≤ 40000000000) :
    Calls Tryz.prog 51 #[.slice A d.length c, .func (.func 52) #[] #[]] w fun e w' => e = .returned (.bool (d.any nr)) ∧ Below w.heap.size w w' := by
 have KI := A_ (index_calls A c d w hG hr hl hd);clear hr hG hd hl;go_enter Tryz.func51, Tryz.ntmps51;go_wp2_with (go_at_call 77; with_reducible refine KI.out.mono ?_; rintro e w' ⟨⟨i, rfl, hi⟩, hb⟩; have HI := A_ hi; have HB := A_ hb; clear hb hi);go_ret;exact ⟨by rw [← HI.out]; rfl, HB.out⟩
end Go.Proofs.YtmmonhgfnmeieaaGreatDoor.Ten
/- tensor.Right: the walk. -/
namespace Go.Proofs.YtmmonhgfnmeieaaGreatDoor.Ten
open Go Go.RowKit Go.Extern.Stop Go.Stop Go.Extern Go.ZPWords Go.ZPMore Go.ZPLast Go.Proofs.YtmmonhgfnmeieaaGreatDoor.PV Go.Proofs.YtmmonhgfnmeieaaGreatDoor.PC Go.Proofs.YtmmonhgfnmeieaaGreatDoor.Th Go.Proofs.YtmmonhgfnmeieaaGreatDoor.Th.Wh Go.Proofs.YtmmonhgfnmeieaaGreatDoor.Err
set_option maxHeartbeats 4000000
set_option maxRecDepth 1000000
/-- Is it a tensor? -/
noncomputable def tRight (t : TV) : Bool := shOk t.s && ((t.d.length : Int) == size t.s) && !(t.d.any nr)
theorem quiet_of_drawn {P : Program} {f : FuncId} {xs : Array Value} {w : World} {v : Value} (h : Calls P f xs w fun e w' => e = .returned v ∧ Drawn0 w w') : Calls P f xs w fun e w' => e = .returned v ∧ ∃ n, w' = w.drewN n :=
  h.mono fun _ _ hh => ⟨hh.1, hh.2.out⟩
theorem shRight_q (A : Option Addr) (c : Nat) (s : List Int) (w : World) (hr : Kd.C (Kd.int .i64) w A s.length s) (hc : s.length ≤ c) (hs : s.length ≤ 1000) :
    Calls Tryz.prog 30 #[.slice A s.length c] w fun e w' => e = .returned (.bool (shOk s)) ∧ Drawn0 w w' := by
  obtain ⟨k, h⟩ := (right_ev s (by omega)).rounds;exact shape_Right.calls k _ _ s _ w hr hc h
theorem shSize_q (A : Option Addr) (c : Nat) (s : List Int) (w : World) (hr : Kd.C (Kd.int .i64) w A s.length s) (hc : s.length ≤ c) (hs : s.length ≤ 1000) :
    Calls Tryz.prog 31 #[.slice A s.length c] w fun e w' => e = .returned (.int .i64 (size s)) ∧ Drawn0 w w' := by
  obtain ⟨k, h⟩ := (size_ev s (by omega)).rounds;exact shape_Size.calls k _ _ s _ w hr hc h
theorem held_r {W w : World} {g : Nat} {x y : Value} (h2 : w.heap[g]? = some (.cells #[x, y] 25 (0, 0))) (hb : Below W.heap.size W w) :
    w.cell? ⟨g, 0, none⟩ = some x ∧ w.cell? ⟨g, 1, none⟩ = some y ∧ Aside0 (w.heap[g]? = some (.cells #[x, y] 25 (0, 0))) ∧ Aside0 (Below W.heap.size W w) :=
  ⟨(blk_cell h2 0).trans rfl, (blk_cell h2 1).trans rfl, ⟨h2⟩, ⟨hb⟩⟩
theorem tright_calls (A0 : Option Addr) (c0 : Nat) (A1 : Option Addr) (c1 : Nat) (t : TV) (w : World) (hG : Gs w) (hr0 : Kd.C (Kd.int .i64) w A0 t.s.length t.s) (hc0 : t.s.length ≤ c0) (hr1 : Kd.C Kd.string w A1 t.d.length t.d)
    (hs : t.s.length ≤ 1000) (hl : t.d.length ≤ 1000) (hd : ∀ x ∈ t.d, x.size ≤ 40000000000) :
    Calls Tryz.prog 29 #[.agg #[.slice A0 t.s.length c0, .slice A1 t.d.length c1]] w fun e w' => e = .returned (.bool (tRight t)) ∧ Below w.heap.size w w' := by
 have hb0 := Below.refl w.heap.size w;have KR := A_ (fun (W : World) (hb : Below w.heap.size w W) => shRight_q A0 c0 t.s W (Kd.C_below hr0 hb) hc0 hs);have KS := A_ (fun (W : World) (hb : Below w.heap.size w W) => shSize_q A0 c0 t.s W (Kd.C_below hr0 hb) hc0 hs);have KC := A_ (fun (W : World) (hb : Below w.heap.size w W) => contains_calls A1 c1 t.d W (hG.below hb) (Kd.C_below hr1 hb) hl hd);have HB := A_ hb0;have HT : Aside0 (tRight t = (shOk t.s && ((t.d.length : Int) == size t.s) && !(t.d.any nr))) := ⟨rfl⟩;obtain ⟨s, d⟩ := t;dsimp only at *;clear hG hr0 hc0 hr1 hs hl hd hb0;generalize tRight _ = R at *;generalize s.length = n0 at *;generalize d.length = n1 at *;generalize size s = z at *;generalize d.any nr = q at *
 cases h1 : shOk s
 · rw [h1] at HT KR;obtain rfl : R = false := HT.out;clear HT KS KC h1;go_enter Tryz.func29, Tryz.ntmps29;go_wp2_with (first | (refine BX_ 1 #[.slice A0 n0 c0, .slice A1 n1 c1] 25 ?_; intro g1 hg w2 hbox hb; have BK := A_ hbox; replace HB := BT_ hb; clear hb hbox hg; have hz0 : w2.cell? ⟨g1, 0, none⟩ = some (.slice A0 n0 c0) := (blk_cell BK.out 0).trans rfl; have hz1 : w2.cell? ⟨g1, 1, none⟩ = some (.slice A1 n1 c1) := (blk_cell BK.out 1).trans rfl));go_quiet ((go_at_call 30; exact Calls.quiet_of (quiet_of_drawn (KR.out _ (by repeat (first | exact HB.out | apply pw_below_drewN | apply below_drew1))))));go_wp2;go_ret;exact ⟨rfl, T6_⟩
 cases h2 : ((n1 : Int) == z)
 · rw [h1, h2] at HT;obtain rfl : R = false := HT.out;rw [h1] at KR;clear HT KC h1;go_enter Tryz.func29, Tryz.ntmps29;go_wp2_with (first | (refine BX_ 1 #[.slice A0 n0 c0, .slice A1 n1 c1] 25 ?_; intro g1 hg w2 hbox hb; have BK := A_ hbox; replace HB := BT_ hb; clear hb hbox hg; have hz0 : w2.cell? ⟨g1, 0, none⟩ = some (.slice A0 n0 c0) := (blk_cell BK.out 0).trans rfl; have hz1 : w2.cell? ⟨g1, 1, none⟩ = some (.slice A1 n1 c1) := (blk_cell BK.out 1).trans rfl));go_quiet ((first | (go_at_call 30; exact Calls.quiet_of (quiet_of_drawn (KR.out _ (by repeat (first | exact HB.out | apply pw_below_drewN | apply below_drew1))))) | (go_at_call 31; exact Calls.quiet_of (quiet_of_drawn (KS.out _ (by repeat (first | exact HB.out | apply pw_below_drewN | apply below_drew1)))))));go_wp2;go_ret;exact ⟨rfl, T6_⟩
 rw [h1, h2, Bool.true_and, Bool.true_and] at HT;rw [h1] at KR;clear h1;go_enter Tryz.func29, Tryz.ntmps29;go_wp2_with (first | (refine BX_ 1 #[.slice A0 n0 c0, .slice A1 n1 c1] 25 ?_; intro g1 hg w2 hbox hb; have BK := A_ hbox; replace HB := BT_ hb; clear hb hbox hg; have hz0 : w2.cell? ⟨g1, 0, none⟩ = some (.slice A0 n0 c0) := (blk_cell BK.out 0).trans rfl; have hz1 : w2.cell? ⟨g1, 1, none⟩ = some (.slice A1 n1 c1) := (blk_cell BK.out 1).trans rfl))
 go_region_held3 (fun w' => w'.cell? ⟨g1, 0, none⟩ = some (.slice A0 n0 c0) ∧ w'.cell? ⟨g1, 1, none⟩ = some (.slice A1 n1 c1) ∧ Aside0 (w'.heap[g1]? = some (.cells #[.slice A0 n0 c0, .slice A1 n1 c1] 25 (0, 0))) ∧ Aside0 (Below w.heap.size w w')) (first | exact held_r (blk_drew BK.out) (below_drew HB.out) | (obtain ⟨_, _, s2, s5⟩ := ‹_ ∧ _›; exact held_r (blk_below s2.out hb) (below_step s5.out hb)) | trace_state)
  (first
   | (go_at_call 30; with_reducible refine (KR.out _ (by obtain ⟨_, _, s2, s5⟩ := ‹_ ∧ _›; exact s5.out)).mono ?_; rintro e w' ⟨rfl, hb⟩; replace hb := hb.below)
   | (go_at_call 31; with_reducible refine (KS.out _ (by obtain ⟨_, _, s2, s5⟩ := ‹_ ∧ _›; exact s5.out)).mono ?_; rintro e w' ⟨rfl, hb⟩; replace hb := hb.below)
   | (go_at_call 51; with_reducible refine (KC.out _ (by obtain ⟨_, _, s2, s5⟩ := ‹_ ∧ _›; exact s5.out)).mono ?_; rintro e w' ⟨rfl, hb⟩))
 rename_i hh;obtain ⟨_, _, _, HB⟩ := hh;go_wp2;go_ret;exact ⟨by rw [HT.out]; rfl, HB.out⟩
end Go.Proofs.YtmmonhgfnmeieaaGreatDoor.Ten
