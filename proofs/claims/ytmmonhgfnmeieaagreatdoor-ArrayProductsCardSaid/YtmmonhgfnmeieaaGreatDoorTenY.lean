/- Tensors: what the references of layers 4 and 5 tell of a shape, of a tensor. -/
import Derived.Test.YtmmonhgfnmeieaaGreatDoorTenT
import Derived.Test.YtmmonhgfnmeieaaGreatDoorPGx
-- mini
namespace Go.Proofs.YtmmonhgfnmeieaaGreatDoor.Ten
open Go Go.RowKit Go.Proofs.YtmmonhgfnmeieaaGreatDoor.PG Go.ZPWords Go.Proofs.YtmmonhgfnmeieaaGreatDoor.Th Go.Proofs.YtmmonhgfnmeieaaGreatDoor.Th.Wh Go.Proofs.YtmmonhgfnmeieaaGreatDoor.Err
set_option linter.unusedVariables false
theorem r4right_l0 (s : List Int) (hs : s.length ≤ 4) : ∀ (q p : List Int) (m : Int), p ++ q = s → 0 ≤ m → m ≤ 64 →
    Ev (fun k => rf4_Right.l0 k s m (p.length : Int)) (q.all in64 && decide (m * sz q ≤ 64))
  | [], p, m, hpq, h0, hm => by
    refine Ev.step (fun k => by rw [rf4_Right.l0, if_neg (by rw [← hpq]; simp)]) ?_;simp only [List.all_nil, sz, Int.mul_one];rw [decide_eq_true hm];exact Ev.now _
  | x :: q, p, m, hpq, h0, hm => by
    have hl : p.length + q.length + 1 = s.length := by rw [← hpq]; simp; omega
    have h1 : (0 : Int) ≤ (p.length : Int) := by omega
    have h2 : (p.length : Int) < (s.length : Int) := by omega
    have hr : rd s (p.length : Int) = x := by rw [← hpq, rd_mid]
    by_cases c1 : x < 1
    · have e : in64 x = false := by unfold in64; simp; omega
      rw [List.all_cons, e, Bool.false_and, Bool.false_and];exact Ev.step (fun k => by rw [rf4_Right.l0, if_pos h2, if_pos h1, hr, if_pos c1]) (Ev.now _)
    by_cases c2 : x > 64
    · have e : in64 x = false := by unfold in64; simp; omega
      rw [List.all_cons, e, Bool.false_and, Bool.false_and];exact Ev.step (fun k => by rw [rf4_Right.l0, if_pos h2, if_pos h1, hr, if_neg c1, if_pos c2]) (Ev.now _)
    have e : in64 x = true := in64_iff.2 ⟨by omega, by omega⟩;have hb : m * x ≤ 64 * 64 := Int.mul_le_mul hm (by omega) (by omega) (by decide);have hp : 0 ≤ m * x := Int.mul_nonneg h0 (by omega);have hw1 : Aside0 (wrap64 (m * x) = m * x) := ⟨w64 (by omega) (by omega)⟩;rw [List.all_cons, e, Bool.true_and, sz, ← Int.mul_assoc]
    by_cases c3 : m * x > 64
    · have e2 : (q.all in64 && decide (m * x * sz q ≤ 64)) = false := by
        cases ha : q.all in64 with
        | false => rfl
        | true =>
          have h4 := sz_pos ha;have h5 : m * x * 1 ≤ m * x * sz q := Int.mul_le_mul_of_nonneg_left h4 hp;rw [Int.mul_one] at h5;rw [Bool.true_and, decide_eq_false (by omega)]
      rw [e2];exact Ev.step (fun k => by rw [rf4_Right.l0, if_pos h2, if_pos h1, hr, if_neg c1, if_neg c2, hw1.out, if_pos c3]) (Ev.now _)
    have ih := r4right_l0 s hs q (p ++ [x]) (m * x) (by rw [← hpq]; simp) hp (by omega);have hw2 : Aside0 (wrap64 ((p.length : Int) + 1) = ((p ++ [x]).length : Int)) := ⟨by rw [w64 (by omega) (by omega)]; simp⟩;exact Ev.step (fun k => by rw [rf4_Right.l0, if_pos h2, if_pos h1, hr, if_neg c1, if_neg c2, hw1.out, if_neg c3, hw2.out]) ih
theorem r4right_ev (s : List Int) : Ev (fun k => rf4_Right.f k s) (shOk s) := by
 by_cases c : (s.length : Int) > 4
 · have e : shOk s = false := by
    unfold shOk;rw [decide_eq_false (show ¬ s.length ≤ 4 by omega), Bool.and_false, Bool.false_and]
   rw [e];exact Ev.congr (fun k => by rw [rf4_Right.f, if_pos c]) (Ev.now _)
 have h := r4right_l0 s (by omega) s [] 1 rfl (by decide) (by decide)
 have e : (s.all in64 && decide (1 * sz s ≤ 64)) = shOk s := by
  unfold shOk;rw [Int.one_mul, decide_eq_true (show s.length ≤ 4 by omega), Bool.and_true]
 rw [e] at h;exact Ev.congr (fun k => by rw [rf4_Right.f, if_neg c]; rfl) h
theorem r4size_l0 (s : List Int) (hs : s.length ≤ 4) : ∀ (q p : List Int) (m : Int), p ++ q = s → q.all in64 = true → 0 ≤ m → m * pw q.length ≤ 16777216 →
    Ev (fun k => rf4_Size.l0 k s m (p.length : Int)) (m * sz q)
  | [], p, m, hpq, ha, h0, hb => by
    refine Ev.step (fun k => by rw [rf4_Size.l0, if_neg (by rw [← hpq]; simp)]) ?_;simp only [sz, Int.mul_one];exact Ev.now m
  | x :: q, p, m, hpq, ha, h0, hb => by
    have hl : p.length + q.length + 1 = s.length := by rw [← hpq]; simp; omega
    have h1 : (0 : Int) ≤ (p.length : Int) := by omega
    have h2 : (p.length : Int) < (s.length : Int) := by omega
    have hr : rd s (p.length : Int) = x := by rw [← hpq, rd_mid]
    rw [List.all_cons, Bool.and_eq_true, in64_iff] at ha;rw [List.length_cons] at hb;obtain ⟨hn1, hn2, hn3⟩ := pw_step h0 ha.1.1 ha.1.2 hb;have ih := r4size_l0 s hs q (p ++ [x]) (m * x) (by rw [← hpq]; simp) ha.2 hn1 hn2;rw [sz, ← Int.mul_assoc];have hw1 : Aside0 (wrap64 (m * x) = m * x) := ⟨w64 (by omega) (by omega)⟩;have hw2 : Aside0 (wrap64 ((p.length : Int) + 1) = ((p ++ [x]).length : Int)) := ⟨by rw [w64 (by omega) (by omega)]; simp⟩;exact Ev.step (fun k => by rw [rf4_Size.l0, if_pos h2, if_pos h1, hr, hw1.out, hw2.out]) ih
theorem r4size_ev (s : List Int) (h : shOk s = true) : Ev (fun k => rf4_Size.f k s) (sz s) := by
 have hp := shOk_parts h
 have h2 := r4size_l0 s hp.2.1 s [] 1 rfl hp.1 (by decide) (by
  have : ∀ n, n ≤ 4 → 1 * pw n ≤ 16777216 := by decide
  exact this _ hp.2.1)
 rw [Int.one_mul] at h2;exact Ev.congr (fun k => by rw [rf4_Size.f]; rfl) h2
theorem read_ok (x : ByteArray) (h : x.size ≤ 40000000000) : (r3Read x).2.2 = rRight x := by
 rcases rv_cases x with h1 | ⟨q, rfl, h1⟩
 · rw [r3Read_no x h1, rRight, h1]; rfl
 rw [r3Read_rt q h, rRight_rt]
theorem r5_l0 (s : List Int) (d : List ByteArray) (hl : d.length ≤ 1000) (hd : ∀ x ∈ d, x.size ≤ 40000000000) : ∀ (q p : List ByteArray), p ++ q = d → Ev (fun k => rf5_Right.l0 k (p.length : Int) s d) (!(q.any nr))
  | [], p, hpq => Ev.step (f := fun _ => some true) (fun k => by rw [rf5_Right.l0, if_neg (by rw [← hpq]; simp)]) (Ev.now _)
  | x :: q, p, hpq => by
    have hn : p.length + q.length + 1 = d.length := by rw [← hpq]; simp; omega
    have h1 : (0 : Int) ≤ (p.length : Int) := by omega
    have h2 : (p.length : Int) < (d.length : Int) := by omega
    have hr : rdOf ByteArray.empty d (p.length : Int) = x := by rw [← hpq, rdOf_mid]
    have hx : x.size ≤ 40000000000 := hd x (by rw [← hpq]; simp)
    have hf : rf3_Read.f x = some (r3Read x) := by rw [rf3_Read.f, if_pos hx]
    have ho := read_ok x hx
    cases c : rRight x
    · rw [c] at ho
      have e : (!((x :: q).any nr)) = false := by rw [List.any_cons, nr, c]; rfl
      rw [e];exact Ev.step (fun k => by rw [rf5_Right.l0, if_pos h2, if_pos h1, hr, hf, Option.bind_some, ho, if_neg (by decide)]) (Ev.now _)
    · rw [c] at ho
      have ih := r5_l0 s d hl hd q (p ++ [x]) (by rw [← hpq]; simp)
      have e : (!((x :: q).any nr)) = !(q.any nr) := by rw [List.any_cons, nr, c]; rfl
      have hw2 : Aside0 (wrap64 ((p.length : Int) + 1) = ((p ++ [x]).length : Int)) := ⟨by rw [w64 (by omega) (by omega)]; simp⟩;rw [e];exact Ev.step (fun k => by rw [rf5_Right.l0, if_pos h2, if_pos h1, hr, hf, Option.bind_some, ho, if_pos rfl, hw2.out]) ih
theorem r5right_ev (t : TV) (hl : t.d.length ≤ 1000) (hd : ∀ x ∈ t.d, x.size ≤ 40000000000) : Ev (fun k => rf5_Right.f k t.s t.d) (tRight t) := by
 obtain ⟨s, d⟩ := t;dsimp only at *;refine Ev.bind (a := shOk s) (r4right_ev s) ?_
 cases c : shOk s
 · have e : tRight ⟨s, d⟩ = false := by unfold tRight; dsimp only; rw [c]; rfl
   rw [e];exact Ev.step (f := fun _ => some false) (fun k => by rw [if_neg (by decide), rf5_Right.j0, if_pos rfl]) (Ev.now _)
 have e : tRight ⟨s, d⟩ = (((d.length : Int) == sz s) && !(d.any nr)) := by unfold tRight size; dsimp only; rw [c, if_pos rfl, Bool.true_and]
 rw [e];show Ev (fun k => (rf4_Size.f k s).bind fun t108 => rf5_Right.j0 k ((d.length : Int) != t108) s d) _;refine Ev.bind (a := sz s) (r4size_ev s c) ?_
 cases c2 : ((d.length : Int) == sz s)
 · have e2 : ((d.length : Int) != sz s) = true := by rw [bne, c2]; rfl
   rw [e2];exact Ev.step (f := fun _ => some false) (fun k => by rw [rf5_Right.j0, if_pos rfl]) (Ev.now _)
 have e2 : ((d.length : Int) != sz s) = false := by rw [bne, c2]; rfl
 rw [e2, Bool.true_and];exact Ev.step (fun k => by rw [rf5_Right.j0, if_neg (by decide)]; rfl) (r5_l0 s d hl hd d [] rfl)
theorem r4right_calls (A : Option Addr) (c : Nat) (s : List Int) (w : World) (hr : Kd.C (Kd.int .i64) w A s.length s) (hc : s.length ≤ c) :
    Calls Tryz.prog 26 #[.slice A s.length c] w fun e w' => e = .returned (.bool (shOk s)) ∧ Below w.heap.size w w' := by
  obtain ⟨k, h⟩ := (r4right_ev s).rounds
  exact (rf4_Right.calls k _ _ s _ w hr hc h).mono fun e w' hh => ⟨hh.1, hh.2.below⟩
theorem r4size_calls (A : Option Addr) (c : Nat) (s : List Int) (w : World) (hr : Kd.C (Kd.int .i64) w A s.length s) (hc : s.length ≤ c) (hs : shOk s = true) :
    Calls Tryz.prog 27 #[.slice A s.length c] w fun e w' => e = .returned (.int .i64 (sz s)) ∧ Below w.heap.size w w' := by
  obtain ⟨k, h⟩ := (r4size_ev s hs).rounds
  exact (rf4_Size.calls k _ _ s _ w hr hc h).mono fun e w' hh => ⟨hh.1, hh.2.below⟩
theorem r5right_calls (A0 : Option Addr) (c0 : Nat) (A1 : Option Addr) (c1 : Nat) (t : TV) (w : World) (hr0 : Kd.C (Kd.int .i64) w A0 t.s.length t.s) (hc0 : t.s.length ≤ c0) (hr1 : Kd.C Kd.string w A1 t.d.length t.d) (hc1 : t.d.length ≤ c1) (hm : Sm t.s t.d) :
    Calls Tryz.prog 18 #[.agg #[.slice A0 t.s.length c0, .slice A1 t.d.length c1]] w fun e w' => e = .returned (.bool (tRight t)) ∧ Below w.heap.size w w' := by
  obtain ⟨k, h⟩ := (r5right_ev t hm.2.1 hm.big).rounds;exact rf5_Right.calls k _ _ t.s _ _ t.d _ w hr0 hc0 hr1 hc1 h
end Go.Proofs.YtmmonhgfnmeieaaGreatDoor.Ten
