/- A region that draws its order, by what holds between its operations: one obligation for each operation. -/
import Derived.Test.YtlglpffoijdgbaaGreatDoorMine
-- mini
namespace Go.ZPWords
open Go Go.RowKit Go.ZPLast Go.ZPMore
theorem count_set : ∀ (l : List Bool) (i : Nat), l.getD i true = false → (l.set i true).count false + 1 = l.count false
  | [], i, h => by simp at h
  | b :: l, 0, h => by
    obtain rfl : b = false := by simpa using h
    simp
  | b :: l, i + 1, h => by
    have h2 := count_set l i (by simpa using h);rw [List.set_cons_succ, List.count_cons, List.count_cons]
    omega
theorem ready_none (T : List (List Nat × List Nat)) (l : List Bool) (h : l.count false = 0) : readyT T l = [] := by
 unfold readyT;rw [List.filter_eq_nil_iff];intro i _ hr
 have h2 : l.getD i true = true := by
  cases hb : l.getD i true with
  | true => rfl
  | false => have := count_set l i hb; omega
 rw [readyAt, h2] at hr;simp at hr
theorem inv_ {P : Program} {md : Region.Mode} {ops : Array Oper} {Q : Exit → Act → World → Prop} {S : World → Prop} {ds : List Nat} {T : Bool × List (List Nat × List Nat)} (hT : rtab md ops = T) {σ : Type} (L : σ → List Bool) (ac : σ → Act) (I : σ → World → Prop)
    (hS : ∀ s w, I s w → S w) (hend : ∀ s w, I s w → readyT T.2 (L s) = [] → Q .normal (ac s) w)
    (hstep : ∀ s w, I s w → ∀ i, readyAt T.2 (L s) i = true → wpOp P ops Q i (fun a' w' => ∃ s', L s' = (L s).set i true ∧ a' = ac s' ∧ I s' w') (ac s) w) :
    ∀ (fuel : Nat) (s : σ) (w : World), (L s).count false = fuel → I s w → wpAnyLast P md ops Q S ds fuel (L s).toArray (ac s) w
  | 0, s, w, hn, hI => by
    have h := ready_none T.2 (L s) hn;exact ⟨by rw [ready_eq, hT]; exact h, hend s w hI h⟩
  | fuel + 1, s, w, hn, hI => by
    refine ⟨fun h => hend s w hI (by rw [ready_eq, hT] at h; exact h), fun i hi => ?_⟩;rw [ready_eq, hT] at hi;have hr : readyAt T.2 (L s) i = true := (List.mem_filter.1 hi).2
    have hf : (L s).getD i true = false := by
      unfold readyAt at hr;rw [Bool.and_eq_true, Bool.not_eq_true'] at hr;exact hr.1
    refine wpOp_mono (fun a' w' hh => ?_) (hstep s w hI i hr);obtain ⟨s', h1, h2, h3⟩ := hh;refine ⟨fun _ _ => hS _ _ h3, ?_⟩;have h4 := inv_ (ds := ds) hT L ac I hS hend hstep fuel s' w' (by rw [h1]; have := count_set _ _ hf; omega) h3;rw [h2, List.setIfInBounds_toArray, ← h1];exact h4
/-- As inv_, from where a walk stands: the places that the operations fill. -/
theorem inv3_ {P : Program} {md : Region.Mode} {ops : Array Oper} {Q : Exit → Act → World → Prop} {S : World → Prop} {ds : List Nat} {T : Bool × List (List Nat × List Nat)} {fuel : Nat} {l : Array Bool} {a : Act} {w : World} (hT : rtab md ops = T) {σ : Type} (L : σ → List Bool) (ns : σ → List (Tmp × Value)) (I : σ → World → Prop) (s0 : σ)
    (hl : (L s0).toArray = l) (ha : putAll a (ns s0) = a) (hn : (L s0).count false = fuel) (hI : I s0 w)
    (hS : ∀ s w, I s w → S w) (hend : ∀ s w, I s w → readyT T.2 (L s) = [] → Q .normal (putAll a (ns s)) w)
    (hstep : ∀ s w, I s w → ∀ i, readyAt T.2 (L s) i = true → wpOp P ops Q i (fun a' w' => ∃ s', L s' = (L s).set i true ∧ a' = putAll a (ns s') ∧ I s' w') (putAll a (ns s)) w) : wpAnyLast P md ops Q S ds fuel l a w := by
  have h := inv_ hT L (fun s => putAll a (ns s)) I hS hend hstep (ds := ds) fuel s0 w hn hI;rw [ha, hl] at h;exact h
/-- Two calls (c, d), two boxes (a, b; g, h), two stores of what the calls tell (p, q). -/
structure R2 where
  c : Bool
  d : Bool
  a : Bool
  b : Bool
  p : Bool
  q : Bool
  g : Nat
  h : Nat
def R2I (W : World) (t : TypeId) (x0 x1 y0 y1 z0 z1 : Value) (s : R2) (w : World) : Prop :=
  Below W.heap.size W w ∧ (s.p = true → s.c = true ∧ s.a = true) ∧ (s.q = true → s.d = true ∧ s.b = true) ∧
  (s.a = true → W.heap.size ≤ s.g ∧ w.heap[s.g]? = some (.cells (cond s.p #[x0, x1] #[z0, z1]) t (0, 0))) ∧
  (s.b = true → W.heap.size ≤ s.h ∧ w.heap[s.h]? = some (.cells (cond s.q #[y0, y1] #[z0, z1]) t (0, 0))) ∧ (s.a = true → s.b = true → s.g ≠ s.h)
section
variable {W w w' : World} {t : TypeId} {x0 x1 y0 y1 z0 z1 : Value} {c d a b p q : Bool} {g h : Nat}
theorem R2I.start : R2I W t x0 x1 y0 y1 z0 z1 ⟨false, false, false, false, false, false, 0, 0⟩ W :=
  ⟨Below.refl _ _, fun e => (by cases e), fun e => (by cases e), fun e => (by cases e), fun e => (by cases e), fun e => (by cases e)⟩
theorem R2I.call (H : R2I W t x0 x1 y0 y1 z0 z1 ⟨c, d, a, b, p, q, g, h⟩ w) (hb : Below w.heap.size w w') : R2I W t x0 x1 y0 y1 z0 z1 ⟨c, d, a, b, p, q, g, h⟩ w' :=
  ⟨below_step H.1 hb, H.2.1, H.2.2.1, fun e => ⟨(H.2.2.2.1 e).1, blk_below (H.2.2.2.1 e).2 hb⟩, fun e => ⟨(H.2.2.2.2.1 e).1, blk_below (H.2.2.2.2.1 e).2 hb⟩, H.2.2.2.2.2⟩
theorem R2I.callC (H : R2I W t x0 x1 y0 y1 z0 z1 ⟨c, d, a, b, p, q, g, h⟩ w) (hb : Below w.heap.size w w') : R2I W t x0 x1 y0 y1 z0 z1 ⟨true, d, a, b, p, q, g, h⟩ w' := by
  have K := H.call hb;exact ⟨K.1, fun e => ⟨rfl, (K.2.1 e).2⟩, K.2.2⟩
theorem R2I.callD (H : R2I W t x0 x1 y0 y1 z0 z1 ⟨c, d, a, b, p, q, g, h⟩ w) (hb : Below w.heap.size w w') : R2I W t x0 x1 y0 y1 z0 z1 ⟨c, true, a, b, p, q, g, h⟩ w' := by
  have K := H.call hb;exact ⟨K.1, K.2.1, fun e => ⟨rfl, (K.2.2.1 e).2⟩, K.2.2.2⟩
theorem R2I.boxA {g' : Nat} (H : R2I W t x0 x1 y0 y1 z0 z1 ⟨c, d, false, b, p, q, g, h⟩ w) (hg : g' = w.heap.size) (hx : w'.heap[g']? = some (.cells #[z0, z1] t (0, 0))) (hb : Below w.heap.size w w') : R2I W t x0 x1 y0 y1 z0 z1 ⟨c, d, true, b, p, q, g', h⟩ w' := by
 have K := H.call hb
 obtain rfl : p = false := by cases p with
  | false => rfl
  | true => exact absurd (show false = true from (H.2.1 rfl).2) (by decide)
 exact ⟨K.1, fun e => (by cases e), K.2.2.1, fun _ => ⟨by rw [hg]; exact H.1.size, hx⟩, K.2.2.2.2.1, fun _ e => by
  have := blk_lt (H.2.2.2.2.1 e).2;dsimp only at this ⊢;omega⟩
theorem R2I.boxB {g' : Nat} (H : R2I W t x0 x1 y0 y1 z0 z1 ⟨c, d, a, false, p, q, g, h⟩ w) (hg : g' = w.heap.size) (hx : w'.heap[g']? = some (.cells #[z0, z1] t (0, 0))) (hb : Below w.heap.size w w') : R2I W t x0 x1 y0 y1 z0 z1 ⟨c, d, a, true, p, q, g, g'⟩ w' := by
 have K := H.call hb
 obtain rfl : q = false := by cases q with
  | false => rfl
  | true => exact absurd (show false = true from (H.2.2.1 rfl).2) (by decide)
 exact ⟨K.1, K.2.1, fun e => (by cases e), K.2.2.2.1, fun _ => ⟨by rw [hg]; exact H.1.size, hx⟩, fun e _ => by
  have := blk_lt (H.2.2.2.1 e).2;dsimp only at this ⊢;omega⟩
theorem R2I.putA (H : R2I W t x0 x1 y0 y1 z0 z1 ⟨true, d, true, b, false, q, g, h⟩ w) : R2I W t x0 x1 y0 y1 z0 z1 ⟨true, d, true, b, true, q, g, h⟩ ((w.setCell ⟨g, 0, none⟩ x0).setCell ⟨g, 1, none⟩ x1) := by
  obtain ⟨h1, h2, h3, h4, h5, h6⟩ := H;obtain ⟨ha, hb⟩ := h4 rfl;exact ⟨below_set (below_set h1 ha) ha, fun _ => ⟨rfl, rfl⟩, h3, fun _ => ⟨ha, put2 hb⟩, fun e => ⟨(h5 e).1, blk_far (blk_far (h5 e).2 (Ne.symm (h6 rfl e)) _) (Ne.symm (h6 rfl e)) _⟩, h6⟩
theorem R2I.putB (H : R2I W t x0 x1 y0 y1 z0 z1 ⟨c, true, a, true, p, false, g, h⟩ w) : R2I W t x0 x1 y0 y1 z0 z1 ⟨c, true, a, true, p, true, g, h⟩ ((w.setCell ⟨h, 0, none⟩ y0).setCell ⟨h, 1, none⟩ y1) := by
  obtain ⟨h1, h2, h3, h4, h5, h6⟩ := H;obtain ⟨ha, hb⟩ := h5 rfl;exact ⟨below_set (below_set h1 ha) ha, h2, fun _ => ⟨rfl, rfl⟩, fun e => ⟨(h4 e).1, blk_far (blk_far (h4 e).2 (h6 e rfl) _) (h6 e rfl) _⟩, fun _ => ⟨ha, put2 hb⟩, h6⟩
end
theorem readyAt_lt {T : List (List Nat × List Nat)} {l : List Bool} {i : Nat} (h : readyAt T l i = true) : i < l.length := by
  unfold readyAt at h;rw [Bool.and_eq_true, Bool.not_eq_true'] at h;refine Nat.lt_of_not_le (fun hc => ?_);have h1 := h.1;rw [List.getD_eq_getElem?_getD, List.getElem?_eq_none hc] at h1
  cases h1
theorem V1_ {q p : Prop} (ho : Aside0 q) (h : q → p := by intro hx_; (with_reducible repeat (first | apply Kd.V_alloc | apply Kd.V_drewN | apply Kd.V_drew)); exact hx_) : p := h ho.out
theorem wpOp_norm {P : Program} {ops : Array Oper} {Q : Exit → Act → World → Prop} {i : Nat} {K : Act → World → Prop} {a a' : Act} {w : World} (ha : a = a') (h : wpOp P ops Q i K a' w) : wpOp P ops Q i K a w := by rw [ha]; exact h
theorem size_set_ (w : World) (p : Addr) (u : Value) : (w.setCell p u).heap.size = w.heap.size := by simp [World.setCell]
theorem size_alloc_ (w : World) (o : Obj) : (w.alloc o).heap.size = w.heap.size + 1 := by simp
theorem SZ_ {g : Nat} {w W : World} (h : g < w.heap.size) (k : w.heap.size ≤ W.heap.size := by first | exact Nat.le_refl _ | (simp only [size_set_, size_alloc_]; omega) | (simp [size_set_, size_alloc_]; done)) : g < W.heap.size := Nat.lt_of_lt_of_le h k
/-- A row past stores into blocks that its own condition bars (g, h). -/
theorem RF_ {q p : Prop} (ho : Aside0 q) (h : q → p := by intro hx_; repeat (first | exact hx_ | (with_reducible first | apply Kd.R_alloc | apply Kd.R_drewN | apply Kd.R_drew) | (refine Kd.R_far ?_ ?hs _; (case hs => (intro _ hk; first | exact hk.2.1 | exact hk.2.2))))) : p := h ho.out
theorem VF_ {α : Type} {d : Kd α} {e base : Nat} {ok : Nat → Prop} {w W : World} {v : Value} {xs : List α} (ho : Aside0 (Kd.V d e w base ok v xs)) (h : Kd.V d e w base ok v xs → Kd.V d e W base ok v xs := by intro hx_; repeat (first | exact hx_ | (with_reducible first | apply Kd.V_alloc | apply Kd.V_drewN | apply Kd.V_drew) | (refine Kd.V_far ?_ ?hs _; (case hs => (intro _ hk; first | exact hk.2.1 | exact hk.2.2))))) : Kd.V d e W base ok v xs := h ho.out
end Go.ZPWords
