/- Limbs: what trim, step, add, sub, mul, small, compare and shift of the program come to, as numbers. -/
import Derived.Test.YtpjpgfaidallhaaThA
import Derived.Test.YtpjpgfaidallhaaPAx
namespace Go.Proofs.Ytpjpgfaidallhaa.Th
open Go Go.RowKit Go.Proofs.YtpjpgfaidallhaaW.PrintWords Go.Proofs.Ytpjpgfaidallhaa.Str Go.Proofs.Ytpjpgfaidallhaa.PA
/-! ### places in a list -/
theorem rd_mid (p s : List Int) (x : Int) : rd (p ++ x :: s) (p.length : Int) = x := by
  unfold rd
  simp [List.getD]
theorem set_mid (p s : List Int) (x y : Int) : (p ++ x :: s).set (p.length : Int).toNat y = p ++ y :: s := by
  simp
theorem snoc_cons (p s : List Int) (x : Int) : p ++ x :: s = (p ++ [x]) ++ s := by simp
theorem len_snoc (p : List Int) (x : Int) : ((p ++ [x]).length : Int) = (p.length : Int) + 1 := by simp
/-! ### the number of limbs -/
def val : List Int → Int
  | [] => 0
  | x :: l => x + 4294967296 * val l
def Ok (l : List Int) : Prop := ∀ x, x ∈ l → 0 ≤ x ∧ x < 4294967296
structure Norm (l : List Int) : Prop where
  ok : Ok l
  top : ∀ (p : List Int) (x : Int), l = p ++ [x] → x ≠ 0
theorem Ok.nil : Ok [] := fun x h => by simp at h
theorem Ok.cons {x : Int} {l : List Int} (h1 : 0 ≤ x) (h2 : x < 4294967296) (h : Ok l) : Ok (x :: l) := by
  intro y hy
  rcases List.mem_cons.1 hy with rfl | hy
  · exact ⟨h1, h2⟩
  · exact h y hy
theorem Ok.head {x : Int} {l : List Int} (h : Ok (x :: l)) : 0 ≤ x ∧ x < 4294967296 := h x (List.mem_cons_self)
theorem Ok.tail {x : Int} {l : List Int} (h : Ok (x :: l)) : Ok l := fun y hy => h y (List.mem_cons_of_mem _ hy)
theorem Ok.append {p s : List Int} (hp : Ok p) (hs : Ok s) : Ok (p ++ s) := by
  intro y hy
  rcases List.mem_append.1 hy with h | h
  · exact hp y h
  · exact hs y h
theorem Ok.left {p s : List Int} (h : Ok (p ++ s)) : Ok p := fun y hy => h y (List.mem_append.2 (.inl hy))
theorem Ok.right {p s : List Int} (h : Ok (p ++ s)) : Ok s := fun y hy => h y (List.mem_append.2 (.inr hy))
theorem Ok.single {x : Int} (h1 : 0 ≤ x) (h2 : x < 4294967296) : Ok [x] := Ok.cons h1 h2 Ok.nil
theorem Ok.zeros (n : Nat) : Ok (List.replicate n 0) := fun y hy => by rw [List.eq_of_mem_replicate hy]; omega
theorem val_append (p s : List Int) : val (p ++ s) = val p + 4294967296 ^ p.length * val s := by
  induction p with
  | nil => simp [val]
  | cons x p ih =>
    simp only [List.cons_append, val, ih, List.length_cons, Int.pow_succ]
    grind
theorem val_nonneg {l : List Int} (h : Ok l) : 0 ≤ val l := by
  induction l with
  | nil => simp [val]
  | cons x l ih => have := ih h.tail; have := h.head; simp only [val]; omega
theorem val_lt {l : List Int} (h : Ok l) : val l < 4294967296 ^ l.length := by
  induction l with
  | nil => simp [val]
  | cons x l ih =>
    have h1 := ih h.tail
    have h2 := h.head
    simp only [val, List.length_cons, Int.pow_succ]
    have : val l + 1 ≤ 4294967296 ^ l.length := h1
    omega
theorem val_zeros (n : Nat) : val (List.replicate n 0) = 0 := by
  induction n with
  | zero => rfl
  | succ n ih => simp only [List.replicate_succ, val, ih]; rfl
theorem pow_pos' (n : Nat) : (0 : Int) < 4294967296 ^ n := Int.pow_pos (by omega)
/-- A normed list of limbs is not less than its top place. -/
theorem Norm.ge {l : List Int} (h : Norm l) (hl : l ≠ []) : (4294967296 : Int) ^ (l.length - 1) ≤ val l := by
  obtain ⟨p, x, rfl⟩ : ∃ p x, l = p ++ [x] := by
    rcases List.eq_nil_or_concat l with h | ⟨p, c, h⟩
    · exact absurd h hl
    · exact ⟨p, c, by rw [h, List.concat_eq_append]⟩
  rw [val_append]
  have h1 := h.top p x rfl
  have h2 := (h.ok.right).head
  have h3 := val_nonneg h.ok.left
  have h4 := pow_pos' p.length
  have h5 : (4294967296 : Int) ^ p.length * 1 ≤ 4294967296 ^ p.length * val [x] := Int.mul_le_mul_of_nonneg_left (by simp [val]; omega) (Int.le_of_lt h4)
  simp
  omega
theorem Norm.nil : Norm [] := ⟨Ok.nil, fun p x h => by simp at h⟩
theorem Norm.pos {l : List Int} (h : Norm l) (hl : l ≠ []) : 0 < val l := by
  have := h.ge hl
  have := pow_pos' (l.length - 1)
  omega
theorem Norm.zero {l : List Int} (h : Norm l) : val l = 0 ↔ l = [] := by
  constructor
  · intro h0
    by_cases hl : l = []
    · exact hl
    · have := h.pos hl
      omega
  · intro h0; rw [h0]; rfl
theorem pow_mono {m n : Nat} (h : m ≤ n) : (4294967296 : Int) ^ m ≤ 4294967296 ^ n := by
  obtain ⟨d, rfl⟩ : ∃ d, n = m + d := ⟨n - m, by omega⟩
  rw [Int.pow_add]
  have h1 := pow_pos' d
  have h2 := pow_pos' m
  have h3 := Int.mul_le_mul_of_nonneg_left (show (1 : Int) ≤ 4294967296 ^ d by omega) (show (0 : Int) ≤ 4294967296 ^ m by omega)
  rw [Int.mul_one] at h3
  exact h3
/-- What is not greater is not longer. -/
theorem len_le {a b : List Int} (hb : Norm b) (ha : Ok a) (h : val b ≤ val a) : b.length ≤ a.length := by
  by_cases hl : b = []
  · subst hl; simp
  · have h1 := hb.ge hl
    have h2 := val_lt ha
    by_cases h3 : b.length ≤ a.length
    · exact h3
    · have := pow_mono (m := a.length) (n := b.length - 1) (by omega)
      omega
theorem eq_of_snoc (l : List Int) : l = [] ∨ ∃ p x, l = p ++ [x] := by
  rcases List.eq_nil_or_concat l with h | ⟨p, c, h⟩
  · exact .inl h
  · exact .inr ⟨p, c, by rw [h, List.concat_eq_append]⟩
/-! ### trim -/
theorem trim_ev (l : List Int) (hok : Ok l) (hlen : l.length ≤ 4611686018427387904) : ∃ r, Ev (fun k => nat_trim.f k l) r ∧ val r = val l ∧ Norm r ∧ r.length ≤ l.length := by
  generalize hn : l.length = n
  induction n generalizing l with
  | zero =>
    have := List.eq_nil_of_length_eq_zero hn
    subst this
    refine ⟨[], ?_, rfl, Norm.nil, Nat.le_refl _⟩
    unfold nat_trim.f
    exact Ev.step (fun k => by rw [nat_trim.l0, if_neg (by simp)]) (Ev.now _)
  | succ n ih =>
    rcases eq_of_snoc l with h | ⟨p, x, rfl⟩
    · subst h; simp at hn
    · have hp : p.length = n := by simp at hn; exact hn
      have hl : ((p ++ [x]).length : Int) = (p.length : Int) + 1 := len_snoc p x
      have hw : wrap64 (((p ++ [x]).length : Int) - 1) = (p.length : Int) := by rw [hl, w64 (by omega) (by omega)]; omega
      by_cases hx : x = 0
      · subst hx
        obtain ⟨r, h1, h2, h3, h4⟩ := ih p hok.left (by simp at hlen; omega) hp
        refine ⟨r, ?_, ?_, h3, by omega⟩
        · unfold nat_trim.f at h1 ⊢
          exact Ev.step (fun k => by rw [nat_trim.l0, if_pos (by omega), hw, if_pos (by omega), if_pos (by omega), rd_mid, if_pos rfl, if_pos (by omega), Int.toNat_natCast, List.take_left']; rfl) h1
        · rw [h2, val_append]; simp [val]
      · refine ⟨p ++ [x], ?_, rfl, ⟨hok, fun q y h => ?_⟩, by omega⟩
        · unfold nat_trim.f
          exact Ev.step (fun k => by rw [nat_trim.l0, if_pos (by omega), hw, if_pos (by omega), if_pos (by omega), rd_mid, if_neg hx]) (Ev.now _)
        · have := List.append_inj' h rfl
          obtain ⟨_, h2⟩ := this
          simp at h2
          rw [← h2]
          exact hx
/-! ### step -/
theorem step_l0 (b : Int) (hb0 : 0 ≤ b) (hb : b < 4294967296) (rest : List Int) : ∀ (pre out : List Int) (m : Int), Ok rest → Ok out → 0 ≤ m → m < 4294967296 → out.length = pre.length → (pre ++ rest).length ≤ 17592186044416 →
    ∃ r, Ev (fun k => nat_step.l0 k b m out (pre ++ rest) ((pre ++ rest).length : Int) (pre.length : Int)) r ∧ val r = val out + 4294967296 ^ out.length * (val rest * b + m) ∧ Norm r ∧ r.length ≤ (pre ++ rest).length + 1 := by
  induction rest with
  | nil =>
    intro pre out m hr ho hm0 hm hl hlen
    obtain ⟨r, h1, h2, h3, h4⟩ := trim_ev (out ++ [m]) (ho.append (Ok.single hm0 hm)) (by simp at hlen ⊢; omega)
    refine ⟨r, ?_, ?_, h3, by simp at h4 ⊢; omega⟩
    · refine Ev.step (fun k => by rw [nat_step.l0, if_neg (by simp), if_pos (by simp at hlen; omega), show m % 4294967296 = m by omega]) ?_
      exact Ev.bind h1 (Ev.now _)
    · rw [h2, val_append]; simp [val]
  | cons x rest ih =>
    intro pre out m hr ho hm0 hm hl hlen
    have hx := hr.head
    have h0 : 0 ≤ x * b := Int.mul_nonneg hx.1 hb0
    have h1 : x * b ≤ 4294967295 * 4294967295 := by
      have := Int.mul_le_mul (a := x) (b := b) (c := 4294967295) (d := 4294967295) (by omega) (by omega) hb0 (by omega)
      omega
    have hlen' : pre.length + rest.length + 1 ≤ 17592186044416 := by simp at hlen; omega
    have hc : IntKind.u64.wrap (m + (IntKind.u64.wrap ((IntKind.u64.wrap x) * b))) = m + x * b := by
      rw [wu64 (x := x) (by omega) (by omega), wu64 (x := x * b) (by omega) (by omega), wu64 (by omega) (by omega)]
    obtain ⟨r, g1, g2, g3, g4⟩ := ih (pre ++ [x]) (out ++ [(m + x * b) % 4294967296]) ((m + x * b) / 4294967296) hr.tail (ho.append (Ok.single (by omega) (by omega))) (by omega) (by omega) (by simp; omega) (by simp; omega)
    refine ⟨r, ?_, ?_, g3, by simp at g4 ⊢; omega⟩
    · refine Ev.step (fun k => by rw [nat_step.l0, if_pos (by simp; omega), if_pos (by omega), if_pos (by simp; omega), if_pos (by omega), rd_mid, hc, w64 (by omega) (by omega)]) ?_
      rw [snoc_cons pre rest x, ← len_snoc pre x]
      exact g1
    · rw [g2, val_append]
      simp only [val, List.length_append, List.length_cons, List.length_nil, Nat.zero_add, Int.pow_add, Int.pow_one]
      have e : (m + x * b) % 4294967296 + 4294967296 * ((m + x * b) / 4294967296) = m + x * b := Int.emod_add_mul_ediv _ _
      generalize (m + x * b) % 4294967296 = u at e ⊢
      generalize (m + x * b) / 4294967296 = v at e ⊢
      grind
theorem step_ev (l : List Int) (b m : Int) (hok : Ok l) (hb0 : 0 ≤ b) (hb : b < 4294967296) (hm0 : 0 ≤ m) (hm : m < 4294967296) (hlen : l.length ≤ 17592186044416) :
    ∃ r, Ev (fun k => nat_step.f k l b m) r ∧ val r = val l * b + m ∧ Norm r ∧ r.length ≤ l.length + 1 := by
  obtain ⟨r, h1, h2, h3, h4⟩ := step_l0 b hb0 hb l [] [] m hok Ok.nil hm0 hm rfl (by simpa using hlen)
  refine ⟨r, ?_, by simpa [val] using h2, h3, by simpa using h4⟩
  refine Ev.congr (fun k => by rw [nat_step.f, w64 (by omega) (by omega), if_pos (by omega), if_pos (by omega)]) ?_
  simpa using h1
end Go.Proofs.Ytpjpgfaidallhaa.Th
