/- Limbs: what trim, step, add, sub, mul, small, compare and shift of the program come to, as numbers. -/
import Derived.Test.YtgeijcfacaiplaaThA
import Derived.Test.YtgeijcfacaiplaaPAx
namespace Go.Proofs.Ytgeijcfacaiplaa.Th
open Go Go.RowKit Go.Proofs.YtgeijcfacaiplaaW.PrintWords Go.Proofs.Ytgeijcfacaiplaa.Str Go.Proofs.Ytgeijcfacaiplaa.PA
/-! ### places in a list -/
theorem rd_mid (p s : List Int) (x : Int) : rd (p ++ x :: s) (p.length : Int) = x := by
  unfold rd
  simp [List.getD]
theorem set_mid (p s : List Int) (x y : Int) : (p ++ x :: s).set (p.length : Int).toNat y = p ++ y :: s := by
  simp
theorem snoc_cons (p s : List Int) (x : Int) : p ++ x :: s = (p ++ [x]) ++ s := by simp
theorem len_snoc (p : List Int) (x : Int) : ((p ++ [x]).length : Int) = (p.length : Int) + 1 := by simp
/-! ### the number of limbs -/
def val : List Int → Int
  | [] => 0
  | x :: l => x + 4294967296 * val l
def Ok (l : List Int) : Prop := ∀ x, x ∈ l → 0 ≤ x ∧ x < 4294967296
structure Norm (l : List Int) : Prop where
  ok : Ok l
  top : ∀ (p : List Int) (x : Int), l = p ++ [x] → x ≠ 0
theorem Ok.nil : Ok [] := fun x h => by simp at h
theorem Ok.cons {x : Int} {l : List Int} (h1 : 0 ≤ x) (h2 : x < 4294967296) (h : Ok l) : Ok (x :: l) := by
  intro y hy
  rcases List.mem_cons.1 hy with rfl | hy
  · exact ⟨h1, h2⟩
  · exact h y hy
theorem Ok.head {x : Int} {l : List Int} (h : Ok (x :: l)) : 0 ≤ x ∧ x < 4294967296 := h x (List.mem_cons_self)
theorem Ok.tail {x : Int} {l : List Int} (h : Ok (x :: l)) : Ok l := fun y hy => h y (List.mem_cons_of_mem _ hy)
theorem Ok.append {p s : List Int} (hp : Ok p) (hs : Ok s) : Ok (p ++ s) := by
  intro y hy
  rcases List.mem_append.1 hy with h | h
  · exact hp y h
  · exact hs y h
theorem Ok.left {p s : List Int} (h : Ok (p ++ s)) : Ok p := fun y hy => h y (List.mem_append.2 (.inl hy))
theorem Ok.right {p s : List Int} (h : Ok (p ++ s)) : Ok s := fun y hy => h y (List.mem_append.2 (.inr hy))
theorem Ok.single {x : Int} (h1 : 0 ≤ x) (h2 : x < 4294967296) : Ok [x] := Ok.cons h1 h2 Ok.nil
theorem Ok.zeros (n : Nat) : Ok (List.replicate n 0) := fun y hy => by rw [List.eq_of_mem_replicate hy]; omega
theorem val_append (p s : List Int) : val (p ++ s) = val p + 4294967296 ^ p.length * val s := by
  induction p with
  | nil => simp [val]
  | cons x p ih =>
    simp only [List.cons_append, val, ih, List.length_cons, Int.pow_succ]
    grind
theorem val_nonneg {l : List Int} (h : Ok l) : 0 ≤ val l := by
  induction l with
  | nil => simp [val]
  | cons x l ih => have := ih h.tail; have := h.head; simp only [val]; omega
theorem val_lt {l : List Int} (h : Ok l) : val l < 4294967296 ^ l.length := by
  induction l with
  | nil => simp [val]
  | cons x l ih =>
    have h1 := ih h.tail
    have h2 := h.head
    simp only [val, List.length_cons, Int.pow_succ]
    have : val l + 1 ≤ 4294967296 ^ l.length := h1
    omega
theorem val_zeros (n : Nat) : val (List.replicate n 0) = 0 := by
  induction n with
  | zero => rfl
  | succ n ih => simp only [List.replicate_succ, val, ih]; rfl
theorem pow_pos' (n : Nat) : (0 : Int) < 4294967296 ^ n := Int.pow_pos (by omega)
/-- A normed list of limbs is not less than its top place. -/
theorem Norm.ge {l : List Int} (h : Norm l) (hl : l ≠ []) : (4294967296 : Int) ^ (l.length - 1) ≤ val l := by
  obtain ⟨p, x, rfl⟩ : ∃ p x, l = p ++ [x] := by
    rcases List.eq_nil_or_concat l with h | ⟨p, c, h⟩
    · exact absurd h hl
    · exact ⟨p, c, by rw [h, List.concat_eq_append]⟩
  rw [val_append]
  have h1 := h.top p x rfl
  have h2 := (h.ok.right).head
  have h3 := val_nonneg h.ok.left
  have h4 := pow_pos' p.length
  have h5 : (4294967296 : Int) ^ p.length * 1 ≤ 4294967296 ^ p.length * val [x] := Int.mul_le_mul_of_nonneg_left (by simp [val]; omega) (Int.le_of_lt h4)
  simp
  omega
theorem Norm.nil : Norm [] := ⟨Ok.nil, fun p x h => by simp at h⟩
theorem Norm.pos {l : List Int} (h : Norm l) (hl : l ≠ []) : 0 < val l := by
  have := h.ge hl
  have := pow_pos' (l.length - 1)
  omega
theorem Norm.zero {l : List Int} (h : Norm l) : val l = 0 ↔ l = [] := by
  constructor
  · intro h0
    by_cases hl : l = []
    · exact hl
    · have := h.pos hl
      omega
  · intro h0; rw [h0]; rfl
theorem pow_mono {m n : Nat} (h : m ≤ n) : (4294967296 : Int) ^ m ≤ 4294967296 ^ n := by
  obtain ⟨d, rfl⟩ : ∃ d, n = m + d := ⟨n - m, by omega⟩
  rw [Int.pow_add]
  have h1 := pow_pos' d
  have h2 := pow_pos' m
  have h3 := Int.mul_le_mul_of_nonneg_left (show (1 : Int) ≤ 4294967296 ^ d by omega) (show (0 : Int) ≤ 4294967296 ^ m by omega)
  rw [Int.mul_one] at h3
  exact h3
/-- What is not greater is not longer. -/
theorem len_le {a b : List Int} (hb : Norm b) (ha : Ok a) (h : val b ≤ val a) : b.length ≤ a.length := by
  by_cases hl : b = []
  · subst hl; simp
  · have h1 := hb.ge hl
    have h2 := val_lt ha
    by_cases h3 : b.length ≤ a.length
    · exact h3
    · have := pow_mono (m := a.length) (n := b.length - 1) (by omega)
      omega
theorem eq_of_snoc (l : List Int) : l = [] ∨ ∃ p x, l = p ++ [x] := by
  rcases List.eq_nil_or_concat l with h | ⟨p, c, h⟩
  · exact .inl h
  · exact .inr ⟨p, c, by rw [h, List.concat_eq_append]⟩
/-! ### trim -/
theorem trim_ev (l : List Int) (hok : Ok l) (hlen : l.length ≤ 4611686018427387904) : ∃ r, Ev (fun k => nat_trim.f k l) r ∧ val r = val l ∧ Norm r ∧ r.length ≤ l.length := by
  generalize hn : l.length = n
  induction n generalizing l with
  | zero =>
    have := List.eq_nil_of_length_eq_zero hn
    subst this
    refine ⟨[], ?_, rfl, Norm.nil, Nat.le_refl _⟩
    unfold nat_trim.f
    exact Ev.step (fun k => by rw [nat_trim.l0, if_neg (by simp)]) (Ev.now _)
  | succ n ih =>
    rcases eq_of_snoc l with h | ⟨p, x, rfl⟩
    · subst h; simp at hn
    · have hp : p.length = n := by simp at hn; exact hn
      have hl : ((p ++ [x]).length : Int) = (p.length : Int) + 1 := len_snoc p x
      have hw : wrap64 (((p ++ [x]).length : Int) - 1) = (p.length : Int) := by rw [hl, w64 (by omega) (by omega)]; omega
      by_cases hx : x = 0
      · subst hx
        obtain ⟨r, h1, h2, h3, h4⟩ := ih p hok.left (by simp at hlen; omega) hp
        refine ⟨r, ?_, ?_, h3, by omega⟩
        · unfold nat_trim.f at h1 ⊢
          exact Ev.step (fun k => by rw [nat_trim.l0, if_pos (by omega), hw, if_pos (by omega), if_pos (by omega), rd_mid, if_pos rfl, if_pos (by omega), Int.toNat_natCast, List.take_left']; rfl) h1
        · rw [h2, val_append]; simp [val]
      · refine ⟨p ++ [x], ?_, rfl, ⟨hok, fun q y h => ?_⟩, by omega⟩
        · unfold nat_trim.f
          exact Ev.step (fun k => by rw [nat_trim.l0, if_pos (by omega), hw, if_pos (by omega), if_pos (by omega), rd_mid, if_neg hx]) (Ev.now _)
        · have := List.append_inj' h rfl
          obtain ⟨_, h2⟩ := this
          simp at h2
          rw [← h2]
          exact hx
/-! ### step -/
theorem step_l0 (b : Int) (hb0 : 0 ≤ b) (hb : b < 4294967296) (rest : List Int) : ∀ (pre out : List Int) (m : Int), Ok rest → Ok out → 0 ≤ m → m < 4294967296 → out.length = pre.length → (pre ++ rest).length ≤ 17592186044416 →
    ∃ r, Ev (fun k => nat_step.l0 k b m out (pre ++ rest) ((pre ++ rest).length : Int) (pre.length : Int)) r ∧ val r = val out + 4294967296 ^ out.length * (val rest * b + m) ∧ Norm r ∧ r.length ≤ (pre ++ rest).length + 1 := by
  induction rest with
  | nil =>
    intro pre out m hr ho hm0 hm hl hlen
    obtain ⟨r, h1, h2, h3, h4⟩ := trim_ev (out ++ [m]) (ho.append (Ok.single hm0 hm)) (by simp at hlen ⊢; omega)
    refine ⟨r, ?_, ?_, h3, by simp at h4 ⊢; omega⟩
    · refine Ev.step (fun k => by rw [nat_step.l0, if_neg (by simp), if_pos (by simp at hlen; omega), show m % 4294967296 = m by omega]) ?_
      exact Ev.bind h1 (Ev.now _)
    · rw [h2, val_append]; simp [val]
  | cons x rest ih =>
    intro pre out m hr ho hm0 hm hl hlen
    have hx := hr.head
    have h0 : 0 ≤ x * b := Int.mul_nonneg hx.1 hb0
    have h1 : x * b ≤ 4294967295 * 4294967295 := by
      have := Int.mul_le_mul (a := x) (b := b) (c := 4294967295) (d := 4294967295) (by omega) (by omega) hb0 (by omega)
      omega
    have hlen' : pre.length + rest.length + 1 ≤ 17592186044416 := by simp at hlen; omega
    have hc : IntKind.u64.wrap (m + (IntKind.u64.wrap ((IntKind.u64.wrap x) * b))) = m + x * b := by
      rw [wu64 (x := x) (by omega) (by omega), wu64 (x := x * b) (by omega) (by omega), wu64 (by omega) (by omega)]
    obtain ⟨r, g1, g2, g3, g4⟩ := ih (pre ++ [x]) (out ++ [(m + x * b) % 4294967296]) ((m + x * b) / 4294967296) hr.tail (ho.append (Ok.single (by omega) (by omega))) (by omega) (by omega) (by simp; omega) (by simp; omega)
    refine ⟨r, ?_, ?_, g3, by simp at g4 ⊢; omega⟩
    · refine Ev.step (fun k => by rw [nat_step.l0, if_pos (by simp; omega), if_pos (by omega), if_pos (by simp; omega), if_pos (by omega), rd_mid, hc, w64 (by omega) (by omega)]) ?_
      rw [snoc_cons pre rest x, ← len_snoc pre x]
      exact g1
    · rw [g2, val_append]
      simp only [val, List.length_append, List.length_cons, List.length_nil, Nat.zero_add, Int.pow_add, Int.pow_one]
      have e : (m + x * b) % 4294967296 + 4294967296 * ((m + x * b) / 4294967296) = m + x * b := Int.emod_add_mul_ediv _ _
      generalize (m + x * b) % 4294967296 = u at e ⊢
      generalize (m + x * b) / 4294967296 = v at e ⊢
      grind
theorem step_ev (l : List Int) (b m : Int) (hok : Ok l) (hb0 : 0 ≤ b) (hb : b < 4294967296) (hm0 : 0 ≤ m) (hm : m < 4294967296) (hlen : l.length ≤ 17592186044416) :
    ∃ r, Ev (fun k => nat_step.f k l b m) r ∧ val r = val l * b + m ∧ Norm r ∧ r.length ≤ l.length + 1 := by
  obtain ⟨r, h1, h2, h3, h4⟩ := step_l0 b hb0 hb l [] [] m hok Ok.nil hm0 hm rfl (by simpa using hlen)
  refine ⟨r, ?_, by simpa [val] using h2, h3, by simpa using h4⟩
  refine Ev.congr (fun k => by rw [nat_step.f, w64 (by omega) (by omega), if_pos (by omega), if_pos (by omega)]) ?_
  simpa using h1
end Go.Proofs.Ytgeijcfacaiplaa.Th
/- Limbs, further: sums, differences, products, which is less, division by a small one. -/
namespace Go.Proofs.Ytgeijcfacaiplaa.Th
open Go Go.RowKit Go.Proofs.YtgeijcfacaiplaaW.PrintWords Go.Proofs.Ytgeijcfacaiplaa.Str Go.Proofs.Ytgeijcfacaiplaa.PA
theorem drop_cons {b t : List Int} {i : Nat} {y : Int} (h : b.drop i = y :: t) : i < b.length ∧ rd b (i : Int) = y ∧ b.drop (i + 1) = t := by
  have h1 : i < b.length := by
    by_cases h2 : i < b.length
    · exact h2
    · rw [List.drop_eq_nil_of_le (by omega)] at h; cases h
  rw [List.drop_eq_getElem_cons h1] at h
  injection h with h2 h3
  refine ⟨h1, ?_, h3⟩
  unfold rd
  simp [List.getD, h1, h2]
theorem drop_nil {b : List Int} {i : Nat} (h : b.drop i = []) : b.length ≤ i ∧ b.drop (i + 1) = [] := by
  have := List.drop_eq_nil_iff.1 h
  exact ⟨this, List.drop_eq_nil_of_le (by omega)⟩
theorem Ok.drop {b : List Int} (h : Ok b) (i : Nat) : Ok (b.drop i) := fun y hy => h y (List.mem_of_mem_drop hy)
/-! ### add -/
theorem add_l100 : ∀ (k : Nat) (x1 x5 : List Int) (x6 : Int) (x20 : List Int) (x21 x22 : Int), nat_add.l100 k x1 x5 x6 x20 x21 x22 = nat_add.l0 k x1 x5 x6 x20 x21 x22
  | 0, _, _, _, _, _, _ => rfl
  | k + 1, x1, x5, x6, x20, x21, x22 => by
    rw [nat_add.l100, nat_add.l0]
    simp only [add_l100 k]
theorem add_l0 (b : List Int) (hb : Ok b) (rest : List Int) : ∀ (pre brest out : List Int) (c : Int), b.drop pre.length = brest → brest.length ≤ rest.length → Ok rest → Ok out → 0 ≤ c → c < 4294967296 → out.length = pre.length → (pre ++ rest).length ≤ 17592186044416 →
    ∃ r, Ev (fun k => nat_add.l0 k b out c (pre ++ rest) ((pre ++ rest).length : Int) (pre.length : Int)) r ∧ val r = val out + 4294967296 ^ out.length * (val rest + val brest + c) ∧ Norm r ∧ r.length ≤ (pre ++ rest).length + 1 := by
  induction rest with
  | nil =>
    intro pre brest out m hd hbl hr ho hm0 hm hl hlen
    have hbe : brest = [] := List.eq_nil_of_length_eq_zero (by simpa using hbl)
    subst hbe
    obtain ⟨r, h1, h2, h3, h4⟩ := trim_ev (out ++ [m]) (ho.append (Ok.single hm0 hm)) (by simp at hlen ⊢; omega)
    refine ⟨r, ?_, ?_, h3, by simp at h4 ⊢; omega⟩
    · refine Ev.step (fun k => by rw [nat_add.l0, if_neg (by simp), if_pos (by simp at hlen; omega), show m % 4294967296 = m by omega]) ?_
      exact Ev.bind h1 (Ev.now _)
    · rw [h2, val_append]; simp [val]
  | cons x rest ih =>
    intro pre brest out c hd hbl hr ho hm0 hm hl hlen
    have hx := hr.head
    have hlen' : pre.length + rest.length + 1 ≤ 17592186044416 := by simp at hlen; omega
    have hpl : (pre ++ [x]).length = pre.length + 1 := by simp
    cases brest with
    | nil =>
      obtain ⟨hd1, hd2⟩ := drop_nil hd
      have hc : IntKind.u64.wrap (c + (IntKind.u64.wrap x)) = c + x := by
        rw [wu64 (x := x) (by omega) (by omega), wu64 (by omega) (by omega)]
      obtain ⟨r, g1, g2, g3, g4⟩ := ih (pre ++ [x]) [] (out ++ [(c + x) % 4294967296]) ((c + x) / 4294967296) (by rw [hpl]; exact hd2) (by simp) hr.tail (ho.append (Ok.single (by omega) (by omega))) (by omega) (by omega) (by simp; omega) (by simp; omega)
      refine ⟨r, ?_, ?_, g3, by simp at g4 ⊢; omega⟩
      · refine Ev.step (fun k => by rw [nat_add.l0, if_pos (by simp; omega), if_pos (by omega), if_pos (by simp; omega), if_neg (by omega), if_pos (by omega), rd_mid, hc, w64 (by omega) (by omega)]) ?_
        rw [snoc_cons pre rest x, ← len_snoc pre x]
        exact g1
      · rw [g2, val_append]
        simp only [val, List.length_append, List.length_cons, List.length_nil, Nat.zero_add, Int.pow_add, Int.pow_one]
        have e : (c + x) % 4294967296 + 4294967296 * ((c + x) / 4294967296) = c + x := Int.emod_add_mul_ediv _ _
        generalize (c + x) % 4294967296 = u at e ⊢
        generalize (c + x) / 4294967296 = v at e ⊢
        grind
    | cons y brest =>
      obtain ⟨hd1, hd2, hd3⟩ := drop_cons hd
      have hy : 0 ≤ y ∧ y < 4294967296 := hb y (List.mem_of_mem_drop (i := pre.length) (by rw [hd]; exact List.mem_cons_self))
      have hc : IntKind.u64.wrap ((IntKind.u64.wrap (c + (IntKind.u64.wrap x))) + (IntKind.u64.wrap y)) = c + x + y := by
        rw [wu64 (x := x) (by omega) (by omega), wu64 (x := y) (by omega) (by omega), wu64 (x := c + x) (by omega) (by omega), wu64 (by omega) (by omega)]
      obtain ⟨r, g1, g2, g3, g4⟩ := ih (pre ++ [x]) brest (out ++ [(c + x + y) % 4294967296]) ((c + x + y) / 4294967296) (by rw [hpl]; exact hd3) (by simp at hbl; omega) hr.tail (ho.append (Ok.single (by omega) (by omega))) (by omega) (by omega) (by simp; omega) (by simp; omega)
      refine ⟨r, ?_, ?_, g3, by simp at g4 ⊢; omega⟩
      · refine Ev.step (fun k => by rw [nat_add.l0, if_pos (by simp; omega), if_pos (by omega), if_pos (by simp; omega), if_pos (by omega), if_pos (by omega), rd_mid, hd2, hc, w64 (by omega) (by omega)]) ?_
        rw [snoc_cons pre rest x, ← len_snoc pre x]
        exact g1
      · rw [g2, val_append]
        simp only [val, List.length_append, List.length_cons, List.length_nil, Nat.zero_add, Int.pow_add, Int.pow_one]
        have e : (c + x + y) % 4294967296 + 4294967296 * ((c + x + y) / 4294967296) = c + x + y := Int.emod_add_mul_ediv _ _
        generalize (c + x + y) % 4294967296 = u at e ⊢
        generalize (c + x + y) / 4294967296 = v at e ⊢
        grind
theorem add_ev (a b : List Int) (ha : Ok a) (hb : Ok b) (hla : a.length ≤ 17592186044416) (hlb : b.length ≤ 17592186044416) :
    ∃ r, Ev (fun k => nat_add.f k a b) r ∧ val r = val a + val b ∧ Norm r ∧ r.length ≤ max a.length b.length + 1 := by
  by_cases h : (a.length : Int) < (b.length : Int)
  · obtain ⟨r, h1, h2, h3, h4⟩ := add_l0 a ha b [] a [] 0 rfl (by omega) hb Ok.nil (by omega) (by omega) rfl (by simpa using hlb)
    refine ⟨r, ?_, by simp [val] at h2; omega, h3, by simp at h4; omega⟩
    refine Ev.congr (fun k => by rw [nat_add.f, if_pos h, w64 (by omega) (by omega), if_pos (by omega), if_pos (by omega)]) ?_
    simpa using h1
  · obtain ⟨r, h1, h2, h3, h4⟩ := add_l0 b hb a [] b [] 0 rfl (by omega) ha Ok.nil (by omega) (by omega) rfl (by simpa using hla)
    refine ⟨r, ?_, by simp [val] at h2; omega, h3, by simp at h4; omega⟩
    refine Ev.congr (fun k => by rw [nat_add.f, if_neg h, w64 (by omega) (by omega), if_pos (by omega), if_pos (by omega), add_l100]) ?_
    simpa using h1
/-! ### sub -/
theorem sub_l0 (b : List Int) (hb : Ok b) (rest : List Int) : ∀ (p brest : List Int) (c : Int), b.drop p.length = brest → brest.length ≤ rest.length → Ok p → Ok rest → 0 ≤ c → c ≤ 1 → val brest + c ≤ val rest → (p ++ rest).length ≤ 17592186044416 →
    ∃ r, Ev (fun k => nat_sub.l0 k b (p ++ rest) c ((p ++ rest).length : Int) (p.length : Int)) r ∧ val r = val p + 4294967296 ^ p.length * (val rest - val brest - c) ∧ Norm r ∧ r.length ≤ (p ++ rest).length := by
  induction rest with
  | nil =>
    intro p brest c hd hbl hp hr hm0 hm hle hlen
    have hbe : brest = [] := List.eq_nil_of_length_eq_zero (by simpa using hbl)
    subst hbe
    simp only [val] at hle
    have hc : c = 0 := by omega
    subst hc
    obtain ⟨r, h1, h2, h3, h4⟩ := trim_ev p hp (by simp at hlen ⊢; omega)
    refine ⟨r, ?_, ?_, h3, by simpa using h4⟩
    · refine Ev.step (fun k => by rw [nat_sub.l0, if_neg (by simp), List.append_nil]) ?_
      exact Ev.bind h1 (Ev.now _)
    · rw [h2]; simp [val]
  | cons x rest ih =>
    intro p brest c hd hbl hp hr hm0 hm hle hlen
    have hx := hr.head
    have hlen' : p.length + rest.length + 1 ≤ 17592186044416 := by simp at hlen; omega
    have hpl : ∀ z : Int, (p ++ [z]).length = p.length + 1 := by simp
    have hil : ((p ++ x :: rest).length : Int) = (p.length : Int) + rest.length + 1 := by simp; omega
    have hset : ∀ z : Int, (p ++ x :: rest).set ((p.length : Int)).toNat z = (p ++ [z]) ++ rest := fun z => by rw [set_mid, snoc_cons]
    have hln : ∀ z : Int, ((p ++ x :: rest).length : Int) = (((p ++ [z]) ++ rest).length : Int) := fun z => by simp
    have hrs := val_nonneg hr.tail
    cases brest with
    | nil =>
      obtain ⟨hd1, hd2⟩ := drop_nil hd
      simp only [val] at hle
      by_cases ht : x < c
      · have he : (IntKind.u64.wrap ((IntKind.u64.wrap ((IntKind.u64.wrap x) + (1 * 4294967296))) - c)) % 4294967296 = x + 4294967296 - c := by
          rw [wu64 (x := x) (by omega) (by omega), wu64 (x := x + 1 * 4294967296) (by omega) (by omega), wu64 (by omega) (by omega)] <;> omega
        obtain ⟨r, g1, g2, g3, g4⟩ := ih (p ++ [x + 4294967296 - c]) [] 1 (by rw [hpl]; exact hd2) (by simp) (hp.append (Ok.single (by omega) (by omega))) hr.tail (by omega) (by omega) (by simp only [val]; omega) (by simp; omega)
        refine ⟨r, ?_, ?_, g3, by simp at g4 ⊢; omega⟩
        · refine Ev.step (fun k => by rw [nat_sub.l0, if_pos (by omega), if_neg (by omega), if_pos (by omega), if_pos (by omega), rd_mid, if_pos (by rw [wu64 (x := x) (by omega) (by omega)]; exact ht), he, w64 (by omega) (by omega), hset, hln (x + 4294967296 - c), ← len_snoc p (x + 4294967296 - c)]) g1
        · rw [g2, val_append]
          simp only [val, List.length_append, List.length_cons, List.length_nil, Nat.zero_add, Int.pow_add, Int.pow_one]
          grind
      · have he : (IntKind.u64.wrap ((IntKind.u64.wrap ((IntKind.u64.wrap x) + (0 * 4294967296))) - c)) % 4294967296 = x - c := by
          rw [wu64 (x := x) (by omega) (by omega), wu64 (x := x + 0 * 4294967296) (by omega) (by omega), wu64 (by omega) (by omega)] <;> omega
        obtain ⟨r, g1, g2, g3, g4⟩ := ih (p ++ [x - c]) [] 0 (by rw [hpl]; exact hd2) (by simp) (hp.append (Ok.single (by omega) (by omega))) hr.tail (by omega) (by omega) (by simp only [val]; omega) (by simp; omega)
        refine ⟨r, ?_, ?_, g3, by simp at g4 ⊢; omega⟩
        · refine Ev.step (fun k => by rw [nat_sub.l0, if_pos (by omega), if_neg (by omega), if_pos (by omega), if_pos (by omega), rd_mid, if_neg (by rw [wu64 (x := x) (by omega) (by omega)]; exact ht), he, w64 (by omega) (by omega), hset, hln (x - c), ← len_snoc p (x - c)]) g1
        · rw [g2, val_append]
          simp only [val, List.length_append, List.length_cons, List.length_nil, Nat.zero_add, Int.pow_add, Int.pow_one]
          grind
    | cons y brest =>
      obtain ⟨hd1, hd2, hd3⟩ := drop_cons hd
      have hy : 0 ≤ y ∧ y < 4294967296 := hb y (List.mem_of_mem_drop (i := p.length) (by rw [hd]; exact List.mem_cons_self))
      have hbr : Ok brest := by rw [← hd3]; exact hb.drop _
      have hbs := val_nonneg hbr
      have hw : IntKind.u64.wrap (c + (IntKind.u64.wrap y)) = c + y := by rw [wu64 (x := y) (by omega) (by omega), wu64 (by omega) (by omega)]
      have hbl' : brest.length ≤ rest.length := by simp at hbl; omega
      simp only [val] at hle
      by_cases ht : x < c + y
      · have he : (IntKind.u64.wrap ((IntKind.u64.wrap ((IntKind.u64.wrap x) + (1 * 4294967296))) - (c + y))) % 4294967296 = x + 4294967296 - (c + y) := by
          rw [wu64 (x := x) (by omega) (by omega), wu64 (x := x + 1 * 4294967296) (by omega) (by omega), wu64 (by omega) (by omega)] <;> omega
        obtain ⟨r, g1, g2, g3, g4⟩ := ih (p ++ [x + 4294967296 - (c + y)]) brest 1 (by rw [hpl]; exact hd3) hbl' (hp.append (Ok.single (by omega) (by omega))) hr.tail (by omega) (by omega) (by omega) (by simp; omega)
        refine ⟨r, ?_, ?_, g3, by simp at g4 ⊢; omega⟩
        · refine Ev.step (fun k => by rw [nat_sub.l0, if_pos (by omega), if_pos (by omega), if_pos (by omega), if_pos (by omega), rd_mid, hd2, hw, if_pos (by rw [wu64 (x := x) (by omega) (by omega)]; exact ht), he, w64 (by omega) (by omega), hset, hln (x + 4294967296 - (c + y)), ← len_snoc p (x + 4294967296 - (c + y))]) g1
        · rw [g2, val_append]
          simp only [val, List.length_append, List.length_cons, List.length_nil, Nat.zero_add, Int.pow_add, Int.pow_one]
          grind
      · have he : (IntKind.u64.wrap ((IntKind.u64.wrap ((IntKind.u64.wrap x) + (0 * 4294967296))) - (c + y))) % 4294967296 = x - (c + y) := by
          rw [wu64 (x := x) (by omega) (by omega), wu64 (x := x + 0 * 4294967296) (by omega) (by omega), wu64 (by omega) (by omega)] <;> omega
        obtain ⟨r, g1, g2, g3, g4⟩ := ih (p ++ [x - (c + y)]) brest 0 (by rw [hpl]; exact hd3) hbl' (hp.append (Ok.single (by omega) (by omega))) hr.tail (by omega) (by omega) (by omega) (by simp; omega)
        refine ⟨r, ?_, ?_, g3, by simp at g4 ⊢; omega⟩
        · refine Ev.step (fun k => by rw [nat_sub.l0, if_pos (by omega), if_pos (by omega), if_pos (by omega), if_pos (by omega), rd_mid, hd2, hw, if_neg (by rw [wu64 (x := x) (by omega) (by omega)]; exact ht), he, w64 (by omega) (by omega), hset, hln (x - (c + y)), ← len_snoc p (x - (c + y))]) g1
        · rw [g2, val_append]
          simp only [val, List.length_append, List.length_cons, List.length_nil, Nat.zero_add, Int.pow_add, Int.pow_one]
          grind
theorem clone_ev (l : List Int) (h : l.length < 35184372088832) : nat_limbs_uint32.f l = some l := by rw [nat_limbs_uint32.f, if_pos h]
theorem sub_ev (a b : List Int) (ha : Ok a) (hb : Ok b) (hl : b.length ≤ a.length) (hle : val b ≤ val a) (hla : a.length ≤ 17592186044416) :
    ∃ r, Ev (fun k => nat_sub.f k a b) r ∧ val r = val a - val b ∧ Norm r ∧ r.length ≤ a.length := by
  obtain ⟨r, h1, h2, h3, h4⟩ := sub_l0 b hb a [] b 0 rfl hl Ok.nil ha (by omega) (by omega) (by omega) (by simpa using hla)
  refine ⟨r, ?_, by simp [val] at h2; omega, h3, by simpa using h4⟩
  refine Ev.congr (fun k => by rw [nat_sub.f, clone_ev a (by omega), Option.bind_some]) ?_
  simpa using h1
end Go.Proofs.Ytgeijcfacaiplaa.Th
/- Limbs, further: products, which is less, division by a small one, a shift. -/
namespace Go.Proofs.Ytgeijcfacaiplaa.Th
open Go Go.RowKit Go.Proofs.YtgeijcfacaiplaaW.PrintWords Go.Proofs.Ytgeijcfacaiplaa.Str Go.Proofs.Ytgeijcfacaiplaa.PA
/-! ### mul -/
theorem mul_l1 (b a : List Int) (hb : Ok b) (x i : Int) (hx0 : 0 ≤ x) (hx : x < 4294967296) (hi0 : 0 ≤ i) (hi : i ≤ 17592186044416) (hbl : b.length ≤ 17592186044416) (zs : List Int) (z : Int) (hzl : zs.length ≤ 17592186044416) (brest : List Int) :
    ∀ (q m : List Int) (kk : Nat) (c : Int), b.drop kk = brest → kk + brest.length = b.length → (q.length : Int) = i + kk → m.length = brest.length → Ok m → 0 ≤ c → c < 4294967296 →
    ∃ m', m'.length = brest.length + 1 ∧ Ok m' ∧ val m' = val m + x * val brest + c ∧
      ∀ r, Ev (fun k => nat_mul.l0 k b (q ++ m' ++ zs) a (a.length : Int) (wrap64 (i + 1))) r → Ev (fun k => nat_mul.l1 k b (q ++ m ++ z :: zs) i x c a (a.length : Int) i b (b.length : Int) (kk : Int)) r := by
  induction brest with
  | nil =>
    intro q m kk c hd hkl hq hm hmo hc0 hc
    have hme : m = [] := List.eq_nil_of_length_eq_zero (by simpa using hm)
    subst hme
    simp at hkl
    refine ⟨[c], rfl, Ok.single hc0 hc, by simp [val], fun r h => ?_⟩
    have hw : wrap64 (i + (b.length : Int)) = (q.length : Int) := by rw [w64 (by omega) (by omega)]; omega
    refine Ev.step (fun k => by rw [nat_mul.l1, if_neg (by omega), hw, if_pos (by omega), if_pos (by simp; omega), List.append_nil, set_mid, show c % 4294967296 = c by omega]) ?_
    simpa using h
  | cons y brest ih =>
    intro q m kk c hd hkl hq hm hmo hc0 hc
    cases m with
    | nil => simp at hm
    | cons u m =>
      obtain ⟨hd1, hd2, hd3⟩ := drop_cons hd
      have hy : 0 ≤ y ∧ y < 4294967296 := hb y (List.mem_of_mem_drop (i := kk) (by rw [hd]; exact List.mem_cons_self))
      have hu := hmo.head
      have h0 : 0 ≤ x * y := Int.mul_nonneg hx0 hy.1
      have h1 : x * y ≤ 4294967295 * 4294967295 := by
        have := Int.mul_le_mul (a := x) (b := y) (c := 4294967295) (d := 4294967295) (by omega) (by omega) hy.1 (by omega)
        omega
      have hcur : IntKind.u64.wrap (c + (IntKind.u64.wrap ((IntKind.u64.wrap u) + (IntKind.u64.wrap ((IntKind.u64.wrap x) * (IntKind.u64.wrap y)))))) = c + u + x * y := by
        rw [wu64 (x := u) (by omega) (by omega), wu64 (x := x) (by omega) (by omega), wu64 (x := y) (by omega) (by omega), wu64 (x := x * y) (by omega) (by omega), wu64 (x := u + x * y) (by omega) (by omega), wu64 (by omega) (by omega)]
        omega
      simp only [List.length_cons] at hkl hm
      obtain ⟨m', g1, g2, g3, g4⟩ := ih (q ++ [(c + u + x * y) % 4294967296]) m (kk + 1) ((c + u + x * y) / 4294967296) hd3 (by omega) (by simp; omega) (by omega) hmo.tail (by omega) (by omega)
      refine ⟨(c + u + x * y) % 4294967296 :: m', by simp [g1], Ok.cons (by omega) (by omega) g2, ?_, fun r h => ?_⟩
      · simp only [val]
        rw [g3]
        have e : (c + u + x * y) % 4294967296 + 4294967296 * ((c + u + x * y) / 4294967296) = c + u + x * y := Int.emod_add_mul_ediv _ _
        generalize (c + u + x * y) % 4294967296 = s at e ⊢
        generalize (c + u + x * y) / 4294967296 = t at e ⊢
        grind
      · have hw : wrap64 (i + (kk : Int)) = (q.length : Int) := by rw [w64 (by omega) (by omega)]; omega
        have hap : q ++ (u :: m) ++ z :: zs = q ++ u :: (m ++ z :: zs) := by simp
        have hg := g4 r (by simpa using h)
        refine Ev.step (fun k => by rw [nat_mul.l1, if_pos (by omega), if_pos (by omega), if_pos (by omega), hw, if_pos (by omega), if_pos (by simp; omega), hap, rd_mid, hd2, hcur, set_mid, w64 (by omega) (by omega)]) ?_
        have e1 : q ++ (c + u + x * y) % 4294967296 :: (m ++ z :: zs) = q ++ [(c + u + x * y) % 4294967296] ++ m ++ z :: zs := by simp
        rw [e1]
        exact hg
theorem mul_l0 (b : List Int) (hb : Ok b) (hbl : b.length ≤ 8796093022208) (arest : List Int) : ∀ (apre q m : List Int), Ok arest → q.length = apre.length → m.length = b.length → Ok q → Ok m → (apre ++ arest).length ≤ 8796093022208 →
    ∃ r, Ev (fun k => nat_mul.l0 k b (q ++ m ++ List.replicate arest.length 0) (apre ++ arest) ((apre ++ arest).length : Int) (apre.length : Int)) r ∧ val r = val q + 4294967296 ^ q.length * (val m + val arest * val b) ∧ Norm r ∧ r.length ≤ (apre ++ arest).length + b.length := by
  induction arest with
  | nil =>
    intro apre q m ha hq hm hqo hmo hlen
    simp only [List.append_nil] at hlen
    obtain ⟨r, h1, h2, h3, h4⟩ := trim_ev (q ++ m) (hqo.append hmo) (by simp; omega)
    refine ⟨r, ?_, ?_, h3, by simp at h4 ⊢; omega⟩
    · refine Ev.step (fun k => by rw [nat_mul.l0, if_neg (by simp), List.length_nil, List.replicate_zero, List.append_nil]) ?_
      exact Ev.bind h1 (Ev.now _)
    · rw [h2, val_append]; simp [val]
  | cons x arest ih =>
    intro apre q m ha hq hm hqo hmo hlen
    have hx := ha.head
    have hlen' : apre.length + arest.length + 1 ≤ 8796093022208 := by simp at hlen; omega
    obtain ⟨m', g1, g2, g3, g4⟩ := mul_l1 b (apre ++ x :: arest) hb x (apre.length : Int) hx.1 hx.2 (by omega) (by omega) (by omega) (List.replicate arest.length 0) 0 (by simp; omega) b q m 0 0 rfl (by omega) (by omega) hm hmo (by omega) (by omega)
    obtain ⟨s, m'', rfl⟩ : ∃ s m'', m' = s :: m'' := by
      cases m' with
      | nil => simp at g1
      | cons s m'' => exact ⟨s, m'', rfl⟩
    have hs := g2.head
    obtain ⟨r, r1, r2, r3, r4⟩ := ih (apre ++ [x]) (q ++ [s]) m'' ha.tail (by simp; omega) (by simpa using g1) (hqo.append (Ok.single hs.1 hs.2)) g2.tail (by simp; omega)
    have hln : (apre ++ [x]) ++ arest = apre ++ x :: arest := by simp
    rw [hln] at r1 r4
    refine ⟨r, ?_, ?_, r3, by simp at r4 ⊢; omega⟩
    · refine Ev.step (fun k => by rw [nat_mul.l0, if_pos (by simp; omega), if_pos (by omega), if_pos (by simp; omega), rd_mid]) ?_
      have hz : q ++ m ++ List.replicate (x :: arest).length 0 = q ++ m ++ 0 :: List.replicate arest.length 0 := by simp [List.replicate_succ]
      rw [hz]
      refine g4 r ?_
      rw [w64 (by omega) (by omega), ← len_snoc apre x]
      simpa using r1
    · rw [r2, val_append]
      simp only [val, List.length_append, List.length_cons, List.length_nil, Nat.zero_add, Int.pow_add, Int.pow_one] at g3 ⊢
      grind
theorem mul_ev (a b : List Int) (ha : Ok a) (hb : Ok b) (hla : a.length ≤ 8796093022208) (hlb : b.length ≤ 8796093022208) :
    ∃ r, Ev (fun k => nat_mul.f k a b) r ∧ val r = val a * val b ∧ Norm r ∧ r.length ≤ a.length + b.length := by
  obtain ⟨r, h1, h2, h3, h4⟩ := mul_l0 b hb hlb a [] [] (List.replicate b.length 0) ha rfl (by simp) Ok.nil (Ok.zeros _) (by simpa using hla)
  refine ⟨r, ?_, by simpa [val, val_zeros] using h2, h3, by simpa using h4⟩
  refine Ev.congr (fun k => by rw [nat_mul.f, w64 (by omega) (by omega), if_pos (by omega), if_pos (by omega)]) ?_
  have e : List.replicate ((a.length : Int) + (b.length : Int)).toNat (0 : Int) = [] ++ List.replicate b.length 0 ++ List.replicate a.length 0 := by
    rw [List.nil_append, List.replicate_append_replicate]
    congr 1
    omega
  rw [e]
  simpa using h1
/-! ### compare -/
def cmp (x y : Int) : Int := if x < y then -1 else if y < x then 1 else 0
theorem cmp_l0 (s t : List Int) (n : Nat) : ∀ (p q : List Int), p.length = n → q.length = n → Ok p → Ok q → (p ++ s).length ≤ 17592186044416 →
    Ev (fun k => nat_compare.l0 k (p ++ s) (q ++ t) ((n : Int) - 1)) (cmp (val p) (val q)) := by
  induction n generalizing s t with
  | zero =>
    intro p q hp hq _ _ _
    have h1 := List.eq_nil_of_length_eq_zero hp
    have h2 := List.eq_nil_of_length_eq_zero hq
    subst h1; subst h2
    exact Ev.step (fun k => by rw [nat_compare.l0, if_neg (by omega)]; rfl) (Ev.now _)
  | succ n ih =>
    intro p q hp hq hpo hqo hlen
    rcases eq_of_snoc p with h | ⟨p, x, rfl⟩
    · subst h; simp at hp
    rcases eq_of_snoc q with h | ⟨q, y, rfl⟩
    · subst h; simp at hq
    have hp' : p.length = n := by simp at hp; exact hp
    have hq' : q.length = n := by simp at hq; exact hq
    have hi : ((n + 1 : Nat) : Int) - 1 = (p.length : Int) := by omega
    have hi2 : ((p.length : Nat) : Int) = (q.length : Int) := by omega
    have ep : p ++ [x] ++ s = p ++ x :: s := by simp
    have eq' : q ++ [y] ++ t = q ++ y :: t := by simp
    have hln : p.length < 17592186044416 := by simp at hlen; omega
    have hx := hpo.right.head
    have hy := hqo.right.head
    rw [hi, ep, eq']
    have rx : rd (p ++ x :: s) (p.length : Int) = x := rd_mid _ _ _
    have ry : rd (q ++ y :: t) (p.length : Int) = y := by rw [hi2]; exact rd_mid _ _ _
    by_cases hxy : x = y
    · subst hxy
      have hv : cmp (val (p ++ [x])) (val (q ++ [x])) = cmp (val p) (val q) := by
        rw [val_append, val_append, hp', hq']
        unfold cmp
        generalize (4294967296 : Int) ^ n * val [x] = w
        by_cases h1 : val p < val q
        · rw [if_pos h1, if_pos (by omega)]
        · rw [if_neg h1, if_neg (by omega)]
          by_cases h2 : val q < val p
          · rw [if_pos h2, if_pos (by omega)]
          · rw [if_neg h2, if_neg (by omega)]
      rw [hv]
      refine Ev.step (fun k => by rw [nat_compare.l0, if_pos (by omega), if_pos (by omega), if_pos (by simp; omega), if_pos (by simp; omega), rx, ry, if_pos rfl, w64 (by omega) (by omega), hp']) ?_
      exact ih (x :: s) (x :: t) p q hp' hq' hpo.left hqo.left (by simp at hlen ⊢; omega)
    · have h1 := val_lt hpo.left
      have h2 := val_lt hqo.left
      have h3 := val_nonneg hpo.left
      have h4 := val_nonneg hqo.left
      rw [hp'] at h1
      rw [hq'] at h2
      have hpw := pow_pos' n
      have vp : val (p ++ [x]) = val p + 4294967296 ^ n * x := by rw [val_append, hp']; simp [val]
      have vq : val (q ++ [y]) = val q + 4294967296 ^ n * y := by rw [val_append, hq']; simp [val]
      refine Ev.step (fun k => by rw [nat_compare.l0, if_pos (by omega), if_pos (by omega), if_pos (by simp; omega), if_pos (by simp; omega), rx, ry, if_neg hxy]) ?_
      by_cases hlt : x < y
      · have h5 : (4294967296 : Int) ^ n * (x + 1) ≤ 4294967296 ^ n * y := Int.mul_le_mul_of_nonneg_left (by omega) (by omega)
        rw [Int.mul_add, Int.mul_one] at h5
        have : cmp (val (p ++ [x])) (val (q ++ [y])) = -1 := by unfold cmp; rw [vp, vq, if_pos (by omega)]
        rw [this]
        exact Ev.congr (fun k => by rw [if_pos hlt]) (Ev.now _)
      · have h5 : (4294967296 : Int) ^ n * (y + 1) ≤ 4294967296 ^ n * x := Int.mul_le_mul_of_nonneg_left (by omega) (by omega)
        rw [Int.mul_add, Int.mul_one] at h5
        have : cmp (val (p ++ [x])) (val (q ++ [y])) = 1 := by unfold cmp; rw [vp, vq, if_neg (by omega), if_pos (by omega)]
        rw [this]
        exact Ev.congr (fun k => by rw [if_neg hlt]) (Ev.now _)
theorem cmp_ev (a b : List Int) (ha : Norm a) (hb : Norm b) (hla : a.length ≤ 17592186044416) : Ev (fun k => nat_compare.f k a b) (cmp (val a) (val b)) := by
  by_cases hl : (a.length : Int) = (b.length : Int)
  · have h := cmp_l0 [] [] a.length a b rfl (by omega) ha.ok hb.ok (by simpa using hla)
    refine Ev.congr (fun k => by rw [nat_compare.f, if_pos hl, w64 (by omega) (by omega)]) ?_
    simpa using h
  · by_cases hlt : (a.length : Int) < (b.length : Int)
    · have h1 := val_lt ha.ok
      have h2 := hb.ge (by intro h; subst h; simp only [List.length_nil] at hlt; omega)
      have h3 := pow_mono (m := a.length) (n := b.length - 1) (by omega)
      have : cmp (val a) (val b) = -1 := by unfold cmp; rw [if_pos (by omega)]
      rw [this]
      exact Ev.congr (fun k => by rw [nat_compare.f, if_neg hl, if_pos hlt]) (Ev.now _)
    · have h1 := val_lt hb.ok
      have h2 := ha.ge (by intro h; subst h; simp only [List.length_nil] at hlt hl; omega)
      have h3 := pow_mono (m := b.length) (n := a.length - 1) (by omega)
      have : cmp (val a) (val b) = 1 := by unfold cmp; rw [if_neg (by omega), if_pos (by omega)]
      rw [this]
      exact Ev.congr (fun k => by rw [nat_compare.f, if_neg hl, if_neg hlt]) (Ev.now _)
/-! ### small -/
theorem or_join {a x : Int} (ha0 : 0 ≤ a) (ha : a < 4294967296) (hx0 : 0 ≤ x) (hx : x < 4294967296) : Go.bits .or .u64 (IntKind.u64.wrap (a * 4294967296)) (IntKind.u64.wrap x) = a * 4294967296 + x := by
  rw [wu64 (x := a * 4294967296) (by omega) (by omega), wu64 (x := x) (by omega) (by omega)]
  exact bits_join .u64 64 (by decide) (fun n h0 h1 => wu64 h0 (by simpa using h1)) 32 _ _ (by omega) (by simp) (by simp; omega) hx0 (by simpa using hx) (by simp; omega)
theorem small_l0 (d : Int) (hd0 : 0 < d) (hd : d < 4294967296) (n : Nat) : ∀ (p q : List Int) (l : Int), p.length = n → Ok p → Ok q → 0 ≤ l → l < d → (p ++ q).length ≤ 17592186044416 →
    ∃ r l' v, Ev (fun k => nat_small.l0 k d (p ++ q) l ((n : Int) - 1)) (r, l') ∧ val p + 4294967296 ^ n * l = v * d + l' ∧ val r = v + 4294967296 ^ n * val q ∧ 0 ≤ l' ∧ l' < d ∧ Norm r ∧ r.length ≤ (p ++ q).length := by
  induction n with
  | zero =>
    intro p q l hp hpo hqo hl0 hl hlen
    have h1 := List.eq_nil_of_length_eq_zero hp
    subst h1
    obtain ⟨r, h1, h2, h3, h4⟩ := trim_ev q hqo (by simp at hlen; omega)
    refine ⟨r, l, 0, ?_, by simp [val], by simp [h2], hl0, hl, h3, by simpa using h4⟩
    refine Ev.step (fun k => by rw [nat_small.l0, if_neg (by omega), List.nil_append]) ?_
    exact Ev.bind h1 (Ev.now _)
  | succ n ih =>
    intro p q l hp hpo hqo hl0 hl hlen
    rcases eq_of_snoc p with h | ⟨p, x, rfl⟩
    · subst h; simp at hp
    have hp' : p.length = n := by simp at hp; exact hp
    have hx := hpo.right.head
    have hi : ((n + 1 : Nat) : Int) - 1 = (p.length : Int) := by omega
    have ep : p ++ [x] ++ q = p ++ x :: q := by simp
    have hln : p.length < 17592186044416 := by simp at hlen; omega
    have hq1 : (l * 4294967296 + x) / d < 4294967296 := by
      apply Int.ediv_lt_of_lt_mul hd0
      have : l + 1 ≤ d := hl
      have h5 : (l + 1) * 4294967296 ≤ d * 4294967296 := Int.mul_le_mul_of_nonneg_right this (by omega)
      omega
    have hq0 : 0 ≤ (l * 4294967296 + x) / d := Int.ediv_nonneg (by omega) (by omega)
    have hm0 : 0 ≤ (l * 4294967296 + x) % d := Int.emod_nonneg _ (by omega)
    have hm1 : (l * 4294967296 + x) % d < d := Int.emod_lt_of_pos _ hd0
    obtain ⟨r, l', v, g1, g2, g3, g4, g5, g6, g7⟩ := ih p ((l * 4294967296 + x) / d :: q) ((l * 4294967296 + x) % d) hp' hpo.left (Ok.cons hq0 hq1 hqo) hm0 hm1 (by simp at hlen ⊢; omega)
    refine ⟨r, l', v + 4294967296 ^ n * ((l * 4294967296 + x) / d), ?_, ?_, ?_, g4, g5, g6, by simp at g7 ⊢; omega⟩
    · rw [hi, ep]
      refine Ev.step (fun k => by rw [nat_small.l0, if_pos (by omega), if_pos (by omega), if_pos (by simp; omega), if_neg (by omega), rd_mid, or_join hl0 (by omega) hx.1 hx.2, Int.tdiv_eq_ediv_of_nonneg (by omega), Int.tmod_eq_emod_of_nonneg (by omega), wu64 hq0 (by omega), show ((l * 4294967296 + x) / d) % 4294967296 = (l * 4294967296 + x) / d from Int.emod_eq_of_lt hq0 hq1, set_mid, w64 (by omega) (by omega), hp']) g1
    · rw [val_append, hp']
      have e : (l * 4294967296 + x) % d + d * ((l * 4294967296 + x) / d) = l * 4294967296 + x := Int.emod_add_mul_ediv _ _
      simp only [val, Int.pow_succ]
      generalize (l * 4294967296 + x) % d = s at *
      generalize (l * 4294967296 + x) / d = t at *
      grind
    · rw [g3]
      simp only [val, Int.pow_succ]
      grind
theorem small_ev (a : List Int) (d : Int) (ha : Ok a) (hd0 : 0 < d) (hd : d < 4294967296) (hla : a.length ≤ 17592186044416) :
    ∃ r l, Ev (fun k => nat_small.f k a d) (r, l) ∧ val a = val r * d + l ∧ 0 ≤ l ∧ l < d ∧ Norm r ∧ r.length ≤ a.length := by
  obtain ⟨r, l, v, h1, h2, h3, h4, h5, h6, h7⟩ := small_l0 d hd0 hd a.length a [] 0 rfl ha Ok.nil (by omega) hd0 (by simpa using hla)
  refine ⟨r, l, ?_, ?_, h4, h5, h6, by simpa using h7⟩
  · refine Ev.congr (fun k => by rw [nat_small.f, clone_ev a (by omega), Option.bind_some, w64 (by omega) (by omega)]) ?_
    simpa using h1
  · simp only [val, Int.mul_zero, Int.add_zero] at h2 h3
    rw [h2, h3]
end Go.Proofs.Ytgeijcfacaiplaa.Th
/- Limbs of digits, and digits of limbs. -/
namespace Go.Proofs.Ytgeijcfacaiplaa.Th
open Go Go.RowKit Go.Proofs.YtgeijcfacaiplaaW.PrintWords Go.Proofs.Ytgeijcfacaiplaa.Str Go.Proofs.Ytgeijcfacaiplaa.PA
/-! ### strings as lists of bytes -/
theorem bt_mid {s : ByteArray} {p q : List UInt8} {c : UInt8} (h : s.data.toList = p ++ c :: q) : bt s (p.length : Int) = (c.toNat : Int) := by
  have h0 : p.length < s.size := by rw [size_list, h]; simp
  have hb := bt_at s p.length
  simp only [Int.toNat_natCast] at hb
  rw [← hb h0]
  have h3 : s.data.toList[p.length]'(by rw [h]; simp) = c := by simp [h]
  exact congrArg (fun x : UInt8 => (x.toNat : Int)) h3
theorem extract_list (s : ByteArray) (a b : Nat) : (s.extract a b).data.toList = (s.data.toList.take b).drop a := by
  rw [ByteArray.data_extract, Array.toList_extract, List.extract_eq_take_drop, List.take_drop]
  by_cases h : a ≤ b
  · rw [show a + (b - a) = b by omega]
  · rw [List.drop_eq_nil_of_le (by simp; omega), List.drop_eq_nil_of_le (by simp; omega)]
theorem extract_end (s : ByteArray) (a : Nat) : (s.extract a s.size).data.toList = s.data.toList.drop a := by
  rw [extract_list, size_list, List.take_length]
theorem numL_lt {l : List UInt8} (h : l.all isDig = true) : numL l < 10 ^ l.length := by
  induction l with
  | nil => simp [numL]
  | cons c l ih =>
    simp only [List.all_cons, Bool.and_eq_true] at h
    have h1 := ih h.2
    have h2 : 48 ≤ c.toNat ∧ c.toNat ≤ 57 := by simpa [isDig] using h.1
    rw [numL_cons, List.length_cons, Nat.pow_succ]
    have h3 : (c.toNat - 48) * 10 ^ l.length ≤ 9 * 10 ^ l.length := Nat.mul_le_mul_right _ (by omega)
    omega
theorem pow_le9 {n : Nat} (h : n ≤ 9) : 10 ^ n ≤ 1000000000 := Nat.le_trans (Nat.pow_le_pow_right (by omega) h) (by decide)
/-! ### read -/
theorem read_l1 (s : ByteArray) (out : List Int) (q : List UInt8) (n : Nat) (hn : n ≤ 9) (m : List UInt8) : ∀ (p : List UInt8) (v : Nat), s.data.toList = p ++ m ++ q → p.length + m.length = n → m.all isDig = true → v < 10 ^ p.length →
    ∀ r, Ev (fun k => nat_read.l1 k s out (n : Int) ((v * 10 ^ m.length + numL m : Nat) : Int) (n : Int) (n : Int)) r → Ev (fun k => nat_read.l1 k s out (n : Int) (v : Int) (n : Int) (p.length : Int)) r := by
  induction m with
  | nil =>
    intro p v hs hl hd hv r h
    simp at hl
    rw [hl]
    simpa [numL] using h
  | cons c m ih =>
    intro p v hs hl hd hv r h
    simp only [List.all_cons, Bool.and_eq_true] at hd
    have hc : 48 ≤ c.toNat ∧ c.toNat ≤ 57 := by simpa [isDig] using hd.1
    simp only [List.length_cons] at hl
    have hsz : p.length < s.size := by rw [size_list, hs]; simp
    have hv9 := pow_le9 (n := p.length + 1) (by omega)
    rw [Nat.pow_succ] at hv9
    have e1 : IntKind.u64.wrap ((IntKind.u64.wrap (10 * (v : Int))) + (((c.toNat : Int) - 48) % 256)) = ((10 * v + (c.toNat - 48) : Nat) : Int) := by
      rw [wu64 (x := 10 * (v : Int)) (by omega) (by omega), wu64 (by omega) (by omega)]; omega
    refine Ev.step (fun k => by rw [nat_read.l1, if_pos (by omega), if_pos (by omega), if_pos (by omega), bt_mid (c := c) (q := m ++ q) (by rw [hs]; simp), e1, w64 (by omega) (by omega)]) ?_
    have hp : (((p ++ [c]).length : Nat) : Int) = (p.length : Int) + 1 := by simp
    rw [← hp]
    refine ih (p ++ [c]) (10 * v + (c.toNat - 48)) (by rw [hs]; simp) (by simp; omega) hd.2 (by simp [Nat.pow_succ]; omega) r ?_
    have e2 : (10 * v + (c.toNat - 48)) * 10 ^ m.length + numL m = v * 10 ^ (c :: m).length + numL (c :: m) := by
      rw [numL_cons, List.length_cons, Nat.pow_succ]; grind
    rw [e2]
    exact h
theorem read_l0 (n : Nat) : ∀ (s : ByteArray) (out : List Int), s.size = n → s.data.toList.all isDig = true → Ok out → out.length + n ≤ 17592186044416 → (val out = 0 ∨ n % 9 = 0) →
    ∃ r, Ev (fun k => nat_read.l0 k s out) r ∧ val r = val out * 10 ^ n + (num s : Int) ∧ Ok r ∧ r.length ≤ out.length + n := by
  induction n using Nat.strongRecOn with
  | _ n ih =>
    intro s out hs hd ho hlen hz
    by_cases h0 : n = 0
    · subst h0
      have hnil : s.data.toList = [] := List.eq_nil_of_length_eq_zero (by rw [← size_list]; exact hs)
      refine ⟨out, ?_, by simp [num, hnil, numL], ho, by omega⟩
      exact Ev.step (fun k => by rw [nat_read.l0, if_neg (by omega)]) (Ev.now _)
    · obtain ⟨m, hm⟩ : ∃ m, m = (n - 1) % 9 + 1 := ⟨_, rfl⟩
      have hm9 : m ≤ 9 := by omega
      have hmn : m ≤ n := by omega
      have hsl : s.data.toList.length = n := by rw [← size_list]; exact hs
      have hw : wrap64 ((Int.tmod (wrap64 ((s.size : Int) - 1)) 9) + 1) = (m : Int) := by
        rw [w64 (x := (s.size : Int) - 1) (by omega) (by omega), Int.tmod_eq_emod_of_nonneg (by omega), w64 (by omega) (by omega)]; omega
      have hsplit : s.data.toList = [] ++ s.data.toList.take m ++ s.data.toList.drop m := by simp
      have htl : (s.data.toList.take m).length = m := by rw [List.length_take]; omega
      have hdt : (s.data.toList.take m).all isDig = true := by
        rw [List.all_eq_true] at hd ⊢
        exact fun x hx => hd x (List.mem_of_mem_take hx)
      have hdd : (s.data.toList.drop m).all isDig = true := by
        rw [List.all_eq_true] at hd ⊢
        exact fun x hx => hd x (List.mem_of_mem_drop hx)
      have hv := numL_lt hdt
      rw [htl] at hv
      have h9 := pow_le9 hm9
      obtain ⟨t, t1, t2, t3, t4⟩ := step_ev out 1000000000 ((numL (s.data.toList.take m) : Nat) : Int) ho (by omega) (by omega) (by omega) (by omega) (by omega)
      have hes : (s.extract m s.size).size = n - m := by rw [size_list, extract_end, List.length_drop, hsl]
      have hout : val out * 1000000000 = val out * 10 ^ m := by
        rcases hz with hz | hz
        · rw [hz]; simp
        · have : m = 9 := by omega
          rw [this]; rfl
      obtain ⟨r, r1, r2, r3, r4⟩ := ih (n - m) (by omega) (s.extract m s.size) t hes (by rw [extract_end]; exact hdd) t3.ok (by omega) (.inr (by omega))
      refine ⟨r, ?_, ?_, r3, by omega⟩
      · refine Ev.step (fun k => by rw [nat_read.l0, if_pos (by omega), hw]) ?_
        refine read_l1 s out (s.data.toList.drop m) m hm9 (s.data.toList.take m) [] 0 hsplit (by simp [htl]) hdt (by simp) r ?_
        rw [htl, Nat.zero_mul, Nat.zero_add]
        refine Ev.step (fun k => by rw [nat_read.l1, if_neg (by omega)]) ?_
        refine Ev.bind t1 ?_
        refine Ev.congr (fun k => by rw [if_pos (by omega), if_pos (by omega), Int.toNat_natCast]) r1
      · have hnum : num s = numL (s.data.toList.take m) * 10 ^ (n - m) + num (s.extract m s.size) := by
          have : num s = numL (s.data.toList.take m ++ s.data.toList.drop m) := by rw [List.take_append_drop]; rfl
          rw [this, numL_append, List.length_drop, hsl]
          congr 1
          unfold num
          rw [extract_end]
        rw [r2, t2, hout, hnum]
        have hp : (10 : Int) ^ n = 10 ^ m * 10 ^ (n - m) := by rw [← Int.pow_add]; congr 1; omega
        rw [hp]
        simp only [Int.natCast_add, Int.natCast_mul, Int.natCast_pow, Int.cast_ofNat_Int]
        grind
theorem read_ev (s : ByteArray) (hs : s.size ≤ 8796093022208) (hr : right s = true) : ∃ r, Ev (fun k => nat_read.f k s) r ∧ val r = (num s : Int) ∧ Ok r ∧ r.length ≤ s.size := by
  have hd : s.data.toList.all isDig = true := by
    rw [txt_num hr]; exact digs_dig _
  obtain ⟨r, h1, h2, h3, h4⟩ := read_l0 s.size s [] rfl hd Ok.nil (by simp; omega) (.inl rfl)
  exact ⟨r, h1, by simpa [val] using h2, h3, by simpa using h4⟩
/-! ### both -/
theorem both_yes (a b : ByteArray) (ha : a.size ≤ 8796093022208) (hb : b.size ≤ 8796093022208) (hra : right a = true) (hrb : right b = true) :
    ∃ x y, Ev (fun k => nat_both.f k a b) (x, y, true) ∧ val x = (num a : Int) ∧ val y = (num b : Int) ∧ Norm x ∧ Norm y ∧ x.length ≤ a.size ∧ y.length ≤ b.size := by
  obtain ⟨x, x1, x2, x3, x4⟩ := read_ev a ha hra
  obtain ⟨y, y1, y2, y3, y4⟩ := read_ev b hb hrb
  obtain ⟨x', u1, u2, u3, u4⟩ := trim_ev x x3 (by omega)
  obtain ⟨y', v1, v2, v3, v4⟩ := trim_ev y y3 (by omega)
  refine ⟨x', y', ?_, by rw [u2, x2], by rw [v2, y2], u3, v3, by omega, by omega⟩
  refine Ev.congr (fun k => by rw [nat_both.f, nat_Right.f, Option.bind_some, if_pos hra, nat_Right.f, Option.bind_some, hrb]) ?_
  refine Ev.step (fun k => by rw [nat_both.j0, if_neg (by simp)]) ?_
  exact Ev.bind x1 (Ev.bind u1 (Ev.bind y1 (Ev.bind v1 (Ev.now _))))
theorem both_no (a b : ByteArray) (h : (Str.right a && Str.right b) = false) : Ev (fun k => nat_both.f k a b) ([], [], false) := by
  cases hra : Str.right a with
  | false =>
    refine Ev.congr (fun k => by rw [nat_both.f, nat_Right.f, Option.bind_some, hra, if_neg (by simp)]) ?_
    exact Ev.step (fun k => by rw [nat_both.j0, if_pos (show true = true from rfl)]) (Ev.now _)
  | true =>
    rw [hra, Bool.true_and] at h
    refine Ev.congr (fun k => by rw [nat_both.f, nat_Right.f, Option.bind_some, if_pos hra, nat_Right.f, Option.bind_some, h]) ?_
    exact Ev.step (fun k => by rw [nat_both.j0, if_pos (show (!false) = true from rfl)]) (Ev.now _)
/-! ### Reverse -/
theorem rev_l0 (n : Nat) : ∀ (p m q : List Int), m.length = n → (p ++ m ++ q).length ≤ 281474976710656 →
    Ev (fun k => slices_Reverse_byte_byte.l0 k (p ++ m ++ q) (p.length : Int) ((p.length : Int) + m.length - 1)) (p ++ m.reverse ++ q) := by
  induction n using Nat.strongRecOn with
  | _ n ih =>
    intro p m q hm hlen
    by_cases h1 : n ≤ 1
    · have hr : m.reverse = m := by
        match m, hm with
        | [], _ => rfl
        | [x], _ => rfl
        | x :: y :: m, h => simp at h; omega
      rw [hr]
      exact Ev.step (fun k => by rw [slices_Reverse_byte_byte.l0, if_neg (by omega)]) (Ev.now _)
    · obtain ⟨x, m1, rfl⟩ : ∃ x m1, m = x :: m1 := by
        cases m with
        | nil => simp at hm; omega
        | cons x m1 => exact ⟨x, m1, rfl⟩
      rcases eq_of_snoc m1 with h | ⟨m2, y, rfl⟩
      · subst h; simp at hm; omega
      have hm2 : m2.length + 2 = n := by simp at hm; omega
      have hj : (p.length : Int) + ((x :: (m2 ++ [y])).length : Int) - 1 = ((p ++ x :: m2).length : Int) := by simp; omega
      have e1 : p ++ x :: (m2 ++ [y]) ++ q = (p ++ x :: m2) ++ y :: q := by simp
      have e2 : p ++ x :: (m2 ++ [y]) ++ q = p ++ x :: (m2 ++ y :: q) := by simp
      have hpl : p.length + m2.length + q.length + 2 ≤ 281474976710656 := by simp at hlen; omega
      have hL : (p ++ x :: (m2 ++ [y]) ++ q).length = p.length + m2.length + q.length + 2 := by simp; omega
      have hJ : (p ++ x :: m2).length = p.length + m2.length + 1 := by simp; omega
      have rx : rd (p ++ x :: (m2 ++ [y]) ++ q) (p.length : Int) = x := by rw [e2]; exact rd_mid _ _ _
      have ry : rd (p ++ x :: (m2 ++ [y]) ++ q) ((p ++ x :: m2).length : Int) = y := by rw [e1]; exact rd_mid _ _ _
      have es : ((p ++ x :: (m2 ++ [y]) ++ q).set ((p.length : Int)).toNat y).set (((p ++ x :: m2).length : Int)).toNat x = (p ++ [y]) ++ m2 ++ (x :: q) := by
        rw [e2, set_mid, show p ++ y :: (m2 ++ y :: q) = (p ++ y :: m2) ++ y :: q by simp, show ((p ++ x :: m2).length : Int) = ((p ++ y :: m2).length : Int) by simp, set_mid]
        simp
      refine Ev.step (fun k => by rw [slices_Reverse_byte_byte.l0, hj, if_pos (by omega), if_pos (by omega), if_pos (by omega), if_pos (by omega), if_pos (by omega), rx, ry, es, w64 (x := (p.length : Int) + 1) (by omega) (by omega), w64 (by omega) (by omega)]) ?_
      have hi := ih m2.length (by omega) (p ++ [y]) m2 (x :: q) rfl (by simp; omega)
      have e3 : ((p ++ [y]).length : Int) = (p.length : Int) + 1 := by simp
      have e4 : ((p ++ x :: m2).length : Int) - 1 = ((p ++ [y]).length : Int) + (m2.length : Int) - 1 := by rw [hJ, e3]; omega
      rw [e4, ← e3]
      have e5 : p ++ (x :: (m2 ++ [y])).reverse ++ q = (p ++ [y]) ++ m2.reverse ++ (x :: q) := by simp
      rw [e5]
      exact hi
theorem rev_ev (l : List Int) (h : l.length ≤ 281474976710656) : Ev (fun k => slices_Reverse_byte_byte.f k l) l.reverse := by
  have := rev_l0 l.length [] l [] rfl (by simpa using h)
  refine Ev.congr (fun k => by rw [slices_Reverse_byte_byte.f, w64 (by omega) (by omega)]) ?_
  simpa using this
/-! ### text -/
def rd10 (m : Nat) : List Int := if m = 0 then [] else ((48 + m % 10 : Nat) : Int) :: rd10 (m / 10)
termination_by m
decreasing_by omega
theorem rd10_zero : rd10 0 = [] := by rw [rd10, if_pos rfl]
theorem rd10_pos {m : Nat} (h : 0 < m) : rd10 m = ((48 + m % 10 : Nat) : Int) :: rd10 (m / 10) := by rw [rd10, if_neg (by omega)]
theorem rd10_digs (m : Nat) (h : 0 < m) : ((rd10 m).reverse).map (fun n => UInt8.ofNat n.toNat) = digs m := by
  induction m using Nat.strongRecOn with
  | _ m ih =>
    rw [rd10_pos h, List.reverse_cons, List.map_append]
    by_cases h1 : m < 10
    · rw [show m / 10 = 0 by omega, rd10_zero, digs_lt h1]
      show [UInt8.ofNat (((48 + m % 10 : Nat) : Int)).toNat] = _
      rw [Int.toNat_natCast, Nat.mod_eq_of_lt h1]
    · rw [ih (m / 10) (by omega) (by omega), digs_ge h1]
      rfl
theorem rd10_len (m : Nat) : (rd10 m).length ≤ (digs m).length := by
  by_cases h : 0 < m
  · rw [← rd10_digs m h]; simp
  · rw [show m = 0 by omega, rd10_zero]; simp
theorem strOf_rd10 (m : Nat) (h : 0 < m) : strOfNums ((rd10 m).reverse) = txt m := by
  unfold strOfNums txt
  rw [rd10_digs m h]
theorem text_rest {q x3 : List Int} {r : ByteArray} (hq : Norm q) (hl : q.length ≤ 17592186044416) (h3 : x3.length ≤ 140737488355328)
    (h0 : q = [] → r = strOfNums x3.reverse)
    (h1 : ∀ (q' : List Int) (l' : Int), q ≠ [] → val q = val q' * 1000000000 + l' → 0 ≤ l' → l' < 1000000000 → Norm q' → q'.length ≤ q.length → Ev (fun k => nat_text.l1 k x3 q' l' 0) r) : Ev (fun k => nat_text.l0 k q x3) r := by
  by_cases hq0 : q = []
  · rw [h0 hq0, hq0]
    refine Ev.step (fun k => by rw [nat_text.l0, if_neg (by simp)]) ?_
    exact Ev.bind (rev_ev x3 (by omega)) (Ev.now _)
  · obtain ⟨q', l', g1, g2, g3, g4, g5, g6⟩ := small_ev q 1000000000 hq.ok (by omega) (by omega) hl
    have hp := List.length_pos_iff.2 hq0
    refine Ev.step (fun k => by rw [nat_text.l0, if_pos (by omega)]) ?_
    exact Ev.bind g1 (h1 q' l' hq0 g2 g3 g4 g5 g6)
theorem h9 : (10 : Nat) ^ 9 = 1000000000 := by decide
theorem text_l1 (m : Nat) : ∀ (x3 q : List Int) (v l kk e : Nat), kk + e = 9 → 0 < e → Norm q → val q = (v : Int) → l < 10 ^ e → m = v * 10 ^ e + l → x3.length + (rd10 m).length ≤ 70368744177664 → q.length ≤ 17592186044416 →
    Ev (fun k => nat_text.l1 k x3 q (l : Int) (kk : Int)) (strOfNums (x3 ++ rd10 m).reverse) := by
  induction m using Nat.strongRecOn with
  | _ m ih =>
    intro x3 q v l kk e hke he hq hv hl hm hlen hql
    have hl9 := pow_le9 (n := e) (by omega)
    have hgo : 0 < m → Ev (fun k => nat_text.l1 k (x3 ++ [(IntKind.u64.wrap (48 + (Int.tmod (l : Int) 10))) % 256]) q (IntKind.u64.wrap (Int.tdiv (l : Int) 10)) (wrap64 ((kk : Int) + 1))) (strOfNums (x3 ++ rd10 m).reverse) := by
      intro hpos
      obtain ⟨e', rfl⟩ : ∃ e', e = e' + 1 := ⟨e - 1, by omega⟩
      have ed : v * 10 ^ (e' + 1) + l = 10 * (v * 10 ^ e') + l := by rw [Nat.pow_succ]; grind
      have hm10 : m % 10 = l % 10 := by rw [hm, ed]; omega
      have hd10 : m / 10 = v * 10 ^ e' + l / 10 := by rw [hm, ed]; omega
      have hl' : l / 10 < 10 ^ e' := by rw [Nat.pow_succ] at hl; omega
      have c1 : (IntKind.u64.wrap (48 + (Int.tmod (l : Int) 10))) % 256 = ((48 + m % 10 : Nat) : Int) := by
        rw [Int.tmod_eq_emod_of_nonneg (by omega), wu64 (by omega) (by omega), hm10]; omega
      have c2 : IntKind.u64.wrap (Int.tdiv (l : Int) 10) = ((l / 10 : Nat) : Int) := by
        rw [Int.tdiv_eq_ediv_of_nonneg (by omega), wu64 (by omega) (by omega)]; omega
      have c3 : wrap64 ((kk : Int) + 1) = ((kk + 1 : Nat) : Int) := by rw [w64 (by omega) (by omega)]; omega
      rw [c1, c2, c3]
      have hr := rd10_pos hpos
      have hres : x3 ++ rd10 m = (x3 ++ [((48 + m % 10 : Nat) : Int)]) ++ rd10 (m / 10) := by rw [hr]; simp
      have hlen' : (x3 ++ [((48 + m % 10 : Nat) : Int)]).length + (rd10 (m / 10)).length ≤ 70368744177664 := by
        rw [hr] at hlen; simp at hlen ⊢; omega
      rw [hres]
      by_cases he' : 0 < e'
      · exact ih (m / 10) (by omega) _ q v (l / 10) (kk + 1) e' (by omega) he' hq hv hl' hd10 hlen' hql
      · have he0 : e' = 0 := Nat.eq_zero_of_not_pos he'
        subst he0
        have hl0 : l / 10 = 0 := Nat.lt_one_iff.mp (by rw [Nat.pow_zero] at hl'; exact hl')
        clear hl hm hl9 hlen ed hres
        have hmv : m / 10 = v := by rw [hd10, hl0]; simp
        refine Ev.step (fun k => by rw [nat_text.l1, if_neg (by omega)]) ?_
        refine text_rest hq hql (by simp at hlen' ⊢; omega) (fun h => ?_) (fun q' l' hq0 g1 g2 g3 g4 g5 => ?_)
        · have : v = 0 := by rw [h] at hv; simp [val] at hv; omega
          rw [hmv, this, rd10_zero, List.append_nil]
        · obtain ⟨l2, hl2⟩ := Int.eq_ofNat_of_zero_le g2
          obtain ⟨v2, hv2⟩ := Int.eq_ofNat_of_zero_le (val_nonneg g4.ok)
          rw [hl2]
          refine ih (m / 10) (by omega) _ q' v2 l2 0 9 rfl (by omega) g4 hv2 (by rw [h9]; rw [hl2] at g3; omega) ?_ hlen' (by omega)
          rw [hmv, h9]
          rw [hv, hl2, hv2] at g1
          omega
    by_cases hq0 : q = []
    · have hv0 : v = 0 := by
        have h : (v : Int) = 0 := by rw [← hv, hq0]; rfl
        exact Int.ofNat_eq_zero.mp h
      by_cases hl0 : l = 0
      · have hm0 : m = 0 := by rw [hm, hv0, hl0]; simp
        refine Ev.step (fun k => by rw [nat_text.l1, if_pos (by omega), if_neg (by rw [hq0]; simp), if_neg (by omega)]) ?_
        refine text_rest hq hql (by omega) (fun _ => ?_) (fun _ _ h => absurd hq0 h)
        rw [hm0, rd10_zero, List.append_nil]
      · refine Ev.step (fun k => by rw [nat_text.l1, if_pos (by omega), if_neg (by rw [hq0]; simp), if_pos (by omega), if_pos (by omega)]) ?_
        exact hgo (by omega)
    · have hp := hq.pos hq0
      have hlq := List.length_pos_iff.2 hq0
      have hmp : 0 < m := by
        have : 0 < v * 10 ^ e := Nat.mul_pos (by omega) (Nat.pow_pos (by omega))
        omega
      refine Ev.step (fun k => by rw [nat_text.l1, if_pos (by omega), if_pos (by omega), if_pos (by omega)]) ?_
      exact hgo hmp
theorem text_ev (a : List Int) (n : Nat) (ha : Norm a) (hv : val a = (n : Int)) (hla : a.length ≤ 17592186044416) (hn : (txt n).size ≤ 70368744177664) : Ev (fun k => nat_text.f k a) (txt n) := by
  by_cases h0 : a = []
  · have : n = 0 := by rw [h0] at hv; simp [val] at hv; omega
    rw [h0, this, txt_small 0 (by omega)]
    exact Ev.congr (fun k => by rw [nat_text.f, if_pos (by simp)]; rfl) (Ev.now _)
  · have hp := ha.pos h0
    have hlp := List.length_pos_iff.2 h0
    have hnp : 0 < n := by omega
    have hlen : (rd10 n).length ≤ 70368744177664 := Nat.le_trans (rd10_len n) (by rw [← size_txt]; exact hn)
    refine Ev.congr (fun k => by rw [nat_text.f, if_neg (by omega)]) ?_
    rw [← strOf_rd10 n hnp]
    refine text_rest ha hla (by simp) (fun h => absurd h h0) (fun q' l' hq0 g1 g2 g3 g4 g5 => ?_)
    obtain ⟨l2, hl2⟩ := Int.eq_ofNat_of_zero_le g2
    obtain ⟨v2, hv2⟩ := Int.eq_ofNat_of_zero_le (val_nonneg g4.ok)
    rw [hl2]
    have := text_l1 n [] q' v2 l2 0 9 rfl (by omega) g4 hv2 (by rw [h9]; rw [hl2] at g3; omega) (by rw [h9]; rw [hv, hl2, hv2] at g1; omega) (by simpa using hlen) (by omega)
    simpa using this
end Go.Proofs.Ytgeijcfacaiplaa.Th
/- What the exported functions of nat come to. -/
namespace Go.Proofs.Ytgeijcfacaiplaa.Th
open Go Go.RowKit Go.Proofs.YtgeijcfacaiplaaW.PrintWords Go.Proofs.YtgeijcfacaiplaaW.PrintMore Go.Proofs.Ytgeijcfacaiplaa.Str Go.Proofs.Ytgeijcfacaiplaa.PA
/-! ### sizes -/
theorem size_mono {m n : Nat} (h : m ≤ n) : (txt m).size ≤ (txt n).size := size_le (Nat.lt_of_le_of_lt h (lt_pow_size n)) (size_pos n)
theorem size_add (m n : Nat) : (txt (m + n)).size ≤ max (txt m).size (txt n).size + 1 := by
  apply size_le _ (by omega)
  have h1 := lt_pow_size m
  have h2 := lt_pow_size n
  have h3 : 10 ^ (txt m).size ≤ 10 ^ max (txt m).size (txt n).size := Nat.pow_le_pow_right (by omega) (by omega)
  have h4 : 10 ^ (txt n).size ≤ 10 ^ max (txt m).size (txt n).size := Nat.pow_le_pow_right (by omega) (by omega)
  rw [Nat.pow_succ]
  omega
theorem size_mul (m n : Nat) : (txt (m * n)).size ≤ (txt m).size + (txt n).size := by
  apply size_le _ (by have := size_pos m; omega)
  rw [Nat.pow_add]
  exact Nat.mul_lt_mul'' (lt_pow_size m) (lt_pow_size n)
theorem size_num {a : ByteArray} (h : right a = true) : (txt (num a)).size = a.size := by rw [← txt_num h]
/-! ### what they come to -/
def sAdd (a b : ByteArray) : ByteArray × Int := if right a && right b then (txt (num a + num b), 0) else (⟨#[]⟩, 2)
def sSub (a b : ByteArray) : ByteArray × Int := if right a && right b then (if num a < num b then (⟨#[]⟩, 1) else (txt (num a - num b), 0)) else (⟨#[]⟩, 2)
def sMul (a b : ByteArray) : ByteArray × Int := if right a && right b then (txt (num a * num b), 0) else (⟨#[]⟩, 2)
def sDiv (a b : ByteArray) : ByteArray × ByteArray × Int := if right a && right b then (if num b = 0 then (⟨#[]⟩, ⟨#[]⟩, 3) else (txt (num a / num b), txt (num a % num b), 0)) else (⟨#[]⟩, ⟨#[]⟩, 2)
def sGcd (a b : ByteArray) : ByteArray × Int := if right a && right b then (txt (Nat.gcd (num a) (num b)), 0) else (⟨#[]⟩, 2)
def sCompare (a b : ByteArray) : Int × Int := if right a && right b then (cmp (num a : Int) (num b : Int), 0) else (0, 2)
/-- What is short enough to be told of. -/
abbrev Fit (a : ByteArray) : Prop := a.size ≤ 549755813888
theorem cond_of {a b : ByteArray} (h : (right a && right b) = true) : right a = true ∧ right b = true := by simpa using h
theorem add_spec (a b : ByteArray) (ha : Fit a) (hb : Fit b) : Ev (fun k => nat_Add.f k a b) (sAdd a b) := by
  unfold Fit at ha hb
  unfold sAdd
  cases h : (right a && right b) with
  | false =>
    refine Ev.bind (both_no a b h) ?_
    exact Ev.congr (fun k => by rw [if_neg (by simp)]; rfl) (Ev.now _)
  | true =>
    obtain ⟨hra, hrb⟩ := cond_of h
    obtain ⟨x, y, h1, h2, h3, h4, h5, h6, h7⟩ := both_yes a b (by omega) (by omega) hra hrb
    obtain ⟨r, r1, r2, r3, r4⟩ := add_ev x y h4.ok h5.ok (by omega) (by omega)
    have hsz := size_add (num a) (num b)
    rw [size_num hra, size_num hrb] at hsz
    refine Ev.bind h1 ?_
    refine Ev.congr (fun k => by rw [if_pos rfl]) ?_
    refine Ev.bind r1 ?_
    exact Ev.bind (text_ev r (num a + num b) r3 (by rw [r2, h2, h3]; simp) (by omega) (by omega)) (Ev.now _)
theorem mul_spec (a b : ByteArray) (ha : Fit a) (hb : Fit b) : Ev (fun k => nat_Mul.f k a b) (sMul a b) := by
  unfold Fit at ha hb
  unfold sMul
  cases h : (right a && right b) with
  | false =>
    refine Ev.bind (both_no a b h) ?_
    exact Ev.congr (fun k => by rw [if_neg (by simp)]; rfl) (Ev.now _)
  | true =>
    obtain ⟨hra, hrb⟩ := cond_of h
    obtain ⟨x, y, h1, h2, h3, h4, h5, h6, h7⟩ := both_yes a b (by omega) (by omega) hra hrb
    obtain ⟨r, r1, r2, r3, r4⟩ := mul_ev x y h4.ok h5.ok (by omega) (by omega)
    have hsz := size_mul (num a) (num b)
    rw [size_num hra, size_num hrb] at hsz
    refine Ev.bind h1 ?_
    refine Ev.congr (fun k => by rw [if_pos rfl]) ?_
    refine Ev.bind r1 ?_
    exact Ev.bind (text_ev r (num a * num b) r3 (by rw [r2, h2, h3]; simp) (by omega) (by omega)) (Ev.now _)
theorem compare_spec (a b : ByteArray) (ha : Fit a) (hb : Fit b) : Ev (fun k => nat_Compare.f k a b) (sCompare a b) := by
  unfold Fit at ha hb
  unfold sCompare
  cases h : (right a && right b) with
  | false =>
    refine Ev.bind (both_no a b h) ?_
    exact Ev.congr (fun k => by rw [if_neg (by simp)]; rfl) (Ev.now _)
  | true =>
    obtain ⟨hra, hrb⟩ := cond_of h
    obtain ⟨x, y, h1, h2, h3, h4, h5, h6, h7⟩ := both_yes a b (by omega) (by omega) hra hrb
    have hc := cmp_ev x y h4 h5 (by omega)
    rw [h2, h3] at hc
    refine Ev.bind h1 ?_
    refine Ev.congr (fun k => by rw [if_pos rfl]) ?_
    exact Ev.bind hc (Ev.now _)
theorem sub_spec (a b : ByteArray) (ha : Fit a) (hb : Fit b) : Ev (fun k => nat_Sub.f k a b) (sSub a b) := by
  unfold Fit at ha hb
  unfold sSub
  cases h : (right a && right b) with
  | false =>
    refine Ev.bind (both_no a b h) ?_
    exact Ev.congr (fun k => by rw [if_neg (by simp)]; rfl) (Ev.now _)
  | true =>
    obtain ⟨hra, hrb⟩ := cond_of h
    obtain ⟨x, y, h1, h2, h3, h4, h5, h6, h7⟩ := both_yes a b (by omega) (by omega) hra hrb
    have hc := cmp_ev x y h4 h5 (by omega)
    rw [h2, h3] at hc
    by_cases hlt : num a < num b
    · have h8 : cmp (num a : Int) (num b : Int) = -1 := by unfold cmp; rw [if_pos (by omega)]
      rw [h8] at hc
      rw [if_pos hlt]
      refine Ev.bind h1 ?_
      refine Ev.congr (fun k => by rw [if_pos rfl]) ?_
      refine Ev.bind hc ?_
      exact Ev.congr (fun k => by rw [if_pos (by omega)]; rfl) (Ev.now _)
    · have h8 : ¬ cmp (num a : Int) (num b : Int) < 0 := by
        unfold cmp
        rw [if_neg (by omega)]
        split <;> omega
      obtain ⟨r, r1, r2, r3, r4⟩ := sub_ev x y h4.ok h5.ok (len_le h5 h4.ok (by omega)) (by omega) (by omega)
      have hsz := size_mono (m := num a - num b) (n := num a) (by omega)
      rw [size_num hra] at hsz
      rw [if_neg hlt]
      refine Ev.bind h1 ?_
      refine Ev.congr (fun k => by rw [if_pos rfl]) ?_
      refine Ev.bind hc ?_
      refine Ev.congr (fun k => by rw [if_neg h8]) ?_
      refine Ev.bind r1 ?_
      exact Ev.bind (text_ev r (num a - num b) r3 (by rw [r2, h2, h3]; omega) (by omega) (by omega)) (Ev.now _)
end Go.Proofs.Ytgeijcfacaiplaa.Th
