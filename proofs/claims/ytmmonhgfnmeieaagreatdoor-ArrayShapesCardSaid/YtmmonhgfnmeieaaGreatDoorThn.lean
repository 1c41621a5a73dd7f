/- Limbs: what trim, step, add, sub, mul, small, compare and shift of the program come to, as numbers. -/
import Derived.Test.YtmmonhgfnmeieaaGreatDoorThA
import Derived.Test.YtmmonhgfnmeieaaGreatDoorPAx
-- mini
namespace Go.Proofs.YtmmonhgfnmeieaaGreatDoor.Th
open Go Go.RowKit Go.ZPWords Go.Proofs.YtmmonhgfnmeieaaGreatDoor.Str Go.Proofs.YtmmonhgfnmeieaaGreatDoor.PA
/-! ### places in a list -/
theorem rd_mid (p s : List Int) (x : Int) : rd (p ++ x :: s) (p.length : Int) = x := by
  unfold rd
  simp [List.getD]
theorem set_mid (p s : List Int) (x y : Int) : (p ++ x :: s).set (p.length : Int).toNat y = p ++ y :: s := by
  simp
theorem snoc_cons (p s : List Int) (x : Int) : p ++ x :: s = (p ++ [x]) ++ s := by simp
theorem len_snoc (p : List Int) (x : Int) : ((p ++ [x]).length : Int) = (p.length : Int) + 1 := by simp
/-! ### the number of limbs -/
def val : List Int → Int
  | [] => 0
  | x :: l => x + 4294967296 * val l
def Ok (l : List Int) : Prop := ∀ x, x ∈ l → 0 ≤ x ∧ x < 4294967296
structure Norm (l : List Int) : Prop where
  ok : Ok l
  top : ∀ (p : List Int) (x : Int), l = p ++ [x] → x ≠ 0
theorem Ok.nil : Ok [] := fun x h => by simp at h
theorem Ok.cons {x : Int} {l : List Int} (h1 : 0 ≤ x) (h2 : x < 4294967296) (h : Ok l) : Ok (x :: l) := by
 intro y hy;rcases List.mem_cons.1 hy with rfl | hy
 · exact ⟨h1, h2⟩
 exact h y hy
theorem Ok.head {x : Int} {l : List Int} (h : Ok (x :: l)) : 0 ≤ x ∧ x < 4294967296 := h x (List.mem_cons_self)
theorem Ok.tail {x : Int} {l : List Int} (h : Ok (x :: l)) : Ok l := fun y hy => h y (List.mem_cons_of_mem _ hy)
theorem Ok.append {p s : List Int} (hp : Ok p) (hs : Ok s) : Ok (p ++ s) := by
 intro y hy;rcases List.mem_append.1 hy with h | h
 · exact hp y h
 exact hs y h
theorem Ok.left {p s : List Int} (h : Ok (p ++ s)) : Ok p := fun y hy => h y (List.mem_append.2 (.inl hy))
theorem Ok.right {p s : List Int} (h : Ok (p ++ s)) : Ok s := fun y hy => h y (List.mem_append.2 (.inr hy))
theorem Ok.single {x : Int} (h1 : 0 ≤ x) (h2 : x < 4294967296) : Ok [x] := Ok.cons h1 h2 Ok.nil
theorem Ok.zeros (n : Nat) : Ok (List.replicate n 0) := fun y hy => by rw [List.eq_of_mem_replicate hy]; omega
theorem val_append (p s : List Int) : val (p ++ s) = val p + 4294967296 ^ p.length * val s := by
 induction p with
 | nil => simp [val]
 | cons x p ih =>
  simp only [List.cons_append, val, ih, List.length_cons, Int.pow_succ];grind
theorem val_nonneg {l : List Int} (h : Ok l) : 0 ≤ val l := by
  induction l with
  | nil => simp [val]
  | cons x l ih => have := ih h.tail; have := h.head; simp only [val]; omega
theorem val_lt {l : List Int} (h : Ok l) : val l < 4294967296 ^ l.length := by
 induction l with
 | nil => simp [val]
 | cons x l ih =>
  have h1 := ih h.tail;have h2 := h.head;simp only [val, List.length_cons, Int.pow_succ];have : val l + 1 ≤ 4294967296 ^ l.length := h1;omega
theorem val_zeros (n : Nat) : val (List.replicate n 0) = 0 := by
  induction n with
  | zero => rfl
  | succ n ih => simp only [List.replicate_succ, val, ih]; rfl
theorem pow_pos' (n : Nat) : (0 : Int) < 4294967296 ^ n := Int.pow_pos (by omega)
/-- A normed list of limbs is not less than its top place. -/
theorem Norm.ge {l : List Int} (h : Norm l) (hl : l ≠ []) : (4294967296 : Int) ^ (l.length - 1) ≤ val l := by
 obtain ⟨p, x, rfl⟩ : ∃ p x, l = p ++ [x] := by
  rcases List.eq_nil_or_concat l with h | ⟨p, c, h⟩
  · exact absurd h hl
  exact ⟨p, c, by rw [h, List.concat_eq_append]⟩
 rw [val_append];have h1 := h.top p x rfl;have h2 := (h.ok.right).head;have h3 := val_nonneg h.ok.left;have h4 := pow_pos' p.length;have h5 : (4294967296 : Int) ^ p.length * 1 ≤ 4294967296 ^ p.length * val [x] := Int.mul_le_mul_of_nonneg_left (by simp [val]; omega) (Int.le_of_lt h4);simp;omega
theorem Norm.nil : Norm [] := ⟨Ok.nil, fun p x h => by simp at h⟩
theorem Norm.pos {l : List Int} (h : Norm l) (hl : l ≠ []) : 0 < val l := by
  have := h.ge hl;have := pow_pos' (l.length - 1)
  omega
theorem Norm.zero {l : List Int} (h : Norm l) : val l = 0 ↔ l = [] := by
 constructor
 · intro h0;by_cases hl : l = []
   · exact hl
   have := h.pos hl;omega
 intro h0; rw [h0]; rfl
theorem pow_mono {m n : Nat} (h : m ≤ n) : (4294967296 : Int) ^ m ≤ 4294967296 ^ n := by
  obtain ⟨d, rfl⟩ : ∃ d, n = m + d := ⟨n - m, by omega⟩;rw [Int.pow_add];have h1 := pow_pos' d;have h2 := pow_pos' m;have h3 := Int.mul_le_mul_of_nonneg_left (show (1 : Int) ≤ 4294967296 ^ d by omega) (show (0 : Int) ≤ 4294967296 ^ m by omega);rw [Int.mul_one] at h3;exact h3
/-- What is not greater is not longer. -/
theorem len_le {a b : List Int} (hb : Norm b) (ha : Ok a) (h : val b ≤ val a) : b.length ≤ a.length := by
 by_cases hl : b = []
 · subst hl; simp
 have h1 := hb.ge hl;have h2 := val_lt ha;by_cases h3 : b.length ≤ a.length
 · exact h3
 have := pow_mono (m := a.length) (n := b.length - 1) (by omega);omega
theorem eq_of_snoc (l : List Int) : l = [] ∨ ∃ p x, l = p ++ [x] := by
 rcases List.eq_nil_or_concat l with h | ⟨p, c, h⟩
 · exact .inl h
 exact .inr ⟨p, c, by rw [h, List.concat_eq_append]⟩
/-! ### trim -/
theorem trim_ev (l : List Int) (hok : Ok l) (hlen : l.length ≤ 4611686018427387904) : ∃ r, Ev (fun k => nat_trim.f k l) r ∧ val r = val l ∧ Norm r ∧ r.length ≤ l.length := by
 generalize hn : l.length = n;induction n generalizing l with
 | zero =>
  have := List.eq_nil_of_length_eq_zero hn;subst this;refine ⟨[], ?_, rfl, Norm.nil, Nat.le_refl _⟩;unfold nat_trim.f;exact Ev.step (fun k => by rw [nat_trim.l0, if_neg (by simp)]) (Ev.now _)
 | succ n ih =>
  rcases eq_of_snoc l with h | ⟨p, x, rfl⟩
  · subst h; simp at hn
  have hp : p.length = n := by simp at hn; exact hn
  have hl : ((p ++ [x]).length : Int) = (p.length : Int) + 1 := len_snoc p x;have hw : wrap64 (((p ++ [x]).length : Int) - 1) = (p.length : Int) := by rw [hl, w64 (by omega) (by omega)]; omega
  by_cases hx : x = 0
  · subst hx;obtain ⟨r, h1, h2, h3, h4⟩ := ih p hok.left (by simp at hlen; omega) hp;refine ⟨r, ?_, ?_, h3, by omega⟩
    · unfold nat_trim.f at h1 ⊢;exact Ev.step (fun k => by rw [nat_trim.l0, if_pos (by omega), hw, if_pos (by omega), if_pos (by omega), rd_mid, if_pos rfl, if_pos (by omega), Int.toNat_natCast, List.take_left']; rfl) h1
    rw [h2, val_append]; simp [val]
  refine ⟨p ++ [x], ?_, rfl, ⟨hok, fun q y h => ?_⟩, by omega⟩
  · unfold nat_trim.f;exact Ev.step (fun k => by rw [nat_trim.l0, if_pos (by omega), hw, if_pos (by omega), if_pos (by omega), rd_mid, if_neg hx]) (Ev.now _)
  have := List.append_inj' h rfl;obtain ⟨_, h2⟩ := this;simp at h2;rw [← h2];exact hx
/-! ### step -/
theorem step_l0 (b : Int) (hb0 : 0 ≤ b) (hb : b < 4294967296) (rest : List Int) : ∀ (pre out : List Int) (m : Int), Ok rest → Ok out → 0 ≤ m → m < 4294967296 → out.length = pre.length → (pre ++ rest).length ≤ 17592186044416 →
    ∃ r, Ev (fun k => nat_step.l0 k b m out (pre ++ rest) ((pre ++ rest).length : Int) (pre.length : Int)) r ∧ val r = val out + 4294967296 ^ out.length * (val rest * b + m) ∧ Norm r ∧ r.length ≤ (pre ++ rest).length + 1 := by
 induction rest with
 | nil =>
  intro pre out m hr ho hm0 hm hl hlen;obtain ⟨r, h1, h2, h3, h4⟩ := trim_ev (out ++ [m]) (ho.append (Ok.single hm0 hm)) (by simp at hlen ⊢; omega);refine ⟨r, ?_, ?_, h3, by simp at h4 ⊢; omega⟩
  · refine Ev.step (fun k => by rw [nat_step.l0, if_neg (by simp), if_pos (by simp at hlen; omega), show m % 4294967296 = m by omega]) ?_;exact Ev.bind h1 (Ev.now _)
  rw [h2, val_append]; simp [val]
 | cons x rest ih =>
  intro pre out m hr ho hm0 hm hl hlen;have hx := hr.head;have h0 : 0 ≤ x * b := Int.mul_nonneg hx.1 hb0
  have h1 : x * b ≤ 4294967295 * 4294967295 := by
   have := Int.mul_le_mul (a := x) (b := b) (c := 4294967295) (d := 4294967295) (by omega) (by omega) hb0 (by omega);omega
  have hlen' : pre.length + rest.length + 1 ≤ 17592186044416 := by simp at hlen; omega
  have hc : IntKind.u64.wrap (m + (IntKind.u64.wrap ((IntKind.u64.wrap x) * b))) = m + x * b := by
   rw [wu64 (x := x) (by omega) (by omega), wu64 (x := x * b) (by omega) (by omega), wu64 (by omega) (by omega)]
  obtain ⟨r, g1, g2, g3, g4⟩ := ih (pre ++ [x]) (out ++ [(m + x * b) % 4294967296]) ((m + x * b) / 4294967296) hr.tail (ho.append (Ok.single (by omega) (by omega))) (by omega) (by omega) (by simp; omega) (by simp; omega);refine ⟨r, ?_, ?_, g3, by simp at g4 ⊢; omega⟩
  · refine Ev.step (fun k => by rw [nat_step.l0, if_pos (by simp; omega), if_pos (by omega), if_pos (by simp; omega), if_pos (by omega), rd_mid, hc, w64 (by omega) (by omega)]) ?_;rw [snoc_cons pre rest x, ← len_snoc pre x];exact g1
  rw [g2, val_append];simp only [val, List.length_append, List.length_cons, List.length_nil, Nat.zero_add, Int.pow_add, Int.pow_one];have e : (m + x * b) % 4294967296 + 4294967296 * ((m + x * b) / 4294967296) = m + x * b := Int.emod_add_mul_ediv _ _;generalize (m + x * b) % 4294967296 = u at e ⊢;generalize (m + x * b) / 4294967296 = v at e ⊢;grind
theorem step_ev (l : List Int) (b m : Int) (hok : Ok l) (hb0 : 0 ≤ b) (hb : b < 4294967296) (hm0 : 0 ≤ m) (hm : m < 4294967296) (hlen : l.length ≤ 17592186044416) :
    ∃ r, Ev (fun k => nat_step.f k l b m) r ∧ val r = val l * b + m ∧ Norm r ∧ r.length ≤ l.length + 1 := by
  obtain ⟨r, h1, h2, h3, h4⟩ := step_l0 b hb0 hb l [] [] m hok Ok.nil hm0 hm rfl (by simpa using hlen);refine ⟨r, ?_, by simpa [val] using h2, h3, by simpa using h4⟩;refine Ev.congr (fun k => by rw [nat_step.f, w64 (by omega) (by omega), if_pos (by omega), if_pos (by omega)]) ?_
  simpa using h1
end Go.Proofs.YtmmonhgfnmeieaaGreatDoor.Th
/- Limbs, further: sums, differences, products, which is less, division by a small one. -/
namespace Go.Proofs.YtmmonhgfnmeieaaGreatDoor.Th
open Go Go.RowKit Go.ZPWords Go.Proofs.YtmmonhgfnmeieaaGreatDoor.Str Go.Proofs.YtmmonhgfnmeieaaGreatDoor.PA
theorem drop_cons {b t : List Int} {i : Nat} {y : Int} (h : b.drop i = y :: t) : i < b.length ∧ rd b (i : Int) = y ∧ b.drop (i + 1) = t := by
 have h1 : i < b.length := by
  by_cases h2 : i < b.length
  · exact h2
  rw [List.drop_eq_nil_of_le (by omega)] at h; cases h
 rw [List.drop_eq_getElem_cons h1] at h;injection h with h2 h3;refine ⟨h1, ?_, h3⟩;unfold rd;simp [List.getD, h1, h2]
theorem drop_nil {b : List Int} {i : Nat} (h : b.drop i = []) : b.length ≤ i ∧ b.drop (i + 1) = [] := by
  have := List.drop_eq_nil_iff.1 h;exact ⟨this, List.drop_eq_nil_of_le (by omega)⟩
theorem Ok.drop {b : List Int} (h : Ok b) (i : Nat) : Ok (b.drop i) := fun y hy => h y (List.mem_of_mem_drop hy)
/-! ### add -/
theorem add_l100 : ∀ (k : Nat) (x1 x5 : List Int) (x6 : Int) (x20 : List Int) (x21 x22 : Int), nat_add.l100 k x1 x5 x6 x20 x21 x22 = nat_add.l0 k x1 x5 x6 x20 x21 x22
  | 0, _, _, _, _, _, _ => rfl
  | k + 1, x1, x5, x6, x20, x21, x22 => by
    rw [nat_add.l100, nat_add.l0];simp only [add_l100 k]
theorem add_l0 (b : List Int) (hb : Ok b) (rest : List Int) : ∀ (pre brest out : List Int) (c : Int), b.drop pre.length = brest → brest.length ≤ rest.length → Ok rest → Ok out → 0 ≤ c → c < 4294967296 → out.length = pre.length → (pre ++ rest).length ≤ 17592186044416 →
    ∃ r, Ev (fun k => nat_add.l0 k b out c (pre ++ rest) ((pre ++ rest).length : Int) (pre.length : Int)) r ∧ val r = val out + 4294967296 ^ out.length * (val rest + val brest + c) ∧ Norm r ∧ r.length ≤ (pre ++ rest).length + 1 := by
 induction rest with
 | nil =>
  intro pre brest out m hd hbl hr ho hm0 hm hl hlen;have hbe : brest = [] := List.eq_nil_of_length_eq_zero (by simpa using hbl);subst hbe;obtain ⟨r, h1, h2, h3, h4⟩ := trim_ev (out ++ [m]) (ho.append (Ok.single hm0 hm)) (by simp at hlen ⊢; omega);refine ⟨r, ?_, ?_, h3, by simp at h4 ⊢; omega⟩
  · refine Ev.step (fun k => by rw [nat_add.l0, if_neg (by simp), if_pos (by simp at hlen; omega), show m % 4294967296 = m by omega]) ?_;exact Ev.bind h1 (Ev.now _)
  rw [h2, val_append]; simp [val]
 | cons x rest ih =>
  intro pre brest out c hd hbl hr ho hm0 hm hl hlen;have hx := hr.head;have hlen' : pre.length + rest.length + 1 ≤ 17592186044416 := by simp at hlen; omega
  have hpl : (pre ++ [x]).length = pre.length + 1 := by simp
  cases brest with
  | nil =>
   obtain ⟨hd1, hd2⟩ := drop_nil hd
   have hc : IntKind.u64.wrap (c + (IntKind.u64.wrap x)) = c + x := by
    rw [wu64 (x := x) (by omega) (by omega), wu64 (by omega) (by omega)]
   obtain ⟨r, g1, g2, g3, g4⟩ := ih (pre ++ [x]) [] (out ++ [(c + x) % 4294967296]) ((c + x) / 4294967296) (by rw [hpl]; exact hd2) (by simp) hr.tail (ho.append (Ok.single (by omega) (by omega))) (by omega) (by omega) (by simp; omega) (by simp; omega);refine ⟨r, ?_, ?_, g3, by simp at g4 ⊢; omega⟩
   · refine Ev.step (fun k => by rw [nat_add.l0, if_pos (by simp; omega), if_pos (by omega), if_pos (by simp; omega), if_neg (by omega), if_pos (by omega), rd_mid, hc, w64 (by omega) (by omega)]) ?_;rw [snoc_cons pre rest x, ← len_snoc pre x];exact g1
   rw [g2, val_append];simp only [val, List.length_append, List.length_cons, List.length_nil, Nat.zero_add, Int.pow_add, Int.pow_one];have e : (c + x) % 4294967296 + 4294967296 * ((c + x) / 4294967296) = c + x := Int.emod_add_mul_ediv _ _;generalize (c + x) % 4294967296 = u at e ⊢;generalize (c + x) / 4294967296 = v at e ⊢;grind
  | cons y brest =>
   obtain ⟨hd1, hd2, hd3⟩ := drop_cons hd;have hy : 0 ≤ y ∧ y < 4294967296 := hb y (List.mem_of_mem_drop (i := pre.length) (by rw [hd]; exact List.mem_cons_self))
   have hc : IntKind.u64.wrap ((IntKind.u64.wrap (c + (IntKind.u64.wrap x))) + (IntKind.u64.wrap y)) = c + x + y := by
    rw [wu64 (x := x) (by omega) (by omega), wu64 (x := y) (by omega) (by omega), wu64 (x := c + x) (by omega) (by omega), wu64 (by omega) (by omega)]
   obtain ⟨r, g1, g2, g3, g4⟩ := ih (pre ++ [x]) brest (out ++ [(c + x + y) % 4294967296]) ((c + x + y) / 4294967296) (by rw [hpl]; exact hd3) (by simp at hbl; omega) hr.tail (ho.append (Ok.single (by omega) (by omega))) (by omega) (by omega) (by simp; omega) (by simp; omega);refine ⟨r, ?_, ?_, g3, by simp at g4 ⊢; omega⟩
   · refine Ev.step (fun k => by rw [nat_add.l0, if_pos (by simp; omega), if_pos (by omega), if_pos (by simp; omega), if_pos (by omega), if_pos (by omega), rd_mid, hd2, hc, w64 (by omega) (by omega)]) ?_;rw [snoc_cons pre rest x, ← len_snoc pre x];exact g1
   rw [g2, val_append];simp only [val, List.length_append, List.length_cons, List.length_nil, Nat.zero_add, Int.pow_add, Int.pow_one];have e : (c + x + y) % 4294967296 + 4294967296 * ((c + x + y) / 4294967296) = c + x + y := Int.emod_add_mul_ediv _ _;generalize (c + x + y) % 4294967296 = u at e ⊢;generalize (c + x + y) / 4294967296 = v at e ⊢;grind
theorem add_ev (a b : List Int) (ha : Ok a) (hb : Ok b) (hla : a.length ≤ 17592186044416) (hlb : b.length ≤ 17592186044416) :
    ∃ r, Ev (fun k => nat_add.f k a b) r ∧ val r = val a + val b ∧ Norm r ∧ r.length ≤ max a.length b.length + 1 := by
 by_cases h : (a.length : Int) < (b.length : Int)
 · obtain ⟨r, h1, h2, h3, h4⟩ := add_l0 a ha b [] a [] 0 rfl (by omega) hb Ok.nil (by omega) (by omega) rfl (by simpa using hlb);refine ⟨r, ?_, by simp [val] at h2; omega, h3, by simp at h4; omega⟩;refine Ev.congr (fun k => by rw [nat_add.f, if_pos h, w64 (by omega) (by omega), if_pos (by omega), if_pos (by omega)]) ?_;simpa using h1
 obtain ⟨r, h1, h2, h3, h4⟩ := add_l0 b hb a [] b [] 0 rfl (by omega) ha Ok.nil (by omega) (by omega) rfl (by simpa using hla);refine ⟨r, ?_, by simp [val] at h2; omega, h3, by simp at h4; omega⟩;refine Ev.congr (fun k => by rw [nat_add.f, if_neg h, w64 (by omega) (by omega), if_pos (by omega), if_pos (by omega), add_l100]) ?_;simpa using h1
/-! ### sub -/
theorem sub_l0 (b : List Int) (hb : Ok b) (rest : List Int) : ∀ (p brest : List Int) (c : Int), b.drop p.length = brest → brest.length ≤ rest.length → Ok p → Ok rest → 0 ≤ c → c ≤ 1 → val brest + c ≤ val rest → (p ++ rest).length ≤ 17592186044416 →
    ∃ r, Ev (fun k => nat_sub.l0 k b (p ++ rest) c ((p ++ rest).length : Int) (p.length : Int)) r ∧ val r = val p + 4294967296 ^ p.length * (val rest - val brest - c) ∧ Norm r ∧ r.length ≤ (p ++ rest).length := by
 induction rest with
 | nil =>
  intro p brest c hd hbl hp hr hm0 hm hle hlen;have hbe : brest = [] := List.eq_nil_of_length_eq_zero (by simpa using hbl);subst hbe;simp only [val] at hle;have hc : c = 0 := by omega
  subst hc;obtain ⟨r, h1, h2, h3, h4⟩ := trim_ev p hp (by simp at hlen ⊢; omega);refine ⟨r, ?_, ?_, h3, by simpa using h4⟩
  · refine Ev.step (fun k => by rw [nat_sub.l0, if_neg (by simp), List.append_nil]) ?_;exact Ev.bind h1 (Ev.now _)
  rw [h2]; simp [val]
 | cons x rest ih =>
  intro p brest c hd hbl hp hr hm0 hm hle hlen;have hx := hr.head;have hlen' : p.length + rest.length + 1 ≤ 17592186044416 := by simp at hlen; omega
  have hpl : ∀ z : Int, (p ++ [z]).length = p.length + 1 := by simp
  have hil : ((p ++ x :: rest).length : Int) = (p.length : Int) + rest.length + 1 := by simp; omega
  have hset : ∀ z : Int, (p ++ x :: rest).set ((p.length : Int)).toNat z = (p ++ [z]) ++ rest := fun z => by rw [set_mid, snoc_cons]
  have hln : ∀ z : Int, ((p ++ x :: rest).length : Int) = (((p ++ [z]) ++ rest).length : Int) := fun z => by simp
  have hrs := val_nonneg hr.tail
  cases brest with
  | nil =>
   obtain ⟨hd1, hd2⟩ := drop_nil hd;simp only [val] at hle;by_cases ht : x < c
   · have he : (IntKind.u64.wrap ((IntKind.u64.wrap ((IntKind.u64.wrap x) + (1 * 4294967296))) - c)) % 4294967296 = x + 4294967296 - c := by
      rw [wu64 (x := x) (by omega) (by omega), wu64 (x := x + 1 * 4294967296) (by omega) (by omega), wu64 (by omega) (by omega)] <;> omega
     obtain ⟨r, g1, g2, g3, g4⟩ := ih (p ++ [x + 4294967296 - c]) [] 1 (by rw [hpl]; exact hd2) (by simp) (hp.append (Ok.single (by omega) (by omega))) hr.tail (by omega) (by omega) (by simp only [val]; omega) (by simp; omega);refine ⟨r, ?_, ?_, g3, by simp at g4 ⊢; omega⟩
     · refine Ev.step (fun k => by rw [nat_sub.l0, if_pos (by omega), if_neg (by omega), if_pos (by omega), if_pos (by omega), rd_mid, if_pos (by rw [wu64 (x := x) (by omega) (by omega)]; exact ht), he, w64 (by omega) (by omega), hset, hln (x + 4294967296 - c), ← len_snoc p (x + 4294967296 - c)]) g1
     rw [g2, val_append];simp only [val, List.length_append, List.length_cons, List.length_nil, Nat.zero_add, Int.pow_add, Int.pow_one];grind
   have he : (IntKind.u64.wrap ((IntKind.u64.wrap ((IntKind.u64.wrap x) + (0 * 4294967296))) - c)) % 4294967296 = x - c := by
    rw [wu64 (x := x) (by omega) (by omega), wu64 (x := x + 0 * 4294967296) (by omega) (by omega), wu64 (by omega) (by omega)] <;> omega
   obtain ⟨r, g1, g2, g3, g4⟩ := ih (p ++ [x - c]) [] 0 (by rw [hpl]; exact hd2) (by simp) (hp.append (Ok.single (by omega) (by omega))) hr.tail (by omega) (by omega) (by simp only [val]; omega) (by simp; omega);refine ⟨r, ?_, ?_, g3, by simp at g4 ⊢; omega⟩
   · refine Ev.step (fun k => by rw [nat_sub.l0, if_pos (by omega), if_neg (by omega), if_pos (by omega), if_pos (by omega), rd_mid, if_neg (by rw [wu64 (x := x) (by omega) (by omega)]; exact ht), he, w64 (by omega) (by omega), hset, hln (x - c), ← len_snoc p (x - c)]) g1
   rw [g2, val_append];simp only [val, List.length_append, List.length_cons, List.length_nil, Nat.zero_add, Int.pow_add, Int.pow_one];grind
  | cons y brest =>
   obtain ⟨hd1, hd2, hd3⟩ := drop_cons hd;have hy : 0 ≤ y ∧ y < 4294967296 := hb y (List.mem_of_mem_drop (i := p.length) (by rw [hd]; exact List.mem_cons_self));have hbr : Ok brest := by rw [← hd3]; exact hb.drop _
   have hbs := val_nonneg hbr;have hw : IntKind.u64.wrap (c + (IntKind.u64.wrap y)) = c + y := by rw [wu64 (x := y) (by omega) (by omega), wu64 (by omega) (by omega)]
   have hbl' : brest.length ≤ rest.length := by simp at hbl; omega
   simp only [val] at hle;by_cases ht : x < c + y
   · have he : (IntKind.u64.wrap ((IntKind.u64.wrap ((IntKind.u64.wrap x) + (1 * 4294967296))) - (c + y))) % 4294967296 = x + 4294967296 - (c + y) := by
      rw [wu64 (x := x) (by omega) (by omega), wu64 (x := x + 1 * 4294967296) (by omega) (by omega), wu64 (by omega) (by omega)] <;> omega
     obtain ⟨r, g1, g2, g3, g4⟩ := ih (p ++ [x + 4294967296 - (c + y)]) brest 1 (by rw [hpl]; exact hd3) hbl' (hp.append (Ok.single (by omega) (by omega))) hr.tail (by omega) (by omega) (by omega) (by simp; omega);refine ⟨r, ?_, ?_, g3, by simp at g4 ⊢; omega⟩
     · refine Ev.step (fun k => by rw [nat_sub.l0, if_pos (by omega), if_pos (by omega), if_pos (by omega), if_pos (by omega), rd_mid, hd2, hw, if_pos (by rw [wu64 (x := x) (by omega) (by omega)]; exact ht), he, w64 (by omega) (by omega), hset, hln (x + 4294967296 - (c + y)), ← len_snoc p (x + 4294967296 - (c + y))]) g1
     rw [g2, val_append];simp only [val, List.length_append, List.length_cons, List.length_nil, Nat.zero_add, Int.pow_add, Int.pow_one];grind
   have he : (IntKind.u64.wrap ((IntKind.u64.wrap ((IntKind.u64.wrap x) + (0 * 4294967296))) - (c + y))) % 4294967296 = x - (c + y) := by
    rw [wu64 (x := x) (by omega) (by omega), wu64 (x := x + 0 * 4294967296) (by omega) (by omega), wu64 (by omega) (by omega)] <;> omega
   obtain ⟨r, g1, g2, g3, g4⟩ := ih (p ++ [x - (c + y)]) brest 0 (by rw [hpl]; exact hd3) hbl' (hp.append (Ok.single (by omega) (by omega))) hr.tail (by omega) (by omega) (by omega) (by simp; omega);refine ⟨r, ?_, ?_, g3, by simp at g4 ⊢; omega⟩
   · refine Ev.step (fun k => by rw [nat_sub.l0, if_pos (by omega), if_pos (by omega), if_pos (by omega), if_pos (by omega), rd_mid, hd2, hw, if_neg (by rw [wu64 (x := x) (by omega) (by omega)]; exact ht), he, w64 (by omega) (by omega), hset, hln (x - (c + y)), ← len_snoc p (x - (c + y))]) g1
   rw [g2, val_append];simp only [val, List.length_append, List.length_cons, List.length_nil, Nat.zero_add, Int.pow_add, Int.pow_one];grind
theorem clone_ev (l : List Int) (h : l.length < 35184372088832) : nat_limbs_uint32.f l = some l := by rw [nat_limbs_uint32.f, if_pos h]
theorem sub_ev (a b : List Int) (ha : Ok a) (hb : Ok b) (hl : b.length ≤ a.length) (hle : val b ≤ val a) (hla : a.length ≤ 17592186044416) :
    ∃ r, Ev (fun k => nat_sub.f k a b) r ∧ val r = val a - val b ∧ Norm r ∧ r.length ≤ a.length := by
  obtain ⟨r, h1, h2, h3, h4⟩ := sub_l0 b hb a [] b 0 rfl hl Ok.nil ha (by omega) (by omega) (by omega) (by simpa using hla);refine ⟨r, ?_, by simp [val] at h2; omega, h3, by simpa using h4⟩;refine Ev.congr (fun k => by rw [nat_sub.f, clone_ev a (by omega), Option.bind_some]) ?_
  simpa using h1
end Go.Proofs.YtmmonhgfnmeieaaGreatDoor.Th
/- Limbs, further: products, which is less, division by a small one, a shift. -/
namespace Go.Proofs.YtmmonhgfnmeieaaGreatDoor.Th
open Go Go.RowKit Go.ZPWords Go.Proofs.YtmmonhgfnmeieaaGreatDoor.Str Go.Proofs.YtmmonhgfnmeieaaGreatDoor.PA
/-! ### mul -/
theorem mul_l1 (b a : List Int) (hb : Ok b) (x i : Int) (hx0 : 0 ≤ x) (hx : x < 4294967296) (hi0 : 0 ≤ i) (hi : i ≤ 17592186044416) (hbl : b.length ≤ 17592186044416) (zs : List Int) (z : Int) (hzl : zs.length ≤ 17592186044416) (brest : List Int) :
    ∀ (q m : List Int) (kk : Nat) (c : Int), b.drop kk = brest → kk + brest.length = b.length → (q.length : Int) = i + kk → m.length = brest.length → Ok m → 0 ≤ c → c < 4294967296 →
    ∃ m', m'.length = brest.length + 1 ∧ Ok m' ∧ val m' = val m + x * val brest + c ∧
      ∀ r, Ev (fun k => nat_mul.l0 k b (q ++ m' ++ zs) a (a.length : Int) (wrap64 (i + 1))) r → Ev (fun k => nat_mul.l1 k b (q ++ m ++ z :: zs) i x c a (a.length : Int) i b (b.length : Int) (kk : Int)) r := by
 induction brest with
 | nil =>
  intro q m kk c hd hkl hq hm hmo hc0 hc;have hme : m = [] := List.eq_nil_of_length_eq_zero (by simpa using hm);subst hme;simp at hkl;refine ⟨[c], rfl, Ok.single hc0 hc, by simp [val], fun r h => ?_⟩;have hw : wrap64 (i + (b.length : Int)) = (q.length : Int) := by rw [w64 (by omega) (by omega)]; omega
  refine Ev.step (fun k => by rw [nat_mul.l1, if_neg (by omega), hw, if_pos (by omega), if_pos (by simp; omega), List.append_nil, set_mid, show c % 4294967296 = c by omega]) ?_;simpa using h
 | cons y brest ih =>
  intro q m kk c hd hkl hq hm hmo hc0 hc
  cases m with
  | nil => simp at hm
  | cons u m =>
   obtain ⟨hd1, hd2, hd3⟩ := drop_cons hd;have hy : 0 ≤ y ∧ y < 4294967296 := hb y (List.mem_of_mem_drop (i := kk) (by rw [hd]; exact List.mem_cons_self));have hu := hmo.head;have h0 : 0 ≤ x * y := Int.mul_nonneg hx0 hy.1
   have h1 : x * y ≤ 4294967295 * 4294967295 := by
    have := Int.mul_le_mul (a := x) (b := y) (c := 4294967295) (d := 4294967295) (by omega) (by omega) hy.1 (by omega);omega
   have hcur : IntKind.u64.wrap (c + (IntKind.u64.wrap ((IntKind.u64.wrap u) + (IntKind.u64.wrap ((IntKind.u64.wrap x) * (IntKind.u64.wrap y)))))) = c + u + x * y := by
    rw [wu64 (x := u) (by omega) (by omega), wu64 (x := x) (by omega) (by omega), wu64 (x := y) (by omega) (by omega), wu64 (x := x * y) (by omega) (by omega), wu64 (x := u + x * y) (by omega) (by omega), wu64 (by omega) (by omega)];omega
   simp only [List.length_cons] at hkl hm;obtain ⟨m', g1, g2, g3, g4⟩ := ih (q ++ [(c + u + x * y) % 4294967296]) m (kk + 1) ((c + u + x * y) / 4294967296) hd3 (by omega) (by simp; omega) (by omega) hmo.tail (by omega) (by omega);refine ⟨(c + u + x * y) % 4294967296 :: m', by simp [g1], Ok.cons (by omega) (by omega) g2, ?_, fun r h => ?_⟩
   · simp only [val];rw [g3];have e : (c + u + x * y) % 4294967296 + 4294967296 * ((c + u + x * y) / 4294967296) = c + u + x * y := Int.emod_add_mul_ediv _ _;generalize (c + u + x * y) % 4294967296 = s at e ⊢;generalize (c + u + x * y) / 4294967296 = t at e ⊢;grind
   have hw : wrap64 (i + (kk : Int)) = (q.length : Int) := by rw [w64 (by omega) (by omega)]; omega
   have hap : q ++ (u :: m) ++ z :: zs = q ++ u :: (m ++ z :: zs) := by simp
   have hg := g4 r (by simpa using h);refine Ev.step (fun k => by rw [nat_mul.l1, if_pos (by omega), if_pos (by omega), if_pos (by omega), hw, if_pos (by omega), if_pos (by simp; omega), hap, rd_mid, hd2, hcur, set_mid, w64 (by omega) (by omega)]) ?_;have e1 : q ++ (c + u + x * y) % 4294967296 :: (m ++ z :: zs) = q ++ [(c + u + x * y) % 4294967296] ++ m ++ z :: zs := by simp
   rw [e1];exact hg
theorem mul_l0 (b : List Int) (hb : Ok b) (hbl : b.length ≤ 8796093022208) (arest : List Int) : ∀ (apre q m : List Int), Ok arest → q.length = apre.length → m.length = b.length → Ok q → Ok m → (apre ++ arest).length ≤ 8796093022208 →
    ∃ r, Ev (fun k => nat_mul.l0 k b (q ++ m ++ List.replicate arest.length 0) (apre ++ arest) ((apre ++ arest).length : Int) (apre.length : Int)) r ∧ val r = val q + 4294967296 ^ q.length * (val m + val arest * val b) ∧ Norm r ∧ r.length ≤ (apre ++ arest).length + b.length := by
 induction arest with
 | nil =>
  intro apre q m ha hq hm hqo hmo hlen;simp only [List.append_nil] at hlen;obtain ⟨r, h1, h2, h3, h4⟩ := trim_ev (q ++ m) (hqo.append hmo) (by simp; omega);refine ⟨r, ?_, ?_, h3, by simp at h4 ⊢; omega⟩
  · refine Ev.step (fun k => by rw [nat_mul.l0, if_neg (by simp), List.length_nil, List.replicate_zero, List.append_nil]) ?_;exact Ev.bind h1 (Ev.now _)
  rw [h2, val_append]; simp [val]
 | cons x arest ih =>
  intro apre q m ha hq hm hqo hmo hlen;have hx := ha.head;have hlen' : apre.length + arest.length + 1 ≤ 8796093022208 := by simp at hlen; omega
  obtain ⟨m', g1, g2, g3, g4⟩ := mul_l1 b (apre ++ x :: arest) hb x (apre.length : Int) hx.1 hx.2 (by omega) (by omega) (by omega) (List.replicate arest.length 0) 0 (by simp; omega) b q m 0 0 rfl (by omega) (by omega) hm hmo (by omega) (by omega)
  obtain ⟨s, m'', rfl⟩ : ∃ s m'', m' = s :: m'' := by
   cases m' with
   | nil => simp at g1
   | cons s m'' => exact ⟨s, m'', rfl⟩
  have hs := g2.head;obtain ⟨r, r1, r2, r3, r4⟩ := ih (apre ++ [x]) (q ++ [s]) m'' ha.tail (by simp; omega) (by simpa using g1) (hqo.append (Ok.single hs.1 hs.2)) g2.tail (by simp; omega);have hln : (apre ++ [x]) ++ arest = apre ++ x :: arest := by simp
  rw [hln] at r1 r4;refine ⟨r, ?_, ?_, r3, by simp at r4 ⊢; omega⟩
  · refine Ev.step (fun k => by rw [nat_mul.l0, if_pos (by simp; omega), if_pos (by omega), if_pos (by simp; omega), rd_mid]) ?_;have hz : q ++ m ++ List.replicate (x :: arest).length 0 = q ++ m ++ 0 :: List.replicate arest.length 0 := by simp [List.replicate_succ]
    rw [hz];refine g4 r ?_;rw [w64 (by omega) (by omega), ← len_snoc apre x];simpa using r1
  rw [r2, val_append];simp only [val, List.length_append, List.length_cons, List.length_nil, Nat.zero_add, Int.pow_add, Int.pow_one] at g3 ⊢;grind
theorem mul_ev (a b : List Int) (ha : Ok a) (hb : Ok b) (hla : a.length ≤ 8796093022208) (hlb : b.length ≤ 8796093022208) :
    ∃ r, Ev (fun k => nat_mul.f k a b) r ∧ val r = val a * val b ∧ Norm r ∧ r.length ≤ a.length + b.length := by
 obtain ⟨r, h1, h2, h3, h4⟩ := mul_l0 b hb hlb a [] [] (List.replicate b.length 0) ha rfl (by simp) Ok.nil (Ok.zeros _) (by simpa using hla);refine ⟨r, ?_, by simpa [val, val_zeros] using h2, h3, by simpa using h4⟩;refine Ev.congr (fun k => by rw [nat_mul.f, w64 (by omega) (by omega), if_pos (by omega), if_pos (by omega)]) ?_
 have e : List.replicate ((a.length : Int) + (b.length : Int)).toNat (0 : Int) = [] ++ List.replicate b.length 0 ++ List.replicate a.length 0 := by
  rw [List.nil_append, List.replicate_append_replicate];congr 1;omega
 rw [e];simpa using h1
/-! ### compare -/
def cmp (x y : Int) : Int := if x < y then -1 else if y < x then 1 else 0
theorem cmp_l0 (s t : List Int) (n : Nat) : ∀ (p q : List Int), p.length = n → q.length = n → Ok p → Ok q → (p ++ s).length ≤ 17592186044416 →
    Ev (fun k => nat_compare.l0 k (p ++ s) (q ++ t) ((n : Int) - 1)) (cmp (val p) (val q)) := by
 induction n generalizing s t with
 | zero =>
  intro p q hp hq _ _ _;have h1 := List.eq_nil_of_length_eq_zero hp;have h2 := List.eq_nil_of_length_eq_zero hq;subst h1; subst h2;exact Ev.step (fun k => by rw [nat_compare.l0, if_neg (by omega)]; rfl) (Ev.now _)
 | succ n ih =>
  intro p q hp hq hpo hqo hlen;rcases eq_of_snoc p with h | ⟨p, x, rfl⟩
  · subst h; simp at hp
  rcases eq_of_snoc q with h | ⟨q, y, rfl⟩
  · subst h; simp at hq
  have hp' : p.length = n := by simp at hp; exact hp
  have hq' : q.length = n := by simp at hq; exact hq
  have hi : ((n + 1 : Nat) : Int) - 1 = (p.length : Int) := by omega
  have hi2 : ((p.length : Nat) : Int) = (q.length : Int) := by omega
  have ep : p ++ [x] ++ s = p ++ x :: s := by simp
  have eq' : q ++ [y] ++ t = q ++ y :: t := by simp
  have hln : p.length < 17592186044416 := by simp at hlen; omega
  have hx := hpo.right.head;have hy := hqo.right.head;rw [hi, ep, eq'];have rx : rd (p ++ x :: s) (p.length : Int) = x := rd_mid _ _ _;have ry : rd (q ++ y :: t) (p.length : Int) = y := by rw [hi2]; exact rd_mid _ _ _
  by_cases hxy : x = y
  · subst hxy
    have hv : cmp (val (p ++ [x])) (val (q ++ [x])) = cmp (val p) (val q) := by
     rw [val_append, val_append, hp', hq'];unfold cmp;generalize (4294967296 : Int) ^ n * val [x] = w;by_cases h1 : val p < val q
     · rw [if_pos h1, if_pos (by omega)]
     rw [if_neg h1, if_neg (by omega)];by_cases h2 : val q < val p
     · rw [if_pos h2, if_pos (by omega)]
     rw [if_neg h2, if_neg (by omega)]
    rw [hv];refine Ev.step (fun k => by rw [nat_compare.l0, if_pos (by omega), if_pos (by omega), if_pos (by simp; omega), if_pos (by simp; omega), rx, ry, if_pos rfl, w64 (by omega) (by omega), hp']) ?_;exact ih (x :: s) (x :: t) p q hp' hq' hpo.left hqo.left (by simp at hlen ⊢; omega)
  have h1 := val_lt hpo.left;have h2 := val_lt hqo.left;have h3 := val_nonneg hpo.left;have h4 := val_nonneg hqo.left;rw [hp'] at h1;rw [hq'] at h2;have hpw := pow_pos' n;have vp : val (p ++ [x]) = val p + 4294967296 ^ n * x := by rw [val_append, hp']; simp [val]
  have vq : val (q ++ [y]) = val q + 4294967296 ^ n * y := by rw [val_append, hq']; simp [val]
  refine Ev.step (fun k => by rw [nat_compare.l0, if_pos (by omega), if_pos (by omega), if_pos (by simp; omega), if_pos (by simp; omega), rx, ry, if_neg hxy]) ?_;by_cases hlt : x < y
  · have h5 : (4294967296 : Int) ^ n * (x + 1) ≤ 4294967296 ^ n * y := Int.mul_le_mul_of_nonneg_left (by omega) (by omega);rw [Int.mul_add, Int.mul_one] at h5;have : cmp (val (p ++ [x])) (val (q ++ [y])) = -1 := by unfold cmp; rw [vp, vq, if_pos (by omega)]
    rw [this];exact Ev.congr (fun k => by rw [if_pos hlt]) (Ev.now _)
  have h5 : (4294967296 : Int) ^ n * (y + 1) ≤ 4294967296 ^ n * x := Int.mul_le_mul_of_nonneg_left (by omega) (by omega);rw [Int.mul_add, Int.mul_one] at h5;have : cmp (val (p ++ [x])) (val (q ++ [y])) = 1 := by unfold cmp; rw [vp, vq, if_neg (by omega), if_pos (by omega)]
  rw [this];exact Ev.congr (fun k => by rw [if_neg hlt]) (Ev.now _)
theorem cmp_ev (a b : List Int) (ha : Norm a) (hb : Norm b) (hla : a.length ≤ 17592186044416) : Ev (fun k => nat_compare.f k a b) (cmp (val a) (val b)) := by
 by_cases hl : (a.length : Int) = (b.length : Int)
 · have h := cmp_l0 [] [] a.length a b rfl (by omega) ha.ok hb.ok (by simpa using hla);refine Ev.congr (fun k => by rw [nat_compare.f, if_pos hl, w64 (by omega) (by omega)]) ?_;simpa using h
 by_cases hlt : (a.length : Int) < (b.length : Int)
 · have h1 := val_lt ha.ok;have h2 := hb.ge (by intro h; subst h; simp only [List.length_nil] at hlt; omega);have h3 := pow_mono (m := a.length) (n := b.length - 1) (by omega);have : cmp (val a) (val b) = -1 := by unfold cmp; rw [if_pos (by omega)]
   rw [this];exact Ev.congr (fun k => by rw [nat_compare.f, if_neg hl, if_pos hlt]) (Ev.now _)
 have h1 := val_lt hb.ok;have h2 := ha.ge (by intro h; subst h; simp only [List.length_nil] at hlt hl; omega);have h3 := pow_mono (m := b.length) (n := a.length - 1) (by omega);have : cmp (val a) (val b) = 1 := by unfold cmp; rw [if_neg (by omega), if_pos (by omega)]
 rw [this];exact Ev.congr (fun k => by rw [nat_compare.f, if_neg hl, if_neg hlt]) (Ev.now _)
/-! ### small -/
theorem or_join {a x : Int} (ha0 : 0 ≤ a) (ha : a < 4294967296) (hx0 : 0 ≤ x) (hx : x < 4294967296) : Go.bits .or .u64 (IntKind.u64.wrap (a * 4294967296)) (IntKind.u64.wrap x) = a * 4294967296 + x := by
  rw [wu64 (x := a * 4294967296) (by omega) (by omega), wu64 (x := x) (by omega) (by omega)];exact bits_join .u64 64 (by decide) (fun n h0 h1 => wu64 h0 (by simpa using h1)) 32 _ _ (by omega) (by simp) (by simp; omega) hx0 (by simpa using hx) (by simp; omega)
theorem small_l0 (d : Int) (hd0 : 0 < d) (hd : d < 4294967296) (n : Nat) : ∀ (p q : List Int) (l : Int), p.length = n → Ok p → Ok q → 0 ≤ l → l < d → (p ++ q).length ≤ 17592186044416 →
    ∃ r l' v, Ev (fun k => nat_small.l0 k d (p ++ q) l ((n : Int) - 1)) (r, l') ∧ val p + 4294967296 ^ n * l = v * d + l' ∧ val r = v + 4294967296 ^ n * val q ∧ 0 ≤ l' ∧ l' < d ∧ Norm r ∧ r.length ≤ (p ++ q).length := by
 induction n with
 | zero =>
  intro p q l hp hpo hqo hl0 hl hlen;have h1 := List.eq_nil_of_length_eq_zero hp;subst h1;obtain ⟨r, h1, h2, h3, h4⟩ := trim_ev q hqo (by simp at hlen; omega);refine ⟨r, l, 0, ?_, by simp [val], by simp [h2], hl0, hl, h3, by simpa using h4⟩;refine Ev.step (fun k => by rw [nat_small.l0, if_neg (by omega), List.nil_append]) ?_;exact Ev.bind h1 (Ev.now _)
 | succ n ih =>
  intro p q l hp hpo hqo hl0 hl hlen;rcases eq_of_snoc p with h | ⟨p, x, rfl⟩
  · subst h; simp at hp
  have hp' : p.length = n := by simp at hp; exact hp
  have hx := hpo.right.head;have hi : ((n + 1 : Nat) : Int) - 1 = (p.length : Int) := by omega
  have ep : p ++ [x] ++ q = p ++ x :: q := by simp
  have hln : p.length < 17592186044416 := by simp at hlen; omega
  have hq1 : (l * 4294967296 + x) / d < 4294967296 := by
   apply Int.ediv_lt_of_lt_mul hd0;have : l + 1 ≤ d := hl;have h5 : (l + 1) * 4294967296 ≤ d * 4294967296 := Int.mul_le_mul_of_nonneg_right this (by omega);omega
  have hq0 : 0 ≤ (l * 4294967296 + x) / d := Int.ediv_nonneg (by omega) (by omega);have hm0 : 0 ≤ (l * 4294967296 + x) % d := Int.emod_nonneg _ (by omega);have hm1 : (l * 4294967296 + x) % d < d := Int.emod_lt_of_pos _ hd0;obtain ⟨r, l', v, g1, g2, g3, g4, g5, g6, g7⟩ := ih p ((l * 4294967296 + x) / d :: q) ((l * 4294967296 + x) % d) hp' hpo.left (Ok.cons hq0 hq1 hqo) hm0 hm1 (by simp at hlen ⊢; omega);refine ⟨r, l', v + 4294967296 ^ n * ((l * 4294967296 + x) / d), ?_, ?_, ?_, g4, g5, g6, by simp at g7 ⊢; omega⟩
  · rw [hi, ep];refine Ev.step (fun k => by rw [nat_small.l0, if_pos (by omega), if_pos (by omega), if_pos (by simp; omega), if_neg (by omega), rd_mid, or_join hl0 (by omega) hx.1 hx.2, Int.tdiv_eq_ediv_of_nonneg (by omega), Int.tmod_eq_emod_of_nonneg (by omega), wu64 hq0 (by omega), show ((l * 4294967296 + x) / d) % 4294967296 = (l * 4294967296 + x) / d from Int.emod_eq_of_lt hq0 hq1, set_mid, w64 (by omega) (by omega), hp']) g1
  · rw [val_append, hp'];have e : (l * 4294967296 + x) % d + d * ((l * 4294967296 + x) / d) = l * 4294967296 + x := Int.emod_add_mul_ediv _ _;simp only [val, Int.pow_succ];generalize (l * 4294967296 + x) % d = s at *;generalize (l * 4294967296 + x) / d = t at *;grind
  rw [g3];simp only [val, Int.pow_succ];grind
theorem small_ev (a : List Int) (d : Int) (ha : Ok a) (hd0 : 0 < d) (hd : d < 4294967296) (hla : a.length ≤ 17592186044416) :
    ∃ r l, Ev (fun k => nat_small.f k a d) (r, l) ∧ val a = val r * d + l ∧ 0 ≤ l ∧ l < d ∧ Norm r ∧ r.length ≤ a.length := by
 obtain ⟨r, l, v, h1, h2, h3, h4, h5, h6, h7⟩ := small_l0 d hd0 hd a.length a [] 0 rfl ha Ok.nil (by omega) hd0 (by simpa using hla);refine ⟨r, l, ?_, ?_, h4, h5, h6, by simpa using h7⟩
 · refine Ev.congr (fun k => by rw [nat_small.f, clone_ev a (by omega), Option.bind_some, w64 (by omega) (by omega)]) ?_;simpa using h1
 simp only [val, Int.mul_zero, Int.add_zero] at h2 h3;rw [h2, h3]
end Go.Proofs.YtmmonhgfnmeieaaGreatDoor.Th
/- Limbs of digits, and digits of limbs. -/
namespace Go.Proofs.YtmmonhgfnmeieaaGreatDoor.Th
open Go Go.RowKit Go.ZPWords Go.Proofs.YtmmonhgfnmeieaaGreatDoor.Str Go.Proofs.YtmmonhgfnmeieaaGreatDoor.PA
/-! ### strings as lists of bytes -/
theorem bt_mid {s : ByteArray} {p q : List UInt8} {c : UInt8} (h : s.data.toList = p ++ c :: q) : bt s (p.length : Int) = (c.toNat : Int) := by
 have h0 : p.length < s.size := by rw [size_list, h]; simp
 have hb := bt_at s p.length;simp only [Int.toNat_natCast] at hb;rw [← hb h0];have h3 : s.data.toList[p.length]'(by rw [h]; simp) = c := by simp [h]
 exact congrArg (fun x : UInt8 => (x.toNat : Int)) h3
theorem extract_list (s : ByteArray) (a b : Nat) : (s.extract a b).data.toList = (s.data.toList.take b).drop a := by
 rw [ByteArray.data_extract, Array.toList_extract, List.extract_eq_take_drop, List.take_drop];by_cases h : a ≤ b
 · rw [show a + (b - a) = b by omega]
 rw [List.drop_eq_nil_of_le (by simp; omega), List.drop_eq_nil_of_le (by simp; omega)]
theorem extract_end (s : ByteArray) (a : Nat) : (s.extract a s.size).data.toList = s.data.toList.drop a := by
  rw [extract_list, size_list, List.take_length]
theorem numL_lt {l : List UInt8} (h : l.all isDig = true) : numL l < 10 ^ l.length := by
 induction l with
 | nil => simp [numL]
 | cons c l ih =>
  simp only [List.all_cons, Bool.and_eq_true] at h;have h1 := ih h.2;have h2 : 48 ≤ c.toNat ∧ c.toNat ≤ 57 := by simpa [isDig] using h.1
  rw [numL_cons, List.length_cons, Nat.pow_succ];have h3 : (c.toNat - 48) * 10 ^ l.length ≤ 9 * 10 ^ l.length := Nat.mul_le_mul_right _ (by omega);omega
theorem pow_le9 {n : Nat} (h : n ≤ 9) : 10 ^ n ≤ 1000000000 := Nat.le_trans (Nat.pow_le_pow_right (by omega) h) (by decide)
/-! ### read -/
theorem read_l1 (s : ByteArray) (out : List Int) (q : List UInt8) (n : Nat) (hn : n ≤ 9) (m : List UInt8) : ∀ (p : List UInt8) (v : Nat), s.data.toList = p ++ m ++ q → p.length + m.length = n → m.all isDig = true → v < 10 ^ p.length →
    ∀ r, Ev (fun k => nat_read.l1 k s out (n : Int) ((v * 10 ^ m.length + numL m : Nat) : Int) (n : Int) (n : Int)) r → Ev (fun k => nat_read.l1 k s out (n : Int) (v : Int) (n : Int) (p.length : Int)) r := by
 induction m with
 | nil =>
  intro p v hs hl hd hv r h;simp at hl;rw [hl];simpa [numL] using h
 | cons c m ih =>
  intro p v hs hl hd hv r h;simp only [List.all_cons, Bool.and_eq_true] at hd;have hc : 48 ≤ c.toNat ∧ c.toNat ≤ 57 := by simpa [isDig] using hd.1
  simp only [List.length_cons] at hl;have hsz : p.length < s.size := by rw [size_list, hs]; simp
  have hv9 := pow_le9 (n := p.length + 1) (by omega);rw [Nat.pow_succ] at hv9
  have e1 : IntKind.u64.wrap ((IntKind.u64.wrap (10 * (v : Int))) + (((c.toNat : Int) - 48) % 256)) = ((10 * v + (c.toNat - 48) : Nat) : Int) := by
   rw [wu64 (x := 10 * (v : Int)) (by omega) (by omega), wu64 (by omega) (by omega)]; omega
  refine Ev.step (fun k => by rw [nat_read.l1, if_pos (by omega), if_pos (by omega), if_pos (by omega), bt_mid (c := c) (q := m ++ q) (by rw [hs]; simp), e1, w64 (by omega) (by omega)]) ?_;have hp : (((p ++ [c]).length : Nat) : Int) = (p.length : Int) + 1 := by simp
  rw [← hp];refine ih (p ++ [c]) (10 * v + (c.toNat - 48)) (by rw [hs]; simp) (by simp; omega) hd.2 (by simp [Nat.pow_succ]; omega) r ?_
  have e2 : (10 * v + (c.toNat - 48)) * 10 ^ m.length + numL m = v * 10 ^ (c :: m).length + numL (c :: m) := by
   rw [numL_cons, List.length_cons, Nat.pow_succ]; grind
  rw [e2];exact h
theorem read_l0 (n : Nat) : ∀ (s : ByteArray) (out : List Int), s.size = n → s.data.toList.all isDig = true → Ok out → out.length + n ≤ 17592186044416 → (val out = 0 ∨ n % 9 = 0) →
    ∃ r, Ev (fun k => nat_read.l0 k s out) r ∧ val r = val out * 10 ^ n + (num s : Int) ∧ Ok r ∧ r.length ≤ out.length + n := by
 induction n using Nat.strongRecOn with
 | _ n ih =>
  intro s out hs hd ho hlen hz;by_cases h0 : n = 0
  · subst h0;have hnil : s.data.toList = [] := List.eq_nil_of_length_eq_zero (by rw [← size_list]; exact hs);refine ⟨out, ?_, by simp [num, hnil, numL], ho, by omega⟩;exact Ev.step (fun k => by rw [nat_read.l0, if_neg (by omega)]) (Ev.now _)
  obtain ⟨m, hm⟩ : ∃ m, m = (n - 1) % 9 + 1 := ⟨_, rfl⟩;have hm9 : m ≤ 9 := by omega
  have hmn : m ≤ n := by omega
  have hsl : s.data.toList.length = n := by rw [← size_list]; exact hs
  have hw : wrap64 ((Int.tmod (wrap64 ((s.size : Int) - 1)) 9) + 1) = (m : Int) := by
   rw [w64 (x := (s.size : Int) - 1) (by omega) (by omega), Int.tmod_eq_emod_of_nonneg (by omega), w64 (by omega) (by omega)]; omega
  have hsplit : s.data.toList = [] ++ s.data.toList.take m ++ s.data.toList.drop m := by simp
  have htl : (s.data.toList.take m).length = m := by rw [List.length_take]; omega
  have hdt : (s.data.toList.take m).all isDig = true := by
   rw [List.all_eq_true] at hd ⊢;exact fun x hx => hd x (List.mem_of_mem_take hx)
  have hdd : (s.data.toList.drop m).all isDig = true := by
   rw [List.all_eq_true] at hd ⊢;exact fun x hx => hd x (List.mem_of_mem_drop hx)
  have hv := numL_lt hdt;rw [htl] at hv;have h9 := pow_le9 hm9;obtain ⟨t, t1, t2, t3, t4⟩ := step_ev out 1000000000 ((numL (s.data.toList.take m) : Nat) : Int) ho (by omega) (by omega) (by omega) (by omega) (by omega);have hes : (s.extract m s.size).size = n - m := by rw [size_list, extract_end, List.length_drop, hsl]
  have hout : val out * 1000000000 = val out * 10 ^ m := by
   rcases hz with hz | hz
   · rw [hz]; simp
   have : m = 9 := by omega
   rw [this]; rfl
  obtain ⟨r, r1, r2, r3, r4⟩ := ih (n - m) (by omega) (s.extract m s.size) t hes (by rw [extract_end]; exact hdd) t3.ok (by omega) (.inr (by omega));refine ⟨r, ?_, ?_, r3, by omega⟩
  · refine Ev.step (fun k => by rw [nat_read.l0, if_pos (by omega), hw]) ?_;refine read_l1 s out (s.data.toList.drop m) m hm9 (s.data.toList.take m) [] 0 hsplit (by simp [htl]) hdt (by simp) r ?_;rw [htl, Nat.zero_mul, Nat.zero_add];refine Ev.step (fun k => by rw [nat_read.l1, if_neg (by omega)]) ?_;refine Ev.bind t1 ?_;refine Ev.congr (fun k => by rw [if_pos (by omega), if_pos (by omega), Int.toNat_natCast]) r1
  have hnum : num s = numL (s.data.toList.take m) * 10 ^ (n - m) + num (s.extract m s.size) := by
   have : num s = numL (s.data.toList.take m ++ s.data.toList.drop m) := by rw [List.take_append_drop]; rfl
   rw [this, numL_append, List.length_drop, hsl];congr 1;unfold num;rw [extract_end]
  rw [r2, t2, hout, hnum];have hp : (10 : Int) ^ n = 10 ^ m * 10 ^ (n - m) := by rw [← Int.pow_add]; congr 1; omega
  rw [hp];simp only [Int.natCast_add, Int.natCast_mul, Int.natCast_pow, Int.cast_ofNat_Int];grind
theorem read_ev (s : ByteArray) (hs : s.size ≤ 8796093022208) (hr : right s = true) : ∃ r, Ev (fun k => nat_read.f k s) r ∧ val r = (num s : Int) ∧ Ok r ∧ r.length ≤ s.size := by
  have hd : s.data.toList.all isDig = true := by
    rw [txt_num hr]; exact digs_dig _
  obtain ⟨r, h1, h2, h3, h4⟩ := read_l0 s.size s [] rfl hd Ok.nil (by simp; omega) (.inl rfl);exact ⟨r, h1, by simpa [val] using h2, h3, by simpa using h4⟩
/-! ### both -/
theorem both_yes (a b : ByteArray) (ha : a.size ≤ 8796093022208) (hb : b.size ≤ 8796093022208) (hra : right a = true) (hrb : right b = true) :
    ∃ x y, Ev (fun k => nat_both.f k a b) (x, y, true) ∧ val x = (num a : Int) ∧ val y = (num b : Int) ∧ Norm x ∧ Norm y ∧ x.length ≤ a.size ∧ y.length ≤ b.size := by
  obtain ⟨x, x1, x2, x3, x4⟩ := read_ev a ha hra;obtain ⟨y, y1, y2, y3, y4⟩ := read_ev b hb hrb;obtain ⟨x', u1, u2, u3, u4⟩ := trim_ev x x3 (by omega);obtain ⟨y', v1, v2, v3, v4⟩ := trim_ev y y3 (by omega);refine ⟨x', y', ?_, by rw [u2, x2], by rw [v2, y2], u3, v3, by omega, by omega⟩;refine Ev.congr (fun k => by rw [nat_both.f, nat_Right.f, Option.bind_some, if_pos hra, nat_Right.f, Option.bind_some, hrb]) ?_;refine Ev.step (fun k => by rw [nat_both.j0, if_neg (by simp)]) ?_;exact Ev.bind x1 (Ev.bind u1 (Ev.bind y1 (Ev.bind v1 (Ev.now _))))
theorem both_no (a b : ByteArray) (h : (Str.right a && Str.right b) = false) : Ev (fun k => nat_both.f k a b) ([], [], false) := by
 cases hra : Str.right a with
 | false =>
  refine Ev.congr (fun k => by rw [nat_both.f, nat_Right.f, Option.bind_some, hra, if_neg (by simp)]) ?_;exact Ev.step (fun k => by rw [nat_both.j0, if_pos (show true = true from rfl)]) (Ev.now _)
 | true =>
  rw [hra, Bool.true_and] at h;refine Ev.congr (fun k => by rw [nat_both.f, nat_Right.f, Option.bind_some, if_pos hra, nat_Right.f, Option.bind_some, h]) ?_;exact Ev.step (fun k => by rw [nat_both.j0, if_pos (show (!false) = true from rfl)]) (Ev.now _)
/-! ### Reverse -/
theorem rev_l0 (n : Nat) : ∀ (p m q : List Int), m.length = n → (p ++ m ++ q).length ≤ 281474976710656 →
    Ev (fun k => slices_Reverse_byte_byte.l0 k (p ++ m ++ q) (p.length : Int) ((p.length : Int) + m.length - 1)) (p ++ m.reverse ++ q) := by
 induction n using Nat.strongRecOn with
 | _ n ih =>
  intro p m q hm hlen;by_cases h1 : n ≤ 1
  · have hr : m.reverse = m := by
     match m, hm with
     | [], _ => rfl
     | [x], _ => rfl
     | x :: y :: m, h => simp at h; omega
    rw [hr];exact Ev.step (fun k => by rw [slices_Reverse_byte_byte.l0, if_neg (by omega)]) (Ev.now _)
  obtain ⟨x, m1, rfl⟩ : ∃ x m1, m = x :: m1 := by
   cases m with
   | nil => simp at hm; omega
   | cons x m1 => exact ⟨x, m1, rfl⟩
  rcases eq_of_snoc m1 with h | ⟨m2, y, rfl⟩
  · subst h; simp at hm; omega
  have hm2 : m2.length + 2 = n := by simp at hm; omega
  have hj : (p.length : Int) + ((x :: (m2 ++ [y])).length : Int) - 1 = ((p ++ x :: m2).length : Int) := by simp; omega
  have e1 : p ++ x :: (m2 ++ [y]) ++ q = (p ++ x :: m2) ++ y :: q := by simp
  have e2 : p ++ x :: (m2 ++ [y]) ++ q = p ++ x :: (m2 ++ y :: q) := by simp
  have hpl : p.length + m2.length + q.length + 2 ≤ 281474976710656 := by simp at hlen; omega
  have hL : (p ++ x :: (m2 ++ [y]) ++ q).length = p.length + m2.length + q.length + 2 := by simp; omega
  have hJ : (p ++ x :: m2).length = p.length + m2.length + 1 := by simp; omega
  have rx : rd (p ++ x :: (m2 ++ [y]) ++ q) (p.length : Int) = x := by rw [e2]; exact rd_mid _ _ _
  have ry : rd (p ++ x :: (m2 ++ [y]) ++ q) ((p ++ x :: m2).length : Int) = y := by rw [e1]; exact rd_mid _ _ _
  have es : ((p ++ x :: (m2 ++ [y]) ++ q).set ((p.length : Int)).toNat y).set (((p ++ x :: m2).length : Int)).toNat x = (p ++ [y]) ++ m2 ++ (x :: q) := by
   rw [e2, set_mid, show p ++ y :: (m2 ++ y :: q) = (p ++ y :: m2) ++ y :: q by simp, show ((p ++ x :: m2).length : Int) = ((p ++ y :: m2).length : Int) by simp, set_mid];simp
  refine Ev.step (fun k => by rw [slices_Reverse_byte_byte.l0, hj, if_pos (by omega), if_pos (by omega), if_pos (by omega), if_pos (by omega), if_pos (by omega), rx, ry, es, w64 (x := (p.length : Int) + 1) (by omega) (by omega), w64 (by omega) (by omega)]) ?_;have hi := ih m2.length (by omega) (p ++ [y]) m2 (x :: q) rfl (by simp; omega);have e3 : ((p ++ [y]).length : Int) = (p.length : Int) + 1 := by simp
  have e4 : ((p ++ x :: m2).length : Int) - 1 = ((p ++ [y]).length : Int) + (m2.length : Int) - 1 := by rw [hJ, e3]; omega
  rw [e4, ← e3];have e5 : p ++ (x :: (m2 ++ [y])).reverse ++ q = (p ++ [y]) ++ m2.reverse ++ (x :: q) := by simp
  rw [e5];exact hi
theorem rev_ev (l : List Int) (h : l.length ≤ 281474976710656) : Ev (fun k => slices_Reverse_byte_byte.f k l) l.reverse := by
  have := rev_l0 l.length [] l [] rfl (by simpa using h);refine Ev.congr (fun k => by rw [slices_Reverse_byte_byte.f, w64 (by omega) (by omega)]) ?_
  simpa using this
/-! ### text -/
def rd10 (m : Nat) : List Int := if m = 0 then [] else ((48 + m % 10 : Nat) : Int) :: rd10 (m / 10)
termination_by m
decreasing_by omega
theorem rd10_zero : rd10 0 = [] := by rw [rd10, if_pos rfl]
theorem rd10_pos {m : Nat} (h : 0 < m) : rd10 m = ((48 + m % 10 : Nat) : Int) :: rd10 (m / 10) := by rw [rd10, if_neg (by omega)]
theorem rd10_digs (m : Nat) (h : 0 < m) : ((rd10 m).reverse).map (fun n => UInt8.ofNat n.toNat) = digs m := by
 induction m using Nat.strongRecOn with
 | _ m ih =>
  rw [rd10_pos h, List.reverse_cons, List.map_append];by_cases h1 : m < 10
  · rw [show m / 10 = 0 by omega, rd10_zero, digs_lt h1];show [UInt8.ofNat (((48 + m % 10 : Nat) : Int)).toNat] = _;rw [Int.toNat_natCast, Nat.mod_eq_of_lt h1]
  rw [ih (m / 10) (by omega) (by omega), digs_ge h1];rfl
theorem rd10_len (m : Nat) : (rd10 m).length ≤ (digs m).length := by
 by_cases h : 0 < m
 · rw [← rd10_digs m h]; simp
 rw [show m = 0 by omega, rd10_zero]; simp
theorem strOf_rd10 (m : Nat) (h : 0 < m) : strOfNums ((rd10 m).reverse) = txt m := by
  unfold strOfNums txt;rw [rd10_digs m h]
theorem text_rest {q x3 : List Int} {r : ByteArray} (hq : Norm q) (hl : q.length ≤ 17592186044416) (h3 : x3.length ≤ 140737488355328)
    (h0 : q = [] → r = strOfNums x3.reverse)
    (h1 : ∀ (q' : List Int) (l' : Int), q ≠ [] → val q = val q' * 1000000000 + l' → 0 ≤ l' → l' < 1000000000 → Norm q' → q'.length ≤ q.length → Ev (fun k => nat_text.l1 k x3 q' l' 0) r) : Ev (fun k => nat_text.l0 k q x3) r := by
 by_cases hq0 : q = []
 · rw [h0 hq0, hq0];refine Ev.step (fun k => by rw [nat_text.l0, if_neg (by simp)]) ?_;exact Ev.bind (rev_ev x3 (by omega)) (Ev.now _)
 obtain ⟨q', l', g1, g2, g3, g4, g5, g6⟩ := small_ev q 1000000000 hq.ok (by omega) (by omega) hl;have hp := List.length_pos_iff.2 hq0;refine Ev.step (fun k => by rw [nat_text.l0, if_pos (by omega)]) ?_;exact Ev.bind g1 (h1 q' l' hq0 g2 g3 g4 g5 g6)
theorem h9 : (10 : Nat) ^ 9 = 1000000000 := by decide
theorem text_l1 (m : Nat) : ∀ (x3 q : List Int) (v l kk e : Nat), kk + e = 9 → 0 < e → Norm q → val q = (v : Int) → l < 10 ^ e → m = v * 10 ^ e + l → x3.length + (rd10 m).length ≤ 70368744177664 → q.length ≤ 17592186044416 →
    Ev (fun k => nat_text.l1 k x3 q (l : Int) (kk : Int)) (strOfNums (x3 ++ rd10 m).reverse) := by
 induction m using Nat.strongRecOn with
 | _ m ih =>
  intro x3 q v l kk e hke he hq hv hl hm hlen hql;have hl9 := pow_le9 (n := e) (by omega)
  have hgo : 0 < m → Ev (fun k => nat_text.l1 k (x3 ++ [(IntKind.u64.wrap (48 + (Int.tmod (l : Int) 10))) % 256]) q (IntKind.u64.wrap (Int.tdiv (l : Int) 10)) (wrap64 ((kk : Int) + 1))) (strOfNums (x3 ++ rd10 m).reverse) := by
   intro hpos;obtain ⟨e', rfl⟩ : ∃ e', e = e' + 1 := ⟨e - 1, by omega⟩;have ed : v * 10 ^ (e' + 1) + l = 10 * (v * 10 ^ e') + l := by rw [Nat.pow_succ]; grind
   have hm10 : m % 10 = l % 10 := by rw [hm, ed]; omega
   have hd10 : m / 10 = v * 10 ^ e' + l / 10 := by rw [hm, ed]; omega
   have hl' : l / 10 < 10 ^ e' := by rw [Nat.pow_succ] at hl; omega
   have c1 : (IntKind.u64.wrap (48 + (Int.tmod (l : Int) 10))) % 256 = ((48 + m % 10 : Nat) : Int) := by
    rw [Int.tmod_eq_emod_of_nonneg (by omega), wu64 (by omega) (by omega), hm10]; omega
   have c2 : IntKind.u64.wrap (Int.tdiv (l : Int) 10) = ((l / 10 : Nat) : Int) := by
    rw [Int.tdiv_eq_ediv_of_nonneg (by omega), wu64 (by omega) (by omega)]; omega
   have c3 : wrap64 ((kk : Int) + 1) = ((kk + 1 : Nat) : Int) := by rw [w64 (by omega) (by omega)]; omega
   rw [c1, c2, c3];have hr := rd10_pos hpos;have hres : x3 ++ rd10 m = (x3 ++ [((48 + m % 10 : Nat) : Int)]) ++ rd10 (m / 10) := by rw [hr]; simp
   have hlen' : (x3 ++ [((48 + m % 10 : Nat) : Int)]).length + (rd10 (m / 10)).length ≤ 70368744177664 := by
    rw [hr] at hlen; simp at hlen ⊢; omega
   rw [hres];by_cases he' : 0 < e'
   · exact ih (m / 10) (by omega) _ q v (l / 10) (kk + 1) e' (by omega) he' hq hv hl' hd10 hlen' hql
   have he0 : e' = 0 := Nat.eq_zero_of_not_pos he';subst he0;have hl0 : l / 10 = 0 := Nat.lt_one_iff.mp (by rw [Nat.pow_zero] at hl'; exact hl');clear hl hm hl9 hlen ed hres;have hmv : m / 10 = v := by rw [hd10, hl0]; simp
   refine Ev.step (fun k => by rw [nat_text.l1, if_neg (by omega)]) ?_;refine text_rest hq hql (by simp at hlen' ⊢; omega) (fun h => ?_) (fun q' l' hq0 g1 g2 g3 g4 g5 => ?_)
   · have : v = 0 := by rw [h] at hv; simp [val] at hv; omega
     rw [hmv, this, rd10_zero, List.append_nil]
   obtain ⟨l2, hl2⟩ := Int.eq_ofNat_of_zero_le g2;obtain ⟨v2, hv2⟩ := Int.eq_ofNat_of_zero_le (val_nonneg g4.ok);rw [hl2];refine ih (m / 10) (by omega) _ q' v2 l2 0 9 rfl (by omega) g4 hv2 (by rw [h9]; rw [hl2] at g3; omega) ?_ hlen' (by omega);rw [hmv, h9];rw [hv, hl2, hv2] at g1;omega
  by_cases hq0 : q = []
  · have hv0 : v = 0 := by
     have h : (v : Int) = 0 := by rw [← hv, hq0]; rfl
     exact Int.ofNat_eq_zero.mp h
    by_cases hl0 : l = 0
    · have hm0 : m = 0 := by rw [hm, hv0, hl0]; simp
      refine Ev.step (fun k => by rw [nat_text.l1, if_pos (by omega), if_neg (by rw [hq0]; simp), if_neg (by omega)]) ?_;refine text_rest hq hql (by omega) (fun _ => ?_) (fun _ _ h => absurd hq0 h);rw [hm0, rd10_zero, List.append_nil]
    refine Ev.step (fun k => by rw [nat_text.l1, if_pos (by omega), if_neg (by rw [hq0]; simp), if_pos (by omega), if_pos (by omega)]) ?_;exact hgo (by omega)
  have hp := hq.pos hq0;have hlq := List.length_pos_iff.2 hq0
  have hmp : 0 < m := by
   have : 0 < v * 10 ^ e := Nat.mul_pos (by omega) (Nat.pow_pos (by omega));omega
  refine Ev.step (fun k => by rw [nat_text.l1, if_pos (by omega), if_pos (by omega), if_pos (by omega)]) ?_;exact hgo hmp
theorem text_ev (a : List Int) (n : Nat) (ha : Norm a) (hv : val a = (n : Int)) (hla : a.length ≤ 17592186044416) (hn : (txt n).size ≤ 70368744177664) : Ev (fun k => nat_text.f k a) (txt n) := by
 by_cases h0 : a = []
 · have : n = 0 := by rw [h0] at hv; simp [val] at hv; omega
   rw [h0, this, txt_small 0 (by omega)];exact Ev.congr (fun k => by rw [nat_text.f, if_pos (by simp)]; rfl) (Ev.now _)
 have hp := ha.pos h0;have hlp := List.length_pos_iff.2 h0;have hnp : 0 < n := by omega
 have hlen : (rd10 n).length ≤ 70368744177664 := Nat.le_trans (rd10_len n) (by rw [← size_txt]; exact hn);refine Ev.congr (fun k => by rw [nat_text.f, if_neg (by omega)]) ?_;rw [← strOf_rd10 n hnp];refine text_rest ha hla (by simp) (fun h => absurd h h0) (fun q' l' hq0 g1 g2 g3 g4 g5 => ?_);obtain ⟨l2, hl2⟩ := Int.eq_ofNat_of_zero_le g2;obtain ⟨v2, hv2⟩ := Int.eq_ofNat_of_zero_le (val_nonneg g4.ok);rw [hl2];have := text_l1 n [] q' v2 l2 0 9 rfl (by omega) g4 hv2 (by rw [h9]; rw [hl2] at g3; omega) (by rw [h9]; rw [hv, hl2, hv2] at g1; omega) (by simpa using hlen) (by omega);simpa using this
end Go.Proofs.YtmmonhgfnmeieaaGreatDoor.Th
/- What the exported functions of nat come to. -/
namespace Go.Proofs.YtmmonhgfnmeieaaGreatDoor.Th
open Go Go.RowKit Go.ZPWords Go.ZPMore Go.Proofs.YtmmonhgfnmeieaaGreatDoor.Str Go.Proofs.YtmmonhgfnmeieaaGreatDoor.PA
/-! ### sizes -/
theorem size_mono {m n : Nat} (h : m ≤ n) : (txt m).size ≤ (txt n).size := size_le (Nat.lt_of_le_of_lt h (lt_pow_size n)) (size_pos n)
theorem size_add (m n : Nat) : (txt (m + n)).size ≤ max (txt m).size (txt n).size + 1 := by
  apply size_le _ (by omega)
  have h1 := lt_pow_size m;have h2 := lt_pow_size n;have h3 : 10 ^ (txt m).size ≤ 10 ^ max (txt m).size (txt n).size := Nat.pow_le_pow_right (by omega) (by omega);have h4 : 10 ^ (txt n).size ≤ 10 ^ max (txt m).size (txt n).size := Nat.pow_le_pow_right (by omega) (by omega);rw [Nat.pow_succ]
  omega
theorem size_mul (m n : Nat) : (txt (m * n)).size ≤ (txt m).size + (txt n).size := by
  apply size_le _ (by have := size_pos m; omega)
  rw [Nat.pow_add];exact Nat.mul_lt_mul'' (lt_pow_size m) (lt_pow_size n)
theorem size_num {a : ByteArray} (h : right a = true) : (txt (num a)).size = a.size := by rw [← txt_num h]
/-! ### what they come to -/
def sAdd (a b : ByteArray) : ByteArray × Int := if right a && right b then (txt (num a + num b), 0) else (⟨#[]⟩, 2)
def sSub (a b : ByteArray) : ByteArray × Int := if right a && right b then (if num a < num b then (⟨#[]⟩, 1) else (txt (num a - num b), 0)) else (⟨#[]⟩, 2)
def sMul (a b : ByteArray) : ByteArray × Int := if right a && right b then (txt (num a * num b), 0) else (⟨#[]⟩, 2)
def sDiv (a b : ByteArray) : ByteArray × ByteArray × Int := if right a && right b then (if num b = 0 then (⟨#[]⟩, ⟨#[]⟩, 3) else (txt (num a / num b), txt (num a % num b), 0)) else (⟨#[]⟩, ⟨#[]⟩, 2)
def sGcd (a b : ByteArray) : ByteArray × Int := if right a && right b then (txt (Nat.gcd (num a) (num b)), 0) else (⟨#[]⟩, 2)
def sCompare (a b : ByteArray) : Int × Int := if right a && right b then (cmp (num a : Int) (num b : Int), 0) else (0, 2)
/-- What is short enough to be told of. -/
abbrev Fit (a : ByteArray) : Prop := a.size ≤ 549755813888
theorem cond_of {a b : ByteArray} (h : (right a && right b) = true) : right a = true ∧ right b = true := by simpa using h
theorem add_spec (a b : ByteArray) (ha : Fit a) (hb : Fit b) : Ev (fun k => nat_Add.f k a b) (sAdd a b) := by
 unfold Fit at ha hb;unfold sAdd
 cases h : (right a && right b) with
 | false =>
  refine Ev.bind (both_no a b h) ?_;exact Ev.congr (fun k => by rw [if_neg (by simp)]; rfl) (Ev.now _)
 | true =>
  obtain ⟨hra, hrb⟩ := cond_of h;obtain ⟨x, y, h1, h2, h3, h4, h5, h6, h7⟩ := both_yes a b (by omega) (by omega) hra hrb;obtain ⟨r, r1, r2, r3, r4⟩ := add_ev x y h4.ok h5.ok (by omega) (by omega);have hsz := size_add (num a) (num b);rw [size_num hra, size_num hrb] at hsz;refine Ev.bind h1 ?_;refine Ev.congr (fun k => by rw [if_pos rfl]) ?_;refine Ev.bind r1 ?_;exact Ev.bind (text_ev r (num a + num b) r3 (by rw [r2, h2, h3]; simp) (by omega) (by omega)) (Ev.now _)
theorem mul_spec (a b : ByteArray) (ha : Fit a) (hb : Fit b) : Ev (fun k => nat_Mul.f k a b) (sMul a b) := by
 unfold Fit at ha hb;unfold sMul
 cases h : (right a && right b) with
 | false =>
  refine Ev.bind (both_no a b h) ?_;exact Ev.congr (fun k => by rw [if_neg (by simp)]; rfl) (Ev.now _)
 | true =>
  obtain ⟨hra, hrb⟩ := cond_of h;obtain ⟨x, y, h1, h2, h3, h4, h5, h6, h7⟩ := both_yes a b (by omega) (by omega) hra hrb;obtain ⟨r, r1, r2, r3, r4⟩ := mul_ev x y h4.ok h5.ok (by omega) (by omega);have hsz := size_mul (num a) (num b);rw [size_num hra, size_num hrb] at hsz;refine Ev.bind h1 ?_;refine Ev.congr (fun k => by rw [if_pos rfl]) ?_;refine Ev.bind r1 ?_;exact Ev.bind (text_ev r (num a * num b) r3 (by rw [r2, h2, h3]; simp) (by omega) (by omega)) (Ev.now _)
theorem compare_spec (a b : ByteArray) (ha : Fit a) (hb : Fit b) : Ev (fun k => nat_Compare.f k a b) (sCompare a b) := by
 unfold Fit at ha hb;unfold sCompare
 cases h : (right a && right b) with
 | false =>
  refine Ev.bind (both_no a b h) ?_;exact Ev.congr (fun k => by rw [if_neg (by simp)]; rfl) (Ev.now _)
 | true =>
  obtain ⟨hra, hrb⟩ := cond_of h;obtain ⟨x, y, h1, h2, h3, h4, h5, h6, h7⟩ := both_yes a b (by omega) (by omega) hra hrb;have hc := cmp_ev x y h4 h5 (by omega);rw [h2, h3] at hc;refine Ev.bind h1 ?_;refine Ev.congr (fun k => by rw [if_pos rfl]) ?_;exact Ev.bind hc (Ev.now _)
theorem sub_spec (a b : ByteArray) (ha : Fit a) (hb : Fit b) : Ev (fun k => nat_Sub.f k a b) (sSub a b) := by
 unfold Fit at ha hb;unfold sSub
 cases h : (right a && right b) with
 | false =>
  refine Ev.bind (both_no a b h) ?_;exact Ev.congr (fun k => by rw [if_neg (by simp)]; rfl) (Ev.now _)
 | true =>
  obtain ⟨hra, hrb⟩ := cond_of h;obtain ⟨x, y, h1, h2, h3, h4, h5, h6, h7⟩ := both_yes a b (by omega) (by omega) hra hrb;have hc := cmp_ev x y h4 h5 (by omega);rw [h2, h3] at hc;by_cases hlt : num a < num b
  · have h8 : cmp (num a : Int) (num b : Int) = -1 := by unfold cmp; rw [if_pos (by omega)]
    rw [h8] at hc;rw [if_pos hlt];refine Ev.bind h1 ?_;refine Ev.congr (fun k => by rw [if_pos rfl]) ?_;refine Ev.bind hc ?_;exact Ev.congr (fun k => by rw [if_pos (by omega)]; rfl) (Ev.now _)
  have h8 : ¬ cmp (num a : Int) (num b : Int) < 0 := by
   unfold cmp;rw [if_neg (by omega)];split <;> omega
  obtain ⟨r, r1, r2, r3, r4⟩ := sub_ev x y h4.ok h5.ok (len_le h5 h4.ok (by omega)) (by omega) (by omega);have hsz := size_mono (m := num a - num b) (n := num a) (by omega);rw [size_num hra] at hsz;rw [if_neg hlt];refine Ev.bind h1 ?_;refine Ev.congr (fun k => by rw [if_pos rfl]) ?_;refine Ev.bind hc ?_;refine Ev.congr (fun k => by rw [if_neg h8]) ?_;refine Ev.bind r1 ?_;exact Ev.bind (text_ev r (num a - num b) r3 (by rw [r2, h2, h3]; omega) (by omega) (by omega)) (Ev.now _)
end Go.Proofs.YtmmonhgfnmeieaaGreatDoor.Th
/- Knuth's long division: its quotient and what is left over. -/
namespace Go.Proofs.YtmmonhgfnmeieaaGreatDoor.Th
open Go Go.RowKit Go.ZPWords Go.ZPMore Go.Proofs.YtmmonhgfnmeieaaGreatDoor.Str Go.Proofs.YtmmonhgfnmeieaaGreatDoor.PA
/-! ### guess -/
def pad (l : List Int) (m : Nat) : List Int := l ++ List.replicate (m - l.length) 0
theorem val_pad (l : List Int) (m : Nat) : val (pad l m) = val l := by unfold pad; rw [val_append, val_zeros]; simp
theorem Ok.pad {l : List Int} (h : Ok l) (m : Nat) : Ok (Th.pad l m) := h.append (Ok.zeros _)
theorem pad_length {l : List Int} {m : Nat} (h : l.length ≤ m) : (pad l m).length = m := by unfold pad; simp; omega
theorem guess_l1 (d : Int) (left : List Int) (zs : List Int) (n : Nat) (hd0 : 0 ≤ d) (hd : d < 4294967296) (rest : List Int) : ∀ (lo done lrest : List Int), left.drop done.length = lrest → lrest.length ≤ rest.length → done.length + rest.length = n → (lo ++ done ++ rest ++ zs).length ≤ 17592186044416 →
    Ev (fun k => nat_guess.l1 k (lo ++ done ++ rest ++ zs) (lo.length : Int) d left (n : Int) (done.length : Int)) (d, lo ++ done ++ pad lrest rest.length ++ zs) := by
 induction rest with
 | nil =>
  intro lo done lrest hd1 hl hn hlen;have : lrest = [] := List.eq_nil_of_length_eq_zero (by simpa using hl);subst this;simp at hn;refine Ev.step (fun k => by rw [nat_guess.l1, if_neg (by omega), show d % 4294967296 = d by omega]) ?_;simpa [pad] using Ev.now (d, lo ++ done ++ zs)
 | cons x rest ih =>
  intro lo done lrest hd1 hl hn hlen;simp only [List.length_cons] at hn;have hlen' : lo.length + done.length + rest.length + zs.length + 1 ≤ 17592186044416 := by simp at hlen; omega
  have hw : wrap64 ((lo.length : Int) + (done.length : Int)) = ((lo ++ done).length : Int) := by rw [w64 (by omega) (by omega)]; simp
  have eu : lo ++ done ++ x :: rest ++ zs = (lo ++ done) ++ x :: (rest ++ zs) := by simp
  have hL : ((lo ++ done ++ x :: rest ++ zs).length : Int) = lo.length + done.length + rest.length + zs.length + 1 := by simp; omega
  have hD : ∀ y : Int, ((done ++ [y]).length : Int) = (done.length : Int) + 1 := by simp
  have hDn : ∀ y : Int, (done ++ [y]).length = done.length + 1 := by simp
  cases lrest with
  | nil =>
   obtain ⟨g1, g2⟩ := drop_nil hd1;refine Ev.step (fun k => by rw [nat_guess.l1, if_pos (by omega), hw, if_pos (by omega), if_pos (by simp; omega), Option.bind_some, if_neg (by omega), eu, set_mid, w64 (by omega) (by omega)]) ?_;have hi := ih lo (done ++ [0]) [] (by rw [hDn]; exact g2) (by simp) (by simp; omega) (by simp; omega);rw [hD] at hi;have e1 : lo ++ done ++ 0 :: (rest ++ zs) = lo ++ (done ++ [0]) ++ rest ++ zs := by simp
   have e2 : lo ++ done ++ pad [] (x :: rest).length ++ zs = lo ++ (done ++ [0]) ++ pad [] rest.length ++ zs := by simp [pad, List.replicate_succ]
   rw [e1, e2];exact hi
  | cons y lrest =>
   obtain ⟨g1, g2, g3⟩ := drop_cons hd1;simp only [List.length_cons] at hl;refine Ev.step (fun k => by rw [nat_guess.l1, if_pos (by omega), hw, if_pos (by omega), if_pos (by simp; omega), Option.bind_some, if_pos (by omega), if_pos (by omega), eu, set_mid, set_mid, g2, w64 (by omega) (by omega)]) ?_;have hi := ih lo (done ++ [y]) lrest (by rw [hDn]; exact g3) (by omega) (by simp; omega) (by simp; omega);rw [hD] at hi;have e1 : lo ++ done ++ y :: (rest ++ zs) = lo ++ (done ++ [y]) ++ rest ++ zs := by simp
   have e2 : lo ++ done ++ pad (y :: lrest) (x :: rest).length ++ zs = lo ++ (done ++ [y]) ++ pad lrest rest.length ++ zs := by simp [pad]
   rw [e1, e2];exact hi
theorem guess_l0 (v lo part zs : List Int) (hv : Norm v) (hvne : v ≠ []) (hp : Ok part) (hpl : part.length = v.length + 1) (hlen : (lo ++ part ++ zs).length ≤ 8796093022208) (hpv : val part < 4294967296 * val v) (f : Nat) : ∀ (d : Int) (take : List Int), d = val part / val v + f → d < 4294967296 → Norm take → val take = d * val v → take.length ≤ v.length + 1 →
    ∃ part', Ev (fun k => nat_guess.l0 k (lo ++ part ++ zs) v (lo.length : Int) d part take) (val part / val v, lo ++ part' ++ zs) ∧ val part' = val part - val part / val v * val v ∧ Ok part' ∧ part'.length = v.length + 1 := by
 have hvp := hv.pos hvne;have hp0 := val_nonneg hp;have hq0 : 0 ≤ val part / val v := Int.ediv_nonneg hp0 (by omega);have hqB : val part / val v < 4294967296 := Int.ediv_lt_of_lt_mul hvp (by omega);have hdm : val part % val v + val v * (val part / val v) = val part := Int.emod_add_mul_ediv _ _;have hm0 := Int.emod_nonneg (val part) (Int.ne_of_gt hvp);have hm1 := Int.emod_lt_of_pos (val part) hvp;have hlen' : lo.length + part.length + zs.length ≤ 8796093022208 := by simp at hlen; omega
 obtain ⟨tp, t1, t2, t3, t4⟩ := trim_ev part hp (by omega);induction f with
 | zero =>
  intro d take hd hdB ht hvt htl;have hde : d = val part / val v := by simpa using hd
  have hle : val take ≤ val part := by
   rw [hvt, hde, Int.mul_comm];omega
  obtain ⟨left, s1, s2, s3, s4⟩ := sub_ev part take hp ht.ok (by omega) hle (by omega);have hcmp := cmp_ev take tp ht t3 (by omega);refine ⟨pad left part.length, ?_, ?_, s3.ok.pad _, ?_⟩
  · refine Ev.step (fun k => by rw [nat_guess.l0, clone_ev part (by omega), Option.bind_some]) ?_;refine Ev.bind t1 (Ev.bind hcmp ?_)
    have hc : ¬ cmp (val take) (val tp) > 0 := by
     unfold cmp;rw [t2];by_cases h : val take < val part
     · rw [if_pos h]; omega
     rw [if_neg h, if_neg (by omega)]; omega
    refine Ev.congr (fun k => by rw [if_neg hc]) ?_;refine Ev.bind s1 ?_;have := guess_l1 (val part / val v) left zs part.length hq0 hqB part lo [] left rfl (by omega) (by simp) (by simp; omega);rw [hde];simpa using this
  · rw [val_pad, s2, hvt, hde]
  rw [pad_length (by omega), hpl]
 | succ f ih =>
  intro d take hd hdB ht hvt htl
  have hgt : val part < val take := by
   rw [hvt];have h1 : val part / val v + 1 ≤ d := by omega
   have h2 : (val part / val v + 1) * val v ≤ d * val v := Int.mul_le_mul_of_nonneg_right h1 (by omega);rw [Int.add_mul, Int.one_mul, Int.mul_comm (val part / val v)] at h2;omega
  have hvl : val v ≤ val take := by
   rw [hvt];have h2 : 1 * val v ≤ d * val v := Int.mul_le_mul_of_nonneg_right (by omega) (by omega);omega
  obtain ⟨take', s1, s2, s3, s4⟩ := sub_ev take v ht.ok hv.ok (len_le hv ht.ok hvl) hvl (by omega);have hcmp := cmp_ev take tp ht t3 (by omega);obtain ⟨part', g1, g2, g3, g4⟩ := ih (d - 1) take' (by omega) (by omega) s3 (by rw [s2, hvt, Int.sub_mul, Int.one_mul]) (by omega);refine ⟨part', ?_, g2, g3, g4⟩;refine Ev.step (fun k => by rw [nat_guess.l0, clone_ev part (by omega), Option.bind_some]) ?_;refine Ev.bind t1 (Ev.bind hcmp ?_)
  have hc : cmp (val take) (val tp) > 0 := by
   unfold cmp;rw [t2, if_neg (by omega), if_pos hgt];omega
  refine Ev.congr (fun k => by rw [if_pos hc]) ?_;refine Ev.bind s1 ?_;refine Ev.congr (fun k => by rw [wu64 (by omega) (by omega)]) g1
theorem rd_at (p : List Int) (x : Int) (s : List Int) (i : Int) (hi : i = (p.length : Int)) : rd (p ++ x :: s) i = x := by rw [hi]; exact rd_mid _ _ _
theorem cut_mid (lo part zs : List Int) (m : Int) (hm : m = ((lo.length + part.length : Nat) : Int)) : ((lo ++ part ++ zs).take m.toNat).drop ((lo.length : Int)).toNat = part := by
  subst hm;rw [Int.toNat_natCast, Int.toNat_natCast, ← List.length_append, List.take_left' rfl, List.drop_left' rfl]
theorem guess_open (v0 lo p0 zs : List Int) (top x1 x2 d0 : Int) (hpl : p0.length = v0.length) (hlen : (lo ++ (p0 ++ [x1, x2]) ++ zs).length ≤ 4398046511104) (htop : top ≠ 0)
    (hh : Aside0 (mn (IntKind.u64.wrap (Int.tdiv (Go.bits .or .u64 (IntKind.u64.wrap ((IntKind.u64.wrap x2) * 4294967296)) (IntKind.u64.wrap x1)) top)) 4294967295 = d0)) (k : Nat) :
    nat_guess.f k (lo ++ (p0 ++ [x1, x2]) ++ zs) (v0 ++ [top]) (lo.length : Int) top = (nat_step.f k (v0 ++ [top]) d0 0).bind fun t => nat_guess.l0 k (lo ++ (p0 ++ [x1, x2]) ++ zs) (v0 ++ [top]) (lo.length : Int) d0 (p0 ++ [x1, x2]) t := by
 have hlen' : lo.length + p0.length + 2 + zs.length ≤ 4398046511104 := by simp at hlen; omega
 clear hlen;have hL : ((lo ++ (p0 ++ [x1, x2]) ++ zs).length : Int) = lo.length + p0.length + 2 + zs.length := by simp; omega
 have hVL : ((v0 ++ [top]).length : Int) = v0.length + 1 := by simp
 have w1 : wrap64 ((lo.length : Int) + ((v0 ++ [top]).length : Int)) = (lo.length : Int) + (v0.length : Int) + 1 := by rw [hVL, w64 (by omega) (by omega)]; omega
 have w2 : wrap64 ((lo.length : Int) + (v0.length : Int) + 1 - 1) = (lo.length : Int) + (v0.length : Int) := by rw [w64 (by omega) (by omega)]; omega
 have w3 : wrap64 ((lo.length : Int) + (v0.length : Int) + 1 + 1) = (lo.length : Int) + (v0.length : Int) + 2 := by rw [w64 (by omega) (by omega)]; omega
 have k1 : 0 ≤ (lo.length : Int) + (v0.length : Int) + 1 := by omega
 have k2 : (lo.length : Int) + (v0.length : Int) + 1 < ((lo ++ (p0 ++ [x1, x2]) ++ zs).length : Int) := by omega
 have k3 : 0 ≤ (lo.length : Int) + (v0.length : Int) := by omega
 have k4 : (lo.length : Int) + (v0.length : Int) < ((lo ++ (p0 ++ [x1, x2]) ++ zs).length : Int) := by omega
 have k5 : 0 ≤ (lo.length : Int) := by omega
 have k6 : (lo.length : Int) ≤ (lo.length : Int) + (v0.length : Int) + 2 := by omega
 have k7 : (lo.length : Int) + (v0.length : Int) + 2 ≤ ((lo ++ (p0 ++ [x1, x2]) ++ zs).length : Int) := by omega
 have k8 : (p0 ++ [x1, x2]).length < 35184372088832 := by simp; omega
 have hcut : ((lo ++ (p0 ++ [x1, x2]) ++ zs).take ((lo.length : Int) + (v0.length : Int) + 2).toNat).drop (lo.length : Int).toNat = p0 ++ [x1, x2] :=
  cut_mid lo (p0 ++ [x1, x2]) zs _ (by simp; omega)
 have i2 : (lo.length : Int) + (v0.length : Int) + 1 = ((lo ++ p0 ++ [x1]).length : Int) := by simp; omega
 have i1 : (lo.length : Int) + (v0.length : Int) = ((lo ++ p0).length : Int) := by simp; omega
 have e2 : rd (lo ++ (p0 ++ [x1, x2]) ++ zs) ((lo.length : Int) + (v0.length : Int) + 1) = x2 := by
  have h : lo ++ (p0 ++ [x1, x2]) ++ zs = (lo ++ p0 ++ [x1]) ++ x2 :: zs := by simp
  rw [h]; exact rd_at _ _ _ _ i2
 have e1 : rd (lo ++ (p0 ++ [x1, x2]) ++ zs) ((lo.length : Int) + (v0.length : Int)) = x1 := by
  have h : lo ++ (p0 ++ [x1, x2]) ++ zs = (lo ++ p0) ++ x1 :: (x2 :: zs) := by simp
  rw [h]; exact rd_at _ _ _ _ i1
 rw [nat_guess.f, w1, if_pos k1, if_pos k2, w2, if_pos k3, if_pos k4, if_neg htop, if_pos k5, w3, if_pos k6, if_pos k7, hcut, clone_ev _ k8, Option.bind_some, e1, e2, hh.out]
theorem guess_ev (v0 lo p0 zs : List Int) (top x1 x2 : Int) (hv : Norm (v0 ++ [top])) (hp : Ok (p0 ++ [x1, x2])) (hpl : p0.length = v0.length) (hlen : (lo ++ (p0 ++ [x1, x2]) ++ zs).length ≤ 4398046511104) (hpv : val (p0 ++ [x1, x2]) < 4294967296 * val (v0 ++ [top])) :
    ∃ part', Ev (fun k => nat_guess.f k (lo ++ (p0 ++ [x1, x2]) ++ zs) (v0 ++ [top]) (lo.length : Int) top) (val (p0 ++ [x1, x2]) / val (v0 ++ [top]), lo ++ part' ++ zs) ∧ val part' = val (p0 ++ [x1, x2]) - val (p0 ++ [x1, x2]) / val (v0 ++ [top]) * val (v0 ++ [top]) ∧ Ok part' ∧ part'.length = v0.length + 2 := by
 have hlen' : lo.length + p0.length + 2 + zs.length ≤ 4398046511104 := by simp at hlen; omega
 have hvne : v0 ++ [top] ≠ [] := by simp
 have hvp := hv.pos hvne;have htop := hv.top v0 top rfl;have htop2 := hv.ok.right.head;have hx1 := hp.right.head;have hx2 := hp.right.tail.head;have hp0 := val_nonneg hp
 have hh : IntKind.u64.wrap (Int.tdiv (Go.bits .or .u64 (IntKind.u64.wrap ((IntKind.u64.wrap x2) * 4294967296)) (IntKind.u64.wrap x1)) top) = (x2 * 4294967296 + x1) / top := by
  have h1 : 0 ≤ (x2 * 4294967296 + x1) / top := Int.ediv_nonneg (by omega) (by omega);have h2 : (x2 * 4294967296 + x1) / top ≤ x2 * 4294967296 + x1 := Int.ediv_le_self _ (by omega);rw [wu64 (x := x2) (by omega) (by omega), or_join hx2.1 hx2.2 hx1.1 hx1.2, Int.tdiv_eq_ediv_of_nonneg (by omega), wu64 (by omega) (by omega)]
 have hd0 : val (p0 ++ [x1, x2]) / val (v0 ++ [top]) ≤ mn ((x2 * 4294967296 + x1) / top) 4294967295 := by
  have hqB : val (p0 ++ [x1, x2]) / val (v0 ++ [top]) < 4294967296 := Int.ediv_lt_of_lt_mul hvp (by omega);have hq0 : 0 ≤ val (p0 ++ [x1, x2]) / val (v0 ++ [top]) := Int.ediv_nonneg hp0 (by omega);have hdm : val (p0 ++ [x1, x2]) / val (v0 ++ [top]) * val (v0 ++ [top]) ≤ val (p0 ++ [x1, x2]) := Int.ediv_mul_le _ (by omega);have vv : val (v0 ++ [top]) = val v0 + 4294967296 ^ v0.length * top := by rw [val_append]; simp [val]
  have vp : val (p0 ++ [x1, x2]) = val p0 + 4294967296 ^ v0.length * (x2 * 4294967296 + x1) := by
   have e : val [x1, x2] = x2 * 4294967296 + x1 := by simp only [val]; omega
   rw [val_append, hpl, e]
  have hv0 := val_nonneg hv.ok.left;have hp1 := val_lt hp.left;rw [hpl] at hp1
  have hle : val (p0 ++ [x1, x2]) / val (v0 ++ [top]) ≤ (x2 * 4294967296 + x1) / top := by
   apply Int.le_ediv_of_mul_le (by omega);generalize val (p0 ++ [x1, x2]) / val (v0 ++ [top]) = q at *;rw [vv] at hdm;rw [vp] at hdm;have hpw := pow_pos' v0.length;generalize (4294967296 : Int) ^ v0.length = P at *;have h1 : 0 ≤ q * val v0 := Int.mul_nonneg hq0 hv0
   have h2 : P * (q * top) < P * (x2 * 4294967296 + x1 + 1) := by
    have e1 : q * (val v0 + P * top) = q * val v0 + P * (q * top) := by grind
    rw [e1] at hdm;rw [Int.mul_add, Int.mul_one];omega
   have h3 := Int.lt_of_mul_lt_mul_left h2 (by omega);omega
  unfold mn;split <;> omega
 have hmn : 0 ≤ mn ((x2 * 4294967296 + x1) / top) 4294967295 ∧ mn ((x2 * 4294967296 + x1) / top) 4294967295 < 4294967296 := by
  have h1 : 0 ≤ (x2 * 4294967296 + x1) / top := Int.ediv_nonneg (by omega) (by omega);unfold mn;split <;> omega
 obtain ⟨d0, hd0e⟩ : ∃ d0, d0 = mn ((x2 * 4294967296 + x1) / top) 4294967295 := ⟨_, rfl⟩;rw [← hd0e] at hd0 hmn;have HD : Aside0 (mn (IntKind.u64.wrap (Int.tdiv (Go.bits .or .u64 (IntKind.u64.wrap ((IntKind.u64.wrap x2) * 4294967296)) (IntKind.u64.wrap x1)) top)) 4294967295 = d0) := ⟨by rw [hh, ← hd0e]⟩;clear hh hd0e;obtain ⟨take, t1, t2, t3, t4⟩ := step_ev (v0 ++ [top]) d0 0 hv.ok hmn.1 hmn.2 (by omega) (by omega) (by simp; omega);obtain ⟨f, hf⟩ := Int.eq_ofNat_of_zero_le (show 0 ≤ d0 - val (p0 ++ [x1, x2]) / val (v0 ++ [top]) by omega)
 have hf' : d0 = val (p0 ++ [x1, x2]) / val (v0 ++ [top]) + (f : Int) := by
  generalize val (p0 ++ [x1, x2]) / val (v0 ++ [top]) = qq at hf ⊢;omega
 have ht2 : val take = d0 * val (v0 ++ [top]) := by rw [t2, Int.add_zero, Int.mul_comm]
 have hln1 : (p0 ++ [x1, x2]).length = (v0 ++ [top]).length + 1 := by simp; omega
 have hln2 : (lo ++ (p0 ++ [x1, x2]) ++ zs).length ≤ 8796093022208 := Nat.le_trans hlen (by decide);obtain ⟨part', g1, g2, g3, g4⟩ := guess_l0 (v0 ++ [top]) lo (p0 ++ [x1, x2]) zs hv hvne hp hln1 hln2 hpv f d0 take hf' hmn.2 t3 ht2 t4;refine ⟨part', ?_, g2, g3, by simpa using g4⟩;refine Ev.congr (guess_open v0 lo p0 zs top x1 x2 d0 hpl hlen htop HD) ?_;exact Ev.bind t1 g1
end Go.Proofs.YtmmonhgfnmeieaaGreatDoor.Th
/- Quotients and remainders of limbs; what the exported functions of nat come to. -/
namespace Go.Proofs.YtmmonhgfnmeieaaGreatDoor.Th
open Go Go.RowKit Go.ZPWords Go.ZPMore Go.Proofs.YtmmonhgfnmeieaaGreatDoor.Str Go.Proofs.YtmmonhgfnmeieaaGreatDoor.PA
/-! ### shifts -/
theorem two_pow_le {m n : Nat} (h : m ≤ n) : (2 : Int) ^ m ≤ 2 ^ n := by exact_mod_cast Nat.pow_le_pow_right (n := 2) (by omega) h
theorem two_pow_pos (n : Nat) : (0 : Int) < 2 ^ n := Int.pow_pos (by omega)
theorem two_pow_lt {n : Nat} (h : n ≤ 31) : (2 : Int) ^ n < 4294967296 := by
  have h1 := two_pow_le h
  have h2 : (2 : Int) ^ 31 = 2147483648 := by decide
  omega
theorem shl_one {n : Nat} (h : n ≤ 31) : shl .u64 1 (n : Int) = 2 ^ n := by
  have h1 := two_pow_lt h;have h2 := two_pow_pos n;unfold shl
  have h3 : min ((n : Int)).toNat (IntKind.u64.bits) = n := by simp [IntKind.bits]; omega
  rw [h3, Int.one_mul, wu64 (by omega) (by omega)]
theorem shl_top {b : Int} {n : Nat} (hb0 : 0 ≤ b) (h : b * 2 ^ n < 4294967296) (hn : n ≤ 32) : shl .u32 b (n : Int) = b * 2 ^ n := by
  have h2 := two_pow_pos n;have h4 : 0 ≤ b * 2 ^ n := Int.mul_nonneg hb0 (by omega);unfold shl
  have h3 : min ((n : Int)).toNat (IntKind.u32.bits) = n := by simp [IntKind.bits]; omega
  rw [h3, IntKind.wrap_u32];exact Int.emod_eq_of_lt h4 h
theorem shift_ev (l : List Int) (n : Nat) (hl : Ok l) (hn : n ≤ 31) (hlen : l.length ≤ 17592186044416) : ∃ r, Ev (fun k => nat_shift.f k l (n : Int)) r ∧ val r = val l * 2 ^ n ∧ Norm r ∧ r.length ≤ l.length + 1 := by
  have h1 := two_pow_lt hn;have h2 := two_pow_pos n;obtain ⟨r, r1, r2, r3, r4⟩ := step_ev l (2 ^ n) 0 hl (by omega) h1 (by omega) (by omega) hlen;refine ⟨r, ?_, by omega, r3, r4⟩;refine Ev.congr (fun k => by rw [nat_shift.f, if_pos (by omega), shl_one hn]) ?_;exact Ev.bind r1 (Ev.now _)
/-! ### the loop of digits -/
theorem div_l1 (v0 : List Int) (top : Int) (hv : Norm (v0 ++ [top])) (n : Nat) (hn : n ≤ 31) (J : Nat) : ∀ (lo rest q0 qs : List Int) (z : Nat), lo.length = J → q0.length = J → rest.length = v0.length + 1 → Ok lo → Ok rest → Ok qs → val rest < val (v0 ++ [top]) → (lo ++ rest ++ List.replicate z 0).length ≤ 4398046511104 → (q0 ++ qs).length ≤ 4398046511104 →
    ∃ ql u qt rt, Ev (fun k => nat_divide.l1 k (n : Int) (lo ++ rest ++ List.replicate z 0) (v0 ++ [top]) (q0 ++ qs) top ((J : Int) - 1)) (qt, rt) ∧ val lo + 4294967296 ^ J * val rest = val ql * val (v0 ++ [top]) + u ∧ ql.length = J ∧ Ok ql ∧ 0 ≤ u ∧ u < val (v0 ++ [top]) ∧ val qt = val (ql ++ qs) ∧ Norm qt ∧ (∃ l, u = val rt * 2 ^ n + l ∧ 0 ≤ l ∧ l < 2 ^ n) ∧ Norm rt ∧ qt.length ≤ (q0 ++ qs).length ∧ rt.length ≤ (lo ++ rest ++ List.replicate z 0).length := by
 induction J with
 | zero =>
  intro lo rest q0 qs z hlo hq0 hrl hloo hro hqo hrv hlen hqlen;have h1 := List.eq_nil_of_length_eq_zero hlo;have h2 := List.eq_nil_of_length_eq_zero hq0;subst h1; subst h2;simp only [List.nil_append] at hlen hqlen ⊢;have hok : Ok (rest ++ List.replicate z 0) := hro.append (Ok.zeros _);have hvz : val (rest ++ List.replicate z 0) = val rest := by rw [val_append, val_zeros]; simp
  obtain ⟨t, t1, t2, t3, t4⟩ := trim_ev (rest ++ List.replicate z 0) hok (Nat.le_trans hlen (by decide));obtain ⟨rt, l, s1, s2, s3, s4, s5, s6⟩ := small_ev t (2 ^ n) t3.ok (two_pow_pos n) (two_pow_lt hn) (Nat.le_trans t4 (Nat.le_trans hlen (by decide)));obtain ⟨qt, c1, c2, c3, c4⟩ := trim_ev qs hqo (Nat.le_trans hqlen (by decide));refine ⟨[], val rest, qt, rt, ?_, by simp [val], rfl, Ok.nil, val_nonneg hro, hrv, by rw [c2]; rfl, c3, ⟨l, by rw [← s2, t2, hvz], s3, s4⟩, s5, c4, Nat.le_trans s6 t4⟩;refine Ev.step (fun k => by rw [nat_divide.l1, if_neg (by omega), clone_ev _ (Nat.lt_of_le_of_lt hlen (by decide)), Option.bind_some]) ?_;refine Ev.bind t1 ?_;refine Ev.congr (fun k => by rw [if_pos (by omega), shl_one hn]) ?_;exact Ev.bind s1 (Ev.bind c1 (Ev.now _))
 | succ J ih =>
  intro lo rest q0 qs z hlo hq0 hrl hloo hro hqo hrv hlen hqlen;rcases eq_of_snoc lo with h | ⟨lo, x, rfl⟩
  · subst h; simp at hlo
  rcases eq_of_snoc q0 with h | ⟨q0, y, rfl⟩
  · subst h; simp at hq0
  have hlo' : lo.length = J := by simp at hlo; exact hlo
  have hq0' : q0.length = J := by simp at hq0; exact hq0
  have hx := hloo.right.head;have hvp := hv.pos (by simp)
  -- the part at hand
  have hpo : Ok (x :: rest) := Ok.cons hx.1 hx.2 hro;have hpv : val (x :: rest) < 4294967296 * val (v0 ++ [top]) := by simp only [val]; omega
  obtain ⟨p0, x1, x2, hpe⟩ : ∃ p0 x1 x2, x :: rest = p0 ++ [x1, x2] := by
   rcases eq_of_snoc rest with h | ⟨r1, x2, rfl⟩
   · subst h; simp at hrl
   rcases eq_of_snoc (x :: r1) with h | ⟨p0, x1, h⟩
   · cases h
   exact ⟨p0, x1, x2, by rw [← List.cons_append, h]; simp⟩
  have hp0l : p0.length = v0.length := by
   have h := congrArg List.length hpe;rw [List.length_cons, hrl, List.length_append] at h;have h2 : [x1, x2].length = 2 := rfl;omega
  have eu : (lo ++ [x]) ++ rest ++ List.replicate z 0 = lo ++ (p0 ++ [x1, x2]) ++ List.replicate z 0 := by rw [← hpe]; simp
  rw [eu] at hlen ⊢;rw [hpe] at hpo hpv;obtain ⟨part', g1, g2, g3, g4⟩ := guess_ev v0 lo p0 (List.replicate z 0) top x1 x2 hv hpo hp0l hlen hpv;have hd0 : 0 ≤ val (p0 ++ [x1, x2]) / val (v0 ++ [top]) := Int.ediv_nonneg (val_nonneg hpo) (by omega);have hdB : val (p0 ++ [x1, x2]) / val (v0 ++ [top]) < 4294967296 := Int.ediv_lt_of_lt_mul hvp hpv;have hm1 := Int.emod_lt_of_pos (val (p0 ++ [x1, x2])) hvp;have hm2 : val (p0 ++ [x1, x2]) % val (v0 ++ [top]) + val (v0 ++ [top]) * (val (p0 ++ [x1, x2]) / val (v0 ++ [top])) = val (p0 ++ [x1, x2]) := Int.emod_add_mul_ediv _ _
  have hp' : val part' < val (v0 ++ [top]) := by
   rw [g2, Int.mul_comm];generalize val (p0 ++ [x1, x2]) / val (v0 ++ [top]) = dd at *;omega
  have hpsum : val (x :: rest) = val (p0 ++ [x1, x2]) / val (v0 ++ [top]) * val (v0 ++ [top]) + val part' := by rw [hpe, g2]; omega
  generalize val (p0 ++ [x1, x2]) / val (v0 ++ [top]) = d at *;clear hm1 hm2 g2 hpv
  -- its top limb is 0
  obtain ⟨rest', w, rfl⟩ : ∃ rest' w, part' = rest' ++ [w] := by
   rcases eq_of_snoc part' with h | h
   · subst h; simp at g4
   exact h
  have hrl' : rest'.length = v0.length + 1 := by simp at g4; omega
  have hw := g3.right.head
  have hw0 : w = 0 := by
   have h1 := val_lt hv.ok;have h2 := val_nonneg g3.left;rw [val_append, hrl'] at hp';simp only [List.length_append, List.length_cons, List.length_nil, Nat.zero_add] at h1;by_cases hz : w = 0
   · exact hz
   have h3 : (4294967296 : Int) ^ (v0.length + 1) * 1 ≤ 4294967296 ^ (v0.length + 1) * val [w] := Int.mul_le_mul_of_nonneg_left (by simp [val]; omega) (Int.le_of_lt (pow_pos' _));rw [Int.mul_one] at h3;omega
  subst hw0;have hvr : val (rest' ++ [0]) = val rest' := by rw [val_append]; simp [val]
  rw [hvr] at hp' hpsum;have eu2 : lo ++ (rest' ++ [0]) ++ List.replicate z 0 = lo ++ rest' ++ List.replicate (z + 1) 0 := by rw [List.replicate_succ]; simp
  have eq2 : ((q0 ++ [y]) ++ qs).set ((J : Int)).toNat d = q0 ++ (d :: qs) := by
   rw [← hq0', show (q0 ++ [y]) ++ qs = q0 ++ y :: qs by simp, set_mid]
  have hlen2 : (lo ++ rest' ++ List.replicate (z + 1) 0).length = (lo ++ (p0 ++ [x1, x2]) ++ List.replicate z 0).length := by simp; omega
  have hql2 : (q0 ++ (d :: qs)).length = ((q0 ++ [y]) ++ qs).length := by simp <;> omega
  obtain ⟨ql, u, qt, rt, r1, r2, r3, r4, r5, r6, r7, r8, r9, r10, r11, r12⟩ := ih lo rest' q0 (d :: qs) (z + 1) hlo' hq0' hrl' hloo.left g3.left (Ok.cons hd0 hdB hqo) hp' (by rw [hlen2]; exact hlen) (by rw [hql2]; exact hqlen);refine ⟨ql ++ [d], u, qt, rt, ?_, ?_, by simp [r3], r4.append (Ok.single hd0 hdB), r5, r6, by rw [r7]; simp, r8, r9, r10, by rw [hql2] at r11; exact r11, by rw [hlen2] at r12; exact r12⟩
  · have hJ : ((J + 1 : Nat) : Int) - 1 = (J : Int) := by omega
    have hJ2 : (J : Int) < (((q0 ++ [y]) ++ qs).length : Int) := by simp <;> omega
    have hJm : J ≤ 4398046511104 := by
     have : J ≤ ((q0 ++ [y]) ++ qs).length := by simp; omega
     omega
    have hwJ : wrap64 ((J : Int) - 1) = (J : Int) - 1 := w64 (by omega) (by omega);rw [hJ];refine Ev.step (fun k => by rw [nat_divide.l1, if_pos (by omega)]) ?_;rw [← hlo'] at *;refine Ev.bind g1 ?_;refine Ev.congr (fun k => by rw [if_pos (by omega), if_pos hJ2, eq2, hwJ, eu2]) r1
  rw [val_append, hlo', Int.pow_succ, val_append, r3];simp only [val, Int.mul_zero, Int.add_zero] at hpsum ⊢;grind
/-! ### divide -/
/-- What divide does when it knows its shift. -/
def divGo (k : Nat) (x0 x1 : List Int) (x8 : Int) : Option (List Int × List Int) := (nat_shift.f k x0 x8).bind fun t245 => (if t245.length < 35184372088832 then ((some (t245 ++ [0] : List Int)).bind fun y248 => ((nat_shift.f k x1 x8).bind fun t251 => (if (y248.length : Int) = (x0.length : Int) then (if y248.length < 35184372088832 then (nat_divide.j1 k x8 (y248 ++ [0]) t251) else (none)) else (nat_divide.j1 k x8 y248 t251)))) else (none))
theorem div_l0 (a b0 : List Int) (top : Int) (ht0 : 0 < top) (hb : b0.length ≤ 4398046511104) (f : Nat) : ∀ n : Nat, n + f = 32 → top * 2 ^ n < 4294967296 → ∃ n' : Nat, n' ≤ 31 ∧ ∀ r, Ev (fun k => divGo k a (b0 ++ [top]) (n' : Int)) r → Ev (fun k => nat_divide.l0 k a (b0 ++ [top]) (n : Int)) r := by
 have hL : ((b0 ++ [top]).length : Int) = b0.length + 1 := by simp
 have hw : wrap64 (((b0 ++ [top]).length : Int) - 1) = (b0.length : Int) := by rw [hL, w64 (by omega) (by omega)]; omega
 induction f with
 | zero =>
  intro n hn h;have h1 : (2 : Int) ^ 32 ≤ 2 ^ n := two_pow_le (by omega);have h2 : (2 : Int) ^ 32 = 4294967296 := by decide
  have h3 : 1 * 2 ^ n ≤ top * 2 ^ n := Int.mul_le_mul_of_nonneg_right (by omega) (Int.le_of_lt (two_pow_pos n));omega
 | succ f ih =>
  intro n hn h;have hs := shl_top (b := top) (n := n) (by omega) h (by omega);have hp := two_pow_pos n;have h0 : 0 ≤ top * 2 ^ n := Int.mul_nonneg (by omega) (by omega);by_cases ht : top * 2 ^ n / 2147483648 = 0
  · obtain ⟨n', g1, g2⟩ := ih (n + 1) (by omega) (by rw [Int.pow_succ, ← Int.mul_assoc]; omega);refine ⟨n', g1, fun r hr => ?_⟩;refine Ev.step (fun k => by rw [nat_divide.l0, hw, if_pos (by omega), if_pos (by omega), if_pos (by omega), rd_mid, hs, if_pos ht, wu64 (by omega) (by omega)]) ?_;have := g2 r hr;simpa using this
  refine ⟨n, ?_, fun r hr => ?_⟩
  · by_cases h31 : n ≤ 31
    · exact h31
    omega
  exact Ev.step (fun k => by rw [nat_divide.l0, hw, if_pos (by omega), if_pos (by omega), if_pos (by omega), rd_mid, hs, if_neg ht]; rfl) hr
theorem div_j1 (u0 v0 : List Int) (top : Int) (n : Nat) (hn : n ≤ 31) (hu : Ok u0) (hv : Norm (v0 ++ [top])) (hl : v0.length < u0.length) (hul : u0.length ≤ 2199023255552) :
    ∃ qt rt, Ev (fun k => nat_divide.j1 k (n : Int) (u0 ++ [0]) (v0 ++ [top])) (qt, rt) ∧ Norm qt ∧ Norm rt ∧ qt.length ≤ u0.length ∧ rt.length ≤ u0.length + 1 ∧ ∃ u l, val u0 = val qt * val (v0 ++ [top]) + u ∧ 0 ≤ u ∧ u < val (v0 ++ [top]) ∧ u = val rt * 2 ^ n + l ∧ 0 ≤ l ∧ l < 2 ^ n := by
 have hLv : ((v0 ++ [top]).length : Int) = v0.length + 1 := by simp
 have hLu : ((u0 ++ [0]).length : Int) = u0.length + 1 := by simp
 obtain ⟨J, hJ⟩ : ∃ J, u0.length = J + v0.length := ⟨u0.length - v0.length, by omega⟩;have hw : wrap64 (((u0 ++ [0]).length : Int) - ((v0 ++ [top]).length : Int)) = (J : Int) := by rw [hLv, hLu, w64 (by omega) (by omega)]; omega
 have hw2 : wrap64 (((v0 ++ [top]).length : Int) - 1) = (v0.length : Int) := by rw [hLv, w64 (by omega) (by omega)]; omega
 have htop := hv.ok.right.head;have hrest : (u0.drop J).length = v0.length := by rw [List.length_drop]; omega
 have hrv : val (u0.drop J ++ [0]) < val (v0 ++ [top]) := by
  have h1 := val_lt (hu.drop J);have h2 := hv.ge (by simp);rw [hrest] at h1;have h3 : (v0 ++ [top]).length - 1 = v0.length := by simp
  rw [h3] at h2;have h4 : val (u0.drop J ++ [0]) = val (u0.drop J) := by rw [val_append]; simp [val]
  omega
 have hsp : u0 ++ [0] = u0.take J ++ (u0.drop J ++ [0]) ++ List.replicate 0 0 := by rw [List.replicate_zero, List.append_nil, ← List.append_assoc, List.take_append_drop]
 have htk : (u0.take J).length = J := by rw [List.length_take]; omega
 obtain ⟨ql, u, qt, rt, r1, r2, r3, r4, r5, r6, r7, r8, ⟨l, l1, l2, l3⟩, r10, r11, r12⟩ := div_l1 v0 top hv n hn J (u0.take J) (u0.drop J ++ [0]) (List.replicate J 0) [] 0 htk (by simp) (by simp [hrest]) (fun y hy => hu y (List.mem_of_mem_take hy)) ((hu.drop J).append (Ok.single (by omega) (by omega))) Ok.nil hrv (by rw [← hsp]; simp; omega) (by simp; omega);rw [← hsp] at r1 r12;refine ⟨qt, rt, ?_, r8, r10, by simp at r11; omega, by simpa using r12, u, l, ?_, r5, r6, l1, l2, l3⟩
 · refine Ev.step (fun k => by rw [nat_divide.j1, hw, if_pos (by omega), if_pos (by omega), Option.bind_some, hw2, if_pos (by omega), if_pos (by omega), rd_mid, Int.toNat_natCast, wu64 (by omega) (by omega), List.length_replicate, w64 (by omega) (by omega)]) ?_;simpa using r1
 have h4 : val (u0.drop J ++ [0]) = val (u0.drop J) := by rw [val_append]; simp [val]
 have h5 : val u0 = val (u0.take J) + 4294967296 ^ J * val (u0.drop J) := by
  have := val_append (u0.take J) (u0.drop J);rw [List.take_append_drop, htk] at this;exact this
 rw [h4] at r2;rw [List.append_nil] at r7;rw [h5, r2, r7]
theorem divide_ev (a b : List Int) (ha : Norm a) (hb : Norm b) (hbne : b ≠ []) (hla : a.length ≤ 1099511627776) (hlb : b.length ≤ 1099511627776) :
    ∃ q r, Ev (fun k => nat_divide.f k a b) (q, r) ∧ val a = val q * val b + val r ∧ 0 ≤ val r ∧ val r < val b ∧ Norm q ∧ Norm r ∧ q.length ≤ a.length + 1 ∧ r.length ≤ a.length + 2 := by
 have hbp := hb.pos hbne;have hc := cmp_ev a b ha hb (by omega);by_cases hlt : val a < val b
 · refine ⟨[], a, ?_, by simp [val], val_nonneg ha.ok, hlt, Norm.nil, ha, by simp, by omega⟩;have h1 : cmp (val a) (val b) = -1 := by unfold cmp; rw [if_pos hlt]
   rw [h1] at hc;exact Ev.bind hc (Ev.now _)
 have h1 : ¬ cmp (val a) (val b) < 0 := by
  unfold cmp;rw [if_neg hlt];split <;> omega
 obtain ⟨b0, top, rfl⟩ : ∃ b0 top, b = b0 ++ [top] := by
  rcases eq_of_snoc b with h | h
  · exact absurd h hbne
  exact h
 have htop := hb.ok.right.head;have htop0 := hb.top b0 top rfl;by_cases h0 : b0 = []
 · subst h0;obtain ⟨q, l, s1, s2, s3, s4, s5, s6⟩ := small_ev a top ha.ok (by omega) htop.2 (by omega);obtain ⟨r, t1, t2, t3, t4⟩ := trim_ev [l] (Ok.single s3 (by omega)) (by simp);have hvl : val r = l := by rw [t2]; simp [val]
   have hvb : val ([] ++ [top]) = top := by simp [val]
   refine ⟨q, r, ?_, by rw [hvb, hvl]; exact s2, by omega, by omega, s5, t3, by omega, by simp at t4; omega⟩;refine Ev.bind hc ?_
   have hrt : IntKind.u64.wrap (rd ([] ++ [top]) 0) = top := by
    have : rd ([] ++ [top]) 0 = top := rfl;rw [this, wu64 (by omega) (by omega)]
   refine Ev.congr (fun k => by rw [if_neg h1, if_pos (by simp), if_pos (by simp), hrt]) ?_;refine Ev.bind s1 ?_;refine Ev.congr (fun k => by rw [show l % 4294967296 = l by omega]) ?_;exact Ev.bind t1 (Ev.now _)
 have hb0l := List.length_pos_iff.2 h0;have hbl : (b0 ++ [top]).length = b0.length + 1 := by simp
 obtain ⟨n, hn, hgo⟩ := div_l0 a b0 top (by omega) (by omega) 32 0 rfl (by simp; omega);obtain ⟨u0, u1, u2, u3, u4⟩ := shift_ev a n ha.ok hn (by omega);obtain ⟨v, v1, v2, v3, v4⟩ := shift_ev (b0 ++ [top]) n hb.ok hn (by omega);have hp2 := two_pow_pos n;have hva := val_nonneg ha.ok;have hvp : 0 < val v := by rw [v2]; exact Int.mul_pos hbp hp2
 obtain ⟨w0, wt, rfl⟩ : ∃ w0 wt, v = w0 ++ [wt] := by
  rcases eq_of_snoc v with h | h
  · rw [h] at hvp; simp [val] at hvp
  exact h
 have hle : val (w0 ++ [wt]) ≤ val u0 := by rw [u2, v2]; exact Int.mul_le_mul_of_nonneg_right (by omega) (by omega)
 have hle2 : val a ≤ val u0 := by
  rw [u2];have := Int.mul_le_mul_of_nonneg_left (show (1 : Int) ≤ 2 ^ n by omega) hva;omega
 have hlen1 := len_le v3 u3.ok hle;have hlen2 := len_le ha u3.ok hle2;have hwl : (w0 ++ [wt]).length = w0.length + 1 := by simp
 obtain ⟨q, r, j1, j2, j3, j4, j5, u, l, k1, k2, k3, k4, k5, k6⟩ := div_j1 u0 w0 wt n hn u3.ok v3 (by omega) (by omega);have hun : ((u0 ++ [0]).length : Int) = u0.length + 1 := by simp
 -- the shift falls away
 have hkey : (val a - val q * val (b0 ++ [top])) * 2 ^ n = val r * 2 ^ n + l := by
  rw [← k4, Int.sub_mul];rw [u2] at k1;rw [v2] at k1;rw [k1];have : val q * (val (b0 ++ [top]) * 2 ^ n) = val q * val (b0 ++ [top]) * 2 ^ n := by rw [Int.mul_assoc]
  omega
 have hrv : val a - val q * val (b0 ++ [top]) = val r := by
  generalize val a - val q * val (b0 ++ [top]) = X at hkey ⊢;generalize val r = Y at hkey ⊢;generalize (2 : Int) ^ n = P at *;have h1 : (X - Y) * P = l := by rw [Int.sub_mul]; omega
  by_cases hXY : X - Y = 0
  · omega
  by_cases hpos : 0 < X - Y
  · have : 1 * P ≤ (X - Y) * P := Int.mul_le_mul_of_nonneg_right (by omega) (by omega);omega
  have : (X - Y) * P ≤ (-1) * P := Int.mul_le_mul_of_nonneg_right (by omega) (by omega);omega
 have hr0 := val_nonneg j3.ok;refine ⟨q, r, ?_, by omega, hr0, ?_, j2, j3, by omega, by omega⟩
 · refine Ev.bind hc ?_;refine Ev.congr (fun k => by rw [if_neg h1, if_neg (by omega)]) ?_;refine hgo _ ?_;unfold divGo;refine Ev.bind u1 ?_;refine Ev.congr (fun k => by rw [if_pos (by omega), Option.bind_some]) ?_;refine Ev.bind v1 ?_;refine Ev.congr (fun k => by rw [if_neg (by omega)]) j1
 have h5 : val r * 2 ^ n < val (b0 ++ [top]) * 2 ^ n := by rw [← v2]; omega
 exact Int.lt_of_mul_lt_mul_right h5 (by omega)
end Go.Proofs.YtmmonhgfnmeieaaGreatDoor.Th
/- What the exported functions of nat come to, further: quotients, and what divides both. -/
namespace Go.Proofs.YtmmonhgfnmeieaaGreatDoor.Th
open Go Go.RowKit Go.ZPWords Go.ZPMore Go.Proofs.YtmmonhgfnmeieaaGreatDoor.Str Go.Proofs.YtmmonhgfnmeieaaGreatDoor.PA
theorem nat_of {m n q r : Nat} (h : (m : Int) = q * n + r) (hr : (r : Int) < n) : q = m / n ∧ r = m % n := by
 have h1 : m = q * n + r := by exact_mod_cast h
 have h2 : r < n := by exact_mod_cast hr
 subst h1;rw [Nat.mul_comm];refine ⟨?_, ?_⟩
 · rw [Nat.mul_add_div (by omega), Nat.div_eq_of_lt h2, Nat.add_zero]
 rw [Nat.mul_add_mod, Nat.mod_eq_of_lt h2]
/-- Division, in numbers. -/
theorem divide_nat (x y : List Int) (m n : Nat) (hx : Norm x) (hy : Norm y) (hm : val x = (m : Int)) (hn : val y = (n : Int)) (hn0 : n ≠ 0) (hlx : x.length ≤ 1099511627776) (hly : y.length ≤ 1099511627776) :
    ∃ q r, Ev (fun k => nat_divide.f k x y) (q, r) ∧ val q = ((m / n : Nat) : Int) ∧ val r = ((m % n : Nat) : Int) ∧ Norm q ∧ Norm r ∧ q.length ≤ x.length + 1 ∧ r.length ≤ y.length := by
 have hyne : y ≠ [] := by
  intro h;rw [h] at hn;simp [val] at hn;omega
 obtain ⟨q, r, h1, h2, h3, h4, h5, h6, h7, h8⟩ := divide_ev x y hx hy hyne hlx hly;obtain ⟨q', hq'⟩ := Int.eq_ofNat_of_zero_le (val_nonneg h5.ok);obtain ⟨r', hr'⟩ := Int.eq_ofNat_of_zero_le h3;rw [hm, hn, hq', hr'] at h2;rw [hr', hn] at h4;obtain ⟨e1, e2⟩ := nat_of h2 h4;exact ⟨q, r, h1, by rw [hq', e1], by rw [hr', e2], h5, h6, h7, len_le h6 hy.ok (by rw [hr', hn]; omega)⟩
theorem div_spec (a b : ByteArray) (ha : Fit a) (hb : Fit b) : Ev (fun k => nat_Div.f k a b) (sDiv a b) := by
 unfold Fit at ha hb;unfold sDiv
 cases h : (right a && right b) with
 | false =>
  refine Ev.bind (both_no a b h) ?_;exact Ev.congr (fun k => by rw [if_neg (by simp)]; rfl) (Ev.now _)
 | true =>
  obtain ⟨hra, hrb⟩ := cond_of h;obtain ⟨x, y, h1, h2, h3, h4, h5, h6, h7⟩ := both_yes a b (by omega) (by omega) hra hrb;refine Ev.bind h1 ?_;refine Ev.congr (fun k => by rw [if_pos rfl]) ?_;by_cases h0 : num b = 0
  · have hy : y = [] := h5.zero.1 (by rw [h3, h0]; rfl);subst hy;exact Ev.congr (fun k => by rw [if_pos (by simp), if_pos rfl, if_pos h0]) (Ev.now _)
  have hy : y ≠ [] := by
   intro e;have := h5.zero.2 e;rw [h3] at this;omega
  have hyl := List.length_pos_iff.2 hy;obtain ⟨q, r, d1, d2, d3, d4, d5, d6, d7⟩ := divide_nat x y (num a) (num b) h4 h5 h2 h3 h0 (by omega) (by omega);have hs1 := size_mono (m := num a / num b) (n := num a) (Nat.div_le_self _ _);have hs2 := size_mono (m := num a % num b) (n := num a) (Nat.mod_le _ _);rw [size_num hra] at hs1 hs2;rw [if_pos rfl, if_neg h0];refine Ev.congr (fun k => by rw [if_neg (show ¬ (y.length : Int) = 0 by omega)]) ?_;refine Ev.bind d1 ?_;refine Ev.bind (text_ev q (num a / num b) d4 d2 (by omega) (by omega)) ?_;exact Ev.bind (text_ev r (num a % num b) d5 d3 (by omega) (by omega)) (Ev.now _)
theorem gcd_l0 (n : Nat) : ∀ (m : Nat) (x y : List Int), Norm x → Norm y → val x = (m : Int) → val y = (n : Int) → x.length ≤ 549755813888 → y.length ≤ 549755813888 → (txt m).size ≤ 549755813888 → (txt n).size ≤ 549755813888 →
    Ev (fun k => nat_Gcd.l0 k x y) (txt (Nat.gcd m n), 0) := by
 induction n using Nat.strongRecOn with
 | _ n ih =>
  intro m x y hx hy hm hn hlx hly hsm hsn;by_cases h0 : n = 0
  · have hyn : y = [] := hy.zero.1 (by rw [hn, h0]; rfl);subst hyn;subst h0;rw [Nat.gcd_zero_right];refine Ev.step (fun k => by rw [nat_Gcd.l0, if_neg (by simp)]) ?_;exact Ev.bind (text_ev x m hx hm (by omega) (by omega)) (Ev.now _)
  have hyn : y ≠ [] := by
   intro e;have := hy.zero.2 e;omega
  have hyl := List.length_pos_iff.2 hyn;obtain ⟨q, r, d1, d2, d3, d4, d5, d6, d7⟩ := divide_nat x y m n hx hy hm hn h0 (by omega) (by omega);have hlt := Nat.mod_lt m (show n > 0 by omega);have hi := ih (m % n) hlt n y r hy d5 hn d3 hly (by omega) hsn (Nat.le_trans (size_mono (Nat.le_of_lt hlt)) hsn);have he : Nat.gcd m n = Nat.gcd n (m % n) := by rw [Nat.gcd_comm m n, Nat.gcd_rec n m, Nat.gcd_comm]
  rw [he];refine Ev.step (fun k => by rw [nat_Gcd.l0, if_pos (by omega)]) ?_;exact Ev.bind d1 hi
theorem gcd_spec (a b : ByteArray) (ha : Fit a) (hb : Fit b) : Ev (fun k => nat_Gcd.f k a b) (sGcd a b) := by
 unfold Fit at ha hb;unfold sGcd
 cases h : (right a && right b) with
 | false =>
  refine Ev.bind (both_no a b h) ?_;exact Ev.congr (fun k => by rw [if_neg (by simp)]; rfl) (Ev.now _)
 | true =>
  obtain ⟨hra, hrb⟩ := cond_of h;obtain ⟨x, y, h1, h2, h3, h4, h5, h6, h7⟩ := both_yes a b (by omega) (by omega) hra hrb;refine Ev.bind h1 ?_;refine Ev.congr (fun k => by rw [if_pos rfl]) ?_;exact gcd_l0 (num b) (num a) x y h4 h5 h2 h3 (by omega) (by omega) (by rw [size_num hra]; omega) (by rw [size_num hrb]; omega)
end Go.Proofs.YtmmonhgfnmeieaaGreatDoor.Th
