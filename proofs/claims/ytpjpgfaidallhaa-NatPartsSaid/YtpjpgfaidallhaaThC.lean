/- Limbs, further: sums, differences, products, which is less, division by a small one. -/
import Derived.Test.YtpjpgfaidallhaaThB
namespace Go.Proofs.Ytpjpgfaidallhaa.Th
open Go Go.RowKit Go.Proofs.YtpjpgfaidallhaaW.PrintWords Go.Proofs.Ytpjpgfaidallhaa.Str Go.Proofs.Ytpjpgfaidallhaa.PA
theorem drop_cons {b t : List Int} {i : Nat} {y : Int} (h : b.drop i = y :: t) : i < b.length ∧ rd b (i : Int) = y ∧ b.drop (i + 1) = t := by
  have h1 : i < b.length := by
    by_cases h2 : i < b.length
    · exact h2
    · rw [List.drop_eq_nil_of_le (by omega)] at h; cases h
  rw [List.drop_eq_getElem_cons h1] at h
  injection h with h2 h3
  refine ⟨h1, ?_, h3⟩
  unfold rd
  simp [List.getD, h1, h2]
theorem drop_nil {b : List Int} {i : Nat} (h : b.drop i = []) : b.length ≤ i ∧ b.drop (i + 1) = [] := by
  have := List.drop_eq_nil_iff.1 h
  exact ⟨this, List.drop_eq_nil_of_le (by omega)⟩
theorem Ok.drop {b : List Int} (h : Ok b) (i : Nat) : Ok (b.drop i) := fun y hy => h y (List.mem_of_mem_drop hy)
/-! ### add -/
theorem add_l100 : ∀ (k : Nat) (x1 x5 : List Int) (x6 : Int) (x20 : List Int) (x21 x22 : Int), nat_add.l100 k x1 x5 x6 x20 x21 x22 = nat_add.l0 k x1 x5 x6 x20 x21 x22
  | 0, _, _, _, _, _, _ => rfl
  | k + 1, x1, x5, x6, x20, x21, x22 => by
    rw [nat_add.l100, nat_add.l0]
    simp only [add_l100 k]
theorem add_l0 (b : List Int) (hb : Ok b) (rest : List Int) : ∀ (pre brest out : List Int) (c : Int), b.drop pre.length = brest → brest.length ≤ rest.length → Ok rest → Ok out → 0 ≤ c → c < 4294967296 → out.length = pre.length → (pre ++ rest).length ≤ 17592186044416 →
    ∃ r, Ev (fun k => nat_add.l0 k b out c (pre ++ rest) ((pre ++ rest).length : Int) (pre.length : Int)) r ∧ val r = val out + 4294967296 ^ out.length * (val rest + val brest + c) ∧ Norm r ∧ r.length ≤ (pre ++ rest).length + 1 := by
  induction rest with
  | nil =>
    intro pre brest out m hd hbl hr ho hm0 hm hl hlen
    have hbe : brest = [] := List.eq_nil_of_length_eq_zero (by simpa using hbl)
    subst hbe
    obtain ⟨r, h1, h2, h3, h4⟩ := trim_ev (out ++ [m]) (ho.append (Ok.single hm0 hm)) (by simp at hlen ⊢; omega)
    refine ⟨r, ?_, ?_, h3, by simp at h4 ⊢; omega⟩
    · refine Ev.step (fun k => by rw [nat_add.l0, if_neg (by simp), if_pos (by simp at hlen; omega), show m % 4294967296 = m by omega]) ?_
      exact Ev.bind h1 (Ev.now _)
    · rw [h2, val_append]; simp [val]
  | cons x rest ih =>
    intro pre brest out c hd hbl hr ho hm0 hm hl hlen
    have hx := hr.head
    have hlen' : pre.length + rest.length + 1 ≤ 17592186044416 := by simp at hlen; omega
    have hpl : (pre ++ [x]).length = pre.length + 1 := by simp
    cases brest with
    | nil =>
      obtain ⟨hd1, hd2⟩ := drop_nil hd
      have hc : IntKind.u64.wrap (c + (IntKind.u64.wrap x)) = c + x := by
        rw [wu64 (x := x) (by omega) (by omega), wu64 (by omega) (by omega)]
      obtain ⟨r, g1, g2, g3, g4⟩ := ih (pre ++ [x]) [] (out ++ [(c + x) % 4294967296]) ((c + x) / 4294967296) (by rw [hpl]; exact hd2) (by simp) hr.tail (ho.append (Ok.single (by omega) (by omega))) (by omega) (by omega) (by simp; omega) (by simp; omega)
      refine ⟨r, ?_, ?_, g3, by simp at g4 ⊢; omega⟩
      · refine Ev.step (fun k => by rw [nat_add.l0, if_pos (by simp; omega), if_pos (by omega), if_pos (by simp; omega), if_neg (by omega), if_pos (by omega), rd_mid, hc, w64 (by omega) (by omega)]) ?_
        rw [snoc_cons pre rest x, ← len_snoc pre x]
        exact g1
      · rw [g2, val_append]
        simp only [val, List.length_append, List.length_cons, List.length_nil, Nat.zero_add, Int.pow_add, Int.pow_one]
        have e : (c + x) % 4294967296 + 4294967296 * ((c + x) / 4294967296) = c + x := Int.emod_add_mul_ediv _ _
        generalize (c + x) % 4294967296 = u at e ⊢
        generalize (c + x) / 4294967296 = v at e ⊢
        grind
    | cons y brest =>
      obtain ⟨hd1, hd2, hd3⟩ := drop_cons hd
      have hy : 0 ≤ y ∧ y < 4294967296 := hb y (List.mem_of_mem_drop (i := pre.length) (by rw [hd]; exact List.mem_cons_self))
      have hc : IntKind.u64.wrap ((IntKind.u64.wrap (c + (IntKind.u64.wrap x))) + (IntKind.u64.wrap y)) = c + x + y := by
        rw [wu64 (x := x) (by omega) (by omega), wu64 (x := y) (by omega) (by omega), wu64 (x := c + x) (by omega) (by omega), wu64 (by omega) (by omega)]
      obtain ⟨r, g1, g2, g3, g4⟩ := ih (pre ++ [x]) brest (out ++ [(c + x + y) % 4294967296]) ((c + x + y) / 4294967296) (by rw [hpl]; exact hd3) (by simp at hbl; omega) hr.tail (ho.append (Ok.single (by omega) (by omega))) (by omega) (by omega) (by simp; omega) (by simp; omega)
      refine ⟨r, ?_, ?_, g3, by simp at g4 ⊢; omega⟩
      · refine Ev.step (fun k => by rw [nat_add.l0, if_pos (by simp; omega), if_pos (by omega), if_pos (by simp; omega), if_pos (by omega), if_pos (by omega), rd_mid, hd2, hc, w64 (by omega) (by omega)]) ?_
        rw [snoc_cons pre rest x, ← len_snoc pre x]
        exact g1
      · rw [g2, val_append]
        simp only [val, List.length_append, List.length_cons, List.length_nil, Nat.zero_add, Int.pow_add, Int.pow_one]
        have e : (c + x + y) % 4294967296 + 4294967296 * ((c + x + y) / 4294967296) = c + x + y := Int.emod_add_mul_ediv _ _
        generalize (c + x + y) % 4294967296 = u at e ⊢
        generalize (c + x + y) / 4294967296 = v at e ⊢
        grind
theorem add_ev (a b : List Int) (ha : Ok a) (hb : Ok b) (hla : a.length ≤ 17592186044416) (hlb : b.length ≤ 17592186044416) :
    ∃ r, Ev (fun k => nat_add.f k a b) r ∧ val r = val a + val b ∧ Norm r ∧ r.length ≤ max a.length b.length + 1 := by
  by_cases h : (a.length : Int) < (b.length : Int)
  · obtain ⟨r, h1, h2, h3, h4⟩ := add_l0 a ha b [] a [] 0 rfl (by omega) hb Ok.nil (by omega) (by omega) rfl (by simpa using hlb)
    refine ⟨r, ?_, by simp [val] at h2; omega, h3, by simp at h4; omega⟩
    refine Ev.congr (fun k => by rw [nat_add.f, if_pos h, w64 (by omega) (by omega), if_pos (by omega), if_pos (by omega)]) ?_
    simpa using h1
  · obtain ⟨r, h1, h2, h3, h4⟩ := add_l0 b hb a [] b [] 0 rfl (by omega) ha Ok.nil (by omega) (by omega) rfl (by simpa using hla)
    refine ⟨r, ?_, by simp [val] at h2; omega, h3, by simp at h4; omega⟩
    refine Ev.congr (fun k => by rw [nat_add.f, if_neg h, w64 (by omega) (by omega), if_pos (by omega), if_pos (by omega), add_l100]) ?_
    simpa using h1
/-! ### sub -/
theorem sub_l0 (b : List Int) (hb : Ok b) (rest : List Int) : ∀ (p brest : List Int) (c : Int), b.drop p.length = brest → brest.length ≤ rest.length → Ok p → Ok rest → 0 ≤ c → c ≤ 1 → val brest + c ≤ val rest → (p ++ rest).length ≤ 17592186044416 →
    ∃ r, Ev (fun k => nat_sub.l0 k b (p ++ rest) c ((p ++ rest).length : Int) (p.length : Int)) r ∧ val r = val p + 4294967296 ^ p.length * (val rest - val brest - c) ∧ Norm r ∧ r.length ≤ (p ++ rest).length := by
  induction rest with
  | nil =>
    intro p brest c hd hbl hp hr hm0 hm hle hlen
    have hbe : brest = [] := List.eq_nil_of_length_eq_zero (by simpa using hbl)
    subst hbe
    simp only [val] at hle
    have hc : c = 0 := by omega
    subst hc
    obtain ⟨r, h1, h2, h3, h4⟩ := trim_ev p hp (by simp at hlen ⊢; omega)
    refine ⟨r, ?_, ?_, h3, by simpa using h4⟩
    · refine Ev.step (fun k => by rw [nat_sub.l0, if_neg (by simp), List.append_nil]) ?_
      exact Ev.bind h1 (Ev.now _)
    · rw [h2]; simp [val]
  | cons x rest ih =>
    intro p brest c hd hbl hp hr hm0 hm hle hlen
    have hx := hr.head
    have hlen' : p.length + rest.length + 1 ≤ 17592186044416 := by simp at hlen; omega
    have hpl : ∀ z : Int, (p ++ [z]).length = p.length + 1 := by simp
    have hil : ((p ++ x :: rest).length : Int) = (p.length : Int) + rest.length + 1 := by simp; omega
    have hset : ∀ z : Int, (p ++ x :: rest).set ((p.length : Int)).toNat z = (p ++ [z]) ++ rest := fun z => by rw [set_mid, snoc_cons]
    have hln : ∀ z : Int, ((p ++ x :: rest).length : Int) = (((p ++ [z]) ++ rest).length : Int) := fun z => by simp
    have hrs := val_nonneg hr.tail
    cases brest with
    | nil =>
      obtain ⟨hd1, hd2⟩ := drop_nil hd
      simp only [val] at hle
      by_cases ht : x < c
      · have he : (IntKind.u64.wrap ((IntKind.u64.wrap ((IntKind.u64.wrap x) + (1 * 4294967296))) - c)) % 4294967296 = x + 4294967296 - c := by
          rw [wu64 (x := x) (by omega) (by omega), wu64 (x := x + 1 * 4294967296) (by omega) (by omega), wu64 (by omega) (by omega)] <;> omega
        obtain ⟨r, g1, g2, g3, g4⟩ := ih (p ++ [x + 4294967296 - c]) [] 1 (by rw [hpl]; exact hd2) (by simp) (hp.append (Ok.single (by omega) (by omega))) hr.tail (by omega) (by omega) (by simp only [val]; omega) (by simp; omega)
        refine ⟨r, ?_, ?_, g3, by simp at g4 ⊢; omega⟩
        · refine Ev.step (fun k => by rw [nat_sub.l0, if_pos (by omega), if_neg (by omega), if_pos (by omega), if_pos (by omega), rd_mid, if_pos (by rw [wu64 (x := x) (by omega) (by omega)]; exact ht), he, w64 (by omega) (by omega), hset, hln (x + 4294967296 - c), ← len_snoc p (x + 4294967296 - c)]) g1
        · rw [g2, val_append]
          simp only [val, List.length_append, List.length_cons, List.length_nil, Nat.zero_add, Int.pow_add, Int.pow_one]
          grind
      · have he : (IntKind.u64.wrap ((IntKind.u64.wrap ((IntKind.u64.wrap x) + (0 * 4294967296))) - c)) % 4294967296 = x - c := by
          rw [wu64 (x := x) (by omega) (by omega), wu64 (x := x + 0 * 4294967296) (by omega) (by omega), wu64 (by omega) (by omega)] <;> omega
        obtain ⟨r, g1, g2, g3, g4⟩ := ih (p ++ [x - c]) [] 0 (by rw [hpl]; exact hd2) (by simp) (hp.append (Ok.single (by omega) (by omega))) hr.tail (by omega) (by omega) (by simp only [val]; omega) (by simp; omega)
        refine ⟨r, ?_, ?_, g3, by simp at g4 ⊢; omega⟩
        · refine Ev.step (fun k => by rw [nat_sub.l0, if_pos (by omega), if_neg (by omega), if_pos (by omega), if_pos (by omega), rd_mid, if_neg (by rw [wu64 (x := x) (by omega) (by omega)]; exact ht), he, w64 (by omega) (by omega), hset, hln (x - c), ← len_snoc p (x - c)]) g1
        · rw [g2, val_append]
          simp only [val, List.length_append, List.length_cons, List.length_nil, Nat.zero_add, Int.pow_add, Int.pow_one]
          grind
    | cons y brest =>
      obtain ⟨hd1, hd2, hd3⟩ := drop_cons hd
      have hy : 0 ≤ y ∧ y < 4294967296 := hb y (List.mem_of_mem_drop (i := p.length) (by rw [hd]; exact List.mem_cons_self))
      have hbr : Ok brest := by rw [← hd3]; exact hb.drop _
      have hbs := val_nonneg hbr
      have hw : IntKind.u64.wrap (c + (IntKind.u64.wrap y)) = c + y := by rw [wu64 (x := y) (by omega) (by omega), wu64 (by omega) (by omega)]
      have hbl' : brest.length ≤ rest.length := by simp at hbl; omega
      simp only [val] at hle
      by_cases ht : x < c + y
      · have he : (IntKind.u64.wrap ((IntKind.u64.wrap ((IntKind.u64.wrap x) + (1 * 4294967296))) - (c + y))) % 4294967296 = x + 4294967296 - (c + y) := by
          rw [wu64 (x := x) (by omega) (by omega), wu64 (x := x + 1 * 4294967296) (by omega) (by omega), wu64 (by omega) (by omega)] <;> omega
        obtain ⟨r, g1, g2, g3, g4⟩ := ih (p ++ [x + 4294967296 - (c + y)]) brest 1 (by rw [hpl]; exact hd3) hbl' (hp.append (Ok.single (by omega) (by omega))) hr.tail (by omega) (by omega) (by omega) (by simp; omega)
        refine ⟨r, ?_, ?_, g3, by simp at g4 ⊢; omega⟩
        · refine Ev.step (fun k => by rw [nat_sub.l0, if_pos (by omega), if_pos (by omega), if_pos (by omega), if_pos (by omega), rd_mid, hd2, hw, if_pos (by rw [wu64 (x := x) (by omega) (by omega)]; exact ht), he, w64 (by omega) (by omega), hset, hln (x + 4294967296 - (c + y)), ← len_snoc p (x + 4294967296 - (c + y))]) g1
        · rw [g2, val_append]
          simp only [val, List.length_append, List.length_cons, List.length_nil, Nat.zero_add, Int.pow_add, Int.pow_one]
          grind
      · have he : (IntKind.u64.wrap ((IntKind.u64.wrap ((IntKind.u64.wrap x) + (0 * 4294967296))) - (c + y))) % 4294967296 = x - (c + y) := by
          rw [wu64 (x := x) (by omega) (by omega), wu64 (x := x + 0 * 4294967296) (by omega) (by omega), wu64 (by omega) (by omega)] <;> omega
        obtain ⟨r, g1, g2, g3, g4⟩ := ih (p ++ [x - (c + y)]) brest 0 (by rw [hpl]; exact hd3) hbl' (hp.append (Ok.single (by omega) (by omega))) hr.tail (by omega) (by omega) (by omega) (by simp; omega)
        refine ⟨r, ?_, ?_, g3, by simp at g4 ⊢; omega⟩
        · refine Ev.step (fun k => by rw [nat_sub.l0, if_pos (by omega), if_pos (by omega), if_pos (by omega), if_pos (by omega), rd_mid, hd2, hw, if_neg (by rw [wu64 (x := x) (by omega) (by omega)]; exact ht), he, w64 (by omega) (by omega), hset, hln (x - (c + y)), ← len_snoc p (x - (c + y))]) g1
        · rw [g2, val_append]
          simp only [val, List.length_append, List.length_cons, List.length_nil, Nat.zero_add, Int.pow_add, Int.pow_one]
          grind
theorem clone_ev (l : List Int) (h : l.length < 35184372088832) : nat_limbs_uint32.f l = some l := by rw [nat_limbs_uint32.f, if_pos h]
theorem sub_ev (a b : List Int) (ha : Ok a) (hb : Ok b) (hl : b.length ≤ a.length) (hle : val b ≤ val a) (hla : a.length ≤ 17592186044416) :
    ∃ r, Ev (fun k => nat_sub.f k a b) r ∧ val r = val a - val b ∧ Norm r ∧ r.length ≤ a.length := by
  obtain ⟨r, h1, h2, h3, h4⟩ := sub_l0 b hb a [] b 0 rfl hl Ok.nil ha (by omega) (by omega) (by omega) (by simpa using hla)
  refine ⟨r, ?_, by simp [val] at h2; omega, h3, by simpa using h4⟩
  refine Ev.congr (fun k => by rw [nat_sub.f, clone_ev a (by omega), Option.bind_some]) ?_
  simpa using h1
end Go.Proofs.Ytpjpgfaidallhaa.Th
