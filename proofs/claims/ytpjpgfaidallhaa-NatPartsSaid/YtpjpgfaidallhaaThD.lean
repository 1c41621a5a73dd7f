/- Limbs, further: products, which is less, division by a small one, a shift. -/
import Derived.Test.YtpjpgfaidallhaaThC
namespace Go.Proofs.Ytpjpgfaidallhaa.Th
open Go Go.RowKit Go.Proofs.YtpjpgfaidallhaaW.PrintWords Go.Proofs.Ytpjpgfaidallhaa.Str Go.Proofs.Ytpjpgfaidallhaa.PA
/-! ### mul -/
theorem mul_l1 (b a : List Int) (hb : Ok b) (x i : Int) (hx0 : 0 ≤ x) (hx : x < 4294967296) (hi0 : 0 ≤ i) (hi : i ≤ 17592186044416) (hbl : b.length ≤ 17592186044416) (zs : List Int) (z : Int) (hzl : zs.length ≤ 17592186044416) (brest : List Int) :
    ∀ (q m : List Int) (kk : Nat) (c : Int), b.drop kk = brest → kk + brest.length = b.length → (q.length : Int) = i + kk → m.length = brest.length → Ok m → 0 ≤ c → c < 4294967296 →
    ∃ m', m'.length = brest.length + 1 ∧ Ok m' ∧ val m' = val m + x * val brest + c ∧
      ∀ r, Ev (fun k => nat_mul.l0 k b (q ++ m' ++ zs) a (a.length : Int) (wrap64 (i + 1))) r → Ev (fun k => nat_mul.l1 k b (q ++ m ++ z :: zs) i x c a (a.length : Int) i b (b.length : Int) (kk : Int)) r := by
  induction brest with
  | nil =>
    intro q m kk c hd hkl hq hm hmo hc0 hc
    have hme : m = [] := List.eq_nil_of_length_eq_zero (by simpa using hm)
    subst hme
    simp at hkl
    refine ⟨[c], rfl, Ok.single hc0 hc, by simp [val], fun r h => ?_⟩
    have hw : wrap64 (i + (b.length : Int)) = (q.length : Int) := by rw [w64 (by omega) (by omega)]; omega
    refine Ev.step (fun k => by rw [nat_mul.l1, if_neg (by omega), hw, if_pos (by omega), if_pos (by simp; omega), List.append_nil, set_mid, show c % 4294967296 = c by omega]) ?_
    simpa using h
  | cons y brest ih =>
    intro q m kk c hd hkl hq hm hmo hc0 hc
    cases m with
    | nil => simp at hm
    | cons u m =>
      obtain ⟨hd1, hd2, hd3⟩ := drop_cons hd
      have hy : 0 ≤ y ∧ y < 4294967296 := hb y (List.mem_of_mem_drop (i := kk) (by rw [hd]; exact List.mem_cons_self))
      have hu := hmo.head
      have h0 : 0 ≤ x * y := Int.mul_nonneg hx0 hy.1
      have h1 : x * y ≤ 4294967295 * 4294967295 := by
        have := Int.mul_le_mul (a := x) (b := y) (c := 4294967295) (d := 4294967295) (by omega) (by omega) hy.1 (by omega)
        omega
      have hcur : IntKind.u64.wrap (c + (IntKind.u64.wrap ((IntKind.u64.wrap u) + (IntKind.u64.wrap ((IntKind.u64.wrap x) * (IntKind.u64.wrap y)))))) = c + u + x * y := by
        rw [wu64 (x := u) (by omega) (by omega), wu64 (x := x) (by omega) (by omega), wu64 (x := y) (by omega) (by omega), wu64 (x := x * y) (by omega) (by omega), wu64 (x := u + x * y) (by omega) (by omega), wu64 (by omega) (by omega)]
        omega
      simp only [List.length_cons] at hkl hm
      obtain ⟨m', g1, g2, g3, g4⟩ := ih (q ++ [(c + u + x * y) % 4294967296]) m (kk + 1) ((c + u + x * y) / 4294967296) hd3 (by omega) (by simp; omega) (by omega) hmo.tail (by omega) (by omega)
      refine ⟨(c + u + x * y) % 4294967296 :: m', by simp [g1], Ok.cons (by omega) (by omega) g2, ?_, fun r h => ?_⟩
      · simp only [val]
        rw [g3]
        have e : (c + u + x * y) % 4294967296 + 4294967296 * ((c + u + x * y) / 4294967296) = c + u + x * y := Int.emod_add_mul_ediv _ _
        generalize (c + u + x * y) % 4294967296 = s at e ⊢
        generalize (c + u + x * y) / 4294967296 = t at e ⊢
        grind
      · have hw : wrap64 (i + (kk : Int)) = (q.length : Int) := by rw [w64 (by omega) (by omega)]; omega
        have hap : q ++ (u :: m) ++ z :: zs = q ++ u :: (m ++ z :: zs) := by simp
        have hg := g4 r (by simpa using h)
        refine Ev.step (fun k => by rw [nat_mul.l1, if_pos (by omega), if_pos (by omega), if_pos (by omega), hw, if_pos (by omega), if_pos (by simp; omega), hap, rd_mid, hd2, hcur, set_mid, w64 (by omega) (by omega)]) ?_
        have e1 : q ++ (c + u + x * y) % 4294967296 :: (m ++ z :: zs) = q ++ [(c + u + x * y) % 4294967296] ++ m ++ z :: zs := by simp
        rw [e1]
        exact hg
theorem mul_l0 (b : List Int) (hb : Ok b) (hbl : b.length ≤ 8796093022208) (arest : List Int) : ∀ (apre q m : List Int), Ok arest → q.length = apre.length → m.length = b.length → Ok q → Ok m → (apre ++ arest).length ≤ 8796093022208 →
    ∃ r, Ev (fun k => nat_mul.l0 k b (q ++ m ++ List.replicate arest.length 0) (apre ++ arest) ((apre ++ arest).length : Int) (apre.length : Int)) r ∧ val r = val q + 4294967296 ^ q.length * (val m + val arest * val b) ∧ Norm r ∧ r.length ≤ (apre ++ arest).length + b.length := by
  induction arest with
  | nil =>
    intro apre q m ha hq hm hqo hmo hlen
    simp only [List.append_nil] at hlen
    obtain ⟨r, h1, h2, h3, h4⟩ := trim_ev (q ++ m) (hqo.append hmo) (by simp; omega)
    refine ⟨r, ?_, ?_, h3, by simp at h4 ⊢; omega⟩
    · refine Ev.step (fun k => by rw [nat_mul.l0, if_neg (by simp), List.length_nil, List.replicate_zero, List.append_nil]) ?_
      exact Ev.bind h1 (Ev.now _)
    · rw [h2, val_append]; simp [val]
  | cons x arest ih =>
    intro apre q m ha hq hm hqo hmo hlen
    have hx := ha.head
    have hlen' : apre.length + arest.length + 1 ≤ 8796093022208 := by simp at hlen; omega
    obtain ⟨m', g1, g2, g3, g4⟩ := mul_l1 b (apre ++ x :: arest) hb x (apre.length : Int) hx.1 hx.2 (by omega) (by omega) (by omega) (List.replicate arest.length 0) 0 (by simp; omega) b q m 0 0 rfl (by omega) (by omega) hm hmo (by omega) (by omega)
    obtain ⟨s, m'', rfl⟩ : ∃ s m'', m' = s :: m'' := by
      cases m' with
      | nil => simp at g1
      | cons s m'' => exact ⟨s, m'', rfl⟩
    have hs := g2.head
    obtain ⟨r, r1, r2, r3, r4⟩ := ih (apre ++ [x]) (q ++ [s]) m'' ha.tail (by simp; omega) (by simpa using g1) (hqo.append (Ok.single hs.1 hs.2)) g2.tail (by simp; omega)
    have hln : (apre ++ [x]) ++ arest = apre ++ x :: arest := by simp
    rw [hln] at r1 r4
    refine ⟨r, ?_, ?_, r3, by simp at r4 ⊢; omega⟩
    · refine Ev.step (fun k => by rw [nat_mul.l0, if_pos (by simp; omega), if_pos (by omega), if_pos (by simp; omega), rd_mid]) ?_
      have hz : q ++ m ++ List.replicate (x :: arest).length 0 = q ++ m ++ 0 :: List.replicate arest.length 0 := by simp [List.replicate_succ]
      rw [hz]
      refine g4 r ?_
      rw [w64 (by omega) (by omega), ← len_snoc apre x]
      simpa using r1
    · rw [r2, val_append]
      simp only [val, List.length_append, List.length_cons, List.length_nil, Nat.zero_add, Int.pow_add, Int.pow_one] at g3 ⊢
      grind
theorem mul_ev (a b : List Int) (ha : Ok a) (hb : Ok b) (hla : a.length ≤ 8796093022208) (hlb : b.length ≤ 8796093022208) :
    ∃ r, Ev (fun k => nat_mul.f k a b) r ∧ val r = val a * val b ∧ Norm r ∧ r.length ≤ a.length + b.length := by
  obtain ⟨r, h1, h2, h3, h4⟩ := mul_l0 b hb hlb a [] [] (List.replicate b.length 0) ha rfl (by simp) Ok.nil (Ok.zeros _) (by simpa using hla)
  refine ⟨r, ?_, by simpa [val, val_zeros] using h2, h3, by simpa using h4⟩
  refine Ev.congr (fun k => by rw [nat_mul.f, w64 (by omega) (by omega), if_pos (by omega), if_pos (by omega)]) ?_
  have e : List.replicate ((a.length : Int) + (b.length : Int)).toNat (0 : Int) = [] ++ List.replicate b.length 0 ++ List.replicate a.length 0 := by
    rw [List.nil_append, List.replicate_append_replicate]
    congr 1
    omega
  rw [e]
  simpa using h1
/-! ### compare -/
def cmp (x y : Int) : Int := if x < y then -1 else if y < x then 1 else 0
theorem cmp_l0 (s t : List Int) (n : Nat) : ∀ (p q : List Int), p.length = n → q.length = n → Ok p → Ok q → (p ++ s).length ≤ 17592186044416 →
    Ev (fun k => nat_compare.l0 k (p ++ s) (q ++ t) ((n : Int) - 1)) (cmp (val p) (val q)) := by
  induction n generalizing s t with
  | zero =>
    intro p q hp hq _ _ _
    have h1 := List.eq_nil_of_length_eq_zero hp
    have h2 := List.eq_nil_of_length_eq_zero hq
    subst h1; subst h2
    exact Ev.step (fun k => by rw [nat_compare.l0, if_neg (by omega)]; rfl) (Ev.now _)
  | succ n ih =>
    intro p q hp hq hpo hqo hlen
    rcases eq_of_snoc p with h | ⟨p, x, rfl⟩
    · subst h; simp at hp
    rcases eq_of_snoc q with h | ⟨q, y, rfl⟩
    · subst h; simp at hq
    have hp' : p.length = n := by simp at hp; exact hp
    have hq' : q.length = n := by simp at hq; exact hq
    have hi : ((n + 1 : Nat) : Int) - 1 = (p.length : Int) := by omega
    have hi2 : ((p.length : Nat) : Int) = (q.length : Int) := by omega
    have ep : p ++ [x] ++ s = p ++ x :: s := by simp
    have eq' : q ++ [y] ++ t = q ++ y :: t := by simp
    have hln : p.length < 17592186044416 := by simp at hlen; omega
    have hx := hpo.right.head
    have hy := hqo.right.head
    rw [hi, ep, eq']
    have rx : rd (p ++ x :: s) (p.length : Int) = x := rd_mid _ _ _
    have ry : rd (q ++ y :: t) (p.length : Int) = y := by rw [hi2]; exact rd_mid _ _ _
    by_cases hxy : x = y
    · subst hxy
      have hv : cmp (val (p ++ [x])) (val (q ++ [x])) = cmp (val p) (val q) := by
        rw [val_append, val_append, hp', hq']
        unfold cmp
        generalize (4294967296 : Int) ^ n * val [x] = w
        by_cases h1 : val p < val q
        · rw [if_pos h1, if_pos (by omega)]
        · rw [if_neg h1, if_neg (by omega)]
          by_cases h2 : val q < val p
          · rw [if_pos h2, if_pos (by omega)]
          · rw [if_neg h2, if_neg (by omega)]
      rw [hv]
      refine Ev.step (fun k => by rw [nat_compare.l0, if_pos (by omega), if_pos (by omega), if_pos (by simp; omega), if_pos (by simp; omega), rx, ry, if_pos rfl, w64 (by omega) (by omega), hp']) ?_
      exact ih (x :: s) (x :: t) p q hp' hq' hpo.left hqo.left (by simp at hlen ⊢; omega)
    · have h1 := val_lt hpo.left
      have h2 := val_lt hqo.left
      have h3 := val_nonneg hpo.left
      have h4 := val_nonneg hqo.left
      rw [hp'] at h1
      rw [hq'] at h2
      have hpw := pow_pos' n
      have vp : val (p ++ [x]) = val p + 4294967296 ^ n * x := by rw [val_append, hp']; simp [val]
      have vq : val (q ++ [y]) = val q + 4294967296 ^ n * y := by rw [val_append, hq']; simp [val]
      refine Ev.step (fun k => by rw [nat_compare.l0, if_pos (by omega), if_pos (by omega), if_pos (by simp; omega), if_pos (by simp; omega), rx, ry, if_neg hxy]) ?_
      by_cases hlt : x < y
      · have h5 : (4294967296 : Int) ^ n * (x + 1) ≤ 4294967296 ^ n * y := Int.mul_le_mul_of_nonneg_left (by omega) (by omega)
        rw [Int.mul_add, Int.mul_one] at h5
        have : cmp (val (p ++ [x])) (val (q ++ [y])) = -1 := by unfold cmp; rw [vp, vq, if_pos (by omega)]
        rw [this]
        exact Ev.congr (fun k => by rw [if_pos hlt]) (Ev.now _)
      · have h5 : (4294967296 : Int) ^ n * (y + 1) ≤ 4294967296 ^ n * x := Int.mul_le_mul_of_nonneg_left (by omega) (by omega)
        rw [Int.mul_add, Int.mul_one] at h5
        have : cmp (val (p ++ [x])) (val (q ++ [y])) = 1 := by unfold cmp; rw [vp, vq, if_neg (by omega), if_pos (by omega)]
        rw [this]
        exact Ev.congr (fun k => by rw [if_neg hlt]) (Ev.now _)
theorem cmp_ev (a b : List Int) (ha : Norm a) (hb : Norm b) (hla : a.length ≤ 17592186044416) : Ev (fun k => nat_compare.f k a b) (cmp (val a) (val b)) := by
  by_cases hl : (a.length : Int) = (b.length : Int)
  · have h := cmp_l0 [] [] a.length a b rfl (by omega) ha.ok hb.ok (by simpa using hla)
    refine Ev.congr (fun k => by rw [nat_compare.f, if_pos hl, w64 (by omega) (by omega)]) ?_
    simpa using h
  · by_cases hlt : (a.length : Int) < (b.length : Int)
    · have h1 := val_lt ha.ok
      have h2 := hb.ge (by intro h; subst h; simp only [List.length_nil] at hlt; omega)
      have h3 := pow_mono (m := a.length) (n := b.length - 1) (by omega)
      have : cmp (val a) (val b) = -1 := by unfold cmp; rw [if_pos (by omega)]
      rw [this]
      exact Ev.congr (fun k => by rw [nat_compare.f, if_neg hl, if_pos hlt]) (Ev.now _)
    · have h1 := val_lt hb.ok
      have h2 := ha.ge (by intro h; subst h; simp only [List.length_nil] at hlt hl; omega)
      have h3 := pow_mono (m := b.length) (n := a.length - 1) (by omega)
      have : cmp (val a) (val b) = 1 := by unfold cmp; rw [if_neg (by omega), if_pos (by omega)]
      rw [this]
      exact Ev.congr (fun k => by rw [nat_compare.f, if_neg hl, if_neg hlt]) (Ev.now _)
/-! ### small -/
theorem or_join {a x : Int} (ha0 : 0 ≤ a) (ha : a < 4294967296) (hx0 : 0 ≤ x) (hx : x < 4294967296) : Go.bits .or .u64 (IntKind.u64.wrap (a * 4294967296)) (IntKind.u64.wrap x) = a * 4294967296 + x := by
  rw [wu64 (x := a * 4294967296) (by omega) (by omega), wu64 (x := x) (by omega) (by omega)]
  exact bits_join .u64 64 (by decide) (fun n h0 h1 => wu64 h0 (by simpa using h1)) 32 _ _ (by omega) (by simp) (by simp; omega) hx0 (by simpa using hx) (by simp; omega)
theorem small_l0 (d : Int) (hd0 : 0 < d) (hd : d < 4294967296) (n : Nat) : ∀ (p q : List Int) (l : Int), p.length = n → Ok p → Ok q → 0 ≤ l → l < d → (p ++ q).length ≤ 17592186044416 →
    ∃ r l' v, Ev (fun k => nat_small.l0 k d (p ++ q) l ((n : Int) - 1)) (r, l') ∧ val p + 4294967296 ^ n * l = v * d + l' ∧ val r = v + 4294967296 ^ n * val q ∧ 0 ≤ l' ∧ l' < d ∧ Norm r ∧ r.length ≤ (p ++ q).length := by
  induction n with
  | zero =>
    intro p q l hp hpo hqo hl0 hl hlen
    have h1 := List.eq_nil_of_length_eq_zero hp
    subst h1
    obtain ⟨r, h1, h2, h3, h4⟩ := trim_ev q hqo (by simp at hlen; omega)
    refine ⟨r, l, 0, ?_, by simp [val], by simp [h2], hl0, hl, h3, by simpa using h4⟩
    refine Ev.step (fun k => by rw [nat_small.l0, if_neg (by omega), List.nil_append]) ?_
    exact Ev.bind h1 (Ev.now _)
  | succ n ih =>
    intro p q l hp hpo hqo hl0 hl hlen
    rcases eq_of_snoc p with h | ⟨p, x, rfl⟩
    · subst h; simp at hp
    have hp' : p.length = n := by simp at hp; exact hp
    have hx := hpo.right.head
    have hi : ((n + 1 : Nat) : Int) - 1 = (p.length : Int) := by omega
    have ep : p ++ [x] ++ q = p ++ x :: q := by simp
    have hln : p.length < 17592186044416 := by simp at hlen; omega
    have hq1 : (l * 4294967296 + x) / d < 4294967296 := by
      apply Int.ediv_lt_of_lt_mul hd0
      have : l + 1 ≤ d := hl
      have h5 : (l + 1) * 4294967296 ≤ d * 4294967296 := Int.mul_le_mul_of_nonneg_right this (by omega)
      omega
    have hq0 : 0 ≤ (l * 4294967296 + x) / d := Int.ediv_nonneg (by omega) (by omega)
    have hm0 : 0 ≤ (l * 4294967296 + x) % d := Int.emod_nonneg _ (by omega)
    have hm1 : (l * 4294967296 + x) % d < d := Int.emod_lt_of_pos _ hd0
    obtain ⟨r, l', v, g1, g2, g3, g4, g5, g6, g7⟩ := ih p ((l * 4294967296 + x) / d :: q) ((l * 4294967296 + x) % d) hp' hpo.left (Ok.cons hq0 hq1 hqo) hm0 hm1 (by simp at hlen ⊢; omega)
    refine ⟨r, l', v + 4294967296 ^ n * ((l * 4294967296 + x) / d), ?_, ?_, ?_, g4, g5, g6, by simp at g7 ⊢; omega⟩
    · rw [hi, ep]
      refine Ev.step (fun k => by rw [nat_small.l0, if_pos (by omega), if_pos (by omega), if_pos (by simp; omega), if_neg (by omega), rd_mid, or_join hl0 (by omega) hx.1 hx.2, Int.tdiv_eq_ediv_of_nonneg (by omega), Int.tmod_eq_emod_of_nonneg (by omega), wu64 hq0 (by omega), show ((l * 4294967296 + x) / d) % 4294967296 = (l * 4294967296 + x) / d from Int.emod_eq_of_lt hq0 hq1, set_mid, w64 (by omega) (by omega), hp']) g1
    · rw [val_append, hp']
      have e : (l * 4294967296 + x) % d + d * ((l * 4294967296 + x) / d) = l * 4294967296 + x := Int.emod_add_mul_ediv _ _
      simp only [val, Int.pow_succ]
      generalize (l * 4294967296 + x) % d = s at *
      generalize (l * 4294967296 + x) / d = t at *
      grind
    · rw [g3]
      simp only [val, Int.pow_succ]
      grind
theorem small_ev (a : List Int) (d : Int) (ha : Ok a) (hd0 : 0 < d) (hd : d < 4294967296) (hla : a.length ≤ 17592186044416) :
    ∃ r l, Ev (fun k => nat_small.f k a d) (r, l) ∧ val a = val r * d + l ∧ 0 ≤ l ∧ l < d ∧ Norm r ∧ r.length ≤ a.length := by
  obtain ⟨r, l, v, h1, h2, h3, h4, h5, h6, h7⟩ := small_l0 d hd0 hd a.length a [] 0 rfl ha Ok.nil (by omega) hd0 (by simpa using hla)
  refine ⟨r, l, ?_, ?_, h4, h5, h6, by simpa using h7⟩
  · refine Ev.congr (fun k => by rw [nat_small.f, clone_ev a (by omega), Option.bind_some, w64 (by omega) (by omega)]) ?_
    simpa using h1
  · simp only [val, Int.mul_zero, Int.add_zero] at h2 h3
    rw [h2, h3]
end Go.Proofs.Ytpjpgfaidallhaa.Th
