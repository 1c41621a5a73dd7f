/- Quotients and remainders of limbs; what the exported functions of nat come to. -/
import Derived.Test.YtpjpgfaidallhaaThF
namespace Go.Proofs.Ytpjpgfaidallhaa.Th
open Go Go.RowKit Go.Proofs.YtpjpgfaidallhaaW.PrintWords Go.Proofs.YtpjpgfaidallhaaW.PrintMore Go.Proofs.Ytpjpgfaidallhaa.Str Go.Proofs.Ytpjpgfaidallhaa.PA
/-! ### shifts -/
theorem two_pow_le {m n : Nat} (h : m ≤ n) : (2 : Int) ^ m ≤ 2 ^ n := by exact_mod_cast Nat.pow_le_pow_right (n := 2) (by omega) h
theorem two_pow_pos (n : Nat) : (0 : Int) < 2 ^ n := Int.pow_pos (by omega)
theorem two_pow_lt {n : Nat} (h : n ≤ 31) : (2 : Int) ^ n < 4294967296 := by
  have h1 := two_pow_le h
  have h2 : (2 : Int) ^ 31 = 2147483648 := by decide
  omega
theorem shl_one {n : Nat} (h : n ≤ 31) : shl .u64 1 (n : Int) = 2 ^ n := by
  have h1 := two_pow_lt h
  have h2 := two_pow_pos n
  unfold shl
  have h3 : min ((n : Int)).toNat (IntKind.u64.bits) = n := by simp [IntKind.bits]; omega
  rw [h3, Int.one_mul, wu64 (by omega) (by omega)]
theorem shl_top {b : Int} {n : Nat} (hb0 : 0 ≤ b) (h : b * 2 ^ n < 4294967296) (hn : n ≤ 32) : shl .u32 b (n : Int) = b * 2 ^ n := by
  have h2 := two_pow_pos n
  have h4 : 0 ≤ b * 2 ^ n := Int.mul_nonneg hb0 (by omega)
  unfold shl
  have h3 : min ((n : Int)).toNat (IntKind.u32.bits) = n := by simp [IntKind.bits]; omega
  rw [h3, IntKind.wrap_u32]
  exact Int.emod_eq_of_lt h4 h
theorem shift_ev (l : List Int) (n : Nat) (hl : Ok l) (hn : n ≤ 31) (hlen : l.length ≤ 17592186044416) : ∃ r, Ev (fun k => nat_shift.f k l (n : Int)) r ∧ val r = val l * 2 ^ n ∧ Norm r ∧ r.length ≤ l.length + 1 := by
  have h1 := two_pow_lt hn
  have h2 := two_pow_pos n
  obtain ⟨r, r1, r2, r3, r4⟩ := step_ev l (2 ^ n) 0 hl (by omega) h1 (by omega) (by omega) hlen
  refine ⟨r, ?_, by omega, r3, r4⟩
  refine Ev.congr (fun k => by rw [nat_shift.f, if_pos (by omega), shl_one hn]) ?_
  exact Ev.bind r1 (Ev.now _)
/-! ### the loop of digits -/
theorem div_l1 (v0 : List Int) (top : Int) (hv : Norm (v0 ++ [top])) (n : Nat) (hn : n ≤ 31) (J : Nat) : ∀ (lo rest q0 qs : List Int) (z : Nat), lo.length = J → q0.length = J → rest.length = v0.length + 1 → Ok lo → Ok rest → Ok qs → val rest < val (v0 ++ [top]) → (lo ++ rest ++ List.replicate z 0).length ≤ 4398046511104 → (q0 ++ qs).length ≤ 4398046511104 →
    ∃ ql u qt rt, Ev (fun k => nat_divide.l1 k (n : Int) (lo ++ rest ++ List.replicate z 0) (v0 ++ [top]) (q0 ++ qs) top ((J : Int) - 1)) (qt, rt) ∧ val lo + 4294967296 ^ J * val rest = val ql * val (v0 ++ [top]) + u ∧ ql.length = J ∧ Ok ql ∧ 0 ≤ u ∧ u < val (v0 ++ [top]) ∧ val qt = val (ql ++ qs) ∧ Norm qt ∧ (∃ l, u = val rt * 2 ^ n + l ∧ 0 ≤ l ∧ l < 2 ^ n) ∧ Norm rt ∧ qt.length ≤ (q0 ++ qs).length ∧ rt.length ≤ (lo ++ rest ++ List.replicate z 0).length := by
  induction J with
  | zero =>
    intro lo rest q0 qs z hlo hq0 hrl hloo hro hqo hrv hlen hqlen
    have h1 := List.eq_nil_of_length_eq_zero hlo
    have h2 := List.eq_nil_of_length_eq_zero hq0
    subst h1; subst h2
    simp only [List.nil_append] at hlen hqlen ⊢
    have hok : Ok (rest ++ List.replicate z 0) := hro.append (Ok.zeros _)
    have hvz : val (rest ++ List.replicate z 0) = val rest := by rw [val_append, val_zeros]; simp
    obtain ⟨t, t1, t2, t3, t4⟩ := trim_ev (rest ++ List.replicate z 0) hok (Nat.le_trans hlen (by decide))
    obtain ⟨rt, l, s1, s2, s3, s4, s5, s6⟩ := small_ev t (2 ^ n) t3.ok (two_pow_pos n) (two_pow_lt hn) (Nat.le_trans t4 (Nat.le_trans hlen (by decide)))
    obtain ⟨qt, c1, c2, c3, c4⟩ := trim_ev qs hqo (Nat.le_trans hqlen (by decide))
    refine ⟨[], val rest, qt, rt, ?_, by simp [val], rfl, Ok.nil, val_nonneg hro, hrv, by rw [c2]; rfl, c3, ⟨l, by rw [← s2, t2, hvz], s3, s4⟩, s5, c4, Nat.le_trans s6 t4⟩
    refine Ev.step (fun k => by rw [nat_divide.l1, if_neg (by omega), clone_ev _ (Nat.lt_of_le_of_lt hlen (by decide)), Option.bind_some]) ?_
    refine Ev.bind t1 ?_
    refine Ev.congr (fun k => by rw [if_pos (by omega), shl_one hn]) ?_
    exact Ev.bind s1 (Ev.bind c1 (Ev.now _))
  | succ J ih =>
    intro lo rest q0 qs z hlo hq0 hrl hloo hro hqo hrv hlen hqlen
    rcases eq_of_snoc lo with h | ⟨lo, x, rfl⟩
    · subst h; simp at hlo
    rcases eq_of_snoc q0 with h | ⟨q0, y, rfl⟩
    · subst h; simp at hq0
    have hlo' : lo.length = J := by simp at hlo; exact hlo
    have hq0' : q0.length = J := by simp at hq0; exact hq0
    have hx := hloo.right.head
    have hvp := hv.pos (by simp)
    -- the part at hand
    have hpo : Ok (x :: rest) := Ok.cons hx.1 hx.2 hro
    have hpv : val (x :: rest) < 4294967296 * val (v0 ++ [top]) := by simp only [val]; omega
    obtain ⟨p0, x1, x2, hpe⟩ : ∃ p0 x1 x2, x :: rest = p0 ++ [x1, x2] := by
      rcases eq_of_snoc rest with h | ⟨r1, x2, rfl⟩
      · subst h; simp at hrl
      · rcases eq_of_snoc (x :: r1) with h | ⟨p0, x1, h⟩
        · cases h
        · exact ⟨p0, x1, x2, by rw [← List.cons_append, h]; simp⟩
    have hp0l : p0.length = v0.length := by
      have h := congrArg List.length hpe
      rw [List.length_cons, hrl, List.length_append] at h
      have h2 : [x1, x2].length = 2 := rfl
      omega
    have eu : (lo ++ [x]) ++ rest ++ List.replicate z 0 = lo ++ (p0 ++ [x1, x2]) ++ List.replicate z 0 := by rw [← hpe]; simp
    rw [eu] at hlen ⊢
    rw [hpe] at hpo hpv
    obtain ⟨part', g1, g2, g3, g4⟩ := guess_ev v0 lo p0 (List.replicate z 0) top x1 x2 hv hpo hp0l hlen hpv
    have hd0 : 0 ≤ val (p0 ++ [x1, x2]) / val (v0 ++ [top]) := Int.ediv_nonneg (val_nonneg hpo) (by omega)
    have hdB : val (p0 ++ [x1, x2]) / val (v0 ++ [top]) < 4294967296 := Int.ediv_lt_of_lt_mul hvp hpv
    have hm1 := Int.emod_lt_of_pos (val (p0 ++ [x1, x2])) hvp
    have hm2 : val (p0 ++ [x1, x2]) % val (v0 ++ [top]) + val (v0 ++ [top]) * (val (p0 ++ [x1, x2]) / val (v0 ++ [top])) = val (p0 ++ [x1, x2]) := Int.emod_add_mul_ediv _ _
    have hp' : val part' < val (v0 ++ [top]) := by
      rw [g2, Int.mul_comm]
      generalize val (p0 ++ [x1, x2]) / val (v0 ++ [top]) = dd at *
      omega
    have hpsum : val (x :: rest) = val (p0 ++ [x1, x2]) / val (v0 ++ [top]) * val (v0 ++ [top]) + val part' := by rw [hpe, g2]; omega
    generalize val (p0 ++ [x1, x2]) / val (v0 ++ [top]) = d at *
    clear hm1 hm2 g2 hpv
    -- its top limb is 0
    obtain ⟨rest', w, rfl⟩ : ∃ rest' w, part' = rest' ++ [w] := by
      rcases eq_of_snoc part' with h | h
      · subst h; simp at g4
      · exact h
    have hrl' : rest'.length = v0.length + 1 := by simp at g4; omega
    have hw := g3.right.head
    have hw0 : w = 0 := by
      have h1 := val_lt hv.ok
      have h2 := val_nonneg g3.left
      rw [val_append, hrl'] at hp'
      simp only [List.length_append, List.length_cons, List.length_nil, Nat.zero_add] at h1
      by_cases hz : w = 0
      · exact hz
      · have h3 : (4294967296 : Int) ^ (v0.length + 1) * 1 ≤ 4294967296 ^ (v0.length + 1) * val [w] := Int.mul_le_mul_of_nonneg_left (by simp [val]; omega) (Int.le_of_lt (pow_pos' _))
        rw [Int.mul_one] at h3
        omega
    subst hw0
    have hvr : val (rest' ++ [0]) = val rest' := by rw [val_append]; simp [val]
    rw [hvr] at hp' hpsum
    have eu2 : lo ++ (rest' ++ [0]) ++ List.replicate z 0 = lo ++ rest' ++ List.replicate (z + 1) 0 := by rw [List.replicate_succ]; simp
    have eq2 : ((q0 ++ [y]) ++ qs).set ((J : Int)).toNat d = q0 ++ (d :: qs) := by
      rw [← hq0', show (q0 ++ [y]) ++ qs = q0 ++ y :: qs by simp, set_mid]
    have hlen2 : (lo ++ rest' ++ List.replicate (z + 1) 0).length = (lo ++ (p0 ++ [x1, x2]) ++ List.replicate z 0).length := by simp; omega
    have hql2 : (q0 ++ (d :: qs)).length = ((q0 ++ [y]) ++ qs).length := by simp <;> omega
    obtain ⟨ql, u, qt, rt, r1, r2, r3, r4, r5, r6, r7, r8, r9, r10, r11, r12⟩ := ih lo rest' q0 (d :: qs) (z + 1) hlo' hq0' hrl' hloo.left g3.left (Ok.cons hd0 hdB hqo) hp' (by rw [hlen2]; exact hlen) (by rw [hql2]; exact hqlen)
    refine ⟨ql ++ [d], u, qt, rt, ?_, ?_, by simp [r3], r4.append (Ok.single hd0 hdB), r5, r6, by rw [r7]; simp, r8, r9, r10, by rw [hql2] at r11; exact r11, by rw [hlen2] at r12; exact r12⟩
    · have hJ : ((J + 1 : Nat) : Int) - 1 = (J : Int) := by omega
      have hJ2 : (J : Int) < (((q0 ++ [y]) ++ qs).length : Int) := by simp <;> omega
      have hJm : J ≤ 4398046511104 := by
        have : J ≤ ((q0 ++ [y]) ++ qs).length := by simp; omega
        omega
      have hwJ : wrap64 ((J : Int) - 1) = (J : Int) - 1 := w64 (by omega) (by omega)
      rw [hJ]
      refine Ev.step (fun k => by rw [nat_divide.l1, if_pos (by omega)]) ?_
      rw [← hlo'] at *
      refine Ev.bind g1 ?_
      refine Ev.congr (fun k => by rw [if_pos (by omega), if_pos hJ2, eq2, hwJ, eu2]) r1
    · rw [val_append, hlo', Int.pow_succ, val_append, r3]
      simp only [val, Int.mul_zero, Int.add_zero] at hpsum ⊢
      grind
/-! ### divide -/
/-- What divide does when it knows its shift. -/
def divGo (k : Nat) (x0 x1 : List Int) (x8 : Int) : Option (List Int × List Int) := (nat_shift.f k x0 x8).bind fun t245 => (if t245.length < 35184372088832 then ((some (t245 ++ [0] : List Int)).bind fun y248 => ((nat_shift.f k x1 x8).bind fun t251 => (if (y248.length : Int) = (x0.length : Int) then (if y248.length < 35184372088832 then (nat_divide.j1 k x8 (y248 ++ [0]) t251) else (none)) else (nat_divide.j1 k x8 y248 t251)))) else (none))
theorem div_l0 (a b0 : List Int) (top : Int) (ht0 : 0 < top) (hb : b0.length ≤ 4398046511104) (f : Nat) : ∀ n : Nat, n + f = 32 → top * 2 ^ n < 4294967296 → ∃ n' : Nat, n' ≤ 31 ∧ ∀ r, Ev (fun k => divGo k a (b0 ++ [top]) (n' : Int)) r → Ev (fun k => nat_divide.l0 k a (b0 ++ [top]) (n : Int)) r := by
  have hL : ((b0 ++ [top]).length : Int) = b0.length + 1 := by simp
  have hw : wrap64 (((b0 ++ [top]).length : Int) - 1) = (b0.length : Int) := by rw [hL, w64 (by omega) (by omega)]; omega
  induction f with
  | zero =>
    intro n hn h
    have h1 : (2 : Int) ^ 32 ≤ 2 ^ n := two_pow_le (by omega)
    have h2 : (2 : Int) ^ 32 = 4294967296 := by decide
    have h3 : 1 * 2 ^ n ≤ top * 2 ^ n := Int.mul_le_mul_of_nonneg_right (by omega) (Int.le_of_lt (two_pow_pos n))
    omega
  | succ f ih =>
    intro n hn h
    have hs := shl_top (b := top) (n := n) (by omega) h (by omega)
    have hp := two_pow_pos n
    have h0 : 0 ≤ top * 2 ^ n := Int.mul_nonneg (by omega) (by omega)
    by_cases ht : top * 2 ^ n / 2147483648 = 0
    · obtain ⟨n', g1, g2⟩ := ih (n + 1) (by omega) (by rw [Int.pow_succ, ← Int.mul_assoc]; omega)
      refine ⟨n', g1, fun r hr => ?_⟩
      refine Ev.step (fun k => by rw [nat_divide.l0, hw, if_pos (by omega), if_pos (by omega), if_pos (by omega), rd_mid, hs, if_pos ht, wu64 (by omega) (by omega)]) ?_
      have := g2 r hr
      simpa using this
    · refine ⟨n, ?_, fun r hr => ?_⟩
      · by_cases h31 : n ≤ 31
        · exact h31
        · omega
      · exact Ev.step (fun k => by rw [nat_divide.l0, hw, if_pos (by omega), if_pos (by omega), if_pos (by omega), rd_mid, hs, if_neg ht]; rfl) hr
theorem div_j1 (u0 v0 : List Int) (top : Int) (n : Nat) (hn : n ≤ 31) (hu : Ok u0) (hv : Norm (v0 ++ [top])) (hl : v0.length < u0.length) (hul : u0.length ≤ 2199023255552) :
    ∃ qt rt, Ev (fun k => nat_divide.j1 k (n : Int) (u0 ++ [0]) (v0 ++ [top])) (qt, rt) ∧ Norm qt ∧ Norm rt ∧ qt.length ≤ u0.length ∧ rt.length ≤ u0.length + 1 ∧ ∃ u l, val u0 = val qt * val (v0 ++ [top]) + u ∧ 0 ≤ u ∧ u < val (v0 ++ [top]) ∧ u = val rt * 2 ^ n + l ∧ 0 ≤ l ∧ l < 2 ^ n := by
  have hLv : ((v0 ++ [top]).length : Int) = v0.length + 1 := by simp
  have hLu : ((u0 ++ [0]).length : Int) = u0.length + 1 := by simp
  obtain ⟨J, hJ⟩ : ∃ J, u0.length = J + v0.length := ⟨u0.length - v0.length, by omega⟩
  have hw : wrap64 (((u0 ++ [0]).length : Int) - ((v0 ++ [top]).length : Int)) = (J : Int) := by rw [hLv, hLu, w64 (by omega) (by omega)]; omega
  have hw2 : wrap64 (((v0 ++ [top]).length : Int) - 1) = (v0.length : Int) := by rw [hLv, w64 (by omega) (by omega)]; omega
  have htop := hv.ok.right.head
  have hrest : (u0.drop J).length = v0.length := by rw [List.length_drop]; omega
  have hrv : val (u0.drop J ++ [0]) < val (v0 ++ [top]) := by
    have h1 := val_lt (hu.drop J)
    have h2 := hv.ge (by simp)
    rw [hrest] at h1
    have h3 : (v0 ++ [top]).length - 1 = v0.length := by simp
    rw [h3] at h2
    have h4 : val (u0.drop J ++ [0]) = val (u0.drop J) := by rw [val_append]; simp [val]
    omega
  have hsp : u0 ++ [0] = u0.take J ++ (u0.drop J ++ [0]) ++ List.replicate 0 0 := by rw [List.replicate_zero, List.append_nil, ← List.append_assoc, List.take_append_drop]
  have htk : (u0.take J).length = J := by rw [List.length_take]; omega
  obtain ⟨ql, u, qt, rt, r1, r2, r3, r4, r5, r6, r7, r8, ⟨l, l1, l2, l3⟩, r10, r11, r12⟩ := div_l1 v0 top hv n hn J (u0.take J) (u0.drop J ++ [0]) (List.replicate J 0) [] 0 htk (by simp) (by simp [hrest]) (fun y hy => hu y (List.mem_of_mem_take hy)) ((hu.drop J).append (Ok.single (by omega) (by omega))) Ok.nil hrv (by rw [← hsp]; simp; omega) (by simp; omega)
  rw [← hsp] at r1 r12
  refine ⟨qt, rt, ?_, r8, r10, by simp at r11; omega, by simpa using r12, u, l, ?_, r5, r6, l1, l2, l3⟩
  · refine Ev.step (fun k => by rw [nat_divide.j1, hw, if_pos (by omega), if_pos (by omega), Option.bind_some, hw2, if_pos (by omega), if_pos (by omega), rd_mid, Int.toNat_natCast, wu64 (by omega) (by omega), List.length_replicate, w64 (by omega) (by omega)]) ?_
    simpa using r1
  · have h4 : val (u0.drop J ++ [0]) = val (u0.drop J) := by rw [val_append]; simp [val]
    have h5 : val u0 = val (u0.take J) + 4294967296 ^ J * val (u0.drop J) := by
      have := val_append (u0.take J) (u0.drop J)
      rw [List.take_append_drop, htk] at this
      exact this
    rw [h4] at r2
    rw [List.append_nil] at r7
    rw [h5, r2, r7]
theorem divide_ev (a b : List Int) (ha : Norm a) (hb : Norm b) (hbne : b ≠ []) (hla : a.length ≤ 1099511627776) (hlb : b.length ≤ 1099511627776) :
    ∃ q r, Ev (fun k => nat_divide.f k a b) (q, r) ∧ val a = val q * val b + val r ∧ 0 ≤ val r ∧ val r < val b ∧ Norm q ∧ Norm r ∧ q.length ≤ a.length + 1 ∧ r.length ≤ a.length + 2 := by
  have hbp := hb.pos hbne
  have hc := cmp_ev a b ha hb (by omega)
  by_cases hlt : val a < val b
  · refine ⟨[], a, ?_, by simp [val], val_nonneg ha.ok, hlt, Norm.nil, ha, by simp, by omega⟩
    have h1 : cmp (val a) (val b) = -1 := by unfold cmp; rw [if_pos hlt]
    rw [h1] at hc
    exact Ev.bind hc (Ev.now _)
  · have h1 : ¬ cmp (val a) (val b) < 0 := by
      unfold cmp
      rw [if_neg hlt]
      split <;> omega
    obtain ⟨b0, top, rfl⟩ : ∃ b0 top, b = b0 ++ [top] := by
      rcases eq_of_snoc b with h | h
      · exact absurd h hbne
      · exact h
    have htop := hb.ok.right.head
    have htop0 := hb.top b0 top rfl
    by_cases h0 : b0 = []
    · subst h0
      obtain ⟨q, l, s1, s2, s3, s4, s5, s6⟩ := small_ev a top ha.ok (by omega) htop.2 (by omega)
      obtain ⟨r, t1, t2, t3, t4⟩ := trim_ev [l] (Ok.single s3 (by omega)) (by simp)
      have hvl : val r = l := by rw [t2]; simp [val]
      have hvb : val ([] ++ [top]) = top := by simp [val]
      refine ⟨q, r, ?_, by rw [hvb, hvl]; exact s2, by omega, by omega, s5, t3, by omega, by simp at t4; omega⟩
      refine Ev.bind hc ?_
      have hrt : IntKind.u64.wrap (rd ([] ++ [top]) 0) = top := by
        have : rd ([] ++ [top]) 0 = top := rfl
        rw [this, wu64 (by omega) (by omega)]
      refine Ev.congr (fun k => by rw [if_neg h1, if_pos (by simp), if_pos (by simp), hrt]) ?_
      refine Ev.bind s1 ?_
      refine Ev.congr (fun k => by rw [show l % 4294967296 = l by omega]) ?_
      exact Ev.bind t1 (Ev.now _)
    · have hb0l := List.length_pos_iff.2 h0
      have hbl : (b0 ++ [top]).length = b0.length + 1 := by simp
      obtain ⟨n, hn, hgo⟩ := div_l0 a b0 top (by omega) (by omega) 32 0 rfl (by simp; omega)
      obtain ⟨u0, u1, u2, u3, u4⟩ := shift_ev a n ha.ok hn (by omega)
      obtain ⟨v, v1, v2, v3, v4⟩ := shift_ev (b0 ++ [top]) n hb.ok hn (by omega)
      have hp2 := two_pow_pos n
      have hva := val_nonneg ha.ok
      have hvp : 0 < val v := by rw [v2]; exact Int.mul_pos hbp hp2
      obtain ⟨w0, wt, rfl⟩ : ∃ w0 wt, v = w0 ++ [wt] := by
        rcases eq_of_snoc v with h | h
        · rw [h] at hvp; simp [val] at hvp
        · exact h
      have hle : val (w0 ++ [wt]) ≤ val u0 := by rw [u2, v2]; exact Int.mul_le_mul_of_nonneg_right (by omega) (by omega)
      have hle2 : val a ≤ val u0 := by
        rw [u2]
        have := Int.mul_le_mul_of_nonneg_left (show (1 : Int) ≤ 2 ^ n by omega) hva
        omega
      have hlen1 := len_le v3 u3.ok hle
      have hlen2 := len_le ha u3.ok hle2
      have hwl : (w0 ++ [wt]).length = w0.length + 1 := by simp
      obtain ⟨q, r, j1, j2, j3, j4, j5, u, l, k1, k2, k3, k4, k5, k6⟩ := div_j1 u0 w0 wt n hn u3.ok v3 (by omega) (by omega)
      have hun : ((u0 ++ [0]).length : Int) = u0.length + 1 := by simp
      -- the shift falls away
      have hkey : (val a - val q * val (b0 ++ [top])) * 2 ^ n = val r * 2 ^ n + l := by
        rw [← k4, Int.sub_mul]
        rw [u2] at k1
        rw [v2] at k1
        rw [k1]
        have : val q * (val (b0 ++ [top]) * 2 ^ n) = val q * val (b0 ++ [top]) * 2 ^ n := by rw [Int.mul_assoc]
        omega
      have hrv : val a - val q * val (b0 ++ [top]) = val r := by
        generalize val a - val q * val (b0 ++ [top]) = X at hkey ⊢
        generalize val r = Y at hkey ⊢
        generalize (2 : Int) ^ n = P at *
        have h1 : (X - Y) * P = l := by rw [Int.sub_mul]; omega
        by_cases hXY : X - Y = 0
        · omega
        · by_cases hpos : 0 < X - Y
          · have : 1 * P ≤ (X - Y) * P := Int.mul_le_mul_of_nonneg_right (by omega) (by omega)
            omega
          · have : (X - Y) * P ≤ (-1) * P := Int.mul_le_mul_of_nonneg_right (by omega) (by omega)
            omega
      have hr0 := val_nonneg j3.ok
      refine ⟨q, r, ?_, by omega, hr0, ?_, j2, j3, by omega, by omega⟩
      · refine Ev.bind hc ?_
        refine Ev.congr (fun k => by rw [if_neg h1, if_neg (by omega)]) ?_
        refine hgo _ ?_
        unfold divGo
        refine Ev.bind u1 ?_
        refine Ev.congr (fun k => by rw [if_pos (by omega), Option.bind_some]) ?_
        refine Ev.bind v1 ?_
        refine Ev.congr (fun k => by rw [if_neg (by omega)]) j1
      · have h5 : val r * 2 ^ n < val (b0 ++ [top]) * 2 ^ n := by rw [← v2]; omega
        exact Int.lt_of_mul_lt_mul_right h5 (by omega)
end Go.Proofs.Ytpjpgfaidallhaa.Th
