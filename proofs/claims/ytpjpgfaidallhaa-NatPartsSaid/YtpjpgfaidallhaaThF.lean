/- Knuth's long division: its quotient and what is left over. -/
import Derived.Test.YtpjpgfaidallhaaThE
namespace Go.Proofs.Ytpjpgfaidallhaa.Th
open Go Go.RowKit Go.Proofs.YtpjpgfaidallhaaW.PrintWords Go.Proofs.YtpjpgfaidallhaaW.PrintMore Go.Proofs.Ytpjpgfaidallhaa.Str Go.Proofs.Ytpjpgfaidallhaa.PA
/-! ### guess -/
def pad (l : List Int) (m : Nat) : List Int := l ++ List.replicate (m - l.length) 0
theorem val_pad (l : List Int) (m : Nat) : val (pad l m) = val l := by unfold pad; rw [val_append, val_zeros]; simp
theorem Ok.pad {l : List Int} (h : Ok l) (m : Nat) : Ok (Th.pad l m) := h.append (Ok.zeros _)
theorem pad_length {l : List Int} {m : Nat} (h : l.length ≤ m) : (pad l m).length = m := by unfold pad; simp; omega
theorem guess_l1 (d : Int) (left : List Int) (zs : List Int) (n : Nat) (hd0 : 0 ≤ d) (hd : d < 4294967296) (rest : List Int) : ∀ (lo done lrest : List Int), left.drop done.length = lrest → lrest.length ≤ rest.length → done.length + rest.length = n → (lo ++ done ++ rest ++ zs).length ≤ 17592186044416 →
    Ev (fun k => nat_guess.l1 k (lo ++ done ++ rest ++ zs) (lo.length : Int) d left (n : Int) (done.length : Int)) (d, lo ++ done ++ pad lrest rest.length ++ zs) := by
  induction rest with
  | nil =>
    intro lo done lrest hd1 hl hn hlen
    have : lrest = [] := List.eq_nil_of_length_eq_zero (by simpa using hl)
    subst this
    simp at hn
    refine Ev.step (fun k => by rw [nat_guess.l1, if_neg (by omega), show d % 4294967296 = d by omega]) ?_
    simpa [pad] using Ev.now (d, lo ++ done ++ zs)
  | cons x rest ih =>
    intro lo done lrest hd1 hl hn hlen
    simp only [List.length_cons] at hn
    have hlen' : lo.length + done.length + rest.length + zs.length + 1 ≤ 17592186044416 := by simp at hlen; omega
    have hw : wrap64 ((lo.length : Int) + (done.length : Int)) = ((lo ++ done).length : Int) := by rw [w64 (by omega) (by omega)]; simp
    have eu : lo ++ done ++ x :: rest ++ zs = (lo ++ done) ++ x :: (rest ++ zs) := by simp
    have hL : ((lo ++ done ++ x :: rest ++ zs).length : Int) = lo.length + done.length + rest.length + zs.length + 1 := by simp; omega
    have hD : ∀ y : Int, ((done ++ [y]).length : Int) = (done.length : Int) + 1 := by simp
    have hDn : ∀ y : Int, (done ++ [y]).length = done.length + 1 := by simp
    cases lrest with
    | nil =>
      obtain ⟨g1, g2⟩ := drop_nil hd1
      refine Ev.step (fun k => by rw [nat_guess.l1, if_pos (by omega), hw, if_pos (by omega), if_pos (by simp; omega), Option.bind_some, if_neg (by omega), eu, set_mid, w64 (by omega) (by omega)]) ?_
      have hi := ih lo (done ++ [0]) [] (by rw [hDn]; exact g2) (by simp) (by simp; omega) (by simp; omega)
      rw [hD] at hi
      have e1 : lo ++ done ++ 0 :: (rest ++ zs) = lo ++ (done ++ [0]) ++ rest ++ zs := by simp
      have e2 : lo ++ done ++ pad [] (x :: rest).length ++ zs = lo ++ (done ++ [0]) ++ pad [] rest.length ++ zs := by simp [pad, List.replicate_succ]
      rw [e1, e2]
      exact hi
    | cons y lrest =>
      obtain ⟨g1, g2, g3⟩ := drop_cons hd1
      simp only [List.length_cons] at hl
      refine Ev.step (fun k => by rw [nat_guess.l1, if_pos (by omega), hw, if_pos (by omega), if_pos (by simp; omega), Option.bind_some, if_pos (by omega), if_pos (by omega), eu, set_mid, set_mid, g2, w64 (by omega) (by omega)]) ?_
      have hi := ih lo (done ++ [y]) lrest (by rw [hDn]; exact g3) (by omega) (by simp; omega) (by simp; omega)
      rw [hD] at hi
      have e1 : lo ++ done ++ y :: (rest ++ zs) = lo ++ (done ++ [y]) ++ rest ++ zs := by simp
      have e2 : lo ++ done ++ pad (y :: lrest) (x :: rest).length ++ zs = lo ++ (done ++ [y]) ++ pad lrest rest.length ++ zs := by simp [pad]
      rw [e1, e2]
      exact hi
theorem guess_l0 (v lo part zs : List Int) (hv : Norm v) (hvne : v ≠ []) (hp : Ok part) (hpl : part.length = v.length + 1) (hlen : (lo ++ part ++ zs).length ≤ 8796093022208) (hpv : val part < 4294967296 * val v) (f : Nat) : ∀ (d : Int) (take : List Int), d = val part / val v + f → d < 4294967296 → Norm take → val take = d * val v → take.length ≤ v.length + 1 →
    ∃ part', Ev (fun k => nat_guess.l0 k (lo ++ part ++ zs) v (lo.length : Int) d part take) (val part / val v, lo ++ part' ++ zs) ∧ val part' = val part - val part / val v * val v ∧ Ok part' ∧ part'.length = v.length + 1 := by
  have hvp := hv.pos hvne
  have hp0 := val_nonneg hp
  have hq0 : 0 ≤ val part / val v := Int.ediv_nonneg hp0 (by omega)
  have hqB : val part / val v < 4294967296 := Int.ediv_lt_of_lt_mul hvp (by omega)
  have hdm : val part % val v + val v * (val part / val v) = val part := Int.emod_add_mul_ediv _ _
  have hm0 := Int.emod_nonneg (val part) (Int.ne_of_gt hvp)
  have hm1 := Int.emod_lt_of_pos (val part) hvp
  have hlen' : lo.length + part.length + zs.length ≤ 8796093022208 := by simp at hlen; omega
  obtain ⟨tp, t1, t2, t3, t4⟩ := trim_ev part hp (by omega)
  induction f with
  | zero =>
    intro d take hd hdB ht hvt htl
    have hde : d = val part / val v := by simpa using hd
    have hle : val take ≤ val part := by
      rw [hvt, hde, Int.mul_comm]
      omega
    obtain ⟨left, s1, s2, s3, s4⟩ := sub_ev part take hp ht.ok (by omega) hle (by omega)
    have hcmp := cmp_ev take tp ht t3 (by omega)
    refine ⟨pad left part.length, ?_, ?_, s3.ok.pad _, ?_⟩
    · refine Ev.step (fun k => by rw [nat_guess.l0, clone_ev part (by omega), Option.bind_some]) ?_
      refine Ev.bind t1 (Ev.bind hcmp ?_)
      have hc : ¬ cmp (val take) (val tp) > 0 := by
        unfold cmp
        rw [t2]
        by_cases h : val take < val part
        · rw [if_pos h]; omega
        · rw [if_neg h, if_neg (by omega)]; omega
      refine Ev.congr (fun k => by rw [if_neg hc]) ?_
      refine Ev.bind s1 ?_
      have := guess_l1 (val part / val v) left zs part.length hq0 hqB part lo [] left rfl (by omega) (by simp) (by simp; omega)
      rw [hde]
      simpa using this
    · rw [val_pad, s2, hvt, hde]
    · rw [pad_length (by omega), hpl]
  | succ f ih =>
    intro d take hd hdB ht hvt htl
    have hgt : val part < val take := by
      rw [hvt]
      have h1 : val part / val v + 1 ≤ d := by omega
      have h2 : (val part / val v + 1) * val v ≤ d * val v := Int.mul_le_mul_of_nonneg_right h1 (by omega)
      rw [Int.add_mul, Int.one_mul, Int.mul_comm (val part / val v)] at h2
      omega
    have hvl : val v ≤ val take := by
      rw [hvt]
      have h2 : 1 * val v ≤ d * val v := Int.mul_le_mul_of_nonneg_right (by omega) (by omega)
      omega
    obtain ⟨take', s1, s2, s3, s4⟩ := sub_ev take v ht.ok hv.ok (len_le hv ht.ok hvl) hvl (by omega)
    have hcmp := cmp_ev take tp ht t3 (by omega)
    obtain ⟨part', g1, g2, g3, g4⟩ := ih (d - 1) take' (by omega) (by omega) s3 (by rw [s2, hvt, Int.sub_mul, Int.one_mul]) (by omega)
    refine ⟨part', ?_, g2, g3, g4⟩
    refine Ev.step (fun k => by rw [nat_guess.l0, clone_ev part (by omega), Option.bind_some]) ?_
    refine Ev.bind t1 (Ev.bind hcmp ?_)
    have hc : cmp (val take) (val tp) > 0 := by
      unfold cmp
      rw [t2, if_neg (by omega), if_pos hgt]
      omega
    refine Ev.congr (fun k => by rw [if_pos hc]) ?_
    refine Ev.bind s1 ?_
    refine Ev.congr (fun k => by rw [wu64 (by omega) (by omega)]) g1
theorem rd_at (p : List Int) (x : Int) (s : List Int) (i : Int) (hi : i = (p.length : Int)) : rd (p ++ x :: s) i = x := by rw [hi]; exact rd_mid _ _ _
theorem cut_mid (lo part zs : List Int) (m : Int) (hm : m = ((lo.length + part.length : Nat) : Int)) : ((lo ++ part ++ zs).take m.toNat).drop ((lo.length : Int)).toNat = part := by
  subst hm
  rw [Int.toNat_natCast, Int.toNat_natCast, ← List.length_append, List.take_left' rfl, List.drop_left' rfl]
theorem guess_open (v0 lo p0 zs : List Int) (top x1 x2 d0 : Int) (hpl : p0.length = v0.length) (hlen : (lo ++ (p0 ++ [x1, x2]) ++ zs).length ≤ 4398046511104) (htop : top ≠ 0)
    (hh : Aside0 (mn (IntKind.u64.wrap (Int.tdiv (Go.bits .or .u64 (IntKind.u64.wrap ((IntKind.u64.wrap x2) * 4294967296)) (IntKind.u64.wrap x1)) top)) 4294967295 = d0)) (k : Nat) :
    nat_guess.f k (lo ++ (p0 ++ [x1, x2]) ++ zs) (v0 ++ [top]) (lo.length : Int) top = (nat_step.f k (v0 ++ [top]) d0 0).bind fun t => nat_guess.l0 k (lo ++ (p0 ++ [x1, x2]) ++ zs) (v0 ++ [top]) (lo.length : Int) d0 (p0 ++ [x1, x2]) t := by
  have hlen' : lo.length + p0.length + 2 + zs.length ≤ 4398046511104 := by simp at hlen; omega
  clear hlen
  have hL : ((lo ++ (p0 ++ [x1, x2]) ++ zs).length : Int) = lo.length + p0.length + 2 + zs.length := by simp; omega
  have hVL : ((v0 ++ [top]).length : Int) = v0.length + 1 := by simp
  have w1 : wrap64 ((lo.length : Int) + ((v0 ++ [top]).length : Int)) = (lo.length : Int) + (v0.length : Int) + 1 := by rw [hVL, w64 (by omega) (by omega)]; omega
  have w2 : wrap64 ((lo.length : Int) + (v0.length : Int) + 1 - 1) = (lo.length : Int) + (v0.length : Int) := by rw [w64 (by omega) (by omega)]; omega
  have w3 : wrap64 ((lo.length : Int) + (v0.length : Int) + 1 + 1) = (lo.length : Int) + (v0.length : Int) + 2 := by rw [w64 (by omega) (by omega)]; omega
  have k1 : 0 ≤ (lo.length : Int) + (v0.length : Int) + 1 := by omega
  have k2 : (lo.length : Int) + (v0.length : Int) + 1 < ((lo ++ (p0 ++ [x1, x2]) ++ zs).length : Int) := by omega
  have k3 : 0 ≤ (lo.length : Int) + (v0.length : Int) := by omega
  have k4 : (lo.length : Int) + (v0.length : Int) < ((lo ++ (p0 ++ [x1, x2]) ++ zs).length : Int) := by omega
  have k5 : 0 ≤ (lo.length : Int) := by omega
  have k6 : (lo.length : Int) ≤ (lo.length : Int) + (v0.length : Int) + 2 := by omega
  have k7 : (lo.length : Int) + (v0.length : Int) + 2 ≤ ((lo ++ (p0 ++ [x1, x2]) ++ zs).length : Int) := by omega
  have k8 : (p0 ++ [x1, x2]).length < 35184372088832 := by simp; omega
  have hcut : ((lo ++ (p0 ++ [x1, x2]) ++ zs).take ((lo.length : Int) + (v0.length : Int) + 2).toNat).drop (lo.length : Int).toNat = p0 ++ [x1, x2] :=
    cut_mid lo (p0 ++ [x1, x2]) zs _ (by simp; omega)
  have i2 : (lo.length : Int) + (v0.length : Int) + 1 = ((lo ++ p0 ++ [x1]).length : Int) := by simp; omega
  have i1 : (lo.length : Int) + (v0.length : Int) = ((lo ++ p0).length : Int) := by simp; omega
  have e2 : rd (lo ++ (p0 ++ [x1, x2]) ++ zs) ((lo.length : Int) + (v0.length : Int) + 1) = x2 := by
    have h : lo ++ (p0 ++ [x1, x2]) ++ zs = (lo ++ p0 ++ [x1]) ++ x2 :: zs := by simp
    rw [h]; exact rd_at _ _ _ _ i2
  have e1 : rd (lo ++ (p0 ++ [x1, x2]) ++ zs) ((lo.length : Int) + (v0.length : Int)) = x1 := by
    have h : lo ++ (p0 ++ [x1, x2]) ++ zs = (lo ++ p0) ++ x1 :: (x2 :: zs) := by simp
    rw [h]; exact rd_at _ _ _ _ i1
  rw [nat_guess.f, w1, if_pos k1, if_pos k2, w2, if_pos k3, if_pos k4, if_neg htop, if_pos k5, w3, if_pos k6, if_pos k7, hcut, clone_ev _ k8, Option.bind_some, e1, e2, hh.out]
theorem guess_ev (v0 lo p0 zs : List Int) (top x1 x2 : Int) (hv : Norm (v0 ++ [top])) (hp : Ok (p0 ++ [x1, x2])) (hpl : p0.length = v0.length) (hlen : (lo ++ (p0 ++ [x1, x2]) ++ zs).length ≤ 4398046511104) (hpv : val (p0 ++ [x1, x2]) < 4294967296 * val (v0 ++ [top])) :
    ∃ part', Ev (fun k => nat_guess.f k (lo ++ (p0 ++ [x1, x2]) ++ zs) (v0 ++ [top]) (lo.length : Int) top) (val (p0 ++ [x1, x2]) / val (v0 ++ [top]), lo ++ part' ++ zs) ∧ val part' = val (p0 ++ [x1, x2]) - val (p0 ++ [x1, x2]) / val (v0 ++ [top]) * val (v0 ++ [top]) ∧ Ok part' ∧ part'.length = v0.length + 2 := by
  have hlen' : lo.length + p0.length + 2 + zs.length ≤ 4398046511104 := by simp at hlen; omega
  have hvne : v0 ++ [top] ≠ [] := by simp
  have hvp := hv.pos hvne
  have htop := hv.top v0 top rfl
  have htop2 := hv.ok.right.head
  have hx1 := hp.right.head
  have hx2 := hp.right.tail.head
  have hp0 := val_nonneg hp
  have hh : IntKind.u64.wrap (Int.tdiv (Go.bits .or .u64 (IntKind.u64.wrap ((IntKind.u64.wrap x2) * 4294967296)) (IntKind.u64.wrap x1)) top) = (x2 * 4294967296 + x1) / top := by
    have h1 : 0 ≤ (x2 * 4294967296 + x1) / top := Int.ediv_nonneg (by omega) (by omega)
    have h2 : (x2 * 4294967296 + x1) / top ≤ x2 * 4294967296 + x1 := Int.ediv_le_self _ (by omega)
    rw [wu64 (x := x2) (by omega) (by omega), or_join hx2.1 hx2.2 hx1.1 hx1.2, Int.tdiv_eq_ediv_of_nonneg (by omega), wu64 (by omega) (by omega)]
  have hd0 : val (p0 ++ [x1, x2]) / val (v0 ++ [top]) ≤ mn ((x2 * 4294967296 + x1) / top) 4294967295 := by
    have hqB : val (p0 ++ [x1, x2]) / val (v0 ++ [top]) < 4294967296 := Int.ediv_lt_of_lt_mul hvp (by omega)
    have hq0 : 0 ≤ val (p0 ++ [x1, x2]) / val (v0 ++ [top]) := Int.ediv_nonneg hp0 (by omega)
    have hdm : val (p0 ++ [x1, x2]) / val (v0 ++ [top]) * val (v0 ++ [top]) ≤ val (p0 ++ [x1, x2]) := Int.ediv_mul_le _ (by omega)
    have vv : val (v0 ++ [top]) = val v0 + 4294967296 ^ v0.length * top := by rw [val_append]; simp [val]
    have vp : val (p0 ++ [x1, x2]) = val p0 + 4294967296 ^ v0.length * (x2 * 4294967296 + x1) := by
      have e : val [x1, x2] = x2 * 4294967296 + x1 := by simp only [val]; omega
      rw [val_append, hpl, e]
    have hv0 := val_nonneg hv.ok.left
    have hp1 := val_lt hp.left
    rw [hpl] at hp1
    have hle : val (p0 ++ [x1, x2]) / val (v0 ++ [top]) ≤ (x2 * 4294967296 + x1) / top := by
      apply Int.le_ediv_of_mul_le (by omega)
      generalize val (p0 ++ [x1, x2]) / val (v0 ++ [top]) = q at *
      rw [vv] at hdm
      rw [vp] at hdm
      have hpw := pow_pos' v0.length
      generalize (4294967296 : Int) ^ v0.length = P at *
      have h1 : 0 ≤ q * val v0 := Int.mul_nonneg hq0 hv0
      have h2 : P * (q * top) < P * (x2 * 4294967296 + x1 + 1) := by
        have e1 : q * (val v0 + P * top) = q * val v0 + P * (q * top) := by grind
        rw [e1] at hdm
        rw [Int.mul_add, Int.mul_one]
        omega
      have h3 := Int.lt_of_mul_lt_mul_left h2 (by omega)
      omega
    unfold mn
    split <;> omega
  have hmn : 0 ≤ mn ((x2 * 4294967296 + x1) / top) 4294967295 ∧ mn ((x2 * 4294967296 + x1) / top) 4294967295 < 4294967296 := by
    have h1 : 0 ≤ (x2 * 4294967296 + x1) / top := Int.ediv_nonneg (by omega) (by omega)
    unfold mn
    split <;> omega
  obtain ⟨d0, hd0e⟩ : ∃ d0, d0 = mn ((x2 * 4294967296 + x1) / top) 4294967295 := ⟨_, rfl⟩
  rw [← hd0e] at hd0 hmn
  have HD : Aside0 (mn (IntKind.u64.wrap (Int.tdiv (Go.bits .or .u64 (IntKind.u64.wrap ((IntKind.u64.wrap x2) * 4294967296)) (IntKind.u64.wrap x1)) top)) 4294967295 = d0) := ⟨by rw [hh, ← hd0e]⟩
  clear hh hd0e
  obtain ⟨take, t1, t2, t3, t4⟩ := step_ev (v0 ++ [top]) d0 0 hv.ok hmn.1 hmn.2 (by omega) (by omega) (by simp; omega)
  obtain ⟨f, hf⟩ := Int.eq_ofNat_of_zero_le (show 0 ≤ d0 - val (p0 ++ [x1, x2]) / val (v0 ++ [top]) by omega)
  have hf' : d0 = val (p0 ++ [x1, x2]) / val (v0 ++ [top]) + (f : Int) := by
    generalize val (p0 ++ [x1, x2]) / val (v0 ++ [top]) = qq at hf ⊢
    omega
  have ht2 : val take = d0 * val (v0 ++ [top]) := by rw [t2, Int.add_zero, Int.mul_comm]
  have hln1 : (p0 ++ [x1, x2]).length = (v0 ++ [top]).length + 1 := by simp; omega
  have hln2 : (lo ++ (p0 ++ [x1, x2]) ++ zs).length ≤ 8796093022208 := Nat.le_trans hlen (by decide)
  obtain ⟨part', g1, g2, g3, g4⟩ := guess_l0 (v0 ++ [top]) lo (p0 ++ [x1, x2]) zs hv hvne hp hln1 hln2 hpv f d0 take hf' hmn.2 t3 ht2 t4
  refine ⟨part', ?_, g2, g3, by simpa using g4⟩
  refine Ev.congr (guess_open v0 lo p0 zs top x1 x2 d0 hpl hlen htop HD) ?_
  exact Ev.bind t1 g1
end Go.Proofs.Ytpjpgfaidallhaa.Th
