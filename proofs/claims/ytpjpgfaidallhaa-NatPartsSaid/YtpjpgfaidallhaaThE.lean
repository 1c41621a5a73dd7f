/- Limbs of digits, and digits of limbs. -/
import Derived.Test.YtpjpgfaidallhaaThD
namespace Go.Proofs.Ytpjpgfaidallhaa.Th
open Go Go.RowKit Go.Proofs.YtpjpgfaidallhaaW.PrintWords Go.Proofs.Ytpjpgfaidallhaa.Str Go.Proofs.Ytpjpgfaidallhaa.PA
/-! ### strings as lists of bytes -/
theorem bt_mid {s : ByteArray} {p q : List UInt8} {c : UInt8} (h : s.data.toList = p ++ c :: q) : bt s (p.length : Int) = (c.toNat : Int) := by
  have h0 : p.length < s.size := by rw [size_list, h]; simp
  have hb := bt_at s p.length
  simp only [Int.toNat_natCast] at hb
  rw [← hb h0]
  have h3 : s.data.toList[p.length]'(by rw [h]; simp) = c := by simp [h]
  exact congrArg (fun x : UInt8 => (x.toNat : Int)) h3
theorem extract_list (s : ByteArray) (a b : Nat) : (s.extract a b).data.toList = (s.data.toList.take b).drop a := by
  rw [ByteArray.data_extract, Array.toList_extract, List.extract_eq_take_drop, List.take_drop]
  by_cases h : a ≤ b
  · rw [show a + (b - a) = b by omega]
  · rw [List.drop_eq_nil_of_le (by simp; omega), List.drop_eq_nil_of_le (by simp; omega)]
theorem extract_end (s : ByteArray) (a : Nat) : (s.extract a s.size).data.toList = s.data.toList.drop a := by
  rw [extract_list, size_list, List.take_length]
theorem numL_lt {l : List UInt8} (h : l.all isDig = true) : numL l < 10 ^ l.length := by
  induction l with
  | nil => simp [numL]
  | cons c l ih =>
    simp only [List.all_cons, Bool.and_eq_true] at h
    have h1 := ih h.2
    have h2 : 48 ≤ c.toNat ∧ c.toNat ≤ 57 := by simpa [isDig] using h.1
    rw [numL_cons, List.length_cons, Nat.pow_succ]
    have h3 : (c.toNat - 48) * 10 ^ l.length ≤ 9 * 10 ^ l.length := Nat.mul_le_mul_right _ (by omega)
    omega
theorem pow_le9 {n : Nat} (h : n ≤ 9) : 10 ^ n ≤ 1000000000 := Nat.le_trans (Nat.pow_le_pow_right (by omega) h) (by decide)
/-! ### read -/
theorem read_l1 (s : ByteArray) (out : List Int) (q : List UInt8) (n : Nat) (hn : n ≤ 9) (m : List UInt8) : ∀ (p : List UInt8) (v : Nat), s.data.toList = p ++ m ++ q → p.length + m.length = n → m.all isDig = true → v < 10 ^ p.length →
    ∀ r, Ev (fun k => nat_read.l1 k s out (n : Int) ((v * 10 ^ m.length + numL m : Nat) : Int) (n : Int) (n : Int)) r → Ev (fun k => nat_read.l1 k s out (n : Int) (v : Int) (n : Int) (p.length : Int)) r := by
  induction m with
  | nil =>
    intro p v hs hl hd hv r h
    simp at hl
    rw [hl]
    simpa [numL] using h
  | cons c m ih =>
    intro p v hs hl hd hv r h
    simp only [List.all_cons, Bool.and_eq_true] at hd
    have hc : 48 ≤ c.toNat ∧ c.toNat ≤ 57 := by simpa [isDig] using hd.1
    simp only [List.length_cons] at hl
    have hsz : p.length < s.size := by rw [size_list, hs]; simp
    have hv9 := pow_le9 (n := p.length + 1) (by omega)
    rw [Nat.pow_succ] at hv9
    have e1 : IntKind.u64.wrap ((IntKind.u64.wrap (10 * (v : Int))) + (((c.toNat : Int) - 48) % 256)) = ((10 * v + (c.toNat - 48) : Nat) : Int) := by
      rw [wu64 (x := 10 * (v : Int)) (by omega) (by omega), wu64 (by omega) (by omega)]; omega
    refine Ev.step (fun k => by rw [nat_read.l1, if_pos (by omega), if_pos (by omega), if_pos (by omega), bt_mid (c := c) (q := m ++ q) (by rw [hs]; simp), e1, w64 (by omega) (by omega)]) ?_
    have hp : (((p ++ [c]).length : Nat) : Int) = (p.length : Int) + 1 := by simp
    rw [← hp]
    refine ih (p ++ [c]) (10 * v + (c.toNat - 48)) (by rw [hs]; simp) (by simp; omega) hd.2 (by simp [Nat.pow_succ]; omega) r ?_
    have e2 : (10 * v + (c.toNat - 48)) * 10 ^ m.length + numL m = v * 10 ^ (c :: m).length + numL (c :: m) := by
      rw [numL_cons, List.length_cons, Nat.pow_succ]; grind
    rw [e2]
    exact h
theorem read_l0 (n : Nat) : ∀ (s : ByteArray) (out : List Int), s.size = n → s.data.toList.all isDig = true → Ok out → out.length + n ≤ 17592186044416 → (val out = 0 ∨ n % 9 = 0) →
    ∃ r, Ev (fun k => nat_read.l0 k s out) r ∧ val r = val out * 10 ^ n + (num s : Int) ∧ Ok r ∧ r.length ≤ out.length + n := by
  induction n using Nat.strongRecOn with
  | _ n ih =>
    intro s out hs hd ho hlen hz
    by_cases h0 : n = 0
    · subst h0
      have hnil : s.data.toList = [] := List.eq_nil_of_length_eq_zero (by rw [← size_list]; exact hs)
      refine ⟨out, ?_, by simp [num, hnil, numL], ho, by omega⟩
      exact Ev.step (fun k => by rw [nat_read.l0, if_neg (by omega)]) (Ev.now _)
    · obtain ⟨m, hm⟩ : ∃ m, m = (n - 1) % 9 + 1 := ⟨_, rfl⟩
      have hm9 : m ≤ 9 := by omega
      have hmn : m ≤ n := by omega
      have hsl : s.data.toList.length = n := by rw [← size_list]; exact hs
      have hw : wrap64 ((Int.tmod (wrap64 ((s.size : Int) - 1)) 9) + 1) = (m : Int) := by
        rw [w64 (x := (s.size : Int) - 1) (by omega) (by omega), Int.tmod_eq_emod_of_nonneg (by omega), w64 (by omega) (by omega)]; omega
      have hsplit : s.data.toList = [] ++ s.data.toList.take m ++ s.data.toList.drop m := by simp
      have htl : (s.data.toList.take m).length = m := by rw [List.length_take]; omega
      have hdt : (s.data.toList.take m).all isDig = true := by
        rw [List.all_eq_true] at hd ⊢
        exact fun x hx => hd x (List.mem_of_mem_take hx)
      have hdd : (s.data.toList.drop m).all isDig = true := by
        rw [List.all_eq_true] at hd ⊢
        exact fun x hx => hd x (List.mem_of_mem_drop hx)
      have hv := numL_lt hdt
      rw [htl] at hv
      have h9 := pow_le9 hm9
      obtain ⟨t, t1, t2, t3, t4⟩ := step_ev out 1000000000 ((numL (s.data.toList.take m) : Nat) : Int) ho (by omega) (by omega) (by omega) (by omega) (by omega)
      have hes : (s.extract m s.size).size = n - m := by rw [size_list, extract_end, List.length_drop, hsl]
      have hout : val out * 1000000000 = val out * 10 ^ m := by
        rcases hz with hz | hz
        · rw [hz]; simp
        · have : m = 9 := by omega
          rw [this]; rfl
      obtain ⟨r, r1, r2, r3, r4⟩ := ih (n - m) (by omega) (s.extract m s.size) t hes (by rw [extract_end]; exact hdd) t3.ok (by omega) (.inr (by omega))
      refine ⟨r, ?_, ?_, r3, by omega⟩
      · refine Ev.step (fun k => by rw [nat_read.l0, if_pos (by omega), hw]) ?_
        refine read_l1 s out (s.data.toList.drop m) m hm9 (s.data.toList.take m) [] 0 hsplit (by simp [htl]) hdt (by simp) r ?_
        rw [htl, Nat.zero_mul, Nat.zero_add]
        refine Ev.step (fun k => by rw [nat_read.l1, if_neg (by omega)]) ?_
        refine Ev.bind t1 ?_
        refine Ev.congr (fun k => by rw [if_pos (by omega), if_pos (by omega), Int.toNat_natCast]) r1
      · have hnum : num s = numL (s.data.toList.take m) * 10 ^ (n - m) + num (s.extract m s.size) := by
          have : num s = numL (s.data.toList.take m ++ s.data.toList.drop m) := by rw [List.take_append_drop]; rfl
          rw [this, numL_append, List.length_drop, hsl]
          congr 1
          unfold num
          rw [extract_end]
        rw [r2, t2, hout, hnum]
        have hp : (10 : Int) ^ n = 10 ^ m * 10 ^ (n - m) := by rw [← Int.pow_add]; congr 1; omega
        rw [hp]
        simp only [Int.natCast_add, Int.natCast_mul, Int.natCast_pow, Int.cast_ofNat_Int]
        grind
theorem read_ev (s : ByteArray) (hs : s.size ≤ 8796093022208) (hr : right s = true) : ∃ r, Ev (fun k => nat_read.f k s) r ∧ val r = (num s : Int) ∧ Ok r ∧ r.length ≤ s.size := by
  have hd : s.data.toList.all isDig = true := by
    rw [txt_num hr]; exact digs_dig _
  obtain ⟨r, h1, h2, h3, h4⟩ := read_l0 s.size s [] rfl hd Ok.nil (by simp; omega) (.inl rfl)
  exact ⟨r, h1, by simpa [val] using h2, h3, by simpa using h4⟩
/-! ### both -/
theorem both_yes (a b : ByteArray) (ha : a.size ≤ 8796093022208) (hb : b.size ≤ 8796093022208) (hra : right a = true) (hrb : right b = true) :
    ∃ x y, Ev (fun k => nat_both.f k a b) (x, y, true) ∧ val x = (num a : Int) ∧ val y = (num b : Int) ∧ Norm x ∧ Norm y ∧ x.length ≤ a.size ∧ y.length ≤ b.size := by
  obtain ⟨x, x1, x2, x3, x4⟩ := read_ev a ha hra
  obtain ⟨y, y1, y2, y3, y4⟩ := read_ev b hb hrb
  obtain ⟨x', u1, u2, u3, u4⟩ := trim_ev x x3 (by omega)
  obtain ⟨y', v1, v2, v3, v4⟩ := trim_ev y y3 (by omega)
  refine ⟨x', y', ?_, by rw [u2, x2], by rw [v2, y2], u3, v3, by omega, by omega⟩
  refine Ev.congr (fun k => by rw [nat_both.f, nat_Right.f, Option.bind_some, if_pos hra, nat_Right.f, Option.bind_some, hrb]) ?_
  refine Ev.step (fun k => by rw [nat_both.j0, if_neg (by simp)]) ?_
  exact Ev.bind x1 (Ev.bind u1 (Ev.bind y1 (Ev.bind v1 (Ev.now _))))
theorem both_no (a b : ByteArray) (h : (Str.right a && Str.right b) = false) : Ev (fun k => nat_both.f k a b) ([], [], false) := by
  cases hra : Str.right a with
  | false =>
    refine Ev.congr (fun k => by rw [nat_both.f, nat_Right.f, Option.bind_some, hra, if_neg (by simp)]) ?_
    exact Ev.step (fun k => by rw [nat_both.j0, if_pos (show true = true from rfl)]) (Ev.now _)
  | true =>
    rw [hra, Bool.true_and] at h
    refine Ev.congr (fun k => by rw [nat_both.f, nat_Right.f, Option.bind_some, if_pos hra, nat_Right.f, Option.bind_some, h]) ?_
    exact Ev.step (fun k => by rw [nat_both.j0, if_pos (show (!false) = true from rfl)]) (Ev.now _)
/-! ### Reverse -/
theorem rev_l0 (n : Nat) : ∀ (p m q : List Int), m.length = n → (p ++ m ++ q).length ≤ 281474976710656 →
    Ev (fun k => slices_Reverse_byte_byte.l0 k (p ++ m ++ q) (p.length : Int) ((p.length : Int) + m.length - 1)) (p ++ m.reverse ++ q) := by
  induction n using Nat.strongRecOn with
  | _ n ih =>
    intro p m q hm hlen
    by_cases h1 : n ≤ 1
    · have hr : m.reverse = m := by
        match m, hm with
        | [], _ => rfl
        | [x], _ => rfl
        | x :: y :: m, h => simp at h; omega
      rw [hr]
      exact Ev.step (fun k => by rw [slices_Reverse_byte_byte.l0, if_neg (by omega)]) (Ev.now _)
    · obtain ⟨x, m1, rfl⟩ : ∃ x m1, m = x :: m1 := by
        cases m with
        | nil => simp at hm; omega
        | cons x m1 => exact ⟨x, m1, rfl⟩
      rcases eq_of_snoc m1 with h | ⟨m2, y, rfl⟩
      · subst h; simp at hm; omega
      have hm2 : m2.length + 2 = n := by simp at hm; omega
      have hj : (p.length : Int) + ((x :: (m2 ++ [y])).length : Int) - 1 = ((p ++ x :: m2).length : Int) := by simp; omega
      have e1 : p ++ x :: (m2 ++ [y]) ++ q = (p ++ x :: m2) ++ y :: q := by simp
      have e2 : p ++ x :: (m2 ++ [y]) ++ q = p ++ x :: (m2 ++ y :: q) := by simp
      have hpl : p.length + m2.length + q.length + 2 ≤ 281474976710656 := by simp at hlen; omega
      have hL : (p ++ x :: (m2 ++ [y]) ++ q).length = p.length + m2.length + q.length + 2 := by simp; omega
      have hJ : (p ++ x :: m2).length = p.length + m2.length + 1 := by simp; omega
      have rx : rd (p ++ x :: (m2 ++ [y]) ++ q) (p.length : Int) = x := by rw [e2]; exact rd_mid _ _ _
      have ry : rd (p ++ x :: (m2 ++ [y]) ++ q) ((p ++ x :: m2).length : Int) = y := by rw [e1]; exact rd_mid _ _ _
      have es : ((p ++ x :: (m2 ++ [y]) ++ q).set ((p.length : Int)).toNat y).set (((p ++ x :: m2).length : Int)).toNat x = (p ++ [y]) ++ m2 ++ (x :: q) := by
        rw [e2, set_mid, show p ++ y :: (m2 ++ y :: q) = (p ++ y :: m2) ++ y :: q by simp, show ((p ++ x :: m2).length : Int) = ((p ++ y :: m2).length : Int) by simp, set_mid]
        simp
      refine Ev.step (fun k => by rw [slices_Reverse_byte_byte.l0, hj, if_pos (by omega), if_pos (by omega), if_pos (by omega), if_pos (by omega), if_pos (by omega), rx, ry, es, w64 (x := (p.length : Int) + 1) (by omega) (by omega), w64 (by omega) (by omega)]) ?_
      have hi := ih m2.length (by omega) (p ++ [y]) m2 (x :: q) rfl (by simp; omega)
      have e3 : ((p ++ [y]).length : Int) = (p.length : Int) + 1 := by simp
      have e4 : ((p ++ x :: m2).length : Int) - 1 = ((p ++ [y]).length : Int) + (m2.length : Int) - 1 := by rw [hJ, e3]; omega
      rw [e4, ← e3]
      have e5 : p ++ (x :: (m2 ++ [y])).reverse ++ q = (p ++ [y]) ++ m2.reverse ++ (x :: q) := by simp
      rw [e5]
      exact hi
theorem rev_ev (l : List Int) (h : l.length ≤ 281474976710656) : Ev (fun k => slices_Reverse_byte_byte.f k l) l.reverse := by
  have := rev_l0 l.length [] l [] rfl (by simpa using h)
  refine Ev.congr (fun k => by rw [slices_Reverse_byte_byte.f, w64 (by omega) (by omega)]) ?_
  simpa using this
/-! ### text -/
def rd10 (m : Nat) : List Int := if m = 0 then [] else ((48 + m % 10 : Nat) : Int) :: rd10 (m / 10)
termination_by m
decreasing_by omega
theorem rd10_zero : rd10 0 = [] := by rw [rd10, if_pos rfl]
theorem rd10_pos {m : Nat} (h : 0 < m) : rd10 m = ((48 + m % 10 : Nat) : Int) :: rd10 (m / 10) := by rw [rd10, if_neg (by omega)]
theorem rd10_digs (m : Nat) (h : 0 < m) : ((rd10 m).reverse).map (fun n => UInt8.ofNat n.toNat) = digs m := by
  induction m using Nat.strongRecOn with
  | _ m ih =>
    rw [rd10_pos h, List.reverse_cons, List.map_append]
    by_cases h1 : m < 10
    · rw [show m / 10 = 0 by omega, rd10_zero, digs_lt h1]
      show [UInt8.ofNat (((48 + m % 10 : Nat) : Int)).toNat] = _
      rw [Int.toNat_natCast, Nat.mod_eq_of_lt h1]
    · rw [ih (m / 10) (by omega) (by omega), digs_ge h1]
      rfl
theorem rd10_len (m : Nat) : (rd10 m).length ≤ (digs m).length := by
  by_cases h : 0 < m
  · rw [← rd10_digs m h]; simp
  · rw [show m = 0 by omega, rd10_zero]; simp
theorem strOf_rd10 (m : Nat) (h : 0 < m) : strOfNums ((rd10 m).reverse) = txt m := by
  unfold strOfNums txt
  rw [rd10_digs m h]
theorem text_rest {q x3 : List Int} {r : ByteArray} (hq : Norm q) (hl : q.length ≤ 17592186044416) (h3 : x3.length ≤ 140737488355328)
    (h0 : q = [] → r = strOfNums x3.reverse)
    (h1 : ∀ (q' : List Int) (l' : Int), q ≠ [] → val q = val q' * 1000000000 + l' → 0 ≤ l' → l' < 1000000000 → Norm q' → q'.length ≤ q.length → Ev (fun k => nat_text.l1 k x3 q' l' 0) r) : Ev (fun k => nat_text.l0 k q x3) r := by
  by_cases hq0 : q = []
  · rw [h0 hq0, hq0]
    refine Ev.step (fun k => by rw [nat_text.l0, if_neg (by simp)]) ?_
    exact Ev.bind (rev_ev x3 (by omega)) (Ev.now _)
  · obtain ⟨q', l', g1, g2, g3, g4, g5, g6⟩ := small_ev q 1000000000 hq.ok (by omega) (by omega) hl
    have hp := List.length_pos_iff.2 hq0
    refine Ev.step (fun k => by rw [nat_text.l0, if_pos (by omega)]) ?_
    exact Ev.bind g1 (h1 q' l' hq0 g2 g3 g4 g5 g6)
theorem h9 : (10 : Nat) ^ 9 = 1000000000 := by decide
theorem text_l1 (m : Nat) : ∀ (x3 q : List Int) (v l kk e : Nat), kk + e = 9 → 0 < e → Norm q → val q = (v : Int) → l < 10 ^ e → m = v * 10 ^ e + l → x3.length + (rd10 m).length ≤ 70368744177664 → q.length ≤ 17592186044416 →
    Ev (fun k => nat_text.l1 k x3 q (l : Int) (kk : Int)) (strOfNums (x3 ++ rd10 m).reverse) := by
  induction m using Nat.strongRecOn with
  | _ m ih =>
    intro x3 q v l kk e hke he hq hv hl hm hlen hql
    have hl9 := pow_le9 (n := e) (by omega)
    have hgo : 0 < m → Ev (fun k => nat_text.l1 k (x3 ++ [(IntKind.u64.wrap (48 + (Int.tmod (l : Int) 10))) % 256]) q (IntKind.u64.wrap (Int.tdiv (l : Int) 10)) (wrap64 ((kk : Int) + 1))) (strOfNums (x3 ++ rd10 m).reverse) := by
      intro hpos
      obtain ⟨e', rfl⟩ : ∃ e', e = e' + 1 := ⟨e - 1, by omega⟩
      have ed : v * 10 ^ (e' + 1) + l = 10 * (v * 10 ^ e') + l := by rw [Nat.pow_succ]; grind
      have hm10 : m % 10 = l % 10 := by rw [hm, ed]; omega
      have hd10 : m / 10 = v * 10 ^ e' + l / 10 := by rw [hm, ed]; omega
      have hl' : l / 10 < 10 ^ e' := by rw [Nat.pow_succ] at hl; omega
      have c1 : (IntKind.u64.wrap (48 + (Int.tmod (l : Int) 10))) % 256 = ((48 + m % 10 : Nat) : Int) := by
        rw [Int.tmod_eq_emod_of_nonneg (by omega), wu64 (by omega) (by omega), hm10]; omega
      have c2 : IntKind.u64.wrap (Int.tdiv (l : Int) 10) = ((l / 10 : Nat) : Int) := by
        rw [Int.tdiv_eq_ediv_of_nonneg (by omega), wu64 (by omega) (by omega)]; omega
      have c3 : wrap64 ((kk : Int) + 1) = ((kk + 1 : Nat) : Int) := by rw [w64 (by omega) (by omega)]; omega
      rw [c1, c2, c3]
      have hr := rd10_pos hpos
      have hres : x3 ++ rd10 m = (x3 ++ [((48 + m % 10 : Nat) : Int)]) ++ rd10 (m / 10) := by rw [hr]; simp
      have hlen' : (x3 ++ [((48 + m % 10 : Nat) : Int)]).length + (rd10 (m / 10)).length ≤ 70368744177664 := by
        rw [hr] at hlen; simp at hlen ⊢; omega
      rw [hres]
      by_cases he' : 0 < e'
      · exact ih (m / 10) (by omega) _ q v (l / 10) (kk + 1) e' (by omega) he' hq hv hl' hd10 hlen' hql
      · have he0 : e' = 0 := Nat.eq_zero_of_not_pos he'
        subst he0
        have hl0 : l / 10 = 0 := Nat.lt_one_iff.mp (by rw [Nat.pow_zero] at hl'; exact hl')
        clear hl hm hl9 hlen ed hres
        have hmv : m / 10 = v := by rw [hd10, hl0]; simp
        refine Ev.step (fun k => by rw [nat_text.l1, if_neg (by omega)]) ?_
        refine text_rest hq hql (by simp at hlen' ⊢; omega) (fun h => ?_) (fun q' l' hq0 g1 g2 g3 g4 g5 => ?_)
        · have : v = 0 := by rw [h] at hv; simp [val] at hv; omega
          rw [hmv, this, rd10_zero, List.append_nil]
        · obtain ⟨l2, hl2⟩ := Int.eq_ofNat_of_zero_le g2
          obtain ⟨v2, hv2⟩ := Int.eq_ofNat_of_zero_le (val_nonneg g4.ok)
          rw [hl2]
          refine ih (m / 10) (by omega) _ q' v2 l2 0 9 rfl (by omega) g4 hv2 (by rw [h9]; rw [hl2] at g3; omega) ?_ hlen' (by omega)
          rw [hmv, h9]
          rw [hv, hl2, hv2] at g1
          omega
    by_cases hq0 : q = []
    · have hv0 : v = 0 := by
        have h : (v : Int) = 0 := by rw [← hv, hq0]; rfl
        exact Int.ofNat_eq_zero.mp h
      by_cases hl0 : l = 0
      · have hm0 : m = 0 := by rw [hm, hv0, hl0]; simp
        refine Ev.step (fun k => by rw [nat_text.l1, if_pos (by omega), if_neg (by rw [hq0]; simp), if_neg (by omega)]) ?_
        refine text_rest hq hql (by omega) (fun _ => ?_) (fun _ _ h => absurd hq0 h)
        rw [hm0, rd10_zero, List.append_nil]
      · refine Ev.step (fun k => by rw [nat_text.l1, if_pos (by omega), if_neg (by rw [hq0]; simp), if_pos (by omega), if_pos (by omega)]) ?_
        exact hgo (by omega)
    · have hp := hq.pos hq0
      have hlq := List.length_pos_iff.2 hq0
      have hmp : 0 < m := by
        have : 0 < v * 10 ^ e := Nat.mul_pos (by omega) (Nat.pow_pos (by omega))
        omega
      refine Ev.step (fun k => by rw [nat_text.l1, if_pos (by omega), if_pos (by omega), if_pos (by omega)]) ?_
      exact hgo hmp
theorem text_ev (a : List Int) (n : Nat) (ha : Norm a) (hv : val a = (n : Int)) (hla : a.length ≤ 17592186044416) (hn : (txt n).size ≤ 70368744177664) : Ev (fun k => nat_text.f k a) (txt n) := by
  by_cases h0 : a = []
  · have : n = 0 := by rw [h0] at hv; simp [val] at hv; omega
    rw [h0, this, txt_small 0 (by omega)]
    exact Ev.congr (fun k => by rw [nat_text.f, if_pos (by simp)]; rfl) (Ev.now _)
  · have hp := ha.pos h0
    have hlp := List.length_pos_iff.2 h0
    have hnp : 0 < n := by omega
    have hlen : (rd10 n).length ≤ 70368744177664 := Nat.le_trans (rd10_len n) (by rw [← size_txt]; exact hn)
    refine Ev.congr (fun k => by rw [nat_text.f, if_neg (by omega)]) ?_
    rw [← strOf_rd10 n hnp]
    refine text_rest ha hla (by simp) (fun h => absurd h h0) (fun q' l' hq0 g1 g2 g3 g4 g5 => ?_)
    obtain ⟨l2, hl2⟩ := Int.eq_ofNat_of_zero_le g2
    obtain ⟨v2, hv2⟩ := Int.eq_ofNat_of_zero_le (val_nonneg g4.ok)
    rw [hl2]
    have := text_l1 n [] q' v2 l2 0 9 rfl (by omega) g4 hv2 (by rw [h9]; rw [hl2] at g3; omega) (by rw [h9]; rw [hv, hl2, hv2] at g1; omega) (by simpa using hlen) (by omega)
    simpa using this
end Go.Proofs.Ytpjpgfaidallhaa.Th
