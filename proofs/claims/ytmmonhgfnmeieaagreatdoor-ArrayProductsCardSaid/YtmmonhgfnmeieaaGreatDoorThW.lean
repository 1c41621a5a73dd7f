/- Whole numbers as texts; what the functions of whole come to. -/
import Derived.Test.YtmmonhgfnmeieaaGreatDoorPBx
-- mini
namespace Go.Proofs.YtmmonhgfnmeieaaGreatDoor.Th
open Go Go.RowKit Go.ZPWords Go.Proofs.YtmmonhgfnmeieaaGreatDoor.Str
namespace Wh
open Go.Proofs.YtmmonhgfnmeieaaGreatDoor.PB
/-- The text of a whole number. -/
def zt (z : Int) : ByteArray := if z < 0 then (⟨#[45]⟩ : ByteArray) ++ txt z.natAbs else txt z.natAbs
/-- A number of a size and a sign. -/
def sv (b : Bool) (n : Nat) : Int := if b = true then -(n : Int) else n
theorem natAbs_sv (b : Bool) (n : Nat) : (sv b n).natAbs = n := by unfold sv; cases b <;> simp
theorem sv_parts (z : Int) : sv (decide (z < 0)) z.natAbs = z := by
 unfold sv;by_cases h : z < 0
 · rw [decide_eq_true h, if_pos rfl]; omega
 rw [decide_eq_false h, if_neg (by simp)]; omega
theorem minus_list (s : ByteArray) : ((⟨#[45]⟩ : ByteArray) ++ s).data.toList = 45 :: s.data.toList := by simp
theorem size_list' (s : ByteArray) : s.size = s.data.toList.length := by rw [Array.length_toList]; rfl
theorem minus_size (s : ByteArray) : ((⟨#[45]⟩ : ByteArray) ++ s).size = s.size + 1 := by rw [size_list', minus_list, size_list']; rfl
theorem ext_of {a b : ByteArray} (h : a.data.toList = b.data.toList) : a = b := ByteArray.ext (Array.toList_inj.1 h)
theorem zero_toList {m : Nat} : (txt m).toList = ([48] : List UInt8) ↔ m = 0 := by
  have e : ([48] : List UInt8) = digs 0 := by rw [digs_lt (by omega)]; rfl
  rw [toList_txt, e, digs_inj]
theorem txt_head (n : Nat) : ∃ c l, (txt n).data.toList = c :: l ∧ 48 ≤ c.toNat ∧ c.toNat ≤ 57 := by
  obtain ⟨c, l, h⟩ := List.exists_cons_of_ne_nil (digs_ne n);refine ⟨c, l, h, ?_⟩;have h1 := List.all_eq_true.1 (digs_dig n) c (by rw [h]; exact List.mem_cons_self)
  simpa [isDig] using h1
theorem ex_list (s : ByteArray) (a b : Nat) : (s.extract a b).data.toList = (s.data.toList.take b).drop a := by
 rw [ByteArray.data_extract, Array.toList_extract, List.extract_eq_take_drop, List.take_drop];by_cases h : a ≤ b
 · rw [show a + (b - a) = b by omega]
 rw [List.drop_eq_nil_of_le (by simp; omega), List.drop_eq_nil_of_le (by simp; omega)]
/-! ### CutPrefix of a minus -/
theorem cut_minus {s : ByteArray} {l : List UInt8} (h : s.data.toList = 45 :: l) : strings_CutPrefix.f s (⟨#[45]⟩ : ByteArray) = some (⟨l.toArray⟩, true) := by
 have hs : s.size = l.length + 1 := by rw [size_list', h]; rfl
 have h1 : (s.extract 0 (((⟨#[45]⟩ : ByteArray).size : Int)).toNat).toList = (⟨#[45]⟩ : ByteArray).toList := by
  rw [ByteArray.toList_eq, ByteArray.toList_eq, ex_list, h]; rfl
 have h2 : s.extract (((⟨#[45]⟩ : ByteArray).size : Int)).toNat s.size = ⟨l.toArray⟩ := by
  apply ext_of;rw [ex_list, size_list' s, List.take_length, h]; rfl
 have k1 : ((s.size : Int)) ≥ (((⟨#[45]⟩ : ByteArray).size : Nat) : Int) := by rw [hs]; show ((l.length + 1 : Nat) : Int) ≥ 1; omega
 have k2 : (0 : Int) ≤ (((⟨#[45]⟩ : ByteArray).size : Nat) : Int) := by omega
 have hp : stringslite_HasPrefix.f s (⟨#[45]⟩ : ByteArray) = some true := by
  rw [stringslite_HasPrefix.f, if_pos k1, if_pos k2, if_pos k1, h1, beq_self_eq_true]
 rw [strings_CutPrefix.f, stringslite_CutPrefix.f, hp, Option.bind_some, if_pos rfl, if_pos k2, if_pos k1, h2, Option.bind_some]
theorem cut_none {s : ByteArray} (h : ∀ l, s.data.toList ≠ 45 :: l) : strings_CutPrefix.f s (⟨#[45]⟩ : ByteArray) = some (s, false) := by
 have hp : stringslite_HasPrefix.f s (⟨#[45]⟩ : ByteArray) = some false := by
  by_cases hs : ((s.size : Int)) ≥ (((⟨#[45]⟩ : ByteArray).size : Nat) : Int)
  · have k2 : (0 : Int) ≤ (((⟨#[45]⟩ : ByteArray).size : Nat) : Int) := by omega
    have h1 : ((s.extract 0 (((⟨#[45]⟩ : ByteArray).size : Int)).toNat).toList == (⟨#[45]⟩ : ByteArray).toList) = false := by
     rw [beq_eq_false_iff_ne, ByteArray.toList_eq, ByteArray.toList_eq, ex_list];intro e
     cases hl : s.data.toList with
     | nil => rw [hl] at e; cases e
     | cons c l =>
      rw [hl] at e;have e2 : [c] = [45] := e;injection e2 with e3;exact h l (by rw [hl, e3])
    rw [stringslite_HasPrefix.f, if_pos hs, if_pos k2, if_pos hs, h1]
  rw [stringslite_HasPrefix.f, if_neg hs]
 rw [strings_CutPrefix.f, stringslite_CutPrefix.f, hp, Option.bind_some, if_neg (by simp), Option.bind_some]
/-! ### read -/
theorem read_zt (z : Int) : whole_read.f (zt z) = some (decide (z < 0), txt z.natAbs, true) := by
 unfold zt;by_cases h : z < 0
 · rw [if_pos h, decide_eq_true h, whole_read.f, cut_minus (minus_list _), Option.bind_some];have e : (⟨(txt z.natAbs).data.toList.toArray⟩ : ByteArray) = txt z.natAbs := rfl
   have hz : ((txt z.natAbs).toList == ([48] : List UInt8)) = false := by
    rw [beq_eq_false_iff_ne];intro h0;have := zero_toList.1 h0;omega
   rw [e, nat_Right.f, right_txt, Option.bind_some, if_pos rfl, if_pos rfl, hz];rfl
 rw [if_neg h, decide_eq_false h];obtain ⟨c, l, hc, h1, h2⟩ := txt_head z.natAbs
 have hn : ∀ m, (txt z.natAbs).data.toList ≠ 45 :: m := by
  intro m e;rw [hc] at e;injection e with e1 e2;rw [e1] at h1;exact absurd h1 (by decide)
 rw [whole_read.f, cut_none hn, Option.bind_some, nat_Right.f, right_txt, Option.bind_some, if_pos rfl, if_neg (by simp)];rfl
/-- Is a text a whole number? -/
def right (s : ByteArray) : Bool := match whole_read.f s with
  | some x => x.2.2
  | none => false
theorem read_some (s : ByteArray) : ∃ mi sz, whole_read.f s = some (mi, sz, right s) := by
 suffices h : ∃ mi sz ok, whole_read.f s = some (mi, sz, ok) by
  obtain ⟨mi, sz, ok, e⟩ := h;refine ⟨mi, sz, ?_⟩;unfold right;rw [e]
 cases hl : s.data.toList with
 | nil =>
  have hn : ∀ m, s.data.toList ≠ 45 :: m := by intro m e; rw [hl] at e; cases e
  rw [whole_read.f, cut_none hn, Option.bind_some, nat_Right.f, Option.bind_some];by_cases hr : Str.right s = true
  · rw [if_pos hr, if_neg (by simp)]; exact ⟨_, _, _, rfl⟩
  rw [if_neg hr]; exact ⟨_, _, _, rfl⟩
 | cons c l =>
  by_cases hc : c = 45
  · rw [hc] at hl;rw [whole_read.f, cut_minus hl, Option.bind_some, nat_Right.f, Option.bind_some];by_cases hr : Str.right (⟨l.toArray⟩ : ByteArray) = true
    · rw [if_pos hr, if_pos rfl]; exact ⟨_, _, _, rfl⟩
    rw [if_neg hr]; exact ⟨_, _, _, rfl⟩
  have hn : ∀ m, s.data.toList ≠ 45 :: m := by intro m e; rw [hl] at e; injection e with e1 _; exact hc e1
  rw [whole_read.f, cut_none hn, Option.bind_some, nat_Right.f, Option.bind_some];by_cases hr : Str.right s = true
  · rw [if_pos hr, if_neg (by simp)]; exact ⟨_, _, _, rfl⟩
  rw [if_neg hr]; exact ⟨_, _, _, rfl⟩
theorem right_zt (z : Int) : right (zt z) = true := by unfold right; rw [read_zt]
theorem zt_of_right {s : ByteArray} (h : right s = true) : ∃ z, s = zt z := by
 unfold right at h
 cases hl : s.data.toList with
 | nil =>
  have hn : ∀ m, s.data.toList ≠ 45 :: m := by intro m e; rw [hl] at e; cases e
  rw [whole_read.f, cut_none hn, Option.bind_some, nat_Right.f, Option.bind_some] at h;by_cases hr : Str.right s = true
  · obtain ⟨n, rfl⟩ := (right_iff s).1 hr;exact ⟨(n : Int), by unfold zt; rw [if_neg (by omega)]; rfl⟩
  rw [if_neg hr] at h; cases h
 | cons c l =>
  by_cases hc : c = 45
  · rw [hc] at hl;rw [whole_read.f, cut_minus hl, Option.bind_some, nat_Right.f, Option.bind_some] at h;by_cases hr : Str.right (⟨l.toArray⟩ : ByteArray) = true
    · rw [if_pos hr, if_pos rfl] at h;obtain ⟨n, hn⟩ := (right_iff _).1 hr
      have hn0 : n ≠ 0 := by
       intro h0;rw [hn, h0] at h;have : ((txt 0).toList == ([48] : List UInt8)) = true := by rw [beq_iff_eq]; exact zero_toList.2 rfl
       rw [this] at h
       cases h
      refine ⟨-(n : Int), ?_⟩;unfold zt;rw [if_pos (by omega), show (-(n : Int)).natAbs = n by omega];apply ext_of;rw [hl, minus_list, ← hn]
    rw [if_neg hr] at h; cases h
  have hn : ∀ m, s.data.toList ≠ 45 :: m := by intro m e; rw [hl] at e; injection e with e1 _; exact hc e1
  rw [whole_read.f, cut_none hn, Option.bind_some, nat_Right.f, Option.bind_some] at h;by_cases hr : Str.right s = true
  · obtain ⟨n, rfl⟩ := (right_iff s).1 hr;exact ⟨(n : Int), by unfold zt; rw [if_neg (by omega)]; rfl⟩
  rw [if_neg hr] at h; cases h
theorem zt_inj {x y : Int} (h : zt x = zt y) : x = y := by
  have h1 := read_zt x;rw [h, read_zt] at h1;simp only [Option.some.injEq, Prod.mk.injEq] at h1;have h2 := txt_inj h1.2.1
  have h3 : y < 0 ↔ x < 0 := by simpa using h1.1
  omega
/-! ### sizes -/
def zs (z : Int) : Nat := (txt z.natAbs).size
theorem zs_le (z : Int) : zs z ≤ (zt z).size ∧ (zt z).size ≤ zs z + 1 := by
 unfold zs zt;by_cases h : z < 0
 · rw [if_pos h, minus_size]; omega
 rw [if_neg h]; omega
theorem zs_add (x y : Int) : zs (x + y) ≤ max (zs x) (zs y) + 1 := by
  unfold zs
  have h1 : (x + y).natAbs ≤ x.natAbs + y.natAbs := by omega
  exact Nat.le_trans (size_mono h1) (size_add _ _)
theorem zs_neg (x : Int) : zs (-x) = zs x := by unfold zs; rw [Int.natAbs_neg]
theorem zs_sub (x y : Int) : zs (x - y) ≤ max (zs x) (zs y) + 1 := by
  rw [Int.sub_eq_add_neg];have := zs_add x (-y);rw [zs_neg] at this;exact this
theorem zs_mul (x y : Int) : zs (x * y) ≤ zs x + zs y := by unfold zs; rw [Int.natAbs_mul]; exact size_mul _ _
/-- What is short enough. -/
abbrev Ft (z : Int) : Prop := zs z ≤ 274877906944
theorem Ft.nat {z : Int} (h : Ft z) : Fit (txt z.natAbs) := Nat.le_trans h (by decide)
theorem fit_nat {n : Nat} (h : (txt n).size ≤ 549755813888) : Fit (txt n) := h
/-! ### text -/
theorem text_sv (b : Bool) (n : Nat) (h : (txt n).size ≤ 549755813890) : whole_number_text.f b (txt n) = some (zt (sv b n)) := by
 unfold sv zt
 cases b with
 | false =>
  have e : (if (false = true) then -(n : Int) else (n : Int)) = (n : Int) := if_neg (by decide);rw [whole_number_text.f, if_neg (by decide), e, if_neg (by omega)];rfl
 | true =>
  have e : (if (true = true) then -(n : Int) else (n : Int)) = -(n : Int) := if_pos rfl;rw [whole_number_text.f, if_pos rfl, e];by_cases h0 : n = 0
  · subst h0;rw [if_pos (zero_toList.2 rfl)];rfl
  rw [if_neg (fun e => h0 (zero_toList.1 e)), if_pos (by omega), if_pos (by omega), show (-(n : Int)).natAbs = n by omega]
theorem sum_sv (b1 b2 : Bool) (m n : Nat) (hm : (txt m).size ≤ 274877906946) (hn : (txt n).size ≤ 274877906946) : ∃ b c, whole_sum.f b1 (txt m) b2 (txt n) = some (b, txt c) ∧ sv b c = sv b1 m + sv b2 n := by
 have Fm : Fit (txt m) := Nat.le_trans hm (by decide);have Fn : Fit (txt n) := Nat.le_trans hn (by decide);by_cases hb : (b1 == b2) = true
 · refine ⟨b1, m + n, ?_, ?_⟩
   · rw [whole_sum.f, if_pos hb, nat_Add.txt Fm Fn, Option.bind_some]
   have : b1 = b2 := by simpa using hb
   subst this;unfold sv
   cases b1 <;> simp <;> omega
 have hbb : b2 = !b1 := by cases b1 <;> cases b2 <;> simp at hb ⊢
 subst hbb;by_cases hlt : m < n
 · refine ⟨!b1, n - m, ?_, ?_⟩
   · have hc : cmp (m : Int) (n : Int) < 0 := by unfold cmp; rw [if_pos (by omega)]; omega
     rw [whole_sum.f, if_neg hb, nat_Compare.txt Fm Fn, Option.bind_some, if_pos hc, nat_Sub.txt Fn Fm (by omega), Option.bind_some]
   unfold sv
   cases b1 <;> simp <;> omega
 refine ⟨b1, m - n, ?_, ?_⟩
 · have hc : ¬ cmp (m : Int) (n : Int) < 0 := by
    unfold cmp;rw [if_neg (by omega)];split <;> omega
   rw [whole_sum.f, if_neg hb, nat_Compare.txt Fm Fn, Option.bind_some, if_neg hc, nat_Sub.txt Fm Fn (by omega), Option.bind_some]
 unfold sv
 cases b1 <;> simp <;> omega
/-! ### the exported ones -/
theorem both_zt (x y : Int) : whole_both.f (zt x) (zt y) = some (decide (x < 0), txt x.natAbs, decide (y < 0), txt y.natAbs, true) := by
  rw [whole_both.f, read_zt, Option.bind_some, read_zt, Option.bind_some, if_pos rfl]
theorem both_no (a b : ByteArray) (h : (right a && right b) = false) : ∃ p q r s, whole_both.f a b = some (p, q, r, s, false) := by
 obtain ⟨m1, s1, e1⟩ := read_some a;obtain ⟨m2, s2, e2⟩ := read_some b;rw [whole_both.f, e1, Option.bind_some, e2, Option.bind_some]
 cases ha : right a with
 | false => rw [if_neg (by simp)]; exact ⟨_, _, _, _, rfl⟩
 | true =>
  rw [ha, Bool.true_and] at h;rw [if_pos rfl, h];exact ⟨_, _, _, _, rfl⟩
theorem add_zt (x y : Int) (hx : Ft x) (hy : Ft y) : whole_Add.f (zt x) (zt y) = some (zt (x + y), 0) := by
 obtain ⟨b, c, h1, h2⟩ := sum_sv (decide (x < 0)) (decide (y < 0)) x.natAbs y.natAbs (Nat.le_trans hx (by decide)) (Nat.le_trans hy (by decide));rw [sv_parts, sv_parts] at h2;have hc : c = (x + y).natAbs := by rw [← h2, natAbs_sv]
 have hs : (txt c).size ≤ 549755813890 := by rw [hc]; have := zs_add x y; unfold Ft zs at *; omega
 rw [whole_Add.f, both_zt, Option.bind_some, if_pos rfl, h1, Option.bind_some, text_sv b c hs, Option.bind_some, h2]
theorem sub_zt (x y : Int) (hx : Ft x) (hy : Ft y) : whole_Sub.f (zt x) (zt y) = some (zt (x - y), 0) := by
 obtain ⟨b, c, h1, h2⟩ := sum_sv (decide (x < 0)) (!decide (y < 0)) x.natAbs y.natAbs (Nat.le_trans hx (by decide)) (Nat.le_trans hy (by decide))
 have hneg : sv (!decide (y < 0)) y.natAbs = -y := by
  unfold sv;by_cases h : y < 0
  · rw [decide_eq_true h]; simp; omega
  rw [decide_eq_false h]; simp; omega
 rw [sv_parts, hneg, ← Int.sub_eq_add_neg] at h2;have hc : c = (x - y).natAbs := by rw [← h2, natAbs_sv]
 have hs : (txt c).size ≤ 549755813890 := by rw [hc]; have := zs_sub x y; unfold Ft zs at *; omega
 rw [whole_Sub.f, both_zt, Option.bind_some, if_pos rfl, h1, Option.bind_some, text_sv b c hs, Option.bind_some, h2]
theorem mul_zt (x y : Int) (hx : Ft x) (hy : Ft y) : whole_Mul.f (zt x) (zt y) = some (zt (x * y), 0) := by
 have hs : (txt (x.natAbs * y.natAbs)).size ≤ 549755813890 := by
  have := size_mul x.natAbs y.natAbs;unfold Ft zs at hx hy;omega
 have hv : sv (decide (x < 0) != decide (y < 0)) (x.natAbs * y.natAbs) = x * y := by
  have h1 := sv_parts x;have h2 := sv_parts y;unfold sv at h1 h2 ⊢;generalize x.natAbs = m at *;generalize y.natAbs = n at *;by_cases hx : x < 0 <;> by_cases hy : y < 0 <;> simp [hx, hy] at h1 h2 ⊢ <;> rw [← h1, ← h2] <;> simp [Int.neg_mul, Int.mul_neg]
 rw [whole_Mul.f, both_zt, Option.bind_some, if_pos rfl, nat_Mul.txt hx.nat hy.nat, Option.bind_some, text_sv _ _ hs, Option.bind_some, hv]
theorem neg_zt (x : Int) (hx : Ft x) : whole_Neg.f (zt x) = some (zt (-x), 0) := by
 have hs : (txt x.natAbs).size ≤ 549755813890 := Nat.le_trans hx (by decide)
 have hneg : sv (!decide (x < 0)) x.natAbs = -x := by
  unfold sv;by_cases h : x < 0
  · rw [decide_eq_true h]; simp; omega
  rw [decide_eq_false h]; simp; omega
 rw [whole_Neg.f, read_zt, Option.bind_some, if_pos rfl, text_sv _ _ hs, Option.bind_some, hneg]
def sgn (z : Int) : Int := if z < 0 then -1 else if z = 0 then 0 else 1
theorem right_spec (s : ByteArray) : whole_Right.f s = some (right s) := by
  obtain ⟨mi, sz, e⟩ := read_some s;rw [whole_Right.f, e, Option.bind_some]
/-! ### refused -/
theorem add_no (a b : ByteArray) (h : (right a && right b) = false) : whole_Add.f a b = some (⟨#[]⟩, 2) := by
  obtain ⟨p, q, r, s, e⟩ := both_no a b h;rw [whole_Add.f, e, Option.bind_some, if_neg (by simp)]
theorem sub_no (a b : ByteArray) (h : (right a && right b) = false) : whole_Sub.f a b = some (⟨#[]⟩, 2) := by
  obtain ⟨p, q, r, s, e⟩ := both_no a b h;rw [whole_Sub.f, e, Option.bind_some, if_neg (by simp)]
theorem mul_no (a b : ByteArray) (h : (right a && right b) = false) : whole_Mul.f a b = some (⟨#[]⟩, 2) := by
  obtain ⟨p, q, r, s, e⟩ := both_no a b h;rw [whole_Mul.f, e, Option.bind_some, if_neg (by simp)]
theorem neg_no (a : ByteArray) (h : right a = false) : whole_Neg.f a = some (⟨#[]⟩, 2) := by
  obtain ⟨mi, sz, e⟩ := read_some a;rw [h] at e;rw [whole_Neg.f, e, Option.bind_some, if_neg (by simp)]
end Wh
end Go.Proofs.YtmmonhgfnmeieaaGreatDoor.Th
/- The reference of layer 2. -/
namespace Go.Proofs.YtmmonhgfnmeieaaGreatDoor.Th
open Go Go.RowKit Go.ZPWords Go.Proofs.YtmmonhgfnmeieaaGreatDoor.Str
namespace Wh
open Go.Proofs.YtmmonhgfnmeieaaGreatDoor.PB
/-! ### the reference, layer 2 -/
theorem zt_neg {z : Int} (h : z < 0) : (zt z).data.toList = 45 :: (txt z.natAbs).data.toList := by unfold zt; rw [if_pos h, minus_list]
theorem zt_pos {z : Int} (h : ¬ z < 0) : zt z = txt z.natAbs := by unfold zt; rw [if_neg h]
theorem zt_size (z : Int) : 0 < (zt z).size := by
 by_cases h : z < 0
 · rw [size_list', zt_neg h]; simp
 obtain ⟨c, l, hc, _, _⟩ := txt_head z.natAbs;rw [zt_pos h, size_list', hc]; simp
theorem bt_zt (z : Int) : bt (zt z) 0 = 45 ↔ z < 0 := by
 by_cases h : z < 0
 · rw [bt_zero (zt_neg h)]; simp [h]
 obtain ⟨c, l, hc, h1, h2⟩ := txt_head z.natAbs;rw [zt_pos h, bt_zero hc];omega
theorem toList_neg {z : Int} (h : z < 0) : (zt z).toList = 45 :: (txt z.natAbs).toList := by rw [ByteArray.toList_eq, zt_neg h, ByteArray.toList_eq]
theorem zt_zero (z : Int) : (zt z).toList = ([48] : List UInt8) ↔ z = 0 := by
 by_cases h : z < 0
 · rw [toList_neg h];constructor
   · intro e; injection e with e1; exact absurd e1 (by decide)
   intro e; omega
 rw [zt_pos h, zero_toList]; omega
theorem rsign_zt (z : Int) : rf2_Sign.f (zt z) = some (sgn z) := by
 have h0 := zt_size z;unfold sgn;rw [rf2_Sign.f, if_pos (show (0 : Int) < ((zt z).size : Int) by omega)];by_cases h : z < 0
 · rw [if_pos ((bt_zt z).2 h), if_pos h]
 rw [if_neg (fun e => h ((bt_zt z).1 e)), if_neg h];by_cases hz : z = 0
 · rw [if_pos ((zt_zero z).2 hz), if_pos hz]
 rw [if_neg (fun e => hz ((zt_zero z).1 e)), if_neg hz]
theorem rsize_zt (z : Int) : rf2_Size.f (zt z) = some (txt z.natAbs) := by
 have h0 := zt_size z;rw [rf2_Size.f, if_pos (show ((zt z).size : Int) > 0 by omega), if_pos (show (0 : Int) < ((zt z).size : Int) by omega)];by_cases h : z < 0
 · rw [if_pos ((bt_zt z).2 h), if_pos (show (1 : Int) ≤ ((zt z).size : Int) by omega)];refine congrArg some (ext_of ?_);rw [ex_list, size_list' (zt z), List.take_length, zt_neg h];rfl
 rw [if_neg (fun e => h ((bt_zt z).1 e)), zt_pos h]
theorem rof (n : Nat) (s : Int) (h : (txt n).size ≤ 549755813890) : rf2_of.f (txt n) s = some (zt (if s < 0 then -(n : Int) else n)) := by
 rw [rf2_of.f];by_cases hs : s < 0
 · rw [if_pos hs, if_pos hs];by_cases h0 : n = 0
   · subst h0; rw [if_pos (zero_toList.2 rfl)]; rfl
   rw [if_neg (fun e => h0 (zero_toList.1 e)), if_pos (by omega), zt, if_pos (by omega), show (-(n : Int)).natAbs = n by omega]
 rw [if_neg hs, if_neg hs, zt, if_neg (by omega)]; rfl
theorem sgn_cases (z : Int) : (z < 0 ∧ sgn z = -1) ∨ (z = 0 ∧ sgn z = 0) ∨ (0 < z ∧ sgn z = 1) := by
 unfold sgn;split
 · omega
 split <;> omega
theorem rneg_zt (x : Int) (hx : Ft x) : rf2_Neg.f (zt x) = some (zt (-x)) := by
 have hs : (txt x.natAbs).size ≤ 549755813890 := Nat.le_trans hx (by decide);rw [rf2_Neg.f, rsize_zt, Option.bind_some, rsign_zt, Option.bind_some, rof _ _ hs, Option.bind_some];refine congrArg (fun z => some (zt z)) ?_;rcases sgn_cases x with ⟨h, e⟩ | ⟨h, e⟩ | ⟨h, e⟩ <;> rw [e]
 · rw [show wrap64 (-(-1)) = 1 from (w64 (by decide) (by decide)).trans (by decide), if_neg (by omega)]; omega
 · rw [show wrap64 (-0) = 0 from (w64 (by decide) (by decide)).trans (by decide), if_neg (by omega)]; omega
 rw [show wrap64 (-1) = -1 from (w64 (by decide) (by decide)).trans (by decide), if_pos (by omega)]; omega
theorem rmul_zt (x y : Int) (hx : Ft x) (hy : Ft y) : rf2_Mul.f (zt x) (zt y) = some (zt (x * y)) := by
 have hs : (txt (x.natAbs * y.natAbs)).size ≤ 549755813890 := by
  have := size_mul x.natAbs y.natAbs;unfold Ft zs at hx hy;omega
 rw [rf2_Mul.f, rsize_zt, Option.bind_some, rsize_zt, Option.bind_some, rf1_Mul.txt hx.nat hy.nat, Option.bind_some, rsign_zt, Option.bind_some, rsign_zt, Option.bind_some, rof _ _ hs, Option.bind_some];refine congrArg (fun z => some (zt z)) ?_;have hm : ((x.natAbs * y.natAbs : Nat) : Int) = (x.natAbs : Int) * (y.natAbs : Int) := Int.natCast_mul _ _;rw [hm];clear hm hs;rcases sgn_cases x with ⟨h, e⟩ | ⟨h, e⟩ | ⟨h, e⟩ <;> rcases sgn_cases y with ⟨h', e'⟩ | ⟨h', e'⟩ | ⟨h', e'⟩ <;> rw [e, e']
 · rw [show wrap64 (-1 * -1) = 1 from (w64 (by decide) (by decide)).trans (by decide), if_neg (by omega), show (x.natAbs : Int) = -x by omega, show (y.natAbs : Int) = -y by omega, Int.neg_mul_neg]
 · rw [show wrap64 (-1 * 0) = 0 from (w64 (by decide) (by decide)).trans (by decide), if_neg (by omega), h']; simp
 · rw [show wrap64 (-1 * 1) = -1 from (w64 (by decide) (by decide)).trans (by decide), if_pos (by omega), show (x.natAbs : Int) = -x by omega, show (y.natAbs : Int) = y by omega, Int.neg_mul, Int.neg_neg]
 · rw [show wrap64 (0 * -1) = 0 from (w64 (by decide) (by decide)).trans (by decide), if_neg (by omega), h]; simp
 · rw [show wrap64 (0 * 0) = 0 from (w64 (by decide) (by decide)).trans (by decide), if_neg (by omega), h]; simp
 · rw [show wrap64 (0 * 1) = 0 from (w64 (by decide) (by decide)).trans (by decide), if_neg (by omega), h]; simp
 · rw [show wrap64 (1 * -1) = -1 from (w64 (by decide) (by decide)).trans (by decide), if_pos (by omega), show (x.natAbs : Int) = x by omega, show (y.natAbs : Int) = -y by omega, Int.mul_neg, Int.neg_neg]
 · rw [show wrap64 (1 * 0) = 0 from (w64 (by decide) (by decide)).trans (by decide), if_neg (by omega), h']; simp
 rw [show wrap64 (1 * 1) = 1 from (w64 (by decide) (by decide)).trans (by decide), if_neg (by omega), show (x.natAbs : Int) = x by omega, show (y.natAbs : Int) = y by omega]
theorem radd_zt (x y : Int) (hx : Ft x) (hy : Ft y) : rf2_Add.f (zt x) (zt y) = some (zt (x + y)) := by
 have hs : (txt (x.natAbs + y.natAbs)).size ≤ 549755813890 := by
  have := size_add x.natAbs y.natAbs;unfold Ft zs at hx hy;omega
 have hd : ∀ d : Nat, d ≤ x.natAbs + y.natAbs → (txt d).size ≤ 549755813890 := fun d h => Nat.le_trans (size_mono h) hs;rw [rf2_Add.f, rsize_zt, Option.bind_some, rsize_zt, Option.bind_some, rsign_zt, Option.bind_some, rsign_zt, Option.bind_some];have hw : ((x < 0 ∧ 0 < y) ∨ (0 < x ∧ y < 0)) ∨ ¬ ((x < 0 ∧ 0 < y) ∨ (0 < x ∧ y < 0)) := Classical.em _;rcases hw with hw | hw
 · have hn : ¬ wrap64 (sgn x * sgn y) ≥ 0 := by
    rcases hw with ⟨h, h'⟩ | ⟨h, h'⟩
    · rw [show sgn x = -1 by unfold sgn; rw [if_pos h], show sgn y = 1 by unfold sgn; rw [if_neg (by omega), if_neg (by omega)], w64 (by decide) (by decide)]; decide
    rw [show sgn y = -1 by unfold sgn; rw [if_pos h'], show sgn x = 1 by unfold sgn; rw [if_neg (by omega), if_neg (by omega)], w64 (by decide) (by decide)]; decide
   rw [if_neg hn, rf1_Compare.txt hx.nat hy.nat, Option.bind_some]
   have hcmp : Ref.cmpN x.natAbs y.natAbs ≥ 0 ↔ y.natAbs ≤ x.natAbs := by
    unfold Ref.cmpN;split
    · omega
    split <;> omega
   by_cases hc : y.natAbs ≤ x.natAbs
   · rw [if_pos (hcmp.2 hc), rf1_Sub.txt hx.nat hy.nat hc, Option.bind_some, Option.bind_some, rof _ _ (hd _ (by omega)), Option.bind_some];refine congrArg (fun z => some (zt z)) ?_;clear hn hcmp;rcases sgn_cases x with ⟨h, e⟩ | ⟨h, e⟩ | ⟨h, e⟩ <;> rw [e]
     · rw [if_pos (by omega)]; omega
     · omega
     rw [if_neg (by omega)]; omega
   rw [if_neg (fun e => hc (hcmp.1 e)), rf1_Sub.txt hy.nat hx.nat (by omega), Option.bind_some, Option.bind_some, rof _ _ (hd _ (by omega)), Option.bind_some];refine congrArg (fun z => some (zt z)) ?_;clear hn hcmp;rcases sgn_cases y with ⟨h, e⟩ | ⟨h, e⟩ | ⟨h, e⟩ <;> rw [e]
   · rw [if_pos (by omega)]; omega
   · omega
   rw [if_neg (by omega)]; omega
 have hp : wrap64 (sgn x * sgn y) ≥ 0 := by
  rcases sgn_cases x with ⟨h, e⟩ | ⟨h, e⟩ | ⟨h, e⟩ <;> rcases sgn_cases y with ⟨h', e'⟩ | ⟨h', e'⟩ | ⟨h', e'⟩ <;> first | (exfalso; omega) | (rw [e, e', w64 (by decide) (by decide)]; decide)
 rw [if_pos hp, rf1_Add.txt hx.nat hy.nat, Option.bind_some, Option.bind_some, Option.bind_some, rof _ _ hs, Option.bind_some];refine congrArg (fun z => some (zt z)) ?_;clear hp;have hcast : ((x.natAbs + y.natAbs : Nat) : Int) = (x.natAbs : Int) + (y.natAbs : Int) := Int.natCast_add _ _;rw [hcast];rcases sgn_cases x with ⟨h, e⟩ | ⟨h, e⟩ | ⟨h, e⟩ <;> rcases sgn_cases y with ⟨h', e'⟩ | ⟨h', e'⟩ | ⟨h', e'⟩ <;> rw [e, e']
 · rw [if_pos (show wrap64 (-1 + -1) < 0 by rw [w64 (by decide) (by decide)]; decide)]; omega
 · rw [if_pos (show wrap64 (-1 + 0) < 0 by rw [w64 (by decide) (by decide)]; decide)]; omega
 · exfalso; omega
 · rw [if_pos (show wrap64 (0 + -1) < 0 by rw [w64 (by decide) (by decide)]; decide)]; omega
 · rw [if_neg (show ¬ wrap64 (0 + 0) < 0 by rw [w64 (by decide) (by decide)]; decide)]; omega
 · rw [if_neg (show ¬ wrap64 (0 + 1) < 0 by rw [w64 (by decide) (by decide)]; decide)]; omega
 · exfalso; omega
 · rw [if_neg (show ¬ wrap64 (1 + 0) < 0 by rw [w64 (by decide) (by decide)]; decide)]; omega
 rw [if_neg (show ¬ wrap64 (1 + 1) < 0 by rw [w64 (by decide) (by decide)]; decide)]; omega
theorem rright_spec (s : ByteArray) (hs : s.size ≤ 140737488351232) : rf2_Right.f s = some (right s) := by
 unfold right;rw [rf2_Right.f, rf2_Size.f]
 cases hl : s.data.toList with
 | nil =>
  have h0 : s.size = 0 := by rw [size_list', hl]; rfl
  have hn : ∀ m, s.data.toList ≠ 45 :: m := by intro m e; rw [hl] at e; cases e
  have hr : Str.right s = false := by
   have e : s = ⟨#[]⟩ := ext_of (by rw [hl]);rw [e]; decide +kernel
  rw [if_neg (by omega), Option.bind_some, rf1_Right.f, if_pos hs, hr, Option.bind_some, whole_read.f, cut_none hn, Option.bind_some, nat_Right.f, hr, Option.bind_some];rfl
 | cons c l =>
  have h0 : s.size = l.length + 1 := by rw [size_list', hl]; rfl
  rw [if_pos (show (s.size : Int) > 0 by omega), if_pos (show (0 : Int) < (s.size : Int) by omega), bt_zero hl];by_cases hc : c = 45
  · subst hc
    have ht : s.extract 1 s.size = ⟨l.toArray⟩ := by
     apply ext_of;rw [ex_list, size_list' s, List.take_length, hl]; rfl
    have hts : (⟨l.toArray⟩ : ByteArray).size ≤ 140737488351232 := by
     rw [size_list'];show l.length ≤ _;omega
    rw [if_pos (by decide), if_pos (show (1 : Int) ≤ (s.size : Int) by omega), ht, Option.bind_some, rf1_Right.f, if_pos hts, Option.bind_some, whole_read.f, cut_minus hl, Option.bind_some, nat_Right.f, Option.bind_some];by_cases hr : Str.right (⟨l.toArray⟩ : ByteArray) = true
    · rw [if_pos hr, if_pos hr, if_pos rfl];have e : (⟨l.toArray⟩ : ByteArray).toList = l := by rw [ByteArray.toList_eq]
      have e' : s.toList = 45 :: l := by rw [ByteArray.toList_eq, hl]
      rw [e'];show some ((45 :: l) != [45, 48]) = some (!((⟨l.toArray⟩ : ByteArray).toList == [48]));rw [e];refine congrArg some ?_;rw [Bool.eq_iff_iff];simp
    rw [if_neg hr, if_neg hr]
  have hn : ∀ m, s.data.toList ≠ 45 :: m := by intro m e; rw [hl] at e; injection e with e1 _; exact hc e1
  have hb : ¬ (c.toNat : Int) = 45 := by
   intro e;apply hc;have e2 : c.toNat = 45 := by omega
   exact UInt8.toNat_inj.1 e2
  rw [if_neg hb, Option.bind_some, rf1_Right.f, if_pos hs, Option.bind_some, whole_read.f, cut_none hn, Option.bind_some, nat_Right.f, Option.bind_some];by_cases hr : Str.right s = true
  · rw [if_pos hr, if_pos hr, if_neg (by simp)];have e' : s.toList = c :: l := by rw [ByteArray.toList_eq, hl]
    rw [e'];refine congrArg some ?_;rw [Bool.eq_iff_iff];simp [hc]
  rw [if_neg hr, if_neg hr]
end Wh
end Go.Proofs.YtmmonhgfnmeieaaGreatDoor.Th
