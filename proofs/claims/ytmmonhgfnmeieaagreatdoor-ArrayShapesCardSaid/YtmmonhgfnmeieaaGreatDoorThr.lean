/- The first reference: Right, Plain, Add, Sub, Mul, Compare, Div, Gcd, as numbers. -/
import Derived.Test.YtmmonhgfnmeieaaGreatDoorThA
import Derived.Test.YtmmonhgfnmeieaaGreatDoorPRx
-- mini
namespace Go.Proofs.YtmmonhgfnmeieaaGreatDoor.Th
open Go Go.RowKit Go.ZPWords Go.Proofs.YtmmonhgfnmeieaaGreatDoor.Str Go.Proofs.YtmmonhgfnmeieaaGreatDoor.PR
namespace Ref
theorem size_list (s : ByteArray) : s.size = s.data.toList.length := by rw [Array.length_toList]; rfl
theorem bt_mid {s : ByteArray} {p q : List UInt8} {c : UInt8} (h : s.data.toList = p ++ c :: q) : bt s (p.length : Int) = (c.toNat : Int) := by
 have h0 : p.length < s.size := by rw [size_list, h]; simp
 have hb := bt_at s p.length;simp only [Int.toNat_natCast] at hb;rw [← hb h0];have h3 : s.data.toList[p.length]'(by rw [h]; simp) = c := by simp [h]
 exact congrArg (fun x : UInt8 => (x.toNat : Int)) h3
theorem extract_list (s : ByteArray) (a b : Nat) : (s.extract a b).data.toList = (s.data.toList.take b).drop a := by
 rw [ByteArray.data_extract, Array.toList_extract, List.extract_eq_take_drop, List.take_drop];by_cases h : a ≤ b
 · rw [show a + (b - a) = b by omega]
 rw [List.drop_eq_nil_of_le (by simp; omega), List.drop_eq_nil_of_le (by simp; omega)]
theorem extract_end (s : ByteArray) (a : Nat) : (s.extract a s.size).data.toList = s.data.toList.drop a := by
  rw [extract_list, size_list, List.take_length]
theorem numL_lt {l : List UInt8} (h : l.all isDig = true) : numL l < 10 ^ l.length := by
 induction l with
 | nil => simp [numL]
 | cons c l ih =>
  simp only [List.all_cons, Bool.and_eq_true] at h;have h1 := ih h.2;have h2 : 48 ≤ c.toNat ∧ c.toNat ≤ 57 := by simpa [isDig] using h.1
  rw [numL_cons, List.length_cons, Nat.pow_succ];have h3 : (c.toNat - 48) * 10 ^ l.length ≤ 9 * 10 ^ l.length := Nat.mul_le_mul_right _ (by omega);omega
/-! ### Right -/
def tail (s : ByteArray) : Bool := if s.size = 1 then true else if 1 < s.size then bt s 0 != 48 else false
theorem right_l0 (s : ByteArray) (hs : s.size ≤ 140737488351232) (q : List UInt8) : ∀ p : List UInt8, s.data.toList = p ++ q → Ev (fun k => rf1_Right.l0 k s (p.length : Int)) (q.all isDig && tail s) := by
 induction q with
 | nil =>
  intro p h;have hl : s.size = p.length := by rw [size_list, h]; simp
  rw [List.all_nil, Bool.true_and];unfold tail;by_cases h1 : s.size = 1
  · rw [if_pos h1];exact Ev.step (fun k => by rw [rf1_Right.l0, if_neg (by omega), if_pos (by omega)]) (Ev.now _)
  rw [if_neg h1];by_cases h2 : 1 < s.size
  · rw [if_pos h2];exact Ev.step (fun k => by rw [rf1_Right.l0, if_neg (by omega), if_neg (by omega), if_pos (by omega), if_pos (by omega)]) (Ev.now _)
  rw [if_neg h2];exact Ev.step (fun k => by rw [rf1_Right.l0, if_neg (by omega), if_neg (by omega), if_neg (by omega)]) (Ev.now _)
 | cons c q ih =>
  intro p h;have hl : s.size = p.length + q.length + 1 := by rw [size_list, h]; simp; omega
  have hb := bt_mid h;by_cases h1 : c.toNat < 48
  · have : isDig c = false := by simp [isDig]; omega
    rw [List.all_cons, this, Bool.false_and, Bool.false_and];exact Ev.step (fun k => by rw [rf1_Right.l0, if_pos (by omega), if_pos (by omega), hb, if_pos (by omega)]) (Ev.now _)
  by_cases h2 : 57 < c.toNat
  · have : isDig c = false := by simp [isDig]; omega
    rw [List.all_cons, this, Bool.false_and, Bool.false_and];exact Ev.step (fun k => by rw [rf1_Right.l0, if_pos (by omega), if_pos (by omega), hb, if_neg (by omega), if_pos (by omega)]) (Ev.now _)
  have : isDig c = true := by simp [isDig]; omega
  rw [List.all_cons, this, Bool.true_and];refine Ev.step (fun k => by rw [rf1_Right.l0, if_pos (by omega), if_pos (by omega), hb, if_neg (by omega), if_neg (by omega), w64 (by omega) (by omega)]) ?_;have hi := ih (p ++ [c]) (by rw [h]; simp);simpa using hi
theorem right_spec (s : ByteArray) (hs : s.size ≤ 140737488351232) : Ev (fun k => rf1_Right.f k s) (Str.right s) := by
 have h := right_l0 s hs s.data.toList [] rfl
 have e : (s.data.toList.all isDig && tail s) = Str.right s := by
  unfold tail Str.right;by_cases h0 : s.size = 0
  · rw [if_neg (by omega), if_neg (by omega), if_pos h0, Bool.and_false]
  rw [if_neg h0];by_cases h1 : s.size = 1
  · rw [if_pos h1, if_neg (by omega), Bool.and_true]
  rw [if_neg h1, if_pos (by omega)];by_cases h2 : bt s 0 = 48
  · rw [if_pos ⟨h2, by omega⟩, h2]; simp
  rw [if_neg (fun h => h2 h.1)]; simp [h2]
 rw [e] at h;exact h
/-! ### Plain -/
theorem plain_l0 (n : Nat) : ∀ s : ByteArray, s.size = n → s.size ≤ 1125899906842624 → s.data.toList.all isDig = true → Ev (fun k => rf1_Plain.l0 k s) (txt (num s)) := by
 induction n with
 | zero =>
  intro s hs _ _;have hnil : s.data.toList = [] := List.eq_nil_of_length_eq_zero (by rw [← size_list]; exact hs);have hnum : num s = 0 := by unfold num; rw [hnil]; rfl
  rw [hnum, txt_small 0 (by omega)];exact Ev.step (fun k => by rw [rf1_Plain.l0, if_neg (by omega), if_pos (by rw [ByteArray.toList_eq, hnil])]; rfl) (Ev.now _)
 | succ n ih =>
  intro s hs hsz hd
  obtain ⟨c, l, hcl⟩ : ∃ c l, s.data.toList = c :: l := by
   cases h : s.data.toList with
   | nil =>
    have h2 := size_list s;rw [h, List.length_nil] at h2;omega
   | cons c l => exact ⟨c, l, rfl⟩
  have hb : bt s 0 = (c.toNat : Int) := bt_zero hcl
  have hl : l.length = n := by
   have h2 := size_list s;rw [hcl, List.length_cons] at h2;omega
  have hne : ¬ s.toList = ([] : List UInt8) := by rw [ByteArray.toList_eq, hcl]; simp
  by_cases hz : 1 < s.size ∧ c.toNat = 48
  · have hes : (s.extract 1 s.size).data.toList = l := by rw [extract_end, hcl]; rfl
    have hi := ih (s.extract 1 s.size) (by rw [size_list, hes]; exact hl) (by rw [size_list, hes]; omega) (by
     rw [hes]; rw [hcl] at hd; simp only [List.all_cons, Bool.and_eq_true] at hd; exact hd.2)
    have hnum : num (s.extract 1 s.size) = num s := by unfold num; rw [hes, hcl, numL_cons, hz.2]; simp
    rw [hnum] at hi;exact Ev.step (fun k => by rw [rf1_Plain.l0, if_pos (by omega), if_pos (by omega), hb, if_pos (by omega), if_pos (by omega)]) hi
  have hr : Str.right s = true := by
   unfold Str.right;rw [if_neg (by omega), if_neg (by rw [hb]; omega)];exact hd
  have hs2 := (txt_num hr).symm;rw [hs2];by_cases h1 : 1 < s.size
  · exact Ev.step (fun k => by rw [rf1_Plain.l0, if_pos (by omega), if_pos (by omega), hb, if_neg (by omega), if_neg hne]) (Ev.now _)
  exact Ev.step (fun k => by rw [rf1_Plain.l0, if_neg (by omega), if_neg hne]) (Ev.now _)
theorem plain_spec (s : ByteArray) (hs : s.size ≤ 1125899906842624) (hd : s.data.toList.all isDig = true) : Ev (fun k => rf1_Plain.f k s) (txt (num s)) := plain_l0 s.size s rfl hs hd
/-! ### digits from the right -/
def v10 : List Int → Int
  | [] => 0
  | x :: l => x + 10 * v10 l
def Dg (l : List Int) : Prop := ∀ x, x ∈ l → 0 ≤ x ∧ x < 10
theorem Dg.cons {x : Int} {l : List Int} (h1 : 0 ≤ x) (h2 : x < 10) (h : Dg l) : Dg (x :: l) := by
 intro y hy;rcases List.mem_cons.1 hy with rfl | hy
 · exact ⟨h1, h2⟩
 exact h y hy
theorem Dg.head {x : Int} {l : List Int} (h : Dg (x :: l)) : 0 ≤ x ∧ x < 10 := h x List.mem_cons_self
theorem Dg.tail {x : Int} {l : List Int} (h : Dg (x :: l)) : Dg l := fun y hy => h y (List.mem_cons_of_mem _ hy)
theorem Dg.append {p s : List Int} (hp : Dg p) (hs : Dg s) : Dg (p ++ s) := by
 intro y hy;rcases List.mem_append.1 hy with h | h
 · exact hp y h
 exact hs y h
theorem Dg.left {p s : List Int} (h : Dg (p ++ s)) : Dg p := fun y hy => h y (List.mem_append.2 (.inl hy))
theorem Dg.right {p s : List Int} (h : Dg (p ++ s)) : Dg s := fun y hy => h y (List.mem_append.2 (.inr hy))
theorem Dg.nil : Dg [] := fun y hy => by simp at hy
theorem Dg.single {x : Int} (h1 : 0 ≤ x) (h2 : x < 10) : Dg [x] := Dg.cons h1 h2 Dg.nil
theorem v10_append (p s : List Int) : v10 (p ++ s) = v10 p + 10 ^ p.length * v10 s := by
  induction p with
  | nil => simp [v10]
  | cons x p ih => simp only [List.cons_append, v10, ih, List.length_cons, Int.pow_succ]; grind
theorem v10_nonneg {l : List Int} (h : Dg l) : 0 ≤ v10 l := by
  induction l with
  | nil => simp [v10]
  | cons x l ih => have := ih h.tail; have := h.head; simp only [v10]; omega
theorem v10_lt {l : List Int} (h : Dg l) : v10 l < 10 ^ l.length := by
 induction l with
 | nil => simp [v10]
 | cons x l ih =>
  have h1 := ih h.tail;have h2 := h.head;simp only [v10, List.length_cons, Int.pow_succ];omega
theorem v10_zeros (n : Nat) : v10 (List.replicate n 0) = 0 := by
  induction n with
  | zero => rfl
  | succ n ih => simp only [List.replicate_succ, v10, ih]; rfl
/-- The digits of a text, the lowest first. -/
def dl (s : ByteArray) : List Int := s.data.toList.reverse.map fun c => (c.toNat : Int) - 48
theorem dl_length (s : ByteArray) : (dl s).length = s.size := by unfold dl; rw [size_list]; simp
theorem dl_dg {s : ByteArray} (h : s.data.toList.all isDig = true) : Dg (dl s) := by
  intro x hx;unfold dl at hx;obtain ⟨c, hc, rfl⟩ := List.mem_map.1 hx;have := List.all_eq_true.1 h c (List.mem_reverse.1 hc)
  simp [isDig] at this
  omega
theorem v10_map (l : List UInt8) (h : l.all isDig = true) : v10 (l.reverse.map fun c => (c.toNat : Int) - 48) = (numL l : Int) := by
 induction l with
 | nil => rfl
 | cons c l ih =>
  simp only [List.all_cons, Bool.and_eq_true] at h;have h2 : 48 ≤ c.toNat ∧ c.toNat ≤ 57 := by simpa [isDig] using h.1
  rw [List.reverse_cons, List.map_append, v10_append, ih h.2, numL_cons];simp only [List.map_cons, List.map_nil, v10, List.length_map, List.length_reverse];have e : ((c.toNat - 48 : Nat) : Int) = (c.toNat : Int) - 48 := by omega
  simp only [Int.natCast_add, Int.natCast_mul, Int.natCast_pow, e, Int.cast_ofNat_Int];grind
theorem v10_dl {s : ByteArray} (h : s.data.toList.all isDig = true) : v10 (dl s) = (num s : Int) := v10_map _ h
theorem rd_drop (l : List Int) (i : Nat) : v10 (l.drop i) = rd l (i : Int) + 10 * v10 (l.drop (i + 1)) := by
 by_cases h : i < l.length
 · rw [List.drop_eq_getElem_cons h];simp only [v10];congr 1;unfold rd;simp [List.getD, h]
 rw [List.drop_eq_nil_of_le (by omega), List.drop_eq_nil_of_le (by omega)]
 have : rd l (i : Int) = 0 := by
  unfold rd;rw [List.getD, Int.toNat_natCast, List.getElem?_eq_none (by omega)];rfl
 rw [this];rfl
theorem rd_dg {l : List Int} (h : Dg l) (i : Nat) : 0 ≤ rd l (i : Int) ∧ rd l (i : Int) < 10 := by
 unfold rd;by_cases h1 : i < l.length
 · simp [List.getD, h1];exact h _ (List.getElem_mem h1)
 rw [List.getD, Int.toNat_natCast, List.getElem?_eq_none (by omega)];simp
theorem digit_ev {s : ByteArray} (h : s.data.toList.all isDig = true) (hs : s.size ≤ 1125899906842624) (i : Nat) : rf1_digit.f s (i : Int) = some (rd (dl s) (i : Int)) := by
 have hdl := dl_length s;by_cases h1 : s.size ≤ i
 · rw [rf1_digit.f, if_pos (by omega)];unfold rd;simp [List.getD];rw [List.getElem?_eq_none (by omega)];rfl
 have hw : wrap64 ((wrap64 ((s.size : Int) - 1)) - (i : Int)) = ((s.size - 1 - i : Nat) : Int) := by
  rw [w64 (x := (s.size : Int) - 1) (by omega) (by omega), w64 (by omega) (by omega)]; omega
 have hl : s.size - 1 - i < s.data.toList.length := by rw [← size_list]; omega
 have hsp : s.data.toList = s.data.toList.take (s.size - 1 - i) ++ s.data.toList[s.size - 1 - i] :: s.data.toList.drop (s.size - 1 - i + 1) := by
  rw [← List.drop_eq_getElem_cons hl, List.take_append_drop]
 have hb := bt_mid hsp;rw [List.length_take_of_le (Nat.le_of_lt hl)] at hb;have hc := List.all_eq_true.1 h _ (List.getElem_mem hl);simp only [isDig, Bool.and_eq_true, decide_eq_true_eq] at hc;rw [rf1_digit.f, if_neg (by omega), hw, if_pos (by omega), if_pos (by omega), hb];congr 1;unfold rd dl;have hi : i < (s.data.toList.reverse.map fun c => (c.toNat : Int) - 48).length := by simp; rw [size_list] at h1; simpa using h1
 have hg : (s.data.toList.reverse.map fun c => (c.toNat : Int) - 48)[i] = (s.data.toList[s.size - 1 - i].toNat : Int) - 48 := by
  rw [List.getElem_map, List.getElem_reverse];simp only [size_list]
 rw [List.getD, Int.toNat_natCast, List.getElem?_eq_getElem hi, Option.getD_some, hg];omega
end Ref
end Go.Proofs.YtmmonhgfnmeieaaGreatDoor.Th
/- The first reference, further: what its functions come to. -/
namespace Go.Proofs.YtmmonhgfnmeieaaGreatDoor.Th
open Go Go.RowKit Go.ZPWords Go.Proofs.YtmmonhgfnmeieaaGreatDoor.Str Go.Proofs.YtmmonhgfnmeieaaGreatDoor.PR
namespace Ref
theorem rd_mid (p s : List Int) (x : Int) : rd (p ++ x :: s) (p.length : Int) = x := by
  unfold rd
  simp [List.getD]
theorem set_mid (p s : List Int) (x y : Int) : (p ++ x :: s).set (p.length : Int).toNat y = p ++ y :: s := by
  simp
theorem eq_of_snoc (l : List Int) : l = [] ∨ ∃ p x, l = p ++ [x] := by
 rcases List.eq_nil_or_concat l with h | ⟨p, c, h⟩
 · exact .inl h
 exact .inr ⟨p, c, by rw [h, List.concat_eq_append]⟩
/-! ### of -/
def byteOf (d : Int) : UInt8 := UInt8.ofNat (48 + d).toNat
theorem byteOf_dig {d : Int} (h0 : 0 ≤ d) (h1 : d < 10) : (byteOf d).toNat = 48 + d.toNat ∧ isDig (byteOf d) = true := by
 have e : (48 + d).toNat = 48 + d.toNat := by omega
 have h : (byteOf d).toNat = 48 + d.toNat := by unfold byteOf; rw [e]; exact toNat_dig (by omega)
 refine ⟨h, ?_⟩;unfold isDig;rw [h];simp;omega
theorem num_of (l : List Int) (h : Dg l) : (l.reverse.map byteOf).all isDig = true ∧ (numL (l.reverse.map byteOf) : Int) = v10 l := by
 induction l with
 | nil => exact ⟨rfl, rfl⟩
 | cons x l ih =>
  obtain ⟨h1, h2⟩ := ih h.tail;have hx := h.head;obtain ⟨b1, b2⟩ := byteOf_dig hx.1 hx.2;rw [List.reverse_cons, List.map_append, List.all_append, h1];refine ⟨by simp [b2], ?_⟩;rw [show List.map byteOf [x] = [byteOf x] from rfl, numL_snoc, b1];simp only [v10];omega
theorem strOf_list (l : List Int) : (strOfNums (l.map fun d => 48 + d)).data.toList = l.map byteOf := by
  unfold strOfNums;simp only [List.map_map];rfl
theorem of_l0 (n : Nat) : ∀ (p q : List Int), p.length = n → Dg (p ++ q) → (p ++ q).length ≤ 70368744177664 → Ev (fun k => rf1_of.l0 k (p ++ q) (q.reverse.map fun d => 48 + d) ((n : Int) - 1)) (txt (v10 (p ++ q)).toNat) := by
 induction n with
 | zero =>
  intro p q hp hd hl;have h0 := List.eq_nil_of_length_eq_zero hp;subst h0;obtain ⟨n1, n2⟩ := num_of ([] ++ q) hd;have hs : (strOfNums (q.reverse.map fun d => 48 + d)).data.toList = q.reverse.map byteOf := strOf_list _
  have hnum : num (strOfNums (q.reverse.map fun d => 48 + d)) = (v10 ([] ++ q)).toNat := by
   rw [← n2]; unfold num; rw [hs]; simp
  have hpl := plain_spec (strOfNums (q.reverse.map fun d => 48 + d)) (by rw [size_list, hs]; simp at hl ⊢; omega) (by rw [hs]; simpa using n1);rw [hnum] at hpl;refine Ev.step (fun k => by rw [rf1_of.l0, if_neg (by omega)]) ?_;exact Ev.bind hpl (Ev.now _)
 | succ n ih =>
  intro p q hp hd hl;rcases eq_of_snoc p with h | ⟨p, x, rfl⟩
  · subst h; simp at hp
  have hp' : p.length = n := by simp at hp; exact hp
  have e : p ++ [x] ++ q = p ++ x :: q := by simp
  have hl' : p.length + q.length + 1 ≤ 70368744177664 := by simp at hl; omega
  have hx := (hd.left).right.head;have hi : ((n + 1 : Nat) : Int) - 1 = (p.length : Int) := by omega
  have hc : (wrap64 (48 + x)) % 256 = 48 + x := by rw [w64 (by omega) (by omega)]; omega
  rw [e] at hd hl ⊢;rw [hi];refine Ev.step (fun k => by rw [rf1_of.l0, if_pos (by omega), if_pos (by omega), if_pos (by simp; omega), if_pos (by simp; omega), rd_mid, hc, w64 (by omega) (by omega)]) ?_;have := ih p (x :: q) hp' hd hl;rw [hp'];simpa using this
theorem of_ev (l : List Int) (h : Dg l) (hl : l.length ≤ 70368744177664) : Ev (fun k => rf1_of.f k l) (txt (v10 l).toNat) := by
  have := of_l0 l.length l [] rfl (by simpa using h) (by simpa using hl);refine Ev.congr (fun k => by rw [rf1_of.f, w64 (by omega) (by omega)]) ?_
  simpa using this
theorem txt_dig (n : Nat) : (txt n).data.toList.all isDig = true := digs_dig n
theorem v10_txt (n : Nat) : v10 (dl (txt n)) = (n : Int) := by rw [v10_dl (txt_dig n), num_txt]
theorem dl_len (n : Nat) : (dl (txt n)).length = (txt n).size := dl_length _
theorem cast_pow (n : Nat) : ((10 ^ n : Nat) : Int) = 10 ^ n := by simp
/-! ### Add -/
theorem add_l0 (m n : Nat) (hm : (txt m).size ≤ 8796093022208) (hn : (txt n).size ≤ 8796093022208) (f : Nat) : ∀ (l : List Int) (c : Int), l.length + f = (txt m).size + (txt n).size → Dg l → 0 ≤ c → c ≤ 1 →
    v10 l + 10 ^ l.length * (c + v10 ((dl (txt m)).drop l.length) + v10 ((dl (txt n)).drop l.length)) = ((m + n : Nat) : Int) →
    Ev (fun k => rf1_Add.l0 k (txt m) (txt n) l c (l.length : Int)) (txt (m + n)) := by
 have hw : wrap64 (((txt m).size : Int) + ((txt n).size : Int)) = ((txt m).size : Int) + ((txt n).size : Int) := w64 (by omega) (by omega);induction f with
 | zero =>
  intro l c hl hd hc0 hc1 hv;have d1 : (dl (txt m)).drop l.length = [] := List.drop_eq_nil_of_le (by rw [dl_len]; omega);have d2 : (dl (txt n)).drop l.length = [] := List.drop_eq_nil_of_le (by rw [dl_len]; omega);rw [d1, d2] at hv;simp only [v10, Int.add_zero] at hv
  have hc : c = 0 := by
   have h1 := lt_pow_size m;have h2 := lt_pow_size n;have p1 := size_pos m;have p2 := size_pos n;have h3 : 10 ^ (txt m).size * 10 ≤ 10 ^ l.length := by rw [← Nat.pow_succ]; exact Nat.pow_le_pow_right (by omega) (by omega)
   have h4 : 10 ^ (txt n).size * 10 ≤ 10 ^ l.length := by rw [← Nat.pow_succ]; exact Nat.pow_le_pow_right (by omega) (by omega)
   have h5 := v10_nonneg hd;have h6 : m + n < 10 ^ l.length := by omega
   have h7 : ((m + n : Nat) : Int) < 10 ^ l.length := by rw [← cast_pow]; exact_mod_cast h6
   by_cases h : c = 0
   · exact h
   have : c = 1 := by omega
   rw [this, Int.mul_one] at hv;omega
  rw [hc, Int.mul_zero, Int.add_zero] at hv;have ho := of_ev l hd (by omega);rw [hv, Int.toNat_natCast] at ho;refine Ev.step (fun k => by rw [rf1_Add.l0, hw, if_neg (by omega)]) ?_;exact Ev.bind ho (Ev.now _)
 | succ f ih =>
  intro l c hl hd hc0 hc1 hv;have g1 := digit_ev (txt_dig m) (by omega) l.length;have g2 := digit_ev (txt_dig n) (by omega) l.length;have r1 := rd_dg (dl_dg (txt_dig m)) l.length;have r2 := rd_dg (dl_dg (txt_dig n)) l.length;rw [rd_drop (dl (txt m)), rd_drop (dl (txt n))] at hv;generalize rd (dl (txt m)) (l.length : Int) = x at *;generalize rd (dl (txt n)) (l.length : Int) = y at *;have e : wrap64 (c + (wrap64 (x + y))) = c + x + y := by rw [w64 (x := x + y) (by omega) (by omega), w64 (by omega) (by omega)]; omega
  have hl1 : (l ++ [(c + x + y) % 10]).length = l.length + 1 := by simp
  refine Ev.step (fun k => by rw [rf1_Add.l0, hw, if_pos (by omega), g1, Option.bind_some, g2, Option.bind_some, if_pos (by omega), e, Int.tmod_eq_emod_of_nonneg (by omega), Int.tdiv_eq_ediv_of_nonneg (by omega), w64 (x := (c + x + y) / 10) (by omega) (by omega), w64 (by omega) (by omega)]) ?_
  have hi := ih (l ++ [(c + x + y) % 10]) ((c + x + y) / 10) (by omega) (hd.append (Dg.single (by omega) (by omega))) (by omega) (by omega) (by
   rw [hl1, v10_append, ← hv];simp only [v10, Int.pow_succ];have e2 : (c + x + y) % 10 + 10 * ((c + x + y) / 10) = c + x + y := Int.emod_add_mul_ediv _ _;generalize (c + x + y) % 10 = u at e2 ⊢;generalize (c + x + y) / 10 = v at e2 ⊢;grind)
  rw [hl1] at hi;exact hi
theorem add_spec (m n : Nat) (hm : (txt m).size ≤ 8796093022208) (hn : (txt n).size ≤ 8796093022208) : Ev (fun k => rf1_Add.f k (txt m) (txt n)) (txt (m + n)) := by
  have := add_l0 m n hm hn ((txt m).size + (txt n).size) [] 0 (by simp) Dg.nil (by omega) (by omega) (by simp [v10, v10_txt]);exact this
/-! ### Sub -/
theorem sub_l0 (m n : Nat) (hle : n ≤ m) (hm : (txt m).size ≤ 8796093022208) (f : Nat) : ∀ (l : List Int) (c : Int), l.length + f = (txt m).size → Dg l → 0 ≤ c → c ≤ 1 →
    v10 l + 10 ^ l.length * (v10 ((dl (txt m)).drop l.length) - v10 ((dl (txt n)).drop l.length) - c) = ((m - n : Nat) : Int) →
    Ev (fun k => rf1_Sub.l0 k (txt m) (txt n) l c (l.length : Int)) (txt (m - n)) := by
 have hns : (txt n).size ≤ (txt m).size := size_le (Nat.lt_of_le_of_lt hle (lt_pow_size m)) (size_pos m);induction f with
 | zero =>
  intro l c hl hd hc0 hc1 hv;have d1 : (dl (txt m)).drop l.length = [] := List.drop_eq_nil_of_le (by rw [dl_len]; omega);have d2 : (dl (txt n)).drop l.length = [] := List.drop_eq_nil_of_le (by rw [dl_len]; omega);rw [d1, d2] at hv;simp only [v10] at hv
  have hc : c = 0 := by
   have h5 := v10_lt hd;by_cases h : c = 0
   · exact h
   have : c = 1 := by omega
   rw [this] at hv;omega
  rw [hc] at hv;simp only [Int.sub_zero, Int.mul_zero, Int.add_zero] at hv;have ho := of_ev l hd (by omega);rw [hv, Int.toNat_natCast] at ho;refine Ev.step (fun k => by rw [rf1_Sub.l0, if_neg (by omega)]) ?_;exact Ev.bind ho (Ev.now _)
 | succ f ih =>
  intro l c hl hd hc0 hc1 hv;have g1 := digit_ev (txt_dig m) (by omega) l.length;have g2 := digit_ev (txt_dig n) (by omega) l.length;have r1 := rd_dg (dl_dg (txt_dig m)) l.length;have r2 := rd_dg (dl_dg (txt_dig n)) l.length;rw [rd_drop (dl (txt m)), rd_drop (dl (txt n))] at hv;generalize rd (dl (txt m)) (l.length : Int) = x at *;generalize rd (dl (txt n)) (l.length : Int) = y at *;have e : wrap64 ((wrap64 (x - y)) - c) = x - y - c := by rw [w64 (x := x - y) (by omega) (by omega), w64 (by omega) (by omega)]
  by_cases hneg : x - y - c < 0
  · have hl1 : (l ++ [x - y - c + 10]).length = l.length + 1 := by simp
    have hi := ih (l ++ [x - y - c + 10]) 1 (by omega) (hd.append (Dg.single (by omega) (by omega))) (by omega) (by omega) (by
     rw [hl1, v10_append, ← hv];simp only [v10, Int.pow_succ];grind)
    rw [hl1] at hi;refine Ev.step (fun k => by rw [rf1_Sub.l0, if_pos (by omega), g1, Option.bind_some, g2, Option.bind_some, e, if_pos hneg, if_pos (by omega), w64 (x := x - y - c + 10) (by omega) (by omega), w64 (by omega) (by omega)]) ?_;exact hi
  have hl1 : (l ++ [x - y - c]).length = l.length + 1 := by simp
  have hi := ih (l ++ [x - y - c]) 0 (by omega) (hd.append (Dg.single (by omega) (by omega))) (by omega) (by omega) (by
   rw [hl1, v10_append, ← hv];simp only [v10, Int.pow_succ];grind)
  rw [hl1] at hi;refine Ev.step (fun k => by rw [rf1_Sub.l0, if_pos (by omega), g1, Option.bind_some, g2, Option.bind_some, e, if_neg hneg, if_pos (by omega), w64 (by omega) (by omega)]) ?_;exact hi
theorem sub_spec (m n : Nat) (hle : n ≤ m) (hm : (txt m).size ≤ 8796093022208) : Ev (fun k => rf1_Sub.f k (txt m) (txt n)) (txt (m - n)) := by
  have := sub_l0 m n hle hm (txt m).size [] 0 (by simp) Dg.nil (by omega) (by omega) (by simp [v10, v10_txt]; omega);exact this
/-! ### Mul -/
theorem mul_l1 (m n : Nat) (hm : (txt m).size ≤ 17592186044416) (hn : (txt n).size ≤ 17592186044416) (i : Nat) (hi : i ≤ (txt m).size) (zs : List Int) (z : Int) (hzs : zs.length ≤ 17592186044416) (f : Nat) :
    ∀ (q ms : List Int) (kk : Nat) (c : Int), kk + f = (txt n).size → q.length = i + kk → ms.length = f → Dg ms → 0 ≤ c → c < 10 →
    ∃ m', m'.length = f + 1 ∧ Dg m' ∧ v10 m' = v10 ms + rd (dl (txt m)) (i : Int) * v10 ((dl (txt n)).drop kk) + c ∧
      ∀ r, Ev (fun k => rf1_Mul.l0 k (txt m) (txt n) (q ++ m' ++ zs) (wrap64 ((i : Int) + 1))) r → Ev (fun k => rf1_Mul.l1 k (txt m) (txt n) (q ++ ms ++ z :: zs) (i : Int) c (kk : Int)) r := by
 induction f with
 | zero =>
  intro q ms kk c hkl hq hms hmo hc0 hc;have hme : ms = [] := List.eq_nil_of_length_eq_zero hms;subst hme;have d2 : (dl (txt n)).drop kk = [] := List.drop_eq_nil_of_le (by rw [dl_len]; omega);refine ⟨[c], rfl, Dg.single hc0 hc, by rw [d2]; simp [v10], fun r h => ?_⟩;have hw : Aside0 (wrap64 ((i : Int) + ((txt n).size : Int)) = (q.length : Int)) := ⟨by rw [w64 (by omega) (by omega)]; omega⟩;refine Ev.step (fun k => by rw [rf1_Mul.l1, if_neg (by omega), hw.out, if_pos (by omega), if_pos (by simp; omega), List.append_nil, set_mid]) ?_;simpa using h
 | succ f ih =>
  intro q ms kk c hkl hq hms hmo hc0 hc
  cases ms with
  | nil => simp at hms
  | cons u ms =>
   have g1 := digit_ev (txt_dig m) (by omega) i;have g2 := digit_ev (txt_dig n) (by omega) kk;have r1 := rd_dg (dl_dg (txt_dig m)) i;have r2 := rd_dg (dl_dg (txt_dig n)) kk;have hu := hmo.head;rw [rd_drop (dl (txt n))];generalize rd (dl (txt m)) (i : Int) = x at *;generalize rd (dl (txt n)) (kk : Int) = y at *;have h0 : 0 ≤ x * y := Int.mul_nonneg r1.1 r2.1;have h1 : x * y ≤ 9 * 9 := Int.mul_le_mul (by omega) (by omega) r2.1 (by omega);have hd1 : 0 ≤ (c + u + x * y) % 10 ∧ (c + u + x * y) % 10 < 10 := by omega
   have hd2 : 0 ≤ (c + u + x * y) / 10 ∧ (c + u + x * y) / 10 < 10 := by omega
   have hcur : Aside0 (wrap64 (c + (wrap64 (u + (wrap64 (x * y))))) = c + u + x * y) := ⟨by
    rw [w64 (x := x * y) (by omega) (by omega), w64 (x := u + x * y) (by omega) (by omega), w64 (by omega) (by omega)]; omega⟩
   have hap : q ++ (u :: ms) ++ z :: zs = q ++ u :: (ms ++ z :: zs) := by simp
   simp only [List.length_cons] at hms;obtain ⟨m', k1, k2, k3, k4⟩ := ih (q ++ [(c + u + x * y) % 10]) ms (kk + 1) ((c + u + x * y) / 10) (by omega) (by simp; omega) (by omega) hmo.tail hd2.1 hd2.2;refine ⟨(c + u + x * y) % 10 :: m', by simp [k1], Dg.cons hd1.1 hd1.2 k2, ?_, fun r h => ?_⟩
   · simp only [v10];rw [k3];have e : (c + u + x * y) % 10 + 10 * ((c + u + x * y) / 10) = c + u + x * y := Int.emod_add_mul_ediv _ _;generalize (c + u + x * y) % 10 = s at e ⊢;generalize (c + u + x * y) / 10 = t at e ⊢;grind
   clear k3;have a1 : (kk : Int) < ((txt n).size : Int) := by omega
   have a2 : 0 ≤ (q.length : Int) := by omega
   have a3 : (q.length : Int) < ((q ++ (u :: ms) ++ z :: zs).length : Int) := by simp; omega
   have a4 : 0 ≤ c + u + x * y := by omega
   have a5 : Aside0 (wrap64 ((c + u + x * y) / 10) = (c + u + x * y) / 10) := ⟨w64 (by omega) (by omega)⟩;have a7 : Aside0 (wrap64 ((kk : Int) + 1) = (kk : Int) + 1) := ⟨w64 (by omega) (by omega)⟩;have hw : Aside0 (wrap64 ((i : Int) + (kk : Int)) = (q.length : Int)) := ⟨by rw [w64 (by omega) (by omega)]; omega⟩;have hg := k4 r (by simpa using h);refine Ev.step (fun k => by rw [rf1_Mul.l1, if_pos a1, hw.out, if_pos a2, if_pos a3, g1, Option.bind_some, g2, Option.bind_some, hap, rd_mid, hcur.out, set_mid, Int.tmod_eq_emod_of_nonneg a4, Int.tdiv_eq_ediv_of_nonneg a4, a5.out, a7.out]) ?_;have e1 : q ++ (c + u + x * y) % 10 :: (ms ++ z :: zs) = q ++ [(c + u + x * y) % 10] ++ ms ++ z :: zs := by simp
   rw [e1];exact hg
theorem mul_l0 (m n : Nat) (hm : (txt m).size ≤ 8796093022208) (hn : (txt n).size ≤ 8796093022208) (f : Nat) : ∀ (q ms : List Int), q.length + f = (txt m).size → ms.length = (txt n).size → Dg q → Dg ms →
    v10 q + 10 ^ q.length * (v10 ms + v10 ((dl (txt m)).drop q.length) * (n : Int)) = ((m * n : Nat) : Int) →
    Ev (fun k => rf1_Mul.l0 k (txt m) (txt n) (q ++ ms ++ List.replicate f 0) (q.length : Int)) (txt (m * n)) := by
 induction f with
 | zero =>
  intro q ms hq hms hqd hmd hv;have d1 : (dl (txt m)).drop q.length = [] := List.drop_eq_nil_of_le (by rw [dl_len]; omega);rw [d1] at hv;have ho := of_ev (q ++ ms) (hqd.append hmd) (by simp; omega);have hval : v10 (q ++ ms) = ((m * n : Nat) : Int) := by rw [← hv, v10_append]; simp [v10]
  rw [hval, Int.toNat_natCast] at ho;refine Ev.step (fun k => by rw [rf1_Mul.l0, if_neg (by omega), List.replicate_zero, List.append_nil]) ?_;exact Ev.bind ho (Ev.now _)
 | succ f ih =>
  intro q ms hq hms hqd hmd hv;obtain ⟨m', k1, k2, k3, k4⟩ := mul_l1 m n (by omega) (by omega) q.length (by omega) (List.replicate f 0) 0 (by simp; omega) (txt n).size q ms 0 0 (by omega) (by omega) hms hmd (by omega) (by omega)
  obtain ⟨s, m'', rfl⟩ : ∃ s m'', m' = s :: m'' := by
   cases m' with
   | nil => simp at k1
   | cons s m'' => exact ⟨s, m'', rfl⟩
  have hs := k2.head;have hl1 : (q ++ [s]).length = q.length + 1 := by simp
  rw [rd_drop (dl (txt m))] at hv;rw [List.drop_zero, v10_txt] at k3
  have hi := ih (q ++ [s]) m'' (by omega) (by simpa using k1) (hqd.append (Dg.single hs.1 hs.2)) k2.tail (by
   rw [hl1, v10_append, ← hv];simp only [v10, Int.pow_succ] at k3 ⊢;generalize rd (dl (txt m)) (q.length : Int) = x at *;grind)
  have hz : q ++ ms ++ List.replicate (f + 1) 0 = q ++ ms ++ 0 :: List.replicate f 0 := by rw [List.replicate_succ]
  rw [hz];refine Ev.step (fun k => by rw [rf1_Mul.l0, if_pos (by omega)]) ?_;refine k4 _ ?_;rw [w64 (by omega) (by omega)];have e : ((q.length : Int) + 1) = (((q ++ [s]).length : Nat) : Int) := by rw [hl1]; omega
  rw [e];simpa using hi
theorem mul_spec (m n : Nat) (hm : (txt m).size ≤ 8796093022208) (hn : (txt n).size ≤ 8796093022208) : Ev (fun k => rf1_Mul.f k (txt m) (txt n)) (txt (m * n)) := by
 have h := mul_l0 m n hm hn (txt m).size [] (List.replicate (txt n).size 0) (by simp) (by simp) Dg.nil (fun y hy => by rw [List.eq_of_mem_replicate hy]; omega) (by simp [v10, v10_txt, v10_zeros]);refine Ev.congr (fun k => by rw [rf1_Mul.f, w64 (by omega) (by omega), if_pos (by omega), if_pos (by omega)]) ?_
 have e : List.replicate (((txt m).size : Int) + ((txt n).size : Int)).toNat (0 : Int) = [] ++ List.replicate (txt n).size 0 ++ List.replicate (txt m).size 0 := by
  rw [List.nil_append, List.replicate_append_replicate];congr 1;omega
 rw [e];simpa using h
/-! ### Compare -/
theorem less_num (l : List UInt8) : ∀ m : List UInt8, l.length = m.length → l.all isDig = true → m.all isDig = true → Op.bytesLess l m = decide (numL l < numL m) := by
 induction l with
 | nil =>
  intro m h _ _;have : m = [] := List.eq_nil_of_length_eq_zero (by simpa using h.symm);subst this;simp [Op.bytesLess, numL]
 | cons c l ih =>
  intro m h hl hm
  cases m with
  | nil => simp at h
  | cons d m =>
   simp only [List.all_cons, Bool.and_eq_true] at hl hm;have h' : l.length = m.length := by simpa using h
   have hc : 48 ≤ c.toNat ∧ c.toNat ≤ 57 := by simpa [isDig] using hl.1
   have hd : 48 ≤ d.toNat ∧ d.toNat ≤ 57 := by simpa [isDig] using hm.1
   have b1 := numL_lt hl.2;have b2 := numL_lt hm.2;rw [Op.bytesLess, ih m h' hl.2 hm.2, numL_cons, numL_cons, h'];rw [h'] at b1;have hp : 0 < 10 ^ m.length := Nat.pow_pos (by omega);generalize 10 ^ m.length = P at *;by_cases hcd : c.toNat < d.toNat
   · have e1 : (c < d) = True := eq_true (by rw [UInt8.lt_iff_toNat_lt]; exact hcd);have h3 : (c.toNat - 48 + 1) * P ≤ (d.toNat - 48) * P := Nat.mul_le_mul_right _ (by omega);rw [Nat.add_mul, Nat.one_mul] at h3;simp only [e1, decide_true, Bool.true_or];symm;rw [decide_eq_true_eq];omega
   by_cases heq : c.toNat = d.toNat
   · have e2 : c = d := UInt8.toNat_inj.1 heq;subst e2;simp
   have h3 : (d.toNat - 48 + 1) * P ≤ (c.toNat - 48) * P := Nat.mul_le_mul_right _ (by omega);rw [Nat.add_mul, Nat.one_mul] at h3;have e1 : (c < d) = False := eq_false (by rw [UInt8.lt_iff_toNat_lt]; exact hcd)
   have e2 : (c == d) = false := by
    rw [beq_eq_false_iff_ne];intro h;exact heq (by rw [h])
   simp only [e1, e2, decide_false, Bool.false_or, Bool.false_and];symm;rw [decide_eq_false_iff_not];omega
def cmpN (m n : Nat) : Int := if m < n then -1 else if n < m then 1 else 0
theorem compare_spec (m n : Nat) : rf1_Compare.f (txt m) (txt n) = some (cmpN m n) := by
 unfold cmpN;by_cases hs : ((txt m).size : Int) = ((txt n).size : Int)
 · have hl : (digs m).length = (digs n).length := by rw [← size_txt, ← size_txt]; omega
   have b1 := less_num (digs m) (digs n) hl (digs_dig m) (digs_dig n);have b2 := less_num (digs n) (digs m) hl.symm (digs_dig n) (digs_dig m);rw [numL_digs, numL_digs] at b1 b2;rw [rf1_Compare.f, if_pos hs, toList_txt, toList_txt, b1, b2];by_cases h1 : m < n
   · rw [if_pos (by simpa using h1), if_pos h1]
   rw [if_neg (by simpa using h1), if_neg h1];by_cases h2 : n < m
   · rw [if_pos (by simpa using h2), if_pos h2]
   rw [if_neg (by simpa using h2), if_neg h2]
 by_cases hlt : ((txt m).size : Int) < ((txt n).size : Int)
 · have : m < n := by
    by_cases h : m < n
    · exact h
    have := size_le (d := (txt m).size) (Nat.lt_of_le_of_lt (Nat.le_of_not_lt h) (lt_pow_size m)) (size_pos m);omega
   rw [rf1_Compare.f, if_neg hs, if_pos hlt, if_pos this]
 have : n < m := by
  by_cases h : n < m
  · exact h
  have := size_le (d := (txt n).size) (Nat.lt_of_le_of_lt (Nat.le_of_not_lt h) (lt_pow_size n)) (size_pos n);omega
 rw [rf1_Compare.f, if_neg hs, if_neg hlt, if_neg (by omega), if_pos this]
end Ref
end Go.Proofs.YtmmonhgfnmeieaaGreatDoor.Th
/- The first reference, further: division digit by digit, and what divides both. -/
namespace Go.Proofs.YtmmonhgfnmeieaaGreatDoor.Th
open Go Go.RowKit Go.ZPWords Go.Proofs.YtmmonhgfnmeieaaGreatDoor.Str Go.Proofs.YtmmonhgfnmeieaaGreatDoor.PR
namespace Ref
theorem size_mono {m n : Nat} (h : m ≤ n) : (txt m).size ≤ (txt n).size := size_le (Nat.lt_of_le_of_lt h (lt_pow_size n)) (size_pos n)
theorem strOf_one {d : Nat} (hd : d < 10) : (strOfNums ([(wrap64 (48 + (d : Int))) % 256] : List Int)).data.toList = [UInt8.ofNat (48 + d)] := by
  have e : (wrap64 (48 + (d : Int))) % 256 = ((48 + d : Nat) : Int) := by rw [w64 (by omega) (by omega)]; omega
  rw [e];unfold strOfNums;simp only [List.map_cons, List.map_nil, Int.toNat_natCast]
/-- The inner loop: a number below ten times the divisor, taken off as often as it goes. -/
theorem div_l1 (n : Nat) (hn0 : 0 < n) (a q : ByteArray) (i : Int) (hq : q.size ≤ 70368744177664) (hi0 : 0 ≤ i) (hi : i ≤ 70368744177664) (c : Nat) : ∀ (m d : Nat), m / n = c → d + c < 10 → (txt m).size ≤ 8796093022208 →
    ∀ r, Ev (fun k => rf1_Div.l0 k a (txt n) (q ++ strOfNums ([(wrap64 (48 + ((d + c : Nat) : Int))) % 256] : List Int)) (txt (m % n)) (i + 1)) r → Ev (fun k => rf1_Div.l1 k a (txt n) q (txt m) i (d : Int)) r := by
 have hwi : Aside0 (wrap64 (i + 1) = i + 1) := ⟨w64 (by omega) (by omega)⟩;induction c with
 | zero =>
  intro m d hc hd hm r hr;have hlt : m < n := (Nat.div_eq_zero_iff_lt hn0).1 hc;have hcmp : ¬ cmpN m n ≥ 0 := by unfold cmpN; rw [if_pos hlt]; omega
  have hs1 : (strOfNums ([(wrap64 (48 + (d : Int))) % 256] : List Int)).size = 1 := by rw [size_list, strOf_one (by omega)]; rfl
  rw [Nat.mod_eq_of_lt hlt, Nat.add_zero] at hr;refine Ev.step (fun k => by rw [rf1_Div.l1, compare_spec, Option.bind_some, if_neg hcmp, Option.bind_some, if_pos (by omega), hwi.out]) hr
 | succ c ih =>
  intro m d hc hd hm r hr
  have hge : n ≤ m := by
   by_cases h : n ≤ m
   · exact h
   rw [Nat.div_eq_of_lt (by omega)] at hc; omega
  have hcmp : cmpN m n ≥ 0 := by
   unfold cmpN;rw [if_neg (by omega)];split <;> omega
  have hsub : (m - n) / n = c := by
   rw [Nat.div_eq_sub_div hn0 hge] at hc;exact Nat.succ.inj hc
  have hmod : (m - n) % n = m % n := (Nat.mod_eq_sub_mod hge).symm;have hwd : Aside0 (wrap64 ((d : Int) + 1) = ((d + 1 : Nat) : Int)) := ⟨by rw [w64 (by omega) (by omega)]; omega⟩
  have hi2 := ih (m - n) (d + 1) hsub (by omega) (Nat.le_trans (size_mono (Nat.sub_le m n)) hm) r (by
   rw [hmod, show d + 1 + c = d + (c + 1) by omega]; exact hr)
  refine Ev.step (fun k => by rw [rf1_Div.l1, compare_spec, Option.bind_some, if_pos hcmp]) ?_;refine Ev.bind (sub_spec m n hge hm) ?_;exact Ev.congr (fun k => by rw [hwd.out]) hi2
theorem dig_isDig {d : Nat} (h : d < 10) : isDig (UInt8.ofNat (48 + d)) = true := by
  unfold isDig;rw [toNat_dig h]
  simp
  omega
theorem append_list (a b : ByteArray) : (a ++ b).data.toList = a.data.toList ++ b.data.toList := by simp
theorem div_l0 (n : Nat) (hn0 : 0 < n) (hn : (txt n).size ≤ 4398046511104) (a : ByteArray) (ha : a.size ≤ 4398046511104) (had : a.data.toList.all isDig = true) (s : List UInt8) : ∀ (p : List UInt8) (q : ByteArray), a.data.toList = p ++ s → q.data.toList.all isDig = true → q.size = p.length → num q = numL p / n →
    Ev (fun k => rf1_Div.l0 k a (txt n) q (txt (numL p % n)) (p.length : Int)) (txt (num a / n), txt (num a % n)) := by
 induction s with
 | nil =>
  intro p q hp hq hql hqn;have hsz : a.size = p.length := by rw [size_list, hp]; simp
  have hpl := plain_spec q (by omega) hq;have hnum : num a = numL p := by unfold num; rw [hp, List.append_nil]
  refine Ev.step (fun k => by rw [rf1_Div.l0, if_neg (by omega)]) ?_;rw [hnum, ← hqn];exact Ev.bind hpl (Ev.now _)
 | cons c s ih =>
  intro p q hp hq hql hqn;have hsz : a.size = p.length + s.length + 1 := by rw [size_list, hp]; simp; omega
  have hwp : Aside0 (wrap64 ((p.length : Int) + 1) = (p.length : Int) + 1) := ⟨w64 (by omega) (by omega)⟩
  have hex : (a.extract ((p.length : Int)).toNat ((p.length : Int) + 1).toNat).data.toList = [c] := by
   rw [show ((p.length : Int)).toNat = p.length by omega, show ((p.length : Int) + 1).toNat = p.length + 1 by omega, extract_list, hp];rw [show p ++ c :: s = (p ++ [c]) ++ s by simp, show p.length + 1 = (p ++ [c]).length by simp, List.take_left' rfl, List.drop_left' rfl]
  have hc : isDig c = true := List.all_eq_true.1 had c (by rw [hp]; simp);have hc2 : 48 ≤ c.toNat ∧ c.toNat ≤ 57 := by simpa [isDig] using hc
  have hmlt : numL p % n < n := Nat.mod_lt _ hn0;have hms : (txt (numL p % n)).size ≤ (txt n).size := size_mono (Nat.le_of_lt hmlt);have hes : (a.extract ((p.length : Int)).toNat ((p.length : Int) + 1).toNat).size = 1 := by rw [size_list, hex]; rfl
  have hcat : (txt (numL p % n) ++ a.extract ((p.length : Int)).toNat ((p.length : Int) + 1).toNat).data.toList = digs (numL p % n) ++ [c] := by
   rw [append_list, hex]; rfl
  have hcd : (txt (numL p % n) ++ a.extract ((p.length : Int)).toNat ((p.length : Int) + 1).toNat).data.toList.all isDig = true := by
   rw [hcat, List.all_append, digs_dig]; simp [hc]
  have hcs : (txt (numL p % n) ++ a.extract ((p.length : Int)).toNat ((p.length : Int) + 1).toNat).size = (txt (numL p % n)).size + 1 := by
   rw [size_list, hcat, size_txt]; simp
  have hcn : num (txt (numL p % n) ++ a.extract ((p.length : Int)).toNat ((p.length : Int) + 1).toNat) = 10 * (numL p % n) + (c.toNat - 48) := by
   unfold num; rw [hcat, numL_snoc, numL_digs]
  have hpl := plain_spec _ (by omega) hcd;rw [hcn] at hpl;obtain ⟨M, hM⟩ : ∃ M, M = 10 * (numL p % n) + (c.toNat - 48) := ⟨_, rfl⟩;rw [← hM] at hpl hcn
  have hMn : M / n < 10 := by
   rw [Nat.div_lt_iff_lt_mul hn0];have : numL p % n + 1 ≤ n := hmlt;omega
  have hsnoc : numL (p ++ [c]) = 10 * numL p + (c.toNat - 48) := numL_snoc p c;have hdm := Nat.div_add_mod (numL p) n
  have hkey : numL (p ++ [c]) = n * (10 * (numL p / n)) + M := by
   rw [hsnoc, hM];have : n * (10 * (numL p / n)) = 10 * (n * (numL p / n)) := by grind
   omega
  have hmod : numL (p ++ [c]) % n = M % n := by rw [hkey, Nat.mul_add_mod]
  have hdiv : numL (p ++ [c]) / n = 10 * (numL p / n) + M / n := by rw [hkey, Nat.mul_add_div hn0]
  have hMs : (txt M).size ≤ 8796093022208 := by
   have h1 : M < n * 10 := by
    have : numL p % n + 1 ≤ n := hmlt;omega
   have h2 : (txt M).size ≤ (txt n).size + 1 := size_le (by
    rw [Nat.pow_succ];have := lt_pow_size n;omega) (by omega)
   omega
  have hone := strOf_one (d := M / n) hMn;have hq2 : (q ++ strOfNums ([(wrap64 (48 + ((M / n : Nat) : Int))) % 256] : List Int)).data.toList = q.data.toList ++ [UInt8.ofNat (48 + M / n)] := by rw [append_list, hone]
  have hlist : a.data.toList = (p ++ [c]) ++ s := by rw [hp]; simp
  have hi := ih (p ++ [c]) (q ++ strOfNums ([(wrap64 (48 + ((M / n : Nat) : Int))) % 256] : List Int)) hlist
   (by rw [hq2, List.all_append, hq, List.all_cons, dig_isDig hMn]; rfl)
   (by rw [size_list, hq2]; rw [size_list] at hql; simp [hql])
   (by unfold num; rw [hq2, numL_snoc, toNat_dig hMn, hdiv]; unfold num at hqn; rw [hqn, Nat.add_sub_cancel_left])
  rw [hmod, show ((p ++ [c]).length : Int) = (p.length : Int) + 1 by simp] at hi;have hk := div_l1 n hn0 a q (p.length : Int) (by omega) (by omega) (by omega) (M / n) M 0 rfl (by omega) hMs _ (by rw [Nat.zero_add]; exact hi);refine Ev.step (fun k => by rw [rf1_Div.l0, if_pos (by omega), if_pos (by omega), hwp.out, if_pos (by omega), if_pos (by omega), if_pos (by rw [hes]; omega)]) ?_;exact Ev.bind hpl hk
theorem div_spec (m n : Nat) (hn0 : 0 < n) (hm : (txt m).size ≤ 4398046511104) (hn : (txt n).size ≤ 4398046511104) : Ev (fun k => rf1_Div.f k (txt m) (txt n)) (txt (m / n), txt (m % n)) := by
 have h := div_l0 n hn0 hn (txt m) hm (txt_dig m) (txt m).data.toList [] ⟨#[]⟩ rfl rfl rfl (by simp [num, numL]);rw [num_txt] at h
 have e : txt (numL [] % n) = (⟨#[48]⟩ : ByteArray) := by
  rw [show numL [] % n = 0 from Nat.zero_mod n, txt_small 0 (by omega)];rfl
 rw [e] at h;exact h
theorem gcd_spec (n : Nat) : ∀ m : Nat, (txt m).size ≤ 4398046511104 → (txt n).size ≤ 4398046511104 → Ev (fun k => rf1_Gcd.l0 k (txt m) (txt n)) (txt (Nat.gcd m n)) := by
 have zi : ∀ x : Nat, (txt x).toList = ([48] : List UInt8) ↔ x = 0 := by
  intro x;have e : ([48] : List UInt8) = digs 0 := by rw [digs_lt (by omega)]; rfl
  rw [toList_txt, e, digs_inj]
 induction n using Nat.strongRecOn with
 | _ n ih =>
  intro m hm hn;by_cases h0 : n = 0
  · subst h0;rw [Nat.gcd_zero_right];exact Ev.step (fun k => by rw [rf1_Gcd.l0, if_pos ((zi 0).2 rfl)]) (Ev.now _)
  have hlt := Nat.mod_lt m (Nat.pos_of_ne_zero h0);have he : Nat.gcd m n = Nat.gcd n (m % n) := by rw [Nat.gcd_comm m n, Nat.gcd_rec n m, Nat.gcd_comm]
  rw [he];refine Ev.step (fun k => by rw [rf1_Gcd.l0, if_neg (fun h => h0 ((zi n).1 h))]) ?_;exact Ev.bind (div_spec m n (Nat.pos_of_ne_zero h0) hm hn) (ih (m % n) hlt n hn (Nat.le_trans (size_mono (Nat.le_of_lt hlt)) hn))
end Ref
end Go.Proofs.YtmmonhgfnmeieaaGreatDoor.Th
