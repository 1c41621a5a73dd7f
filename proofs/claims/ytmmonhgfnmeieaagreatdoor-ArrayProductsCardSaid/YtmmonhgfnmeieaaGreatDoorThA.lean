/- Naturals as texts of decimal digits: the number of a text, the text of a number; a text is a natural just if it is the text of its number. -/
import Derived.Test.YtmmonhgfnmeieaaGreatDoorStr
-- mini
namespace Go.Proofs.YtmmonhgfnmeieaaGreatDoor.Th
open Go Go.RowKit Go.ZPWords Go.Proofs.YtmmonhgfnmeieaaGreatDoor.Str
theorem w64 {x : Int} (h1 : -9223372036854775808 ≤ x) (h2 : x ≤ 9223372036854775807) : wrap64 x = x := by unfold wrap64; omega
theorem wu64 {x : Int} (h1 : 0 ≤ x) (h2 : x < 18446744073709551616) : IntKind.u64.wrap x = x := by
  simp [IntKind.wrap, IntKind.bits, IntKind.signed]; omega
/-! ### the number of digits -/
def numL (l : List UInt8) : Nat := l.foldl (fun n c => 10 * n + (c.toNat - 48)) 0
def num (s : ByteArray) : Nat := numL s.data.toList
theorem numL_nil : numL [] = 0 := rfl
theorem numL_snoc (l : List UInt8) (c : UInt8) : numL (l ++ [c]) = 10 * numL l + (c.toNat - 48) := by simp [numL, List.foldl_append]
theorem foldl_num (l : List UInt8) : ∀ a : Nat, l.foldl (fun n c => 10 * n + (c.toNat - 48)) a = a * 10 ^ l.length + numL l := by
 induction l with
 | nil => intro a; simp [numL]
 | cons x l ih =>
  intro a;simp only [List.foldl_cons, List.length_cons, numL];rw [ih, ih (10 * 0 + (x.toNat - 48))];rw [Nat.pow_succ];grind
theorem numL_append (l m : List UInt8) : numL (l ++ m) = numL l * 10 ^ m.length + numL m := by
  unfold numL;rw [List.foldl_append, foldl_num];rfl
theorem numL_cons (c : UInt8) (l : List UInt8) : numL (c :: l) = (c.toNat - 48) * 10 ^ l.length + numL l := by
  have h := numL_append [c] l
  have h1 : numL [c] = c.toNat - 48 := by simp [numL]
  rw [h1] at h;exact h
/-! ### the text of a number -/
def digs (n : Nat) : List UInt8 := if n < 10 then [UInt8.ofNat (48 + n)] else digs (n / 10) ++ [UInt8.ofNat (48 + n % 10)]
termination_by n
decreasing_by omega
def txt (n : Nat) : ByteArray := ⟨(digs n).toArray⟩
theorem digs_lt {n : Nat} (h : n < 10) : digs n = [UInt8.ofNat (48 + n)] := by rw [digs, if_pos h]
theorem digs_ge {n : Nat} (h : ¬ n < 10) : digs n = digs (n / 10) ++ [UInt8.ofNat (48 + n % 10)] := by rw [digs, if_neg h]
theorem toNat_dig {d : Nat} (h : d < 10) : (UInt8.ofNat (48 + d)).toNat = 48 + d := by
  rw [UInt8.toNat_ofNat']; omega
theorem numL_digs (n : Nat) : numL (digs n) = n := by
 induction n using Nat.strongRecOn with
 | _ n ih =>
  by_cases h : n < 10
  · rw [digs_lt h, numL_cons, toNat_dig h]; simp [numL]
  rw [digs_ge h, numL_snoc, ih (n / 10) (by omega), toNat_dig (by omega)]; omega
theorem txt_data (n : Nat) : (txt n).data.toList = digs n := rfl
theorem num_txt (n : Nat) : num (txt n) = n := numL_digs n
theorem txt_inj {m n : Nat} (h : txt m = txt n) : m = n := by rw [← num_txt m, h, num_txt]
theorem digs_ne (n : Nat) : digs n ≠ [] := by
 by_cases h : n < 10
 · rw [digs_lt h]; simp
 rw [digs_ge h]; simp
theorem digs_dig (n : Nat) : (digs n).all isDig = true := by
 induction n using Nat.strongRecOn with
 | _ n ih =>
  by_cases h : n < 10
  · rw [digs_lt h]; simp [isDig]; omega
  rw [digs_ge h, List.all_append, ih (n / 10) (by omega)]; simp [isDig]; omega
theorem digs_head (n : Nat) (h : 0 < n) : ∃ c l, digs n = c :: l ∧ 49 ≤ c.toNat := by
 induction n using Nat.strongRecOn with
 | _ n ih =>
  by_cases h1 : n < 10
  · exact ⟨_, [], digs_lt h1, by rw [toNat_dig h1]; omega⟩
  obtain ⟨c, l, hl, hc⟩ := ih (n / 10) (by omega) (by omega);exact ⟨c, l ++ [UInt8.ofNat (48 + n % 10)], by rw [digs_ge h1, hl]; rfl, hc⟩
theorem digs_one (n : Nat) : (digs n).length = 1 ↔ n < 10 := by
 constructor
 · intro h;by_cases h1 : n < 10
   · exact h1
   rw [digs_ge h1, List.length_append] at h;have := List.length_pos_iff.2 (digs_ne (n / 10));simp only [List.length_cons, List.length_nil] at h;omega
 intro h; rw [digs_lt h]; rfl
theorem digs_length (d n : Nat) (hd : 0 < d) : (digs n).length ≤ d ↔ n < 10 ^ d := by
 induction d generalizing n with
 | zero => omega
 | succ d ih =>
  by_cases h : n < 10
  · rw [digs_lt h];have : 10 ^ 1 ≤ 10 ^ (d + 1) := Nat.pow_le_pow_right (by omega) (by omega);simp;omega
  rw [digs_ge h, List.length_append];by_cases h0 : d = 0
  · subst h0;have := List.length_pos_iff.2 (digs_ne (n / 10));simp only [List.length_cons, List.length_nil, Nat.zero_add, Nat.pow_one];omega
  have h2 := ih (n / 10) (by omega);have h3 : n / 10 < 10 ^ d ↔ n < 10 ^ (d + 1) := by rw [Nat.pow_succ]; omega
  rw [← h3, ← h2];simp
theorem size_txt (n : Nat) : (txt n).size = (digs n).length := by simp [txt, ByteArray.size]
theorem size_le {d n : Nat} (h : n < 10 ^ d) (hd : 0 < d) : (txt n).size ≤ d := by rw [size_txt]; exact (digs_length d n hd).2 h
theorem lt_of_size {d n : Nat} (h : (txt n).size ≤ d) : n < 10 ^ d := by
  rw [size_txt] at h;have h0 := List.length_pos_iff.2 (digs_ne n);exact (digs_length d n (by omega)).1 h
theorem size_pos (n : Nat) : 0 < (txt n).size := by rw [size_txt]; exact List.length_pos_iff.2 (digs_ne n)
theorem lt_pow_size (n : Nat) : n < 10 ^ (txt n).size := lt_of_size (Nat.le_refl _)
/-! ### a natural is the text of its number -/
theorem ofNat_dig {c : UInt8} (h : isDig c = true) : UInt8.ofNat (48 + (c.toNat - 48)) = c := by
  simp [isDig] at h
  apply UInt8.toNat_inj.1
  rw [UInt8.toNat_ofNat']; omega
theorem digs_numL (l : List UInt8) : l ≠ [] → l.all isDig = true → (∀ c m, l = c :: m → m ≠ [] → c.toNat ≠ 48) → digs (numL l) = l ∧ (∀ c m, l = c :: m → c.toNat ≠ 48 → 0 < numL l) := by
 generalize hn : l.length = n;induction n generalizing l with
 | zero => intro h; exact absurd (List.eq_nil_of_length_eq_zero hn) h
 | succ n ih =>
  intro _ hd hz
  obtain ⟨p, c, rfl⟩ : ∃ p c, l = p ++ [c] := by
   rcases List.eq_nil_or_concat l with h | ⟨p, c, h⟩
   · subst h; simp at hn
   exact ⟨p, c, by rw [h, List.concat_eq_append]⟩
  have hp : p.length = n := by simp at hn; exact hn
  rw [List.all_append] at hd;simp only [Bool.and_eq_true, List.all_cons, List.all_nil, Bool.and_true] at hd;obtain ⟨hd1, hd2⟩ := hd;have hc := ofNat_dig hd2;have hc2 : 48 ≤ c.toNat ∧ c.toNat ≤ 57 := by simpa [isDig] using hd2
  rw [numL_snoc];by_cases h0 : p = []
  · subst h0;refine ⟨?_, ?_⟩
    · rw [numL_nil, Nat.mul_zero, Nat.zero_add, digs_lt (by omega), hc]; rfl
    intro c' m h h';simp at h;obtain ⟨rfl, _⟩ := h;omega
  obtain ⟨a, q, rfl⟩ := List.exists_cons_of_ne_nil h0;have ha : a.toNat ≠ 48 := hz a (q ++ [c]) rfl (by simp);obtain ⟨h1, h2⟩ := ih (a :: q) hp (by simp) hd1 (fun c' m h hm => by simp at h; obtain ⟨rfl, _⟩ := h; exact ha);have h3 := h2 a q rfl ha;refine ⟨?_, fun _ _ _ _ => by omega⟩;rw [digs_ge (by omega), show (10 * numL (a :: q) + (c.toNat - 48)) / 10 = numL (a :: q) by omega, show (10 * numL (a :: q) + (c.toNat - 48)) % 10 = c.toNat - 48 by omega, h1, hc]
theorem size_list (s : ByteArray) : s.size = s.data.toList.length := by rw [Array.length_toList]; rfl
theorem bt_zero {s : ByteArray} {c : UInt8} {m : List UInt8} (h : s.data.toList = c :: m) : bt s 0 = (c.toNat : Int) := by
  have h0 : 0 < s.size := by rw [size_list, h]; simp
  have h3 : s.data.toList[0]'(by rw [h]; simp) = c := by simp [h]
  have h2 : s[0] = c := h3;have := bt_at s 0 h0;rw [← this];exact congrArg (fun x : UInt8 => (x.toNat : Int)) h2
theorem right_txt (n : Nat) : right (txt n) = true := by
 unfold right;have hp := size_pos n;rw [if_neg (by omega)];by_cases h0 : n = 0
 · subst h0
   rw [if_neg (by
    intro h;have : (txt 0).size = 1 := by rw [size_txt]; exact (digs_one 0).2 (by omega)
    omega)]
   exact digs_dig 0
 obtain ⟨c, l, hl, hc⟩ := digs_head n (by omega);rw [if_neg (by rw [bt_zero (s := txt n) (c := c) (m := l) hl]; omega)];exact digs_dig n
theorem txt_num {s : ByteArray} (h : right s = true) : s = txt (num s) := by
 unfold right at h;by_cases h0 : s.size = 0
 · rw [if_pos h0] at h; cases h
 rw [if_neg h0] at h;by_cases h1 : bt s 0 = 48 ∧ 1 < s.size
 · rw [if_pos h1] at h; cases h
 rw [if_neg h1] at h
 have hne : s.data.toList ≠ [] := by
  intro e;have := size_list s;rw [e] at this;exact h0 this
 have := (digs_numL s.data.toList hne h (fun c m e hm hc => by
  apply h1;refine ⟨by rw [bt_zero e, hc]; rfl, ?_⟩;rw [size_list, e];have := List.length_pos_iff.2 hm;simp;omega)).1
 apply ByteArray.ext;apply Array.toList_inj.1;rw [txt_data];exact this.symm
theorem right_iff (s : ByteArray) : right s = true ↔ ∃ n, s = txt n := ⟨fun h => ⟨_, txt_num h⟩, fun ⟨n, h⟩ => by rw [h]; exact right_txt n⟩
theorem toList_inj {a b : ByteArray} : a.toList = b.toList ↔ a = b := by
  rw [ByteArray.toList_eq, ByteArray.toList_eq];exact ⟨fun h => ByteArray.ext (Array.toList_inj.1 h), fun h => by rw [h]⟩
theorem toList_txt (n : Nat) : (txt n).toList = digs n := by rw [ByteArray.toList_eq]; rfl
theorem digs_inj {m n : Nat} : digs m = digs n ↔ m = n := ⟨fun h => by rw [← numL_digs m, h, numL_digs], fun h => by rw [h]⟩
theorem txt_small (n : Nat) (h : n < 10) : txt n = ⟨#[UInt8.ofNat (48 + n)]⟩ := by unfold txt; rw [digs_lt h]
end Go.Proofs.YtmmonhgfnmeieaaGreatDoor.Th
