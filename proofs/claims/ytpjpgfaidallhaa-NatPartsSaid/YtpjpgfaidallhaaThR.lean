/- The first reference: Right, Plain, Add, Sub, Mul, Compare, Div, Gcd, as numbers. -/
import Derived.Test.YtpjpgfaidallhaaThA
import Derived.Test.YtpjpgfaidallhaaPRx
namespace Go.Proofs.Ytpjpgfaidallhaa.Th
open Go Go.RowKit Go.Proofs.YtpjpgfaidallhaaW.PrintWords Go.Proofs.Ytpjpgfaidallhaa.Str Go.Proofs.Ytpjpgfaidallhaa.PR
namespace Ref
theorem size_list (s : ByteArray) : s.size = s.data.toList.length := by rw [Array.length_toList]; rfl
theorem bt_mid {s : ByteArray} {p q : List UInt8} {c : UInt8} (h : s.data.toList = p ++ c :: q) : bt s (p.length : Int) = (c.toNat : Int) := by
  have h0 : p.length < s.size := by rw [size_list, h]; simp
  have hb := bt_at s p.length
  simp only [Int.toNat_natCast] at hb
  rw [← hb h0]
  have h3 : s.data.toList[p.length]'(by rw [h]; simp) = c := by simp [h]
  exact congrArg (fun x : UInt8 => (x.toNat : Int)) h3
theorem extract_list (s : ByteArray) (a b : Nat) : (s.extract a b).data.toList = (s.data.toList.take b).drop a := by
  rw [ByteArray.data_extract, Array.toList_extract, List.extract_eq_take_drop, List.take_drop]
  by_cases h : a ≤ b
  · rw [show a + (b - a) = b by omega]
  · rw [List.drop_eq_nil_of_le (by simp; omega), List.drop_eq_nil_of_le (by simp; omega)]
theorem extract_end (s : ByteArray) (a : Nat) : (s.extract a s.size).data.toList = s.data.toList.drop a := by
  rw [extract_list, size_list, List.take_length]
theorem numL_lt {l : List UInt8} (h : l.all isDig = true) : numL l < 10 ^ l.length := by
  induction l with
  | nil => simp [numL]
  | cons c l ih =>
    simp only [List.all_cons, Bool.and_eq_true] at h
    have h1 := ih h.2
    have h2 : 48 ≤ c.toNat ∧ c.toNat ≤ 57 := by simpa [isDig] using h.1
    rw [numL_cons, List.length_cons, Nat.pow_succ]
    have h3 : (c.toNat - 48) * 10 ^ l.length ≤ 9 * 10 ^ l.length := Nat.mul_le_mul_right _ (by omega)
    omega
/-! ### Right -/
def tail (s : ByteArray) : Bool := if s.size = 1 then true else if 1 < s.size then bt s 0 != 48 else false
theorem right_l0 (s : ByteArray) (hs : s.size ≤ 140737488351232) (q : List UInt8) : ∀ p : List UInt8, s.data.toList = p ++ q → Ev (fun k => tapewrightref01_Right.l0 k s (p.length : Int)) (q.all isDig && tail s) := by
  induction q with
  | nil =>
    intro p h
    have hl : s.size = p.length := by rw [size_list, h]; simp
    rw [List.all_nil, Bool.true_and]
    unfold tail
    by_cases h1 : s.size = 1
    · rw [if_pos h1]
      exact Ev.step (fun k => by rw [tapewrightref01_Right.l0, if_neg (by omega), if_pos (by omega)]) (Ev.now _)
    · rw [if_neg h1]
      by_cases h2 : 1 < s.size
      · rw [if_pos h2]
        exact Ev.step (fun k => by rw [tapewrightref01_Right.l0, if_neg (by omega), if_neg (by omega), if_pos (by omega), if_pos (by omega)]) (Ev.now _)
      · rw [if_neg h2]
        exact Ev.step (fun k => by rw [tapewrightref01_Right.l0, if_neg (by omega), if_neg (by omega), if_neg (by omega)]) (Ev.now _)
  | cons c q ih =>
    intro p h
    have hl : s.size = p.length + q.length + 1 := by rw [size_list, h]; simp; omega
    have hb := bt_mid h
    by_cases h1 : c.toNat < 48
    · have : isDig c = false := by simp [isDig]; omega
      rw [List.all_cons, this, Bool.false_and, Bool.false_and]
      exact Ev.step (fun k => by rw [tapewrightref01_Right.l0, if_pos (by omega), if_pos (by omega), hb, if_pos (by omega)]) (Ev.now _)
    · by_cases h2 : 57 < c.toNat
      · have : isDig c = false := by simp [isDig]; omega
        rw [List.all_cons, this, Bool.false_and, Bool.false_and]
        exact Ev.step (fun k => by rw [tapewrightref01_Right.l0, if_pos (by omega), if_pos (by omega), hb, if_neg (by omega), if_pos (by omega)]) (Ev.now _)
      · have : isDig c = true := by simp [isDig]; omega
        rw [List.all_cons, this, Bool.true_and]
        refine Ev.step (fun k => by rw [tapewrightref01_Right.l0, if_pos (by omega), if_pos (by omega), hb, if_neg (by omega), if_neg (by omega), w64 (by omega) (by omega)]) ?_
        have hi := ih (p ++ [c]) (by rw [h]; simp)
        simpa using hi
theorem right_spec (s : ByteArray) (hs : s.size ≤ 140737488351232) : Ev (fun k => tapewrightref01_Right.f k s) (Str.right s) := by
  have h := right_l0 s hs s.data.toList [] rfl
  have e : (s.data.toList.all isDig && tail s) = Str.right s := by
    unfold tail Str.right
    by_cases h0 : s.size = 0
    · rw [if_neg (by omega), if_neg (by omega), if_pos h0, Bool.and_false]
    · rw [if_neg h0]
      by_cases h1 : s.size = 1
      · rw [if_pos h1, if_neg (by omega), Bool.and_true]
      · rw [if_neg h1, if_pos (by omega)]
        by_cases h2 : bt s 0 = 48
        · rw [if_pos ⟨h2, by omega⟩, h2]; simp
        · rw [if_neg (fun h => h2 h.1)]; simp [h2]
  rw [e] at h
  exact h
/-! ### Plain -/
theorem plain_l0 (n : Nat) : ∀ s : ByteArray, s.size = n → s.size ≤ 1125899906842624 → s.data.toList.all isDig = true → Ev (fun k => tapewrightref01_Plain.l0 k s) (txt (num s)) := by
  induction n with
  | zero =>
    intro s hs _ _
    have hnil : s.data.toList = [] := List.eq_nil_of_length_eq_zero (by rw [← size_list]; exact hs)
    have hnum : num s = 0 := by unfold num; rw [hnil]; rfl
    rw [hnum, txt_small 0 (by omega)]
    exact Ev.step (fun k => by rw [tapewrightref01_Plain.l0, if_neg (by omega), if_pos (by rw [ByteArray.toList_eq, hnil])]; rfl) (Ev.now _)
  | succ n ih =>
    intro s hs hsz hd
    obtain ⟨c, l, hcl⟩ : ∃ c l, s.data.toList = c :: l := by
      cases h : s.data.toList with
      | nil =>
        have h2 := size_list s
        rw [h, List.length_nil] at h2
        omega
      | cons c l => exact ⟨c, l, rfl⟩
    have hb : bt s 0 = (c.toNat : Int) := bt_zero hcl
    have hl : l.length = n := by
      have h2 := size_list s
      rw [hcl, List.length_cons] at h2
      omega
    have hne : ¬ s.toList = ([] : List UInt8) := by rw [ByteArray.toList_eq, hcl]; simp
    by_cases hz : 1 < s.size ∧ c.toNat = 48
    · have hes : (s.extract 1 s.size).data.toList = l := by rw [extract_end, hcl]; rfl
      have hi := ih (s.extract 1 s.size) (by rw [size_list, hes]; exact hl) (by rw [size_list, hes]; omega) (by
        rw [hes]; rw [hcl] at hd; simp only [List.all_cons, Bool.and_eq_true] at hd; exact hd.2)
      have hnum : num (s.extract 1 s.size) = num s := by unfold num; rw [hes, hcl, numL_cons, hz.2]; simp
      rw [hnum] at hi
      exact Ev.step (fun k => by rw [tapewrightref01_Plain.l0, if_pos (by omega), if_pos (by omega), hb, if_pos (by omega), if_pos (by omega)]) hi
    · have hr : Str.right s = true := by
        unfold Str.right
        rw [if_neg (by omega), if_neg (by rw [hb]; omega)]
        exact hd
      have hs2 := (txt_num hr).symm
      rw [hs2]
      by_cases h1 : 1 < s.size
      · exact Ev.step (fun k => by rw [tapewrightref01_Plain.l0, if_pos (by omega), if_pos (by omega), hb, if_neg (by omega), if_neg hne]) (Ev.now _)
      · exact Ev.step (fun k => by rw [tapewrightref01_Plain.l0, if_neg (by omega), if_neg hne]) (Ev.now _)
theorem plain_spec (s : ByteArray) (hs : s.size ≤ 1125899906842624) (hd : s.data.toList.all isDig = true) : Ev (fun k => tapewrightref01_Plain.f k s) (txt (num s)) := plain_l0 s.size s rfl hs hd
/-! ### digits from the right -/
def v10 : List Int → Int
  | [] => 0
  | x :: l => x + 10 * v10 l
def Dg (l : List Int) : Prop := ∀ x, x ∈ l → 0 ≤ x ∧ x < 10
theorem Dg.cons {x : Int} {l : List Int} (h1 : 0 ≤ x) (h2 : x < 10) (h : Dg l) : Dg (x :: l) := by
  intro y hy
  rcases List.mem_cons.1 hy with rfl | hy
  · exact ⟨h1, h2⟩
  · exact h y hy
theorem Dg.head {x : Int} {l : List Int} (h : Dg (x :: l)) : 0 ≤ x ∧ x < 10 := h x List.mem_cons_self
theorem Dg.tail {x : Int} {l : List Int} (h : Dg (x :: l)) : Dg l := fun y hy => h y (List.mem_cons_of_mem _ hy)
theorem Dg.append {p s : List Int} (hp : Dg p) (hs : Dg s) : Dg (p ++ s) := by
  intro y hy
  rcases List.mem_append.1 hy with h | h
  · exact hp y h
  · exact hs y h
theorem Dg.left {p s : List Int} (h : Dg (p ++ s)) : Dg p := fun y hy => h y (List.mem_append.2 (.inl hy))
theorem Dg.right {p s : List Int} (h : Dg (p ++ s)) : Dg s := fun y hy => h y (List.mem_append.2 (.inr hy))
theorem Dg.nil : Dg [] := fun y hy => by simp at hy
theorem Dg.single {x : Int} (h1 : 0 ≤ x) (h2 : x < 10) : Dg [x] := Dg.cons h1 h2 Dg.nil
theorem v10_append (p s : List Int) : v10 (p ++ s) = v10 p + 10 ^ p.length * v10 s := by
  induction p with
  | nil => simp [v10]
  | cons x p ih => simp only [List.cons_append, v10, ih, List.length_cons, Int.pow_succ]; grind
theorem v10_nonneg {l : List Int} (h : Dg l) : 0 ≤ v10 l := by
  induction l with
  | nil => simp [v10]
  | cons x l ih => have := ih h.tail; have := h.head; simp only [v10]; omega
theorem v10_lt {l : List Int} (h : Dg l) : v10 l < 10 ^ l.length := by
  induction l with
  | nil => simp [v10]
  | cons x l ih =>
    have h1 := ih h.tail
    have h2 := h.head
    simp only [v10, List.length_cons, Int.pow_succ]
    omega
theorem v10_zeros (n : Nat) : v10 (List.replicate n 0) = 0 := by
  induction n with
  | zero => rfl
  | succ n ih => simp only [List.replicate_succ, v10, ih]; rfl
/-- The digits of a text, the lowest first. -/
def dl (s : ByteArray) : List Int := s.data.toList.reverse.map fun c => (c.toNat : Int) - 48
theorem dl_length (s : ByteArray) : (dl s).length = s.size := by unfold dl; rw [size_list]; simp
theorem dl_dg {s : ByteArray} (h : s.data.toList.all isDig = true) : Dg (dl s) := by
  intro x hx
  unfold dl at hx
  obtain ⟨c, hc, rfl⟩ := List.mem_map.1 hx
  have := List.all_eq_true.1 h c (List.mem_reverse.1 hc)
  simp [isDig] at this
  omega
theorem v10_map (l : List UInt8) (h : l.all isDig = true) : v10 (l.reverse.map fun c => (c.toNat : Int) - 48) = (numL l : Int) := by
  induction l with
  | nil => rfl
  | cons c l ih =>
    simp only [List.all_cons, Bool.and_eq_true] at h
    have h2 : 48 ≤ c.toNat ∧ c.toNat ≤ 57 := by simpa [isDig] using h.1
    rw [List.reverse_cons, List.map_append, v10_append, ih h.2, numL_cons]
    simp only [List.map_cons, List.map_nil, v10, List.length_map, List.length_reverse]
    have e : ((c.toNat - 48 : Nat) : Int) = (c.toNat : Int) - 48 := by omega
    simp only [Int.natCast_add, Int.natCast_mul, Int.natCast_pow, e, Int.cast_ofNat_Int]
    grind
theorem v10_dl {s : ByteArray} (h : s.data.toList.all isDig = true) : v10 (dl s) = (num s : Int) := v10_map _ h
theorem rd_drop (l : List Int) (i : Nat) : v10 (l.drop i) = rd l (i : Int) + 10 * v10 (l.drop (i + 1)) := by
  by_cases h : i < l.length
  · rw [List.drop_eq_getElem_cons h]
    simp only [v10]
    congr 1
    unfold rd
    simp [List.getD, h]
  · rw [List.drop_eq_nil_of_le (by omega), List.drop_eq_nil_of_le (by omega)]
    have : rd l (i : Int) = 0 := by
      unfold rd
      rw [List.getD, Int.toNat_natCast, List.getElem?_eq_none (by omega)]
      rfl
    rw [this]
    rfl
theorem rd_dg {l : List Int} (h : Dg l) (i : Nat) : 0 ≤ rd l (i : Int) ∧ rd l (i : Int) < 10 := by
  unfold rd
  by_cases h1 : i < l.length
  · simp [List.getD, h1]
    exact h _ (List.getElem_mem h1)
  · rw [List.getD, Int.toNat_natCast, List.getElem?_eq_none (by omega)]
    simp
theorem digit_ev {s : ByteArray} (h : s.data.toList.all isDig = true) (hs : s.size ≤ 1125899906842624) (i : Nat) : tapewrightref01_digit.f s (i : Int) = some (rd (dl s) (i : Int)) := by
  have hdl := dl_length s
  by_cases h1 : s.size ≤ i
  · rw [tapewrightref01_digit.f, if_pos (by omega)]
    unfold rd
    simp [List.getD]
    rw [List.getElem?_eq_none (by omega)]
    rfl
  · have hw : wrap64 ((wrap64 ((s.size : Int) - 1)) - (i : Int)) = ((s.size - 1 - i : Nat) : Int) := by
      rw [w64 (x := (s.size : Int) - 1) (by omega) (by omega), w64 (by omega) (by omega)]; omega
    have hl : s.size - 1 - i < s.data.toList.length := by rw [← size_list]; omega
    have hsp : s.data.toList = s.data.toList.take (s.size - 1 - i) ++ s.data.toList[s.size - 1 - i] :: s.data.toList.drop (s.size - 1 - i + 1) := by
      rw [← List.drop_eq_getElem_cons hl, List.take_append_drop]
    have hb := bt_mid hsp
    rw [List.length_take_of_le (Nat.le_of_lt hl)] at hb
    have hc := List.all_eq_true.1 h _ (List.getElem_mem hl)
    simp only [isDig, Bool.and_eq_true, decide_eq_true_eq] at hc
    rw [tapewrightref01_digit.f, if_neg (by omega), hw, if_pos (by omega), if_pos (by omega), hb]
    congr 1
    unfold rd dl
    have hi : i < (s.data.toList.reverse.map fun c => (c.toNat : Int) - 48).length := by simp; rw [size_list] at h1; simpa using h1
    have hg : (s.data.toList.reverse.map fun c => (c.toNat : Int) - 48)[i] = (s.data.toList[s.size - 1 - i].toNat : Int) - 48 := by
      rw [List.getElem_map, List.getElem_reverse]
      simp only [size_list]
    rw [List.getD, Int.toNat_natCast, List.getElem?_eq_getElem hi, Option.getD_some, hg]
    omega
end Ref
end Go.Proofs.Ytpjpgfaidallhaa.Th
