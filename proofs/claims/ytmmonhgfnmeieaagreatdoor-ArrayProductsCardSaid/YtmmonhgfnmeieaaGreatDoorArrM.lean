/- array.MatMul: what it answers. -/
import Derived.Test.YtmmonhgfnmeieaaGreatDoorPMx
import Derived.Test.YtmmonhgfnmeieaaGreatDoorArrS
-- mini
namespace Go.Proofs.YtmmonhgfnmeieaaGreatDoor.Ten
open Go Go.RowKit Go.ZPWords Go.ZPMore Go.ZPLast Go.Proofs.YtmmonhgfnmeieaaGreatDoor.PM Go.Proofs.YtmmonhgfnmeieaaGreatDoor.Th Go.Proofs.YtmmonhgfnmeieaaGreatDoor.Th.Wh Go.Proofs.YtmmonhgfnmeieaaGreatDoor.Err
set_option linter.unusedVariables false
/-- Two grids that go together. -/
structure MB (A B : List Rat) (r n c M : Nat) : Prop where
  la : A.length = r * n
  lb : B.length = n * c
  hr : r ≤ 64
  hn : n ≤ 64
  hc : c ≤ 64
  ba : ∀ x ∈ A, qm x ≤ M
  bb : ∀ x ∈ B, qm x ≤ M
  hM : 1 ≤ M ∧ M ≤ 100000000
def tm (A B : List Rat) (n c i k : Nat) (j : Nat) : Rat := at_ A n i j * at_ B c j k
theorem MB.tm {A B : List Rat} {r n c M : Nat} (h : MB A B r n c M) (i k j : Nat) : qm (tm A B n c i k j) ≤ 2 * M := by
  have h1 := qm_getD h.ba h.hM.1 (i * n + j);have h2 := qm_getD h.bb h.hM.1 (j * c + k);have := qx h1 h2;unfold Ten.tm at_
  omega
theorem MB.sm {A B : List Rat} {r n c M : Nat} (h : MB A B r n c M) (i k : Nat) {j : Nat} (hj : j ≤ n) : qm (sm (Ten.tm A B n c i k) j) ≤ 64 * (2 * M + 1) + 1 := by
  have h1 := qm_sm (h.tm i k) j;have h2 := Nat.mul_le_mul_right (2 * M + 1) (Nat.le_trans hj h.hn)
  omega
section
variable {A B : List Rat} {r n c M : Nat} (h : MB A B r n c M) (s s2 s3 : List Int)
include h
theorem mm_l2 (i k : Nat) (hi : i < r) (hk : k < c) (out : List ByteArray) (ho : out.length ≤ 100000) (R : List Int × List ByteArray × Int)
    (H : ∃ q, array_MatMul.l1 q (n : Int) (c : Int) (i : Int) (r : Int) (i : Int) (c : Int) ((k + 1 : Nat) : Int) s (tx A) s2 (tx B) s3 (out ++ [rt (Ten.sm (tm A B n c i k) n)]) = some R) : ∀ g j : Nat, j + g = n →
    ∃ q, array_MatMul.l2 q (n : Int) (c : Int) (i : Int) (k : Int) (rt (Ten.sm (tm A B n c i k) j)) (r : Int) (i : Int) (c : Int) (k : Int) (n : Int) (j : Int) s (tx A) s2 (tx B) s3 out = some R := by
 have h1 := h.hr;have h2 := h.hn;have h3 := h.hc;intro g;induction g with
 | zero =>
  intro j hj;obtain ⟨q, hq⟩ := H;obtain rfl : j = n := by omega
  exact ⟨q + 1, by rw [array_MatMul.l2, if_neg (by omega), if_pos (by omega), w1 (by omega)]; exact hq⟩
 | succ g ih =>
  intro j hj;have hj' : j < n := by omega
  obtain ⟨q, hq⟩ := ih (j + 1) (by omega);have i1 := lt_mul hi hj';have i2 := lt_mul hj' hk
  have z1 : (rt (at_ A n i j)).size ≤ 40000000000 := by
   have := qm_getD h.ba h.hM.1 (i * n + j);have hm := h.hM.2;have := size_rt (at_ A n i j);unfold at_ at *;omega
  have z2 : (rt (at_ B c j k)).size ≤ 40000000000 := by
   have := qm_getD h.bb h.hM.1 (j * c + k);have hm := h.hM.2;have := size_rt (at_ B c j k);unfold at_ at *;omega
  have z3 : (rt (at_ A n i j * at_ B c j k)).size ≤ 40000000000 := by
   have := h.tm i k j;have hm := h.hM.2;have := size_rt (at_ A n i j * at_ B c j k);unfold tm at *;omega
  have z4 : (rt (Ten.sm (tm A B n c i k) j)).size ≤ 40000000000 := by
   have := h.sm i k (j := j) (by omega);have hm := h.hM.2;have := size_rt (Ten.sm (tm A B n c i k) j);omega
  refine ⟨q + 1, ?_⟩;rw [array_MatMul.l2, if_pos (by omega), wr (by omega) (by omega) (by omega), wr (by omega) (by omega) (by omega), if_pos (by omega), if_pos (by rw [tx_len, h.la]; omega), if_pos (by omega), if_pos (by rw [tx_len, h.lb]; omega), rdOf_txD A _ (by rw [h.la]; exact i1), rdOf_txD B _ (by rw [h.lb]; exact i2)];show ((rat_Mul.f (rt (at_ A n i j)) (rt (at_ B c j k))).bind fun bt118 => (rat_Add.f _ bt118.1).bind fun bt120 => _) = some R;rw [rat_Mul.of _ _ z1 z2, Option.bind_some, rMul_rt, rat_Add.of _ _ z4 z3, Option.bind_some, rAdd_rt, w1 (by omega)];exact hq
theorem mm_l1 (i : Nat) (hi : i < r) (out : List ByteArray) (ho : out.length ≤ 90000) (R : List Int × List ByteArray × Int)
    (H : ∃ q, array_MatMul.l0 q (n : Int) (c : Int) (r : Int) ((i + 1 : Nat) : Int) s (tx A) s2 (tx B) s3 (out ++ (List.range c).map fun k => rt (Ten.sm (tm A B n c i k) n)) = some R) : ∀ g k : Nat, k + g = c →
    ∃ q, array_MatMul.l1 q (n : Int) (c : Int) (i : Int) (r : Int) (i : Int) (c : Int) (k : Int) s (tx A) s2 (tx B) s3 (out ++ (List.range k).map fun k => rt (Ten.sm (tm A B n c i k) n)) = some R := by
 have h1 := h.hr;have h3 := h.hc;intro g;induction g with
 | zero =>
  intro k hk;obtain ⟨q, hq⟩ := H;obtain rfl : k = c := by omega
  exact ⟨q + 1, by rw [array_MatMul.l1, if_neg (by omega), w1 (by omega)]; exact hq⟩
 | succ g ih =>
  intro k hk;have ih' := ih (k + 1) (by omega);have e : (List.range (k + 1)).map (fun k => rt (Ten.sm (tm A B n c i k) n)) = (List.range k).map (fun k => rt (Ten.sm (tm A B n c i k) n)) ++ [rt (Ten.sm (tm A B n c i k) n)] := by rw [List.range_succ, List.map_append]; rfl
  rw [e, ← List.append_assoc] at ih';obtain ⟨q, hq⟩ := mm_l2 h s s2 s3 i k hi (by omega) _ (by rw [List.length_append, List.length_map, List.length_range]; omega) R ih' n 0 (by omega);refine ⟨q + 1, ?_⟩;rw [array_MatMul.l1, if_pos (by omega)];have e0 : rt (Ten.sm (tm A B n c i k) 0) = ⟨#[48]⟩ := rt_0;rw [e0] at hq;exact hq
theorem mm_l0 : ∀ g i : Nat, i + g = r →
    ∃ q, array_MatMul.l0 q (n : Int) (c : Int) (r : Int) (i : Int) s (tx A) s2 (tx B) s3 (tx (grid i c (fun i k => Ten.sm (tm A B n c i k) n))) = some (s3, tx (mm r n c A B), 0) := by
 have h1 := h.hr;have h3 := h.hc;intro g;induction g with
 | zero =>
  intro i hi;obtain rfl : i = r := by omega
  exact ⟨0 + 1, by rw [array_MatMul.l0, if_neg (by omega)]; rfl⟩
 | succ g ih =>
  intro i hi;have ih' := ih (i + 1) (by omega);rw [grid_succ, tx_app] at ih';have e : tx ((List.range c).map ((fun i k => Ten.sm (tm A B n c i k) n) i)) = (List.range c).map (fun k => rt (Ten.sm (tm A B n c i k) n)) := by unfold tx; rw [List.map_map]; rfl
  rw [e] at ih'
  have hl : (tx (grid i c (fun i k => Ten.sm (tm A B n c i k) n))).length ≤ 90000 := by
   rw [tx_len, grid_len];have := Nat.mul_le_mul (show i ≤ 64 by omega) h3;omega
  obtain ⟨q, hq⟩ := mm_l1 h s s2 s3 i (by omega) _ hl _ ih' c 0 (by omega);rw [List.range_zero, List.map_nil, List.append_nil] at hq;exact ⟨q + 1, by rw [array_MatMul.l0, if_pos (by omega)]; exact hq⟩
end
theorem matmul_f (s : List Int) (d : List ByteArray) (s2 : List Int) (d2 : List ByteArray) (h : Sm1 s d) (h' : Sm1 s2 d2) :
    ∃ q, array_MatMul.f q s d s2 d2 = some ((tMat ⟨s, d⟩ ⟨s2, d2⟩).1.s, (tMat ⟨s, d⟩ ⟨s2, d2⟩).1.d, (tMat ⟨s, d⟩ ⟨s2, d2⟩).2) := by
 unfold tMat;by_cases ht : tRight ⟨s, d⟩ = true
 case neg =>
  refine ⟨0 + 1, ?_⟩;rw [array_MatMul.f, tensor_Right.of _ _ h.1, Option.bind_some, if_neg ht, if_neg ht, array_MatMul.j0, if_pos rfl];rfl
 rw [if_pos ht];by_cases hu : tRight ⟨s2, d2⟩ = true
 case neg =>
  refine ⟨0 + 1, ?_⟩;rw [array_MatMul.f, tensor_Right.of _ _ h.1, Option.bind_some, if_pos ht, tensor_Right.of _ _ h'.1, Option.bind_some, if_neg hu, array_MatMul.j0, if_pos (by simpa using hu)];rfl
 rw [if_pos hu];obtain ⟨A, rfl, oA⟩ := right_some' ht h.2;obtain ⟨B, rfl, oB⟩ := right_some' hu h'.2
 have st : ∀ q, array_MatMul.f q s (tx A) s2 (tx B) = array_MatMul.j0 q false s (tx A) s2 (tx B) := by
  intro q;rw [array_MatMul.f, tensor_Right.of _ _ h.1, Option.bind_some, if_pos ht, tensor_Right.of _ _ h'.1, Option.bind_some, hu];rfl
 have no : array_MatMul.j1 (0 + 1) true s (tx A) s2 (tx B) = some ([], [], 4) := by rw [array_MatMul.j1, if_pos rfl]
 by_cases c1 : s.length = 2
 case neg =>
  refine ⟨0 + 1 + 1, ?_⟩;rw [st, array_MatMul.j0, if_neg (by decide), if_neg (by omega), no, if_neg (by rintro ⟨a, _⟩; exact c1 a)];rfl
 by_cases c2 : s2.length = 2
 case neg =>
  refine ⟨0 + 1 + 1, ?_⟩;rw [st, array_MatMul.j0, if_neg (by decide), if_pos (by omega), if_neg (by omega), no, if_neg (by rintro ⟨_, a, _⟩; exact c2 a)];rfl
 obtain ⟨x, y, rfl⟩ := two_of c1;obtain ⟨z, u, rfl⟩ := two_of c2;have e1 : rd [x, y] 1 = y := rfl;have e0 : rd [x, y] 0 = x := rfl;have f1 : rd [z, u] 1 = u := rfl;have f0 : rd [z, u] 0 = z := rfl
 have st1 : ∀ q, array_MatMul.f (q + 1) [x, y] (tx A) [z, u] (tx B) = array_MatMul.j1 q (y != z) [x, y] (tx A) [z, u] (tx B) := by
  intro q;rw [st, array_MatMul.j0, if_neg (by decide), if_pos (by simp), if_pos (by simp), if_pos (by simp), if_pos (by simp), e1, f0]
 dsimp only;rw [e1, e0, f1, f0];by_cases c3 : y = z
 case neg =>
  refine ⟨0 + 1 + 1, ?_⟩;rw [st1, bne_iff_ne.2 c3, no, if_neg (by rintro ⟨_, _, a⟩; exact c3 a)];rfl
 subst c3
 have st2 : ∀ q, array_MatMul.f (q + 1 + 1) [x, y] (tx A) [y, u] (tx B) = if shOk [x, u] = true then array_MatMul.l0 q y u x 0 [x, y] (tx A) [y, u] (tx B) [x, u] [] else some ([], [], 4) := by
  intro q;rw [st1, bne_self_eq_false, array_MatMul.j1, if_neg (by decide), if_pos (by simp), if_pos (by simp), if_pos (by simp), Option.bind_some, e0, f1, shape_Right.of _ (by simp), Option.bind_some, e1]
 rw [if_pos ⟨rfl, rfl, rfl⟩];by_cases c4 : shOk [x, u] = true
 case neg => exact ⟨0 + 1 + 1, by rw [st2, if_neg c4, if_neg c4]; rfl⟩
 obtain ⟨r, n, rfl, rfl, hr, hn, _, _, la⟩ := two_ok oA;obtain ⟨n', c, hn', rfl, _, hc, _, _, lb⟩ := two_ok oB;obtain rfl : n = n' := Int.ofNat.inj hn';have hb : MB A B r n c 100000000 := ⟨la, lb, hr, hn, hc, oA.bd, oB.bd, by decide⟩;obtain ⟨q, hq⟩ := mm_l0 hb [(r : Int), (n : Int)] [(n : Int), (c : Int)] [(r : Int), (c : Int)] r 0 (by omega);refine ⟨q + 1 + 1, ?_⟩;rw [st2, if_pos c4, if_pos c4, rvl_tx, rvl_tx];exact hq
theorem matmul_calls (A0 : Option Addr) (c0 : Nat) (A1 : Option Addr) (c1 : Nat) (s : List Int) (d : List ByteArray) (B0 : Option Addr) (e0 : Nat) (B1 : Option Addr) (e1 : Nat) (s2 : List Int) (d2 : List ByteArray) (w : World) (hG : Gs w)
    (hr0 : Kd.C (Kd.int .i64) w A0 s.length s) (hc0 : s.length ≤ c0) (hr1 : Kd.C Kd.string w A1 d.length d) (hc1 : d.length ≤ c1) (h : Sm1 s d) (ir0 : Kd.C (Kd.int .i64) w B0 s2.length s2) (ic0 : s2.length ≤ e0) (ir1 : Kd.C Kd.string w B1 d2.length d2) (ic1 : d2.length ≤ e1) (i : Sm1 s2 d2) :
    Calls Tryz.prog 16 #[.agg #[.slice A0 s.length c0, .slice A1 d.length c1], .agg #[.slice B0 s2.length e0, .slice B1 d2.length e1]] w (Res w (tMat ⟨s, d⟩ ⟨s2, d2⟩)) := by
  obtain ⟨q, hq⟩ := matmul_f s d s2 d2 h i;exact array_MatMul.calls q A0 c0 s A1 c1 d B0 e0 s2 B1 e1 d2 _ _ _ w hG hr0 hc0 hr1 hc1 ir0 ic0 ir1 ic1 hq
end Go.Proofs.YtmmonhgfnmeieaaGreatDoor.Ten
