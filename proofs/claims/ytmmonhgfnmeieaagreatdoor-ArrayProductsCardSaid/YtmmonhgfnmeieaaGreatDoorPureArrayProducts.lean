/- ArrayProducts: the plain law. -/
import Derived.Test.YtmmonhgfnmeieaaGreatDoorArrV
import Derived.Test.YtmmonhgfnmeieaaGreatDoorPQPxa
namespace Go.Proofs.YtmmonhgfnmeieaaGreatDoor.Pure
open Go Go.RowKit Go.ZPWords Go.Proofs.YtmmonhgfnmeieaaGreatDoor.PQP Go.Proofs.YtmmonhgfnmeieaaGreatDoor.Err Go.Proofs.YtmmonhgfnmeieaaGreatDoor.Th Go.Proofs.YtmmonhgfnmeieaaGreatDoor.Ten
set_option linter.unusedVariables false
theorem awake : lw6_awake.f = some true := rfl
theorem eqT {s : List Int} {d e : List ByteArray} {l m : List Rat} {N M : Nat} (h : Ok s l N) (h' : Ok s m M) (hd : d = tx l) (he : e = tx m) (hl : l = m) : rf5_Equal.f s d s e = some true := by
  subst hd he hl
  have h1 := h.le64
  rw [rf5_Equal.of _ _ _ _ ⟨by omega, by rw [tx_len]; omega⟩, decide_eq_true ⟨rfl, rfl⟩]
theorem z1 : Th.Wh.zt (0 : Rat).num = (⟨#[48]⟩ : ByteArray) := by decide +kernel
theorem z2 : txt (0 : Rat).den = (⟨#[49]⟩ : ByteArray) := by decide +kernel
theorem wr' {i k c : Nat} (hi : i ≤ 70) (hc : c ≤ 70) (hk : k ≤ 70) : wrap64 (wrap64 ((i : Int) * (c : Int)) + (k : Int)) = ((i * c + k : Nat) : Int) := by
  have h := Nat.mul_le_mul hi hc
  have e : (i : Int) * (c : Int) = ((i * c : Nat) : Int) := by rw [Int.natCast_mul]
  rw [e]
  generalize i * c = m at *
  unfold wrap64
  omega
theorem w1' {i : Nat} (hi : i ≤ 70) : wrap64 ((i : Int) + 1) = ((i + 1 : Nat) : Int) := by unfold wrap64; omega
def rs (x : Rat) : S49 := ⟨Th.Wh.zt x.num, txt x.den⟩
theorem rd_rs (p q : List Rat) (x : Rat) : rd_T49 ((p ++ x :: q).map rs) (p.length : Int) = rs x := by
  unfold rd_T49
  simp [List.getD]
theorem of_l0 (s : List Int) (l : List Rat) (hl : l.length ≤ 1000000) (hb : ∀ x ∈ l, qm x ≤ 100000000000) : ∀ q p : List Rat, p ++ q = l → Ev (fun k => rf5_Of.l0 k (l.map rs) (p.length : Int) s (tx p)) (s, tx l)
  | [], p, h => by
    rw [List.append_nil] at h
    subst h
    exact Ev.step (f := fun _ => some (s, tx p)) (fun k => by rw [rf5_Of.l0, if_neg (by rw [List.length_map]; omega)]) (Ev.now _)
  | x :: q, p, h => by
    have hn : p.length + q.length + 1 = l.length := by rw [← h]; simp; omega
    have h1 : (p.length : Int) < ((l.map rs).length : Int) := by rw [List.length_map]; omega
    have h2 : (0 : Int) ≤ (p.length : Int) := by omega
    have h3 : (tx p).length < 8796093022208 := by rw [tx_len]; omega
    have hr : rd_T49 (l.map rs) (p.length : Int) = rs x := by rw [← h, rd_rs]
    have ih := of_l0 s l hl hb q (p ++ [x]) (by rw [← h]; simp)
    have hw : Aside0 (wrap64 ((p.length : Int) + 1) = ((p ++ [x]).length : Int)) := ⟨by rw [w64 (by omega) (by omega)]; simp⟩
    have ht : rf3_Text.f (rs x).f0 (rs x).f1 = some (rt x) := rf3_Text.rt x (hb x (by rw [← h]; simp))
    have ha : tx p ++ [rt x] = tx (p ++ [x]) := by simp [tx]
    exact Ev.step (fun k => by rw [rf5_Of.l0, if_pos h1, if_pos h2, hr, ht, Option.bind_some, if_pos h3, ha, hw.out]) ih
theorem of_ev (s : List Int) (l : List Rat) (hl : l.length ≤ 1000000) (hb : ∀ x ∈ l, qm x ≤ 100000000000) : Ev (fun k => rf5_Of.f k s (l.map rs)) (s, tx l) :=
  Ev.congr (fun k => by rw [rf5_Of.f]; rfl) (of_l0 s l hl hb l [] rfl)
theorem at_d (s : List Int) (l : List Rat) (p : Nat) (h : p < l.length) (hx : qm (l.getD p 0) ≤ 1000000000) : rf5_At.f s (tx l) (p : Int) = some (Th.Wh.zt (l.getD p 0).num, txt (l.getD p 0).den) := by
  have hs := size_rt (l.getD p 0)
  rw [rf5_At.f, if_pos (by omega), if_pos (by rw [tx_len]; omega), rdOf_txD l p h, rf3_Read.rt _ (by omega), Option.bind_some]
section
variable {r n c N M : Nat} {A B : List Rat}
def F_ (n c : Nat) (A B : List Rat) (i k : Nat) : Nat → Rat := fun j => at_ A n i j * at_ B c j k
theorem qF (oA : ∀ x ∈ A, qm x ≤ N) (oB : ∀ x ∈ B, qm x ≤ N) (hN : 1 ≤ N) (i k j : Nat) : qm (F_ n c A B i k j) ≤ 2 * N := by
  have h1 := qm_getD oA hN (i * n + j)
  have h2 := qm_getD oB hN (j * c + k)
  have := qx h1 h2
  unfold F_ at_
  omega
theorem qsF (oA : ∀ x ∈ A, qm x ≤ N) (oB : ∀ x ∈ B, qm x ≤ N) (hN : 1 ≤ N) (hN' : N ≤ 100000) (i k : Nat) {j : Nat} (hj : j ≤ 70) : qm (sm (F_ n c A B i k) j) ≤ 100000000 := by
  have h1 := qm_sm (f := F_ n c A B i k) (K := 2 * N) (qF oA oB hN i k) j
  have h2 := Nat.mul_le_mul hj (show 2 * N + 1 ≤ 200001 by omega)
  omega
theorem m_l2 (s s2 : List Int) (hA : A.length = r * n) (hB : B.length = n * c) (e2 : rd s2 1 = (c : Int)) (l2 : 1 < (s2.length : Int)) (oA : ∀ x ∈ A, qm x ≤ N) (oB : ∀ x ∈ B, qm x ≤ N) (hN : 1 ≤ N) (hN' : N ≤ 100000) (hr : r ≤ 70) (hn : n ≤ 70) (hc : c ≤ 70) (i k : Nat) (hi : i < r) (hk : k < c) (acc : List S49) (ha : acc.length ≤ 1000000) (v : List Int × List ByteArray)
    (h0 : Ev (fun K => rf6_MatMul.l1 K (n : Int) (acc ++ [rs (sm (F_ n c A B i k) n)]) (i : Int) ((k + 1 : Nat) : Int) s (tx A) s2 (tx B)) v) :
    ∀ g j : Nat, j + g = n → Ev (fun K => rf6_MatMul.l2 K (n : Int) acc (i : Int) (k : Int) (j : Int) s (tx A) s2 (tx B) (Th.Wh.zt (sm (F_ n c A B i k) j).num) (txt (sm (F_ n c A B i k) j).den)) v
  | 0, j, hj => by
    obtain rfl : j = n := by omega
    exact Ev.step (fun K => by rw [rf6_MatMul.l2, if_neg (by omega), if_pos (by omega), w1' (by omega)]; rfl) h0
  | g + 1, j, hj => by
    have ih := m_l2 s s2 hA hB e2 l2 oA oB hN hN' hr hn hc i k hi hk acc ha v h0 g (j + 1) (by omega)
    have p1 : i * n + j < A.length := by rw [hA]; exact lt_mul hi (by omega)
    have p2 : j * c + k < B.length := by rw [hB]; exact lt_mul (by omega) hk
    have q1 := qm_getD oA hN (i * n + j)
    have q2 := qm_getD oB hN (j * c + k)
    have a1 := at_d s A (i * n + j) p1 (by omega)
    have a2 := at_d s2 B (j * c + k) p2 (by omega)
    have f1 : Fr (A.getD (i * n + j) 0) := fr q1 (by omega)
    have f2 : Fr (B.getD (j * c + k) 0) := fr q2 (by omega)
    have f3 : Fr (A.getD (i * n + j) 0 * B.getD (j * c + k) 0) := fr (qx q1 q2) (by omega)
    have f4 : Fr (sm (F_ n c A B i k) j) := fr (qsF oA oB hN hN' i k (by omega)) (by decide)
    refine Ev.step (fun K => ?_) ih
    rw [rf6_MatMul.l2, if_pos (by omega), wr' (by omega) (by omega) (by omega), a1, Option.bind_some, if_pos l2, e2, wr' (by omega) (by omega) (by omega), a2, Option.bind_some]
    dsimp only
    rw [rf3_Mul.rt f1 f2, Option.bind_some]
    dsimp only
    rw [rf3_Add.rt f4 f3, Option.bind_some, w1' (by omega)]
    rfl
theorem m_l1 (s s2 : List Int) (hA : A.length = r * n) (hB : B.length = n * c) (e2 : rd s2 1 = (c : Int)) (l2 : 1 < (s2.length : Int)) (oA : ∀ x ∈ A, qm x ≤ N) (oB : ∀ x ∈ B, qm x ≤ N) (hN : 1 ≤ N) (hN' : N ≤ 100000) (hr : r ≤ 70) (hn : n ≤ 70) (hc : c ≤ 70) (i : Nat) (hi : i < r) (v : List Int × List ByteArray)
    (h0 : Ev (fun K => rf6_MatMul.l0 K (n : Int) ((grid (i + 1) c fun i k => sm (F_ n c A B i k) n).map rs) ((i + 1 : Nat) : Int) s (tx A) s2 (tx B)) v) :
    ∀ g k : Nat, k + g = c → Ev (fun K => rf6_MatMul.l1 K (n : Int) ((grid i c (fun i k => sm (F_ n c A B i k) n) ++ (List.range k).map fun k => sm (F_ n c A B i k) n).map rs) (i : Int) (k : Int) s (tx A) s2 (tx B)) v
  | 0, k, hk => by
    obtain rfl : k = c := by omega
    have e := grid_succ i k fun i k => sm (F_ n k A B i k) n
    refine Ev.step (fun K => ?_) h0
    rw [rf6_MatMul.l1, if_pos l2, e2, if_neg (by omega), w1' (by omega), grid_succ]
  | g + 1, k, hk => by
    have ih := m_l1 s s2 hA hB e2 l2 oA oB hN hN' hr hn hc i hi v h0 g (k + 1) (by omega)
    have h1 := Nat.mul_le_mul (show i ≤ 70 by omega) hc
    have e : (grid i c (fun i k => sm (F_ n c A B i k) n) ++ (List.range (k + 1)).map fun k => sm (F_ n c A B i k) n).map rs = (grid i c (fun i k => sm (F_ n c A B i k) n) ++ (List.range k).map fun k => sm (F_ n c A B i k) n).map rs ++ [rs (sm (F_ n c A B i k) n)] := by rw [List.range_succ]; simp
    rw [e] at ih
    have h2 := m_l2 s s2 hA hB e2 l2 oA oB hN hN' hr hn hc i k hi (by omega) _ (by rw [List.length_map, List.length_append, grid_len, List.length_map, List.length_range]; omega) v ih n 0 (by omega)
    rw [show sm (F_ n c A B i k) 0 = 0 from rfl, z1, z2, Int.natCast_zero] at h2
    refine Ev.step (fun K => ?_) h2
    rw [rf6_MatMul.l1, if_pos l2, e2, if_pos (by omega)]
theorem m_l0 (s s2 : List Int) (hA : A.length = r * n) (hB : B.length = n * c) (e0 : rd s 0 = (r : Int)) (l1 : 1 < (s.length : Int)) (e2 : rd s2 1 = (c : Int)) (l2 : 1 < (s2.length : Int)) (oA : ∀ x ∈ A, qm x ≤ N) (oB : ∀ x ∈ B, qm x ≤ N) (hN : 1 ≤ N) (hN' : N ≤ 100000) (hr : r ≤ 70) (hn : n ≤ 70) (hc : c ≤ 70) :
    ∀ g i : Nat, i + g = r → Ev (fun K => rf6_MatMul.l0 K (n : Int) ((grid i c fun i k => sm (F_ n c A B i k) n).map rs) (i : Int) s (tx A) s2 (tx B)) ([(r : Int), (c : Int)], tx (mm r n c A B))
  | 0, i, hi => by
    obtain rfl : i = r := by omega
    have h1 := Nat.mul_le_mul hr hc
    have o := of_ev [(i : Int), (c : Int)] (grid i c fun i k => sm (F_ n c A B i k) n) (by rw [grid_len]; omega) (fun x hx => by
      obtain ⟨i, k, _, _, rfl⟩ := mem_grid hx
      exact Nat.le_trans (qsF oA oB hN hN' i k hn) (by decide))
    exact Ev.step (f := fun K => (rf5_Of.f K [(i : Int), (c : Int)] ((grid i c fun i k => sm (F_ n c A B i k) n).map rs)).bind fun b => some (b.1, b.2)) (fun K => by rw [rf6_MatMul.l0, if_pos (by omega), e0, if_neg (by omega), if_pos l2, e2]) (Ev.bind o (Ev.now _))
  | g + 1, i, hi => by
    have ih := m_l0 s s2 hA hB e0 l1 e2 l2 oA oB hN hN' hr hn hc g (i + 1) (by omega)
    have h1 := m_l1 s s2 hA hB e2 l2 oA oB hN hN' hr hn hc i (by omega) _ ih c 0 (by omega)
    rw [List.range_zero, List.map_nil, List.append_nil] at h1
    exact Ev.step (fun K => by rw [rf6_MatMul.l0, if_pos (by omega), e0, if_pos (by omega)]; rfl) h1
theorem m_ev {s s2 : List Int} (hA : A.length = r * n) (hB : B.length = n * c) (e0 : rd s 0 = (r : Int)) (e1 : rd s 1 = (n : Int)) (l1 : 1 < (s.length : Int)) (e2 : rd s2 1 = (c : Int)) (l2 : 1 < (s2.length : Int)) (oA : ∀ x ∈ A, qm x ≤ N) (oB : ∀ x ∈ B, qm x ≤ N) (hN : 1 ≤ N) (hN' : N ≤ 100000) (hr : r ≤ 70) (hn : n ≤ 70) (hc : c ≤ 70) : Ev (fun K => rf6_MatMul.f K s (tx A) s2 (tx B)) ([(r : Int), (c : Int)], tx (mm r n c A B)) :=
  Ev.congr (fun K => by rw [rf6_MatMul.f, if_pos l1, e1]; rfl) (m_l0 s s2 hA hB e0 l1 e2 l2 oA oB hN hN' hr hn hc r 0 (by omega))
end
theorem tr_get {r c : Nat} (A : List Rat) {p : Nat} (h : p < r * c) : (tr r c A).getD p 0 = A.getD (p % r * c + p / r) 0 := by
  have hr : 0 < r := Nat.pos_of_ne_zero (fun e => by rw [e, Nat.zero_mul] at h; omega)
  have h2 := grid_get r (fun k i => at_ A c i k) (p % r) (Nat.mod_lt _ hr) c (p / r) ((Nat.div_lt_iff_lt_mul hr).2 (by rw [Nat.mul_comm]; exact h))
  rw [Nat.div_add_mod' p r] at h2
  exact h2
theorem tr_len (r c : Nat) (A : List Rat) : (tr r c A).length = r * c := by rw [tr, grid_len, Nat.mul_comm]
theorem tr_l0 {r c : Nat} {A : List Rat} (hA : A.length = r * c) (hr : 1 ≤ r) (hr' : r ≤ 64) (hc : c ≤ 64) : ∀ g p : Nat, p + g = r * c → Ev (fun K => rf6_Transpose.l0 K (p : Int) [(r : Int), (c : Int)] (tx A) [(c : Int), (r : Int)] (tx ((tr r c A).take p))) ([(c : Int), (r : Int)], tx (tr r c A))
  | 0, p, hp => by
    obtain rfl : p = r * c := by omega
    rw [List.take_of_length_le (by rw [tr_len]; exact Nat.le_refl _)]
    exact Ev.step (f := fun _ => some ([(c : Int), (r : Int)], tx (tr r c A))) (fun K => by rw [rf6_Transpose.l0, if_neg (by rw [tx_len, hA]; omega)]) (Ev.now _)
  | g + 1, p, hp => by
    have ih := tr_l0 hA hr hr' hc g (p + 1) (by omega)
    have hm : p % r < r := Nat.mod_lt _ hr
    have hd : p / r < c := (Nat.div_lt_iff_lt_mul hr).2 (by rw [Nat.mul_comm]; omega)
    have hi : p % r * c + p / r < r * c := lt_mul hm hd
    have h1 := Nat.mul_le_mul hr' hc
    have ew : Aside0 (wrap64 (wrap64 (Int.tmod (p : Int) (r : Int) * (c : Int)) + wrap64 (Int.tdiv (p : Int) (r : Int))) = ((p % r * c + p / r : Nat) : Int)) := ⟨by
      rw [← Int.ofNat_tmod, ← Int.ofNat_tdiv, show wrap64 ((p / r : Nat) : Int) = ((p / r : Nat) : Int) from by (generalize p / r = q at hd ⊢; exact w64 (by omega) (by omega)), wr' (by omega) (by omega) (by omega)]⟩
    have e0 : rd [(r : Int), (c : Int)] 0 = (r : Int) := rfl
    have e1 : rd [(r : Int), (c : Int)] 1 = (c : Int) := rfl
    have ea : tx ((tr r c A).take p) ++ [rt (A.getD (p % r * c + p / r) 0)] = tx ((tr r c A).take (p + 1)) := by
      rw [List.take_add_one, tx_app, ← tr_get A (by omega : p < r * c), List.getElem?_eq_getElem (by rw [tr_len]; omega)]
      rw [List.getD_eq_getElem?_getD, List.getElem?_eq_getElem (by rw [tr_len]; omega)]; rfl
    refine Ev.step (fun K => ?_) ih
    rw [rf6_Transpose.l0, if_pos (by rw [tx_len, hA]; omega), if_pos (by show (0 : Int) < 2; decide), e0, if_neg (by omega), if_pos (by show (1 : Int) < 2; decide), e1, ew.out, if_pos (Int.natCast_nonneg _), if_pos (by rw [tx_len, hA]; exact Int.ofNat_lt.2 hi), if_pos (by rw [tx_len, List.length_take, tr_len]; omega), rdOf_txD A _ (by rw [hA]; exact hi), ea, w64 (by omega) (by omega)]
    rfl
theorem tr_ev {r c : Nat} {A : List Rat} (hA : A.length = r * c) (hr : 1 ≤ r) (hr' : r ≤ 64) (hc : c ≤ 64) : Ev (fun K => rf6_Transpose.f K [(r : Int), (c : Int)] (tx A)) ([(c : Int), (r : Int)], tx (tr r c A)) :=
  Ev.congr (fun K => by rw [rf6_Transpose.f, if_pos (by show (1 : Int) < 2; decide), if_pos (by show (0 : Int) < 2; decide)]; rfl) (tr_l0 hA hr hr' hc (r * c) 0 (by omega))
theorem sh_le {r c : Nat} (hr : 1 ≤ r) (hr' : r ≤ 64) (hc : 1 ≤ c) (hc' : c ≤ 64) (h : r * c ≤ 64) : shOk [(r : Int), (c : Int)] = true := by
  unfold shOk
  rw [sz2, List.all_cons, List.all_cons, in64_iff.2 ⟨by omega, by omega⟩, in64_iff.2 ⟨by omega, by omega⟩, decide_eq_true (show ((r * c : Nat) : Int) ≤ 64 by omega)]
  rfl
theorem sh_gt {r c : Nat} (h : ¬ r * c ≤ 64) : ¬ shOk [(r : Int), (c : Int)] = true := fun e => by
  have := (shOk_parts e).2.2
  rw [sz2] at this
  omega
theorem ArrayProducts (s : List Int) (d : List ByteArray) (s2 : List Int) (d2 : List ByteArray) : ∃ k, lw6_ArrayProducts.f k s d s2 d2 = some true := by
  refine Ev.rounds ?_
  have ev1 : ∀ {g : Nat → Option Bool}, (∀ K, g (K + 1) = some true) → Ev g true := fun h => Ev.step (f := fun _ => some true) h (Ev.now _)
  have hz : Ev (fun K => lw6_ArrayProducts.j0 K true s d s2 d2) true := ev1 fun K => by rw [lw6_ArrayProducts.j0, if_pos rfl, awake]; rfl
  by_cases h1 : small ⟨s, d⟩ = true
  case neg => exact Ev.congr (fun K => by rw [lw6_ArrayProducts.f, rf5_Small.f, Option.bind_some, if_neg h1]) hz
  by_cases h2 : small ⟨s2, d2⟩ = true
  case neg =>
    rw [Bool.not_eq_true] at h2
    exact Ev.congr (fun K => by rw [lw6_ArrayProducts.f, rf5_Small.f, rf5_Small.f, Option.bind_some, if_pos h1, Option.bind_some, h2]; rfl) hz
  have m1 := (small_parts h1).1
  have m2 := (small_parts h2).1
  refine Ev.congr (f := fun K => lw6_ArrayProducts.j0 K false s d s2 d2) (fun K => by rw [lw6_ArrayProducts.f, rf5_Small.f, rf5_Small.f, Option.bind_some, if_pos h1, Option.bind_some, h2]; rfl) ?_
  refine Ev.step (f := fun K => lw6_ArrayProducts.j1 K (tMat ⟨s, d⟩ ⟨s2, d2⟩).2 (tTr ⟨s, d⟩).2 (tRight ⟨s, d⟩) (tRight ⟨s2, d2⟩) (tRight ⟨s, d⟩ && ((s.length : Int) == 2)) s d s2 d2 (tMat ⟨s, d⟩ ⟨s2, d2⟩).1.s (tMat ⟨s, d⟩ ⟨s2, d2⟩).1.d (tTr ⟨s, d⟩).1.s (tTr ⟨s, d⟩).1.d) (fun K => by
    rw [lw6_ArrayProducts.j0, if_neg (by decide), array_MatMul.of _ _ _ _ ⟨small_sm1 h1, small_sm1 h2⟩, Option.bind_some, array_Transpose.of _ _ m1, Option.bind_some, rf5_Right.of _ _ m1, Option.bind_some, rf5_Right.of _ _ m2, Option.bind_some]
    dsimp only
    cases tRight ⟨s, d⟩
    · rw [if_neg (by decide)]; rfl
    · rw [if_pos rfl]; rfl) ?_
  have n0 : (([] : List ByteArray).length : Int) = 0 := rfl
  -- refused: 1
  have b1 : ∀ two, Ev (fun K => lw6_ArrayProducts.j3 K 1 two true s d s2 d2 [] []) true := fun two => ev1 fun K => by rw [lw6_ArrayProducts.j3, if_pos rfl, if_pos n0, if_pos rfl, awake]; rfl
  have b4 : Ev (fun K => lw6_ArrayProducts.j4 K 4 true s d s2 d2 [] []) true := ev1 fun K => by rw [lw6_ArrayProducts.j4, if_pos rfl, if_pos n0, if_pos rfl, awake]; rfl
  rcases cases_t h1 with r1 | ⟨A, rfl, oA⟩
  · rw [r1, show tMat ⟨s, d⟩ ⟨s2, d2⟩ = (nilT, 1) from by unfold tMat; rw [if_neg (by simp [r1])], show tTr ⟨s, d⟩ = (nilT, 1) from by unfold tTr; rw [if_neg (by simp [r1])]]
    refine Ev.step (f := fun K => lw6_ArrayProducts.j2 K 1 false (tRight ⟨s2, d2⟩) false false s d s2 d2 [] []) (fun K => by rw [lw6_ArrayProducts.j1, if_neg (by decide), if_pos rfl, if_pos (show ((nilT.d).length : Int) = 0 from rfl), if_neg (by rw [Bool.false_and]; decide)]; rfl) ?_
    exact Ev.step (fun K => by rw [lw6_ArrayProducts.j2, if_neg (by decide), if_neg (by decide)]) (b1 false)
  rw [oA.right, Bool.true_and]
  have hM : tRight ⟨s2, d2⟩ = false → tMat ⟨s, tx A⟩ ⟨s2, d2⟩ = (nilT, 1) := fun h => by unfold tMat; rw [if_pos oA.right, if_neg (by simp [h])]
  -- from j2 on, with what MatMul answers
  have go : ∀ two : Bool, Ev (fun K => lw6_ArrayProducts.j3 K (tMat ⟨s, tx A⟩ ⟨s2, d2⟩).2 two (!(tRight ⟨s2, d2⟩)) s (tx A) s2 d2 (tMat ⟨s, tx A⟩ ⟨s2, d2⟩).1.s (tMat ⟨s, tx A⟩ ⟨s2, d2⟩).1.d) true → Ev (fun K => lw6_ArrayProducts.j2 K (tMat ⟨s, tx A⟩ ⟨s2, d2⟩).2 true (tRight ⟨s2, d2⟩) two false s (tx A) s2 d2 (tMat ⟨s, tx A⟩ ⟨s2, d2⟩).1.s (tMat ⟨s, tx A⟩ ⟨s2, d2⟩).1.d) true := fun two h => Ev.step (fun K => by rw [lw6_ArrayProducts.j2, if_neg (by decide), if_pos rfl]) h
  by_cases ht : s.length = 2
  case neg =>
    have e2 : ((s.length : Int) == 2) = false := beq_eq_false_iff_ne.mpr (by omega)
    rw [e2, show tTr ⟨s, tx A⟩ = (nilT, 4) from by unfold tTr; rw [if_pos oA.right, if_neg ht]]
    refine Ev.step (fun K => by rw [lw6_ArrayProducts.j1, if_pos rfl, if_neg (by decide), if_pos rfl, if_pos (show ((nilT.d).length : Int) = 0 from rfl)]) (go false ?_)
    rcases cases_t h2 with r2 | ⟨B, rfl, oB⟩
    · rw [hM r2, r2]; exact b1 false
    rw [oB.right, show tMat ⟨s, tx A⟩ ⟨s2, tx B⟩ = (nilT, 4) from by unfold tMat; rw [if_pos oA.right, if_pos oB.right, if_neg (fun h => ht h.1)]]
    exact Ev.step (fun K => by rw [lw6_ArrayProducts.j3, if_neg (by decide), if_neg (by decide)]; rfl) b4
  obtain ⟨x, y, rfl⟩ := two_of ht
  obtain ⟨r, n, rfl, rfl, hr, hn, r1, n1, la⟩ := two_ok oA
  have e0 : rd [(r : Int), (n : Int)] 0 = (r : Int) := rfl
  have e1 : rd [(r : Int), (n : Int)] 1 = (n : Int) := rfl
  rw [show ((([(r : Int), (n : Int)] : List Int).length : Int) == 2) = true from rfl, ttr_ok oA]
  refine Ev.step (f := fun K => (rf6_Transpose.f K [(r : Int), (n : Int)] (tx A)).bind fun b => (rf5_Equal.f [(n : Int), (r : Int)] (tx (tr r n A)) b.1 b.2).bind fun t => lw6_ArrayProducts.j2 K (tMat ⟨[(r : Int), (n : Int)], tx A⟩ ⟨s2, d2⟩).2 true (tRight ⟨s2, d2⟩) true (!t) [(r : Int), (n : Int)] (tx A) s2 d2 (tMat ⟨[(r : Int), (n : Int)], tx A⟩ ⟨s2, d2⟩).1.s (tMat ⟨[(r : Int), (n : Int)], tx A⟩ ⟨s2, d2⟩).1.d) (fun K => by rw [lw6_ArrayProducts.j1, if_pos rfl, if_pos rfl, if_pos rfl]) ?_
  have oT := ok_tr oA (by decide)
  refine Ev.bind (tr_ev la r1 hr hn) ?_
  refine Ev.congr (fun K => by rw [eqT oT oT rfl rfl rfl, Option.bind_some]; rfl) (go true ?_)
  rcases cases_t h2 with r2 | ⟨B, rfl, oB⟩
  · rw [hM r2, r2]; exact b1 true
  rw [oB.right]
  have no : (¬ (s2.length = 2 ∧ rd [(r : Int), (n : Int)] 1 = rd s2 0)) → tMat ⟨[(r : Int), (n : Int)], tx A⟩ ⟨s2, tx B⟩ = (nilT, 4) := fun h => by
    unfold tMat
    rw [if_pos oA.right, if_pos oB.right, if_neg (fun hh => h hh.2)]
  by_cases h3 : s2.length = 2
  case neg =>
    rw [no (fun h => h3 h.1)]
    exact Ev.step (fun K => by rw [lw6_ArrayProducts.j3, if_neg (by decide), if_pos rfl, if_neg (by omega)]; rfl) b4
  obtain ⟨x, y, rfl⟩ := two_of h3
  obtain ⟨n2, c, rfl, rfl, hn2, hc, _, c1, lb⟩ := two_ok oB
  have g0 : rd [(n2 : Int), (c : Int)] 0 = (n2 : Int) := rfl
  have g1 : rd [(n2 : Int), (c : Int)] 1 = (c : Int) := rfl
  have k3 : ∀ K e m1 m2, lw6_ArrayProducts.j3 (K + 1) e true (!true) [(r : Int), (n : Int)] (tx A) [(n2 : Int), (c : Int)] (tx B) m1 m2 = if (n : Int) = (n2 : Int) then lw6_ArrayProducts.j4 K e (decide (wrap64 ((r : Int) * (c : Int)) > 64)) [(r : Int), (n : Int)] (tx A) [(n2 : Int), (c : Int)] (tx B) m1 m2 else lw6_ArrayProducts.j4 K e true [(r : Int), (n : Int)] (tx A) [(n2 : Int), (c : Int)] (tx B) m1 m2 := fun K e m1 m2 => by
    rw [lw6_ArrayProducts.j3, if_neg (by decide), if_pos rfl, if_pos (show (([(n2 : Int), (c : Int)] : List Int).length : Int) = 2 from rfl), if_pos (by show (1 : Int) < 2; decide), if_pos (by show (0 : Int) < 2; decide), e1, g0]
    by_cases hh : (n : Int) = (n2 : Int)
    · rw [if_pos hh, if_pos hh, if_pos (by show (0 : Int) < 2; decide), if_pos (by show (1 : Int) < 2; decide), e0, g1]
    · rw [if_neg hh, if_neg hh]
  by_cases h4 : n = n2
  case neg =>
    rw [no (fun h => h4 (Int.ofNat.inj h.2))]
    exact Ev.step (fun K => by rw [k3, if_neg (by omega)]; rfl) b4
  subst h4
  have hw : wrap64 ((r : Int) * (c : Int)) = ((r * c : Nat) : Int) := by
    have := Nat.mul_le_mul hr hc
    rw [← Int.natCast_mul]
    exact w64 (by omega) (by omega)
  by_cases h5 : r * c ≤ 64
  case neg =>
    rw [tmat_no oA oB (sh_gt h5)]
    exact Ev.step (fun K => by rw [k3, if_pos rfl, hw, decide_eq_true (show ((r * c : Nat) : Int) > 64 by omega)]; rfl) b4
  have hs := sh_le r1 hr c1 hc h5
  rw [tmat_ok oA oB hs]
  have om := ok_mm oA oB (by decide) hn hs
  refine Ev.step (f := fun K => lw6_ArrayProducts.j4 K 0 false [(r : Int), (n : Int)] (tx A) [(n : Int), (c : Int)] (tx B) [(r : Int), (c : Int)] (tx (mm r n c A B))) (fun K => by rw [k3, if_pos rfl, hw, decide_eq_false (show ¬ ((r * c : Nat) : Int) > 64 by omega)]) ?_
  refine Ev.step (f := fun K => (rf6_MatMul.f K [(r : Int), (n : Int)] (tx A) [(n : Int), (c : Int)] (tx B)).bind fun b => (rf5_Equal.f [(r : Int), (c : Int)] (tx (mm r n c A B)) b.1 b.2).bind fun t => if t = true then (if (0 : Int) = 0 then ((lw6_awake.f).bind fun t => some t) else some false) else some false) (fun K => by rw [lw6_ArrayProducts.j4, if_neg (by decide)]) ?_
  refine Ev.bind (m_ev la lb e0 e1 (show (1 : Int) < 2 by decide) g1 (show (1 : Int) < 2 by decide) oA.bd oB.bd (by decide) (by decide) (by omega) (by omega) (by omega)) ?_
  exact Ev.congr (fun K => by rw [eqT om om rfl rfl rfl, Option.bind_some, if_pos rfl, if_pos rfl, awake]; rfl) (Ev.now true)
end Go.Proofs.YtmmonhgfnmeieaaGreatDoor.Pure
