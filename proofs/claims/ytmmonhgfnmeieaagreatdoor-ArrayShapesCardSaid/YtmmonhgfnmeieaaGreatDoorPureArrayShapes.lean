/- ArrayShapes: the plain law. -/
import Derived.Test.YtmmonhgfnmeieaaGreatDoorArrV
import Derived.Test.YtmmonhgfnmeieaaGreatDoorPQHxa
namespace Go.Proofs.YtmmonhgfnmeieaaGreatDoor.Pure
open Go Go.RowKit Go.ZPWords Go.Proofs.YtmmonhgfnmeieaaGreatDoor.PQH Go.Proofs.YtmmonhgfnmeieaaGreatDoor.Err Go.Proofs.YtmmonhgfnmeieaaGreatDoor.Th Go.Proofs.YtmmonhgfnmeieaaGreatDoor.Ten
set_option linter.unusedVariables false
theorem awake : lw6_awake.f = some true := rfl
theorem z1 : Th.Wh.zt (0 : Rat).num = (⟨#[48]⟩ : ByteArray) := by decide +kernel
theorem z2 : txt (0 : Rat).den = (⟨#[49]⟩ : ByteArray) := by decide +kernel
theorem wr' {i k c : Nat} (hi : i ≤ 70) (hc : c ≤ 70) (hk : k ≤ 70) : wrap64 (wrap64 ((i : Int) * (c : Int)) + (k : Int)) = ((i * c + k : Nat) : Int) := by
  have h := Nat.mul_le_mul hi hc
  have e : (i : Int) * (c : Int) = ((i * c : Nat) : Int) := by rw [Int.natCast_mul]
  rw [e]
  generalize i * c = m at *
  unfold wrap64
  omega
theorem w1' {i : Nat} (hi : i ≤ 70) : wrap64 ((i : Int) + 1) = ((i + 1 : Nat) : Int) := by unfold wrap64; omega
def rs (x : Rat) : S49 := ⟨Th.Wh.zt x.num, txt x.den⟩
theorem rd_rs (p q : List Rat) (x : Rat) : rd_T49 ((p ++ x :: q).map rs) (p.length : Int) = rs x := by
  unfold rd_T49
  simp [List.getD]
theorem of_l0 (s : List Int) (l : List Rat) (hl : l.length ≤ 1000000) (hb : ∀ x ∈ l, qm x ≤ 100000000000) : ∀ q p : List Rat, p ++ q = l → Ev (fun k => rf5_Of.l0 k (l.map rs) (p.length : Int) s (tx p)) (s, tx l)
  | [], p, h => by
    rw [List.append_nil] at h
    subst h
    exact Ev.step (f := fun _ => some (s, tx p)) (fun k => by rw [rf5_Of.l0, if_neg (by rw [List.length_map]; omega)]) (Ev.now _)
  | x :: q, p, h => by
    have hn : p.length + q.length + 1 = l.length := by rw [← h]; simp; omega
    have h1 : (p.length : Int) < ((l.map rs).length : Int) := by rw [List.length_map]; omega
    have h2 : (0 : Int) ≤ (p.length : Int) := by omega
    have h3 : (tx p).length < 8796093022208 := by rw [tx_len]; omega
    have hr : rd_T49 (l.map rs) (p.length : Int) = rs x := by rw [← h, rd_rs]
    have ih := of_l0 s l hl hb q (p ++ [x]) (by rw [← h]; simp)
    have hw : Aside0 (wrap64 ((p.length : Int) + 1) = ((p ++ [x]).length : Int)) := ⟨by rw [w64 (by omega) (by omega)]; simp⟩
    have ht : rf3_Text.f (rs x).f0 (rs x).f1 = some (rt x) := rf3_Text.rt x (hb x (by rw [← h]; simp))
    have ha : tx p ++ [rt x] = tx (p ++ [x]) := by simp [tx]
    exact Ev.step (fun k => by rw [rf5_Of.l0, if_pos h1, if_pos h2, hr, ht, Option.bind_some, if_pos h3, ha, hw.out]) ih
theorem of_ev (s : List Int) (l : List Rat) (hl : l.length ≤ 1000000) (hb : ∀ x ∈ l, qm x ≤ 100000000000) : Ev (fun k => rf5_Of.f k s (l.map rs)) (s, tx l) :=
  Ev.congr (fun k => by rw [rf5_Of.f]; rfl) (of_l0 s l hl hb l [] rfl)
theorem at_d (s : List Int) (l : List Rat) (p : Nat) (h : p < l.length) (hx : qm (l.getD p 0) ≤ 1000000000) : rf5_At.f s (tx l) (p : Int) = some (Th.Wh.zt (l.getD p 0).num, txt (l.getD p 0).den) := by
  have hs := size_rt (l.getD p 0)
  rw [rf5_At.f, if_pos (by omega), if_pos (by rw [tx_len]; omega), rdOf_txD l p h, rf3_Read.rt _ (by omega), Option.bind_some]
section
variable {r n c N M : Nat} {A B : List Rat}
def F_ (n c : Nat) (A B : List Rat) (i k : Nat) : Nat → Rat := fun j => at_ A n i j * at_ B c j k
theorem qF (oA : ∀ x ∈ A, qm x ≤ N) (oB : ∀ x ∈ B, qm x ≤ N) (hN : 1 ≤ N) (i k j : Nat) : qm (F_ n c A B i k j) ≤ 2 * N := by
  have h1 := qm_getD oA hN (i * n + j)
  have h2 := qm_getD oB hN (j * c + k)
  have := qx h1 h2
  unfold F_ at_
  omega
theorem qsF (oA : ∀ x ∈ A, qm x ≤ N) (oB : ∀ x ∈ B, qm x ≤ N) (hN : 1 ≤ N) (hN' : N ≤ 100000) (i k : Nat) {j : Nat} (hj : j ≤ 70) : qm (sm (F_ n c A B i k) j) ≤ 100000000 := by
  have h1 := qm_sm (f := F_ n c A B i k) (K := 2 * N) (qF oA oB hN i k) j
  have h2 := Nat.mul_le_mul hj (show 2 * N + 1 ≤ 200001 by omega)
  omega
theorem m_l2 (s s2 : List Int) (hA : A.length = r * n) (hB : B.length = n * c) (e2 : rd s2 1 = (c : Int)) (l2 : 1 < (s2.length : Int)) (oA : ∀ x ∈ A, qm x ≤ N) (oB : ∀ x ∈ B, qm x ≤ N) (hN : 1 ≤ N) (hN' : N ≤ 100000) (hr : r ≤ 70) (hn : n ≤ 70) (hc : c ≤ 70) (i k : Nat) (hi : i < r) (hk : k < c) (acc : List S49) (ha : acc.length ≤ 1000000) (v : List Int × List ByteArray)
    (h0 : Ev (fun K => rf6_MatMul.l1 K (n : Int) (acc ++ [rs (sm (F_ n c A B i k) n)]) (i : Int) ((k + 1 : Nat) : Int) s (tx A) s2 (tx B)) v) :
    ∀ g j : Nat, j + g = n → Ev (fun K => rf6_MatMul.l2 K (n : Int) acc (i : Int) (k : Int) (j : Int) s (tx A) s2 (tx B) (Th.Wh.zt (sm (F_ n c A B i k) j).num) (txt (sm (F_ n c A B i k) j).den)) v
  | 0, j, hj => by
    obtain rfl : j = n := by omega
    exact Ev.step (fun K => by rw [rf6_MatMul.l2, if_neg (by omega), if_pos (by omega), w1' (by omega)]; rfl) h0
  | g + 1, j, hj => by
    have ih := m_l2 s s2 hA hB e2 l2 oA oB hN hN' hr hn hc i k hi hk acc ha v h0 g (j + 1) (by omega)
    have p1 : i * n + j < A.length := by rw [hA]; exact lt_mul hi (by omega)
    have p2 : j * c + k < B.length := by rw [hB]; exact lt_mul (by omega) hk
    have q1 := qm_getD oA hN (i * n + j)
    have q2 := qm_getD oB hN (j * c + k)
    have a1 := at_d s A (i * n + j) p1 (by omega)
    have a2 := at_d s2 B (j * c + k) p2 (by omega)
    have f1 : Fr (A.getD (i * n + j) 0) := fr q1 (by omega)
    have f2 : Fr (B.getD (j * c + k) 0) := fr q2 (by omega)
    have f3 : Fr (A.getD (i * n + j) 0 * B.getD (j * c + k) 0) := fr (qx q1 q2) (by omega)
    have f4 : Fr (sm (F_ n c A B i k) j) := fr (qsF oA oB hN hN' i k (by omega)) (by decide)
    refine Ev.step (fun K => ?_) ih
    rw [rf6_MatMul.l2, if_pos (by omega), wr' (by omega) (by omega) (by omega), a1, Option.bind_some, if_pos l2, e2, wr' (by omega) (by omega) (by omega), a2, Option.bind_some]
    dsimp only
    rw [rf3_Mul.rt f1 f2, Option.bind_some]
    dsimp only
    rw [rf3_Add.rt f4 f3, Option.bind_some, w1' (by omega)]
    rfl
theorem m_l1 (s s2 : List Int) (hA : A.length = r * n) (hB : B.length = n * c) (e2 : rd s2 1 = (c : Int)) (l2 : 1 < (s2.length : Int)) (oA : ∀ x ∈ A, qm x ≤ N) (oB : ∀ x ∈ B, qm x ≤ N) (hN : 1 ≤ N) (hN' : N ≤ 100000) (hr : r ≤ 70) (hn : n ≤ 70) (hc : c ≤ 70) (i : Nat) (hi : i < r) (v : List Int × List ByteArray)
    (h0 : Ev (fun K => rf6_MatMul.l0 K (n : Int) ((grid (i + 1) c fun i k => sm (F_ n c A B i k) n).map rs) ((i + 1 : Nat) : Int) s (tx A) s2 (tx B)) v) :
    ∀ g k : Nat, k + g = c → Ev (fun K => rf6_MatMul.l1 K (n : Int) ((grid i c (fun i k => sm (F_ n c A B i k) n) ++ (List.range k).map fun k => sm (F_ n c A B i k) n).map rs) (i : Int) (k : Int) s (tx A) s2 (tx B)) v
  | 0, k, hk => by
    obtain rfl : k = c := by omega
    have e := grid_succ i k fun i k => sm (F_ n k A B i k) n
    refine Ev.step (fun K => ?_) h0
    rw [rf6_MatMul.l1, if_pos l2, e2, if_neg (by omega), w1' (by omega), grid_succ]
  | g + 1, k, hk => by
    have ih := m_l1 s s2 hA hB e2 l2 oA oB hN hN' hr hn hc i hi v h0 g (k + 1) (by omega)
    have h1 := Nat.mul_le_mul (show i ≤ 70 by omega) hc
    have e : (grid i c (fun i k => sm (F_ n c A B i k) n) ++ (List.range (k + 1)).map fun k => sm (F_ n c A B i k) n).map rs = (grid i c (fun i k => sm (F_ n c A B i k) n) ++ (List.range k).map fun k => sm (F_ n c A B i k) n).map rs ++ [rs (sm (F_ n c A B i k) n)] := by rw [List.range_succ]; simp
    rw [e] at ih
    have h2 := m_l2 s s2 hA hB e2 l2 oA oB hN hN' hr hn hc i k hi (by omega) _ (by rw [List.length_map, List.length_append, grid_len, List.length_map, List.length_range]; omega) v ih n 0 (by omega)
    rw [show sm (F_ n c A B i k) 0 = 0 from rfl, z1, z2, Int.natCast_zero] at h2
    refine Ev.step (fun K => ?_) h2
    rw [rf6_MatMul.l1, if_pos l2, e2, if_pos (by omega)]
theorem m_l0 (s s2 : List Int) (hA : A.length = r * n) (hB : B.length = n * c) (e0 : rd s 0 = (r : Int)) (l1 : 1 < (s.length : Int)) (e2 : rd s2 1 = (c : Int)) (l2 : 1 < (s2.length : Int)) (oA : ∀ x ∈ A, qm x ≤ N) (oB : ∀ x ∈ B, qm x ≤ N) (hN : 1 ≤ N) (hN' : N ≤ 100000) (hr : r ≤ 70) (hn : n ≤ 70) (hc : c ≤ 70) :
    ∀ g i : Nat, i + g = r → Ev (fun K => rf6_MatMul.l0 K (n : Int) ((grid i c fun i k => sm (F_ n c A B i k) n).map rs) (i : Int) s (tx A) s2 (tx B)) ([(r : Int), (c : Int)], tx (mm r n c A B))
  | 0, i, hi => by
    obtain rfl : i = r := by omega
    have h1 := Nat.mul_le_mul hr hc
    have o := of_ev [(i : Int), (c : Int)] (grid i c fun i k => sm (F_ n c A B i k) n) (by rw [grid_len]; omega) (fun x hx => by
      obtain ⟨i, k, _, _, rfl⟩ := mem_grid hx
      exact Nat.le_trans (qsF oA oB hN hN' i k hn) (by decide))
    exact Ev.step (f := fun K => (rf5_Of.f K [(i : Int), (c : Int)] ((grid i c fun i k => sm (F_ n c A B i k) n).map rs)).bind fun b => some (b.1, b.2)) (fun K => by rw [rf6_MatMul.l0, if_pos (by omega), e0, if_neg (by omega), if_pos l2, e2]) (Ev.bind o (Ev.now _))
  | g + 1, i, hi => by
    have ih := m_l0 s s2 hA hB e0 l1 e2 l2 oA oB hN hN' hr hn hc g (i + 1) (by omega)
    have h1 := m_l1 s s2 hA hB e2 l2 oA oB hN hN' hr hn hc i (by omega) _ ih c 0 (by omega)
    rw [List.range_zero, List.map_nil, List.append_nil] at h1
    exact Ev.step (fun K => by rw [rf6_MatMul.l0, if_pos (by omega), e0, if_pos (by omega)]; rfl) h1
theorem m_ev {s s2 : List Int} (hA : A.length = r * n) (hB : B.length = n * c) (e0 : rd s 0 = (r : Int)) (e1 : rd s 1 = (n : Int)) (l1 : 1 < (s.length : Int)) (e2 : rd s2 1 = (c : Int)) (l2 : 1 < (s2.length : Int)) (oA : ∀ x ∈ A, qm x ≤ N) (oB : ∀ x ∈ B, qm x ≤ N) (hN : 1 ≤ N) (hN' : N ≤ 100000) (hr : r ≤ 70) (hn : n ≤ 70) (hc : c ≤ 70) : Ev (fun K => rf6_MatMul.f K s (tx A) s2 (tx B)) ([(r : Int), (c : Int)], tx (mm r n c A B)) :=
  Ev.congr (fun K => by rw [rf6_MatMul.f, if_pos l1, e1]; rfl) (m_l0 s s2 hA hB e0 l1 e2 l2 oA oB hN hN' hr hn hc r 0 (by omega))
end
theorem su_append : ∀ l m : List Rat, su (l ++ m) = su l + su m
  | [], m => by rw [List.nil_append, su_nil]; grind
  | x :: l, m => by rw [List.cons_append, su_cons, su_cons, su_append l m]; grind
theorem su_map (f : Nat → Rat) : ∀ n, su ((List.range n).map f) = sm f n
  | 0 => su_nil
  | n + 1 => by rw [List.range_succ, List.map_append, su_append, su_map f n, sm]; show _ + su [f n] = _; rw [su_cons, su_nil]; grind
theorem su_grid (c : Nat) (f : Nat → Nat → Rat) : ∀ r, su (grid r c f) = sm (fun i => sm (f i) c) r
  | 0 => su_nil
  | r + 1 => by rw [grid_succ, su_append, su_grid c f r, su_map, sm]
theorem su_at {r c : Nat} {A : List Rat} (hA : A.length = r * c) : su A = sm (fun i => sm (fun k => at_ A c i k) c) r := by
  conv => lhs; rw [← grid_eq hA]
  rw [su_grid]; rfl
theorem acc_inv : ∀ (d : List ByteArray), (∀ x ∈ d, x.size ≤ 40) → ∀ (a : ByteArray) (M : Nat), (a = ⟨#[]⟩ ∨ ∃ q, a = rt q ∧ qm q ≤ M) → (d.foldl (fun a x => (rAdd a x).1) a = ⟨#[]⟩ ∨ ∃ q, d.foldl (fun a x => (rAdd a x).1) a = rt q ∧ qm q ≤ M + d.length * 41)
  | [], _, a, M, h => by simpa using h
  | x :: d, hd, a, M, h => by
    have hx : x.size ≤ 40 := hd x List.mem_cons_self
    have key : (rAdd a x).1 = ⟨#[]⟩ ∨ ∃ q, (rAdd a x).1 = rt q ∧ qm q ≤ M + 41 := by
      rcases rv_cases a with na | ⟨y, ey, hy⟩
      · exact Or.inl (by simp [rAdd, na])
      · rcases rv_cases x with nx | ⟨z, ez, hz⟩
        · exact Or.inl (by simp [rAdd, hy, nx])
        · refine Or.inr ⟨y + z, by simp [rAdd, hy, hz], ?_⟩
          have hqz : qm z ≤ 40 := Nat.le_trans (qm_le z) (by rw [← ez]; exact hx)
          have hqy : qm y ≤ M := by
            rcases h with h | ⟨q, h, hq⟩
            · exact Nat.le_trans (qm_le y) (by rw [← ey, h]; exact Nat.zero_le _)
            · have e : rv (rt q) = some y := by rw [← h]; exact hy
              rw [rv_rt] at e
              injection e with e
              rw [← e]; exact hq
          have := qa hqy hqz
          omega
    have ih := acc_inv d (fun y hy => hd y (List.mem_cons_of_mem _ hy)) (rAdd a x).1 (M + 41) key
    rw [List.foldl_cons, List.length_cons]
    rcases ih with ih | ⟨q, ih, hq⟩
    · exact Or.inl ih
    · exact Or.inr ⟨q, ih, by omega⟩
theorem acc_small {d : List ByteArray} (hd : ∀ x ∈ d, x.size ≤ 40) (hl : d.length ≤ 1000) (p : Nat) : (accS (d.take p)).size ≤ 40000000000 := by
  have h := acc_inv (d.take p) (fun x hx => hd x (List.mem_of_mem_take hx)) ⟨#[48]⟩ 1 (Or.inr ⟨0, rt_0.symm, by decide +kernel⟩)
  have hn : (d.take p).length ≤ 1000 := Nat.le_trans (by rw [List.length_take]; omega) hl
  unfold accS
  rcases h with h | ⟨q, h, hq⟩
  · rw [h]; decide
  · rw [h]
    have := size_rt q
    omega
theorem at_one (n j : Nat) (h : j < n) : at_ (List.replicate n 1) 1 j 0 = 1 := by
  unfold at_
  rw [List.getD_eq_getElem?_getD, List.getElem?_replicate, if_pos (by omega)]; rfl
theorem mm_one {A : List Rat} {n : Nat} (hA : A.length = 1 * n) : mm 1 n 1 A (List.replicate n 1) = [su A] := by
  have e : mm 1 n 1 A (List.replicate n 1) = [sm (fun j => at_ A n 0 j * at_ (List.replicate n 1) 1 j 0) n] := rfl
  rw [e, su_at hA]
  congr 1
  show _ = 0 + _
  rw [sm_congr (g := fun j => at_ A n 0 j) (fun j hj => by rw [at_one n j hj]; grind)]
  grind
theorem rep_snoc (m : Nat) : tx (List.replicate m 1) ++ [(⟨#[49]⟩ : ByteArray)] = tx (List.replicate (m + 1) 1) := by
  rw [List.replicate_succ', tx_app, ← rt_1]; rfl
theorem l0_ev (z : List Int) (e f g : Int) (s : List Int) (d : List ByteArray) (rs' : List Int) (rd' : List ByteArray) (ts : List Int) (td : List ByteArray) (ps : List Int) (pd os : List ByteArray) (os' : List Int) (n : Nat) (hn : n ≤ 70) (v : Bool) (h0 : Ev (fun K => lw6_ArrayShapes.l0 K z e f g (n : Int) (n : Int) s d rs' rd' ts td ps pd os' (tx (List.replicate n 1))) v) :
    ∀ q i : Nat, i + q = n → Ev (fun K => lw6_ArrayShapes.l0 K z e f g (n : Int) (i : Int) s d rs' rd' ts td ps pd os' (tx (List.replicate i 1))) v
  | 0, i, hi => by
    obtain rfl : i = n := by omega
    exact h0
  | q + 1, i, hi => by
    have ih := l0_ev z e f g s d rs' rd' ts td ps pd os os' n hn v h0 q (i + 1) (by omega)
    exact Ev.step (fun K => by rw [lw6_ArrayShapes.l0, if_pos (by omega), if_pos (by rw [tx_len, List.length_replicate]; omega), rep_snoc, w1' (by omega)]) ih
theorem l1_ev (s : List Int) (x : ByteArray) (m : Nat) (hm : m ≤ 64) : ∀ q i : Nat, i + q = m → Ev (fun K => lw6_ArrayShapes.l1 K (List.replicate m x) (m : Int) (i : Int) s [x]) true
  | 0, i, hi => by
    obtain rfl : i = m := by omega
    exact Ev.step (f := fun _ => some true) (fun K => by rw [lw6_ArrayShapes.l1, if_neg (by omega), awake]; rfl) (Ev.now _)
  | q + 1, i, hi => by
    have ih := l1_ev s x m hm q (i + 1) (by omega)
    have e1 : rdOf ByteArray.empty (List.replicate m x) (i : Int) = x := by
      unfold rdOf
      rw [Int.toNat_natCast, List.getD_eq_getElem?_getD, List.getElem?_replicate, if_pos (by omega)]; rfl
    have e2 : rdOf ByteArray.empty [x] 0 = x := rfl
    exact Ev.step (fun K => by rw [lw6_ArrayShapes.l1, if_pos (by omega), if_pos (by omega), if_pos (by rw [List.length_replicate]; omega), if_pos (by show (0 : Int) < 1; decide), e1, e2, if_pos rfl, w1' (by omega)]) ih
theorem ArrayShapes (s : List Int) (d : List ByteArray) (z : List Int) : ∃ k, lw6_ArrayShapes.f k s d z = some true := by
  refine Ev.rounds ?_
  have ev1 : ∀ {g : Nat → Option Bool}, (∀ K, g (K + 1) = some true) → Ev g true := fun h => Ev.step (f := fun _ => some true) h (Ev.now _)
  have hz : Ev (fun K => lw6_ArrayShapes.j0 K z true s d) true := ev1 fun K => by rw [lw6_ArrayShapes.j0, if_pos rfl, awake]; rfl
  by_cases h1 : small ⟨s, d⟩ = true
  case neg => exact Ev.congr (fun K => by rw [lw6_ArrayShapes.f, rf5_Small.f, Option.bind_some, if_neg h1]) hz
  refine Ev.congr (f := fun K => lw6_ArrayShapes.j0 K z (decide ((z.length : Int) > 10)) s d) (fun K => by rw [lw6_ArrayShapes.f, rf5_Small.f, Option.bind_some, if_pos h1]) ?_
  by_cases h2 : (z.length : Int) > 10
  · rw [decide_eq_true h2]; exact hz
  rw [decide_eq_false h2]
  have m1 := (small_parts h1).1
  have zl : z.length ≤ 1000 := by omega
  refine Ev.step (f := fun K => if tRight ⟨s, d⟩ = true then lw6_ArrayShapes.l0 K z (tShape ⟨s, d⟩ z).2 (tTotal ⟨s, d⟩).2 (tSpread ⟨s, d⟩ z).2 (d.length : Int) 0 s d (tShape ⟨s, d⟩ z).1.s (tShape ⟨s, d⟩ z).1.d (tTotal ⟨s, d⟩).1.s (tTotal ⟨s, d⟩).1.d (tSpread ⟨s, d⟩ z).1.s (tSpread ⟨s, d⟩ z).1.d [(d.length : Int), 1] [] else (if wrap64 (wrap64 (((tShape ⟨s, d⟩ z).1.d.length : Int) + ((tTotal ⟨s, d⟩).1.d.length : Int)) + ((tSpread ⟨s, d⟩ z).1.d.length : Int)) = 0 then (if (tShape ⟨s, d⟩ z).2 = 1 then (if (tTotal ⟨s, d⟩).2 = (tShape ⟨s, d⟩ z).2 then (if (tSpread ⟨s, d⟩ z).2 = (tShape ⟨s, d⟩ z).2 then ((lw6_awake.f).bind fun t => some t) else some false) else some false) else some false) else some false)) (fun K => by
    rw [lw6_ArrayShapes.j0, if_neg (by decide), array_Reshape.of _ _ _ ⟨m1, zl⟩, Option.bind_some, array_Total.of _ _ ⟨m1, acc_small (small_parts h1).2 m1.2.1⟩, Option.bind_some, array_Spread.of _ _ _ ⟨m1, zl⟩, Option.bind_some, rf5_Right.of _ _ m1, Option.bind_some]) ?_
  rcases cases_t h1 with r1 | ⟨A, rfl, oA⟩
  · have a1 : tShape ⟨s, d⟩ z = (nilT, 1) := by unfold tShape; rw [if_neg (by simp [r1])]
    have a2 : tTotal ⟨s, d⟩ = (nilT, 1) := by unfold tTotal; rw [if_neg (by simp [r1])]
    have a3 : tSpread ⟨s, d⟩ z = (nilT, 1) := by unfold tSpread; rw [if_neg (by simp [r1])]
    refine Ev.congr (fun K => ?_) (Ev.now true)
    rw [r1, if_neg (by decide), a1, a2, a3]
    dsimp only
    rw [if_pos (by decide +kernel), if_pos rfl, if_pos rfl, if_pos rfl, awake]
    rfl
  rw [oA.right]
  have hl := oA.le64
  refine Ev.congr (fun K => if_pos rfl) ?_
  have et : tTotal ⟨s, tx A⟩ = (⟨[], [rt (su A)]⟩, 0) := by
    unfold tTotal
    rw [if_pos oA.right]
    dsimp only
    rw [accS_tx]
  rw [et, tx_len]
  have hA : A.length = 1 * A.length := by omega
  have q1 : ∀ x ∈ List.replicate A.length (1 : Rat), qm x ≤ 40 := fun x hx => by rw [List.eq_of_mem_replicate hx]; decide +kernel
  have hm := m_ev (s := [1, (A.length : Int)]) (s2 := [(A.length : Int), 1]) (r := 1) (c := 1) hA (by rw [List.length_replicate, Nat.mul_one] : (List.replicate A.length (1 : Rat)).length = A.length * 1) rfl rfl (show (1 : Int) < 2 by decide) rfl (show (1 : Int) < 2 by decide) oA.bd q1 (by decide) (by decide) (by decide) (by omega) (by decide)
  rw [mm_one hA] at hm
  refine l0_ev _ _ _ _ _ _ _ _ _ _ _ _ [] _ A.length (by omega) true ?_ A.length 0 (by omega)
  refine Ev.step (f := fun K => (rf6_MatMul.f K [1, (A.length : Int)] (tx A) [(A.length : Int), 1] (tx (List.replicate A.length 1))).bind fun b => (if (([] : List Int).length : Int) = 0 then (if (([rt (su A)] : List ByteArray).length : Int) = 1 then (if 0 < (([rt (su A)] : List ByteArray).length : Int) then (if 0 < (b.2.length : Int) then (if (rdOf ByteArray.empty [rt (su A)] 0).toList = (rdOf ByteArray.empty b.2 0).toList then lw6_ArrayShapes.j2 K z (tShape ⟨s, tx A⟩ z).2 (tSpread ⟨s, tx A⟩ z).2 ((0 : Int) != 0) s (tx A) (tShape ⟨s, tx A⟩ z).1.s (tShape ⟨s, tx A⟩ z).1.d (tSpread ⟨s, tx A⟩ z).1.s (tSpread ⟨s, tx A⟩ z).1.d else lw6_ArrayShapes.j2 K z (tShape ⟨s, tx A⟩ z).2 (tSpread ⟨s, tx A⟩ z).2 true s (tx A) (tShape ⟨s, tx A⟩ z).1.s (tShape ⟨s, tx A⟩ z).1.d (tSpread ⟨s, tx A⟩ z).1.s (tSpread ⟨s, tx A⟩ z).1.d) else none) else none) else lw6_ArrayShapes.j2 K z (tShape ⟨s, tx A⟩ z).2 (tSpread ⟨s, tx A⟩ z).2 true s (tx A) (tShape ⟨s, tx A⟩ z).1.s (tShape ⟨s, tx A⟩ z).1.d (tSpread ⟨s, tx A⟩ z).1.s (tSpread ⟨s, tx A⟩ z).1.d) else lw6_ArrayShapes.j2 K z (tShape ⟨s, tx A⟩ z).2 (tSpread ⟨s, tx A⟩ z).2 true s (tx A) (tShape ⟨s, tx A⟩ z).1.s (tShape ⟨s, tx A⟩ z).1.d (tSpread ⟨s, tx A⟩ z).1.s (tSpread ⟨s, tx A⟩ z).1.d)) (fun K => by rw [lw6_ArrayShapes.l0, if_neg (by omega), tx_len]) ?_
  refine Ev.bind hm ?_
  refine Ev.congr (f := fun K => lw6_ArrayShapes.j2 K z (tShape ⟨s, tx A⟩ z).2 (tSpread ⟨s, tx A⟩ z).2 false s (tx A) (tShape ⟨s, tx A⟩ z).1.s (tShape ⟨s, tx A⟩ z).1.d (tSpread ⟨s, tx A⟩ z).1.s (tSpread ⟨s, tx A⟩ z).1.d) (fun K => by
    have e1 : rdOf ByteArray.empty [rt (su A)] 0 = rt (su A) := rfl
    have e2 : rdOf ByteArray.empty (tx [su A]) 0 = rt (su A) := rfl
    dsimp only
    rw [if_pos (show (([] : List Int).length : Int) = 0 from rfl), if_pos (show (([rt (su A)] : List ByteArray).length : Int) = 1 from rfl), if_pos (by show (0 : Int) < 1; decide), if_pos (by show (0 : Int) < 1; decide), e1, e2, if_pos rfl]
    rfl) ?_
  by_cases h3 : shOk z = true
  case neg =>
    have a1 : tShape ⟨s, tx A⟩ z = (nilT, 1) := by unfold tShape; rw [if_pos oA.right, if_neg h3]
    have a3 : tSpread ⟨s, tx A⟩ z = (nilT, 1) := by unfold tSpread; rw [if_pos oA.right, if_neg h3]
    rw [a1, a3]
    rw [Bool.not_eq_true] at h3
    refine ev1 fun K => ?_
    rw [lw6_ArrayShapes.j2, if_neg (by decide), rf4_Right.f, h3, Option.bind_some, if_neg (by decide)]
    dsimp only
    rw [if_pos (by decide +kernel), if_pos rfl, if_pos rfl, awake]
    rfl
  -- what is reshaped
  have rsh : ∀ K g ps pd, lw6_ArrayShapes.j2 (K + 1) z (tShape ⟨s, tx A⟩ z).2 g false s (tx A) (tShape ⟨s, tx A⟩ z).1.s (tShape ⟨s, tx A⟩ z).1.d ps pd = lw6_ArrayShapes.j3 K z g (sz z) false s (tx A) ps pd := fun K g ps pd => by
    rw [lw6_ArrayShapes.j2, if_neg (by decide), rf4_Right.f, Option.bind_some, if_pos h3, rf4_Size.of _ h3, Option.bind_some]
    unfold tShape
    rw [if_pos oA.right, if_pos h3, size, if_pos h3]
    dsimp only
    by_cases h4 : sz z = ((tx A).length : Int)
    · rw [if_pos h4, if_pos h4]
      dsimp only
      rw [if_pos rfl, rf5_Equal.of _ _ _ _ ⟨by omega, by rw [tx_len]; omega⟩, Option.bind_some, decide_eq_true ⟨rfl, rfl⟩]
      rfl
    · rw [if_neg h4, if_neg h4]
      dsimp only
      rw [if_pos rfl, if_pos (show ((nilT.d).length : Int) = 0 from rfl)]
  refine Ev.step (fun K => rsh K _ _ _) ?_
  by_cases h5 : s.length = 0
  case neg =>
    have a3 : tSpread ⟨s, tx A⟩ z = (nilT, 4) := by unfold tSpread; rw [if_pos oA.right, if_pos h3, if_neg h5]
    rw [a3]
    refine ev1 fun K => ?_
    rw [lw6_ArrayShapes.j3, if_neg (by decide), if_neg (by omega), if_pos (show ((nilT.d).length : Int) = 0 from rfl), if_pos rfl, awake]
    rfl
  obtain rfl : s = [] := List.length_eq_zero_iff.1 h5
  have h6 : A.length = 1 := by
    have := oA.ln
    rw [show sz [] = 1 from rfl] at this
    omega
  obtain ⟨x, rfl⟩ := List.length_eq_one_iff.1 h6
  have hp := shOk_parts h3
  have hs1 := sz_pos hp.1
  obtain ⟨m, hm'⟩ := Int.eq_ofNat_of_zero_le (show 0 ≤ sz z by omega)
  have a3 : tSpread ⟨[], tx [x]⟩ z = (⟨z, List.replicate m (rt x)⟩, 0) := by
    unfold tSpread
    dsimp only
    rw [if_pos oA.right, if_pos h3, if_pos (by rfl), show rdOf ByteArray.empty (tx [x]) 0 = rt x from rfl, tfill h3, hm', Int.toNat_natCast, ← tx_rep]
  rw [a3, hm']
  have hm64 : m ≤ 64 := by omega
  refine Ev.step (f := fun K => lw6_ArrayShapes.j4 K false [] (tx [x]) z (List.replicate m (rt x))) (fun K => by
    rw [lw6_ArrayShapes.j3, if_neg (by decide)]
    dsimp only
    rw [if_pos (show (([] : List Int).length : Int) = 0 from rfl), if_pos (by rw [List.length_replicate]), rf4_Same.of _ _ zl, Option.bind_some, decide_eq_true rfl, if_pos rfl]
    rfl) ?_
  refine Ev.step (f := fun K => lw6_ArrayShapes.l1 K (List.replicate m (rt x)) (m : Int) 0 [] [rt x]) (fun K => by rw [lw6_ArrayShapes.j4, if_neg (by decide), List.length_replicate]; rfl) (l1_ev [] (rt x) m hm64 m 0 (by omega))
end Go.Proofs.YtmmonhgfnmeieaaGreatDoor.Pure
