/- ArrayRows: the plain law. -/
import Derived.Test.YtmmonhgfnmeieaaGreatDoorArrV
import Derived.Test.YtmmonhgfnmeieaaGreatDoorPQRx
namespace Go.Proofs.YtmmonhgfnmeieaaGreatDoor.Pure
open Go Go.RowKit Go.ZPWords Go.Proofs.YtmmonhgfnmeieaaGreatDoor.PQR Go.Proofs.YtmmonhgfnmeieaaGreatDoor.Err Go.Proofs.YtmmonhgfnmeieaaGreatDoor.Th Go.Proofs.YtmmonhgfnmeieaaGreatDoor.Ten
set_option linter.unusedVariables false
theorem awake : lw6_awake.f = some true := rfl
theorem su_append : ∀ l m : List Rat, su (l ++ m) = su l + su m
  | [], m => by rw [List.nil_append, su_nil]; grind
  | x :: l, m => by rw [List.cons_append, su_cons, su_cons, su_append l m]; grind
theorem su_map (f : Nat → Rat) : ∀ n, su ((List.range n).map f) = sm f n
  | 0 => su_nil
  | n + 1 => by rw [List.range_succ, List.map_append, su_append, su_map f n, sm]; show _ + su [f n] = _; rw [su_cons, su_nil]; grind
theorem su_grid (c : Nat) (f : Nat → Nat → Rat) : ∀ r, su (grid r c f) = sm (fun i => sm (f i) c) r
  | 0 => su_nil
  | r + 1 => by rw [grid_succ, su_append, su_grid c f r, su_map, sm]
theorem su_at {r c : Nat} {A : List Rat} (hA : A.length = r * c) : su A = sm (fun i => sm (fun k => at_ A c i k) c) r := by
  conv => lhs; rw [← grid_eq hA]
  rw [su_grid]; rfl
theorem at_rep (m c i k : Nat) (h : i * c + k < m) : at_ (List.replicate m 1) c i k = 1 := by
  unfold at_
  rw [List.getD_eq_getElem?_getD, List.getElem?_replicate, if_pos h]; rfl
theorem sm_ext {f g : Nat → Rat} (n : Nat) (h : ∀ j, j < n → f j = g j) : sm f n = sm g n := sm_congr h
theorem ones_all {r c : Nat} {A : List Rat} (hA : A.length = r * c) : mm 1 c 1 (mm 1 r c (List.replicate r 1) A) (List.replicate c 1) = [su A] := by
  have e : mm 1 c 1 (mm 1 r c (List.replicate r 1) A) (List.replicate c 1) = [sm (fun j => at_ (mm 1 r c (List.replicate r 1) A) c 0 j * at_ (List.replicate c 1) 1 j 0) c] := rfl
  rw [e, su_at hA]
  congr 1
  rw [sm_swap]
  refine sm_ext c fun j hj => ?_
  rw [at_mm (by decide) hj, at_rep c 1 j 0 (by omega)]
  rw [sm_ext (g := fun i => at_ A c i j) r (fun i hi => by rw [at_rep r r 0 i (by omega)]; grind)]
  grind
theorem sh_1 {r c : Nat} (h : shOk [(r : Int), (c : Int)] = true) (hc : 1 ≤ c) : shOk [1, (r : Int)] = true ∧ shOk [(r : Int), 1] = true := by
  have h2 := shOk_parts h
  rw [sz2] at h2
  have hr := h2.1
  rw [List.all_cons, Bool.and_eq_true, in64_iff] at hr
  have a : shOk [((1 : Nat) : Int), (r : Int)] = true := by
    unfold shOk
    rw [sz2]
    have e : in64 (r : Int) = true := in64_iff.2 hr.1
    rw [List.all_cons, List.all_cons, e]
    simp only [List.all_nil, List.length_cons, List.length_nil]
    rw [decide_eq_true (show ((1 * r : Nat) : Int) ≤ 64 by rw [Nat.one_mul]; exact hr.1.2)]
    rfl
  exact ⟨a, shOk_swap a⟩
theorem ok_ones {s : List Int} (h : shOk s = true) {m : Nat} (hm : sz s = (m : Int)) : Ok s (List.replicate m 1) 40 := ⟨h, by rw [List.length_replicate, hm], fun x hx => by rw [List.eq_of_mem_replicate hx]; decide +kernel⟩
theorem rep_snoc (m : Nat) : tx (List.replicate m 1) ++ [(⟨#[49]⟩ : ByteArray)] = tx (List.replicate (m + 1) 1) := by
  rw [List.replicate_succ', tx_app, ← rt_1]; rfl
theorem l0_ev (s : List Int) (d : List ByteArray) (rs cs : List Int) (r : Nat) (hr : r ≤ 64) (v : Bool) (h0 : Ev (fun K => lw6_ArrayRows.l0 K (r : Int) (r : Int) s d rs (tx (List.replicate r 1)) cs) v) :
    ∀ g i : Nat, i + g = r → Ev (fun K => lw6_ArrayRows.l0 K (r : Int) (i : Int) s d rs (tx (List.replicate i 1)) cs) v
  | 0, i, hi => by obtain rfl : i = r := by omega
                   exact h0
  | g + 1, i, hi => by
    have ih := l0_ev s d rs cs r hr v h0 g (i + 1) (by omega)
    exact Ev.step (fun K => by rw [lw6_ArrayRows.l0, if_pos (by omega), if_pos (by rw [tx_len, List.length_replicate]; omega), rep_snoc, w1 (by omega)]) ih
theorem l1_ev (s : List Int) (d : List ByteArray) (rs : List Int) (rd' : List ByteArray) (cs : List Int) (c : Nat) (hc : c ≤ 64) (v : Bool) (h0 : Ev (fun K => lw6_ArrayRows.l1 K (c : Int) (c : Int) s d rs rd' cs (tx (List.replicate c 1))) v) :
    ∀ g i : Nat, i + g = c → Ev (fun K => lw6_ArrayRows.l1 K (c : Int) (i : Int) s d rs rd' cs (tx (List.replicate i 1))) v
  | 0, i, hi => by obtain rfl : i = c := by omega
                   exact h0
  | g + 1, i, hi => by
    have ih := l1_ev s d rs rd' cs c hc v h0 g (i + 1) (by omega)
    exact Ev.step (fun K => by rw [lw6_ArrayRows.l1, if_pos (by omega), if_pos (by rw [tx_len, List.length_replicate]; omega), rep_snoc, w1 (by omega)]) ih
theorem ArrayRows (s : List Int) (d : List ByteArray) : ∃ k, lw6_ArrayRows.f k s d = some true := by
  have hz : lw6_ArrayRows.j0 (0 + 1) true s d = some true := by rw [lw6_ArrayRows.j0, if_pos rfl, awake]; rfl
  by_cases h1 : small ⟨s, d⟩ = true
  case neg => exact ⟨0 + 1, by rw [lw6_ArrayRows.f, rf5_Small.f, Option.bind_some, if_neg h1]; exact hz⟩
  have m1 := (small_parts h1).1
  rcases cases_t h1 with r1 | ⟨A, rfl, oA⟩
  · exact ⟨0 + 1, by rw [lw6_ArrayRows.f, rf5_Small.f, Option.bind_some, if_pos h1, rf5_Right.of _ _ m1, Option.bind_some, r1, if_neg (by decide)]; exact hz⟩
  have st : ∀ k, lw6_ArrayRows.f k s (tx A) = lw6_ArrayRows.j0 k ((s.length : Int) != 2) s (tx A) := fun k => by rw [lw6_ArrayRows.f, rf5_Small.f, Option.bind_some, if_pos h1, rf5_Right.of _ _ m1, Option.bind_some, oA.right, if_pos rfl]
  by_cases h2 : (s.length : Int) = 2
  case neg => exact ⟨0 + 1, by rw [st, bne_iff_ne.2 h2]; exact hz⟩
  obtain ⟨x, y, rfl⟩ := two_of (show s.length = 2 by omega)
  obtain ⟨r, c, rfl, rfl, hr, hc, r1, c1, la⟩ := two_ok oA
  have e0 : rd [(r : Int), (c : Int)] 0 = (r : Int) := rfl
  have e1 : rd [(r : Int), (c : Int)] 1 = (c : Int) := rfl
  have s1 := sh_1 oA.sh c1
  have s2 := sh_1 (shOk_swap oA.sh) r1
  have oR : Ok [((1 : Nat) : Int), (r : Int)] (List.replicate r 1) 40 := ok_ones s1.1 (by show sz [((1 : Nat) : Int), (r : Int)] = _; rw [sz2, Nat.one_mul])
  have oC : Ok [(c : Int), ((1 : Nat) : Int)] (List.replicate c 1) 40 := ok_ones s2.2 (by show sz [(c : Int), ((1 : Nat) : Int)] = _; rw [sz2, Nat.mul_one])
  have om : Ok [((1 : Nat) : Int), (c : Int)] _ _ := ok_mm oR oA (by decide) hr s2.1
  have hs11 : shOk [((1 : Nat) : Int), ((1 : Nat) : Int)] = true := by decide +kernel
  have on := ok_mm om (oC.mono (M := 64 * (2 * 40 + 1) + 1) (by decide)) (by decide) hc hs11
  have fin : Ev (fun K => lw6_ArrayRows.l1 K (c : Int) (c : Int) [(r : Int), (c : Int)] (tx A) [((1 : Nat) : Int), (r : Int)] (tx (List.replicate r 1)) [(c : Int), ((1 : Nat) : Int)] (tx (List.replicate c 1))) true := by
    refine Ev.step (f := fun _ => some true) (fun K => ?_) (Ev.now _)
    have et : tTotal ⟨[(r : Int), (c : Int)], tx A⟩ = (⟨[], [rt (su A)]⟩, 0) := by
      unfold tTotal
      rw [if_pos oA.right]
      dsimp only
      rw [accS_tx]
    rw [lw6_ArrayRows.l1, if_neg (by omega), array_MatMul.of _ _ _ _ ⟨oR.sm1 (by decide), small_sm1 h1⟩, Option.bind_some, tmat_ok oR oA s2.1]
    dsimp only
    rw [array_MatMul.of _ _ _ _ ⟨om.sm1 (by decide), oC.sm1 (by decide)⟩, Option.bind_some, tmat_ok om oC hs11, array_Total.of _ _ ⟨m1, oA.acc (by decide)⟩, Option.bind_some, et, ones_all la]
    dsimp only
    have ex : rdOf ByteArray.empty (tx [su A]) 0 = rt (su A) := rfl
    have ey : rdOf ByteArray.empty [rt (su A)] 0 = rt (su A) := rfl
    rw [if_pos rfl, if_pos rfl, if_pos rfl, if_pos (by rfl), if_pos (by rfl), if_pos (by show (0 : Int) < 1; decide), if_pos (by show (0 : Int) < 1; decide), ex, ey, if_pos rfl, awake]
    rfl
  have f1 := l1_ev [(r : Int), (c : Int)] (tx A) [((1 : Nat) : Int), (r : Int)] (tx (List.replicate r 1)) [(c : Int), ((1 : Nat) : Int)] c hc true fin c 0 (by omega)
  have f2 : Ev (fun K => lw6_ArrayRows.l0 K (r : Int) (r : Int) [(r : Int), (c : Int)] (tx A) [((1 : Nat) : Int), (r : Int)] (tx (List.replicate r 1)) [(c : Int), ((1 : Nat) : Int)]) true :=
    Ev.step (fun K => by rw [lw6_ArrayRows.l0, if_neg (by omega), if_pos (by show (1 : Int) < 2; decide), e1]; rfl) f1
  obtain ⟨K, hK⟩ := (l0_ev _ _ _ _ r hr true f2 r 0 (by omega)).rounds
  refine ⟨K + 1, ?_⟩
  rw [st, show (([(r : Int), (c : Int)].length : Int) != 2) = false from rfl, lw6_ArrayRows.j0, if_neg (by decide), if_pos (by show (0 : Int) < 2; decide), if_pos (by show (1 : Int) < 2; decide), e0, e1]
  exact hK
end Go.Proofs.YtmmonhgfnmeieaaGreatDoor.Pure
