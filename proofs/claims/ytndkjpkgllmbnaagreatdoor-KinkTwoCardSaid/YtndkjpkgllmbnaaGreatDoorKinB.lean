/- kink: of two tensors. -/
import Derived.Test.YtndkjpkgllmbnaaGreatDoorPJx
import Derived.Test.YtndkjpkgllmbnaaGreatDoorKinT
-- mini
namespace Go.Proofs.YtndkjpkgllmbnaaGreatDoor.Ten
open Go Go.RowKit Go.Extern.Stop Go.Stop Go.Extern Go.ZPWords Go.ZPMore Go.ZPLast Go.Proofs.YtndkjpkgllmbnaaGreatDoor.PJ Go.Proofs.YtndkjpkgllmbnaaGreatDoor.Th Go.Proofs.YtndkjpkgllmbnaaGreatDoor.Th.Wh Go.Proofs.YtndkjpkgllmbnaaGreatDoor.Err
set_option maxHeartbeats 4000000
set_option maxRecDepth 1000000
set_option linter.unusedVariables false
theorem zw_snoc (F : ByteArray → ByteArray → ByteArray) (d e : List ByteArray) (p : Nat) (h : p < d.length) (h' : p < e.length) : List.zipWith F (d.take p) (e.take p) ++ [F (rdOf ByteArray.empty d (p : Int)) (rdOf ByteArray.empty e (p : Int))] = List.zipWith F (d.take (p + 1)) (e.take (p + 1)) := by
  rw [List.take_succ_eq_append_getElem h, List.take_succ_eq_append_getElem h', List.zipWith_append (by rw [List.length_take, List.length_take]; omega)]
  simp [rdOf, List.getD, h, h']
theorem both_l0 (pick : ByteArray → ByteArray → Bool → ByteArray) (s s2 : List Int) (d e : List ByteArray) (hl : d.length ≤ 1000) (he : d.length = e.length) (hd : ∀ x ∈ d, x.size ≤ 40000000000) (hd' : ∀ x ∈ e, x.size ≤ 40000000000) : ∀ g p : Nat, p + g = d.length →
    kink_both.l0 pick (g + 1) d (d.length : Int) (p : Int) s2 e s (List.zipWith (kF pick) (d.take p) (e.take p)) = some (s, List.zipWith (kF pick) d e, 0) := by
  intro g
  induction g with
  | zero =>
    intro p hp;rw [kink_both.l0, if_neg (by omega), List.take_of_length_le (by omega), List.take_of_length_le (by omega)]
  | succ g ih =>
    intro p hp
    have hlt : p < d.length := by omega
    have hlt' : p < e.length := by omega
    have hw : wrap64 ((p : Int) + 1) = ((p + 1 : Nat) : Int) := by unfold wrap64; omega
    rw [kink_both.l0, if_pos (by omega), if_pos (by omega), if_pos (by omega), if_pos (by omega), rat_Compare.of _ _ (hd _ (rdOf_mem d p hlt)) (hd' _ (rdOf_mem e p hlt')), Option.bind_some, kink_pick.f, Option.bind_some, if_pos (by rw [List.length_zipWith, List.length_take, List.length_take]; omega), hw];have := zw_snoc (kF pick) d e p hlt hlt';unfold kF at this ⊢;rw [this];exact ih (p + 1) (by omega)
theorem both_f (pick : ByteArray → ByteArray → Bool → ByteArray) (s : List Int) (d : List ByteArray) (s2 : List Int) (d2 : List ByteArray) (h : Sm s d) (h' : Sm s2 d2) :
    kink_both.f pick (d.length + 1 + 1) s d s2 d2 = some ((tBoth pick ⟨s, d⟩ ⟨s2, d2⟩).1.s, (tBoth pick ⟨s, d⟩ ⟨s2, d2⟩).1.d, (tBoth pick ⟨s, d⟩ ⟨s2, d2⟩).2) := by
  rw [kink_both.f, tensor_Right.of _ _ h, Option.bind_some, tensor_Right.of _ _ h', Option.bind_some];unfold tBoth
  by_cases ht : tRight ⟨s, d⟩ = true
  · rw [if_pos ht, if_pos ht]
    by_cases hu : tRight ⟨s2, d2⟩ = true
    · rw [if_pos hu, hu, kink_both.j0, if_neg (by decide), shape_Same.of _ _ h.1, Option.bind_some]
      by_cases he : s = s2
      · have hl : d.length = d2.length := by
          have h1 := (tRight_sh ht).2;have h2 := (tRight_sh hu).2;dsimp only at h1 h2;rw [he] at h1
          omega
        have hs := h.1;rw [if_pos (decide_eq_true he), if_pos he, slices_Clone_int_int.of _ (by omega), Option.bind_some];exact both_l0 pick s s2 d d2 h.2.1 hl h.big h'.big d.length 0 (by omega)
      · rw [if_neg (by simpa using he), if_neg he]; rfl
    · rw [if_neg hu, kink_both.j0, if_pos (by simpa using hu)]; rfl
  · rw [if_neg ht, if_neg ht, kink_both.j0, if_pos rfl]; rfl
theorem kboth_calls (N : Nat) (fn : Func) (hfn : Tryz.prog.funcs[N]? = some fn) (hnm : (fn.name == "runtime.NumGoroutine") = false) (hbd : fn.body.isSome = true) (pick : ByteArray → ByteArray → Bool → ByteArray)
    (hF : ∀ a0 a1 a2 w, Calls Tryz.prog N #[.string a0, .string a1, .bool a2] w fun e w' => e = .returned (.string (pick a0 a1 a2)) ∧ Below w.heap.size w w')
    (A0 : Option Addr) (c0 : Nat) (A1 : Option Addr) (c1 : Nat) (s : List Int) (d : List ByteArray) (B0 : Option Addr) (e0 : Nat) (B1 : Option Addr) (e1 : Nat) (s2 : List Int) (d2 : List ByteArray) (w : World) (hG : Gs w)
    (hr0 : Kd.C (Kd.int .i64) w A0 s.length s) (hc0 : s.length ≤ c0) (hr1 : Kd.C Kd.string w A1 d.length d) (hc1 : d.length ≤ c1) (h : Sm s d) (ir0 : Kd.C (Kd.int .i64) w B0 s2.length s2) (ic0 : s2.length ≤ e0) (ir1 : Kd.C Kd.string w B1 d2.length d2) (ic1 : d2.length ≤ e1) (i : Sm s2 d2) :
    Calls Tryz.prog 29 #[.agg #[.slice A0 s.length c0, .slice A1 d.length c1], .agg #[.slice B0 s2.length e0, .slice B1 d2.length e1], .func (.func N) #[] #[]] w (Res w (tBoth pick ⟨s, d⟩ ⟨s2, d2⟩)) :=
  kink_both.calls N fn hfn hnm hbd pick (fun a0 a1 a2 r w h => by rw [kink_pick.f] at h; injection h with h; subst h; exact hF a0 a1 a2 w) (d.length + 1 + 1) A0 c0 s A1 c1 d B0 e0 s2 B1 e1 d2 _ _ _ w hG hr0 hc0 hr1 hc1 ir0 ic0 ir1 ic1 (both_f pick s d s2 d2 h i)
theorem max1_calls (x y : ByteArray) (b : Bool) (w : World) : Calls Tryz.prog 30 #[.string x, .string y, .bool b] w fun e w' => e = .returned (.string (pMax x y b)) ∧ Below w.heap.size w w' := by
  have HB := A_ (Below.refl w.heap.size w)
  cases b
  all_goals
    go_enter Tryz.func30, Tryz.ntmps30
    go_wp2
    go_ret
    exact ⟨rfl, HB.out⟩
theorem above1_calls (x y : ByteArray) (b : Bool) (w : World) : Calls Tryz.prog 45 #[.string x, .string y, .bool b] w fun e w' => e = .returned (.string (pAbove x y b)) ∧ Below w.heap.size w w' := by
  have HB := A_ (Below.refl w.heap.size w)
  cases b
  all_goals
    go_enter Tryz.func45, Tryz.ntmps45
    go_wp2
    go_ret
    exact ⟨rfl, HB.out⟩
theorem max_calls (A0 : Option Addr) (c0 : Nat) (A1 : Option Addr) (c1 : Nat) (s : List Int) (d : List ByteArray) (B0 : Option Addr) (e0 : Nat) (B1 : Option Addr) (e1 : Nat) (s2 : List Int) (d2 : List ByteArray) (w : World) (hG : Gs w)
    (hr0 : Kd.C (Kd.int .i64) w A0 s.length s) (hc0 : s.length ≤ c0) (hr1 : Kd.C Kd.string w A1 d.length d) (hc1 : d.length ≤ c1) (h : Sm s d) (ir0 : Kd.C (Kd.int .i64) w B0 s2.length s2) (ic0 : s2.length ≤ e0) (ir1 : Kd.C Kd.string w B1 d2.length d2) (ic1 : d2.length ≤ e1) (i : Sm s2 d2) :
    Calls Tryz.prog 13 #[.agg #[.slice A0 s.length c0, .slice A1 d.length c1], .agg #[.slice B0 s2.length e0, .slice B1 d2.length e1]] w (Res w (tBoth pMax ⟨s, d⟩ ⟨s2, d2⟩)) := by
  have KE := A_ (fun (W : World) (hb : Below w.heap.size w W) => kboth_calls 30 _ Tryz.func30 (by kernel_rfl) rfl pMax max1_calls A0 c0 A1 c1 s d B0 e0 B1 e1 s2 d2 W (hG.below hb) (Kd.C_below hr0 hb) hc0 (Kd.C_below hr1 hb) hc1 h (Kd.C_below ir0 hb) ic0 (Kd.C_below ir1 hb) ic1 i);have HB := A_ (Below.refl w.heap.size w);clear hG hr0 hc0 hr1 hc1 h ir0 ic0 ir1 ic1 i;generalize tBoth pMax ⟨s, d⟩ ⟨s2, d2⟩ = q at *;generalize s.length = n0 at *;generalize d.length = n1 at *;generalize s2.length = n2 at *;generalize d2.length = n3 at *;obtain ⟨⟨rs, rd⟩, re⟩ := q;unfold Res at *;dsimp only at *;go_enter Tryz.func13, Tryz.ntmps13
  go_wp2_with (first
    | (refine BX_ 2 #[.slice A0 n0 c0, .slice A1 n1 c1] 25 ?_; intro g2 hg w2 hbox hb; have BK2 := A_ hbox; replace HB := BT_ hb; clear hb hbox hg)
    | (refine BX_ 3 #[.slice B0 n2 e0, .slice B1 n3 e1] 25 ?_; intro g3 hg w3 hbox hb; have BK3 := A_ hbox; have NE2_3 := NB_ BK2 hg; replace BK2 := BF_ BK2 hb; replace HB := BT_ hb; clear hb hbox hg)
    | (refine BX_ 4 #[.slice none 0 0, .slice none 0 0] 25 ?_; intro g4 hg w4 hbox hb; have BK4 := A_ hbox; have GE4 := GE_ (w := w) hg; have NE2_4 := NB_ BK2 hg; replace BK2 := BF_ BK2 hb; have NE3_4 := NB_ BK3 hg; replace BK3 := BF_ BK3 hb; replace HB := BT_ hb; clear hb hbox hg; have hne := NE2_4.out; have hne3 := NE3_4.out; have hf40 := blk_frozen BK4.out 0; have hf41 := blk_frozen BK4.out 1; have hz4_0 := CA_ BK2; have hz4_1 := CB_ BK2; have hz4_2 := CA_ BK3; have hz4_3 := CB_ BK3; have hz4_4 := CA_ BK4; have hz4_5 := CB_ BK4)
    | (go_at_call 29; with_reducible refine (KE.out _ T6_).mono ?_; rintro e w7 ⟨v0, v1, rfl, h0, h1, hb⟩; replace BK4 := BF_ BK4 hb; obtain ⟨Av, av, rfl⟩ := Kd.R_slice h0; obtain ⟨Bv, bv, rfl⟩ := Kd.R_slice h1; have HO0 := A_ (Kd.R_lower h0 (below_size T6_)); have HO1 := A_ (Kd.R_lower h1 (below_size T6_)); clear h0 h1; generalize rs.length = m0 at *; generalize rd.length = m1 at *; replace HB := BT_ hb; clear hb; obtain ⟨hyw7_0, hyw7_1, hr0, hr1⟩ := CF_ BK4))
  refine bodyPost_ret (results_ct rfl _ _ g4 25 #[.slice Av m0 av, .slice Bv m1 bv] (0, 0) _ rfl (blk_put (blk_put BK4.out 0 (.slice Av m0 av) rfl) 1 (.slice Bv m1 bv) rfl) Tryz.underlying25 rfl (by kernel_rfl)) rfl ?_;exact ⟨_, _, rfl, row_set2 HO0.out rfl BK4.out (by decide) _ _ _ _, row_set2 HO1.out rfl BK4.out (by decide) _ _ _ _, below_set (below_set HB.out GE4.out) GE4.out⟩
theorem above_calls (A0 : Option Addr) (c0 : Nat) (A1 : Option Addr) (c1 : Nat) (s : List Int) (d : List ByteArray) (B0 : Option Addr) (e0 : Nat) (B1 : Option Addr) (e1 : Nat) (s2 : List Int) (d2 : List ByteArray) (w : World) (hG : Gs w)
    (hr0 : Kd.C (Kd.int .i64) w A0 s.length s) (hc0 : s.length ≤ c0) (hr1 : Kd.C Kd.string w A1 d.length d) (hc1 : d.length ≤ c1) (h : Sm s d) (ir0 : Kd.C (Kd.int .i64) w B0 s2.length s2) (ic0 : s2.length ≤ e0) (ir1 : Kd.C Kd.string w B1 d2.length d2) (ic1 : d2.length ≤ e1) (i : Sm s2 d2) :
    Calls Tryz.prog 22 #[.agg #[.slice A0 s.length c0, .slice A1 d.length c1], .agg #[.slice B0 s2.length e0, .slice B1 d2.length e1]] w (Res w (tBoth pAbove ⟨s, d⟩ ⟨s2, d2⟩)) := by
  have KE := A_ (fun (W : World) (hb : Below w.heap.size w W) => kboth_calls 45 _ Tryz.func45 (by kernel_rfl) rfl pAbove above1_calls A0 c0 A1 c1 s d B0 e0 B1 e1 s2 d2 W (hG.below hb) (Kd.C_below hr0 hb) hc0 (Kd.C_below hr1 hb) hc1 h (Kd.C_below ir0 hb) ic0 (Kd.C_below ir1 hb) ic1 i);have HB := A_ (Below.refl w.heap.size w);clear hG hr0 hc0 hr1 hc1 h ir0 ic0 ir1 ic1 i;generalize tBoth pAbove ⟨s, d⟩ ⟨s2, d2⟩ = q at *;generalize s.length = n0 at *;generalize d.length = n1 at *;generalize s2.length = n2 at *;generalize d2.length = n3 at *;obtain ⟨⟨rs, rd⟩, re⟩ := q;unfold Res at *;dsimp only at *;go_enter Tryz.func22, Tryz.ntmps22
  go_wp2_with (first
    | (refine BX_ 2 #[.slice A0 n0 c0, .slice A1 n1 c1] 25 ?_; intro g2 hg w2 hbox hb; have BK2 := A_ hbox; replace HB := BT_ hb; clear hb hbox hg)
    | (refine BX_ 3 #[.slice B0 n2 e0, .slice B1 n3 e1] 25 ?_; intro g3 hg w3 hbox hb; have BK3 := A_ hbox; have NE2_3 := NB_ BK2 hg; replace BK2 := BF_ BK2 hb; replace HB := BT_ hb; clear hb hbox hg)
    | (refine BX_ 4 #[.slice none 0 0, .slice none 0 0] 25 ?_; intro g4 hg w4 hbox hb; have BK4 := A_ hbox; have GE4 := GE_ (w := w) hg; have NE2_4 := NB_ BK2 hg; replace BK2 := BF_ BK2 hb; have NE3_4 := NB_ BK3 hg; replace BK3 := BF_ BK3 hb; replace HB := BT_ hb; clear hb hbox hg; have hne := NE2_4.out; have hne3 := NE3_4.out; have hf40 := blk_frozen BK4.out 0; have hf41 := blk_frozen BK4.out 1; have hz4_0 := CA_ BK2; have hz4_1 := CB_ BK2; have hz4_2 := CA_ BK3; have hz4_3 := CB_ BK3; have hz4_4 := CA_ BK4; have hz4_5 := CB_ BK4)
    | (go_at_call 29; with_reducible refine (KE.out _ T6_).mono ?_; rintro e w7 ⟨v0, v1, rfl, h0, h1, hb⟩; replace BK4 := BF_ BK4 hb; obtain ⟨Av, av, rfl⟩ := Kd.R_slice h0; obtain ⟨Bv, bv, rfl⟩ := Kd.R_slice h1; have HO0 := A_ (Kd.R_lower h0 (below_size T6_)); have HO1 := A_ (Kd.R_lower h1 (below_size T6_)); clear h0 h1; generalize rs.length = m0 at *; generalize rd.length = m1 at *; replace HB := BT_ hb; clear hb; obtain ⟨hyw7_0, hyw7_1, hr0, hr1⟩ := CF_ BK4))
  refine bodyPost_ret (results_ct rfl _ _ g4 25 #[.slice Av m0 av, .slice Bv m1 bv] (0, 0) _ rfl (blk_put (blk_put BK4.out 0 (.slice Av m0 av) rfl) 1 (.slice Bv m1 bv) rfl) Tryz.underlying25 rfl (by kernel_rfl)) rfl ?_;exact ⟨_, _, rfl, row_set2 HO0.out rfl BK4.out (by decide) _ _ _ _, row_set2 HO1.out rfl BK4.out (by decide) _ _ _ _, below_set (below_set HB.out GE4.out) GE4.out⟩
end Go.Proofs.YtndkjpkgllmbnaaGreatDoor.Ten
