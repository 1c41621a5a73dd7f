/- tensor.Scale and tensor.Power: the walks. -/
import Derived.Test.YtlglpffoijdgbaaGreatDoorTenB
import Derived.Test.YtlglpffoijdgbaaGreatDoorTenT
-- mini
namespace Go.Proofs.YtlglpffoijdgbaaGreatDoor.Ten
open Go Go.RowKit Go.Extern.Stop Go.Stop Go.Extern Go.ZPWords Go.ZPMore Go.ZPLast Go.Proofs.YtlglpffoijdgbaaGreatDoor.PC Go.Proofs.YtlglpffoijdgbaaGreatDoor.Th Go.Proofs.YtlglpffoijdgbaaGreatDoor.Th.Wh Go.Proofs.YtlglpffoijdgbaaGreatDoor.Err
set_option maxHeartbeats 4000000
set_option maxRecDepth 1000000
set_option linter.unusedVariables false
theorem scale1_calls (i : Int) (x : ByteArray) (k : ByteArray) (g : Nat) (w : World) (hG : Gs w) (hx : x.size ≤ 40000000000) (hk : k.size ≤ 40000000000) (hc : w.cell? ⟨g, 0, none⟩ = some (.string k)) :
    Calls Tryz.prog 45 #[.int .i64 i, .string x, .pointer (some ⟨g, 0, none⟩)] w fun e w' => e = .returned (.tuple #[.string (rMul x k).1, .int .i64 (rMul x k).2]) ∧ Below w.heap.size w w' := by
 have KM := A_ (mul_calls x k hx hk w hG);clear hG hx hk;generalize rMul x k = r at *;go_enter Tryz.func45, Tryz.ntmps45;go_wp2_with (go_at_call 21; with_reducible refine KM.out.mono ?_; rintro e w' ⟨rfl, hb⟩; have HB := A_ hb; clear hb);go_ret2;exact ⟨rfl, HB.out⟩
theorem scale_all (A0 : Option Addr) (c0 : Nat) (A1 : Option Addr) (c1 : Nat) (s : List Int) (d : List ByteArray) (k : ByteArray) (r : Int) (r0 : List Int) (r1 : List ByteArray) (w : World) (hG : Gs w) (hr0 : Kd.C (Kd.int .i64) w A0 s.length s) (hc0 : s.length ≤ c0) (hr1 : Kd.C Kd.string w A1 d.length d) (hs : s.length ≤ 1000) (hl : d.length ≤ 1000) (hd : ∀ x ∈ d, x.size ≤ 40000000000) (hk : k.size ≤ 40000000000) (hc : (tRight ⟨s, d⟩ = false ∧ r = 1 ∧ r0 = [] ∧ r1 = []) ∨ (tRight ⟨s, d⟩ = true ∧ rRight k = false ∧ r = 1 ∧ r0 = [] ∧ r1 = []) ∨ (tRight ⟨s, d⟩ = true ∧ rRight k = true ∧ (∀ x ∈ d, (rMul x k).2 = 0) ∧ r = 0 ∧ s = r0 ∧ r1 = ((List.range d.length).map fun (i : Nat) => (rMul (rdOf ByteArray.empty d (i : Int)) k).1))) :
    Calls Tryz.prog 20 #[.agg #[.slice A0 s.length c0, .slice A1 d.length c1], .string k] w fun e w' => ∃ v0_ v1_ : Value, e = .returned (.tuple #[.agg #[v0_, v1_], .int .i64 r]) ∧ Kd.R (Kd.int .i64) 3 w' w.heap.size (fun _ => True) v0_ r0 ∧ Kd.R Kd.string 9 w' w.heap.size (fun _ => True) v1_ r1 ∧ Below w.heap.size w w' := by
 have KR := A_ (fun (W : World) (hb : Below w.heap.size w W) => tright_calls A0 c0 A1 c1 ⟨s, d⟩ W (hG.below hb) (Kd.C_below hr0 hb) hc0 (Kd.C_below hr1 hb) hs hl hd);have KK := A_ (fun (W : World) (hb : Below w.heap.size w W) => right_calls k hk W (hG.below hb));have HB := A_ (Below.refl w.heap.size w);rcases hc with ⟨ht, rfl, rfl, rfl⟩ | ⟨ht, hkr, rfl, rfl, rfl⟩ | ⟨ht, hkr, ho, rfl, rfl, rfl⟩
 all_goals
  first
   | have KE := A_ (fun (W : World) (g : Nat) (hb : Below w.heap.size w W) (hc : W.cell? ⟨g, 0, none⟩ = some (.string k)) => each_calls 45 _ Tryz.func45 (by kernel_rfl) rfl #[.pointer (some ⟨g, 0, none⟩)] (fun i => (rMul (rdOf ByteArray.empty d (i : Int)) k).1) A0 c0 A1 c1 ⟨s, d⟩ W (Kd.C_below hr0 hb) (Kd.C_below hr1 hb) hs hl (fun i hi W2 hb2 => by
    have h := scale1_calls (i : Int) (rdOf ByteArray.empty d (i : Int)) k g W2 ((hG.below hb).below hb2) (hd _ (rdOf_mem d i hi)) hk (cell_below hb2 hc);rw [ho _ (rdOf_mem d i hi)] at h;exact h))
   | have KE := A_ True.intro
  rw [ht] at KR
  (try rw [hkr] at KK)
  clear hG hr0 hc0 hr1 hs hl hd ht hk
  (try clear hkr)
  (try clear ho)
  dsimp only at *;go_enter Tryz.func20, Tryz.ntmps20
  go_wp2_with (first
   | (refine BX_ 2 #[.slice A0 s.length c0, .slice A1 d.length c1] 25 ?_; intro g2 hg w2 hbox hb; have BK2 := A_ hbox; replace HB := BT_ hb; clear hb hbox hg)
   | (refine BX_ 3 #[.string k] 9 ?_; intro g3 hg w3 hbox hb; have BK3 := A_ hbox; have NE2_3 := NB_ BK2 hg; replace BK2 := BF_ BK2 hb; replace HB := BT_ hb; clear hb hbox hg)
   | (refine BX_ 4 #[.slice none 0 0, .slice none 0 0] 25 ?_; intro g4 hg w4 hbox hb; have BK4 := A_ hbox; have GE4 := GE_ (w := w) hg; have NE2_4 := NB_ BK2 hg; replace BK2 := BF_ BK2 hb; have NE3_4 := NB_ BK3 hg; replace BK3 := BF_ BK3 hb; replace HB := BT_ hb; clear hb hbox hg; have hne := NE2_4.out; have hf40 := blk_frozen BK4.out 0; have hf41 := blk_frozen BK4.out 1; have hz4_0 := CA_ BK2; have hz4_1 := CB_ BK2; have hz4_2 := CA_ BK4; have hz4_3 := CB_ BK4)
   | (go_at_call 15; with_reducible refine (KR.out _ T6_).mono ?_; rintro e w5 ⟨rfl, hb⟩; replace BK2 := BF_ BK2 hb; replace BK3 := BF_ BK3 hb; replace BK4 := BF_ BK4 hb; replace HB := BT_ hb; clear hb; have hyw5_0 := CA_ BK2; have hyw5_1 := CB_ BK2; have hyw5_2 : w5.cell? ⟨g3, 0, none⟩ = some (.string k) := (blk_cell BK3.out 0).trans rfl; obtain ⟨hyw5_3, hyw5_4, hq0, hq1⟩ := CF_ BK4)
   | (go_at_call 43; with_reducible refine (KK.out _ T6_).mono ?_; rintro e w6 ⟨rfl, hb⟩; replace BK2 := BF_ BK2 hb; replace BK3 := BF_ BK3 hb; replace BK4 := BF_ BK4 hb; replace HB := BT_ hb; clear hb; have hyw6_0 := CA_ BK2; have hyw6_1 := CB_ BK2; obtain ⟨hyw6_2, hyw6_3, hp0, hp1⟩ := CF_ BK4; have hk6 : w6.cell? ⟨g3, 0, none⟩ = some (.string k) := (blk_cell BK3.out 0).trans rfl)
   | (go_at_call 37; with_reducible refine (KE.out _ g3 T6_ (by assumption)).mono ?_; rintro e w7 ⟨v0, v1, rfl, h0, h1, hb⟩; replace BK4 := BF_ BK4 hb; obtain ⟨Av, av, rfl⟩ := Kd.R_slice h0; obtain ⟨Bv, bv, rfl⟩ := Kd.R_slice h1; have HO0 := A_ (Kd.R_lower h0 (below_size T6_)); have HO1 := A_ (Kd.R_lower h1 (below_size T6_)); clear h0 h1; generalize List.length (List.map _ (List.range d.length)) = q at *; replace HB := BT_ hb; clear hb; obtain ⟨hyw7_0, hyw7_1, hr0, hr1⟩ := CF_ BK4))
  first
   | (refine bodyPost_ret (results_ct rfl _ _ g4 25 #[.slice Av s.length av, .slice Bv q bv] (0, 0) _ rfl (blk_put (blk_put BK4.out 0 (.slice Av s.length av) rfl) 1 (.slice Bv q bv) rfl) Tryz.underlying25 rfl (by kernel_rfl)) rfl ?_; exact ⟨_, _, rfl, row_set2 HO0.out rfl BK4.out (by decide) _ _ _ _, row_set2 HO1.out rfl BK4.out (by decide) _ _ _ _, below_set (below_set HB.out GE4.out) GE4.out⟩)
   | (refine bodyPost_ret (results_ct rfl _ _ g4 25 #[.slice none 0 0, .slice none 0 0] (0, 0) _ rfl (blk_put (blk_put BK4.out 0 (.slice none 0 0) rfl) 1 (.slice none 0 0) rfl) Tryz.underlying25 rfl (by kernel_rfl)) rfl ?_; exact ⟨_, _, rfl, Kd.R_nil _ _ _ _ _, Kd.R_nil _ _ _ _ _, below_set (below_set HB.out GE4.out) GE4.out⟩)
theorem power1_calls (i : Int) (x : ByteArray) (n : Int) (g : Nat) (w : World) (hG : Gs w) (hx : x.size ≤ 3000000000) (hc : w.cell? ⟨g, 0, none⟩ = some (.int .i64 n)) :
    Calls Tryz.prog 50 #[.int .i64 i, .string x, .pointer (some ⟨g, 0, none⟩)] w fun e w' => e = .returned (.tuple #[.string (rPower x n).1, .int .i64 (rPower x n).2]) ∧ Below w.heap.size w w' := by
 have KM := A_ (power_calls x n hx w hG);clear hG hx;generalize rPower x n = r at *;go_enter Tryz.func50, Tryz.ntmps50;go_wp2_with (go_at_call 51; with_reducible refine KM.out.mono ?_; rintro e w' ⟨rfl, hb⟩; have HB := A_ hb; clear hb);go_ret2;exact ⟨rfl, HB.out⟩
theorem power_all (A0 : Option Addr) (c0 : Nat) (A1 : Option Addr) (c1 : Nat) (s : List Int) (d : List ByteArray) (n : Int) (r : Int) (r0 : List Int) (r1 : List ByteArray) (w : World) (hG : Gs w) (hr0 : Kd.C (Kd.int .i64) w A0 s.length s) (hc0 : s.length ≤ c0) (hr1 : Kd.C Kd.string w A1 d.length d) (hs : s.length ≤ 1000) (hl : d.length ≤ 1000) (hd : ∀ x ∈ d, x.size ≤ 40000000000) (hd3 : ∀ x ∈ d, x.size ≤ 3000000000) (hc : (tRight ⟨s, d⟩ = false ∧ r = 1 ∧ r0 = [] ∧ r1 = []) ∨ (tRight ⟨s, d⟩ = true ∧ n < 0 ∧ r = 1 ∧ r0 = [] ∧ r1 = []) ∨ (tRight ⟨s, d⟩ = true ∧ 0 ≤ n ∧ 6 < n ∧ r = 1 ∧ r0 = [] ∧ r1 = []) ∨ (tRight ⟨s, d⟩ = true ∧ 0 ≤ n ∧ n ≤ 6 ∧ (∀ x ∈ d, (rPower x n).2 = 0) ∧ r = 0 ∧ s = r0 ∧ r1 = ((List.range d.length).map fun (i : Nat) => (rPower (rdOf ByteArray.empty d (i : Int)) n).1))) :
    Calls Tryz.prog 23 #[.agg #[.slice A0 s.length c0, .slice A1 d.length c1], .int .i64 n] w fun e w' => ∃ v0_ v1_ : Value, e = .returned (.tuple #[.agg #[v0_, v1_], .int .i64 r]) ∧ Kd.R (Kd.int .i64) 3 w' w.heap.size (fun _ => True) v0_ r0 ∧ Kd.R Kd.string 9 w' w.heap.size (fun _ => True) v1_ r1 ∧ Below w.heap.size w w' := by
 have KR := A_ (fun (W : World) (hb : Below w.heap.size w W) => tright_calls A0 c0 A1 c1 ⟨s, d⟩ W (hG.below hb) (Kd.C_below hr0 hb) hc0 (Kd.C_below hr1 hb) hs hl hd);have HB := A_ (Below.refl w.heap.size w);rcases hc with ⟨ht, rfl, rfl, rfl⟩ | ⟨ht, hn, rfl, rfl, rfl⟩ | ⟨ht, hn, hm, rfl, rfl, rfl⟩ | ⟨ht, hn, hm, ho, rfl, rfl, rfl⟩
 all_goals
  first
   | have KE := A_ (fun (W : World) (g : Nat) (hb : Below w.heap.size w W) (hc : W.cell? ⟨g, 0, none⟩ = some (.int .i64 n)) => each_calls 50 _ Tryz.func50 (by kernel_rfl) rfl #[.pointer (some ⟨g, 0, none⟩)] (fun i => (rPower (rdOf ByteArray.empty d (i : Int)) n).1) A0 c0 A1 c1 ⟨s, d⟩ W (Kd.C_below hr0 hb) (Kd.C_below hr1 hb) hs hl (fun i hi W2 hb2 => by
    have h := power1_calls (i : Int) (rdOf ByteArray.empty d (i : Int)) n g W2 ((hG.below hb).below hb2) (hd3 _ (rdOf_mem d i hi)) (cell_below hb2 hc);rw [ho _ (rdOf_mem d i hi)] at h;exact h))
   | have KE := A_ True.intro
  rw [ht] at KR;clear hG hr0 hc0 hr1 hs hl hd ht hd3
  (try clear ho)
  dsimp only at *;go_enter Tryz.func23, Tryz.ntmps23
  go_wp2_with (first
   | (refine BX_ 2 #[.slice A0 s.length c0, .slice A1 d.length c1] 25 ?_; intro g2 hg w2 hbox hb; have BK2 := A_ hbox; replace HB := BT_ hb; clear hb hbox hg)
   | (refine BX_ 3 #[.int .i64 n] 3 ?_; intro g3 hg w3 hbox hb; have BK3 := A_ hbox; have NE2_3 := NB_ BK2 hg; replace BK2 := BF_ BK2 hb; replace HB := BT_ hb; clear hb hbox hg)
   | (refine BX_ 4 #[.slice none 0 0, .slice none 0 0] 25 ?_; intro g4 hg w4 hbox hb; have BK4 := A_ hbox; have GE4 := GE_ (w := w) hg; have NE2_4 := NB_ BK2 hg; replace BK2 := BF_ BK2 hb; have NE3_4 := NB_ BK3 hg; replace BK3 := BF_ BK3 hb; replace HB := BT_ hb; clear hb hbox hg; have hne := NE2_4.out; have hf40 := blk_frozen BK4.out 0; have hf41 := blk_frozen BK4.out 1; have hz4_0 := CA_ BK2; have hz4_1 := CB_ BK2; have hz4_2 := CA_ BK4; have hz4_3 := CB_ BK4)
   | (go_at_call 15; with_reducible refine (KR.out _ T6_).mono ?_; rintro e w5 ⟨rfl, hb⟩; replace BK2 := BF_ BK2 hb; replace BK3 := BF_ BK3 hb; replace BK4 := BF_ BK4 hb; replace HB := BT_ hb; clear hb; have hyw5_0 := CA_ BK2; have hyw5_1 := CB_ BK2; have hyw5_2 : w5.cell? ⟨g3, 0, none⟩ = some (.int .i64 n) := (blk_cell BK3.out 0).trans rfl; obtain ⟨hyw5_3, hyw5_4, hq0, hq1⟩ := CF_ BK4)
   | (go_at_call 37; with_reducible refine (KE.out _ g3 T6_ (by assumption)).mono ?_; rintro e w7 ⟨v0, v1, rfl, h0, h1, hb⟩; replace BK4 := BF_ BK4 hb; obtain ⟨Av, av, rfl⟩ := Kd.R_slice h0; obtain ⟨Bv, bv, rfl⟩ := Kd.R_slice h1; have HO0 := A_ (Kd.R_lower h0 (below_size T6_)); have HO1 := A_ (Kd.R_lower h1 (below_size T6_)); clear h0 h1; generalize List.length (List.map _ (List.range d.length)) = q at *; replace HB := BT_ hb; clear hb; obtain ⟨hyw7_0, hyw7_1, hr0, hr1⟩ := CF_ BK4))
  first
   | (refine bodyPost_ret (results_ct rfl _ _ g4 25 #[.slice Av s.length av, .slice Bv q bv] (0, 0) _ rfl (blk_put (blk_put BK4.out 0 (.slice Av s.length av) rfl) 1 (.slice Bv q bv) rfl) Tryz.underlying25 rfl (by kernel_rfl)) rfl ?_; exact ⟨_, _, rfl, row_set2 HO0.out rfl BK4.out (by decide) _ _ _ _, row_set2 HO1.out rfl BK4.out (by decide) _ _ _ _, below_set (below_set HB.out GE4.out) GE4.out⟩)
   | (refine bodyPost_ret (results_ct rfl _ _ g4 25 #[.slice none 0 0, .slice none 0 0] (0, 0) _ rfl (blk_put (blk_put BK4.out 0 (.slice none 0 0) rfl) 1 (.slice none 0 0) rfl) Tryz.underlying25 rfl (by kernel_rfl)) rfl ?_; exact ⟨_, _, rfl, Kd.R_nil _ _ _ _ _, Kd.R_nil _ _ _ _ _, below_set (below_set HB.out GE4.out) GE4.out⟩)
end Go.Proofs.YtlglpffoijdgbaaGreatDoor.Ten
/- tensor.Scale, Power: the contract. -/
namespace Go.Proofs.YtlglpffoijdgbaaGreatDoor.Ten
open Go Go.RowKit Go.ZPWords Go.ZPMore Go.ZPLast Go.Proofs.YtlglpffoijdgbaaGreatDoor.PC Go.Proofs.YtlglpffoijdgbaaGreatDoor.Th Go.Proofs.YtlglpffoijdgbaaGreatDoor.Th.Wh Go.Proofs.YtlglpffoijdgbaaGreatDoor.Err
set_option linter.unusedVariables false
theorem scale_calls (A0 : Option Addr) (c0 : Nat) (A1 : Option Addr) (c1 : Nat) (s : List Int) (d : List ByteArray) (k : ByteArray) (w : World) (hG : Gs w) (hr0 : Kd.C (Kd.int .i64) w A0 s.length s) (hc0 : s.length ≤ c0) (hr1 : Kd.C Kd.string w A1 d.length d) (h : Sm s d) (hk : k.size ≤ 40000000000) :
    Calls Tryz.prog 20 #[.agg #[.slice A0 s.length c0, .slice A1 d.length c1], .string k] w (Res w (tScale ⟨s, d⟩ k)) := by
 unfold tScale;by_cases ht : tRight ⟨s, d⟩ = true
 · rw [if_pos ht];by_cases hkr : rRight k = true
   · rw [if_pos hkr];have := scale_all A0 c0 A1 c1 s d k 0 s _ w hG hr0 hc0 hr1 h.1 h.2.1 h.big hk (Or.inr (Or.inr ⟨ht, hkr, fun x hx => rMul_ok (tRight_all ht x hx) hkr, rfl, rfl, rfl⟩));rw [map_at d (fun x => (rMul x k).1)] at this;exact this
   rw [if_neg hkr];exact scale_all A0 c0 A1 c1 s d k 1 [] [] w hG hr0 hc0 hr1 h.1 h.2.1 h.big hk (Or.inr (Or.inl ⟨ht, by simpa using hkr, rfl, rfl, rfl⟩))
 rw [if_neg ht];exact scale_all A0 c0 A1 c1 s d k 1 [] [] w hG hr0 hc0 hr1 h.1 h.2.1 h.big hk (Or.inl ⟨by simpa using ht, rfl, rfl, rfl⟩)
theorem power_calls' (A0 : Option Addr) (c0 : Nat) (A1 : Option Addr) (c1 : Nat) (s : List Int) (d : List ByteArray) (n : Int) (w : World) (hG : Gs w) (hr0 : Kd.C (Kd.int .i64) w A0 s.length s) (hc0 : s.length ≤ c0) (hr1 : Kd.C Kd.string w A1 d.length d) (h : Sm s d) :
    Calls Tryz.prog 23 #[.agg #[.slice A0 s.length c0, .slice A1 d.length c1], .int .i64 n] w (Res w (tPower ⟨s, d⟩ n)) := by
 unfold tPower;by_cases ht : tRight ⟨s, d⟩ = true
 · rw [if_pos ht];by_cases hn : 0 ≤ n ∧ n ≤ 6
   · rw [if_pos hn];have := power_all A0 c0 A1 c1 s d n 0 s _ w hG hr0 hc0 hr1 h.1 h.2.1 h.big h.2.2 (Or.inr (Or.inr (Or.inr ⟨ht, hn.1, hn.2, fun x hx => rPower_ok (tRight_all ht x hx) hn.1 hn.2, rfl, rfl, rfl⟩)));rw [map_at d (fun x => (rPower x n).1)] at this;exact this
   rw [if_neg hn];by_cases h0 : n < 0
   · exact power_all A0 c0 A1 c1 s d n 1 [] [] w hG hr0 hc0 hr1 h.1 h.2.1 h.big h.2.2 (Or.inr (Or.inl ⟨ht, h0, rfl, rfl, rfl⟩))
   exact power_all A0 c0 A1 c1 s d n 1 [] [] w hG hr0 hc0 hr1 h.1 h.2.1 h.big h.2.2 (Or.inr (Or.inr (Or.inl ⟨ht, by omega, by omega, rfl, rfl, rfl⟩)))
 rw [if_neg ht];exact power_all A0 c0 A1 c1 s d n 1 [] [] w hG hr0 hc0 hr1 h.1 h.2.1 h.big h.2.2 (Or.inl ⟨by simpa using ht, rfl, rfl, rfl⟩)
end Go.Proofs.YtlglpffoijdgbaaGreatDoor.Ten
