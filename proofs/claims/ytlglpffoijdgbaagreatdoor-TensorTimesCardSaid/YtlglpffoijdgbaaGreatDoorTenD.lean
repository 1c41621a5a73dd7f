/- tensor.Scale and tensor.Power: the walks. -/
import Derived.Test.YtlglpffoijdgbaaGreatDoorTenA
import Derived.Test.YtlglpffoijdgbaaGreatDoorTenB
import Derived.Test.YtlglpffoijdgbaaGreatDoorRatMp
import Derived.Test.YtlglpffoijdgbaaGreatDoorRatOa
import Derived.Test.YtlglpffoijdgbaaGreatDoorRatOs
import Derived.Test.YtlglpffoijdgbaaGreatDoorRatOm
import Derived.Deep.LoopGhost
namespace Go.Proofs.YtlglpffoijdgbaaGreatDoor.Ten
open Go Go.RowKit Go.Extern.Stop Go.Stop Go.Extern Go.Proofs.YtlglpffoijdgbaaGreatDoorW.PrintWords Go.Proofs.YtlglpffoijdgbaaGreatDoorW.PrintMore Go.Proofs.YtlglpffoijdgbaaGreatDoorW.PrintLast Go.Proofs.YtlglpffoijdgbaaGreatDoor.PC Go.Proofs.YtlglpffoijdgbaaGreatDoor.Th Go.Proofs.YtlglpffoijdgbaaGreatDoor.Th.Wh Go.Proofs.YtlglpffoijdgbaaGreatDoor.Err
set_option maxHeartbeats 4000000
set_option maxRecDepth 1000000
set_option linter.unusedVariables false
theorem scale1_calls (i : Int) (x : ByteArray) (k : ByteArray) (g : Nat) (w : World) (hG : Gs w) (hx : x.size ≤ 40000000000) (hk : k.size ≤ 40000000000) (hc : w.cell? ⟨g, 0, none⟩ = some (.string k)) :
    Calls Tryz.prog 45 #[.int .i64 i, .string x, .pointer (some ⟨g, 0, none⟩)] w fun e w' => e = .returned (.tuple #[.string (rMul x k).1, .int .i64 (rMul x k).2]) ∧ Below w.heap.size w w' := by
  have KM := Aside0.mk (mul_calls x k hx hk w hG)
  clear hG hx hk
  generalize rMul x k = r at *
  go_enter Tryz.func45, Tryz.ntmps45
  go_wp2_with (go_at_call 21; with_reducible refine KM.out.mono ?_; rintro e w' ⟨rfl, hb⟩; have HB := Aside0.mk hb; clear hb)
  go_ret2
  exact ⟨rfl, HB.out⟩
theorem scale_all (A0 : Option Addr) (c0 : Nat) (A1 : Option Addr) (c1 : Nat) (s : List Int) (d : List ByteArray) (k : ByteArray) (r : Int) (r0 : List Int) (r1 : List ByteArray) (w : World) (hG : Gs w) (hr0 : Kd.C (Kd.int .i64) w A0 s.length s) (hc0 : s.length ≤ c0) (hr1 : Kd.C Kd.string w A1 d.length d) (hs : s.length ≤ 1000) (hl : d.length ≤ 1000) (hd : ∀ x ∈ d, x.size ≤ 40000000000) (hk : k.size ≤ 40000000000) (hc : (tRight ⟨s, d⟩ = false ∧ r = 1 ∧ r0 = [] ∧ r1 = []) ∨ (tRight ⟨s, d⟩ = true ∧ rRight k = false ∧ r = 1 ∧ r0 = [] ∧ r1 = []) ∨ (tRight ⟨s, d⟩ = true ∧ rRight k = true ∧ (∀ x ∈ d, (rMul x k).2 = 0) ∧ r = 0 ∧ s = r0 ∧ r1 = ((List.range d.length).map fun (i : Nat) => (rMul (rdOf ByteArray.empty d (i : Int)) k).1))) :
    Calls Tryz.prog 20 #[.agg #[.slice A0 s.length c0, .slice A1 d.length c1], .string k] w fun e w' => ∃ v0_ v1_ : Value, e = .returned (.tuple #[.agg #[v0_, v1_], .int .i64 r]) ∧ Kd.R (Kd.int .i64) 3 w' w.heap.size (fun _ => True) v0_ r0 ∧ Kd.R Kd.string 9 w' w.heap.size (fun _ => True) v1_ r1 ∧ Below w.heap.size w w' := by
  have KR := Aside0.mk (fun (W : World) (hb : Below w.heap.size w W) => tright_calls A0 c0 A1 c1 ⟨s, d⟩ W (hG.below hb) (Kd.C_below hr0 hb) hc0 (Kd.C_below hr1 hb) hs hl hd)
  have KK := Aside0.mk (fun (W : World) (hb : Below w.heap.size w W) => right_calls k hk W (hG.below hb))
  have HB := Aside0.mk (Below.refl w.heap.size w)
  rcases hc with ⟨ht, rfl, rfl, rfl⟩ | ⟨ht, hkr, rfl, rfl, rfl⟩ | ⟨ht, hkr, ho, rfl, rfl, rfl⟩
  all_goals
    first
      | have KE := Aside0.mk (fun (W : World) (g : Nat) (hb : Below w.heap.size w W) (hc : W.cell? ⟨g, 0, none⟩ = some (.string k)) => each_calls 45 _ Tryz.func45 (by kernel_rfl) rfl #[.pointer (some ⟨g, 0, none⟩)] (fun i => (rMul (rdOf ByteArray.empty d (i : Int)) k).1) A0 c0 A1 c1 ⟨s, d⟩ W (Kd.C_below hr0 hb) (Kd.C_below hr1 hb) hs hl (fun i hi W2 hb2 => by
          have h := scale1_calls (i : Int) (rdOf ByteArray.empty d (i : Int)) k g W2 ((hG.below hb).below hb2) (hd _ (rdOf_mem d i hi)) hk (cell_below hb2 hc)
          rw [ho _ (rdOf_mem d i hi)] at h
          exact h))
      | have KE := Aside0.mk True.intro
    rw [ht] at KR
    (try rw [hkr] at KK)
    clear hG hr0 hc0 hr1 hs hl hd ht hk
    (try clear hkr)
    (try clear ho)
    dsimp only at *
    go_enter Tryz.func20, Tryz.ntmps20
    go_wp2_with (first
      | ((with_reducible refine gate_dst (N := 2) rfl ?_); refine box_event ?hg (N := 2) ?hd (cs := #[.slice A0 s.length c0, .slice A1 d.length c1]) (t := 25) ?hr ?_; (case hd => rfl); (case hg => rfl); (case hr => exact T3_); intro g2 hg w2 hbox hb; have BK2 := Aside0.mk hbox; replace HB := Aside0.mk (below_step T6_ hb); clear hb hbox hg)
      | ((with_reducible refine gate_dst (N := 3) rfl ?_); refine box_event ?hg (N := 3) ?hd (cs := #[.string k]) (t := 9) ?hr ?_; (case hd => rfl); (case hg => rfl); (case hr => exact T3_); intro g3 hg w3 hbox hb; have BK3 := Aside0.mk hbox; have NE2_3 := NB_ BK2 hg; replace BK2 := BF_ BK2 hb; replace HB := Aside0.mk (below_step T6_ hb); clear hb hbox hg)
      | ((with_reducible refine gate_dst (N := 4) rfl ?_); refine box_event ?hg (N := 4) ?hd (cs := #[.slice none 0 0, .slice none 0 0]) (t := 25) ?hr ?_; (case hd => rfl); (case hg => rfl); (case hr => exact T3_); intro g4 hg w4 hbox hb; have BK4 := Aside0.mk hbox; have GE4 := GE_ (w := w) hg; have NE2_4 := NB_ BK2 hg; replace BK2 := BF_ BK2 hb; have NE3_4 := NB_ BK3 hg; replace BK3 := BF_ BK3 hb; replace HB := Aside0.mk (below_step T6_ hb); clear hb hbox hg; have hne := NE2_4.out; have hf40 := blk_frozen BK4.out 0; have hf41 := blk_frozen BK4.out 1; have hz4_0 := CA_ BK2; have hz4_1 := CB_ BK2; have hz4_2 := CA_ BK4; have hz4_3 := CB_ BK4)
      | (go_at_call 15; with_reducible refine (KR.out _ T6_).mono ?_; rintro e w5 ⟨rfl, hb⟩; replace BK2 := BF_ BK2 hb; replace BK3 := BF_ BK3 hb; replace BK4 := BF_ BK4 hb; replace HB := Aside0.mk (below_step T6_ hb); clear hb; have hyw5_0 := CA_ BK2; have hyw5_1 := CB_ BK2; have hyw5_2 : w5.cell? ⟨g3, 0, none⟩ = some (.string k) := (blk_cell BK3.out 0).trans rfl; have hyw5_3 := CA_ BK4; have hyw5_4 := CB_ BK4; have hq0 := blk_frozen BK4.out 0; have hq1 := blk_frozen BK4.out 1)
      | (go_at_call 43; with_reducible refine (KK.out _ T6_).mono ?_; rintro e w6 ⟨rfl, hb⟩; replace BK2 := BF_ BK2 hb; replace BK3 := BF_ BK3 hb; replace BK4 := BF_ BK4 hb; replace HB := Aside0.mk (below_step T6_ hb); clear hb; have hyw6_0 := CA_ BK2; have hyw6_1 := CB_ BK2; have hyw6_2 := CA_ BK4; have hyw6_3 := CB_ BK4; have hp0 := blk_frozen BK4.out 0; have hp1 := blk_frozen BK4.out 1; have hk6 : w6.cell? ⟨g3, 0, none⟩ = some (.string k) := (blk_cell BK3.out 0).trans rfl)
      | (go_at_call 37; with_reducible refine (KE.out _ g3 T6_ (by assumption)).mono ?_; rintro e w7 ⟨v0, v1, rfl, h0, h1, hb⟩; replace BK4 := BF_ BK4 hb; obtain ⟨Av, av, rfl⟩ := Kd.R_slice h0; obtain ⟨Bv, bv, rfl⟩ := Kd.R_slice h1; have HO0 := Aside0.mk (Kd.R_lower h0 (below_size T6_)); have HO1 := Aside0.mk (Kd.R_lower h1 (below_size T6_)); clear h0 h1; generalize List.length (List.map _ (List.range d.length)) = q at *; replace HB := Aside0.mk (below_step T6_ hb); clear hb; have hyw7_0 := CA_ BK4; have hyw7_1 := CB_ BK4; have hr0 := blk_frozen BK4.out 0; have hr1 := blk_frozen BK4.out 1))
    first
      | (refine bodyPost_ret (results_ct rfl _ _ g4 25 #[.slice Av s.length av, .slice Bv q bv] (0, 0) _ rfl (blk_put (blk_put BK4.out 0 (.slice Av s.length av) rfl) 1 (.slice Bv q bv) rfl) Tryz.underlying25 rfl (by kernel_rfl)) rfl ?_; exact ⟨_, _, rfl, row_set2 HO0.out rfl BK4.out (by decide) _ _ _ _, row_set2 HO1.out rfl BK4.out (by decide) _ _ _ _, below_set (below_set HB.out GE4.out) GE4.out⟩)
      | (refine bodyPost_ret (results_ct rfl _ _ g4 25 #[.slice none 0 0, .slice none 0 0] (0, 0) _ rfl (blk_put (blk_put BK4.out 0 (.slice none 0 0) rfl) 1 (.slice none 0 0) rfl) Tryz.underlying25 rfl (by kernel_rfl)) rfl ?_; exact ⟨_, _, rfl, Kd.R_nil _ _ _ _ _, Kd.R_nil _ _ _ _ _, below_set (below_set HB.out GE4.out) GE4.out⟩)
theorem power1_calls (i : Int) (x : ByteArray) (n : Int) (g : Nat) (w : World) (hG : Gs w) (hx : x.size ≤ 3000000000) (hc : w.cell? ⟨g, 0, none⟩ = some (.int .i64 n)) :
    Calls Tryz.prog 50 #[.int .i64 i, .string x, .pointer (some ⟨g, 0, none⟩)] w fun e w' => e = .returned (.tuple #[.string (rPower x n).1, .int .i64 (rPower x n).2]) ∧ Below w.heap.size w w' := by
  have KM := Aside0.mk (power_calls x n hx w hG)
  clear hG hx
  generalize rPower x n = r at *
  go_enter Tryz.func50, Tryz.ntmps50
  go_wp2_with (go_at_call 51; with_reducible refine KM.out.mono ?_; rintro e w' ⟨rfl, hb⟩; have HB := Aside0.mk hb; clear hb)
  go_ret2
  exact ⟨rfl, HB.out⟩
theorem power_all (A0 : Option Addr) (c0 : Nat) (A1 : Option Addr) (c1 : Nat) (s : List Int) (d : List ByteArray) (n : Int) (r : Int) (r0 : List Int) (r1 : List ByteArray) (w : World) (hG : Gs w) (hr0 : Kd.C (Kd.int .i64) w A0 s.length s) (hc0 : s.length ≤ c0) (hr1 : Kd.C Kd.string w A1 d.length d) (hs : s.length ≤ 1000) (hl : d.length ≤ 1000) (hd : ∀ x ∈ d, x.size ≤ 40000000000) (hd3 : ∀ x ∈ d, x.size ≤ 3000000000) (hc : (tRight ⟨s, d⟩ = false ∧ r = 1 ∧ r0 = [] ∧ r1 = []) ∨ (tRight ⟨s, d⟩ = true ∧ n < 0 ∧ r = 1 ∧ r0 = [] ∧ r1 = []) ∨ (tRight ⟨s, d⟩ = true ∧ 0 ≤ n ∧ 6 < n ∧ r = 1 ∧ r0 = [] ∧ r1 = []) ∨ (tRight ⟨s, d⟩ = true ∧ 0 ≤ n ∧ n ≤ 6 ∧ (∀ x ∈ d, (rPower x n).2 = 0) ∧ r = 0 ∧ s = r0 ∧ r1 = ((List.range d.length).map fun (i : Nat) => (rPower (rdOf ByteArray.empty d (i : Int)) n).1))) :
    Calls Tryz.prog 23 #[.agg #[.slice A0 s.length c0, .slice A1 d.length c1], .int .i64 n] w fun e w' => ∃ v0_ v1_ : Value, e = .returned (.tuple #[.agg #[v0_, v1_], .int .i64 r]) ∧ Kd.R (Kd.int .i64) 3 w' w.heap.size (fun _ => True) v0_ r0 ∧ Kd.R Kd.string 9 w' w.heap.size (fun _ => True) v1_ r1 ∧ Below w.heap.size w w' := by
  have KR := Aside0.mk (fun (W : World) (hb : Below w.heap.size w W) => tright_calls A0 c0 A1 c1 ⟨s, d⟩ W (hG.below hb) (Kd.C_below hr0 hb) hc0 (Kd.C_below hr1 hb) hs hl hd)
  have HB := Aside0.mk (Below.refl w.heap.size w)
  rcases hc with ⟨ht, rfl, rfl, rfl⟩ | ⟨ht, hn, rfl, rfl, rfl⟩ | ⟨ht, hn, hm, rfl, rfl, rfl⟩ | ⟨ht, hn, hm, ho, rfl, rfl, rfl⟩
  all_goals
    first
      | have KE := Aside0.mk (fun (W : World) (g : Nat) (hb : Below w.heap.size w W) (hc : W.cell? ⟨g, 0, none⟩ = some (.int .i64 n)) => each_calls 50 _ Tryz.func50 (by kernel_rfl) rfl #[.pointer (some ⟨g, 0, none⟩)] (fun i => (rPower (rdOf ByteArray.empty d (i : Int)) n).1) A0 c0 A1 c1 ⟨s, d⟩ W (Kd.C_below hr0 hb) (Kd.C_below hr1 hb) hs hl (fun i hi W2 hb2 => by
          have h := power1_calls (i : Int) (rdOf ByteArray.empty d (i : Int)) n g W2 ((hG.below hb).below hb2) (hd3 _ (rdOf_mem d i hi)) (cell_below hb2 hc)
          rw [ho _ (rdOf_mem d i hi)] at h
          exact h))
      | have KE := Aside0.mk True.intro
    rw [ht] at KR
    clear hG hr0 hc0 hr1 hs hl hd ht hd3
    (try clear ho)
    dsimp only at *
    go_enter Tryz.func23, Tryz.ntmps23
    go_wp2_with (first
      | ((with_reducible refine gate_dst (N := 2) rfl ?_); refine box_event ?hg (N := 2) ?hd (cs := #[.slice A0 s.length c0, .slice A1 d.length c1]) (t := 25) ?hr ?_; (case hd => rfl); (case hg => rfl); (case hr => exact T3_); intro g2 hg w2 hbox hb; have BK2 := Aside0.mk hbox; replace HB := Aside0.mk (below_step T6_ hb); clear hb hbox hg)
      | ((with_reducible refine gate_dst (N := 3) rfl ?_); refine box_event ?hg (N := 3) ?hd (cs := #[.int .i64 n]) (t := 3) ?hr ?_; (case hd => rfl); (case hg => rfl); (case hr => exact T3_); intro g3 hg w3 hbox hb; have BK3 := Aside0.mk hbox; have NE2_3 := NB_ BK2 hg; replace BK2 := BF_ BK2 hb; replace HB := Aside0.mk (below_step T6_ hb); clear hb hbox hg)
      | ((with_reducible refine gate_dst (N := 4) rfl ?_); refine box_event ?hg (N := 4) ?hd (cs := #[.slice none 0 0, .slice none 0 0]) (t := 25) ?hr ?_; (case hd => rfl); (case hg => rfl); (case hr => exact T3_); intro g4 hg w4 hbox hb; have BK4 := Aside0.mk hbox; have GE4 := GE_ (w := w) hg; have NE2_4 := NB_ BK2 hg; replace BK2 := BF_ BK2 hb; have NE3_4 := NB_ BK3 hg; replace BK3 := BF_ BK3 hb; replace HB := Aside0.mk (below_step T6_ hb); clear hb hbox hg; have hne := NE2_4.out; have hf40 := blk_frozen BK4.out 0; have hf41 := blk_frozen BK4.out 1; have hz4_0 := CA_ BK2; have hz4_1 := CB_ BK2; have hz4_2 := CA_ BK4; have hz4_3 := CB_ BK4)
      | (go_at_call 15; with_reducible refine (KR.out _ T6_).mono ?_; rintro e w5 ⟨rfl, hb⟩; replace BK2 := BF_ BK2 hb; replace BK3 := BF_ BK3 hb; replace BK4 := BF_ BK4 hb; replace HB := Aside0.mk (below_step T6_ hb); clear hb; have hyw5_0 := CA_ BK2; have hyw5_1 := CB_ BK2; have hyw5_2 : w5.cell? ⟨g3, 0, none⟩ = some (.int .i64 n) := (blk_cell BK3.out 0).trans rfl; have hyw5_3 := CA_ BK4; have hyw5_4 := CB_ BK4; have hq0 := blk_frozen BK4.out 0; have hq1 := blk_frozen BK4.out 1)
      | (go_at_call 37; with_reducible refine (KE.out _ g3 T6_ (by assumption)).mono ?_; rintro e w7 ⟨v0, v1, rfl, h0, h1, hb⟩; replace BK4 := BF_ BK4 hb; obtain ⟨Av, av, rfl⟩ := Kd.R_slice h0; obtain ⟨Bv, bv, rfl⟩ := Kd.R_slice h1; have HO0 := Aside0.mk (Kd.R_lower h0 (below_size T6_)); have HO1 := Aside0.mk (Kd.R_lower h1 (below_size T6_)); clear h0 h1; generalize List.length (List.map _ (List.range d.length)) = q at *; replace HB := Aside0.mk (below_step T6_ hb); clear hb; have hyw7_0 := CA_ BK4; have hyw7_1 := CB_ BK4; have hr0 := blk_frozen BK4.out 0; have hr1 := blk_frozen BK4.out 1))
    first
      | (refine bodyPost_ret (results_ct rfl _ _ g4 25 #[.slice Av s.length av, .slice Bv q bv] (0, 0) _ rfl (blk_put (blk_put BK4.out 0 (.slice Av s.length av) rfl) 1 (.slice Bv q bv) rfl) Tryz.underlying25 rfl (by kernel_rfl)) rfl ?_; exact ⟨_, _, rfl, row_set2 HO0.out rfl BK4.out (by decide) _ _ _ _, row_set2 HO1.out rfl BK4.out (by decide) _ _ _ _, below_set (below_set HB.out GE4.out) GE4.out⟩)
      | (refine bodyPost_ret (results_ct rfl _ _ g4 25 #[.slice none 0 0, .slice none 0 0] (0, 0) _ rfl (blk_put (blk_put BK4.out 0 (.slice none 0 0) rfl) 1 (.slice none 0 0) rfl) Tryz.underlying25 rfl (by kernel_rfl)) rfl ?_; exact ⟨_, _, rfl, Kd.R_nil _ _ _ _ _, Kd.R_nil _ _ _ _ _, below_set (below_set HB.out GE4.out) GE4.out⟩)
end Go.Proofs.YtlglpffoijdgbaaGreatDoor.Ten
/- tensor.Zip: the walks. -/
namespace Go.Proofs.YtlglpffoijdgbaaGreatDoor.Ten
open Go Go.RowKit Go.Extern.Stop Go.Stop Go.Extern Go.Proofs.YtlglpffoijdgbaaGreatDoorW.PrintWords Go.Proofs.YtlglpffoijdgbaaGreatDoorW.PrintMore Go.Proofs.YtlglpffoijdgbaaGreatDoorW.PrintLast Go.Proofs.YtlglpffoijdgbaaGreatDoor.PC Go.Proofs.YtlglpffoijdgbaaGreatDoor.Th Go.Proofs.YtlglpffoijdgbaaGreatDoor.Th.Wh Go.Proofs.YtlglpffoijdgbaaGreatDoor.Err
set_option maxHeartbeats 4000000
set_option maxRecDepth 1000000
set_option linter.unusedVariables false
theorem zip_op (op : ByteArray) (A0 : Option Addr) (c0 : Nat) (A1 : Option Addr) (c1 : Nat) (s : List Int) (d : List ByteArray) (B0 : Option Addr) (e0 : Nat) (B1 : Option Addr) (e1 : Nat) (s2 : List Int) (d2 : List ByteArray) (w : World) (hG : Gs w) (hr0 : Kd.C (Kd.int .i64) w A0 s.length s) (hc0 : s.length ≤ c0) (hr1 : Kd.C Kd.string w A1 d.length d) (hs : s.length ≤ 1000) (hl : d.length ≤ 1000) (hd : ∀ x ∈ d, x.size ≤ 40000000000) (ir0 : Kd.C (Kd.int .i64) w B0 s2.length s2) (ic0 : s2.length ≤ e0) (ir1 : Kd.C Kd.string w B1 d2.length d2) (is : s2.length ≤ 1000) (il : d2.length ≤ 1000) (id' : ∀ x ∈ d2, x.size ≤ 40000000000) (hf : Instr.findNow .string (.string op) [⟨.string ⟨#[97, 100, 100]⟩, (.func (.func 34) #[] #[]), 0⟩, ⟨.string ⟨#[115, 117, 98]⟩, (.func (.func 35) #[] #[]), 1⟩, ⟨.string ⟨#[109, 117, 108]⟩, (.func (.func 21) #[] #[]), 2⟩] 0 = some none) :
    Calls Tryz.prog 14 #[.string op, .agg #[.slice A0 s.length c0, .slice A1 d.length c1], .agg #[.slice B0 s2.length e0, .slice B1 d2.length e1]] w fun e w' => ∃ v0_ v1_ : Value, e = .returned (.tuple #[.agg #[v0_, v1_], .int .i64 1]) ∧ Kd.R (Kd.int .i64) 3 w' w.heap.size (fun _ => True) v0_ ([] : List Int) ∧ Kd.R Kd.string 9 w' w.heap.size (fun _ => True) v1_ ([] : List ByteArray) ∧ Below w.heap.size w w' := by
  have HF := Aside0.mk hf
  have HB := Aside0.mk (Below.refl w.heap.size w)
  clear hG hr0 hc0 hr1 hs hl hd ir0 ic0 ir1 is il id' hf
  go_enter Tryz.func14, Tryz.ntmps14
  go_wp2_with (first
    | ((with_reducible refine gate_dst (N := 4) rfl ?_); refine box_event ?hg (N := 4) ?hd (cs := #[.slice A0 s.length c0, .slice A1 d.length c1]) (t := 25) ?hr ?_; (case hd => rfl); (case hg => rfl); (case hr => exact T3_); intro g4 hg w4 hbox hb; have BK4 := Aside0.mk hbox; replace HB := Aside0.mk (below_step T6_ hb); clear hb hbox hg)
    | ((with_reducible refine gate_dst (N := 5) rfl ?_); refine box_event ?hg (N := 5) ?hd (cs := #[.slice B0 s2.length e0, .slice B1 d2.length e1]) (t := 25) ?hr ?_; (case hd => rfl); (case hg => rfl); (case hr => exact T3_); intro g5 hg w5 hbox hb; have BK5 := Aside0.mk hbox; have NE4_5 := NB_ BK4 hg; replace BK4 := BF_ BK4 hb; replace HB := Aside0.mk (below_step T6_ hb); clear hb hbox hg)
    | ((with_reducible refine gate_dst (N := 6) rfl ?_); refine box_event ?hg (N := 6) ?hd (cs := #[.slice none 0 0, .slice none 0 0]) (t := 25) ?hr ?_; (case hd => rfl); (case hg => rfl); (case hr => exact T3_); intro g6 hg w6 hbox hb; have BK6 := Aside0.mk hbox; have GE6 := GE_ (w := w) hg; have NE4_6 := NB_ BK4 hg; replace BK4 := BF_ BK4 hb; have NE5_6 := NB_ BK5 hg; replace BK5 := BF_ BK5 hb; replace HB := Aside0.mk (below_step T6_ hb); clear hb hbox hg)
    | ((with_reducible refine gate_dst (N := 11) rfl ?_); refine map_event rfl (N := 11) rfl 59 rfl ?_; intro b11 hg w11 hbm hb; have HM := Aside0.mk hbm; have GE11 := Aside0.mk ((by rw [hg]; exact (below_size T6_)) : w.heap.size ≤ b11); replace BK4 := BF_ BK4 hb; replace BK5 := BF_ BK5 hb; replace BK6 := BF_ BK6 hb; replace HB := Aside0.mk (below_step T6_ hb); clear hb hbm hg)
    | ((refine gate_insert (v := .func 34) rfl ?_); refine ins_event rfl rfl Tryz.underlying59 Tryz.underlying9 b11 _ _ ⟨#[97, 100, 100]⟩ (.func (.func 34) #[] #[]) rfl rfl rfl HM.out (by kernel_rfl) ?_; intro wi0 hbm hg; replace BK4 := Aside0.mk (blk_map BK4.out HM.out hg); replace BK5 := Aside0.mk (blk_map BK5.out HM.out hg); replace BK6 := Aside0.mk (blk_map BK6.out HM.out hg); replace HB := Aside0.mk (HB.out.grown hg HB.out.size (fun k hk => by injection hk with hk; rw [← hk]; exact GE11.out)); replace HM := Aside0.mk hbm; clear hbm hg)
    | ((refine gate_insert (v := .func 35) rfl ?_); refine ins_event rfl rfl Tryz.underlying59 Tryz.underlying9 b11 _ _ ⟨#[115, 117, 98]⟩ (.func (.func 35) #[] #[]) rfl rfl rfl HM.out (by kernel_rfl) ?_; intro wi1 hbm hg; replace BK4 := Aside0.mk (blk_map BK4.out HM.out hg); replace BK5 := Aside0.mk (blk_map BK5.out HM.out hg); replace BK6 := Aside0.mk (blk_map BK6.out HM.out hg); replace HB := Aside0.mk (HB.out.grown hg HB.out.size (fun k hk => by injection hk with hk; rw [← hk]; exact GE11.out)); replace HM := Aside0.mk hbm; clear hbm hg)
    | ((refine gate_insert (v := .func 21) rfl ?_); refine ins_event rfl rfl Tryz.underlying59 Tryz.underlying9 b11 _ _ ⟨#[109, 117, 108]⟩ (.func (.func 21) #[] #[]) rfl rfl rfl HM.out (by kernel_rfl) ?_; intro wi2 hbm hg; replace BK4 := Aside0.mk (blk_map BK4.out HM.out hg); replace BK5 := Aside0.mk (blk_map BK5.out HM.out hg); replace BK6 := Aside0.mk (blk_map BK6.out HM.out hg); replace HB := Aside0.mk (HB.out.grown hg HB.out.size (fun k hk => by injection hk with hk; rw [← hk]; exact GE11.out)); replace HM := Aside0.mk hbm; clear hbm hg)
    | ((with_reducible refine gate_dst (N := 14) rfl ?_); refine look_no rfl rfl Tryz.underlying59 Tryz.underlying9 (fun _ => by kernel_rfl) b11 _ _ op rfl rfl HM.out HF.out ?_)
    | ((with_reducible refine gate_dst (N := 8) rfl ?_); refine box_event ?hg (N := 8) ?hd (cs := #[.nilFunc]) (t := 38) ?hr ?_; (case hd => rfl); (case hg => rfl); (case hr => exact T3_); intro g8 hg w8 hbox hb; have BK8 := Aside0.mk hbox; have GE8 := GE_ (w := w) hg; have NE4_8 := NB_ BK4 hg; replace BK4 := BF_ BK4 hb; have NE5_8 := NB_ BK5 hg; replace BK5 := BF_ BK5 hb; have NE6_8 := NB_ BK6 hg; replace BK6 := BF_ BK6 hb; replace HB := Aside0.mk (below_step T6_ hb); clear hb hbox hg; have hz8_0 : w8.cell? ⟨g8, 0, none⟩ = some (.nilFunc) := (blk_cell BK8.out 0).trans rfl; have hz8_1 := CA_ BK6; have hz8_2 := CB_ BK6; have hz8_3 := CA_ BK4; have hz8_4 := CB_ BK4; have hf8 := blk_frozen BK8.out 0; have hf60 := blk_frozen BK6.out 0; have hf61 := blk_frozen BK6.out 1; have hn4 := NE4_8.out; have hn6 := NE6_8.out; have hn46 := NE4_6.out; have hn56 := NE5_6.out))
  refine bodyPost_ret (results_ct rfl _ _ g6 25 #[.slice none 0 0, .slice none 0 0] (0, 0) _ rfl (blk_put (blk_put (blk_far BK6.out NE6_8.out _) 0 (.slice none 0 0) rfl) 1 (.slice none 0 0) rfl) Tryz.underlying25 rfl (by kernel_rfl)) rfl ?_
  exact ⟨_, _, rfl, Kd.R_nil _ _ _ _ _, Kd.R_nil _ _ _ _ _, T6_⟩
theorem zip_all (op : ByteArray) (A0 : Option Addr) (c0 : Nat) (A1 : Option Addr) (c1 : Nat) (s : List Int) (d : List ByteArray) (B0 : Option Addr) (e0 : Nat) (B1 : Option Addr) (e1 : Nat) (s2 : List Int) (d2 : List ByteArray) (ix N : Nat) (fn : Func) (hfn : Tryz.prog.funcs[N]? = some fn) (hnm : (fn.name == "runtime.NumGoroutine") = false) (hbd : fn.body.isSome = true) (rf : ByteArray → ByteArray → ByteArray × Int) (r : Int) (r0 : List Int) (r1 : List ByteArray) (w : World) (hG : Gs w) (hr0 : Kd.C (Kd.int .i64) w A0 s.length s) (hc0 : s.length ≤ c0) (hr1 : Kd.C Kd.string w A1 d.length d) (hs : s.length ≤ 1000) (hl : d.length ≤ 1000) (hd : ∀ x ∈ d, x.size ≤ 40000000000) (ir0 : Kd.C (Kd.int .i64) w B0 s2.length s2) (ic0 : s2.length ≤ e0) (ir1 : Kd.C Kd.string w B1 d2.length d2) (is : s2.length ≤ 1000) (il : d2.length ≤ 1000) (id' : ∀ x ∈ d2, x.size ≤ 40000000000) (hf : Instr.findNow .string (.string op) [⟨.string ⟨#[97, 100, 100]⟩, (.func (.func 34) #[] #[]), 0⟩, ⟨.string ⟨#[115, 117, 98]⟩, (.func (.func 35) #[] #[]), 1⟩, ⟨.string ⟨#[109, 117, 108]⟩, (.func (.func 21) #[] #[]), 2⟩] 0 = some (some (ix, (.func (.func N) #[] #[]))))
    (hF : ∀ x ∈ d, ∀ y ∈ d2, ∀ W, Below w.heap.size w W → Calls Tryz.prog N #[.string x, .string y] W fun e w' => e = .returned (.tuple #[.string (rf x y).1, .int .i64 (rf x y).2]) ∧ Below W.heap.size W w')
    (hc : (tRight ⟨s, d⟩ = false ∧ r = 1 ∧ r0 = [] ∧ r1 = []) ∨ (tRight ⟨s, d⟩ = true ∧ tRight ⟨s2, d2⟩ = false ∧ r = 1 ∧ r0 = [] ∧ r1 = []) ∨ (tRight ⟨s, d⟩ = true ∧ tRight ⟨s2, d2⟩ = true ∧ decide (s = s2) = false ∧ r = 4 ∧ r0 = [] ∧ r1 = []) ∨ (tRight ⟨s, d⟩ = true ∧ tRight ⟨s2, d2⟩ = true ∧ decide (s = s2) = true ∧ d.length ≤ d2.length ∧ (∀ i : Nat, i < d.length → (rf (rdOf ByteArray.empty d (i : Int)) (rdOf ByteArray.empty d2 (i : Int))).2 = 0) ∧ r = 0 ∧ s = r0 ∧ r1 = ((List.range d.length).map fun (i : Nat) => (rf (rdOf ByteArray.empty d (i : Int)) (rdOf ByteArray.empty d2 (i : Int))).1))) :
    Calls Tryz.prog 14 #[.string op, .agg #[.slice A0 s.length c0, .slice A1 d.length c1], .agg #[.slice B0 s2.length e0, .slice B1 d2.length e1]] w fun e w' => ∃ v0_ v1_ : Value, e = .returned (.tuple #[.agg #[v0_, v1_], .int .i64 r]) ∧ Kd.R (Kd.int .i64) 3 w' w.heap.size (fun _ => True) v0_ r0 ∧ Kd.R Kd.string 9 w' w.heap.size (fun _ => True) v1_ r1 ∧ Below w.heap.size w w' := by
  have HF := Aside0.mk hf
  have KA := Aside0.mk (fun (W : World) (hb : Below w.heap.size w W) => (show Calls Tryz.prog 15 #[.agg #[.slice A0 s.length c0, .slice A1 d.length c1]] W _ from tright_calls A0 c0 A1 c1 ⟨s, d⟩ W (hG.below hb) (Kd.C_below hr0 hb) hc0 (Kd.C_below hr1 hb) hs hl hd))
  have KB := Aside0.mk (fun (W : World) (hb : Below w.heap.size w W) => (show Calls Tryz.prog 15 #[.agg #[.slice B0 s2.length e0, .slice B1 d2.length e1]] W _ from tright_calls B0 e0 B1 e1 ⟨s2, d2⟩ W (hG.below hb) (Kd.C_below ir0 hb) ic0 (Kd.C_below ir1 hb) is il id'))
  have KS := Aside0.mk (fun (W : World) (hb : Below w.heap.size w W) => shSame_calls A0 c0 s B0 e0 s2 W (Kd.C_below hr0 hb) hc0 (Kd.C_below ir0 hb) ic0 hs)
  have HB := Aside0.mk (Below.refl w.heap.size w)
  rcases hc with ⟨ht, rfl, rfl, rfl⟩ | ⟨ht, hu, rfl, rfl, rfl⟩ | ⟨ht, hu, he, rfl, rfl, rfl⟩ | ⟨ht, hu, he, hdl, ho, rfl, rfl, rfl⟩
  all_goals
    first
      | have KE := Aside0.mk (fun (W : World) (g8 g5 : Nat) (hb : Below w.heap.size w W) (h8 : W.cell? ⟨g8, 0, none⟩ = some (.func (.func N) #[] #[])) (h5 : W.cell? ⟨g5, 1, none⟩ = some (.slice B1 d2.length e1)) => each_calls 38 _ Tryz.func38 (by kernel_rfl) rfl #[.pointer (some ⟨g8, 0, none⟩), .pointer (some ⟨g5, 0, none⟩)] (fun i => (rf (rdOf ByteArray.empty d (i : Int)) (rdOf ByteArray.empty d2 (i : Int))).1) A0 c0 A1 c1 ⟨s, d⟩ W (Kd.C_below hr0 hb) (Kd.C_below hr1 hb) hs hl (fun i hi W2 hb2 => by
          have hi : i < d.length := hi
          obtain ⟨ad, e, hx⟩ := Kd.at_string (Kd.C_below ir1 (below_step hb hb2)) (i : Int) (by omega) (by omega)
          rw [Int.toNat_natCast] at hx
          have h := zip1_calls N fn hfn hnm hbd i d2.length e1 g8 g5 ad (rdOf ByteArray.empty d (i : Int)) (rdOf ByteArray.empty d2 (i : Int)) _ _ W2 (cell_below hb2 h8) (by rw [← e]; exact cell_below hb2 h5) hx (by omega) il (fun W3 hb3 => hF _ (rdOf_mem d i hi) _ (rdOf_mem d2 i (by omega)) W3 (below_step (below_step hb hb2) hb3))
          rw [ho i hi] at h
          exact h))
      | have KE := Aside0.mk True.intro
    rw [ht] at KA
    (try rw [hu] at KB)
    (try rw [he] at KS)
    clear hG hr0 hc0 hr1 hs hl hd ir0 ic0 ir1 is il id' hf ht hF
    (try clear hu)
    (try clear he)
    (try clear ho)
    (try clear hdl)
    go_enter Tryz.func14, Tryz.ntmps14
    go_wp2_with (first
      | ((with_reducible refine gate_dst (N := 4) rfl ?_); refine box_event ?hg (N := 4) ?hd (cs := #[.slice A0 s.length c0, .slice A1 d.length c1]) (t := 25) ?hr ?_; (case hd => rfl); (case hg => rfl); (case hr => exact T3_); intro g4 hg w4 hbox hb; have BK4 := Aside0.mk hbox; replace HB := Aside0.mk (below_step T6_ hb); clear hb hbox hg)
      | ((with_reducible refine gate_dst (N := 5) rfl ?_); refine box_event ?hg (N := 5) ?hd (cs := #[.slice B0 s2.length e0, .slice B1 d2.length e1]) (t := 25) ?hr ?_; (case hd => rfl); (case hg => rfl); (case hr => exact T3_); intro g5 hg w5 hbox hb; have BK5 := Aside0.mk hbox; have NE4_5 := NB_ BK4 hg; replace BK4 := BF_ BK4 hb; replace HB := Aside0.mk (below_step T6_ hb); clear hb hbox hg)
      | ((with_reducible refine gate_dst (N := 6) rfl ?_); refine box_event ?hg (N := 6) ?hd (cs := #[.slice none 0 0, .slice none 0 0]) (t := 25) ?hr ?_; (case hd => rfl); (case hg => rfl); (case hr => exact T3_); intro g6 hg w6 hbox hb; have BK6 := Aside0.mk hbox; have GE6 := GE_ (w := w) hg; have NE4_6 := NB_ BK4 hg; replace BK4 := BF_ BK4 hb; have NE5_6 := NB_ BK5 hg; replace BK5 := BF_ BK5 hb; replace HB := Aside0.mk (below_step T6_ hb); clear hb hbox hg)
      | ((with_reducible refine gate_dst (N := 11) rfl ?_); refine map_event rfl (N := 11) rfl 59 rfl ?_; intro b11 hg w11 hbm hb; have HM := Aside0.mk hbm; have GE11 := Aside0.mk ((by rw [hg]; exact (below_size T6_)) : w.heap.size ≤ b11); replace BK4 := BF_ BK4 hb; replace BK5 := BF_ BK5 hb; replace BK6 := BF_ BK6 hb; replace HB := Aside0.mk (below_step T6_ hb); clear hb hbm hg)
      | ((refine gate_insert (v := .func 34) rfl ?_); refine ins_event rfl rfl Tryz.underlying59 Tryz.underlying9 b11 _ _ ⟨#[97, 100, 100]⟩ (.func (.func 34) #[] #[]) rfl rfl rfl HM.out (by kernel_rfl) ?_; intro wi0 hbm hg; replace BK4 := Aside0.mk (blk_map BK4.out HM.out hg); replace BK5 := Aside0.mk (blk_map BK5.out HM.out hg); replace BK6 := Aside0.mk (blk_map BK6.out HM.out hg); replace HB := Aside0.mk (HB.out.grown hg HB.out.size (fun k hk => by injection hk with hk; rw [← hk]; exact GE11.out)); replace HM := Aside0.mk hbm; clear hbm hg)
      | ((refine gate_insert (v := .func 35) rfl ?_); refine ins_event rfl rfl Tryz.underlying59 Tryz.underlying9 b11 _ _ ⟨#[115, 117, 98]⟩ (.func (.func 35) #[] #[]) rfl rfl rfl HM.out (by kernel_rfl) ?_; intro wi1 hbm hg; replace BK4 := Aside0.mk (blk_map BK4.out HM.out hg); replace BK5 := Aside0.mk (blk_map BK5.out HM.out hg); replace BK6 := Aside0.mk (blk_map BK6.out HM.out hg); replace HB := Aside0.mk (HB.out.grown hg HB.out.size (fun k hk => by injection hk with hk; rw [← hk]; exact GE11.out)); replace HM := Aside0.mk hbm; clear hbm hg)
      | ((refine gate_insert (v := .func 21) rfl ?_); refine ins_event rfl rfl Tryz.underlying59 Tryz.underlying9 b11 _ _ ⟨#[109, 117, 108]⟩ (.func (.func 21) #[] #[]) rfl rfl rfl HM.out (by kernel_rfl) ?_; intro wi2 hbm hg; replace BK4 := Aside0.mk (blk_map BK4.out HM.out hg); replace BK5 := Aside0.mk (blk_map BK5.out HM.out hg); replace BK6 := Aside0.mk (blk_map BK6.out HM.out hg); replace HB := Aside0.mk (HB.out.grown hg HB.out.size (fun k hk => by injection hk with hk; rw [← hk]; exact GE11.out)); replace HM := Aside0.mk hbm; clear hbm hg)
      | ((with_reducible refine gate_dst (N := 14) rfl ?_); refine look_yes rfl rfl Tryz.underlying59 Tryz.underlying9 b11 _ _ op rfl rfl HM.out ix _ HF.out ?_)
      | ((with_reducible refine gate_dst (N := 8) rfl ?_); refine box_event ?hg (N := 8) ?hd (cs := #[.nilFunc]) (t := 38) ?hr ?_; (case hd => rfl); (case hg => rfl); (case hr => exact T3_); intro g8 hg w8 hbox hb; have BK8 := Aside0.mk hbox; have GE8 := GE_ (w := w) hg; have NE4_8 := NB_ BK4 hg; replace BK4 := BF_ BK4 hb; have NE5_8 := NB_ BK5 hg; replace BK5 := BF_ BK5 hb; have NE6_8 := NB_ BK6 hg; replace BK6 := BF_ BK6 hb; replace HB := Aside0.mk (below_step T6_ hb); clear hb hbox hg; have hz8_0 : w8.cell? ⟨g8, 0, none⟩ = some (.nilFunc) := (blk_cell BK8.out 0).trans rfl; have hz8_1 := CA_ BK6; have hz8_2 := CB_ BK6; have hz8_3 := CA_ BK4; have hz8_4 := CB_ BK4; have hf8 := blk_frozen BK8.out 0; have hf60 := blk_frozen BK6.out 0; have hf61 := blk_frozen BK6.out 1; have hn4 := NE4_8.out; have hn6 := NE6_8.out; have hn46 := NE4_6.out; have hn56 := NE5_6.out)
      | (go_at_call 15; with_reducible refine (KA.out _ T6_).mono ?_; rintro e w20 ⟨rfl, hb⟩; replace BK4 := BG_ BK4 hb; replace BK5 := BG_ BK5 hb; replace BK6 := BG_ BK6 hb; replace BK8 := Aside0.mk (blk_below (blk_put BK8.out 0 (.func (.func N) #[] #[]) rfl) hb); replace HB := Aside0.mk (below_step T6_ hb); clear hb; have hyw20_0 := CA_ BK6; have hyw20_1 := CB_ BK6; have hyw20_2 := CA_ BK5; have hyw20_3 := CB_ BK5; have hfzw200 := blk_frozen BK6.out 0; have hfzw201 := blk_frozen BK6.out 1)
      | (go_at_call 15; with_reducible refine (KB.out _ T6_).mono ?_; rintro e w21 ⟨rfl, hb⟩; replace BK4 := BF_ BK4 hb; replace BK5 := BF_ BK5 hb; replace BK6 := BF_ BK6 hb; replace BK8 := BF_ BK8 hb; replace HB := Aside0.mk (below_step T6_ hb); clear hb; have hyw21_0 := CA_ BK6; have hyw21_1 := CB_ BK6; have hyw21_2 := CA_ BK4; have hyw21_3 := CA_ BK5; have hfzw210 := blk_frozen BK6.out 0; have hfzw211 := blk_frozen BK6.out 1)
      | (go_at_call 36; with_reducible refine (KS.out _ T6_).mono ?_; rintro e w22 ⟨rfl, hb⟩; replace BK4 := BF_ BK4 hb; replace BK5 := BF_ BK5 hb; replace BK6 := BF_ BK6 hb; replace BK8 := BF_ BK8 hb; replace HB := Aside0.mk (below_step T6_ hb); clear hb; have hy22_0 := CA_ BK6; have hy22_1 := CB_ BK6; have hy22_2 := CA_ BK4; have hy22_3 := CB_ BK4; have hfz0 := blk_frozen BK6.out 0; have hfz1 := blk_frozen BK6.out 1)
      | (go_at_call 37; with_reducible refine (KE.out _ g8 g5 T6_ ((blk_cell BK8.out 0).trans rfl) ((blk_cell BK5.out 1).trans rfl)).mono ?_; rintro e w23 ⟨v0, v1, rfl, h0, h1, hb⟩; obtain ⟨Av, av, rfl⟩ := Kd.R_slice h0; obtain ⟨Bv, bv, rfl⟩ := Kd.R_slice h1; have HO0 := Aside0.mk (Kd.R_lower h0 (below_size T6_)); have HO1 := Aside0.mk (Kd.R_lower h1 (below_size T6_)); clear h0 h1; generalize List.length (List.map _ (List.range d.length)) = q at *; replace BK6 := BF_ BK6 hb; replace HB := Aside0.mk (below_step T6_ hb); clear hb; have hy23_0 := CA_ BK6; have hy23_1 := CB_ BK6; have hfy0 := blk_frozen BK6.out 0; have hfy1 := blk_frozen BK6.out 1))
    first
      | (refine bodyPost_ret (results_ct rfl _ _ g6 25 #[.slice Av s.length av, .slice Bv q bv] (0, 0) _ rfl (blk_put (blk_put BK6.out 0 (.slice Av s.length av) rfl) 1 (.slice Bv q bv) rfl) Tryz.underlying25 rfl (by kernel_rfl)) rfl ?_; exact ⟨_, _, rfl, row_set2 HO0.out rfl BK6.out (by decide) _ _ _ _, row_set2 HO1.out rfl BK6.out (by decide) _ _ _ _, T6_⟩)
      | (refine bodyPost_ret (results_ct rfl _ _ g6 25 #[.slice none 0 0, .slice none 0 0] (0, 0) _ rfl (blk_put (blk_put BK6.out 0 (.slice none 0 0) rfl) 1 (.slice none 0 0) rfl) Tryz.underlying25 rfl (by kernel_rfl)) rfl ?_; exact ⟨_, _, rfl, Kd.R_nil _ _ _ _ _, Kd.R_nil _ _ _ _ _, T6_⟩)
end Go.Proofs.YtlglpffoijdgbaaGreatDoor.Ten
/- tensor.Fill: the walks. -/
namespace Go.Proofs.YtlglpffoijdgbaaGreatDoor.Ten
open Go Go.RowKit Go.Extern.Stop Go.Stop Go.Extern Go.Proofs.YtlglpffoijdgbaaGreatDoorW.PrintWords Go.Proofs.YtlglpffoijdgbaaGreatDoorW.PrintMore Go.Proofs.YtlglpffoijdgbaaGreatDoorW.PrintLast Go.Proofs.YtlglpffoijdgbaaGreatDoor.PC Go.Proofs.YtlglpffoijdgbaaGreatDoor.Th Go.Proofs.YtlglpffoijdgbaaGreatDoor.Th.Wh Go.Proofs.YtlglpffoijdgbaaGreatDoor.Err
set_option maxHeartbeats 4000000
set_option maxRecDepth 1000000
set_option linter.unusedVariables false
theorem fill_all (A0 : Option Addr) (c0 : Nat) (s : List Int) (k : ByteArray) (r : Int) (r0 : List Int) (r1 : List ByteArray) (n : Nat) (w : World) (hG : Gs w) (hr0 : Kd.C (Kd.int .i64) w A0 s.length s) (hc0 : s.length ≤ c0) (hs : s.length ≤ 1000) (hk : k.size ≤ 40000000000) (hc : (shOk s = false ∧ r = 1 ∧ r0 = [] ∧ r1 = []) ∨ (shOk s = true ∧ rRight k = false ∧ r = 1 ∧ r0 = [] ∧ r1 = []) ∨ (shOk s = true ∧ rRight k = true ∧ size s = (n : Int) ∧ 1 ≤ n ∧ n ≤ 64 ∧ r = 0 ∧ s = r0 ∧ r1 = List.replicate n k)) :
    Calls Tryz.prog 24 #[.slice A0 s.length c0, .string k] w fun e w' => ∃ v0_ v1_ : Value, e = .returned (.tuple #[.agg #[v0_, v1_], .int .i64 r]) ∧ Kd.R (Kd.int .i64) 3 w' w.heap.size (fun _ => True) v0_ r0 ∧ Kd.R Kd.string 9 w' w.heap.size (fun _ => True) v1_ r1 ∧ Below w.heap.size w w' := by
  have KS := Aside0.mk (fun (W : World) (hb : Below w.heap.size w W) => shRight_q A0 c0 s W (Kd.C_below hr0 hb) hc0 hs)
  have KK := Aside0.mk (fun (W : World) (hb : Below w.heap.size w W) => right_calls k hk W (hG.below hb))
  have KC := Aside0.mk (fun (W : World) (hb : Below w.heap.size w W) => cloneI_calls A0 c0 s W (Kd.C_below hr0 hb) (by omega))
  have KZ := Aside0.mk (fun (W : World) (hb : Below w.heap.size w W) => shSize_q A0 c0 s W (Kd.C_below hr0 hb) hc0 hs)
  have HB := Aside0.mk (Below.refl w.heap.size w)
  rcases hc with ⟨ht, rfl, rfl, rfl⟩ | ⟨ht, hkr, rfl, rfl, rfl⟩ | ⟨ht, hkr, hn, h1, hn64, rfl, rfl, rfl⟩
  all_goals
    first
      | have KP := Aside0.mk (fun (W : World) (A : Option Addr) (c : Nat) (hr : Kd.C Kd.string W A ([k] : List ByteArray).length [k]) (hc : ([k] : List ByteArray).length ≤ c) => show Calls Tryz.prog 53 #[.slice A 1 c, .int .i64 (n : Int)] W fun e w' => ∃ v0_ : Value, e = .returned (v0_) ∧ Kd.R Kd.string 9 w' W.heap.size (fun _ => True) v0_ (List.replicate n k) ∧ Below W.heap.size W w' from repeat_calls A c k n W hr hc h1 hn64)
      | have KP := Aside0.mk True.intro
    (try rw [hn] at KZ)
    rw [ht] at KS
    (try rw [hkr] at KK)
    clear hG hr0 hc0 hs hk ht
    (try clear hkr)
    (try clear hn h1 hn64)
    go_enter Tryz.func24, Tryz.ntmps24
    go_wp2_with (first
      | ((with_reducible refine gate_dst (N := 4) rfl ?_); refine box_event ?hg (N := 4) ?hd (cs := #[.slice none 0 0, .slice none 0 0]) (t := 25) ?hr ?_; (case hd => rfl); (case hg => rfl); (case hr => exact T3_); intro g4 hg w4 hbox hb; have BK4 := Aside0.mk hbox; have GE4 := GE_ (w := w) hg; replace HB := Aside0.mk (below_step T6_ hb); clear hb hbox hg; have hz4_0 := CA_ BK4; have hz4_1 := CB_ BK4; have hf40 := blk_frozen BK4.out 0; have hf41 := blk_frozen BK4.out 1)
      | (go_at_call 39; with_reducible refine (KS.out _ T6_).mono ?_; rintro e w5 ⟨rfl, hb⟩; replace hb := hb.below; replace BK4 := BF_ BK4 hb; replace HB := Aside0.mk (below_step T6_ hb); clear hb; have hyw50 : w5.cell? ⟨g4, 0, none⟩ = some (.slice none 0 0) := (blk_cell BK4.out 0).trans rfl; have hyw51 : w5.cell? ⟨g4, 1, none⟩ = some (.slice none 0 0) := (blk_cell BK4.out 1).trans rfl; have hzw50 := blk_frozen BK4.out 0; have hzw51 := blk_frozen BK4.out 1)
      | (go_at_call 43; with_reducible refine (KK.out _ T6_).mono ?_; rintro e w6 ⟨rfl, hb⟩; replace BK4 := BF_ BK4 hb; replace HB := Aside0.mk (below_step T6_ hb); clear hb; have hyw60 : w6.cell? ⟨g4, 0, none⟩ = some (.slice none 0 0) := (blk_cell BK4.out 0).trans rfl; have hyw61 : w6.cell? ⟨g4, 1, none⟩ = some (.slice none 0 0) := (blk_cell BK4.out 1).trans rfl; have hzw60 := blk_frozen BK4.out 0; have hzw61 := blk_frozen BK4.out 1)
      | (go_at_call 52; with_reducible refine (KC.out _ T6_).mono ?_; rintro e w7 ⟨v0, rfl, ho, hb⟩; obtain ⟨Av, av, rfl⟩ := Kd.R_slice ho; have HO0 := Aside0.mk (Kd.R_lower ho (below_size T6_)); replace BK4 := BF_ BK4 hb; replace HB := Aside0.mk (below_step T6_ hb); clear ho hb)
      | ((with_reducible refine gate_dst (N := 18) rfl ?_); refine Kd.R_lit Kd.string _ 9 ?hg (N := 18) ?hd (xs := ([k] : List ByteArray)) (inner := [.string k]) (ok := fun _ => True) (okp := fun _ => True) ?hr ?hp (fun _ hk => hk) trivial (Below.refl _ _) (Nat.le_refl _) (by simp) ?_; (case hd => rfl); (case hg => rfl); (case hr => exact T3_); (case hp => exact Kd.reps_scalar [k]); intro v18 w18 ho hb hg_ hnew_; clear hg_ hnew_; obtain ⟨Ax, ax, rfl⟩ := Kd.R_slice ho; have HX := Aside0.mk ho; replace HO0 := Aside0.mk (Kd.R_below HO0.out hb); replace BK4 := BF_ BK4 hb; replace HB := Aside0.mk (below_step T6_ hb); clear hb ho)
      | (go_at_call 40; with_reducible refine (KZ.out _ T6_).mono ?_; rintro e w20 ⟨rfl, hb⟩; replace hb := hb.below; replace HX := Aside0.mk (Kd.R_below HX.out hb); replace HO0 := Aside0.mk (Kd.R_below HO0.out hb); replace BK4 := BF_ BK4 hb; replace HB := Aside0.mk (below_step T6_ hb); clear hb)
      | (go_at_call 53; with_reducible refine (KP.out _ _ _ (Kd.R_reads' HX.out).2.2 (Kd.R_reads' HX.out).2.1).mono ?_; rintro e w21 ⟨v1, rfl, ho, hb⟩; obtain ⟨Bv, bv, rfl⟩ := Kd.R_slice ho; have HO1 := Aside0.mk (Kd.R_lower ho (below_size T6_)); replace HO0 := Aside0.mk (Kd.R_below HO0.out hb); replace BK4 := BF_ BK4 hb; replace HB := Aside0.mk (below_step T6_ hb); clear ho hb; generalize (List.replicate n k).length = q at *; have hy210 : w21.cell? ⟨g4, 0, none⟩ = some (.slice none 0 0) := (blk_cell BK4.out 0).trans rfl; have hy211 : w21.cell? ⟨g4, 1, none⟩ = some (.slice none 0 0) := (blk_cell BK4.out 1).trans rfl; have hz210 := blk_frozen BK4.out 0; have hz211 := blk_frozen BK4.out 1))
    first
      | (refine bodyPost_ret (results_ct rfl _ _ g4 25 #[.slice Av s.length av, .slice Bv q bv] (0, 0) _ rfl (blk_put (blk_put BK4.out 0 (.slice Av s.length av) rfl) 1 (.slice Bv q bv) rfl) Tryz.underlying25 rfl (by kernel_rfl)) rfl ?_; exact ⟨_, _, rfl, row_set2 HO0.out rfl BK4.out (by decide) _ _ _ _, row_set2 HO1.out rfl BK4.out (by decide) _ _ _ _, T6_⟩)
      | (refine bodyPost_ret (results_ct rfl _ _ g4 25 #[.slice none 0 0, .slice none 0 0] (0, 0) _ rfl (blk_put (blk_put BK4.out 0 (.slice none 0 0) rfl) 1 (.slice none 0 0) rfl) Tryz.underlying25 rfl (by kernel_rfl)) rfl ?_; exact ⟨_, _, rfl, Kd.R_nil _ _ _ _ _, Kd.R_nil _ _ _ _ _, T6_⟩)
end Go.Proofs.YtlglpffoijdgbaaGreatDoor.Ten
/- tensor.Sum: the walks. -/
namespace Go.Proofs.YtlglpffoijdgbaaGreatDoor.Ten
open Go Go.RowKit Go.Extern.Stop Go.Stop Go.Extern Go.Proofs.YtlglpffoijdgbaaGreatDoorW.PrintWords Go.Proofs.YtlglpffoijdgbaaGreatDoorW.PrintMore Go.Proofs.YtlglpffoijdgbaaGreatDoorW.PrintLast Go.Proofs.YtlglpffoijdgbaaGreatDoor.PC Go.Proofs.YtlglpffoijdgbaaGreatDoor.Th Go.Proofs.YtlglpffoijdgbaaGreatDoor.Th.Wh Go.Proofs.YtlglpffoijdgbaaGreatDoor.Err
set_option maxHeartbeats 4000000
set_option maxRecDepth 1000000
set_option linter.unusedVariables false
theorem sum_no (A0 : Option Addr) (c0 : Nat) (A1 : Option Addr) (c1 : Nat) (s : List Int) (d : List ByteArray) (w : World) (hG : Gs w) (hr0 : Kd.C (Kd.int .i64) w A0 s.length s) (hc0 : s.length ≤ c0) (hr1 : Kd.C Kd.string w A1 d.length d) (hs : s.length ≤ 1000) (hl : d.length ≤ 1000) (hd : ∀ x ∈ d, x.size ≤ 40000000000) (ht : tRight ⟨s, d⟩ = false) :
    Calls Tryz.prog 22 #[.agg #[.slice A0 s.length c0, .slice A1 d.length c1]] w fun e w' => e = .returned (.tuple #[.string ⟨#[]⟩, .int .i64 1]) ∧ Below w.heap.size w w' := by
  have KR := Aside0.mk (fun (W : World) (hb : Below w.heap.size w W) => tright_calls A0 c0 A1 c1 ⟨s, d⟩ W (hG.below hb) (Kd.C_below hr0 hb) hc0 (Kd.C_below hr1 hb) hs hl hd)
  rw [ht] at KR
  have HB := Aside0.mk (Below.refl w.heap.size w)
  clear hG hr0 hc0 hr1 hs hl hd ht
  dsimp only at *
  go_enter Tryz.func22, Tryz.ntmps22
  go_wp2_with (first
    | ((with_reducible refine gate_dst (N := 1) rfl ?_); refine box_event ?hg (N := 1) ?hd (cs := #[.slice A0 s.length c0, .slice A1 d.length c1]) (t := 25) ?hr ?_; (case hd => rfl); (case hg => rfl); (case hr => exact T3_); intro g1 hg w1 hbox hb; have BK1 := Aside0.mk hbox; replace HB := Aside0.mk (below_step T6_ hb); clear hb hbox hg; have hz0 : w1.cell? ⟨g1, 0, none⟩ = some (.slice A0 s.length c0) := (blk_cell BK1.out 0).trans rfl; have hz1 : w1.cell? ⟨g1, 1, none⟩ = some (.slice A1 d.length c1) := (blk_cell BK1.out 1).trans rfl)
    | (go_at_call 15; with_reducible refine (KR.out _ T6_).mono ?_; rintro e w5 ⟨rfl, hb⟩; replace BK1 := BF_ BK1 hb; replace HB := Aside0.mk (below_step T6_ hb); clear hb; have hy1 : w5.cell? ⟨g1, 1, none⟩ = some (.slice A1 d.length c1) := (blk_cell BK1.out 1).trans rfl))
  go_ret2
  exact ⟨rfl, HB.out⟩
theorem sum_ok (A0 : Option Addr) (c0 : Nat) (A1 : Option Addr) (c1 : Nat) (s : List Int) (d : List ByteArray) (o : Nat → ByteArray) (w : World) (hG : Gs w) (hr0 : Kd.C (Kd.int .i64) w A0 s.length s) (hc0 : s.length ≤ c0) (hr1 : Kd.C Kd.string w A1 d.length d) (hs : s.length ≤ 1000) (hl : d.length ≤ 1000) (hd : ∀ x ∈ d, x.size ≤ 40000000000) (ht : tRight ⟨s, d⟩ = true) (h0 : o 0 = ⟨#[48]⟩) (ho : ∀ i : Nat, i < d.length → (o i).size ≤ 40000000000 ∧ o (i + 1) = (rAdd (o i) (rdOf ByteArray.empty d (i : Int))).1) :
    Calls Tryz.prog 22 #[.agg #[.slice A0 s.length c0, .slice A1 d.length c1]] w fun e w' => e = .returned (.tuple #[.string (o d.length), .int .i64 0]) ∧ Below w.heap.size w w' := by
  have KR := Aside0.mk (fun (W : World) (hb : Below w.heap.size w W) => tright_calls A0 c0 A1 c1 ⟨s, d⟩ W (hG.below hb) (Kd.C_below hr0 hb) hc0 (Kd.C_below hr1 hb) hs hl hd)
  rw [ht] at KR
  have HB := Aside0.mk (Below.refl w.heap.size w)
  have HR := Aside0.mk hr1
  have H0 := Aside0.mk h0
  have KA := Aside0.mk (fun (i : Nat) (hi : i < d.length) (W : World) (hb : Below w.heap.size w W) => show Calls Tryz.prog 34 #[.string (o i), .string (rdOf ByteArray.empty d (i : Int))] W fun e w' => e = .returned (.tuple #[.string (o (i + 1)), .int .i64 (rAdd (o i) (rdOf ByteArray.empty d (i : Int))).2]) ∧ Below W.heap.size W w' from (ho i hi).2 ▸ add_calls _ _ (ho i hi).1 (hd _ (rdOf_mem d i hi)) W (hG.below hb))
  have HL := Aside0.mk hl
  clear hG hr0 hc0 hr1 hs hl hd ht ho h0
  dsimp only at *
  obtain ⟨m, hm⟩ : ∃ m, d.length = m := ⟨_, rfl⟩
  rw [hm] at HR KR KA HL ⊢
  clear hm
  go_enter Tryz.func22, Tryz.ntmps22
  go_wp2_with (first
    | ((with_reducible refine gate_dst (N := 1) rfl ?_); refine box_event ?hg (N := 1) ?hd (cs := #[.slice A0 s.length c0, .slice A1 m c1]) (t := 25) ?hr ?_; (case hd => rfl); (case hg => rfl); (case hr => exact T3_); intro g1 hg w1 hbox hb; have BK1 := Aside0.mk hbox; replace HB := Aside0.mk (below_step T6_ hb); clear hb hbox hg; have hz0 : w1.cell? ⟨g1, 0, none⟩ = some (.slice A0 s.length c0) := (blk_cell BK1.out 0).trans rfl; have hz1 : w1.cell? ⟨g1, 1, none⟩ = some (.slice A1 m c1) := (blk_cell BK1.out 1).trans rfl)
    | (go_at_call 15; with_reducible refine (KR.out _ T6_).mono ?_; rintro e w5 ⟨rfl, hb⟩; replace BK1 := BF_ BK1 hb; replace HB := Aside0.mk (below_step T6_ hb); clear hb; have hy1 : w5.cell? ⟨g1, 1, none⟩ = some (.slice A1 m c1) := (blk_cell BK1.out 1).trans rfl))
  go_loopg [4, 13] m (fun gf v4 v13 wx => ∃ p : Nat, v4 = .string (o p) ∧ v13 = .int .i64 p ∧ Aside0 (p + gf = m) ∧ Aside0 (Below w.heap.size w wx))
  case atStart => exact ⟨0, by rw [H0.out], rfl, ⟨by omega⟩, HB⟩
  case round =>
    clear BK1 HB hy1 hz0 hz1
    obtain ⟨p, rfl, rfl, HP, HB⟩ := hrel
    by_cases hlt : p < m
    · obtain ⟨g', rfl⟩ : ∃ g', gk = g' + 1 := ⟨gk - 1, by have := HP.out; omega⟩
      obtain ⟨ad, e, hx⟩ := Kd.at_string HR.out (p : Int) (by omega) (by omega)
      cases e
      replace hx := (HB.out.cell (World.block_lt_of_cell? w _ hx)).trans hx
      have KP := Aside0.mk (KA.out p hlt)
      generalize rdOf ByteArray.empty d (p : Int) = x at *
      generalize (rAdd (o p) x).2 = ec at *
      simp only [Int.toNat_natCast] at hx
      have hlb : decide ((p : Int) < (m : Int)) = true := decide_eq_true (by omega)
      have hm1 := HL.out
      go_wp2_with (go_at_call 34; with_reducible refine (KP.out _ HB.out).mono ?_; rintro e w7 ⟨rfl, hb⟩; replace HB := Aside0.mk (below_step HB.out hb); clear hb)
      go_roundg g'
      case measure => omega
      case rel => exact ⟨p + 1, rfl, by go_num, ⟨by have := HP.out; omega⟩, HB⟩
    · obtain rfl : p = m := by have := HP.out; omega
      have hlb : decide ((p : Int) < (p : Int)) = false := decide_eq_false (by omega)
      go_wp2
      go_ret2
      exact ⟨rfl, HB.out⟩
end Go.Proofs.YtlglpffoijdgbaaGreatDoor.Ten
/- Tensors: what their functions answer, as functions of what lies in memory; each one's contract. -/
namespace Go.Proofs.YtlglpffoijdgbaaGreatDoor.Ten
open Go Go.RowKit Go.Proofs.YtlglpffoijdgbaaGreatDoorW.PrintWords Go.Proofs.YtlglpffoijdgbaaGreatDoorW.PrintMore Go.Proofs.YtlglpffoijdgbaaGreatDoorW.PrintLast Go.Proofs.YtlglpffoijdgbaaGreatDoor.PC Go.Proofs.YtlglpffoijdgbaaGreatDoor.Th Go.Proofs.YtlglpffoijdgbaaGreatDoor.Th.Wh Go.Proofs.YtlglpffoijdgbaaGreatDoor.Err
set_option linter.unusedVariables false
/-- Short enough for the walks. -/
def Sm (s : List Int) (d : List ByteArray) : Prop := s.length ≤ 1000 ∧ d.length ≤ 1000 ∧ ∀ x ∈ d, x.size ≤ 3000000000
theorem Sm.big {s : List Int} {d : List ByteArray} (h : Sm s d) : ∀ x ∈ d, x.size ≤ 40000000000 := fun x hx => Nat.le_trans (h.2.2 x hx) (by decide)
def nilT : TV := ⟨[], []⟩
theorem tRight_all {t : TV} (h : tRight t = true) : ∀ x ∈ t.d, rRight x = true := by
  unfold tRight at h
  rw [Bool.and_eq_true, Bool.not_eq_true'] at h
  intro x hx
  have h2 := h.2
  rw [List.any_eq_false] at h2
  have := h2 x hx
  unfold nr at this
  simpa using this
theorem tRight_sh {t : TV} (h : tRight t = true) : shOk t.s = true ∧ (t.d.length : Int) = sz t.s := by
  unfold tRight at h
  rw [Bool.and_eq_true, Bool.and_eq_true, beq_iff_eq] at h
  refine ⟨h.1.1, ?_⟩
  rw [h.1.2, size, if_pos h.1.1]
theorem rRight_some {x : ByteArray} (h : rRight x = true) : ∃ q, rv x = some q := by
  unfold rRight at h
  exact Option.isSome_iff_exists.1 h
theorem rMul_ok {x y : ByteArray} (h : rRight x = true) (h' : rRight y = true) : (rMul x y).2 = 0 := by
  obtain ⟨p, hp⟩ := rRight_some h
  obtain ⟨q, hq⟩ := rRight_some h'
  rw [rMul, hp, hq]
theorem rAdd_ok {x y : ByteArray} (h : rRight x = true) (h' : rRight y = true) : (rAdd x y).2 = 0 := by
  obtain ⟨p, hp⟩ := rRight_some h
  obtain ⟨q, hq⟩ := rRight_some h'
  rw [rAdd, hp, hq]
theorem rSub_ok {x y : ByteArray} (h : rRight x = true) (h' : rRight y = true) : (rSub x y).2 = 0 := by
  obtain ⟨p, hp⟩ := rRight_some h
  obtain ⟨q, hq⟩ := rRight_some h'
  rw [rSub, hp, hq]
theorem rPower_ok {x : ByteArray} {n : Int} (h : rRight x = true) (h0 : 0 ≤ n) (h6 : n ≤ 6) : (rPower x n).2 = 0 := by
  obtain ⟨p, hp⟩ := rRight_some h
  rw [rPower, hp]
  dsimp only
  rw [if_neg (by omega)]
theorem map_at {α : Type} (d : List ByteArray) (f : ByteArray → α) : ((List.range d.length).map fun (i : Nat) => f (rdOf ByteArray.empty d (i : Int))) = d.map f := by
  apply List.ext_getElem
  · simp
  · intro i h1 h2
    simp only [List.length_map, List.length_range] at h1
    simp [rdOf, List.getD, h1]
theorem zip_at {α : Type} (d d' : List ByteArray) (f : ByteArray → ByteArray → α) (h : d.length = d'.length) : ((List.range d.length).map fun (i : Nat) => f (rdOf ByteArray.empty d (i : Int)) (rdOf ByteArray.empty d' (i : Int))) = List.zipWith f d d' := by
  apply List.ext_getElem
  · simp; omega
  · intro i h1 h2
    simp only [List.length_map, List.length_range] at h1
    have h3 : i < d'.length := by omega
    simp [rdOf, List.getD, h1, h3]
noncomputable def tScale (t : TV) (k : ByteArray) : TV × Int := if tRight t = true then if rRight k = true then (⟨t.s, t.d.map fun x => (rMul x k).1⟩, 0) else (nilT, 1) else (nilT, 1)
noncomputable def tPower (t : TV) (n : Int) : TV × Int := if tRight t = true then if 0 ≤ n ∧ n ≤ 6 then (⟨t.s, t.d.map fun x => (rPower x n).1⟩, 0) else (nilT, 1) else (nilT, 1)
noncomputable def tFill (s : List Int) (k : ByteArray) : TV × Int := if shOk s = true then if rRight k = true then (⟨s, List.replicate (size s).toNat k⟩, 0) else (nilT, 1) else (nilT, 1)
noncomputable def accS (d : List ByteArray) : ByteArray := d.foldl (fun a x => (rAdd a x).1) ⟨#[48]⟩
noncomputable def tSum (t : TV) : ByteArray × Int := if tRight t = true then (accS t.d, 0) else (⟨#[]⟩, 1)
noncomputable def opf (op : ByteArray) : Option (ByteArray → ByteArray → ByteArray × Int) := if op = ⟨#[97, 100, 100]⟩ then some rAdd else if op = ⟨#[115, 117, 98]⟩ then some rSub else if op = ⟨#[109, 117, 108]⟩ then some rMul else none
noncomputable def tZip (op : ByteArray) (a b : TV) : TV × Int := match opf op with
  | none => (nilT, 1)
  | some rf => if tRight a = true then if tRight b = true then if a.s = b.s then (⟨a.s, List.zipWith (fun x y => (rf x y).1) a.d b.d⟩, 0) else (nilT, 4) else (nilT, 1) else (nilT, 1)
/-- What a function that hands back a tensor and a number leaves. -/
def Res (w : World) (r : TV × Int) (e : Ending) (w' : World) : Prop := ∃ v0_ v1_ : Value, e = .returned (.tuple #[.agg #[v0_, v1_], .int .i64 r.2]) ∧ Kd.R (Kd.int .i64) 3 w' w.heap.size (fun _ => True) v0_ r.1.s ∧ Kd.R Kd.string 9 w' w.heap.size (fun _ => True) v1_ r.1.d ∧ Below w.heap.size w w'
theorem scale_calls (A0 : Option Addr) (c0 : Nat) (A1 : Option Addr) (c1 : Nat) (s : List Int) (d : List ByteArray) (k : ByteArray) (w : World) (hG : Gs w) (hr0 : Kd.C (Kd.int .i64) w A0 s.length s) (hc0 : s.length ≤ c0) (hr1 : Kd.C Kd.string w A1 d.length d) (h : Sm s d) (hk : k.size ≤ 40000000000) :
    Calls Tryz.prog 20 #[.agg #[.slice A0 s.length c0, .slice A1 d.length c1], .string k] w (Res w (tScale ⟨s, d⟩ k)) := by
  unfold tScale
  by_cases ht : tRight ⟨s, d⟩ = true
  · rw [if_pos ht]
    by_cases hkr : rRight k = true
    · rw [if_pos hkr]
      have := scale_all A0 c0 A1 c1 s d k 0 s _ w hG hr0 hc0 hr1 h.1 h.2.1 h.big hk (Or.inr (Or.inr ⟨ht, hkr, fun x hx => rMul_ok (tRight_all ht x hx) hkr, rfl, rfl, rfl⟩))
      rw [map_at d (fun x => (rMul x k).1)] at this
      exact this
    · rw [if_neg hkr]
      exact scale_all A0 c0 A1 c1 s d k 1 [] [] w hG hr0 hc0 hr1 h.1 h.2.1 h.big hk (Or.inr (Or.inl ⟨ht, by simpa using hkr, rfl, rfl, rfl⟩))
  · rw [if_neg ht]
    exact scale_all A0 c0 A1 c1 s d k 1 [] [] w hG hr0 hc0 hr1 h.1 h.2.1 h.big hk (Or.inl ⟨by simpa using ht, rfl, rfl, rfl⟩)
theorem power_calls' (A0 : Option Addr) (c0 : Nat) (A1 : Option Addr) (c1 : Nat) (s : List Int) (d : List ByteArray) (n : Int) (w : World) (hG : Gs w) (hr0 : Kd.C (Kd.int .i64) w A0 s.length s) (hc0 : s.length ≤ c0) (hr1 : Kd.C Kd.string w A1 d.length d) (h : Sm s d) :
    Calls Tryz.prog 23 #[.agg #[.slice A0 s.length c0, .slice A1 d.length c1], .int .i64 n] w (Res w (tPower ⟨s, d⟩ n)) := by
  unfold tPower
  by_cases ht : tRight ⟨s, d⟩ = true
  · rw [if_pos ht]
    by_cases hn : 0 ≤ n ∧ n ≤ 6
    · rw [if_pos hn]
      have := power_all A0 c0 A1 c1 s d n 0 s _ w hG hr0 hc0 hr1 h.1 h.2.1 h.big h.2.2 (Or.inr (Or.inr (Or.inr ⟨ht, hn.1, hn.2, fun x hx => rPower_ok (tRight_all ht x hx) hn.1 hn.2, rfl, rfl, rfl⟩)))
      rw [map_at d (fun x => (rPower x n).1)] at this
      exact this
    · rw [if_neg hn]
      by_cases h0 : n < 0
      · exact power_all A0 c0 A1 c1 s d n 1 [] [] w hG hr0 hc0 hr1 h.1 h.2.1 h.big h.2.2 (Or.inr (Or.inl ⟨ht, h0, rfl, rfl, rfl⟩))
      · exact power_all A0 c0 A1 c1 s d n 1 [] [] w hG hr0 hc0 hr1 h.1 h.2.1 h.big h.2.2 (Or.inr (Or.inr (Or.inl ⟨ht, by omega, by omega, rfl, rfl, rfl⟩)))
  · rw [if_neg ht]
    exact power_all A0 c0 A1 c1 s d n 1 [] [] w hG hr0 hc0 hr1 h.1 h.2.1 h.big h.2.2 (Or.inl ⟨by simpa using ht, rfl, rfl, rfl⟩)
theorem fill_calls (A0 : Option Addr) (c0 : Nat) (s : List Int) (k : ByteArray) (w : World) (hG : Gs w) (hr0 : Kd.C (Kd.int .i64) w A0 s.length s) (hc0 : s.length ≤ c0) (hs : s.length ≤ 1000) (hk : k.size ≤ 40000000000) :
    Calls Tryz.prog 24 #[.slice A0 s.length c0, .string k] w (Res w (tFill s k)) := by
  unfold tFill
  by_cases ht : shOk s = true
  · rw [if_pos ht]
    by_cases hkr : rRight k = true
    · rw [if_pos hkr]
      have hp := shOk_parts ht
      have h1 := sz_pos hp.1
      have e : size s = ((size s).toNat : Int) := by rw [size, if_pos ht]; omega
      exact fill_all A0 c0 s k 0 s _ _ w hG hr0 hc0 hs hk (Or.inr (Or.inr ⟨ht, hkr, e, by rw [size, if_pos ht]; omega, by rw [size, if_pos ht]; omega, rfl, rfl, rfl⟩))
    · rw [if_neg hkr]
      exact fill_all A0 c0 s k 1 [] [] 0 w hG hr0 hc0 hs hk (Or.inr (Or.inl ⟨ht, by simpa using hkr, rfl, rfl, rfl⟩))
  · rw [if_neg ht]
    exact fill_all A0 c0 s k 1 [] [] 0 w hG hr0 hc0 hs hk (Or.inl ⟨by simpa using ht, rfl, rfl, rfl⟩)
theorem sum_calls (A0 : Option Addr) (c0 : Nat) (A1 : Option Addr) (c1 : Nat) (s : List Int) (d : List ByteArray) (w : World) (hG : Gs w) (hr0 : Kd.C (Kd.int .i64) w A0 s.length s) (hc0 : s.length ≤ c0) (hr1 : Kd.C Kd.string w A1 d.length d) (h : Sm s d) (ha : ∀ p, (accS (d.take p)).size ≤ 40000000000) :
    Calls Tryz.prog 22 #[.agg #[.slice A0 s.length c0, .slice A1 d.length c1]] w fun e w' => e = .returned (.tuple #[.string (tSum ⟨s, d⟩).1, .int .i64 (tSum ⟨s, d⟩).2]) ∧ Below w.heap.size w w' := by
  unfold tSum
  by_cases ht : tRight ⟨s, d⟩ = true
  · rw [if_pos ht]
    have := sum_ok A0 c0 A1 c1 s d (fun p => accS (d.take p)) w hG hr0 hc0 hr1 h.1 h.2.1 h.big ht (by simp [accS]) (fun i hi => ⟨ha i, by
      show accS (d.take (i + 1)) = _
      unfold accS
      rw [List.take_succ_eq_append_getElem hi, List.foldl_append]
      simp [rdOf, List.getD, hi]⟩)
    rw [List.take_length] at this
    exact this
  · rw [if_neg ht]
    exact sum_no A0 c0 A1 c1 s d w hG hr0 hc0 hr1 h.1 h.2.1 h.big (by simpa using ht)
theorem zip_calls (op : ByteArray) (A0 : Option Addr) (c0 : Nat) (A1 : Option Addr) (c1 : Nat) (s : List Int) (d : List ByteArray) (B0 : Option Addr) (e0 : Nat) (B1 : Option Addr) (e1 : Nat) (s2 : List Int) (d2 : List ByteArray) (w : World) (hG : Gs w)
    (hr0 : Kd.C (Kd.int .i64) w A0 s.length s) (hc0 : s.length ≤ c0) (hr1 : Kd.C Kd.string w A1 d.length d) (h : Sm s d) (ir0 : Kd.C (Kd.int .i64) w B0 s2.length s2) (ic0 : s2.length ≤ e0) (ir1 : Kd.C Kd.string w B1 d2.length d2) (i : Sm s2 d2) :
    Calls Tryz.prog 14 #[.string op, .agg #[.slice A0 s.length c0, .slice A1 d.length c1], .agg #[.slice B0 s2.length e0, .slice B1 d2.length e1]] w (Res w (tZip op ⟨s, d⟩ ⟨s2, d2⟩)) := by
  have key : ∀ (ix N : Nat) (fn : Func) (hfn : Tryz.prog.funcs[N]? = some fn) (hnm : (fn.name == "runtime.NumGoroutine") = false) (hbd : fn.body.isSome = true) (rf : ByteArray → ByteArray → ByteArray × Int) (hok : ∀ {x y}, rRight x = true → rRight y = true → (rf x y).2 = 0)
      (hf : Instr.findNow .string (.string op) [⟨.string ⟨#[97, 100, 100]⟩, (.func (.func 34) #[] #[]), 0⟩, ⟨.string ⟨#[115, 117, 98]⟩, (.func (.func 35) #[] #[]), 1⟩, ⟨.string ⟨#[109, 117, 108]⟩, (.func (.func 21) #[] #[]), 2⟩] 0 = some (some (ix, (.func (.func N) #[] #[]))))
      (hF : ∀ x y, x.size ≤ 40000000000 → y.size ≤ 40000000000 → ∀ W, Gs W → Calls Tryz.prog N #[.string x, .string y] W fun e w' => e = .returned (.tuple #[.string (rf x y).1, .int .i64 (rf x y).2]) ∧ Below W.heap.size W w'),
      Calls Tryz.prog 14 #[.string op, .agg #[.slice A0 s.length c0, .slice A1 d.length c1], .agg #[.slice B0 s2.length e0, .slice B1 d2.length e1]] w (Res w (if tRight ⟨s, d⟩ = true then if tRight ⟨s2, d2⟩ = true then if s = s2 then (⟨s, List.zipWith (fun x y => (rf x y).1) d d2⟩, 0) else (nilT, 4) else (nilT, 1) else (nilT, 1))) := by
    intro ix N fn hfn hnm hbd rf hok hf hF
    have hF' : ∀ x ∈ d, ∀ y ∈ d2, ∀ W, Below w.heap.size w W → Calls Tryz.prog N #[.string x, .string y] W fun e w' => e = .returned (.tuple #[.string (rf x y).1, .int .i64 (rf x y).2]) ∧ Below W.heap.size W w' := fun x hx y hy W hb => hF x y (h.big x hx) (i.big y hy) W (hG.below hb)
    by_cases ht : tRight ⟨s, d⟩ = true
    · rw [if_pos ht]
      by_cases hu : tRight ⟨s2, d2⟩ = true
      · rw [if_pos hu]
        by_cases he : s = s2
        · rw [if_pos he]
          have hl : d.length = d2.length := by
            have h1 := (tRight_sh ht).2
            have h2 := (tRight_sh hu).2
            dsimp only at h1 h2
            rw [he] at h1
            omega
          have := zip_all op A0 c0 A1 c1 s d B0 e0 B1 e1 s2 d2 ix N fn hfn hnm hbd rf 0 s _ w hG hr0 hc0 hr1 h.1 h.2.1 h.big ir0 ic0 ir1 i.1 i.2.1 i.big hf hF' (Or.inr (Or.inr (Or.inr ⟨ht, hu, decide_eq_true he, by omega, fun j hj => hok (tRight_all ht _ (rdOf_mem d j hj)) (tRight_all hu _ (rdOf_mem d2 j (by omega))), rfl, rfl, rfl⟩)))
          rw [zip_at d d2 (fun x y => (rf x y).1) hl] at this
          exact this
        · rw [if_neg he]
          exact zip_all op A0 c0 A1 c1 s d B0 e0 B1 e1 s2 d2 ix N fn hfn hnm hbd rf 4 [] [] w hG hr0 hc0 hr1 h.1 h.2.1 h.big ir0 ic0 ir1 i.1 i.2.1 i.big hf hF' (Or.inr (Or.inr (Or.inl ⟨ht, hu, decide_eq_false he, rfl, rfl, rfl⟩)))
      · rw [if_neg hu]
        exact zip_all op A0 c0 A1 c1 s d B0 e0 B1 e1 s2 d2 ix N fn hfn hnm hbd rf 1 [] [] w hG hr0 hc0 hr1 h.1 h.2.1 h.big ir0 ic0 ir1 i.1 i.2.1 i.big hf hF' (Or.inr (Or.inl ⟨ht, by simpa using hu, rfl, rfl, rfl⟩))
    · rw [if_neg ht]
      exact zip_all op A0 c0 A1 c1 s d B0 e0 B1 e1 s2 d2 ix N fn hfn hnm hbd rf 1 [] [] w hG hr0 hc0 hr1 h.1 h.2.1 h.big ir0 ic0 ir1 i.1 i.2.1 i.big hf hF' (Or.inl ⟨by simpa using ht, rfl, rfl, rfl⟩)
  unfold tZip opf
  have hn : ∀ {a b : ByteArray}, a ≠ b → (a == b) = false := fun {a b} h => by
    rw [Bool.eq_false_iff]
    exact fun e => h ((MapKept.bytes_beq a b).1 e)
  by_cases c1' : op = ⟨#[97, 100, 100]⟩
  · rw [if_pos c1']
    exact key 0 34 _ Tryz.func34 (by kernel_rfl) rfl rAdd rAdd_ok (by rw [c1']; kernel_rfl) (fun x y hx hy W hG => add_calls x y hx hy W hG)
  rw [if_neg c1']
  by_cases c2' : op = ⟨#[115, 117, 98]⟩
  · rw [if_pos c2']
    exact key 1 35 _ Tryz.func35 (by kernel_rfl) rfl rSub rSub_ok (by rw [c2']; kernel_rfl) (fun x y hx hy W hG => sub_calls x y hx hy W hG)
  rw [if_neg c2']
  by_cases c3' : op = ⟨#[109, 117, 108]⟩
  · rw [if_pos c3']
    exact key 2 21 _ Tryz.func21 (by kernel_rfl) rfl rMul rMul_ok (by rw [c3']; kernel_rfl) (fun x y hx hy W hG => mul_calls x y hx hy W hG)
  rw [if_neg c3']
  exact zip_op op A0 c0 A1 c1 s d B0 e0 B1 e1 s2 d2 w hG hr0 hc0 hr1 h.1 h.2.1 h.big ir0 ic0 ir1 i.1 i.2.1 i.big (by simp [Instr.findNow, Instr.sameNow, hn c1', hn c2', hn c3'])
end Go.Proofs.YtlglpffoijdgbaaGreatDoor.Ten
