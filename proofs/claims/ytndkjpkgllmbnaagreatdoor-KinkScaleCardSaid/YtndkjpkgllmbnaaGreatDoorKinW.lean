/- kink: Relu, Abs, Step, Sign. -/
import Derived.Test.YtndkjpkgllmbnaaGreatDoorKinE
import Derived.Test.YtndkjpkgllmbnaaGreatDoorTenT
namespace Go.Proofs.YtndkjpkgllmbnaaGreatDoor.Ten
open Go Go.RowKit Go.Extern.Stop Go.Stop Go.Extern Go.Proofs.YtndkjpkgllmbnaaGreatDoorW.PrintWords Go.Proofs.YtndkjpkgllmbnaaGreatDoorW.PrintMore Go.Proofs.YtndkjpkgllmbnaaGreatDoorW.PrintLast Go.Proofs.YtndkjpkgllmbnaaGreatDoor.PK Go.Proofs.YtndkjpkgllmbnaaGreatDoor.Th Go.Proofs.YtndkjpkgllmbnaaGreatDoor.Th.Wh Go.Proofs.YtndkjpkgllmbnaaGreatDoor.Err
set_option maxHeartbeats 4000000
set_option maxRecDepth 1000000
set_option linter.unusedVariables false
theorem krelu_calls (A0 : Option Addr) (c0 : Nat) (A1 : Option Addr) (c1 : Nat) (s : List Int) (d : List ByteArray) (w : World) (hG : Gs w) (hr0 : Kd.C (Kd.int .i64) w A0 s.length s) (hc0 : s.length ≤ c0) (hr1 : Kd.C Kd.string w A1 d.length d) (hc1 : d.length ≤ c1) (h : Sm s d) :
    Calls Tryz.prog 15 #[.agg #[.slice A0 s.length c0, .slice A1 d.length c1]] w (Res w (tEach 0 ⟨s, d⟩)) := by
  have KE := Aside0.mk (fun (W : World) (hb : Below w.heap.size w W) => keach_calls 0 (by decide) A0 c0 A1 c1 s d W (hG.below hb) (Kd.C_below hr0 hb) hc0 (Kd.C_below hr1 hb) hc1 h)
  have HB := Aside0.mk (Below.refl w.heap.size w)
  clear hG hr0 hc0 hr1 hc1 h
  generalize tEach 0 ⟨s, d⟩ = q at *
  generalize s.length = n0 at *
  generalize d.length = n1 at *
  obtain ⟨⟨rs, rd⟩, re⟩ := q
  unfold Res at *
  dsimp only at *
  go_enter Tryz.func15, Tryz.ntmps15
  go_wp2_with (first
    | ((with_reducible refine gate_dst (N := 1) rfl ?_); refine box_event ?hg (N := 1) ?hd (cs := #[.slice A0 n0 c0, .slice A1 n1 c1]) (t := 25) ?hr ?_; (case hd => rfl); (case hg => rfl); (case hr => exact T3_); intro g1 hg w1 hbox hb; have BK1 := Aside0.mk hbox; replace HB := Aside0.mk (below_step T6_ hb); clear hb hbox hg)
    | ((with_reducible refine gate_dst (N := 2) rfl ?_); refine box_event ?hg (N := 2) ?hd (cs := #[.slice none 0 0, .slice none 0 0]) (t := 25) ?hr ?_; (case hd => rfl); (case hg => rfl); (case hr => exact T3_); intro g2 hg w2 hbox hb; have BK2 := Aside0.mk hbox; have GE2 := GE_ (w := w) hg; have NE1_2 := NB_ BK1 hg; replace BK1 := BF_ BK1 hb; replace HB := Aside0.mk (below_step T6_ hb); clear hb hbox hg; have hne := NE1_2.out; have hf0 := blk_frozen BK2.out 0; have hf1 := blk_frozen BK2.out 1; have hz0 := CA_ BK1; have hz1 := CB_ BK1; have hz2 := CA_ BK2; have hz3 := CB_ BK2)
    | (go_at_call 36; with_reducible refine (KE.out _ T6_).mono ?_; rintro e w7 ⟨v0, v1, rfl, h0, h1, hb⟩; replace BK2 := BF_ BK2 hb; obtain ⟨Av, av, rfl⟩ := Kd.R_slice h0; obtain ⟨Bv, bv, rfl⟩ := Kd.R_slice h1; have HO0 := Aside0.mk (Kd.R_lower h0 (below_size T6_)); have HO1 := Aside0.mk (Kd.R_lower h1 (below_size T6_)); clear h0 h1; generalize rs.length = m0 at *; generalize rd.length = m1 at *; replace HB := Aside0.mk (below_step T6_ hb); clear hb; have hyw7_0 := CA_ BK2; have hyw7_1 := CB_ BK2; have hr0 := blk_frozen BK2.out 0; have hr1 := blk_frozen BK2.out 1))
  refine bodyPost_ret (results_ct rfl _ _ g2 25 #[.slice Av m0 av, .slice Bv m1 bv] (0, 0) _ rfl (blk_put (blk_put BK2.out 0 (.slice Av m0 av) rfl) 1 (.slice Bv m1 bv) rfl) Tryz.underlying25 rfl (by kernel_rfl)) rfl ?_
  exact ⟨_, _, rfl, row_set2 HO0.out rfl BK2.out (by decide) _ _ _ _, row_set2 HO1.out rfl BK2.out (by decide) _ _ _ _, below_set (below_set HB.out GE2.out) GE2.out⟩
theorem kabs_calls (A0 : Option Addr) (c0 : Nat) (A1 : Option Addr) (c1 : Nat) (s : List Int) (d : List ByteArray) (w : World) (hG : Gs w) (hr0 : Kd.C (Kd.int .i64) w A0 s.length s) (hc0 : s.length ≤ c0) (hr1 : Kd.C Kd.string w A1 d.length d) (hc1 : d.length ≤ c1) (h : Sm s d) :
    Calls Tryz.prog 17 #[.agg #[.slice A0 s.length c0, .slice A1 d.length c1]] w (Res w (tEach 2 ⟨s, d⟩)) := by
  have KE := Aside0.mk (fun (W : World) (hb : Below w.heap.size w W) => keach_calls 2 (by decide) A0 c0 A1 c1 s d W (hG.below hb) (Kd.C_below hr0 hb) hc0 (Kd.C_below hr1 hb) hc1 h)
  have HB := Aside0.mk (Below.refl w.heap.size w)
  clear hG hr0 hc0 hr1 hc1 h
  generalize tEach 2 ⟨s, d⟩ = q at *
  generalize s.length = n0 at *
  generalize d.length = n1 at *
  obtain ⟨⟨rs, rd⟩, re⟩ := q
  unfold Res at *
  dsimp only at *
  go_enter Tryz.func17, Tryz.ntmps17
  go_wp2_with (first
    | ((with_reducible refine gate_dst (N := 1) rfl ?_); refine box_event ?hg (N := 1) ?hd (cs := #[.slice A0 n0 c0, .slice A1 n1 c1]) (t := 25) ?hr ?_; (case hd => rfl); (case hg => rfl); (case hr => exact T3_); intro g1 hg w1 hbox hb; have BK1 := Aside0.mk hbox; replace HB := Aside0.mk (below_step T6_ hb); clear hb hbox hg)
    | ((with_reducible refine gate_dst (N := 2) rfl ?_); refine box_event ?hg (N := 2) ?hd (cs := #[.slice none 0 0, .slice none 0 0]) (t := 25) ?hr ?_; (case hd => rfl); (case hg => rfl); (case hr => exact T3_); intro g2 hg w2 hbox hb; have BK2 := Aside0.mk hbox; have GE2 := GE_ (w := w) hg; have NE1_2 := NB_ BK1 hg; replace BK1 := BF_ BK1 hb; replace HB := Aside0.mk (below_step T6_ hb); clear hb hbox hg; have hne := NE1_2.out; have hf0 := blk_frozen BK2.out 0; have hf1 := blk_frozen BK2.out 1; have hz0 := CA_ BK1; have hz1 := CB_ BK1; have hz2 := CA_ BK2; have hz3 := CB_ BK2)
    | (go_at_call 36; with_reducible refine (KE.out _ T6_).mono ?_; rintro e w7 ⟨v0, v1, rfl, h0, h1, hb⟩; replace BK2 := BF_ BK2 hb; obtain ⟨Av, av, rfl⟩ := Kd.R_slice h0; obtain ⟨Bv, bv, rfl⟩ := Kd.R_slice h1; have HO0 := Aside0.mk (Kd.R_lower h0 (below_size T6_)); have HO1 := Aside0.mk (Kd.R_lower h1 (below_size T6_)); clear h0 h1; generalize rs.length = m0 at *; generalize rd.length = m1 at *; replace HB := Aside0.mk (below_step T6_ hb); clear hb; have hyw7_0 := CA_ BK2; have hyw7_1 := CB_ BK2; have hr0 := blk_frozen BK2.out 0; have hr1 := blk_frozen BK2.out 1))
  refine bodyPost_ret (results_ct rfl _ _ g2 25 #[.slice Av m0 av, .slice Bv m1 bv] (0, 0) _ rfl (blk_put (blk_put BK2.out 0 (.slice Av m0 av) rfl) 1 (.slice Bv m1 bv) rfl) Tryz.underlying25 rfl (by kernel_rfl)) rfl ?_
  exact ⟨_, _, rfl, row_set2 HO0.out rfl BK2.out (by decide) _ _ _ _, row_set2 HO1.out rfl BK2.out (by decide) _ _ _ _, below_set (below_set HB.out GE2.out) GE2.out⟩
theorem kstep_calls (A0 : Option Addr) (c0 : Nat) (A1 : Option Addr) (c1 : Nat) (s : List Int) (d : List ByteArray) (w : World) (hG : Gs w) (hr0 : Kd.C (Kd.int .i64) w A0 s.length s) (hc0 : s.length ≤ c0) (hr1 : Kd.C Kd.string w A1 d.length d) (hc1 : d.length ≤ c1) (h : Sm s d) :
    Calls Tryz.prog 20 #[.agg #[.slice A0 s.length c0, .slice A1 d.length c1]] w (Res w (tEach 1 ⟨s, d⟩)) := by
  have KE := Aside0.mk (fun (W : World) (hb : Below w.heap.size w W) => keach_calls 1 (by decide) A0 c0 A1 c1 s d W (hG.below hb) (Kd.C_below hr0 hb) hc0 (Kd.C_below hr1 hb) hc1 h)
  have HB := Aside0.mk (Below.refl w.heap.size w)
  clear hG hr0 hc0 hr1 hc1 h
  generalize tEach 1 ⟨s, d⟩ = q at *
  generalize s.length = n0 at *
  generalize d.length = n1 at *
  obtain ⟨⟨rs, rd⟩, re⟩ := q
  unfold Res at *
  dsimp only at *
  go_enter Tryz.func20, Tryz.ntmps20
  go_wp2_with (first
    | ((with_reducible refine gate_dst (N := 1) rfl ?_); refine box_event ?hg (N := 1) ?hd (cs := #[.slice A0 n0 c0, .slice A1 n1 c1]) (t := 25) ?hr ?_; (case hd => rfl); (case hg => rfl); (case hr => exact T3_); intro g1 hg w1 hbox hb; have BK1 := Aside0.mk hbox; replace HB := Aside0.mk (below_step T6_ hb); clear hb hbox hg)
    | ((with_reducible refine gate_dst (N := 2) rfl ?_); refine box_event ?hg (N := 2) ?hd (cs := #[.slice none 0 0, .slice none 0 0]) (t := 25) ?hr ?_; (case hd => rfl); (case hg => rfl); (case hr => exact T3_); intro g2 hg w2 hbox hb; have BK2 := Aside0.mk hbox; have GE2 := GE_ (w := w) hg; have NE1_2 := NB_ BK1 hg; replace BK1 := BF_ BK1 hb; replace HB := Aside0.mk (below_step T6_ hb); clear hb hbox hg; have hne := NE1_2.out; have hf0 := blk_frozen BK2.out 0; have hf1 := blk_frozen BK2.out 1; have hz0 := CA_ BK1; have hz1 := CB_ BK1; have hz2 := CA_ BK2; have hz3 := CB_ BK2)
    | (go_at_call 36; with_reducible refine (KE.out _ T6_).mono ?_; rintro e w7 ⟨v0, v1, rfl, h0, h1, hb⟩; replace BK2 := BF_ BK2 hb; obtain ⟨Av, av, rfl⟩ := Kd.R_slice h0; obtain ⟨Bv, bv, rfl⟩ := Kd.R_slice h1; have HO0 := Aside0.mk (Kd.R_lower h0 (below_size T6_)); have HO1 := Aside0.mk (Kd.R_lower h1 (below_size T6_)); clear h0 h1; generalize rs.length = m0 at *; generalize rd.length = m1 at *; replace HB := Aside0.mk (below_step T6_ hb); clear hb; have hyw7_0 := CA_ BK2; have hyw7_1 := CB_ BK2; have hr0 := blk_frozen BK2.out 0; have hr1 := blk_frozen BK2.out 1))
  refine bodyPost_ret (results_ct rfl _ _ g2 25 #[.slice Av m0 av, .slice Bv m1 bv] (0, 0) _ rfl (blk_put (blk_put BK2.out 0 (.slice Av m0 av) rfl) 1 (.slice Bv m1 bv) rfl) Tryz.underlying25 rfl (by kernel_rfl)) rfl ?_
  exact ⟨_, _, rfl, row_set2 HO0.out rfl BK2.out (by decide) _ _ _ _, row_set2 HO1.out rfl BK2.out (by decide) _ _ _ _, below_set (below_set HB.out GE2.out) GE2.out⟩
theorem ksign_calls (A0 : Option Addr) (c0 : Nat) (A1 : Option Addr) (c1 : Nat) (s : List Int) (d : List ByteArray) (w : World) (hG : Gs w) (hr0 : Kd.C (Kd.int .i64) w A0 s.length s) (hc0 : s.length ≤ c0) (hr1 : Kd.C Kd.string w A1 d.length d) (hc1 : d.length ≤ c1) (h : Sm s d) :
    Calls Tryz.prog 21 #[.agg #[.slice A0 s.length c0, .slice A1 d.length c1]] w (Res w (tEach 3 ⟨s, d⟩)) := by
  have KE := Aside0.mk (fun (W : World) (hb : Below w.heap.size w W) => keach_calls 3 (by decide) A0 c0 A1 c1 s d W (hG.below hb) (Kd.C_below hr0 hb) hc0 (Kd.C_below hr1 hb) hc1 h)
  have HB := Aside0.mk (Below.refl w.heap.size w)
  clear hG hr0 hc0 hr1 hc1 h
  generalize tEach 3 ⟨s, d⟩ = q at *
  generalize s.length = n0 at *
  generalize d.length = n1 at *
  obtain ⟨⟨rs, rd⟩, re⟩ := q
  unfold Res at *
  dsimp only at *
  go_enter Tryz.func21, Tryz.ntmps21
  go_wp2_with (first
    | ((with_reducible refine gate_dst (N := 1) rfl ?_); refine box_event ?hg (N := 1) ?hd (cs := #[.slice A0 n0 c0, .slice A1 n1 c1]) (t := 25) ?hr ?_; (case hd => rfl); (case hg => rfl); (case hr => exact T3_); intro g1 hg w1 hbox hb; have BK1 := Aside0.mk hbox; replace HB := Aside0.mk (below_step T6_ hb); clear hb hbox hg)
    | ((with_reducible refine gate_dst (N := 2) rfl ?_); refine box_event ?hg (N := 2) ?hd (cs := #[.slice none 0 0, .slice none 0 0]) (t := 25) ?hr ?_; (case hd => rfl); (case hg => rfl); (case hr => exact T3_); intro g2 hg w2 hbox hb; have BK2 := Aside0.mk hbox; have GE2 := GE_ (w := w) hg; have NE1_2 := NB_ BK1 hg; replace BK1 := BF_ BK1 hb; replace HB := Aside0.mk (below_step T6_ hb); clear hb hbox hg; have hne := NE1_2.out; have hf0 := blk_frozen BK2.out 0; have hf1 := blk_frozen BK2.out 1; have hz0 := CA_ BK1; have hz1 := CB_ BK1; have hz2 := CA_ BK2; have hz3 := CB_ BK2)
    | (go_at_call 36; with_reducible refine (KE.out _ T6_).mono ?_; rintro e w7 ⟨v0, v1, rfl, h0, h1, hb⟩; replace BK2 := BF_ BK2 hb; obtain ⟨Av, av, rfl⟩ := Kd.R_slice h0; obtain ⟨Bv, bv, rfl⟩ := Kd.R_slice h1; have HO0 := Aside0.mk (Kd.R_lower h0 (below_size T6_)); have HO1 := Aside0.mk (Kd.R_lower h1 (below_size T6_)); clear h0 h1; generalize rs.length = m0 at *; generalize rd.length = m1 at *; replace HB := Aside0.mk (below_step T6_ hb); clear hb; have hyw7_0 := CA_ BK2; have hyw7_1 := CB_ BK2; have hr0 := blk_frozen BK2.out 0; have hr1 := blk_frozen BK2.out 1))
  refine bodyPost_ret (results_ct rfl _ _ g2 25 #[.slice Av m0 av, .slice Bv m1 bv] (0, 0) _ rfl (blk_put (blk_put BK2.out 0 (.slice Av m0 av) rfl) 1 (.slice Bv m1 bv) rfl) Tryz.underlying25 rfl (by kernel_rfl)) rfl ?_
  exact ⟨_, _, rfl, row_set2 HO0.out rfl BK2.out (by decide) _ _ _ _, row_set2 HO1.out rfl BK2.out (by decide) _ _ _ _, below_set (below_set HB.out GE2.out) GE2.out⟩
end Go.Proofs.YtndkjpkgllmbnaaGreatDoor.Ten
