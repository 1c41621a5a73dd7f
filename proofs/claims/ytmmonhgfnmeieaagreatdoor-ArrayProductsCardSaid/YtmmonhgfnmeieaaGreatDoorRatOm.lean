/- rat.Mul, told by rationals. -/
import Derived.Test.YtmmonhgfnmeieaaGreatDoorRatU2
-- mini
namespace Go.Proofs.YtmmonhgfnmeieaaGreatDoor.Err
open Go Go.RowKit Go.Extern.Stop Go.Stop Go.Extern Go.ZPWords Go.ZPMore Go.ZPLast Go.Proofs.YtmmonhgfnmeieaaGreatDoor.PC Go.Proofs.YtmmonhgfnmeieaaGreatDoor.Th Go.Proofs.YtmmonhgfnmeieaaGreatDoor.Th.Wh
set_option maxHeartbeats 4000000
set_option maxRecDepth 1000000
theorem mul1 {aF aZ : Addr} (p1 q1 p2 q2 n d s t : ByteArray) (c : Int) (w : World) (hG : GsAt aF aZ w) (h1 : rat_times.f p1 p2 = some s) (h2 : rat_times.f q1 q2 = some t)
    (hL : ∀ w, GsAt aF aZ w → Calls Tryz.prog 50 #[.string s, .string t] w fun e w' => ∃ v, e = .returned (.tuple #[.agg #[.string n, .string d], v]) ∧ ErrV aF aZ w' v c ∧ Below w.heap.size w w') :
    Calls Tryz.prog 54 #[.agg #[.string p1, .string q1], .agg #[.string p2, .string q2]] w fun e w' => ∃ v, e = .returned (.tuple #[.agg #[.string n, .string d], v]) ∧ ErrV aF aZ w' v c ∧ Below w.heap.size w w' := by
 have HG0 := A_ hG;have KL := A_ hL;have Kh1 := A_ h1;have Kh2 := A_ h2;clear hG hL h1 h2;have HB := A_ (Below.refl w.heap.size w);go_enter Tryz.func54, Tryz.ntmps54
 go_wp2_with (first
  | (refine BX_ 2 #[.string p1, .string q1] 64 ?_; intro g2 hg w6 hbox hb; have BK2 := A_ hbox; have GE2 := GE_ (w := w) hg; replace HB := BT_ hb; clear hb hbox hg)
  | (refine BX_ 3 #[.string p2, .string q2] 64 ?_; intro g3 hg w6 hbox hb; replace BK2 := BF_ BK2 hb; have BK3 := A_ hbox; have GE3 := GE_ (w := w) hg; replace HB := BT_ hb; clear hb hbox hg)
  | (refine BX_ 4 #[.string (⟨#[]⟩ : ByteArray), .string (⟨#[]⟩ : ByteArray)] 64 ?_; intro g4 hg w6 hbox hb; have n2x_ := A_ ((by rw [hg]; exact Nat.ne_of_lt (blk_lt (g := g2) (o := .cells #[.string p1, .string q1] 64 (0, 0)) (B1_ BK2.out))) : g2 ≠ g4); have n3x_ := A_ ((by rw [hg]; exact Nat.ne_of_lt (blk_lt (g := g3) (o := .cells #[.string p2, .string q2] 64 (0, 0)) (B1_ BK3.out))) : g3 ≠ g4); have N2 := n2x_; have N3 := n3x_; clear n2x_ n3x_; replace BK2 := BF_ BK2 hb; replace BK3 := BF_ BK3 hb; have BK4 := A_ hbox; have GE4 := GE_ (w := w) hg; replace HB := BT_ hb; clear hb hbox hg; have hc20 := CA_ BK2; have hc21 := CB_ BK2; have hc30 := CA_ BK3; have hc31 := CB_ BK3; have hfz0 := blk_frozen BK4.out 0; have hfz1 := blk_frozen BK4.out 1))
 go_region_held3 (fun w' => w'.cell? ⟨g2, 0, none⟩ = some (.string p1) ∧ w'.cell? ⟨g2, 1, none⟩ = some (.string q1) ∧ w'.cell? ⟨g3, 0, none⟩ = some (.string p2) ∧ w'.cell? ⟨g3, 1, none⟩ = some (.string q2) ∧ Aside0 (w'.heap[g2]? = some (.cells #[.string p1, .string q1] 64 (0, 0))) ∧ Aside0 (w'.heap[g3]? = some (.cells #[.string p2, .string q2] 64 (0, 0))) ∧ Aside0 (∃ x y, w'.heap[g4]? = some (.cells #[.string x, .string y] 64 (0, 0))) ∧ Aside0 (Below w.heap.size w w')) (first | exact held_mk2 (blk_drew BK2.out) (blk_drew BK3.out) ⟨_, _, blk_drew BK4.out⟩ (below_drew HB.out) | (obtain ⟨_, _, _, _, s2, s3, s4, s5⟩ := ‹_ ∧ _›; obtain ⟨x_, y_, s4⟩ := s4.out; exact held_mk2 (blk_below s2.out hb) (blk_below s3.out hb) ⟨_, _, blk_below s4 hb⟩ (below_step s5.out hb)) | (obtain ⟨_, _, _, _, s2, s3, s4, s5⟩ := ‹_ ∧ _›; obtain ⟨x_, y_, s4⟩ := s4.out; exact held_mk2 (blk_far (blk_far s2.out N2.out _) N2.out _) (blk_far (blk_far s3.out N3.out _) N3.out _) ⟨_, _, blk_put (blk_put s4 0 _ rfl) 1 _ rfl⟩ (below_set (below_set s5.out GE4.out) GE4.out)) | trace_state)
  (first
   | (go_at_call 49; with_reducible refine (rat_times.calls p1 p2 s _ Kh1.out).mono ?_; rintro e w' ⟨rfl, hb⟩)
   | (go_at_call 49; with_reducible refine (rat_times.calls q1 q2 t _ Kh2.out).mono ?_; rintro e w' ⟨rfl, hb⟩)
   | (go_at_call 50; with_reducible refine (KL.out _ (HG0.out.below (by obtain ⟨_, _, _, _, s2, s3, s4, s5⟩ := ‹_ ∧ _›; exact s5.out))).mono ?_; rintro e w' ⟨v, rfl, hev, hb⟩; have n4_ := A_ (by obtain ⟨_, _, _, _, s2, s3, s4, s5⟩ := ‹_ ∧ _›; obtain ⟨x_, y_, s4⟩ := s4.out; exact (⟨_, _, blk_below s4 hb⟩ : ∃ x y, w'.heap[g4]? = some (.cells #[.string x, .string y] 64 (0, 0)))); obtain ⟨x4, y4, r4⟩ := n4_.out; clear n4_; have R4 := A_ r4; have EV := A_ hev; have hz40 : w'.cell? ⟨g4, 0, none⟩ = some (.string x4) := (blk_cell r4 0).trans rfl; have hz41 : w'.cell? ⟨g4, 1, none⟩ = some (.string y4) := (blk_cell r4 1).trans rfl; have hfz0 := blk_frozen r4 0; have hfz1 := blk_frozen r4 1; clear r4 hev))
 rename_i hh;obtain ⟨_, _, _, _, _, _, _, HB⟩ := hh;go_wp2;refine bodyPost_ret (results_ct rfl _ _ g4 64 #[.string n, .string d] (0, 0) _ rfl (blk_put (blk_put R4.out 0 _ rfl) 1 _ rfl) Tryz.underlying64 rfl (by kernel_rfl)) rfl ?_;exact ⟨_, rfl, EV.out.set R4.out, HB.out⟩
/-- What it makes of two texts. -/
noncomputable def rMul (a b : ByteArray) : ByteArray × Int := match rv a, rv b with | some x, some y => (rt (x * y), 0) | _, _ => (⟨#[]⟩, 2)
theorem both_mul_any {aF aZ : Addr} (a b : ByteArray) (ha : a.size ≤ 40000000000) (hb : b.size ≤ 40000000000) (w : World) (hG : GsAt aF aZ w) :
    Calls Tryz.prog 46 #[.string a, .string b, (.func (.func 54) #[] #[])] w fun e w' => e = .returned (.tuple #[.string (rMul a b).1, .int .i64 (rMul a b).2]) ∧ Below w.heap.size w w' := by
 rcases rv_cases a with h | ⟨x, hx, h⟩
 · rw [rMul, h];exact both_no1 a b _ w hG (fun w hG => read_not a h ha w hG)
 rcases rv_cases b with h' | ⟨y, hy, h'⟩
 · rw [rMul, h, h'];subst hx;have := qm_le x;exact both_no2 (rt x) b _ _ _ w hG (fun w => read_rt x (by omega) w) (fun w hG => read_not b h' hb w hG)
 rw [rMul, h, h'];subst hx hy;have hx := Nat.le_trans (qm_le x) ha;have hy := Nat.le_trans (qm_le y) hb;have x1 := qm_num x;have x2 := qm_den x;have y1 := qm_num y;have y2 := qm_den y;have dx : zs (x.den : Int) ≤ 40000000000 := by rw [zs_cast]; omega
 have dy : zs (y.den : Int) ≤ 40000000000 := by rw [zs_cast]; omega
 have nx : zs x.num ≤ 40000000000 := by omega
 have ny : zs y.num ≤ 40000000000 := by omega
 dsimp only;have hl := fun (w : World) (_ : GsAt aF aZ w) => lowest_ok (aF := aF) (aZ := aZ) (x.num * y.num) ((x.den * y.den : Nat) : Int) den_pos (by have := zs_mul x.num y.num; omega) (by have := den_mul' x y; omega) w;rw [← mul_divInt, cast_den] at hl;have hm := qm_mul x y
 exact both_gen 54 _ Tryz.func54 (by kernel_rfl) rfl (rt x) (rt y) _ _ _ _ _ _ (rt (x * y)) 0 w hG (fun w => read_rt x (by omega) w) (fun w => read_rt y (by omega) w)
  (fun w hG => mul1 _ _ _ _ _ _ (zt (x.num * y.num)) (zt ((x.den : Int) * (y.den : Int)))  0 w hG (times_zt _ _ nx ny) (by rw [← zt_nat, ← zt_nat, times_zt _ _ dx dy]) hl)
  (fun _ => text_rt _ (by omega)) (fun h => absurd rfl h)
theorem mul_calls (a b : ByteArray) (ha : a.size ≤ 40000000000) (hb : b.size ≤ 40000000000) (w : World) (hG : Gs w) :
    Calls Tryz.prog 34 #[.string a, .string b] w fun e w' => e = .returned (.tuple #[.string (rMul a b).1, .int .i64 (rMul a b).2]) ∧ Below w.heap.size w w' := by
 obtain ⟨aF, aZ, hG⟩ := hG;have KB := A_ (both_mul_any a b ha hb w hG);clear ha hb hG;generalize rMul a b = r at KB ⊢;go_enter Tryz.func34, Tryz.ntmps34;go_wp2_with (go_at_call 46; with_reducible refine (KB.out).mono ?_; rintro e w' ⟨rfl, hb⟩; have HB := A_ hb; clear hb);go_ret2;exact ⟨rfl, HB.out⟩
end Go.Proofs.YtmmonhgfnmeieaaGreatDoor.Err
