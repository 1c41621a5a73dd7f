/- rat.Add, told by rationals. -/
import Derived.Test.YtmmonhgfnmeieaaGreatDoorRatU2
-- mini
namespace Go.Proofs.YtmmonhgfnmeieaaGreatDoor.Err
open Go Go.RowKit Go.Extern.Stop Go.Stop Go.Extern Go.ZPWords Go.ZPMore Go.ZPLast Go.Proofs.YtmmonhgfnmeieaaGreatDoor.PC Go.Proofs.YtmmonhgfnmeieaaGreatDoor.Th Go.Proofs.YtmmonhgfnmeieaaGreatDoor.Th.Wh
set_option maxHeartbeats 4000000
set_option maxRecDepth 1000000
theorem add1 {aF aZ : Addr} (p1 q1 p2 q2 n d s t a b : ByteArray) (c : Int) (w : World) (hG : GsAt aF aZ w) (h1 : rat_times.f p1 q2 = some a) (h2 : rat_times.f p2 q1 = some b) (h3 : whole_Add.f a b = some (s, 0)) (h4 : rat_times.f q1 q2 = some t)
    (hL : ∀ w, GsAt aF aZ w → Calls Tryz.prog 50 #[.string s, .string t] w fun e w' => ∃ v, e = .returned (.tuple #[.agg #[.string n, .string d], v]) ∧ ErrV aF aZ w' v c ∧ Below w.heap.size w w') :
    Calls Tryz.prog 47 #[.agg #[.string p1, .string q1], .agg #[.string p2, .string q2]] w fun e w' => ∃ v, e = .returned (.tuple #[.agg #[.string n, .string d], v]) ∧ ErrV aF aZ w' v c ∧ Below w.heap.size w w' := by
 have HG0 := A_ hG;have KL := A_ hL;have Kh1 := A_ h1;have Kh2 := A_ h2;have Kh3 := A_ h3;have Kh4 := A_ h4;clear hG hL h1 h2 h3 h4;have HB := A_ (Below.refl w.heap.size w);go_enter Tryz.func47, Tryz.ntmps47
 go_wp2_with (first
  | (refine BX_ 2 #[.string p1, .string q1] 64 ?_; intro g2 hg w6 hbox hb; have BK2 := A_ hbox; have GE2 := GE_ (w := w) hg; replace HB := BT_ hb; clear hb hbox hg)
  | (refine BX_ 3 #[.string p2, .string q2] 64 ?_; intro g3 hg w6 hbox hb; replace BK2 := BF_ BK2 hb; have BK3 := A_ hbox; have GE3 := GE_ (w := w) hg; replace HB := BT_ hb; clear hb hbox hg)
  | (refine BX_ 4 #[.string (⟨#[]⟩ : ByteArray), .string (⟨#[]⟩ : ByteArray)] 64 ?_; intro g4 hg w6 hbox hb; replace BK2 := BF_ BK2 hb; replace BK3 := BF_ BK3 hb; have BK4 := A_ hbox; have GE4 := GE_ (w := w) hg; replace HB := BT_ hb; clear hb hbox hg; have hc20 := CA_ BK2; have hc21 := CB_ BK2; have hc30 := CA_ BK3; have hc31 := CB_ BK3; have hfz0 := blk_frozen BK4.out 0; have hfz1 := blk_frozen BK4.out 1))
 go_region_held3 (fun w' => w'.cell? ⟨g2, 0, none⟩ = some (.string p1) ∧ w'.cell? ⟨g2, 1, none⟩ = some (.string q1) ∧ w'.cell? ⟨g3, 0, none⟩ = some (.string p2) ∧ w'.cell? ⟨g3, 1, none⟩ = some (.string q2) ∧ Aside0 (w'.heap[g2]? = some (.cells #[.string p1, .string q1] 64 (0, 0))) ∧ Aside0 (w'.heap[g3]? = some (.cells #[.string p2, .string q2] 64 (0, 0))) ∧ Aside0 (w'.heap[g4]? = some (.cells #[.string (⟨#[]⟩ : ByteArray), .string (⟨#[]⟩ : ByteArray)] 64 (0, 0))) ∧ Aside0 (Below w.heap.size w w')) (first | exact held_mk (blk_drew BK2.out) (blk_drew BK3.out) (blk_drew BK4.out) (below_drew HB.out) | (obtain ⟨_, _, _, _, s1, s2, s3, s4⟩ := ‹_ ∧ _›; exact held_mk (blk_below s1.out hb) (blk_below s2.out hb) (blk_below s3.out hb) (below_step s4.out hb)) | trace_state)
  (first
   | (go_at_call 49; with_reducible refine (rat_times.calls p1 q2 a _ Kh1.out).mono ?_; rintro e w' ⟨rfl, hb⟩)
   | (go_at_call 49; with_reducible refine (rat_times.calls p2 q1 b _ Kh2.out).mono ?_; rintro e w' ⟨rfl, hb⟩)
   | (go_at_call 48; with_reducible refine (whole_Add.calls a b s 0 _ Kh3.out).mono ?_; rintro e w' ⟨rfl, hb⟩))
 rename_i hh;obtain ⟨hc20, hc21, hc30, hc31, BK2, BK3, BK4, HB⟩ := hh;have hfz0 := blk_frozen BK4.out 0;have hfz1 := blk_frozen BK4.out 1
 go_wp2_with (first
  | (go_at_call 49; with_reducible refine (rat_times.calls q1 q2 t _ Kh4.out).mono ?_; rintro e w' ⟨rfl, hb⟩; replace BK2 := BF_ BK2 hb; replace BK3 := BF_ BK3 hb; replace BK4 := BF_ BK4 hb; replace HB := BT_ hb; clear hb; have hc20 := CA_ BK2; have hc21 := CB_ BK2; have hc30 := CA_ BK3; have hc31 := CB_ BK3; have hfz0 := blk_frozen BK4.out 0; have hfz1 := blk_frozen BK4.out 1)
  | (go_at_call 50; with_reducible refine (KL.out _ (HG0.out.below T6_)).mono ?_; rintro e w' ⟨v, rfl, hev, hb⟩; replace BK2 := BF_ BK2 hb; replace BK3 := BF_ BK3 hb; replace BK4 := BF_ BK4 hb; have n1_ := BT_ hb; clear HB; have HB := n1_; have EV := A_ hev; clear n1_ hb hev; obtain ⟨hz40, hz41, hfz0, hfz1⟩ := CF_ BK4))
 refine bodyPost_ret (results_ct rfl _ _ g4 64 #[.string n, .string d] (0, 0) _ rfl (by (with_reducible repeat (first | refine blk_drewN ?_ _ | refine blk_drew ?_ | refine blk_alloc ?_ _)); refine blk_put (cs := #[.string n, .string (⟨#[]⟩ : ByteArray)]) ?_ 1 _ rfl; (with_reducible repeat (first | refine blk_drewN ?_ _ | refine blk_drew ?_ | refine blk_alloc ?_ _)); refine blk_put (cs := #[.string (⟨#[]⟩ : ByteArray), .string (⟨#[]⟩ : ByteArray)]) ?_ 0 _ rfl; (with_reducible repeat (first | refine blk_drewN ?_ _ | refine blk_drew ?_ | refine blk_alloc ?_ _)); exact BK4.out) Tryz.underlying64 rfl (by kernel_rfl)) rfl ?_;refine ⟨_, rfl, ?_, ?_⟩
 · exact EV.out.set BK4.out
 exact T6_
/-- What it makes of two texts. -/
noncomputable def rAdd (a b : ByteArray) : ByteArray × Int := match rv a, rv b with | some x, some y => (rt (x + y), 0) | _, _ => (⟨#[]⟩, 2)
theorem both_add_any {aF aZ : Addr} (a b : ByteArray) (ha : a.size ≤ 40000000000) (hb : b.size ≤ 40000000000) (w : World) (hG : GsAt aF aZ w) :
    Calls Tryz.prog 46 #[.string a, .string b, (.func (.func 47) #[] #[])] w fun e w' => e = .returned (.tuple #[.string (rAdd a b).1, .int .i64 (rAdd a b).2]) ∧ Below w.heap.size w w' := by
 rcases rv_cases a with h | ⟨x, hx, h⟩
 · rw [rAdd, h];exact both_no1 a b _ w hG (fun w hG => read_not a h ha w hG)
 rcases rv_cases b with h' | ⟨y, hy, h'⟩
 · rw [rAdd, h, h'];subst hx;have := qm_le x;exact both_no2 (rt x) b _ _ _ w hG (fun w => read_rt x (by omega) w) (fun w hG => read_not b h' hb w hG)
 rw [rAdd, h, h'];subst hx hy;have hx := Nat.le_trans (qm_le x) ha;have hy := Nat.le_trans (qm_le y) hb;have x1 := qm_num x;have x2 := qm_den x;have y1 := qm_num y;have y2 := qm_den y;have dx : zs (x.den : Int) ≤ 40000000000 := by rw [zs_cast]; omega
 have dy : zs (y.den : Int) ≤ 40000000000 := by rw [zs_cast]; omega
 have nx : zs x.num ≤ 40000000000 := by omega
 have ny : zs y.num ≤ 40000000000 := by omega
 dsimp only;have hl := fun (w : World) (_ : GsAt aF aZ w) => lowest_ok (aF := aF) (aZ := aZ) (x.num * y.den + y.num * x.den) ((x.den * y.den : Nat) : Int) den_pos (by have := zs_add (x.num * y.den) (y.num * x.den); have := cross x y; have := cross y x; omega) (by have := den_mul' x y; omega) w;rw [← add_divInt, cast_den] at hl;have hm := qm_add x y
 exact both_gen 47 _ Tryz.func47 (by kernel_rfl) rfl (rt x) (rt y) _ _ _ _ _ _ (rt (x + y)) 0 w hG (fun w => read_rt x (by omega) w) (fun w => read_rt y (by omega) w)
  (fun w hG => add1 _ _ _ _ _ _ (zt (x.num * y.den + y.num * x.den)) (zt ((x.den : Int) * (y.den : Int))) _ _ 0 w hG (by rw [← zt_nat, times_zt _ _ nx dy]) (by rw [← zt_nat, times_zt _ _ ny dx]) (whole_Add.zt (Nat.le_trans (cross x y) (by omega)) (Nat.le_trans (cross y x) (by omega))) (by rw [← zt_nat, ← zt_nat, times_zt _ _ dx dy]) hl)
  (fun _ => text_rt _ (by omega)) (fun h => absurd rfl h)
theorem add_calls (a b : ByteArray) (ha : a.size ≤ 40000000000) (hb : b.size ≤ 40000000000) (w : World) (hG : Gs w) :
    Calls Tryz.prog 25 #[.string a, .string b] w fun e w' => e = .returned (.tuple #[.string (rAdd a b).1, .int .i64 (rAdd a b).2]) ∧ Below w.heap.size w w' := by
 obtain ⟨aF, aZ, hG⟩ := hG;have KB := A_ (both_add_any a b ha hb w hG);clear ha hb hG;generalize rAdd a b = r at KB ⊢;go_enter Tryz.func25, Tryz.ntmps25;go_wp2_with (go_at_call 46; with_reducible refine (KB.out).mono ?_; rintro e w' ⟨rfl, hb⟩; have HB := A_ hb; clear hb);go_ret2;exact ⟨rfl, HB.out⟩
end Go.Proofs.YtmmonhgfnmeieaaGreatDoor.Err
