/- ref03.Add, Mul, Neg. -/
import Derived.Test.YtmmonhgfnmeieaaGreatDoorRX1
-- mini
namespace Go.Proofs.YtmmonhgfnmeieaaGreatDoor.Err
open Go Go.RowKit Go.Extern.Stop Go.Stop Go.Extern Go.ZPWords Go.ZPMore Go.ZPLast Go.Proofs.YtmmonhgfnmeieaaGreatDoor.PT Go.Proofs.YtmmonhgfnmeieaaGreatDoor.Th Go.Proofs.YtmmonhgfnmeieaaGreatDoor.Th.Wh
set_option maxHeartbeats 4000000
set_option maxRecDepth 1000000
theorem held_mk3 {W w : World} {g2 g3 g4 : Nat} {p1 q1 p2 q2 : ByteArray} (h2 : w.heap[g2]? = some (.cells #[.string p1, .string q1] 49 (0, 0))) (h3 : w.heap[g3]? = some (.cells #[.string p2, .string q2] 49 (0, 0))) (h4 : ∃ x y, w.heap[g4]? = some (.cells #[.string x, .string y] 49 (0, 0))) (hb : Below W.heap.size W w) :
    w.cell? ⟨g2, 0, none⟩ = some (.string p1) ∧ w.cell? ⟨g2, 1, none⟩ = some (.string q1) ∧ w.cell? ⟨g3, 0, none⟩ = some (.string p2) ∧ w.cell? ⟨g3, 1, none⟩ = some (.string q2) ∧ Aside0 (w.heap[g2]? = some (.cells #[.string p1, .string q1] 49 (0, 0))) ∧ Aside0 (w.heap[g3]? = some (.cells #[.string p2, .string q2] 49 (0, 0))) ∧ Aside0 (∃ x y, w.heap[g4]? = some (.cells #[.string x, .string y] 49 (0, 0))) ∧ Aside0 (Below W.heap.size W w) :=
  ⟨(blk_cell h2 0).trans rfl, (blk_cell h2 1).trans rfl, (blk_cell h3 0).trans rfl, (blk_cell h3 1).trans rfl, ⟨h2⟩, ⟨h3⟩, ⟨h4⟩, ⟨hb⟩⟩
theorem add3 (p1 q1 p2 q2 n d s t a b : ByteArray) (w : World) (h1 : rf2_Mul.f p1 q2 = some a) (h2 : rf2_Mul.f p2 q1 = some b) (h3 : rf2_Add.f a b = some s) (h4 : rf2_Mul.f q1 q2 = some t)
    (hL : ∀ w, Calls Tryz.prog 57 #[.string s, .string t] w fun e w' => e = .returned (.agg #[.string n, .string d]) ∧ Below w.heap.size w w') :
    Calls Tryz.prog 36 #[.agg #[.string p1, .string q1], .agg #[.string p2, .string q2]] w fun e w' => e = .returned (.agg #[.string n, .string d]) ∧ Below w.heap.size w w' := by
 have KL := A_ hL;have Kh1 := A_ h1;have Kh2 := A_ h2;have Kh3 := A_ h3;have Kh4 := A_ h4;clear hL h1 h2 h3 h4;have HB := A_ (Below.refl w.heap.size w);go_enter Tryz.func36, Tryz.ntmps36
 go_wp2_with (first
  | (refine BX_ 2 #[.string p1, .string q1] 49 ?_; intro g2 hg w6 hbox hb; have BK2 := A_ hbox; have GE2 := GE_ (w := w) hg; replace HB := BT_ hb; clear hb hbox hg)
  | (refine BX_ 3 #[.string p2, .string q2] 49 ?_; intro g3 hg w6 hbox hb; replace BK2 := BF_ BK2 hb; have BK3 := A_ hbox; have GE3 := GE_ (w := w) hg; replace HB := BT_ hb; clear hb hbox hg)
  | (refine BX_ 4 #[.string (⟨#[]⟩ : ByteArray), .string (⟨#[]⟩ : ByteArray)] 49 ?_; intro g4 hg w6 hbox hb; have n2x_ := A_ ((by rw [hg]; exact Nat.ne_of_lt (blk_lt (g := g2) (o := .cells #[.string p1, .string q1] 49 (0, 0)) (B1_ BK2.out))) : g2 ≠ g4); have n3x_ := A_ ((by rw [hg]; exact Nat.ne_of_lt (blk_lt (g := g3) (o := .cells #[.string p2, .string q2] 49 (0, 0)) (B1_ BK3.out))) : g3 ≠ g4); have N2 := n2x_; have N3 := n3x_; clear n2x_ n3x_; replace BK2 := BF_ BK2 hb; replace BK3 := BF_ BK3 hb; have BK4 := A_ hbox; have GE4 := GE_ (w := w) hg; replace HB := BT_ hb; clear hb hbox hg; have hc20 := CA_ BK2; have hc21 := CB_ BK2; have hc30 := CA_ BK3; have hc31 := CB_ BK3; have hfz0 := blk_frozen BK4.out 0; have hfz1 := blk_frozen BK4.out 1))
 go_region_held3 (fun w' => w'.cell? ⟨g2, 0, none⟩ = some (.string p1) ∧ w'.cell? ⟨g2, 1, none⟩ = some (.string q1) ∧ w'.cell? ⟨g3, 0, none⟩ = some (.string p2) ∧ w'.cell? ⟨g3, 1, none⟩ = some (.string q2) ∧ Aside0 (w'.heap[g2]? = some (.cells #[.string p1, .string q1] 49 (0, 0))) ∧ Aside0 (w'.heap[g3]? = some (.cells #[.string p2, .string q2] 49 (0, 0))) ∧ Aside0 (∃ x y, w'.heap[g4]? = some (.cells #[.string x, .string y] 49 (0, 0))) ∧ Aside0 (Below w.heap.size w w')) (first | exact held_mk3 (blk_drew BK2.out) (blk_drew BK3.out) ⟨_, _, blk_drew BK4.out⟩ (below_drew HB.out) | (obtain ⟨_, _, _, _, s2, s3, s4, s5⟩ := ‹_ ∧ _›; obtain ⟨x_, y_, s4⟩ := s4.out; exact held_mk3 (blk_below s2.out hb) (blk_below s3.out hb) ⟨_, _, blk_below s4 hb⟩ (below_step s5.out hb)) | (obtain ⟨_, _, _, _, s2, s3, s4, s5⟩ := ‹_ ∧ _›; obtain ⟨x_, y_, s4⟩ := s4.out; exact held_mk3 (blk_far (blk_far s2.out N2.out _) N2.out _) (blk_far (blk_far s3.out N3.out _) N3.out _) ⟨_, _, blk_put (blk_put s4 0 _ rfl) 1 _ rfl⟩ (below_set (below_set s5.out GE4.out) GE4.out)) | trace_state)
  (first
   | (go_at_call 60; with_reducible refine (rf2_Mul.calls p1 q2 a _ Kh1.out).mono ?_; rintro e w' ⟨rfl, hb⟩)
   | (go_at_call 60; with_reducible refine (rf2_Mul.calls p2 q1 b _ Kh2.out).mono ?_; rintro e w' ⟨rfl, hb⟩)
   | (go_at_call 59; with_reducible refine (rf2_Add.calls a b s _ Kh3.out).mono ?_; rintro e w' ⟨rfl, hb⟩)
   | (go_at_call 60; with_reducible refine (rf2_Mul.calls q1 q2 t _ Kh4.out).mono ?_; rintro e w' ⟨rfl, hb⟩)
   | (go_at_call 57; with_reducible refine (KL.out _).mono ?_; rintro e w' ⟨rfl, hb⟩; have n4_ := A_ (by obtain ⟨_, _, _, _, s2, s3, s4, s5⟩ := ‹_ ∧ _›; obtain ⟨x_, y_, s4⟩ := s4.out; exact (⟨_, _, blk_below s4 hb⟩ : ∃ x y, w'.heap[g4]? = some (.cells #[.string x, .string y] 49 (0, 0)))); obtain ⟨x4, y4, r4⟩ := n4_.out; clear n4_; have R4 := A_ r4; have hz40 : w'.cell? ⟨g4, 0, none⟩ = some (.string x4) := (blk_cell r4 0).trans rfl; have hz41 : w'.cell? ⟨g4, 1, none⟩ = some (.string y4) := (blk_cell r4 1).trans rfl; have hfz0 := blk_frozen r4 0; have hfz1 := blk_frozen r4 1; clear r4))
 rename_i hh;obtain ⟨_, _, _, _, _, _, _, HB⟩ := hh;go_wp2;refine bodyPost_ret (results_one (r := .cell 4 49) rfl (.cell g4 49 #[.string n, .string d] (0, 0) _ rfl (blk_put (blk_put R4.out 0 _ rfl) 1 _ rfl) Tryz.underlying49 rfl (by kernel_rfl) .nil)) rfl ?_;exact ⟨rfl, HB.out⟩
theorem mul3 (p1 q1 p2 q2 n d s t : ByteArray) (w : World) (h1 : rf2_Mul.f p1 p2 = some s) (h2 : rf2_Mul.f q1 q2 = some t)
    (hL : ∀ w, Calls Tryz.prog 57 #[.string s, .string t] w fun e w' => e = .returned (.agg #[.string n, .string d]) ∧ Below w.heap.size w w') :
    Calls Tryz.prog 37 #[.agg #[.string p1, .string q1], .agg #[.string p2, .string q2]] w fun e w' => e = .returned (.agg #[.string n, .string d]) ∧ Below w.heap.size w w' := by
 have KL := A_ hL;have Kh1 := A_ h1;have Kh2 := A_ h2;clear hL h1 h2;have HB := A_ (Below.refl w.heap.size w);go_enter Tryz.func37, Tryz.ntmps37
 go_wp2_with (first
  | (refine BX_ 2 #[.string p1, .string q1] 49 ?_; intro g2 hg w6 hbox hb; have BK2 := A_ hbox; have GE2 := GE_ (w := w) hg; replace HB := BT_ hb; clear hb hbox hg)
  | (refine BX_ 3 #[.string p2, .string q2] 49 ?_; intro g3 hg w6 hbox hb; replace BK2 := BF_ BK2 hb; have BK3 := A_ hbox; have GE3 := GE_ (w := w) hg; replace HB := BT_ hb; clear hb hbox hg)
  | (refine BX_ 4 #[.string (⟨#[]⟩ : ByteArray), .string (⟨#[]⟩ : ByteArray)] 49 ?_; intro g4 hg w6 hbox hb; have n2x_ := A_ ((by rw [hg]; exact Nat.ne_of_lt (blk_lt (g := g2) (o := .cells #[.string p1, .string q1] 49 (0, 0)) (B1_ BK2.out))) : g2 ≠ g4); have n3x_ := A_ ((by rw [hg]; exact Nat.ne_of_lt (blk_lt (g := g3) (o := .cells #[.string p2, .string q2] 49 (0, 0)) (B1_ BK3.out))) : g3 ≠ g4); have N2 := n2x_; have N3 := n3x_; clear n2x_ n3x_; replace BK2 := BF_ BK2 hb; replace BK3 := BF_ BK3 hb; have BK4 := A_ hbox; have GE4 := GE_ (w := w) hg; replace HB := BT_ hb; clear hb hbox hg; have hc20 := CA_ BK2; have hc21 := CB_ BK2; have hc30 := CA_ BK3; have hc31 := CB_ BK3; have hfz0 := blk_frozen BK4.out 0; have hfz1 := blk_frozen BK4.out 1))
 go_region_held3 (fun w' => w'.cell? ⟨g2, 0, none⟩ = some (.string p1) ∧ w'.cell? ⟨g2, 1, none⟩ = some (.string q1) ∧ w'.cell? ⟨g3, 0, none⟩ = some (.string p2) ∧ w'.cell? ⟨g3, 1, none⟩ = some (.string q2) ∧ Aside0 (w'.heap[g2]? = some (.cells #[.string p1, .string q1] 49 (0, 0))) ∧ Aside0 (w'.heap[g3]? = some (.cells #[.string p2, .string q2] 49 (0, 0))) ∧ Aside0 (∃ x y, w'.heap[g4]? = some (.cells #[.string x, .string y] 49 (0, 0))) ∧ Aside0 (Below w.heap.size w w')) (first | exact held_mk3 (blk_drew BK2.out) (blk_drew BK3.out) ⟨_, _, blk_drew BK4.out⟩ (below_drew HB.out) | (obtain ⟨_, _, _, _, s2, s3, s4, s5⟩ := ‹_ ∧ _›; obtain ⟨x_, y_, s4⟩ := s4.out; exact held_mk3 (blk_below s2.out hb) (blk_below s3.out hb) ⟨_, _, blk_below s4 hb⟩ (below_step s5.out hb)) | (obtain ⟨_, _, _, _, s2, s3, s4, s5⟩ := ‹_ ∧ _›; obtain ⟨x_, y_, s4⟩ := s4.out; exact held_mk3 (blk_far (blk_far s2.out N2.out _) N2.out _) (blk_far (blk_far s3.out N3.out _) N3.out _) ⟨_, _, blk_put (blk_put s4 0 _ rfl) 1 _ rfl⟩ (below_set (below_set s5.out GE4.out) GE4.out)) | trace_state)
  (first
   | (go_at_call 60; with_reducible refine (rf2_Mul.calls p1 p2 s _ Kh1.out).mono ?_; rintro e w' ⟨rfl, hb⟩)
   | (go_at_call 60; with_reducible refine (rf2_Mul.calls q1 q2 t _ Kh2.out).mono ?_; rintro e w' ⟨rfl, hb⟩)
   | (go_at_call 57; with_reducible refine (KL.out _).mono ?_; rintro e w' ⟨rfl, hb⟩; have n4_ := A_ (by obtain ⟨_, _, _, _, s2, s3, s4, s5⟩ := ‹_ ∧ _›; obtain ⟨x_, y_, s4⟩ := s4.out; exact (⟨_, _, blk_below s4 hb⟩ : ∃ x y, w'.heap[g4]? = some (.cells #[.string x, .string y] 49 (0, 0)))); obtain ⟨x4, y4, r4⟩ := n4_.out; clear n4_; have R4 := A_ r4; have hz40 : w'.cell? ⟨g4, 0, none⟩ = some (.string x4) := (blk_cell r4 0).trans rfl; have hz41 : w'.cell? ⟨g4, 1, none⟩ = some (.string y4) := (blk_cell r4 1).trans rfl; have hfz0 := blk_frozen r4 0; have hfz1 := blk_frozen r4 1; clear r4))
 rename_i hh;obtain ⟨_, _, _, _, _, _, _, HB⟩ := hh;go_wp2;refine bodyPost_ret (results_one (r := .cell 4 49) rfl (.cell g4 49 #[.string n, .string d] (0, 0) _ rfl (blk_put (blk_put R4.out 0 _ rfl) 1 _ rfl) Tryz.underlying49 rfl (by kernel_rfl) .nil)) rfl ?_;exact ⟨rfl, HB.out⟩
end Go.Proofs.YtmmonhgfnmeieaaGreatDoor.Err
/- ref03.Add, Mul, Neg, told by rationals. -/
namespace Go.Proofs.YtmmonhgfnmeieaaGreatDoor.Err
open Go Go.RowKit Go.ZPWords Go.Proofs.YtmmonhgfnmeieaaGreatDoor.PT Go.Proofs.YtmmonhgfnmeieaaGreatDoor.Th Go.Proofs.YtmmonhgfnmeieaaGreatDoor.Th.Wh
/-- What two texts tell: a rational in lowest terms, or none. -/
noncomputable def rq (p q : ByteArray) : Option Rat := by
  classical exact if h : ∃ x : Rat, p = zt x.num ∧ q = txt x.den then some h.choose else none
theorem rq_rt (x : Rat) : rq (zt x.num) (txt x.den) = some x := by
  unfold rq;have h : ∃ y : Rat, zt x.num = zt y.num ∧ txt x.den = txt y.den := ⟨x, rfl, rfl⟩;rw [dif_pos h];exact congrArg some (Rat.ext (zt_inj h.choose_spec.1).symm (txt_inj h.choose_spec.2).symm)
theorem rq_cases (p q : ByteArray) : rq p q = none ∨ ∃ x : Rat, p = zt x.num ∧ q = txt x.den ∧ rq p q = some x := by
 by_cases h : ∃ x : Rat, p = zt x.num ∧ q = txt x.den
 · obtain ⟨x, rfl, rfl⟩ := h;exact Or.inr ⟨x, rfl, rfl, rq_rt x⟩
 refine Or.inl ?_;unfold rq;rw [dif_neg h]
theorem mul_z (a : Int) (d : Nat) (h1 : zs a ≤ 40000000000) (h2 : (txt d).size ≤ 40000000000) : rf2_Mul.f (zt a) (txt d) = some (zt (a * d)) := by
  rw [← zt_nat];exact rf2_Mul.zt (Nat.le_trans h1 (by decide)) (Nat.le_trans (show zs (d : Int) ≤ 40000000000 by rw [zs_cast]; exact h2) (by decide))
theorem mul_d (c d : Nat) (h1 : (txt c).size ≤ 40000000000) (h2 : (txt d).size ≤ 40000000000) : rf2_Mul.f (txt c) (txt d) = some (zt ((c * d : Nat) : Int)) := by
  have := mul_z c d (by rw [zs_cast]; exact h1) h2;rw [zt_nat] at this;rw [this, Int.natCast_mul]
theorem add3_rt (x y : Rat) (hx : qm x ≤ 40000000000) (hy : qm y ≤ 40000000000) (w : World) :
    Calls Tryz.prog 36 #[.agg #[.string (zt x.num), .string (txt x.den)], .agg #[.string (zt y.num), .string (txt y.den)]] w fun e w' => e = .returned (.agg #[.string (zt (x + y).num), .string (txt (x + y).den)]) ∧ Below w.heap.size w w' := by
 have x1 := qm_num x;have x2 := qm_den x;have y1 := qm_num y;have y2 := qm_den y;have dx : zs (x.den : Int) ≤ 40000000000 := by rw [zs_cast]; omega
 have dy : zs (y.den : Int) ≤ 40000000000 := by rw [zs_cast]; omega
 have nx : zs x.num ≤ 40000000000 := by omega
 have ny : zs y.num ≤ 40000000000 := by omega
 have hl := fun w => lowest3_zt (x.num * y.den + y.num * x.den) ((x.den * y.den : Nat) : Int) den_pos (by have := zs_add (x.num * y.den) (y.num * x.den); have := cross x y; have := cross y x; omega) (by have := den_mul' x y; omega) w;rw [← add_divInt] at hl;exact add3 _ _ _ _ _ _ _ _ _ _ w (mul_z _ _ nx (by omega)) (mul_z _ _ ny (by omega)) (rf2_Add.zt (Nat.le_trans (cross x y) (by omega)) (Nat.le_trans (cross y x) (by omega))) (mul_d _ _ (by omega) (by omega)) hl
noncomputable def r3Add (p1 q1 p2 q2 : ByteArray) : Option (ByteArray × ByteArray) := match rq p1 q1, rq p2 q2 with | some x, some y => if qm x ≤ 40000000000 ∧ qm y ≤ 40000000000 then some (zt (x + y).num, txt (x + y).den) else none | _, _ => none
theorem r3Add_rt {x y : Rat} (hx : Fr x) (hy : Fr y) : r3Add (zt x.num) (txt x.den) (zt y.num) (txt y.den) = some (zt (x + y).num, txt (x + y).den) := by
  rw [r3Add, rq_rt, rq_rt];dsimp only;rw [if_pos ⟨Nat.le_trans hx (by decide), Nat.le_trans hy (by decide)⟩]
theorem r3Add_calls (p1 q1 p2 q2 r1 r2 : ByteArray) (w : World) (h : r3Add p1 q1 p2 q2 = some (r1, r2)) :
    Calls Tryz.prog 36 #[.agg #[.string p1, .string q1], .agg #[.string p2, .string q2]] w fun e w' => e = .returned (.agg #[.string r1, .string r2]) ∧ Below w.heap.size w w' := by
 rcases rq_cases p1 q1 with h1 | ⟨x, hp, hq, h1⟩
 · rw [r3Add, h1] at h; cases h
 rcases rq_cases p2 q2 with h2 | ⟨y, hp', hq', h2⟩
 · rw [r3Add, h1, h2] at h; cases h
 rw [r3Add, h1, h2] at h;dsimp only at h;by_cases c : qm x ≤ 40000000000 ∧ qm y ≤ 40000000000
 · rw [if_pos c] at h;injection h with h;injection h with e1 e2;have := add3_rt x y c.1 c.2 w;rw [e1, e2] at this;rw [hp, hq, hp', hq'];exact this
 rw [if_neg c] at h; cases h
theorem mul3_rt (x y : Rat) (hx : qm x ≤ 40000000000) (hy : qm y ≤ 40000000000) (w : World) :
    Calls Tryz.prog 37 #[.agg #[.string (zt x.num), .string (txt x.den)], .agg #[.string (zt y.num), .string (txt y.den)]] w fun e w' => e = .returned (.agg #[.string (zt (x * y).num), .string (txt (x * y).den)]) ∧ Below w.heap.size w w' := by
 have x1 := qm_num x;have x2 := qm_den x;have y1 := qm_num y;have y2 := qm_den y;have dx : zs (x.den : Int) ≤ 40000000000 := by rw [zs_cast]; omega
 have dy : zs (y.den : Int) ≤ 40000000000 := by rw [zs_cast]; omega
 have nx : zs x.num ≤ 40000000000 := by omega
 have ny : zs y.num ≤ 40000000000 := by omega
 have hl := fun w => lowest3_zt (x.num * y.num) ((x.den * y.den : Nat) : Int) den_pos (by have := zs_mul x.num y.num; omega) (by have := den_mul' x y; omega) w;rw [← mul_divInt] at hl;exact mul3 _ _ _ _ _ _ _ _ w (rf2_Mul.zt (Nat.le_trans nx (by decide)) (Nat.le_trans ny (by decide))) (mul_d _ _ (by omega) (by omega)) hl
noncomputable def r3Mul (p1 q1 p2 q2 : ByteArray) : Option (ByteArray × ByteArray) := match rq p1 q1, rq p2 q2 with | some x, some y => if qm x ≤ 40000000000 ∧ qm y ≤ 40000000000 then some (zt (x * y).num, txt (x * y).den) else none | _, _ => none
theorem r3Mul_rt {x y : Rat} (hx : Fr x) (hy : Fr y) : r3Mul (zt x.num) (txt x.den) (zt y.num) (txt y.den) = some (zt (x * y).num, txt (x * y).den) := by
  rw [r3Mul, rq_rt, rq_rt];dsimp only;rw [if_pos ⟨Nat.le_trans hx (by decide), Nat.le_trans hy (by decide)⟩]
theorem r3Mul_calls (p1 q1 p2 q2 r1 r2 : ByteArray) (w : World) (h : r3Mul p1 q1 p2 q2 = some (r1, r2)) :
    Calls Tryz.prog 37 #[.agg #[.string p1, .string q1], .agg #[.string p2, .string q2]] w fun e w' => e = .returned (.agg #[.string r1, .string r2]) ∧ Below w.heap.size w w' := by
 rcases rq_cases p1 q1 with h1 | ⟨x, hp, hq, h1⟩
 · rw [r3Mul, h1] at h; cases h
 rcases rq_cases p2 q2 with h2 | ⟨y, hp', hq', h2⟩
 · rw [r3Mul, h1, h2] at h; cases h
 rw [r3Mul, h1, h2] at h;dsimp only at h;by_cases c : qm x ≤ 40000000000 ∧ qm y ≤ 40000000000
 · rw [if_pos c] at h;injection h with h;injection h with e1 e2;have := mul3_rt x y c.1 c.2 w;rw [e1, e2] at this;rw [hp, hq, hp', hq'];exact this
 rw [if_neg c] at h; cases h
end Go.Proofs.YtmmonhgfnmeieaaGreatDoor.Err
