/- rat.Right, Sign, Make, Neg, Compare, Power. -/
import Derived.Test.YtfjlmiehbikmnaaDoorRatO
namespace Go.Proofs.YtfjlmiehbikmnaaDoor.Err
open Go Go.RowKit Go.Extern.Stop Go.Stop Go.Extern Go.Proofs.YtfjlmiehbikmnaaDoorW.PrintWords Go.Proofs.YtfjlmiehbikmnaaDoor.PC Go.Proofs.YtfjlmiehbikmnaaDoor.Th Go.Proofs.YtfjlmiehbikmnaaDoor.Th.Wh
set_option maxHeartbeats 4000000
set_option maxRecDepth 1000000
theorem right_ok {aF aZ : Addr} (a p q : ByteArray) (w : World) (hG : GsAt aF aZ w)
    (hX : ∀ w, Calls Tryd.prog 31 #[.string a] w fun e w' => e = .returned (.tuple #[.agg #[.string p, .string q], .nilIface]) ∧ Below w.heap.size w w') :
    Calls Tryd.prog 16 #[.string a] w fun e w' => e = .returned (.bool true) ∧ Below w.heap.size w w' := by
  have HG0 := Aside0.mk hG
  have KX := Aside0.mk hX
  clear hG hX 
  have HB := Aside0.mk (Below.refl w.heap.size w)
  go_enter Tryd.func16, Tryd.ntmps16
  go_wp2_with (first
      | (go_at_call 31; with_reducible refine (KX.out _).mono ?_; rintro e w' ⟨rfl, hb⟩; replace HB := Aside0.mk (below_step T6_ hb); clear hb)
      | ((with_reducible refine gate_dst (N := 3) rfl ?_); refine box_event ?hg (N := 3) ?hd (cs := #[.string (⟨#[]⟩ : ByteArray), .string (⟨#[]⟩ : ByteArray)]) (t := 40) ?hr ?_; (case hd => rfl); (case hg => rfl); (case hr => exact T3_); intro g3 hg w3 hbox hb; have n0_ := Aside0.mk (below_step T6_ hb); have n1_ := Aside0.mk hbox; have n2_ := Aside0.mk ((by rw [hg]; exact (below_size T6_)) : w.heap.size ≤ g3); clear HB; have HB := n0_; have BK3 := n1_; have GE3 := n2_; clear n0_ n1_ n2_; clear hb hbox hg; have hz30 : w3.cell? ⟨g3, 0, none⟩ = some (.string (⟨#[]⟩ : ByteArray)) := (blk_cell BK3.out 0).trans rfl; have hz31 : w3.cell? ⟨g3, 1, none⟩ = some (.string (⟨#[]⟩ : ByteArray)) := (blk_cell BK3.out 1).trans rfl; have hf30 := blk_frozen BK3.out 0; have hf31 := blk_frozen BK3.out 1))
  go_ret
  exact ⟨rfl, T6_⟩
theorem right_no {aF aZ : Addr} (a : ByteArray) (w : World) (hG : GsAt aF aZ w)
    (hX : ∀ w, GsAt aF aZ w → Calls Tryd.prog 31 #[.string a] w fun e w' => ∃ v, e = .returned (.tuple #[.agg #[.string ⟨#[]⟩, .string ⟨#[]⟩], v]) ∧ ErrV aF aZ w' v 2 ∧ Below w.heap.size w w') :
    Calls Tryd.prog 16 #[.string a] w fun e w' => e = .returned (.bool false) ∧ Below w.heap.size w w' := by
  have HG0 := Aside0.mk hG
  have KX := Aside0.mk hX
  clear hG hX 
  have HB := Aside0.mk (Below.refl w.heap.size w)
  go_enter Tryd.func16, Tryd.ntmps16
  go_wp2_with (first
      | (go_at_call 31; with_reducible refine (KX.out _ (HG0.out.below T6_)).mono ?_; rintro e w' ⟨v, rfl, hev, hb⟩; replace HB := Aside0.mk (below_step T6_ hb); clear hb; obtain ⟨pb, rfl⟩ : ∃ pb, v = .iface 56 (.pointer (some ⟨pb, 0, none⟩)) := hev.iface (by decide); have EV := Aside0.mk hev; clear hev)
      | ((with_reducible refine gate_dst (N := 3) rfl ?_); refine box_event ?hg (N := 3) ?hd (cs := #[.string (⟨#[]⟩ : ByteArray), .string (⟨#[]⟩ : ByteArray)]) (t := 40) ?hr ?_; (case hd => rfl); (case hg => rfl); (case hr => exact T3_); intro g3 hg w3 hbox hb; have n0_ := Aside0.mk (below_step T6_ hb); have n1_ := Aside0.mk hbox; have n2_ := Aside0.mk ((by rw [hg]; exact (below_size T6_)) : w.heap.size ≤ g3); clear HB; have HB := n0_; have BK3 := n1_; have GE3 := n2_; clear n0_ n1_ n2_; have ev_ := Aside0.mk (EV.out.below hb); clear EV; have EV := ev_; clear ev_; clear hb hbox hg; have hz30 : w3.cell? ⟨g3, 0, none⟩ = some (.string (⟨#[]⟩ : ByteArray)) := (blk_cell BK3.out 0).trans rfl; have hz31 : w3.cell? ⟨g3, 1, none⟩ = some (.string (⟨#[]⟩ : ByteArray)) := (blk_cell BK3.out 1).trans rfl; have hf30 := blk_frozen BK3.out 0; have hf31 := blk_frozen BK3.out 1))
  go_ret
  exact ⟨rfl, T6_⟩
noncomputable def rRight (a : ByteArray) : Bool := (rv a).isSome
theorem right_calls (a : ByteArray) (ha : a.size ≤ 40000000000) (w : World) (hG : Gs w) :
    Calls Tryd.prog 16 #[.string a] w fun e w' => e = .returned (.bool (rRight a)) ∧ Below w.heap.size w w' := by
  obtain ⟨aF, aZ, hG⟩ := hG
  rcases rv_cases a with h | ⟨x, hx, h⟩
  · rw [rRight, h]; exact right_no a w hG (fun w hG => read_not a h ha w hG)
  · subst hx
    have hx := Nat.le_trans (qm_le x) ha
    rw [rRight, h]; exact right_ok _ _ _ w hG (fun w => read_rt x (by omega) w)
theorem sign_ok {aF aZ : Addr} (a p q : ByteArray) (r : Int) (w : World) (hG : GsAt aF aZ w)
    (hX : ∀ w, Calls Tryd.prog 31 #[.string a] w fun e w' => e = .returned (.tuple #[.agg #[.string p, .string q], .nilIface]) ∧ Below w.heap.size w w') (h1 : whole_Sign.f p = some (r, 0)) :
    Calls Tryd.prog 22 #[.string a] w fun e w' => e = .returned (.tuple #[.int .i64 r, .int .i64 0]) ∧ Below w.heap.size w w' := by
  have HG0 := Aside0.mk hG
  have KX := Aside0.mk hX
  have K1 := Aside0.mk h1
  clear hG hX h1
  have HB := Aside0.mk (Below.refl w.heap.size w)
  go_enter Tryd.func22, Tryd.ntmps22
  go_wp2_with (first
      | (go_at_call 31; with_reducible refine (KX.out _).mono ?_; rintro e w' ⟨rfl, hb⟩; replace HB := Aside0.mk (below_step T6_ hb); clear hb)
      | ((with_reducible refine gate_dst (N := 4) rfl ?_); refine box_event ?hg (N := 4) ?hd (cs := #[.string (⟨#[]⟩ : ByteArray), .string (⟨#[]⟩ : ByteArray)]) (t := 40) ?hr ?_; (case hd => rfl); (case hg => rfl); (case hr => exact T3_); intro g4 hg w4 hbox hb; have n0_ := Aside0.mk (below_step T6_ hb); have n1_ := Aside0.mk hbox; have n2_ := Aside0.mk ((by rw [hg]; exact (below_size T6_)) : w.heap.size ≤ g4); clear HB; have HB := n0_; have BK4 := n1_; have GE4 := n2_; clear n0_ n1_ n2_; clear hb hbox hg; have hz40 : w4.cell? ⟨g4, 0, none⟩ = some (.string (⟨#[]⟩ : ByteArray)) := (blk_cell BK4.out 0).trans rfl; have hz41 : w4.cell? ⟨g4, 1, none⟩ = some (.string (⟨#[]⟩ : ByteArray)) := (blk_cell BK4.out 1).trans rfl; have hf40 := blk_frozen BK4.out 0; have hf41 := blk_frozen BK4.out 1)
      | (go_at_call 37; with_reducible refine (whole_Sign.calls p r 0 _ K1.out).mono ?_; rintro e w' ⟨rfl, hb⟩; replace HB := Aside0.mk (below_step T6_ hb); clear hb))
  go_ret2
  exact ⟨rfl, HB.out⟩
theorem sign_no {aF aZ : Addr} (a : ByteArray) (w : World) (hG : GsAt aF aZ w)
    (hX : ∀ w, GsAt aF aZ w → Calls Tryd.prog 31 #[.string a] w fun e w' => ∃ v, e = .returned (.tuple #[.agg #[.string ⟨#[]⟩, .string ⟨#[]⟩], v]) ∧ ErrV aF aZ w' v 2 ∧ Below w.heap.size w w') :
    Calls Tryd.prog 22 #[.string a] w fun e w' => e = .returned (.tuple #[.int .i64 0, .int .i64 2]) ∧ Below w.heap.size w w' := by
  have HG0 := Aside0.mk hG
  have KX := Aside0.mk hX
  clear hG hX 
  have HB := Aside0.mk (Below.refl w.heap.size w)
  go_enter Tryd.func22, Tryd.ntmps22
  go_wp2_with (first
      | (go_at_call 31; with_reducible refine (KX.out _ (HG0.out.below T6_)).mono ?_; rintro e w' ⟨v, rfl, hev, hb⟩; replace HB := Aside0.mk (below_step T6_ hb); clear hb; obtain ⟨pb, rfl⟩ : ∃ pb, v = .iface 56 (.pointer (some ⟨pb, 0, none⟩)) := hev.iface (by decide); have EV := Aside0.mk hev; clear hev)
      | ((with_reducible refine gate_dst (N := 4) rfl ?_); refine box_event ?hg (N := 4) ?hd (cs := #[.string (⟨#[]⟩ : ByteArray), .string (⟨#[]⟩ : ByteArray)]) (t := 40) ?hr ?_; (case hd => rfl); (case hg => rfl); (case hr => exact T3_); intro g4 hg w4 hbox hb; have n0_ := Aside0.mk (below_step T6_ hb); have n1_ := Aside0.mk hbox; have n2_ := Aside0.mk ((by rw [hg]; exact (below_size T6_)) : w.heap.size ≤ g4); clear HB; have HB := n0_; have BK4 := n1_; have GE4 := n2_; clear n0_ n1_ n2_; have ev_ := Aside0.mk (EV.out.below hb); clear EV; have EV := ev_; clear ev_; clear hb hbox hg; have hz40 : w4.cell? ⟨g4, 0, none⟩ = some (.string (⟨#[]⟩ : ByteArray)) := (blk_cell BK4.out 0).trans rfl; have hz41 : w4.cell? ⟨g4, 1, none⟩ = some (.string (⟨#[]⟩ : ByteArray)) := (blk_cell BK4.out 1).trans rfl; have hf40 := blk_frozen BK4.out 0; have hf41 := blk_frozen BK4.out 1)
      | (go_at_call 34; with_reducible refine (number_v _ 2 _ (HG0.out.below T6_) (EV.out.set BK4.out) (by decide)).mono ?_; rintro e w' ⟨rfl, hb⟩; replace HB := Aside0.mk (below_step T6_ hb); clear hb))
  go_ret2
  exact ⟨rfl, HB.out⟩
theorem sign_rt {aF aZ : Addr} (x : Rat) (hx : qm x ≤ 100000000000) (w : World) (hG : GsAt aF aZ w) :
    Calls Tryd.prog 22 #[.string (rt x)] w fun e w' => e = .returned (.tuple #[.int .i64 (sgn x.num), .int .i64 0]) ∧ Below w.heap.size w w' := sign_ok _ _ _ _ w hG (fun w => read_rt x hx w) (whole_Sign.zt x.num)
noncomputable def rSign (a : ByteArray) : Int × Int := match rv a with | some x => (sgn x.num, 0) | none => (0, 2)
theorem sign_calls (a : ByteArray) (ha : a.size ≤ 40000000000) (w : World) (hG : Gs w) :
    Calls Tryd.prog 22 #[.string a] w fun e w' => e = .returned (.tuple #[.int .i64 (rSign a).1, .int .i64 (rSign a).2]) ∧ Below w.heap.size w w' := by
  obtain ⟨aF, aZ, hG⟩ := hG
  rcases rv_cases a with h | ⟨x, hx, h⟩
  · rw [rSign, h]; exact sign_no a w hG (fun w hG => read_not a h ha w hG)
  · subst hx
    have hx := Nat.le_trans (qm_le x) ha
    rw [rSign, h]; exact sign_rt x (by omega) w hG
noncomputable def rNeg (a : ByteArray) : ByteArray × Int := rSub ⟨#[48]⟩ a
theorem neg_calls (a : ByteArray) (ha : a.size ≤ 40000000000) (w : World) (hG : Gs w) :
    Calls Tryd.prog 21 #[.string a] w fun e w' => e = .returned (.tuple #[.string (rNeg a).1, .int .i64 (rNeg a).2]) ∧ Below w.heap.size w w' := by
  have KB := Aside0.mk (sub_calls ⟨#[48]⟩ a (by decide) ha w hG)
  unfold rNeg
  clear ha hG
  generalize rSub ⟨#[48]⟩ a = r at KB ⊢
  have HB := Aside0.mk (Below.refl w.heap.size w)
  go_enter Tryd.func21, Tryd.ntmps21
  go_wp2_with (first
      | (go_at_call 20; with_reducible refine (KB.out).mono ?_; rintro e w' ⟨rfl, hb⟩; replace HB := Aside0.mk (below_step T6_ hb); clear hb))
  go_ret2
  exact ⟨rfl, HB.out⟩
theorem compare_no (a b : ByteArray) (s : ByteArray) (w : World) (h : ∀ w', w' = w → Calls Tryd.prog 20 #[.string a, .string b] w' fun e w'' => e = .returned (.tuple #[.string s, .int .i64 2]) ∧ Below w'.heap.size w' w'') :
    Calls Tryd.prog 23 #[.string a, .string b] w fun e w' => e = .returned (.tuple #[.int .i64 0, .int .i64 2]) ∧ Below w.heap.size w w' := by
  have KB := Aside0.mk (h w rfl)
  clear h
  have HB := Aside0.mk (Below.refl w.heap.size w)
  go_enter Tryd.func23, Tryd.ntmps23
  go_wp2_with (first
      | (go_at_call 20; with_reducible refine (KB.out).mono ?_; rintro e w' ⟨rfl, hb⟩; replace HB := Aside0.mk (below_step T6_ hb); clear hb))
  go_ret2
  exact ⟨rfl, HB.out⟩
theorem compare_ok (a b : ByteArray) (s : ByteArray) (r : Int) (w : World) (h : Calls Tryd.prog 20 #[.string a, .string b] w fun e w'' => e = .returned (.tuple #[.string s, .int .i64 0]) ∧ Below w.heap.size w w'')
    (h2 : ∀ w', Below w.heap.size w w' → Calls Tryd.prog 22 #[.string s] w' fun e w'' => e = .returned (.tuple #[.int .i64 r, .int .i64 0]) ∧ Below w'.heap.size w' w'') :
    Calls Tryd.prog 23 #[.string a, .string b] w fun e w' => e = .returned (.tuple #[.int .i64 r, .int .i64 0]) ∧ Below w.heap.size w w' := by
  have KB := Aside0.mk h
  have KS := Aside0.mk h2
  clear h h2
  have HB := Aside0.mk (Below.refl w.heap.size w)
  go_enter Tryd.func23, Tryd.ntmps23
  go_wp2_with (first
      | (go_at_call 20; with_reducible refine (KB.out).mono ?_; rintro e w' ⟨rfl, hb⟩; replace HB := Aside0.mk (below_step T6_ hb); clear hb)
      | (go_at_call 22; with_reducible refine (KS.out _ T6_).mono ?_; rintro e w' ⟨rfl, hb⟩; replace HB := Aside0.mk (below_step T6_ hb); clear hb))
  go_ret2
  exact ⟨rfl, HB.out⟩
noncomputable def rCompare (a b : ByteArray) : Int × Int := match rv a, rv b with | some x, some y => (sgn (x - y).num, 0) | _, _ => (0, 2)
theorem compare_calls (a b : ByteArray) (ha : a.size ≤ 40000000000) (hb : b.size ≤ 40000000000) (w : World) (hG : Gs w) :
    Calls Tryd.prog 23 #[.string a, .string b] w fun e w' => e = .returned (.tuple #[.int .i64 (rCompare a b).1, .int .i64 (rCompare a b).2]) ∧ Below w.heap.size w w' := by
  have hs := sub_calls a b ha hb w hG
  obtain ⟨aF, aZ, hG⟩ := hG
  rcases rv_cases a with h | ⟨x, hx, h⟩
  · rw [rSub, h] at hs
    rw [rCompare, h]
    exact compare_no a b _ w (fun _ e => e ▸ hs)
  rcases rv_cases b with h' | ⟨y, hy, h'⟩
  · rw [rSub, h, h'] at hs
    rw [rCompare, h, h']
    exact compare_no a b _ w (fun _ e => e ▸ hs)
  · rw [rSub, h, h'] at hs
    rw [rCompare, h, h']
    subst hx hy
    have hx := Nat.le_trans (qm_le x) ha
    have hy := Nat.le_trans (qm_le y) hb
    have := qm_sub x y
    exact compare_ok _ _ _ _ w hs (fun w' hb => sign_rt (x - y) (by omega) w' (hG.below hb))
theorem make_no1 (p q : ByteArray) (w : World) (h1 : whole_Right.f p = some false) :
    Calls Tryd.prog 15 #[.string p, .string q] w fun e w' => e = .returned (.tuple #[.string ⟨#[]⟩, .int .i64 2]) ∧ Below w.heap.size w w' := by
  have K1 := Aside0.mk h1
  clear h1
  have HB := Aside0.mk (Below.refl w.heap.size w)
  go_enter Tryd.func15, Tryd.ntmps15
  go_wp2_with (first
      | (go_at_call 29; with_reducible refine (whole_Right.calls p false _ K1.out).mono ?_; rintro e w' ⟨rfl, hb⟩; replace HB := Aside0.mk (below_step T6_ hb); clear hb))
  go_ret2
  exact ⟨rfl, HB.out⟩
theorem make_no2 (p q : ByteArray) (w : World) (h1 : whole_Right.f p = some true) (h2 : whole_Right.f q = some false) :
    Calls Tryd.prog 15 #[.string p, .string q] w fun e w' => e = .returned (.tuple #[.string ⟨#[]⟩, .int .i64 2]) ∧ Below w.heap.size w w' := by
  have K1 := Aside0.mk h1
  have K2 := Aside0.mk h2
  clear h1 h2
  have HB := Aside0.mk (Below.refl w.heap.size w)
  go_enter Tryd.func15, Tryd.ntmps15
  go_wp2_with (first
      | (go_at_call 29; with_reducible refine (whole_Right.calls p true _ K1.out).mono ?_; rintro e w' ⟨rfl, hb⟩; replace HB := Aside0.mk (below_step T6_ hb); clear hb)
      | (go_at_call 29; with_reducible refine (whole_Right.calls q false _ K2.out).mono ?_; rintro e w' ⟨rfl, hb⟩; replace HB := Aside0.mk (below_step T6_ hb); clear hb))
  go_ret2
  exact ⟨rfl, HB.out⟩
theorem make_ok {aF aZ : Addr} (p q n d r : ByteArray) (c : Int) (w : World) (hG : GsAt aF aZ w) (h1 : whole_Right.f p = some true) (h2 : whole_Right.f q = some true)
    (hL : ∀ w, GsAt aF aZ w → Calls Tryd.prog 28 #[.string p, .string q] w fun e w' => ∃ v, e = .returned (.tuple #[.agg #[.string n, .string d], v]) ∧ ErrV aF aZ w' v c ∧ Below w.heap.size w w')
    (h3 : c = 0 → rat_pair_text.f n d = some r) (h4 : c ≠ 0 → r = ⟨#[]⟩) :
    Calls Tryd.prog 15 #[.string p, .string q] w fun e w' => e = .returned (.tuple #[.string r, .int .i64 c]) ∧ Below w.heap.size w w' := by
  have K1 := Aside0.mk h1
  have K2 := Aside0.mk h2
  have KL := Aside0.mk hL
  have HG0 := Aside0.mk hG
  have K3 := Aside0.mk h3
  have K4 := Aside0.mk h4
  clear h1 h2 hL hG h3 h4
  have HB := Aside0.mk (Below.refl w.heap.size w)
  go_enter Tryd.func15, Tryd.ntmps15
  go_wp2_with (first
      | (go_at_call 29; with_reducible refine (whole_Right.calls p true _ K1.out).mono ?_; rintro e w' ⟨rfl, hb⟩; replace HB := Aside0.mk (below_step T6_ hb); clear hb)
      | (go_at_call 29; with_reducible refine (whole_Right.calls q true _ K2.out).mono ?_; rintro e w' ⟨rfl, hb⟩; replace HB := Aside0.mk (below_step T6_ hb); clear hb)
      | (go_at_call 28; with_reducible refine (KL.out _ (HG0.out.below T6_)).mono ?_; rintro e w' ⟨v, rfl, hev, hb⟩; have n1_ := Aside0.mk (below_step T6_ hb); clear HB; have HB := n1_; have EV := Aside0.mk hev; clear n1_ hb hev)
      | (go_at_call 30; with_reducible refine (told_any n d r v c _ (HG0.out.below T6_) EV.out K3.out K4.out).mono ?_; rintro e w' ⟨rfl, hb⟩; replace HB := Aside0.mk (below_step T6_ hb); clear hb))
  go_ret2
  exact ⟨rfl, HB.out⟩
/-- What a text tells: a whole number, or none. -/
noncomputable def zv (s : ByteArray) : Option Int := by
  classical exact if h : ∃ x, s = zt x then some h.choose else none
theorem zv_zt (x : Int) : zv (zt x) = some x := by
  unfold zv
  rw [dif_pos ⟨x, rfl⟩]
  exact congrArg some (zt_inj (Exists.choose_spec (p := fun y => zt x = zt y) ⟨x, rfl⟩)).symm
theorem zv_cases (s : ByteArray) : (zv s = none ∧ right s = false) ∨ ∃ z, s = zt z ∧ zv s = some z := by
  cases h : right s with
  | true =>
    obtain ⟨z, rfl⟩ := zt_of_right h
    exact Or.inr ⟨z, rfl, zv_zt z⟩
  | false =>
    refine Or.inl ⟨?_, rfl⟩
    unfold zv
    rw [dif_neg]
    rintro ⟨z, rfl⟩
    rw [right_zt] at h
    cases h
noncomputable def rMake (p q : ByteArray) : ByteArray × Int := match zv p, zv q with | some a, some b => if b = 0 then (⟨#[]⟩, 3) else (rt (Rat.divInt a b), 0) | _, _ => (⟨#[]⟩, 2)
theorem make_calls (p q : ByteArray) (hp : p.size ≤ 40000000000) (hq : q.size ≤ 40000000000) (w : World) (hG : Gs w) :
    Calls Tryd.prog 15 #[.string p, .string q] w fun e w' => e = .returned (.tuple #[.string (rMake p q).1, .int .i64 (rMake p q).2]) ∧ Below w.heap.size w w' := by
  obtain ⟨aF, aZ, hG⟩ := hG
  rcases zv_cases p with ⟨h, k⟩ | ⟨a, ha, h⟩
  · rw [rMake, h]
    exact make_no1 p q w (by rw [whole_Right.of, k])
  rcases zv_cases q with ⟨h', k⟩ | ⟨b, hb, h'⟩
  · rw [rMake, h, h']
    subst ha
    exact make_no2 _ q w (by rw [whole_Right.of, right_zt]) (by rw [whole_Right.of, k])
  · rw [rMake, h, h']
    subst ha hb
    have za := (zs_le a).1
    have zb := (zs_le b).1
    have k1 : whole_Right.f (zt a) = some true := by rw [whole_Right.of, right_zt]
    have k2 : whole_Right.f (zt b) = some true := by rw [whole_Right.of, right_zt]
    dsimp only
    by_cases h0 : b = 0
    · subst h0
      rw [if_pos rfl]
      have e0 : zt 0 = (⟨#[48]⟩ : ByteArray) := (zt_nat 0).trans (txt_small 0 (by decide))
      exact make_ok (zt a) (zt 0) _ _ _ 3 w hG k1 k2 (by rw [e0]; exact fun w hG => lowest_zero _ w hG (by omega)) (fun h => absurd h (by decide)) (fun _ => rfl)
    · rw [if_neg h0]
      have hm := qm_divInt a b (d := 40000000000) (by omega) (by omega)
      exact make_ok _ _ _ _ _ 0 w hG k1 k2 (fun w _ => lowest_ok a b h0 (by omega) (by omega) w) (fun _ => text_rt _ (by omega)) (fun h => absurd rfl h)
theorem power_0 {aF aZ : Addr} (a p q : ByteArray) (w : World) (hG : GsAt aF aZ w)
    (hX : ∀ w, Calls Tryd.prog 31 #[.string a] w fun e w' => e = .returned (.tuple #[.agg #[.string p, .string q], .nilIface]) ∧ Below w.heap.size w w') :
    Calls Tryd.prog 19 #[.string a, .int .i64 0] w fun e w' => e = .returned (.tuple #[.string ⟨#[49]⟩, .int .i64 0]) ∧ Below w.heap.size w w' := by
  have HG0 := Aside0.mk hG
  have KX := Aside0.mk hX
  clear hG hX 
  have HB := Aside0.mk (Below.refl w.heap.size w)
  go_enter Tryd.func19, Tryd.ntmps19
  go_wp2_with (first
      | (go_at_call 31; with_reducible refine (KX.out _).mono ?_; rintro e w' ⟨rfl, hb⟩; replace HB := Aside0.mk (below_step T6_ hb); clear hb)
      | ((with_reducible refine gate_dst (N := 6) rfl ?_); refine box_event ?hg (N := 6) ?hd (cs := #[.string (⟨#[]⟩ : ByteArray), .string (⟨#[]⟩ : ByteArray)]) (t := 40) ?hr ?_; (case hd => rfl); (case hg => rfl); (case hr => exact T3_); intro g6 hg w6 hbox hb; have n0_ := Aside0.mk (below_step T6_ hb); have n1_ := Aside0.mk hbox; have n2_ := Aside0.mk ((by rw [hg]; exact (below_size T6_)) : w.heap.size ≤ g6); clear HB; have HB := n0_; have BK6 := n1_; have GE6 := n2_; clear n0_ n1_ n2_; clear hb hbox hg; have hz60 : w6.cell? ⟨g6, 0, none⟩ = some (.string (⟨#[]⟩ : ByteArray)) := (blk_cell BK6.out 0).trans rfl; have hz61 : w6.cell? ⟨g6, 1, none⟩ = some (.string (⟨#[]⟩ : ByteArray)) := (blk_cell BK6.out 1).trans rfl; have hf60 := blk_frozen BK6.out 0; have hf61 := blk_frozen BK6.out 1))
  refine wp_loop_rounds 1 ?_
  rw [rounds_succ]
  go_wp2
  go_ret2
  exact ⟨rfl, T6_⟩
theorem power_1 {aF aZ : Addr} (a p q o1 : ByteArray) (w : World) (hG : GsAt aF aZ w)
    (hX : ∀ w, Calls Tryd.prog 31 #[.string a] w fun e w' => e = .returned (.tuple #[.agg #[.string p, .string q], .nilIface]) ∧ Below w.heap.size w w') (h0 : ∀ w, GsAt aF aZ w → Calls Tryd.prog 18 #[.string ⟨#[49]⟩, .string a] w fun e w' => e = .returned (.tuple #[.string o1, .int .i64 0]) ∧ Below w.heap.size w w') :
    Calls Tryd.prog 19 #[.string a, .int .i64 1] w fun e w' => e = .returned (.tuple #[.string o1, .int .i64 0]) ∧ Below w.heap.size w w' := by
  have HG0 := Aside0.mk hG
  have KX := Aside0.mk hX
  have M0 := Aside0.mk h0
  clear hG hX h0
  have HB := Aside0.mk (Below.refl w.heap.size w)
  go_enter Tryd.func19, Tryd.ntmps19
  go_wp2_with (first
      | (go_at_call 31; with_reducible refine (KX.out _).mono ?_; rintro e w' ⟨rfl, hb⟩; replace HB := Aside0.mk (below_step T6_ hb); clear hb)
      | ((with_reducible refine gate_dst (N := 6) rfl ?_); refine box_event ?hg (N := 6) ?hd (cs := #[.string (⟨#[]⟩ : ByteArray), .string (⟨#[]⟩ : ByteArray)]) (t := 40) ?hr ?_; (case hd => rfl); (case hg => rfl); (case hr => exact T3_); intro g6 hg w6 hbox hb; have n0_ := Aside0.mk (below_step T6_ hb); have n1_ := Aside0.mk hbox; have n2_ := Aside0.mk ((by rw [hg]; exact (below_size T6_)) : w.heap.size ≤ g6); clear HB; have HB := n0_; have BK6 := n1_; have GE6 := n2_; clear n0_ n1_ n2_; clear hb hbox hg; have hz60 : w6.cell? ⟨g6, 0, none⟩ = some (.string (⟨#[]⟩ : ByteArray)) := (blk_cell BK6.out 0).trans rfl; have hz61 : w6.cell? ⟨g6, 1, none⟩ = some (.string (⟨#[]⟩ : ByteArray)) := (blk_cell BK6.out 1).trans rfl; have hf60 := blk_frozen BK6.out 0; have hf61 := blk_frozen BK6.out 1))
  refine wp_loop_rounds 2 ?_
  rw [rounds_succ]
  go_wp2_with (first | (go_at_call 18; with_reducible refine (M0.out _ (HG0.out.below T6_)).mono ?_; rintro e w' ⟨rfl, hb⟩; replace HB := Aside0.mk (below_step T6_ hb); clear hb))
  rw [rounds_succ]
  go_wp2
  go_ret2
  exact ⟨rfl, T6_⟩
theorem power_2 {aF aZ : Addr} (a p q o1 o2 : ByteArray) (w : World) (hG : GsAt aF aZ w)
    (hX : ∀ w, Calls Tryd.prog 31 #[.string a] w fun e w' => e = .returned (.tuple #[.agg #[.string p, .string q], .nilIface]) ∧ Below w.heap.size w w') (h0 : ∀ w, GsAt aF aZ w → Calls Tryd.prog 18 #[.string ⟨#[49]⟩, .string a] w fun e w' => e = .returned (.tuple #[.string o1, .int .i64 0]) ∧ Below w.heap.size w w') (h1 : ∀ w, GsAt aF aZ w → Calls Tryd.prog 18 #[.string o1, .string a] w fun e w' => e = .returned (.tuple #[.string o2, .int .i64 0]) ∧ Below w.heap.size w w') :
    Calls Tryd.prog 19 #[.string a, .int .i64 2] w fun e w' => e = .returned (.tuple #[.string o2, .int .i64 0]) ∧ Below w.heap.size w w' := by
  have HG0 := Aside0.mk hG
  have KX := Aside0.mk hX
  have M0 := Aside0.mk h0
  have M1 := Aside0.mk h1
  clear hG hX h0 h1
  have HB := Aside0.mk (Below.refl w.heap.size w)
  go_enter Tryd.func19, Tryd.ntmps19
  go_wp2_with (first
      | (go_at_call 31; with_reducible refine (KX.out _).mono ?_; rintro e w' ⟨rfl, hb⟩; replace HB := Aside0.mk (below_step T6_ hb); clear hb)
      | ((with_reducible refine gate_dst (N := 6) rfl ?_); refine box_event ?hg (N := 6) ?hd (cs := #[.string (⟨#[]⟩ : ByteArray), .string (⟨#[]⟩ : ByteArray)]) (t := 40) ?hr ?_; (case hd => rfl); (case hg => rfl); (case hr => exact T3_); intro g6 hg w6 hbox hb; have n0_ := Aside0.mk (below_step T6_ hb); have n1_ := Aside0.mk hbox; have n2_ := Aside0.mk ((by rw [hg]; exact (below_size T6_)) : w.heap.size ≤ g6); clear HB; have HB := n0_; have BK6 := n1_; have GE6 := n2_; clear n0_ n1_ n2_; clear hb hbox hg; have hz60 : w6.cell? ⟨g6, 0, none⟩ = some (.string (⟨#[]⟩ : ByteArray)) := (blk_cell BK6.out 0).trans rfl; have hz61 : w6.cell? ⟨g6, 1, none⟩ = some (.string (⟨#[]⟩ : ByteArray)) := (blk_cell BK6.out 1).trans rfl; have hf60 := blk_frozen BK6.out 0; have hf61 := blk_frozen BK6.out 1))
  refine wp_loop_rounds 3 ?_
  rw [rounds_succ]
  go_wp2_with (first | (go_at_call 18; with_reducible refine (M0.out _ (HG0.out.below T6_)).mono ?_; rintro e w' ⟨rfl, hb⟩; replace HB := Aside0.mk (below_step T6_ hb); clear hb))
  rw [rounds_succ]
  go_wp2_with (first | (go_at_call 18; with_reducible refine (M1.out _ (HG0.out.below T6_)).mono ?_; rintro e w' ⟨rfl, hb⟩; replace HB := Aside0.mk (below_step T6_ hb); clear hb))
  rw [rounds_succ]
  go_wp2
  go_ret2
  exact ⟨rfl, T6_⟩
theorem power_3 {aF aZ : Addr} (a p q o1 o2 o3 : ByteArray) (w : World) (hG : GsAt aF aZ w)
    (hX : ∀ w, Calls Tryd.prog 31 #[.string a] w fun e w' => e = .returned (.tuple #[.agg #[.string p, .string q], .nilIface]) ∧ Below w.heap.size w w') (h0 : ∀ w, GsAt aF aZ w → Calls Tryd.prog 18 #[.string ⟨#[49]⟩, .string a] w fun e w' => e = .returned (.tuple #[.string o1, .int .i64 0]) ∧ Below w.heap.size w w') (h1 : ∀ w, GsAt aF aZ w → Calls Tryd.prog 18 #[.string o1, .string a] w fun e w' => e = .returned (.tuple #[.string o2, .int .i64 0]) ∧ Below w.heap.size w w') (h2 : ∀ w, GsAt aF aZ w → Calls Tryd.prog 18 #[.string o2, .string a] w fun e w' => e = .returned (.tuple #[.string o3, .int .i64 0]) ∧ Below w.heap.size w w') :
    Calls Tryd.prog 19 #[.string a, .int .i64 3] w fun e w' => e = .returned (.tuple #[.string o3, .int .i64 0]) ∧ Below w.heap.size w w' := by
  have HG0 := Aside0.mk hG
  have KX := Aside0.mk hX
  have M0 := Aside0.mk h0
  have M1 := Aside0.mk h1
  have M2 := Aside0.mk h2
  clear hG hX h0 h1 h2
  have HB := Aside0.mk (Below.refl w.heap.size w)
  go_enter Tryd.func19, Tryd.ntmps19
  go_wp2_with (first
      | (go_at_call 31; with_reducible refine (KX.out _).mono ?_; rintro e w' ⟨rfl, hb⟩; replace HB := Aside0.mk (below_step T6_ hb); clear hb)
      | ((with_reducible refine gate_dst (N := 6) rfl ?_); refine box_event ?hg (N := 6) ?hd (cs := #[.string (⟨#[]⟩ : ByteArray), .string (⟨#[]⟩ : ByteArray)]) (t := 40) ?hr ?_; (case hd => rfl); (case hg => rfl); (case hr => exact T3_); intro g6 hg w6 hbox hb; have n0_ := Aside0.mk (below_step T6_ hb); have n1_ := Aside0.mk hbox; have n2_ := Aside0.mk ((by rw [hg]; exact (below_size T6_)) : w.heap.size ≤ g6); clear HB; have HB := n0_; have BK6 := n1_; have GE6 := n2_; clear n0_ n1_ n2_; clear hb hbox hg; have hz60 : w6.cell? ⟨g6, 0, none⟩ = some (.string (⟨#[]⟩ : ByteArray)) := (blk_cell BK6.out 0).trans rfl; have hz61 : w6.cell? ⟨g6, 1, none⟩ = some (.string (⟨#[]⟩ : ByteArray)) := (blk_cell BK6.out 1).trans rfl; have hf60 := blk_frozen BK6.out 0; have hf61 := blk_frozen BK6.out 1))
  refine wp_loop_rounds 4 ?_
  rw [rounds_succ]
  go_wp2_with (first | (go_at_call 18; with_reducible refine (M0.out _ (HG0.out.below T6_)).mono ?_; rintro e w' ⟨rfl, hb⟩; replace HB := Aside0.mk (below_step T6_ hb); clear hb))
  rw [rounds_succ]
  go_wp2_with (first | (go_at_call 18; with_reducible refine (M1.out _ (HG0.out.below T6_)).mono ?_; rintro e w' ⟨rfl, hb⟩; replace HB := Aside0.mk (below_step T6_ hb); clear hb))
  rw [rounds_succ]
  go_wp2_with (first | (go_at_call 18; with_reducible refine (M2.out _ (HG0.out.below T6_)).mono ?_; rintro e w' ⟨rfl, hb⟩; replace HB := Aside0.mk (below_step T6_ hb); clear hb))
  rw [rounds_succ]
  go_wp2
  go_ret2
  exact ⟨rfl, T6_⟩
theorem power_4 {aF aZ : Addr} (a p q o1 o2 o3 o4 : ByteArray) (w : World) (hG : GsAt aF aZ w)
    (hX : ∀ w, Calls Tryd.prog 31 #[.string a] w fun e w' => e = .returned (.tuple #[.agg #[.string p, .string q], .nilIface]) ∧ Below w.heap.size w w') (h0 : ∀ w, GsAt aF aZ w → Calls Tryd.prog 18 #[.string ⟨#[49]⟩, .string a] w fun e w' => e = .returned (.tuple #[.string o1, .int .i64 0]) ∧ Below w.heap.size w w') (h1 : ∀ w, GsAt aF aZ w → Calls Tryd.prog 18 #[.string o1, .string a] w fun e w' => e = .returned (.tuple #[.string o2, .int .i64 0]) ∧ Below w.heap.size w w') (h2 : ∀ w, GsAt aF aZ w → Calls Tryd.prog 18 #[.string o2, .string a] w fun e w' => e = .returned (.tuple #[.string o3, .int .i64 0]) ∧ Below w.heap.size w w') (h3 : ∀ w, GsAt aF aZ w → Calls Tryd.prog 18 #[.string o3, .string a] w fun e w' => e = .returned (.tuple #[.string o4, .int .i64 0]) ∧ Below w.heap.size w w') :
    Calls Tryd.prog 19 #[.string a, .int .i64 4] w fun e w' => e = .returned (.tuple #[.string o4, .int .i64 0]) ∧ Below w.heap.size w w' := by
  have HG0 := Aside0.mk hG
  have KX := Aside0.mk hX
  have M0 := Aside0.mk h0
  have M1 := Aside0.mk h1
  have M2 := Aside0.mk h2
  have M3 := Aside0.mk h3
  clear hG hX h0 h1 h2 h3
  have HB := Aside0.mk (Below.refl w.heap.size w)
  go_enter Tryd.func19, Tryd.ntmps19
  go_wp2_with (first
      | (go_at_call 31; with_reducible refine (KX.out _).mono ?_; rintro e w' ⟨rfl, hb⟩; replace HB := Aside0.mk (below_step T6_ hb); clear hb)
      | ((with_reducible refine gate_dst (N := 6) rfl ?_); refine box_event ?hg (N := 6) ?hd (cs := #[.string (⟨#[]⟩ : ByteArray), .string (⟨#[]⟩ : ByteArray)]) (t := 40) ?hr ?_; (case hd => rfl); (case hg => rfl); (case hr => exact T3_); intro g6 hg w6 hbox hb; have n0_ := Aside0.mk (below_step T6_ hb); have n1_ := Aside0.mk hbox; have n2_ := Aside0.mk ((by rw [hg]; exact (below_size T6_)) : w.heap.size ≤ g6); clear HB; have HB := n0_; have BK6 := n1_; have GE6 := n2_; clear n0_ n1_ n2_; clear hb hbox hg; have hz60 : w6.cell? ⟨g6, 0, none⟩ = some (.string (⟨#[]⟩ : ByteArray)) := (blk_cell BK6.out 0).trans rfl; have hz61 : w6.cell? ⟨g6, 1, none⟩ = some (.string (⟨#[]⟩ : ByteArray)) := (blk_cell BK6.out 1).trans rfl; have hf60 := blk_frozen BK6.out 0; have hf61 := blk_frozen BK6.out 1))
  refine wp_loop_rounds 5 ?_
  rw [rounds_succ]
  go_wp2_with (first | (go_at_call 18; with_reducible refine (M0.out _ (HG0.out.below T6_)).mono ?_; rintro e w' ⟨rfl, hb⟩; replace HB := Aside0.mk (below_step T6_ hb); clear hb))
  rw [rounds_succ]
  go_wp2_with (first | (go_at_call 18; with_reducible refine (M1.out _ (HG0.out.below T6_)).mono ?_; rintro e w' ⟨rfl, hb⟩; replace HB := Aside0.mk (below_step T6_ hb); clear hb))
  rw [rounds_succ]
  go_wp2_with (first | (go_at_call 18; with_reducible refine (M2.out _ (HG0.out.below T6_)).mono ?_; rintro e w' ⟨rfl, hb⟩; replace HB := Aside0.mk (below_step T6_ hb); clear hb))
  rw [rounds_succ]
  go_wp2_with (first | (go_at_call 18; with_reducible refine (M3.out _ (HG0.out.below T6_)).mono ?_; rintro e w' ⟨rfl, hb⟩; replace HB := Aside0.mk (below_step T6_ hb); clear hb))
  rw [rounds_succ]
  go_wp2
  go_ret2
  exact ⟨rfl, T6_⟩
theorem power_5 {aF aZ : Addr} (a p q o1 o2 o3 o4 o5 : ByteArray) (w : World) (hG : GsAt aF aZ w)
    (hX : ∀ w, Calls Tryd.prog 31 #[.string a] w fun e w' => e = .returned (.tuple #[.agg #[.string p, .string q], .nilIface]) ∧ Below w.heap.size w w') (h0 : ∀ w, GsAt aF aZ w → Calls Tryd.prog 18 #[.string ⟨#[49]⟩, .string a] w fun e w' => e = .returned (.tuple #[.string o1, .int .i64 0]) ∧ Below w.heap.size w w') (h1 : ∀ w, GsAt aF aZ w → Calls Tryd.prog 18 #[.string o1, .string a] w fun e w' => e = .returned (.tuple #[.string o2, .int .i64 0]) ∧ Below w.heap.size w w') (h2 : ∀ w, GsAt aF aZ w → Calls Tryd.prog 18 #[.string o2, .string a] w fun e w' => e = .returned (.tuple #[.string o3, .int .i64 0]) ∧ Below w.heap.size w w') (h3 : ∀ w, GsAt aF aZ w → Calls Tryd.prog 18 #[.string o3, .string a] w fun e w' => e = .returned (.tuple #[.string o4, .int .i64 0]) ∧ Below w.heap.size w w') (h4 : ∀ w, GsAt aF aZ w → Calls Tryd.prog 18 #[.string o4, .string a] w fun e w' => e = .returned (.tuple #[.string o5, .int .i64 0]) ∧ Below w.heap.size w w') :
    Calls Tryd.prog 19 #[.string a, .int .i64 5] w fun e w' => e = .returned (.tuple #[.string o5, .int .i64 0]) ∧ Below w.heap.size w w' := by
  have HG0 := Aside0.mk hG
  have KX := Aside0.mk hX
  have M0 := Aside0.mk h0
  have M1 := Aside0.mk h1
  have M2 := Aside0.mk h2
  have M3 := Aside0.mk h3
  have M4 := Aside0.mk h4
  clear hG hX h0 h1 h2 h3 h4
  have HB := Aside0.mk (Below.refl w.heap.size w)
  go_enter Tryd.func19, Tryd.ntmps19
  go_wp2_with (first
      | (go_at_call 31; with_reducible refine (KX.out _).mono ?_; rintro e w' ⟨rfl, hb⟩; replace HB := Aside0.mk (below_step T6_ hb); clear hb)
      | ((with_reducible refine gate_dst (N := 6) rfl ?_); refine box_event ?hg (N := 6) ?hd (cs := #[.string (⟨#[]⟩ : ByteArray), .string (⟨#[]⟩ : ByteArray)]) (t := 40) ?hr ?_; (case hd => rfl); (case hg => rfl); (case hr => exact T3_); intro g6 hg w6 hbox hb; have n0_ := Aside0.mk (below_step T6_ hb); have n1_ := Aside0.mk hbox; have n2_ := Aside0.mk ((by rw [hg]; exact (below_size T6_)) : w.heap.size ≤ g6); clear HB; have HB := n0_; have BK6 := n1_; have GE6 := n2_; clear n0_ n1_ n2_; clear hb hbox hg; have hz60 : w6.cell? ⟨g6, 0, none⟩ = some (.string (⟨#[]⟩ : ByteArray)) := (blk_cell BK6.out 0).trans rfl; have hz61 : w6.cell? ⟨g6, 1, none⟩ = some (.string (⟨#[]⟩ : ByteArray)) := (blk_cell BK6.out 1).trans rfl; have hf60 := blk_frozen BK6.out 0; have hf61 := blk_frozen BK6.out 1))
  refine wp_loop_rounds 6 ?_
  rw [rounds_succ]
  go_wp2_with (first | (go_at_call 18; with_reducible refine (M0.out _ (HG0.out.below T6_)).mono ?_; rintro e w' ⟨rfl, hb⟩; replace HB := Aside0.mk (below_step T6_ hb); clear hb))
  rw [rounds_succ]
  go_wp2_with (first | (go_at_call 18; with_reducible refine (M1.out _ (HG0.out.below T6_)).mono ?_; rintro e w' ⟨rfl, hb⟩; replace HB := Aside0.mk (below_step T6_ hb); clear hb))
  rw [rounds_succ]
  go_wp2_with (first | (go_at_call 18; with_reducible refine (M2.out _ (HG0.out.below T6_)).mono ?_; rintro e w' ⟨rfl, hb⟩; replace HB := Aside0.mk (below_step T6_ hb); clear hb))
  rw [rounds_succ]
  go_wp2_with (first | (go_at_call 18; with_reducible refine (M3.out _ (HG0.out.below T6_)).mono ?_; rintro e w' ⟨rfl, hb⟩; replace HB := Aside0.mk (below_step T6_ hb); clear hb))
  rw [rounds_succ]
  go_wp2_with (first | (go_at_call 18; with_reducible refine (M4.out _ (HG0.out.below T6_)).mono ?_; rintro e w' ⟨rfl, hb⟩; replace HB := Aside0.mk (below_step T6_ hb); clear hb))
  rw [rounds_succ]
  go_wp2
  go_ret2
  exact ⟨rfl, T6_⟩
theorem power_6 {aF aZ : Addr} (a p q o1 o2 o3 o4 o5 o6 : ByteArray) (w : World) (hG : GsAt aF aZ w)
    (hX : ∀ w, Calls Tryd.prog 31 #[.string a] w fun e w' => e = .returned (.tuple #[.agg #[.string p, .string q], .nilIface]) ∧ Below w.heap.size w w') (h0 : ∀ w, GsAt aF aZ w → Calls Tryd.prog 18 #[.string ⟨#[49]⟩, .string a] w fun e w' => e = .returned (.tuple #[.string o1, .int .i64 0]) ∧ Below w.heap.size w w') (h1 : ∀ w, GsAt aF aZ w → Calls Tryd.prog 18 #[.string o1, .string a] w fun e w' => e = .returned (.tuple #[.string o2, .int .i64 0]) ∧ Below w.heap.size w w') (h2 : ∀ w, GsAt aF aZ w → Calls Tryd.prog 18 #[.string o2, .string a] w fun e w' => e = .returned (.tuple #[.string o3, .int .i64 0]) ∧ Below w.heap.size w w') (h3 : ∀ w, GsAt aF aZ w → Calls Tryd.prog 18 #[.string o3, .string a] w fun e w' => e = .returned (.tuple #[.string o4, .int .i64 0]) ∧ Below w.heap.size w w') (h4 : ∀ w, GsAt aF aZ w → Calls Tryd.prog 18 #[.string o4, .string a] w fun e w' => e = .returned (.tuple #[.string o5, .int .i64 0]) ∧ Below w.heap.size w w') (h5 : ∀ w, GsAt aF aZ w → Calls Tryd.prog 18 #[.string o5, .string a] w fun e w' => e = .returned (.tuple #[.string o6, .int .i64 0]) ∧ Below w.heap.size w w') :
    Calls Tryd.prog 19 #[.string a, .int .i64 6] w fun e w' => e = .returned (.tuple #[.string o6, .int .i64 0]) ∧ Below w.heap.size w w' := by
  have HG0 := Aside0.mk hG
  have KX := Aside0.mk hX
  have M0 := Aside0.mk h0
  have M1 := Aside0.mk h1
  have M2 := Aside0.mk h2
  have M3 := Aside0.mk h3
  have M4 := Aside0.mk h4
  have M5 := Aside0.mk h5
  clear hG hX h0 h1 h2 h3 h4 h5
  have HB := Aside0.mk (Below.refl w.heap.size w)
  go_enter Tryd.func19, Tryd.ntmps19
  go_wp2_with (first
      | (go_at_call 31; with_reducible refine (KX.out _).mono ?_; rintro e w' ⟨rfl, hb⟩; replace HB := Aside0.mk (below_step T6_ hb); clear hb)
      | ((with_reducible refine gate_dst (N := 6) rfl ?_); refine box_event ?hg (N := 6) ?hd (cs := #[.string (⟨#[]⟩ : ByteArray), .string (⟨#[]⟩ : ByteArray)]) (t := 40) ?hr ?_; (case hd => rfl); (case hg => rfl); (case hr => exact T3_); intro g6 hg w6 hbox hb; have n0_ := Aside0.mk (below_step T6_ hb); have n1_ := Aside0.mk hbox; have n2_ := Aside0.mk ((by rw [hg]; exact (below_size T6_)) : w.heap.size ≤ g6); clear HB; have HB := n0_; have BK6 := n1_; have GE6 := n2_; clear n0_ n1_ n2_; clear hb hbox hg; have hz60 : w6.cell? ⟨g6, 0, none⟩ = some (.string (⟨#[]⟩ : ByteArray)) := (blk_cell BK6.out 0).trans rfl; have hz61 : w6.cell? ⟨g6, 1, none⟩ = some (.string (⟨#[]⟩ : ByteArray)) := (blk_cell BK6.out 1).trans rfl; have hf60 := blk_frozen BK6.out 0; have hf61 := blk_frozen BK6.out 1))
  refine wp_loop_rounds 7 ?_
  rw [rounds_succ]
  go_wp2_with (first | (go_at_call 18; with_reducible refine (M0.out _ (HG0.out.below T6_)).mono ?_; rintro e w' ⟨rfl, hb⟩; replace HB := Aside0.mk (below_step T6_ hb); clear hb))
  rw [rounds_succ]
  go_wp2_with (first | (go_at_call 18; with_reducible refine (M1.out _ (HG0.out.below T6_)).mono ?_; rintro e w' ⟨rfl, hb⟩; replace HB := Aside0.mk (below_step T6_ hb); clear hb))
  rw [rounds_succ]
  go_wp2_with (first | (go_at_call 18; with_reducible refine (M2.out _ (HG0.out.below T6_)).mono ?_; rintro e w' ⟨rfl, hb⟩; replace HB := Aside0.mk (below_step T6_ hb); clear hb))
  rw [rounds_succ]
  go_wp2_with (first | (go_at_call 18; with_reducible refine (M3.out _ (HG0.out.below T6_)).mono ?_; rintro e w' ⟨rfl, hb⟩; replace HB := Aside0.mk (below_step T6_ hb); clear hb))
  rw [rounds_succ]
  go_wp2_with (first | (go_at_call 18; with_reducible refine (M4.out _ (HG0.out.below T6_)).mono ?_; rintro e w' ⟨rfl, hb⟩; replace HB := Aside0.mk (below_step T6_ hb); clear hb))
  rw [rounds_succ]
  go_wp2_with (first | (go_at_call 18; with_reducible refine (M5.out _ (HG0.out.below T6_)).mono ?_; rintro e w' ⟨rfl, hb⟩; replace HB := Aside0.mk (below_step T6_ hb); clear hb))
  rw [rounds_succ]
  go_wp2
  go_ret2
  exact ⟨rfl, T6_⟩
theorem power_no {aF aZ : Addr} (a : ByteArray) (n : Int) (w : World) (hG : GsAt aF aZ w)
    (hX : ∀ w, GsAt aF aZ w → Calls Tryd.prog 31 #[.string a] w fun e w' => ∃ v, e = .returned (.tuple #[.agg #[.string ⟨#[]⟩, .string ⟨#[]⟩], v]) ∧ ErrV aF aZ w' v 2 ∧ Below w.heap.size w w') :
    Calls Tryd.prog 19 #[.string a, .int .i64 n] w fun e w' => e = .returned (.tuple #[.string ⟨#[]⟩, .int .i64 2]) ∧ Below w.heap.size w w' := by
  have HG0 := Aside0.mk hG
  have KX := Aside0.mk hX
  clear hG hX 
  have HB := Aside0.mk (Below.refl w.heap.size w)
  go_enter Tryd.func19, Tryd.ntmps19
  go_wp2_with (first
      | (go_at_call 31; with_reducible refine (KX.out _ (HG0.out.below T6_)).mono ?_; rintro e w' ⟨v, rfl, hev, hb⟩; replace HB := Aside0.mk (below_step T6_ hb); clear hb; obtain ⟨pb, rfl⟩ : ∃ pb, v = .iface 56 (.pointer (some ⟨pb, 0, none⟩)) := hev.iface (by decide); have EV := Aside0.mk hev; clear hev)
      | ((with_reducible refine gate_dst (N := 6) rfl ?_); refine box_event ?hg (N := 6) ?hd (cs := #[.string (⟨#[]⟩ : ByteArray), .string (⟨#[]⟩ : ByteArray)]) (t := 40) ?hr ?_; (case hd => rfl); (case hg => rfl); (case hr => exact T3_); intro g6 hg w6 hbox hb; have n0_ := Aside0.mk (below_step T6_ hb); have n1_ := Aside0.mk hbox; have n2_ := Aside0.mk ((by rw [hg]; exact (below_size T6_)) : w.heap.size ≤ g6); clear HB; have HB := n0_; have BK6 := n1_; have GE6 := n2_; clear n0_ n1_ n2_; have ev_ := Aside0.mk (EV.out.below hb); clear EV; have EV := ev_; clear ev_; clear hb hbox hg; have hz60 : w6.cell? ⟨g6, 0, none⟩ = some (.string (⟨#[]⟩ : ByteArray)) := (blk_cell BK6.out 0).trans rfl; have hz61 : w6.cell? ⟨g6, 1, none⟩ = some (.string (⟨#[]⟩ : ByteArray)) := (blk_cell BK6.out 1).trans rfl; have hf60 := blk_frozen BK6.out 0; have hf61 := blk_frozen BK6.out 1)
      | (go_at_call 34; with_reducible refine (number_v _ 2 _ (HG0.out.below T6_) (EV.out.set BK6.out) (by decide)).mono ?_; rintro e w' ⟨rfl, hb⟩; replace HB := Aside0.mk (below_step T6_ hb); clear hb))
  go_ret2
  exact ⟨rfl, HB.out⟩
theorem power_neg {aF aZ : Addr} (a p q : ByteArray) (n : Int) (w : World) (hG : GsAt aF aZ w)
    (hX : ∀ w, Calls Tryd.prog 31 #[.string a] w fun e w' => e = .returned (.tuple #[.agg #[.string p, .string q], .nilIface]) ∧ Below w.heap.size w w') (hn : n < 0) :
    Calls Tryd.prog 19 #[.string a, .int .i64 n] w fun e w' => e = .returned (.tuple #[.string ⟨#[]⟩, .int .i64 1]) ∧ Below w.heap.size w w' := by
  have HG0 := Aside0.mk hG
  have KX := Aside0.mk hX
  clear hG hX 
  have HB := Aside0.mk (Below.refl w.heap.size w)
  go_enter Tryd.func19, Tryd.ntmps19
  go_wp2_with (first
      | (go_at_call 31; with_reducible refine (KX.out _).mono ?_; rintro e w' ⟨rfl, hb⟩; replace HB := Aside0.mk (below_step T6_ hb); clear hb)
      | ((with_reducible refine gate_dst (N := 6) rfl ?_); refine box_event ?hg (N := 6) ?hd (cs := #[.string (⟨#[]⟩ : ByteArray), .string (⟨#[]⟩ : ByteArray)]) (t := 40) ?hr ?_; (case hd => rfl); (case hg => rfl); (case hr => exact T3_); intro g6 hg w6 hbox hb; have n0_ := Aside0.mk (below_step T6_ hb); have n1_ := Aside0.mk hbox; have n2_ := Aside0.mk ((by rw [hg]; exact (below_size T6_)) : w.heap.size ≤ g6); clear HB; have HB := n0_; have BK6 := n1_; have GE6 := n2_; clear n0_ n1_ n2_; clear hb hbox hg; have hz60 : w6.cell? ⟨g6, 0, none⟩ = some (.string (⟨#[]⟩ : ByteArray)) := (blk_cell BK6.out 0).trans rfl; have hz61 : w6.cell? ⟨g6, 1, none⟩ = some (.string (⟨#[]⟩ : ByteArray)) := (blk_cell BK6.out 1).trans rfl; have hf60 := blk_frozen BK6.out 0; have hf61 := blk_frozen BK6.out 1))
  go_ret2
  exact ⟨rfl, T6_⟩
theorem power_big {aF aZ : Addr} (a p q : ByteArray) (n : Int) (w : World) (hG : GsAt aF aZ w)
    (hX : ∀ w, Calls Tryd.prog 31 #[.string a] w fun e w' => e = .returned (.tuple #[.agg #[.string p, .string q], .nilIface]) ∧ Below w.heap.size w w') (hn : 0 ≤ n) (hm : 6 < n) :
    Calls Tryd.prog 19 #[.string a, .int .i64 n] w fun e w' => e = .returned (.tuple #[.string ⟨#[]⟩, .int .i64 1]) ∧ Below w.heap.size w w' := by
  have HG0 := Aside0.mk hG
  have KX := Aside0.mk hX
  clear hG hX 
  have HB := Aside0.mk (Below.refl w.heap.size w)
  go_enter Tryd.func19, Tryd.ntmps19
  go_wp2_with (first
      | (go_at_call 31; with_reducible refine (KX.out _).mono ?_; rintro e w' ⟨rfl, hb⟩; replace HB := Aside0.mk (below_step T6_ hb); clear hb)
      | ((with_reducible refine gate_dst (N := 6) rfl ?_); refine box_event ?hg (N := 6) ?hd (cs := #[.string (⟨#[]⟩ : ByteArray), .string (⟨#[]⟩ : ByteArray)]) (t := 40) ?hr ?_; (case hd => rfl); (case hg => rfl); (case hr => exact T3_); intro g6 hg w6 hbox hb; have n0_ := Aside0.mk (below_step T6_ hb); have n1_ := Aside0.mk hbox; have n2_ := Aside0.mk ((by rw [hg]; exact (below_size T6_)) : w.heap.size ≤ g6); clear HB; have HB := n0_; have BK6 := n1_; have GE6 := n2_; clear n0_ n1_ n2_; clear hb hbox hg; have hz60 : w6.cell? ⟨g6, 0, none⟩ = some (.string (⟨#[]⟩ : ByteArray)) := (blk_cell BK6.out 0).trans rfl; have hz61 : w6.cell? ⟨g6, 1, none⟩ = some (.string (⟨#[]⟩ : ByteArray)) := (blk_cell BK6.out 1).trans rfl; have hf60 := blk_frozen BK6.out 0; have hf61 := blk_frozen BK6.out 1))
  go_ret2
  exact ⟨rfl, T6_⟩
theorem qm_pow (x : Rat) (n : Nat) : qm (x ^ n) ≤ n * qm x + 1 := by
  induction n with
  | zero => rw [Rat.pow_zero]; exact Nat.le_trans (by decide +kernel : qm 1 ≤ 1) (by omega)
  | succ n ih =>
    rw [Rat.pow_succ]
    have := qm_mul (x ^ n) x
    rw [Nat.add_mul]
    omega
noncomputable def rPower (a : ByteArray) (n : Int) : ByteArray × Int := match rv a with | some x => if n < 0 ∨ 6 < n then (⟨#[]⟩, 1) else (rt (x ^ n.toNat), 0) | none => (⟨#[]⟩, 2)
theorem pow_mul {aF aZ : Addr} (x : Rat) (hx : qm x ≤ 3000000000) (i : Nat) (hi : i < 6) (w : World) (hG : GsAt aF aZ w) :
    Calls Tryd.prog 18 #[.string (rt (x ^ i)), .string (rt x)] w fun e w' => e = .returned (.tuple #[.string (rt (x ^ (i + 1))), .int .i64 0]) ∧ Below w.heap.size w w' := by
  have hm := qm_pow x i
  have h1 : i * qm x ≤ 5 * qm x := Nat.mul_le_mul_right _ (by omega)
  have h2 := size_rt (x ^ i)
  have h3 := size_rt x
  have := mul_calls (rt (x ^ i)) (rt x) (by omega) (by omega) w ⟨aF, aZ, hG⟩
  rw [rMul, rv_rt, rv_rt] at this
  rw [Rat.pow_succ]
  exact this
theorem rt_1 : rt 1 = (⟨#[49]⟩ : ByteArray) := by rw [rt_one rfl]; exact zt_one.trans one49.symm
theorem power_calls (a : ByteArray) (n : Int) (ha : a.size ≤ 3000000000) (w : World) (hG : Gs w) :
    Calls Tryd.prog 19 #[.string a, .int .i64 n] w fun e w' => e = .returned (.tuple #[.string (rPower a n).1, .int .i64 (rPower a n).2]) ∧ Below w.heap.size w w' := by
  obtain ⟨aF, aZ, hG⟩ := hG
  rcases rv_cases a with h | ⟨x, hx, h⟩
  · rw [rPower, h]; exact power_no a n w hG (fun w hG => read_not a h (by omega) w hG)
  · subst hx
    have hx := Nat.le_trans (qm_le x) ha
    rw [rPower, h]
    have hr := fun w => read_rt x (by omega) w
    dsimp only
    by_cases hn : n < 0
    · rw [if_pos (Or.inl hn)]; exact power_neg _ _ _ n w hG hr hn
    by_cases hb : 6 < n
    · rw [if_pos (Or.inr hb)]; exact power_big _ _ _ n w hG hr (by omega) hb
    rw [if_neg (by omega)]
    have hp := pow_mul (aF := aF) (aZ := aZ) x hx
    have h0 := hp 0 (by decide)
    rw [Rat.pow_zero, rt_1] at h0
    have h1 := hp 1 (by decide)
    have h2 := hp 2 (by decide)
    have h3 := hp 3 (by decide)
    have h4 := hp 4 (by decide)
    have h5 := hp 5 (by decide)
    have hc : n = 0 ∨ n = 1 ∨ n = 2 ∨ n = 3 ∨ n = 4 ∨ n = 5 ∨ n = 6 := by omega
    rcases hc with rfl | rfl | rfl | rfl | rfl | rfl | rfl
    · have := power_0 _ _ _ w hG hr
      rw [← rt_1, ← Rat.pow_zero x] at this
      exact this
    · exact power_1 _ _ _ _ w hG hr h0
    · exact power_2 _ _ _ _ _ w hG hr h0 h1
    · exact power_3 _ _ _ _ _ _ w hG hr h0 h1 h2
    · exact power_4 _ _ _ _ _ _ _ w hG hr h0 h1 h2 h3
    · exact power_5 _ _ _ _ _ _ _ _ w hG hr h0 h1 h2 h3 h4
    · exact power_6 _ _ _ _ _ _ _ _ _ w hG hr h0 h1 h2 h3 h4 h5
end Go.Proofs.YtfjlmiehbikmnaaDoor.Err
