/- rat.both: two rationals, and what a closure makes of them. -/
import Derived.Test.YtfjlmiehbikmnaaGreatDoorRatK
import Derived.Shelf.Abstract
namespace Go.Proofs.YtfjlmiehbikmnaaGreatDoor.Err
open Go Go.RowKit Go.Extern.Stop Go.Stop Go.Extern Go.Proofs.YtfjlmiehbikmnaaGreatDoorW.PrintWords Go.Proofs.YtfjlmiehbikmnaaGreatDoorW.PrintMore Go.Proofs.YtfjlmiehbikmnaaGreatDoorW.PrintLast Go.Proofs.YtfjlmiehbikmnaaGreatDoor.PC Go.Proofs.YtfjlmiehbikmnaaGreatDoor.Th Go.Proofs.YtfjlmiehbikmnaaGreatDoor.Th.Wh
set_option maxHeartbeats 4000000
set_option maxRecDepth 1000000
theorem ErrV.iface {aF aZ : Addr} {w : World} {v : Value} {c : Int} (h : ErrV aF aZ w v c) (hc : c ≠ 0) : ∃ pb, v = .iface 65 (.pointer (some ⟨pb, 0, none⟩)) := by
  rcases h with ⟨_, h⟩ | ⟨pb, rfl, _⟩
  · exact absurd h hc
  · exact ⟨pb, rfl⟩
theorem told_any {aF aZ : Addr} (n d r : ByteArray) (v : Value) (c : Int) (w : World) (hG : GsAt aF aZ w) (h : ErrV aF aZ w v c) (h0 : c = 0 → rat_pair_text.f n d = some r) (h1 : c ≠ 0 → r = ⟨#[]⟩) :
    Calls Tryz.prog 29 #[.agg #[.string n, .string d], v] w fun e w' => e = .returned (.tuple #[.string r, .int .i64 c]) ∧ Below w.heap.size w w' := by
  by_cases hc : c = 0
  · rcases h with ⟨rfl, _⟩ | ⟨pb, _, ⟨h, _⟩ | ⟨h, _⟩⟩
    · subst hc
      exact told_ok n d r w (h0 rfl)
    · omega
    · omega
  · rw [h1 hc]
    exact told_no n d v c w hG h hc
theorem both_no1 {aF aZ : Addr} (a b : ByteArray) (fv : Value) (w : World) (hG : GsAt aF aZ w)
    (hX : ∀ w, GsAt aF aZ w → Calls Tryz.prog 45 #[.string a] w fun e w' => ∃ v, e = .returned (.tuple #[.agg #[.string ⟨#[]⟩, .string ⟨#[]⟩], v]) ∧ ErrV aF aZ w' v 2 ∧ Below w.heap.size w w') :
    Calls Tryz.prog 33 #[.string a, .string b, fv] w fun e w' => e = .returned (.tuple #[.string ⟨#[]⟩, .int .i64 2]) ∧ Below w.heap.size w w' := by
  have HG0 := Aside0.mk hG
  have KX := Aside0.mk hX

  clear hG hX
  have HB := Aside0.mk (Below.refl w.heap.size w)
  go_enter Tryz.func33, Tryz.ntmps33
  go_wp2_with (first
      | (go_at_call 45; with_reducible refine (KX.out _ (HG0.out.below T6_)).mono ?_; rintro e w' ⟨v, rfl, hev, hb⟩; replace HB := Aside0.mk (below_step T6_ hb); clear hb; obtain ⟨pb, rfl⟩ : ∃ pb, v = .iface 65 (.pointer (some ⟨pb, 0, none⟩)) := hev.iface (by decide); have EV := Aside0.mk hev; clear hev)
      | ((with_reducible refine gate_dst (N := 8) rfl ?_); refine box_event ?hg (N := 8) ?hd (cs := #[.string (⟨#[]⟩ : ByteArray), .string (⟨#[]⟩ : ByteArray)]) (t := 48) ?hr ?_; (case hd => rfl); (case hg => rfl); (case hr => exact T3_); intro g8 hg w8 hbox hb; have n0_ := Aside0.mk (below_step T6_ hb); have n1_ := Aside0.mk hbox; have n2_ := Aside0.mk ((by rw [hg]; exact (below_size T6_)) : w.heap.size ≤ g8); clear HB; have HB := n0_; have BK8 := n1_; have GE8 := n2_; clear n0_ n1_ n2_; have ev_ := Aside0.mk (EV.out.below hb); clear EV; have EV := ev_; clear ev_; clear hb hbox hg; have hz80 : w8.cell? ⟨g8, 0, none⟩ = some (.string (⟨#[]⟩ : ByteArray)) := (blk_cell BK8.out 0).trans rfl; have hz81 : w8.cell? ⟨g8, 1, none⟩ = some (.string (⟨#[]⟩ : ByteArray)) := (blk_cell BK8.out 1).trans rfl; have hf80 := blk_frozen BK8.out 0; have hf81 := blk_frozen BK8.out 1)
      | (go_at_call 46; with_reducible refine (number_v _ 2 _ (HG0.out.below T6_) (EV.out.set BK8.out) (by decide)).mono ?_; rintro e w' ⟨rfl, hb⟩; replace HB := Aside0.mk (below_step T6_ hb); clear hb)
      )
  go_ret2
  exact ⟨rfl, HB.out⟩
theorem both_no2 {aF aZ : Addr} (a b p8 q8 : ByteArray) (fv : Value) (w : World) (hG : GsAt aF aZ w)
    (hX : ∀ w, Calls Tryz.prog 45 #[.string a] w fun e w' => e = .returned (.tuple #[.agg #[.string p8, .string q8], .nilIface]) ∧ Below w.heap.size w w')
    (hY : ∀ w, GsAt aF aZ w → Calls Tryz.prog 45 #[.string b] w fun e w' => ∃ v, e = .returned (.tuple #[.agg #[.string ⟨#[]⟩, .string ⟨#[]⟩], v]) ∧ ErrV aF aZ w' v 2 ∧ Below w.heap.size w w') :
    Calls Tryz.prog 33 #[.string a, .string b, fv] w fun e w' => e = .returned (.tuple #[.string ⟨#[]⟩, .int .i64 2]) ∧ Below w.heap.size w w' := by
  have HG0 := Aside0.mk hG
  have KX := Aside0.mk hX
  have KY := Aside0.mk hY
  clear hG hX hY
  have HB := Aside0.mk (Below.refl w.heap.size w)
  go_enter Tryz.func33, Tryz.ntmps33
  go_wp2_with (first
      | (go_at_call 45; with_reducible refine (KX.out _).mono ?_; rintro e w' ⟨rfl, hb⟩; replace HB := Aside0.mk (below_step T6_ hb); clear hb)
      | ((with_reducible refine gate_dst (N := 8) rfl ?_); refine box_event ?hg (N := 8) ?hd (cs := #[.string (⟨#[]⟩ : ByteArray), .string (⟨#[]⟩ : ByteArray)]) (t := 48) ?hr ?_; (case hd => rfl); (case hg => rfl); (case hr => exact T3_); intro g8 hg w8 hbox hb; have n0_ := Aside0.mk (below_step T6_ hb); have n1_ := Aside0.mk hbox; have n2_ := Aside0.mk ((by rw [hg]; exact (below_size T6_)) : w.heap.size ≤ g8); clear HB; have HB := n0_; have BK8 := n1_; have GE8 := n2_; clear n0_ n1_ n2_; clear hb hbox hg; have hz80 : w8.cell? ⟨g8, 0, none⟩ = some (.string (⟨#[]⟩ : ByteArray)) := (blk_cell BK8.out 0).trans rfl; have hz81 : w8.cell? ⟨g8, 1, none⟩ = some (.string (⟨#[]⟩ : ByteArray)) := (blk_cell BK8.out 1).trans rfl; have hf80 := blk_frozen BK8.out 0; have hf81 := blk_frozen BK8.out 1)
      | (go_at_call 45; with_reducible refine (KY.out _ (HG0.out.below T6_)).mono ?_; rintro e w' ⟨v, rfl, hev, hb⟩; have m0_ := Aside0.mk (blk_below (g := g8) (o := .cells #[.string p8, .string q8] 48 (0, 0)) (by (with_reducible repeat (first | refine blk_drewN ?_ _ | refine blk_drew ?_ | refine blk_alloc ?_ _)); refine blk_put (cs := #[.string p8, .string (⟨#[]⟩ : ByteArray)]) ?_ 1 _ rfl; (with_reducible repeat (first | refine blk_drewN ?_ _ | refine blk_drew ?_ | refine blk_alloc ?_ _)); refine blk_put (cs := #[.string (⟨#[]⟩ : ByteArray), .string (⟨#[]⟩ : ByteArray)]) ?_ 0 _ rfl; (with_reducible repeat (first | refine blk_drewN ?_ _ | refine blk_drew ?_ | refine blk_alloc ?_ _)); exact BK8.out) hb); have n1_ := Aside0.mk (below_step T6_ hb); clear BK8 HB; have BK8 := m0_; have HB := n1_; clear m0_ n1_ hb; have hc80 : w'.cell? ⟨g8, 0, none⟩ = some (.string p8) := (blk_cell BK8.out 0).trans rfl; have hc81 : w'.cell? ⟨g8, 1, none⟩ = some (.string q8) := (blk_cell BK8.out 1).trans rfl; obtain ⟨pb, rfl⟩ : ∃ pb, v = .iface 65 (.pointer (some ⟨pb, 0, none⟩)) := hev.iface (by decide); have EV := Aside0.mk hev; clear hev)
      | ((with_reducible refine gate_dst (N := 10) rfl ?_); refine box_event ?hg (N := 10) ?hd (cs := #[.string (⟨#[]⟩ : ByteArray), .string (⟨#[]⟩ : ByteArray)]) (t := 48) ?hr ?_; (case hd => rfl); (case hg => rfl); (case hr => exact T3_); intro g10 hg w10 hbox hb; have m0_ := Aside0.mk (blk_below (g := g8) (o := .cells #[.string p8, .string q8] 48 (0, 0)) (B1_ BK8.out) hb); have ne1_ := Aside0.mk ((by rw [hg]; exact Nat.ne_of_lt (blk_lt (g := g8) (o := .cells #[.string p8, .string q8] 48 (0, 0)) (B1_ BK8.out))) : g8 ≠ g10); have ne2_ := Aside0.mk (Ne.symm ne1_.out); clear BK8; have BK8 := m0_; have NB := ne1_; have NC := ne2_; clear m0_ ne1_ ne2_; have hnb := NB.out; have hnc := NC.out; have hc80 : w10.cell? ⟨g8, 0, none⟩ = some (.string p8) := (blk_cell BK8.out 0).trans rfl; have hc81 : w10.cell? ⟨g8, 1, none⟩ = some (.string q8) := (blk_cell BK8.out 1).trans rfl; have n0_ := Aside0.mk (below_step T6_ hb); have n1_ := Aside0.mk hbox; have n2_ := Aside0.mk ((by rw [hg]; exact (below_size T6_)) : w.heap.size ≤ g10); clear HB; have HB := n0_; have BK10 := n1_; have GE10 := n2_; clear n0_ n1_ n2_; have ev_ := Aside0.mk (EV.out.below hb); clear EV; have EV := ev_; clear ev_; clear hb hbox hg; have hz100 : w10.cell? ⟨g10, 0, none⟩ = some (.string (⟨#[]⟩ : ByteArray)) := (blk_cell BK10.out 0).trans rfl; have hz101 : w10.cell? ⟨g10, 1, none⟩ = some (.string (⟨#[]⟩ : ByteArray)) := (blk_cell BK10.out 1).trans rfl; have hf100 := blk_frozen BK10.out 0; have hf101 := blk_frozen BK10.out 1)
      | (go_at_call 46; with_reducible refine (number_v _ 2 _ (HG0.out.below T6_) (EV.out.set BK10.out) (by decide)).mono ?_; rintro e w' ⟨rfl, hb⟩; replace HB := Aside0.mk (below_step T6_ hb); clear hb)
      )
  go_ret2
  exact ⟨rfl, HB.out⟩
theorem both_gen {aF aZ : Addr} (N : Nat) (fn : Func) (hfn : Tryz.prog.funcs[N]? = some fn) (hnm : (fn.name == "runtime.NumGoroutine") = false) (hbd : fn.body.isSome = true) (a b p8 q8 p10 q10 n d r : ByteArray) (c : Int) (w : World) (hG : GsAt aF aZ w)
    (hX : ∀ w, Calls Tryz.prog 45 #[.string a] w fun e w' => e = .returned (.tuple #[.agg #[.string p8, .string q8], .nilIface]) ∧ Below w.heap.size w w')
    (hY : ∀ w, Calls Tryz.prog 45 #[.string b] w fun e w' => e = .returned (.tuple #[.agg #[.string p10, .string q10], .nilIface]) ∧ Below w.heap.size w w')
    (hD : ∀ w, GsAt aF aZ w → Calls Tryz.prog N #[.agg #[.string p8, .string q8], .agg #[.string p10, .string q10]] w fun e w' => ∃ v, e = .returned (.tuple #[.agg #[.string n, .string d], v]) ∧ ErrV aF aZ w' v c ∧ Below w.heap.size w w')
    (h0 : c = 0 → rat_pair_text.f n d = some r) (h1 : c ≠ 0 → r = ⟨#[]⟩) :
    Calls Tryz.prog 33 #[.string a, .string b, (.func (.func N) #[] #[])] w fun e w' => e = .returned (.tuple #[.string r, .int .i64 c]) ∧ Below w.heap.size w w' := by
  have HG0 := Aside0.mk hG
  have KX := Aside0.mk hX
  have KY := Aside0.mk hY
  have KD := Aside0.mk hD
  have H0 := Aside0.mk h0
  have H1 := Aside0.mk h1
  clear hG hX hY hD h0 h1
  have HB := Aside0.mk (Below.refl w.heap.size w)
  have eN := fun args w => enters_ hfn hnm hbd args w
  go_enter Tryz.func33, Tryz.ntmps33
  go_wp2_with (first
      | (go_at_call 45; with_reducible refine (KX.out _).mono ?_; rintro e w' ⟨rfl, hb⟩; replace HB := Aside0.mk (below_step T6_ hb); clear hb)
      | ((with_reducible refine gate_dst (N := 8) rfl ?_); refine box_event ?hg (N := 8) ?hd (cs := #[.string (⟨#[]⟩ : ByteArray), .string (⟨#[]⟩ : ByteArray)]) (t := 48) ?hr ?_; (case hd => rfl); (case hg => rfl); (case hr => exact T3_); intro g8 hg w8 hbox hb; have n0_ := Aside0.mk (below_step T6_ hb); have n1_ := Aside0.mk hbox; have n2_ := Aside0.mk ((by rw [hg]; exact (below_size T6_)) : w.heap.size ≤ g8); clear HB; have HB := n0_; have BK8 := n1_; have GE8 := n2_; clear n0_ n1_ n2_; clear hb hbox hg; have hz80 : w8.cell? ⟨g8, 0, none⟩ = some (.string (⟨#[]⟩ : ByteArray)) := (blk_cell BK8.out 0).trans rfl; have hz81 : w8.cell? ⟨g8, 1, none⟩ = some (.string (⟨#[]⟩ : ByteArray)) := (blk_cell BK8.out 1).trans rfl; have hf80 := blk_frozen BK8.out 0; have hf81 := blk_frozen BK8.out 1)
      | (go_at_call 45; with_reducible refine (KY.out _).mono ?_; rintro e w' ⟨rfl, hb⟩; have m0_ := Aside0.mk (blk_below (g := g8) (o := .cells #[.string p8, .string q8] 48 (0, 0)) (by (with_reducible repeat (first | refine blk_drewN ?_ _ | refine blk_drew ?_ | refine blk_alloc ?_ _)); refine blk_put (cs := #[.string p8, .string (⟨#[]⟩ : ByteArray)]) ?_ 1 _ rfl; (with_reducible repeat (first | refine blk_drewN ?_ _ | refine blk_drew ?_ | refine blk_alloc ?_ _)); refine blk_put (cs := #[.string (⟨#[]⟩ : ByteArray), .string (⟨#[]⟩ : ByteArray)]) ?_ 0 _ rfl; (with_reducible repeat (first | refine blk_drewN ?_ _ | refine blk_drew ?_ | refine blk_alloc ?_ _)); exact BK8.out) hb); have n1_ := Aside0.mk (below_step T6_ hb); clear BK8 HB; have BK8 := m0_; have HB := n1_; clear m0_ n1_ hb; have hc80 : w'.cell? ⟨g8, 0, none⟩ = some (.string p8) := (blk_cell BK8.out 0).trans rfl; have hc81 : w'.cell? ⟨g8, 1, none⟩ = some (.string q8) := (blk_cell BK8.out 1).trans rfl)
      | ((with_reducible refine gate_dst (N := 10) rfl ?_); refine box_event ?hg (N := 10) ?hd (cs := #[.string (⟨#[]⟩ : ByteArray), .string (⟨#[]⟩ : ByteArray)]) (t := 48) ?hr ?_; (case hd => rfl); (case hg => rfl); (case hr => exact T3_); intro g10 hg w10 hbox hb; have m0_ := Aside0.mk (blk_below (g := g8) (o := .cells #[.string p8, .string q8] 48 (0, 0)) (B1_ BK8.out) hb); have ne1_ := Aside0.mk ((by rw [hg]; exact Nat.ne_of_lt (blk_lt (g := g8) (o := .cells #[.string p8, .string q8] 48 (0, 0)) (B1_ BK8.out))) : g8 ≠ g10); have ne2_ := Aside0.mk (Ne.symm ne1_.out); clear BK8; have BK8 := m0_; have NB := ne1_; have NC := ne2_; clear m0_ ne1_ ne2_; have hnb := NB.out; have hnc := NC.out; have hc80 : w10.cell? ⟨g8, 0, none⟩ = some (.string p8) := (blk_cell BK8.out 0).trans rfl; have hc81 : w10.cell? ⟨g8, 1, none⟩ = some (.string q8) := (blk_cell BK8.out 1).trans rfl; have n0_ := Aside0.mk (below_step T6_ hb); have n1_ := Aside0.mk hbox; have n2_ := Aside0.mk ((by rw [hg]; exact (below_size T6_)) : w.heap.size ≤ g10); clear HB; have HB := n0_; have BK10 := n1_; have GE10 := n2_; clear n0_ n1_ n2_; clear hb hbox hg; have hz100 : w10.cell? ⟨g10, 0, none⟩ = some (.string (⟨#[]⟩ : ByteArray)) := (blk_cell BK10.out 0).trans rfl; have hz101 : w10.cell? ⟨g10, 1, none⟩ = some (.string (⟨#[]⟩ : ByteArray)) := (blk_cell BK10.out 1).trans rfl; have hf100 := blk_frozen BK10.out 0; have hf101 := blk_frozen BK10.out 1)
      | (go_at_fn N; with_reducible refine (KD.out _ (HG0.out.below T6_)).mono ?_; rintro e w' ⟨v, rfl, hev, hb⟩; have n1_ := Aside0.mk (below_step T6_ hb); clear HB; have HB := n1_; have EV := Aside0.mk hev; clear n1_ hb hev)
      | (go_at_call 29; with_reducible refine (told_any n d r v c _ (HG0.out.below T6_) EV.out H0.out H1.out).mono ?_; rintro e w' ⟨rfl, hb⟩; replace HB := Aside0.mk (below_step T6_ hb); clear hb))
  go_ret2
  exact ⟨rfl, HB.out⟩
end Go.Proofs.YtfjlmiehbikmnaaGreatDoor.Err
