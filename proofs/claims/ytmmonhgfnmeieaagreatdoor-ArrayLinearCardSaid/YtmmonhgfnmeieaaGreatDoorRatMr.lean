/- rat.Right, told by rationals. -/
import Derived.Test.YtmmonhgfnmeieaaGreatDoorRatU2
namespace Go.Proofs.YtmmonhgfnmeieaaGreatDoor.Err
open Go Go.RowKit Go.Extern.Stop Go.Stop Go.Extern Go.Proofs.YtmmonhgfnmeieaaGreatDoorW.PrintWords Go.Proofs.YtmmonhgfnmeieaaGreatDoorW.PrintMore Go.Proofs.YtmmonhgfnmeieaaGreatDoorW.PrintLast Go.Proofs.YtmmonhgfnmeieaaGreatDoor.PC Go.Proofs.YtmmonhgfnmeieaaGreatDoor.Th Go.Proofs.YtmmonhgfnmeieaaGreatDoor.Th.Wh
set_option maxHeartbeats 4000000
set_option maxRecDepth 1000000
theorem right_ok {aF aZ : Addr} (a p q : ByteArray) (w : World) (hG : GsAt aF aZ w)
    (hX : ∀ w, Calls Tryz.prog 65 #[.string a] w fun e w' => e = .returned (.tuple #[.agg #[.string p, .string q], .nilIface]) ∧ Below w.heap.size w w') :
    Calls Tryz.prog 53 #[.string a] w fun e w' => e = .returned (.bool true) ∧ Below w.heap.size w w' := by
  have HG0 := Aside0.mk hG
  have KX := Aside0.mk hX
  clear hG hX 
  have HB := Aside0.mk (Below.refl w.heap.size w)
  go_enter Tryz.func53, Tryz.ntmps53
  go_wp2_with (first
      | (go_at_call 65; with_reducible refine (KX.out _).mono ?_; rintro e w' ⟨rfl, hb⟩; replace HB := Aside0.mk (below_step T6_ hb); clear hb)
      | ((with_reducible refine gate_dst (N := 3) rfl ?_); refine box_event ?hg (N := 3) ?hd (cs := #[.string (⟨#[]⟩ : ByteArray), .string (⟨#[]⟩ : ByteArray)]) (t := 64) ?hr ?_; (case hd => rfl); (case hg => rfl); (case hr => exact T3_); intro g3 hg w3 hbox hb; have n0_ := Aside0.mk (below_step T6_ hb); have n1_ := Aside0.mk hbox; have n2_ := Aside0.mk ((by rw [hg]; exact (below_size T6_)) : w.heap.size ≤ g3); clear HB; have HB := n0_; have BK3 := n1_; have GE3 := n2_; clear n0_ n1_ n2_; clear hb hbox hg; have hz30 : w3.cell? ⟨g3, 0, none⟩ = some (.string (⟨#[]⟩ : ByteArray)) := (blk_cell BK3.out 0).trans rfl; have hz31 : w3.cell? ⟨g3, 1, none⟩ = some (.string (⟨#[]⟩ : ByteArray)) := (blk_cell BK3.out 1).trans rfl; have hf30 := blk_frozen BK3.out 0; have hf31 := blk_frozen BK3.out 1))
  go_ret
  exact ⟨rfl, T6_⟩
theorem right_no {aF aZ : Addr} (a : ByteArray) (w : World) (hG : GsAt aF aZ w)
    (hX : ∀ w, GsAt aF aZ w → Calls Tryz.prog 65 #[.string a] w fun e w' => ∃ v, e = .returned (.tuple #[.agg #[.string ⟨#[]⟩, .string ⟨#[]⟩], v]) ∧ ErrV aF aZ w' v 2 ∧ Below w.heap.size w w') :
    Calls Tryz.prog 53 #[.string a] w fun e w' => e = .returned (.bool false) ∧ Below w.heap.size w w' := by
  have HG0 := Aside0.mk hG
  have KX := Aside0.mk hX
  clear hG hX 
  have HB := Aside0.mk (Below.refl w.heap.size w)
  go_enter Tryz.func53, Tryz.ntmps53
  go_wp2_with (first
      | (go_at_call 65; with_reducible refine (KX.out _ (HG0.out.below T6_)).mono ?_; rintro e w' ⟨v, rfl, hev, hb⟩; replace HB := Aside0.mk (below_step T6_ hb); clear hb; obtain ⟨pb, rfl⟩ : ∃ pb, v = .iface 85 (.pointer (some ⟨pb, 0, none⟩)) := hev.iface (by decide); have EV := Aside0.mk hev; clear hev)
      | ((with_reducible refine gate_dst (N := 3) rfl ?_); refine box_event ?hg (N := 3) ?hd (cs := #[.string (⟨#[]⟩ : ByteArray), .string (⟨#[]⟩ : ByteArray)]) (t := 64) ?hr ?_; (case hd => rfl); (case hg => rfl); (case hr => exact T3_); intro g3 hg w3 hbox hb; have n0_ := Aside0.mk (below_step T6_ hb); have n1_ := Aside0.mk hbox; have n2_ := Aside0.mk ((by rw [hg]; exact (below_size T6_)) : w.heap.size ≤ g3); clear HB; have HB := n0_; have BK3 := n1_; have GE3 := n2_; clear n0_ n1_ n2_; have ev_ := Aside0.mk (EV.out.below hb); clear EV; have EV := ev_; clear ev_; clear hb hbox hg; have hz30 : w3.cell? ⟨g3, 0, none⟩ = some (.string (⟨#[]⟩ : ByteArray)) := (blk_cell BK3.out 0).trans rfl; have hz31 : w3.cell? ⟨g3, 1, none⟩ = some (.string (⟨#[]⟩ : ByteArray)) := (blk_cell BK3.out 1).trans rfl; have hf30 := blk_frozen BK3.out 0; have hf31 := blk_frozen BK3.out 1))
  go_ret
  exact ⟨rfl, T6_⟩
noncomputable def rRight (a : ByteArray) : Bool := (rv a).isSome
theorem right_calls (a : ByteArray) (ha : a.size ≤ 40000000000) (w : World) (hG : Gs w) :
    Calls Tryz.prog 53 #[.string a] w fun e w' => e = .returned (.bool (rRight a)) ∧ Below w.heap.size w w' := by
  obtain ⟨aF, aZ, hG⟩ := hG
  rcases rv_cases a with h | ⟨x, hx, h⟩
  · rw [rRight, h]; exact right_no a w hG (fun w hG => read_not a h ha w hG)
  · subst hx
    have hx := Nat.le_trans (qm_le x) ha
    rw [rRight, h]; exact right_ok _ _ _ w hG (fun w => read_rt x (by omega) w)
end Go.Proofs.YtmmonhgfnmeieaaGreatDoor.Err
