/- rat.Sign, told by rationals. -/
import Derived.Test.YtndkjpkgllmbnaaGreatDoorRatU2
namespace Go.Proofs.YtndkjpkgllmbnaaGreatDoor.Err
open Go Go.RowKit Go.Extern.Stop Go.Stop Go.Extern Go.Proofs.YtndkjpkgllmbnaaGreatDoorW.PrintWords Go.Proofs.YtndkjpkgllmbnaaGreatDoorW.PrintMore Go.Proofs.YtndkjpkgllmbnaaGreatDoorW.PrintLast Go.Proofs.YtndkjpkgllmbnaaGreatDoor.PC Go.Proofs.YtndkjpkgllmbnaaGreatDoor.Th Go.Proofs.YtndkjpkgllmbnaaGreatDoor.Th.Wh
set_option maxHeartbeats 4000000
set_option maxRecDepth 1000000
theorem sign_ok {aF aZ : Addr} (a p q : ByteArray) (r : Int) (w : World) (hG : GsAt aF aZ w)
    (hX : ∀ w, Calls Tryz.prog 57 #[.string a] w fun e w' => e = .returned (.tuple #[.agg #[.string p, .string q], .nilIface]) ∧ Below w.heap.size w w') (h1 : whole_Sign.f p = some (r, 0)) :
    Calls Tryz.prog 77 #[.string a] w fun e w' => e = .returned (.tuple #[.int .i64 r, .int .i64 0]) ∧ Below w.heap.size w w' := by
  have HG0 := Aside0.mk hG
  have KX := Aside0.mk hX
  have K1 := Aside0.mk h1
  clear hG hX h1
  have HB := Aside0.mk (Below.refl w.heap.size w)
  go_enter Tryz.func77, Tryz.ntmps77
  go_wp2_with (first
      | (go_at_call 57; with_reducible refine (KX.out _).mono ?_; rintro e w' ⟨rfl, hb⟩; replace HB := Aside0.mk (below_step T6_ hb); clear hb)
      | ((with_reducible refine gate_dst (N := 4) rfl ?_); refine box_event ?hg (N := 4) ?hd (cs := #[.string (⟨#[]⟩ : ByteArray), .string (⟨#[]⟩ : ByteArray)]) (t := 73) ?hr ?_; (case hd => rfl); (case hg => rfl); (case hr => exact T3_); intro g4 hg w4 hbox hb; have n0_ := Aside0.mk (below_step T6_ hb); have n1_ := Aside0.mk hbox; have n2_ := Aside0.mk ((by rw [hg]; exact (below_size T6_)) : w.heap.size ≤ g4); clear HB; have HB := n0_; have BK4 := n1_; have GE4 := n2_; clear n0_ n1_ n2_; clear hb hbox hg; have hz40 : w4.cell? ⟨g4, 0, none⟩ = some (.string (⟨#[]⟩ : ByteArray)) := (blk_cell BK4.out 0).trans rfl; have hz41 : w4.cell? ⟨g4, 1, none⟩ = some (.string (⟨#[]⟩ : ByteArray)) := (blk_cell BK4.out 1).trans rfl; have hf40 := blk_frozen BK4.out 0; have hf41 := blk_frozen BK4.out 1)
      | (go_at_call 103; with_reducible refine (whole_Sign.calls p r 0 _ K1.out).mono ?_; rintro e w' ⟨rfl, hb⟩; replace HB := Aside0.mk (below_step T6_ hb); clear hb))
  go_ret2
  exact ⟨rfl, HB.out⟩
theorem sign_no {aF aZ : Addr} (a : ByteArray) (w : World) (hG : GsAt aF aZ w)
    (hX : ∀ w, GsAt aF aZ w → Calls Tryz.prog 57 #[.string a] w fun e w' => ∃ v, e = .returned (.tuple #[.agg #[.string ⟨#[]⟩, .string ⟨#[]⟩], v]) ∧ ErrV aF aZ w' v 2 ∧ Below w.heap.size w w') :
    Calls Tryz.prog 77 #[.string a] w fun e w' => e = .returned (.tuple #[.int .i64 0, .int .i64 2]) ∧ Below w.heap.size w w' := by
  have HG0 := Aside0.mk hG
  have KX := Aside0.mk hX
  clear hG hX 
  have HB := Aside0.mk (Below.refl w.heap.size w)
  go_enter Tryz.func77, Tryz.ntmps77
  go_wp2_with (first
      | (go_at_call 57; with_reducible refine (KX.out _ (HG0.out.below T6_)).mono ?_; rintro e w' ⟨v, rfl, hev, hb⟩; replace HB := Aside0.mk (below_step T6_ hb); clear hb; obtain ⟨pb, rfl⟩ : ∃ pb, v = .iface 96 (.pointer (some ⟨pb, 0, none⟩)) := hev.iface (by decide); have EV := Aside0.mk hev; clear hev)
      | ((with_reducible refine gate_dst (N := 4) rfl ?_); refine box_event ?hg (N := 4) ?hd (cs := #[.string (⟨#[]⟩ : ByteArray), .string (⟨#[]⟩ : ByteArray)]) (t := 73) ?hr ?_; (case hd => rfl); (case hg => rfl); (case hr => exact T3_); intro g4 hg w4 hbox hb; have n0_ := Aside0.mk (below_step T6_ hb); have n1_ := Aside0.mk hbox; have n2_ := Aside0.mk ((by rw [hg]; exact (below_size T6_)) : w.heap.size ≤ g4); clear HB; have HB := n0_; have BK4 := n1_; have GE4 := n2_; clear n0_ n1_ n2_; have ev_ := Aside0.mk (EV.out.below hb); clear EV; have EV := ev_; clear ev_; clear hb hbox hg; have hz40 : w4.cell? ⟨g4, 0, none⟩ = some (.string (⟨#[]⟩ : ByteArray)) := (blk_cell BK4.out 0).trans rfl; have hz41 : w4.cell? ⟨g4, 1, none⟩ = some (.string (⟨#[]⟩ : ByteArray)) := (blk_cell BK4.out 1).trans rfl; have hf40 := blk_frozen BK4.out 0; have hf41 := blk_frozen BK4.out 1)
      | (go_at_call 83; with_reducible refine (number_v _ 2 _ (HG0.out.below T6_) (EV.out.set BK4.out) (by decide)).mono ?_; rintro e w' ⟨rfl, hb⟩; replace HB := Aside0.mk (below_step T6_ hb); clear hb))
  go_ret2
  exact ⟨rfl, HB.out⟩
theorem sign_rt {aF aZ : Addr} (x : Rat) (hx : qm x ≤ 100000000000) (w : World) (hG : GsAt aF aZ w) :
    Calls Tryz.prog 77 #[.string (rt x)] w fun e w' => e = .returned (.tuple #[.int .i64 (sgn x.num), .int .i64 0]) ∧ Below w.heap.size w w' := sign_ok _ _ _ _ w hG (fun w => read_rt x hx w) (whole_Sign.zt x.num)
noncomputable def rSign (a : ByteArray) : Int × Int := match rv a with | some x => (sgn x.num, 0) | none => (0, 2)
theorem sign_calls (a : ByteArray) (ha : a.size ≤ 40000000000) (w : World) (hG : Gs w) :
    Calls Tryz.prog 77 #[.string a] w fun e w' => e = .returned (.tuple #[.int .i64 (rSign a).1, .int .i64 (rSign a).2]) ∧ Below w.heap.size w w' := by
  obtain ⟨aF, aZ, hG⟩ := hG
  rcases rv_cases a with h | ⟨x, hx, h⟩
  · rw [rSign, h]; exact sign_no a w hG (fun w hG => read_not a h ha w hG)
  · subst hx
    have hx := Nat.le_trans (qm_le x) ha
    rw [rSign, h]; exact sign_rt x (by omega) w hG
end Go.Proofs.YtndkjpkgllmbnaaGreatDoor.Err
