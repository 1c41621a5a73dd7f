/- rat.Right, told by rationals. -/
import Derived.Test.YtmmonhgfnmeieaaGreatDoorRatU2
-- mini
namespace Go.Proofs.YtmmonhgfnmeieaaGreatDoor.Err
open Go Go.RowKit Go.Extern.Stop Go.Stop Go.Extern Go.ZPWords Go.ZPMore Go.ZPLast Go.Proofs.YtmmonhgfnmeieaaGreatDoor.PC Go.Proofs.YtmmonhgfnmeieaaGreatDoor.Th Go.Proofs.YtmmonhgfnmeieaaGreatDoor.Th.Wh
set_option maxHeartbeats 4000000
set_option maxRecDepth 1000000
theorem right_ok {aF aZ : Addr} (a p q : ByteArray) (w : World) (hG : GsAt aF aZ w)
    (hX : ∀ w, Calls Tryz.prog 65 #[.string a] w fun e w' => e = .returned (.tuple #[.agg #[.string p, .string q], .nilIface]) ∧ Below w.heap.size w w') :
    Calls Tryz.prog 53 #[.string a] w fun e w' => e = .returned (.bool true) ∧ Below w.heap.size w w' := by
 have HG0 := A_ hG;have KX := A_ hX;clear hG hX;have HB := A_ (Below.refl w.heap.size w);go_enter Tryz.func53, Tryz.ntmps53
 go_wp2_with (first
  | (go_at_call 65; with_reducible refine (KX.out _).mono ?_; rintro e w' ⟨rfl, hb⟩; replace HB := BT_ hb; clear hb)
  | (refine BX_ 3 #[.string (⟨#[]⟩ : ByteArray), .string (⟨#[]⟩ : ByteArray)] 64 ?_; intro g3 hg w3 hbox hb; have BK3 := A_ hbox; have GE3 := GE_ (w := w) hg; replace HB := BT_ hb; clear hb hbox hg; have hz30 : w3.cell? ⟨g3, 0, none⟩ = some (.string (⟨#[]⟩ : ByteArray)) := (blk_cell BK3.out 0).trans rfl; have hz31 : w3.cell? ⟨g3, 1, none⟩ = some (.string (⟨#[]⟩ : ByteArray)) := (blk_cell BK3.out 1).trans rfl; have hf30 := blk_frozen BK3.out 0; have hf31 := blk_frozen BK3.out 1))
 go_ret;exact ⟨rfl, T6_⟩
theorem right_no {aF aZ : Addr} (a : ByteArray) (w : World) (hG : GsAt aF aZ w)
    (hX : ∀ w, GsAt aF aZ w → Calls Tryz.prog 65 #[.string a] w fun e w' => ∃ v, e = .returned (.tuple #[.agg #[.string ⟨#[]⟩, .string ⟨#[]⟩], v]) ∧ ErrV aF aZ w' v 2 ∧ Below w.heap.size w w') :
    Calls Tryz.prog 53 #[.string a] w fun e w' => e = .returned (.bool false) ∧ Below w.heap.size w w' := by
 have HG0 := A_ hG;have KX := A_ hX;clear hG hX;have HB := A_ (Below.refl w.heap.size w);go_enter Tryz.func53, Tryz.ntmps53
 go_wp2_with (first
  | (go_at_call 65; with_reducible refine (KX.out _ (HG0.out.below T6_)).mono ?_; rintro e w' ⟨v, rfl, hev, hb⟩; replace HB := BT_ hb; clear hb; obtain ⟨pb, rfl⟩ : ∃ pb, v = .iface 85 (.pointer (some ⟨pb, 0, none⟩)) := hev.iface (by decide); have EV := A_ hev; clear hev)
  | (refine BX_ 3 #[.string (⟨#[]⟩ : ByteArray), .string (⟨#[]⟩ : ByteArray)] 64 ?_; intro g3 hg w3 hbox hb; have BK3 := A_ hbox; have GE3 := GE_ (w := w) hg; replace HB := BT_ hb; have ev_ := A_ (EV.out.below hb); clear EV; have EV := ev_; clear ev_; clear hb hbox hg; have hz30 : w3.cell? ⟨g3, 0, none⟩ = some (.string (⟨#[]⟩ : ByteArray)) := (blk_cell BK3.out 0).trans rfl; have hz31 : w3.cell? ⟨g3, 1, none⟩ = some (.string (⟨#[]⟩ : ByteArray)) := (blk_cell BK3.out 1).trans rfl; have hf30 := blk_frozen BK3.out 0; have hf31 := blk_frozen BK3.out 1))
 go_ret;exact ⟨rfl, T6_⟩
noncomputable def rRight (a : ByteArray) : Bool := (rv a).isSome
theorem right_calls (a : ByteArray) (ha : a.size ≤ 40000000000) (w : World) (hG : Gs w) :
    Calls Tryz.prog 53 #[.string a] w fun e w' => e = .returned (.bool (rRight a)) ∧ Below w.heap.size w w' := by
 obtain ⟨aF, aZ, hG⟩ := hG;rcases rv_cases a with h | ⟨x, hx, h⟩
 · rw [rRight, h]; exact right_no a w hG (fun w hG => read_not a h ha w hG)
 subst hx;have hx := Nat.le_trans (qm_le x) ha;rw [rRight, h]; exact right_ok _ _ _ w hG (fun w => read_rt x (by omega) w)
end Go.Proofs.YtmmonhgfnmeieaaGreatDoor.Err
