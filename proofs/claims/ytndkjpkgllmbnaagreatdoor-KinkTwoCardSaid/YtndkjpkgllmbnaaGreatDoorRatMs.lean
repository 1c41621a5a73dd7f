/- rat.Sign, told by rationals. -/
import Derived.Test.YtndkjpkgllmbnaaGreatDoorRatU2
-- mini
namespace Go.Proofs.YtndkjpkgllmbnaaGreatDoor.Err
open Go Go.RowKit Go.Extern.Stop Go.Stop Go.Extern Go.ZPWords Go.ZPMore Go.ZPLast Go.Proofs.YtndkjpkgllmbnaaGreatDoor.PC Go.Proofs.YtndkjpkgllmbnaaGreatDoor.Th Go.Proofs.YtndkjpkgllmbnaaGreatDoor.Th.Wh
set_option maxHeartbeats 4000000
set_option maxRecDepth 1000000
theorem sign_ok {aF aZ : Addr} (a p q : ByteArray) (r : Int) (w : World) (hG : GsAt aF aZ w)
    (hX : ∀ w, Calls Tryz.prog 57 #[.string a] w fun e w' => e = .returned (.tuple #[.agg #[.string p, .string q], .nilIface]) ∧ Below w.heap.size w w') (h1 : whole_Sign.f p = some (r, 0)) :
    Calls Tryz.prog 77 #[.string a] w fun e w' => e = .returned (.tuple #[.int .i64 r, .int .i64 0]) ∧ Below w.heap.size w w' := by
  have HG0 := A_ hG;have KX := A_ hX;have K1 := A_ h1;clear hG hX h1;have HB := A_ (Below.refl w.heap.size w);go_enter Tryz.func77, Tryz.ntmps77
  go_wp2_with (first
      | (go_at_call 57; with_reducible refine (KX.out _).mono ?_; rintro e w' ⟨rfl, hb⟩; replace HB := BT_ hb; clear hb)
      | (refine BX_ 4 #[.string (⟨#[]⟩ : ByteArray), .string (⟨#[]⟩ : ByteArray)] 73 ?_; intro g4 hg w4 hbox hb; have BK4 := A_ hbox; have GE4 := GE_ (w := w) hg; replace HB := BT_ hb; clear hb hbox hg; obtain ⟨hz40, hz41, hf40, hf41⟩ := CF_ BK4)
      | (go_at_call 103; with_reducible refine (whole_Sign.calls p r 0 _ K1.out).mono ?_; rintro e w' ⟨rfl, hb⟩; replace HB := BT_ hb; clear hb))
  go_ret2
  exact ⟨rfl, HB.out⟩
theorem sign_no {aF aZ : Addr} (a : ByteArray) (w : World) (hG : GsAt aF aZ w)
    (hX : ∀ w, GsAt aF aZ w → Calls Tryz.prog 57 #[.string a] w fun e w' => ∃ v, e = .returned (.tuple #[.agg #[.string ⟨#[]⟩, .string ⟨#[]⟩], v]) ∧ ErrV aF aZ w' v 2 ∧ Below w.heap.size w w') :
    Calls Tryz.prog 77 #[.string a] w fun e w' => e = .returned (.tuple #[.int .i64 0, .int .i64 2]) ∧ Below w.heap.size w w' := by
  have HG0 := A_ hG;have KX := A_ hX;clear hG hX;have HB := A_ (Below.refl w.heap.size w);go_enter Tryz.func77, Tryz.ntmps77
  go_wp2_with (first
      | (go_at_call 57; with_reducible refine (KX.out _ (HG0.out.below T6_)).mono ?_; rintro e w' ⟨v, rfl, hev, hb⟩; replace HB := BT_ hb; clear hb; obtain ⟨pb, rfl⟩ : ∃ pb, v = .iface 96 (.pointer (some ⟨pb, 0, none⟩)) := hev.iface (by decide); have EV := A_ hev; clear hev)
      | (refine BX_ 4 #[.string (⟨#[]⟩ : ByteArray), .string (⟨#[]⟩ : ByteArray)] 73 ?_; intro g4 hg w4 hbox hb; have BK4 := A_ hbox; have GE4 := GE_ (w := w) hg; replace HB := BT_ hb; have ev_ := A_ (EV.out.below hb); clear EV; have EV := ev_; clear ev_; clear hb hbox hg; obtain ⟨hz40, hz41, hf40, hf41⟩ := CF_ BK4)
      | (go_at_call 83; with_reducible refine (number_v _ 2 _ (HG0.out.below T6_) (EV.out.set BK4.out) (by decide)).mono ?_; rintro e w' ⟨rfl, hb⟩; replace HB := BT_ hb; clear hb))
  go_ret2
  exact ⟨rfl, HB.out⟩
theorem sign_rt {aF aZ : Addr} (x : Rat) (hx : qm x ≤ 100000000000) (w : World) (hG : GsAt aF aZ w) :
    Calls Tryz.prog 77 #[.string (rt x)] w fun e w' => e = .returned (.tuple #[.int .i64 (sgn x.num), .int .i64 0]) ∧ Below w.heap.size w w' := sign_ok _ _ _ _ w hG (fun w => read_rt x hx w) (whole_Sign.zt x.num)
noncomputable def rSign (a : ByteArray) : Int × Int := match rv a with | some x => (sgn x.num, 0) | none => (0, 2)
theorem sign_calls (a : ByteArray) (ha : a.size ≤ 40000000000) (w : World) (hG : Gs w) :
    Calls Tryz.prog 77 #[.string a] w fun e w' => e = .returned (.tuple #[.int .i64 (rSign a).1, .int .i64 (rSign a).2]) ∧ Below w.heap.size w w' := by
  obtain ⟨aF, aZ, hG⟩ := hG
  rcases rv_cases a with h | ⟨x, hx, h⟩
  · rw [rSign, h]; exact sign_no a w hG (fun w hG => read_not a h ha w hG)
  · subst hx
    have hx := Nat.le_trans (qm_le x) ha;rw [rSign, h]; exact sign_rt x (by omega) w hG
end Go.Proofs.YtndkjpkgllmbnaaGreatDoor.Err
