/- rat.told: a rational's text, or an error's number. -/
import Derived.Test.YtfjlmiehbikmnaaGreatDoorRatN
import Derived.Test.YtfjlmiehbikmnaaGreatDoorPCx
namespace Go.Proofs.YtfjlmiehbikmnaaGreatDoor.Err
open Go Go.RowKit Go.Extern.Stop Go.Stop Go.Extern Go.Proofs.YtfjlmiehbikmnaaGreatDoorW.PrintWords Go.Proofs.YtfjlmiehbikmnaaGreatDoor.PC
set_option maxHeartbeats 4000000
set_option maxRecDepth 1000000
theorem told_ok (n d t : ByteArray) (w : World) (ht : rat_pair_text.f n d = some t) :
    Calls Tryz.prog 29 #[.agg #[.string n, .string d], .nilIface] w fun e w' => e = .returned (.tuple #[.string t, .int .i64 0]) ∧ Below w.heap.size w w' := by
  have HT := Aside0.mk ht
  clear ht
  go_enter Tryz.func29, Tryz.ntmps29
  go_wp2_with (go_at_call 49; with_reducible refine (rat_pair_text.calls n d t _ HT.out).mono ?_; rintro e w' ⟨rfl, hb⟩; have HB := Aside0.mk (below_step (below_alloc (Below.refl w.heap.size w) _) hb); clear hb)
  go_ret2
  exact ⟨rfl, HB.out⟩
theorem told_no {aF aZ : Addr} (n d : ByteArray) (v : Value) (c : Int) (w : World) (hG : GsAt aF aZ w) (h : ErrV aF aZ w v c) (hc : c ≠ 0) :
    Calls Tryz.prog 29 #[.agg #[.string n, .string d], v] w fun e w' => e = .returned (.tuple #[.string ⟨#[]⟩, .int .i64 c]) ∧ Below w.heap.size w w' := by
  have HN : Aside0 (∀ o, Calls Tryz.prog 46 #[v] (w.alloc o) fun e w' => e = .returned (.int .i64 c) ∧ Below (w.alloc o).heap.size (w.alloc o) w') := ⟨fun o => number_v v c _ (hG.below (below_alloc (Below.refl _ _) o)) (h.below (below_alloc (Below.refl _ _) o)) hc⟩
  obtain ⟨pb, rfl⟩ : ∃ pb, v = .iface 65 (.pointer (some ⟨pb, 0, none⟩)) := by
    rcases h with ⟨_, h⟩ | ⟨pb, rfl, _⟩
    · exact absurd h hc
    · exact ⟨pb, rfl⟩
  clear h hG hc
  go_enter Tryz.func29, Tryz.ntmps29
  go_wp2_with (go_at_call 46; with_reducible refine (HN.out _).mono ?_; rintro e w' ⟨rfl, hb⟩; have HB := Aside0.mk (below_step (below_alloc (Below.refl w.heap.size w) _) hb); clear hb)
  go_ret2
  exact ⟨rfl, HB.out⟩
end Go.Proofs.YtfjlmiehbikmnaaGreatDoor.Err
