/- rat.lowest by nought. -/
import Derived.Test.YtfjlmiehbikmnaaGreatDoorRatL
namespace Go.Proofs.YtfjlmiehbikmnaaGreatDoor.Err
open Go Go.RowKit Go.Extern.Stop Go.Stop Go.Extern Go.Proofs.YtfjlmiehbikmnaaGreatDoorW.PrintWords Go.Proofs.YtfjlmiehbikmnaaGreatDoor.PC Go.Proofs.YtfjlmiehbikmnaaGreatDoor.Th Go.Proofs.YtfjlmiehbikmnaaGreatDoor.Th.Wh
set_option maxHeartbeats 1000000
set_option maxRecDepth 1000000
theorem lowest_zero {aF aZ : Addr} (p : ByteArray) (w : World) (hG : GsAt aF aZ w) (hp : p.size ≤ 1000000000000) :
    Calls Tryz.prog 30 #[.string p, .string ⟨#[48]⟩] w fun e w' => ∃ v, e = .returned (.tuple #[.agg #[.string ⟨#[]⟩, .string ⟨#[]⟩], v]) ∧ ErrV aF aZ w' v 3 ∧ Below w.heap.size w w' := by
  have hZ := hG.zero
  have HA : ∀ o, Below w.heap.size w (w.alloc o) := fun o => below_alloc (Below.refl _ _) o
  have c1 : ∀ o, (w.alloc o).cell? ⟨0, 0, none⟩ = some (.iface 146 (.pointer (some aZ))) := fun o => cell_below (HA o) hZ
  have hlt : 0 < w.heap.size := cell_lt hZ
  clear HA
  go_enter Tryz.func30, Tryz.ntmps30
  go_wp2
  go_region
  try go_wp2
  refine bodyPost_ret (results_ct rfl _ _ w.heap.size 48 #[.string (⟨#[]⟩ : ByteArray), .string (⟨#[]⟩ : ByteArray)] (0, 0) _ rfl ?_ Tryz.underlying48 rfl (by kernel_rfl)) rfl ?_
  · show ((w.heap.push _).push _)[w.heap.size]? = _
    rw [Array.getElem?_push, if_neg (by rw [Array.size_push]; omega), Array.getElem?_push, if_pos rfl]
  · refine ⟨_, rfl, Or.inr ⟨w.heap.size + 1, rfl, Or.inr ⟨rfl, ?_⟩⟩, below_drew (below_alloc (below_alloc (Below.refl _ _) _) _)⟩
    have hrow : ∀ o1 o2 : Obj, ((w.alloc o1).alloc o2).heap[w.heap.size + 1]? = some o2 := fun o1 o2 => by
      show ((w.heap.push _).push _)[w.heap.size + 1]? = _
      rw [Array.getElem?_push, if_pos (by rw [Array.size_push])]
    exact (blk_cell (blk_drew (hrow _ _)) 1).trans rfl
end Go.Proofs.YtfjlmiehbikmnaaGreatDoor.Err
