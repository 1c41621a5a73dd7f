/- rat.number at what wraps one of rat's two errors. -/
import Derived.Test.YtfjlmiehbikmnaaGreatDoorRatE
import Derived.Test.YtfjlmiehbikmnaaGreatDoorWd
namespace Go.Proofs.YtfjlmiehbikmnaaGreatDoor.Err
open Go Go.RowKit Go.Extern.Stop Go.Stop Go.Extern Go.Proofs.YtfjlmiehbikmnaaGreatDoorW.PrintWords
/-- What the two package-level variables hold. -/
structure GsAt (aF aZ : Addr) (w : World) : Prop where
  form : w.cell? ⟨1, 0, none⟩ = some (.iface 146 (.pointer (some aF)))
  zero : w.cell? ⟨0, 0, none⟩ = some (.iface 146 (.pointer (some aZ)))
  apart : aZ ≠ aF
  rowF : ∃ c t, w.heap[aF.block]? = some (.cells c t (0, 0))
  rowZ : ∃ c t, w.heap[aZ.block]? = some (.cells c t (0, 0))
def Gs (w : World) : Prop := ∃ aF aZ, GsAt aF aZ w
theorem row_lt {w : World} {b : Nat} {o : Obj} (h : w.heap[b]? = some o) : b < w.heap.size := by
  rcases Nat.lt_or_ge b w.heap.size with h' | h'
  · exact h'
  · rw [Array.getElem?_eq_none h'] at h; cases h
theorem cell_lt {w : World} {a : Addr} {v : Value} (h : w.cell? a = some v) : a.block < w.heap.size := by
  rcases Nat.lt_or_ge a.block w.heap.size with h' | h'
  · exact h'
  · unfold World.cell? at h
    simp [Array.getElem?_eq_none h'] at h
theorem cell_below {w w' : World} (hb : Below w.heap.size w w') {a : Addr} {v : Value} (h : w.cell? a = some v) : w'.cell? a = some v := (hb.cell (cell_lt h)).trans h
theorem row_below {w w' : World} (hb : Below w.heap.size w w') {b : Nat} {o : Obj} (h : w.heap[b]? = some o) : w'.heap[b]? = some o := (hb.block b (row_lt h)).trans h
theorem GsAt.below {aF aZ : Addr} {w w' : World} (h : GsAt aF aZ w) (hb : Below w.heap.size w w') : GsAt aF aZ w' := by
  obtain ⟨h1, h2, h3, ⟨c1, t1, h4⟩, ⟨c2, t2, h5⟩⟩ := h
  exact ⟨cell_below hb h1, cell_below hb h2, h3, ⟨c1, t1, row_below hb h4⟩, ⟨c2, t2, row_below hb h5⟩⟩
theorem Gs.below {w w' : World} (h : Gs w) (hb : Below w.heap.size w w') : Gs w' := by
  obtain ⟨aF, aZ, h⟩ := h
  exact ⟨aF, aZ, h.below hb⟩
/-- An error's value, and its number: nil is 0; what wraps errForm is 2, errZero 3. -/
def ErrV (aF aZ : Addr) (w : World) (v : Value) (c : Int) : Prop :=
  (v = .nilIface ∧ c = 0) ∨ ∃ pb, v = .iface 65 (.pointer (some ⟨pb, 0, none⟩)) ∧
    ((c = 2 ∧ w.cell? ⟨pb, 1, none⟩ = some (.iface 146 (.pointer (some aF)))) ∨ (c = 3 ∧ w.cell? ⟨pb, 1, none⟩ = some (.iface 146 (.pointer (some aZ)))))
theorem ErrV.below {aF aZ : Addr} {w w' : World} {v : Value} {c : Int} (h : ErrV aF aZ w v c) (hb : Below w.heap.size w w') : ErrV aF aZ w' v c := by
  rcases h with h | ⟨pb, rfl, ⟨rfl, h⟩ | ⟨rfl, h⟩⟩
  · exact Or.inl h
  · exact Or.inr ⟨pb, rfl, Or.inl ⟨rfl, cell_below hb h⟩⟩
  · exact Or.inr ⟨pb, rfl, Or.inr ⟨rfl, cell_below hb h⟩⟩
set_option maxHeartbeats 4000000
set_option maxRecDepth 1000000
theorem number_form {aF aZ : Addr} (pb : Nat) (w : World) (hG : GsAt aF aZ w) (h1 : w.cell? ⟨pb, 1, none⟩ = some (.iface 146 (.pointer (some aF)))) :
    Calls Tryz.prog 46 #[.iface 65 (.pointer (some ⟨pb, 0, none⟩))] w fun e w' => e = .returned (.int .i64 2) ∧ Below w.heap.size w w' := by
  have hF := hG.form
  have HA : ∀ o, Below w.heap.size w (w.alloc o) := fun o => below_alloc (Below.refl _ _) o
  have c1 : ∀ o, (w.alloc o).cell? ⟨1, 0, none⟩ = some (.iface 146 (.pointer (some aF))) := fun o => cell_below (HA o) hF
  have c2 : ∀ o, (w.alloc o).cell? ⟨pb, 1, none⟩ = some (.iface 146 (.pointer (some aF))) := fun o => cell_below (HA o) h1
  have HA' : Hid (∀ o, Below w.heap.size w (w.alloc o)) := HA
  clear HA
  go_enter Tryz.func46, Tryz.ntmps46
  go_wp2_with (go_at_call 67; with_reducible refine (is_same pb 0 aF _ (c2 _)).mono ?_; rintro e w' ⟨rfl, rfl⟩)
  go_ret
  exact ⟨rfl, HA'.out _⟩
theorem number_zero {aF aZ : Addr} (pb : Nat) (w : World) (hG : GsAt aF aZ w) (h1 : w.cell? ⟨pb, 1, none⟩ = some (.iface 146 (.pointer (some aZ)))) :
    Calls Tryz.prog 46 #[.iface 65 (.pointer (some ⟨pb, 0, none⟩))] w fun e w' => e = .returned (.int .i64 3) ∧ Below w.heap.size w w' := by
  obtain ⟨hF, hZ, hne, ⟨cf, tf, rF⟩, ⟨cz, tz, rZ⟩⟩ := hG
  have HA : ∀ o, Below w.heap.size w (w.alloc o) := fun o => below_alloc (Below.refl _ _) o
  have c1 : ∀ o, (w.alloc o).cell? ⟨1, 0, none⟩ = some (.iface 146 (.pointer (some aF))) := fun o => cell_below (HA o) hF
  have c3 : ∀ o, (w.alloc o).cell? ⟨0, 0, none⟩ = some (.iface 146 (.pointer (some aZ))) := fun o => cell_below (HA o) hZ
  have c2 : ∀ o, (w.alloc o).cell? ⟨pb, 1, none⟩ = some (.iface 146 (.pointer (some aZ))) := fun o => cell_below (HA o) h1
  have r1 : Hid (∀ o, (w.alloc o).heap[aF.block]? = some (.cells cf tf (0, 0))) := fun o => row_below (HA o) rF
  have r2 : Hid (∀ o, (w.alloc o).heap[aZ.block]? = some (.cells cz tz (0, 0))) := fun o => row_below (HA o) rZ
  have HA' : Hid (∀ o, Below w.heap.size w (w.alloc o)) := HA
  clear HA rF rZ
  go_enter Tryz.func46, Tryz.ntmps46
  go_wp2_with (first
    | (go_at_call 67; with_reducible refine (is_other pb 0 aF aZ cz cf tz tf _ (c2 _) hne (r2.out _) (r1.out _)).mono ?_; rintro e w' ⟨rfl, rfl⟩)
    | (go_at_call 67; with_reducible refine (is_same pb 0 aZ _ (c2 _)).mono ?_; rintro e w' ⟨rfl, rfl⟩))
  go_ret
  exact ⟨rfl, HA'.out _⟩
theorem number_v {aF aZ : Addr} (v : Value) (c : Int) (w : World) (hG : GsAt aF aZ w) (h : ErrV aF aZ w v c) (hc : c ≠ 0) :
    Calls Tryz.prog 46 #[v] w fun e w' => e = .returned (.int .i64 c) ∧ Below w.heap.size w w' := by
  rcases h with ⟨_, h⟩ | ⟨pb, rfl, ⟨rfl, h⟩ | ⟨rfl, h⟩⟩
  · exact absurd h hc
  · exact number_form pb w hG h
  · exact number_zero pb w hG h
end Go.Proofs.YtfjlmiehbikmnaaGreatDoor.Err
