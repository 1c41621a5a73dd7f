/- Words for rat's closures; what rat.lowest answers. -/
import Derived.Test.YtfjlmiehbikmnaaGreatDoorRatS
import Derived.Deep.RegionHeld3
namespace Go.Proofs.YtfjlmiehbikmnaaGreatDoor.Err
open Go Go.RowKit Go.Extern.Stop Go.Stop Go.Extern Go.Proofs.YtfjlmiehbikmnaaGreatDoorW.PrintWords Go.Proofs.YtfjlmiehbikmnaaGreatDoorW.PrintMore Go.Proofs.YtfjlmiehbikmnaaGreatDoorW.PrintLast Go.Proofs.YtfjlmiehbikmnaaGreatDoor.PC Go.Proofs.YtfjlmiehbikmnaaGreatDoor.Th Go.Proofs.YtfjlmiehbikmnaaGreatDoor.Th.Wh
set_option maxHeartbeats 4000000
set_option maxRecDepth 1000000
theorem ErrV.set {aF aZ : Addr} {w : World} {v x y : Value} {c : Int} {g : Nat} {a b : ByteArray} {t : TypeId} (h : ErrV aF aZ w v c) (hg : w.heap[g]? = some (.cells #[.string a, .string b] t (0, 0))) : ErrV aF aZ ((w.setCell ⟨g, 0, none⟩ x).setCell ⟨g, 1, none⟩ y) v c := by
  have key : ∀ pb u, w.cell? ⟨pb, 1, none⟩ = some (.iface 146 u) → ((w.setCell ⟨g, 0, none⟩ x).setCell ⟨g, 1, none⟩ y).cell? ⟨pb, 1, none⟩ = some (.iface 146 u) := by
    intro pb u hc
    have hne : pb ≠ g := by
      intro e
      rw [e, blk_cell hg 1] at hc
      simp at hc
    rw [← hc]
    unfold World.cell?
    dsimp only
    rw [Below.heap_setCell _ _ _ _ hne, Below.heap_setCell _ _ _ _ hne]
  rcases h with h | ⟨pb, rfl, ⟨rfl, h⟩ | ⟨rfl, h⟩⟩
  · exact Or.inl h
  · exact Or.inr ⟨pb, rfl, Or.inl ⟨rfl, key _ _ h⟩⟩
  · exact Or.inr ⟨pb, rfl, Or.inr ⟨rfl, key _ _ h⟩⟩
theorem held_mk {W w : World} {g2 g3 g4 : Nat} {p1 q1 p2 q2 : ByteArray} {o4 : Obj} (h2 : w.heap[g2]? = some (.cells #[.string p1, .string q1] 48 (0, 0))) (h3 : w.heap[g3]? = some (.cells #[.string p2, .string q2] 48 (0, 0))) (h4 : w.heap[g4]? = some o4) (hb : Below W.heap.size W w) :
    w.cell? ⟨g2, 0, none⟩ = some (.string p1) ∧ w.cell? ⟨g2, 1, none⟩ = some (.string q1) ∧ w.cell? ⟨g3, 0, none⟩ = some (.string p2) ∧ w.cell? ⟨g3, 1, none⟩ = some (.string q2) ∧ Aside0 (w.heap[g2]? = some (.cells #[.string p1, .string q1] 48 (0, 0))) ∧ Aside0 (w.heap[g3]? = some (.cells #[.string p2, .string q2] 48 (0, 0))) ∧ Aside0 (w.heap[g4]? = some o4) ∧ Aside0 (Below W.heap.size W w) :=
  ⟨(blk_cell h2 0).trans rfl, (blk_cell h2 1).trans rfl, (blk_cell h3 0).trans rfl, (blk_cell h3 1).trans rfl, ⟨h2⟩, ⟨h3⟩, ⟨h4⟩, ⟨hb⟩⟩
theorem held_mk2 {W w : World} {g2 g3 g4 : Nat} {p1 q1 p2 q2 : ByteArray} (h2 : w.heap[g2]? = some (.cells #[.string p1, .string q1] 48 (0, 0))) (h3 : w.heap[g3]? = some (.cells #[.string p2, .string q2] 48 (0, 0))) (h4 : ∃ x y, w.heap[g4]? = some (.cells #[.string x, .string y] 48 (0, 0))) (hb : Below W.heap.size W w) :
    w.cell? ⟨g2, 0, none⟩ = some (.string p1) ∧ w.cell? ⟨g2, 1, none⟩ = some (.string q1) ∧ w.cell? ⟨g3, 0, none⟩ = some (.string p2) ∧ w.cell? ⟨g3, 1, none⟩ = some (.string q2) ∧ Aside0 (w.heap[g2]? = some (.cells #[.string p1, .string q1] 48 (0, 0))) ∧ Aside0 (w.heap[g3]? = some (.cells #[.string p2, .string q2] 48 (0, 0))) ∧ Aside0 (∃ x y, w.heap[g4]? = some (.cells #[.string x, .string y] 48 (0, 0))) ∧ Aside0 (Below W.heap.size W w) :=
  ⟨(blk_cell h2 0).trans rfl, (blk_cell h2 1).trans rfl, (blk_cell h3 0).trans rfl, (blk_cell h3 1).trans rfl, ⟨h2⟩, ⟨h3⟩, ⟨h4⟩, ⟨hb⟩⟩
theorem times_zt (a b : Int) (ha : zs a ≤ 40000000000) (hb : zs b ≤ 40000000000) : rat_times.f (zt a) (zt b) = some (zt (a * b)) := by
  rw [rat_times.f, whole_Mul.zt (Nat.le_trans ha (by decide)) (Nat.le_trans hb (by decide)), Option.bind_some]
theorem lowest_ok {aF aZ : Addr} (a b : Int) (hb : b ≠ 0) (ha : zs a ≤ 100000000000) (hb' : zs b ≤ 100000000000) (w : World) :
    Calls Tryz.prog 30 #[.string (zt a), .string (zt b)] w fun e w' => ∃ v, e = .returned (.tuple #[.agg #[.string (zt (Rat.divInt a b).num), .string (txt (Rat.divInt a b).den)], v]) ∧ ErrV aF aZ w' v 0 ∧ Below w.heap.size w w' :=
  (lowest_rt a b hb ha hb' w).mono fun _ _ ⟨h1, h2⟩ => ⟨_, h1, Or.inl ⟨rfl, rfl⟩, h2⟩
theorem rv_cases (s : ByteArray) : (rv s = none) ∨ ∃ x, s = rt x ∧ rv s = some x := by
  cases h : rv s with
  | none => exact Or.inl rfl
  | some x => exact Or.inr ⟨x, rv_some h, rfl⟩
theorem den_pos {x y : Rat} : ((x.den * y.den : Nat) : Int) ≠ 0 := by
  have := Nat.mul_ne_zero x.den_nz y.den_nz
  omega
theorem cast_den (x y : Rat) : ((x.den * y.den : Nat) : Int) = (x.den : Int) * (y.den : Int) := by simp
end Go.Proofs.YtfjlmiehbikmnaaGreatDoor.Err
