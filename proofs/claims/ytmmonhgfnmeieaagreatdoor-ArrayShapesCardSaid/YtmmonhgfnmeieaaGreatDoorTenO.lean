/- Tensors among a law's arguments: how they lie in memory. -/
import Derived.Test.YtmmonhgfnmeieaaGreatDoorMine
import Derived.Test.YtmmonhgfnmeieaaGreatDoorProg
import Derived.Lib.SmallJoins
import Derived.Carry
-- mini
namespace Go.Proofs.YtmmonhgfnmeieaaGreatDoor.Ten
open Go Go.RowKit Go.ChangeShapes Go.WideShapes Go.ChangeAt Go.ZPWords
set_option linter.unusedVariables false
set_option maxRecDepth 1000000
theorem laidOut : laidOutB Tryz.prog = true := by kernel_rfl
theorem row_one {α : Type} {enc : α → Value} {h1 : ∀ x, (enc x).oneCell' = true} {w : World} {a : Addr} {zs : List α} {l c : Nat} {d : α} (hl : l ≤ c) (hm : c ≤ maxLen) (hz : zs.length = c) (hcell : ∀ i, i < zs.length → w.cell? (a.add i) = some (enc (zs.getD i d))) :
    (Kd.scalar enc h1).C w (some a) (zs.take l).length (zs.take l) := by
 have e : (zs.take l).length = l := by rw [List.length_take]; omega
 unfold maxLen at hm;refine ⟨rfl, by omega, fun h0 => ⟨a, rfl, fun j p hj => ?_⟩⟩
 have hj2 : j < l := by
  have := (List.getElem?_eq_some_iff.1 hj).1;omega
 refine ⟨[enc p], rfl, rfl, fun i u hu => ?_⟩
 have hi : i = 0 := by
  cases i with
  | zero => rfl
  | succ i => simp at hu
 subst hi;have hu' : enc p = u := by simpa using hu
 have hp : zs.getD j d = p := by
  rw [List.getElem?_take, if_pos hj2] at hj;rw [List.getD, hj]; rfl
 rw [← hu', ← hp];show w.cell? (a.add (j * 1 + 0)) = _;rw [Nat.mul_one, Nat.add_zero];exact hcell j (by omega)
theorem row_none {α : Type} {d : Kd α} {w : World} : d.C w none ([] : List α).length [] := ⟨rfl, Nat.zero_le _, fun h => absurd h (Nat.lt_irrefl 0)⟩
theorem open_is {H : Type} {enc : TypeId × Value → H} {W : World} {fuel : Nat} {v : Value} {x : DataW H × List MemPlace} (h : DataW.trod enc Tryz.prog W 0 (fun _ => true) true fuel 22 [v] = some x) :
    ∃ (A : Option Addr) (c : Nat) (s : List Int), v = .slice A s.length c ∧ Kd.C (Kd.int .i64) W A s.length s ∧ s.length ≤ c ∧ ∀ n ∈ s, (Lit.int .i64 n).wf = true := by
 rcases open_ints Tryz.underlying22 Tryz.underlying3 (by kernel_rfl) h with ⟨hcs, _⟩ | ⟨a, l, c, zs, hcs, _, hl, hm, hz, _, hcell, hwz⟩
 · injection hcs with hcs _;subst hcs;exact ⟨none, 0, [], rfl, row_none, Nat.le_refl _, by simp⟩
 injection hcs with hcs _;subst hcs;have hz' : zs.length = c := by simpa using hz
 have e : (zs.take l).length = l := by rw [List.length_take]; omega
 refine ⟨some a, c, zs.take l, by rw [e], row_one (d := 0) hl hm hz' hcell, by omega, fun n hn => hwz n (List.mem_of_mem_take hn)⟩
theorem open_ss {H : Type} {enc : TypeId × Value → H} {W : World} {fuel : Nat} {v : Value} {x : DataW H × List MemPlace} (h : DataW.trod enc Tryz.prog W 0 (fun _ => true) true fuel 23 [v] = some x) :
    ∃ (A : Option Addr) (c : Nat) (s : List ByteArray), v = .slice A s.length c ∧ Kd.C Kd.string W A s.length s ∧ s.length ≤ c := by
 rcases open_strings Tryz.underlying23 Tryz.underlying9 (by kernel_rfl) h with ⟨hcs, _⟩ | ⟨a, l, c, zs, hcs, _, hl, hm, hz, _, hcell, hwz⟩
 · injection hcs with hcs _;subst hcs;exact ⟨none, 0, [], rfl, row_none, Nat.le_refl _⟩
 injection hcs with hcs _;subst hcs;have hz' : zs.length = c := by simpa using hz
 have e : (zs.take l).length = l := by rw [List.length_take]; omega
 refine ⟨some a, c, zs.take l, by rw [e], row_one (d := ByteArray.empty) hl hm hz' hcell, by omega⟩
theorem open_ten {H : Type} {enc : TypeId × Value → H} {W : World} {base : Nat} {v : Value} {d : DataW H} {p : List MemPlace} (hval : Value.okWide Tryz.prog W .any base 25 v) (h : DataW.Trod enc Tryz.prog W 0 (fun _ => true) true 25 v d p) :
    ∃ (A0 : Option Addr) (c0 : Nat) (s : List Int) (A1 : Option Addr) (c1 : Nat) (dd : List ByteArray), v = .agg #[.slice A0 s.length c0, .slice A1 dd.length c1] ∧ Kd.C (Kd.int .i64) W A0 s.length s ∧ s.length ≤ c0 ∧ Kd.C Kd.string W A1 dd.length dd ∧ dd.length ≤ c1 := by
  obtain ⟨v0, v1, y0, y1, n, rfl, _, _, t0, t1⟩ := Joins.open_agg2 Tryz.underlying25 (by kernel_rfl) (by kernel_rfl) hval h;obtain ⟨A0, c0, s, rfl, h0, h0', _⟩ := open_is t0;obtain ⟨A1, c1, dd, rfl, h1, h1'⟩ := open_ss t1;exact ⟨A0, c0, s, A1, c1, dd, rfl, h0, h0', h1, h1'⟩
theorem open_sl {H : Type} {enc : TypeId × Value → H} {W : World} {base : Nat} {v : Value} {d : DataW H} {p : List MemPlace} (hval : Value.okWide Tryz.prog W .any base 22 v) (h : DataW.Trod enc Tryz.prog W 0 (fun _ => true) true 22 v d p) :
    ∃ (A : Option Addr) (c : Nat) (s : List Int), v = .slice A s.length c ∧ Kd.C (Kd.int .i64) W A s.length s ∧ s.length ≤ c ∧ ∀ n ∈ s, (Lit.int .i64 n).wf = true := by
  obtain ⟨a0, len0, cap0, rfl⟩ := okWide_slice Tryz.underlying22 hval;obtain ⟨fuel, hf⟩ := h;exact open_is hf
/-- .. and they read behind the call as they did. -/
theorem back {H : Type} {enc : TypeId × Value → H} {t : TypeId} (hr : Tryz.prog.readableRec t = true) (ht : t < Tryz.prog.types.size) {W W' : World} {v : Value} {d : DataW H} {p : List MemPlace} (h : DataW.Trod enc Tryz.prog W 0 (fun _ => true) true t v d p) (hb : Below W.heap.size W W') :
    DataW.Trod enc Tryz.prog W' 0 (fun b => decide (b < W.heap.size)) true t v d p :=
  Below.trod laidOut hr ht h hb (by obtain ⟨m, hm⟩ := h; exact DataW.trod_lt m _ _ _ hm)
theorem readT : Tryz.prog.readableRec 25 = true := by kernel_rfl
theorem readS : Tryz.prog.readableRec 22 = true := by kernel_rfl
theorem ltT : 25 < Tryz.prog.types.size := of_decide_eq_true (by kernel_rfl)
theorem ltS : 22 < Tryz.prog.types.size := of_decide_eq_true (by kernel_rfl)
end Go.Proofs.YtmmonhgfnmeieaaGreatDoor.Ten
