/- What the card's condition gives the walks: the two errors of rat; and a world in which the listed variables lie as the door lays them. -/
import Derived.Test.YtmmonhgfnmeieaaGreatDoorRows
import Derived.Test.YtmmonhgfnmeieaaGreatDoorRatU1
import Derived.ProofKit
import Derived.LaidMore
import Derived.LaidSub
import Derived.OpenShut
import Derived.Stop.Joined
import Derived.Stop.ErrReads
import Derived.LaidLaws
-- mini
namespace Go.Proofs.YtmmonhgfnmeieaaGreatDoor.Err
open Go Go.RowKit Go.ChangeShapes Go.WideShapes Go.ChangeAt
def laid3 : List (String × DataW Unit) := [("errors.errorType", Rows.laid_errors_errorType), ("tapewright/rat.errForm", Rows.laid_tapewright_rat_errForm), ("tapewright/rat.errZero", Rows.laid_tapewright_rat_errZero)]
theorem gForm : Tryz.prog.globalNamed "tapewright/rat.errForm" = some 1 := by kernel_rfl
theorem gZero : Tryz.prog.globalNamed "tapewright/rat.errZero" = some 0 := by kernel_rfl
theorem tForm : (Tryz.prog.globals[1]?).map (·.type) = some 66 := by kernel_rfl
theorem tZero : (Tryz.prog.globals[0]?).map (·.type) = some 66 := by kernel_rfl
theorem cellsE : Tryz.prog.cellsOf 198 = 1 := by kernel_rfl
theorem cellsS : Tryz.prog.cellsOf 9 = 1 := by kernel_rfl
theorem star : "*" ++ "errors.errorString" = "*errors.errorString" := by decide
theorem rowE (u : TypeId) (h : Tryz.prog.typeName? 3 u = some "*errors.errorString") : u = 178 :=
  typeName_ptr_named (nm := "errors.errorString") (by rw [star]; kernel_rfl) (by kernel_rfl) (by decide) u (by rw [star]; exact h)
set_option maxRecDepth 1000000
theorem gs_of_laid {W : World} (h : laidMetH Tryz.prog laid3 W) : Gs W := by
 replace h := (laidMetH_iff.1 h).1;have e : (laid3.filter fun x => x.2.handleName?.isNone) = [("tapewright/rat.errForm", Rows.laid_tapewright_rat_errForm), ("tapewright/rat.errZero", Rows.laid_tapewright_rat_errZero)] := by rfl
 rw [e] at h;obtain ⟨ps, ⟨g0, t0, cs0, f0, p0, q0, hg0, ht0, hv0, hd0, ⟨g1, t1, cs1, f1, p1, q1, hg1, ht1, hv1, hd1, hq1, e1⟩, e0⟩, hnd, hrows⟩ := h;obtain rfl := Option.some.inj (gForm.symm.trans hg0);obtain rfl := Option.some.inj (gZero.symm.trans hg1);obtain rfl := Option.some.inj (tForm.symm.trans ht0);obtain rfl := Option.some.inj (tZero.symm.trans ht1);have hq1' : q1 = [] := hq1;subst hq1';subst e1;subst e0;obtain ⟨l0⟩ := cs0;obtain ⟨l1⟩ := cs1
 have ok0 : ∀ u v, l0 = [.iface u v] → Value.okWide Tryz.prog W .any 0 u v := fun u v e => by
  subst e;exact (hrows 1 0 (by simp [MemPlace.row])).2 u v (by simpa using World.var?_cell hg0 hv0 0)
 have ok1 : ∀ u v, l1 = [.iface u v] → Value.okWide Tryz.prog W .any 0 u v := fun u v e => by
  subst e;exact (hrows 0 0 (by simp [MemPlace.row])).2 u v (by simpa using World.var?_cell hg1 hv1 0)
 obtain ⟨a0, s0, rfl, hc0, hs0, hz0, rfl⟩ := errorString_of_trod Tryz.underlying66 rowE Tryz.underlying178 Tryz.underlying198 rfl rfl Tryz.underlying9 cellsE cellsS hd0 ok0;obtain ⟨a1, s1, rfl, hc1, hs1, hz1, rfl⟩ := errorString_of_trod Tryz.underlying66 rowE Tryz.underlying178 Tryz.underlying198 rfl rfl Tryz.underlying9 cellsE cellsS hd1 ok1;refine ⟨a0, a1, by simpa using World.var?_cell hg0 hv0 0, by simpa using World.var?_cell hg1 hv1 0, ?_, (hrows a0.block a0.off (by simp [MemPlace.row])).1, (hrows a1.block a1.off (by simp [MemPlace.row])).1⟩;rintro rfl;simp [MemPlace.row] at hnd
theorem door_met (os : Os) (args : Array Value) : laidMetH Tryz.prog laid3 ((World.doorLaid Tryz.prog 2000 os).forCall (fun _ _ => 0) ⟨#[], args, []⟩).memory :=
  laidMetH_of_parts3 (fuel := 8) (laidMet_of_run' 8 (by kernel_rfl) (by kernel_rfl)) (by kernel_rfl) (by kernel_rfl)
end Go.Proofs.YtmmonhgfnmeieaaGreatDoor.Err
