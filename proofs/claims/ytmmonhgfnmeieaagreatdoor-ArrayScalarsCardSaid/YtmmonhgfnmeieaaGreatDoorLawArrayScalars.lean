/- The card of ArrayScalars: the printed contract, the plain law, the row, the tie. -/
import Derived.Test.YtmmonhgfnmeieaaGreatDoorRows
import Derived.Test.YtmmonhgfnmeieaaGreatDoorCards
import Derived.Test.YtmmonhgfnmeieaaGreatDoorTie
import Derived.Test.YtmmonhgfnmeieaaGreatDoorRatW
import Derived.Test.YtmmonhgfnmeieaaGreatDoorTenO
import Derived.Test.YtmmonhgfnmeieaaGreatDoorPQSx
import Derived.Test.YtmmonhgfnmeieaaGreatDoorPureArrayScalars
import Derived.WalkKit
import Derived.SevenTiedAt
import Derived.LaidMore
import Derived.Stop.Joined
import Derived.ProofKit
import Derived.OpenShut
import Derived.ShutString
import Derived.ChangeOld
import Derived.Below
import Derived.SizedLaws
namespace Go.Proofs.YtmmonhgfnmeieaaGreatDoor.arrayScalars
open Go.ChangeShapes Go.WideShapes Go.ChangeAt Go.RowKit Go.Proofs.YtmmonhgfnmeieaaGreatDoorW.PrintWords
open Go.ChangeMaps (open_string shut_string)
set_option linter.unusedVariables false
theorem own : ownKnob Tryz.prog.godebug = none := by kernel_rfl
set_option maxRecDepth 100000 in
theorem lifted (os : Os) (started : os.Started) (H : Type) (enc : TypeId × Value → H) :
    ReturnsInHanded {} Tryz.checked os 10 .any (fun w args => (Rows.arrayScalarsSpec.pre enc Tryz.prog Tryz.f10 [] false w args ∧ laidMetH Tryz.prog Err.laid3 w) ∧ sizedMet enc Tryz.prog Tryz.f10 (OpenSpec.ofChange Rows.arrayScalarsSpec) false w args) (Rows.arrayScalarsSpec.post enc Tryz.prog Tryz.f10 false true false false) := by
  refine returnsInHanded_of_change_and (C := Tryz.checked) (X := fun w _ => laidMetH Tryz.prog Err.laid3 w) (fun _ _ _ hh h => h.of_heap hh) own started (by kernel_rfl) Tryz.func10
    (ChangeSpec.witness_shaped (enc := enc) (C := Tryz.checked) (os := os) (X := fun w _ => laidMetH Tryz.prog Err.laid3 w) false (World.doorLaid Tryz.prog 2000 os) #[.string ByteArray.empty, .slice none 0 0] 8 rfl (World.shaped_of_RefB (by kernel_rfl) (by kernel_rfl)) (by kernel_rfl) (by kernel_rfl) (by kernel_rfl) (Err.door_met os _)) ?_
  intro W base args ds gs before hval0 hW hcnd hsz0 hL _
  have hval : ∀ (j : Nat) t v, Tryz.f10.params[j]? = some t → args[j]? = some v → Value.okWide Tryz.prog W .any base t v := hval0
  have hW' := hW
  obtain ⟨p, q, hA0, hV, rfl, hfz, hnd⟩ := hW
  have hA : DataW.TrodAll enc Tryz.prog W 0 (fun _ => true) true Tryz.f10.params.toList args.toList ds p := hA0
  rw [Tryz.params10] at hA hval
  obtain ⟨v0, vs0, d0, ds0, p0, q0, hargs, rfl, rfl, h0, r0⟩ := trodAll_cons hA
  obtain ⟨v1, vs1, d1, ds1, p1, q1, rfl, rfl, rfl, h1, r1⟩ := trodAll_cons r0
  obtain ⟨rfl, rfl, rfl⟩ := trodAll_nil r1
  obtain rfl : args = #[v0, v1] := by cases args; simp_all
  obtain ⟨rfl, rfl⟩ := trodVars_none hV
  obtain ⟨a0, rfl, rfl, rfl, y0⟩ := open_string Tryz.underlying9 (hval 0 9 v0 rfl rfl) h0
  have k1 := h1
  obtain ⟨A1, c1, l1, rfl, hr1, hc1, wf1⟩ := Ten.open_sl (hval 1 22 v1 rfl rfl) h1
  clear hA0 hval0 hsz0
  obtain ⟨kk, hk⟩ := Pure.ArrayScalars a0 l1
  refine (PQS.tapewrightlaw06_ArrayScalars.calls kk a0 A1 c1 l1 true W (Err.gs_of_laid hL) rfl hr1 hc1 hk).mono fun e W' ⟨he, bel⟩ => ?_
  subst he
  exact ⟨_, rfl, _, _, _, [], _, [], hW', trodAll_mk1 (shut_bool Tryz.underlying4 _), (trodAll_cons_mk (shut_string Tryz.underlying9 y0) (trodAll_cons_mk (Ten.back Ten.readS Ten.ltS k1 bel) trodAll_mk0)), rfl, bel.frame _, fun h => by cases h⟩
theorem over : Rows.arrayScalarsRow.holds Tryz.pinned (OpenSpec.ofChange Rows.arrayScalarsSpec) :=
  OpenClaim.holds_of_wide 10 Tryz.f10 rfl rfl rfl rfl rfl rfl rfl ⟨rfl, rfl, rfl, rfl, rfl⟩ rfl rfl rfl rfl rfl (by kernel_rfl) Tryz.func10 (by kernel_rfl)
    (of_decide_eq_true (by kernel_rfl)) (by unfold Func.isWrapper; first | (rw [if_pos (by decide +kernel)]; kernel_rfl) | (rw [if_neg (by decide +kernel)]; exact ⟨rfl, rfl⟩))
    (fun os started H enc _ => lifted os started H enc)
theorem card : Rows.ArrayScalarsCardSaid :=
  Claim7.holds_tied_plain_at .later [] [.handle, .sentinel, .sentinel] true (true, "1d1c9429003012e56815b9bbf8efc713e3dbd7c200fbf0f3c70e2b6f10b7d630") true
    over (fun _ h => by cases h) (by kernel_rfl) (fun _ h => by cases h) arrayScalars_row_tie rfl ⟨rfl, rfl⟩ (by kernel_rfl) rfl
    (fun f fn hf hfn => by
      obtain rfl : f = 10 := Option.some.inj ((show Tryz.prog.funcNamed "tapewright/tapewrightlaw06.ArrayScalars" = some 10 by kernel_rfl).symm.trans hf) |>.symm
      obtain rfl : fn = Tryz.f10 := (Option.some.inj (Tryz.func10.symm.trans hfn)).symm
      exact ⟨by kernel_rfl, fun j t ht => by
        rw [Tryz.params10] at ht
        have h3 : ∀ u ∈ [9, 22], Tryz.prog.wantsStandIn u = false := fun u hu => by
          simp only [List.mem_cons, List.not_mem_nil, or_false] at hu
          first | (subst hu; kernel_rfl) | (rcases hu with rfl | rfl <;> kernel_rfl) | (rcases hu with rfl | rfl | rfl <;> kernel_rfl) | (rcases hu with rfl | rfl | rfl | rfl <;> kernel_rfl)
        exact h3 t (by have h4 := Array.mem_of_getElem? ht; simpa using h4)⟩)
    (by kernel_rfl)
#print axioms card
end Go.Proofs.YtmmonhgfnmeieaaGreatDoor.arrayScalars
namespace Go.Proofs.YtmmonhgfnmeieaaGreatDoor
/-- The card, under a short name, for the claim. -/
theorem arrayScalars_holds : Rows.ArrayScalarsCardSaid := arrayScalars.card
end Go.Proofs.YtmmonhgfnmeieaaGreatDoor
