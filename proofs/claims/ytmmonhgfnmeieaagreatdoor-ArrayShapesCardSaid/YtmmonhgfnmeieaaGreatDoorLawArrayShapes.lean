/- The card of ArrayShapes: the printed contract, the plain law, the row, the tie. -/
import Derived.Test.YtmmonhgfnmeieaaGreatDoorCards
import Derived.Test.YtmmonhgfnmeieaaGreatDoorTie
import Derived.Test.YtmmonhgfnmeieaaGreatDoorRatW
import Derived.Test.YtmmonhgfnmeieaaGreatDoorTenO
import Derived.Test.YtmmonhgfnmeieaaGreatDoorPureArrayShapes
import Derived.SevenTiedAt
import Derived.ShutString
import Derived.ChangeOld
import Derived.SizedLaws
set_option maxRecDepth 100000
namespace Go.Proofs.YtmmonhgfnmeieaaGreatDoor.arrayShapes
open Go.ChangeShapes Go.WideShapes Go.ChangeAt Go.RowKit Go.ZPWords
open Go.ChangeMaps (open_string shut_string)
set_option linter.unusedVariables false
theorem own : ownKnob Tryz.prog.godebug = none := by kernel_rfl
theorem lifted (os : Os) (started : os.Started) (H : Type) (enc : TypeId × Value → H) :
    ReturnsInHanded {} Tryz.checked os 11 .any (fun w args => (Rows.arrayShapesSpec.pre enc Tryz.prog Tryz.f11 [] false w args ∧ laidMetH Tryz.prog Err.laid3 w) ∧ sizedMet enc Tryz.prog Tryz.f11 (OpenSpec.ofChange Rows.arrayShapesSpec) false w args) (Rows.arrayShapesSpec.post enc Tryz.prog Tryz.f11 false true false false) := by
 refine returnsInHanded_of_change_and (C := Tryz.checked) (X := fun w _ => laidMetH Tryz.prog Err.laid3 w) (fun _ _ _ hh h => h.of_heap hh) own started (by kernel_rfl) Tryz.func11
  (ChangeSpec.witness_shaped (enc := enc) (C := Tryz.checked) (os := os) (X := fun w _ => laidMetH Tryz.prog Err.laid3 w) false (World.doorLaid Tryz.prog 2000 os) #[.agg #[.slice none 0 0, .slice none 0 0], .slice none 0 0] 8 rfl (World.shaped_of_RefB (by kernel_rfl) (by kernel_rfl)) (by kernel_rfl) (by kernel_rfl) (by kernel_rfl) (Err.door_met os _)) ?_
 intro W base args ds gs before hval0 hW hcnd hsz0 hL _;have hval : ∀ (j : Nat) t v, Tryz.f11.params[j]? = some t → args[j]? = some v → Value.okWide Tryz.prog W .any base t v := hval0;have hW' := hW;obtain ⟨p, q, hA0, hV, rfl, hfz, hnd⟩ := hW;have hA : DataW.TrodAll enc Tryz.prog W 0 (fun _ => true) true Tryz.f11.params.toList args.toList ds p := hA0;rw [Tryz.params11] at hA hval;obtain ⟨v0, vs0, d0, ds0, p0, q0, hargs, rfl, rfl, h0, r0⟩ := trodAll_cons hA;obtain ⟨v1, vs1, d1, ds1, p1, q1, rfl, rfl, rfl, h1, r1⟩ := trodAll_cons r0;obtain ⟨rfl, rfl, rfl⟩ := trodAll_nil r1;obtain rfl : args = #[v0, v1] := by cases args; simp_all
 obtain ⟨rfl, rfl⟩ := trodVars_none hV;have k0 := h0;obtain ⟨A0_0, c0_0, l0_0, A0_1, c0_1, l0_1, rfl, hr0_0, hc0_0, hr0_1, hc0_1⟩ := Ten.open_ten (hval 0 25 v0 rfl rfl) h0;have k1 := h1;obtain ⟨A1, c1, l1, rfl, hr1, hc1, wf1⟩ := Ten.open_sl (hval 1 22 v1 rfl rfl) h1;clear hA0 hval0 hsz0;obtain ⟨kk, hk⟩ := Pure.ArrayShapes l0_0 l0_1 l1;refine (PQH.lw6_ArrayShapes.calls kk A0_0 c0_0 l0_0 A0_1 c0_1 l0_1 A1 c1 l1 true W (Err.gs_of_laid hL) rfl hr0_0 hc0_0 hr0_1 hc0_1 hr1 hc1 hk).mono fun e W' ⟨he, bel⟩ => ?_;subst he;exact ⟨_, rfl, _, _, _, [], _, [], hW', trodAll_mk1 (shut_bool Tryz.underlying4 _), (trodAll_cons_mk (Ten.back Ten.readT Ten.ltT k0 bel) (trodAll_cons_mk (Ten.back Ten.readS Ten.ltS k1 bel) trodAll_mk0)), rfl, bel.frame _, fun h => by cases h⟩
theorem over : Rows.arrayShapesRow.holds Tryz.pinned (OpenSpec.ofChange Rows.arrayShapesSpec) :=
  OpenClaim.holds_of_wide 11 Tryz.f11 rfl rfl rfl rfl rfl rfl rfl ⟨rfl, rfl, rfl, rfl, rfl⟩ rfl rfl rfl rfl rfl (by kernel_rfl) Tryz.func11 (by kernel_rfl)
    (of_decide_eq_true (by kernel_rfl)) (by unfold Func.isWrapper; first | (rw [if_pos (by decide +kernel)]; kernel_rfl) | (rw [if_neg (by decide +kernel)]; exact ⟨rfl, rfl⟩))
    (fun os started H enc _ => lifted os started H enc)
theorem card : Rows.ArrayShapesCardSaid :=
  Claim7.holds_tied_plain_at .later [] [.handle, .sentinel, .sentinel] true (true, "1d1c9429003012e56815b9bbf8efc713e3dbd7c200fbf0f3c70e2b6f10b7d630") true
    over (fun _ h => by cases h) (by kernel_rfl) (fun _ h => by cases h) arrayShapes_row_tie rfl ⟨rfl, rfl⟩ (by kernel_rfl) rfl
    (fun f fn hf hfn => by
      obtain rfl : f = 11 := Option.some.inj ((show Tryz.prog.funcNamed "tapewright/tapewrightlaw06.ArrayShapes" = some 11 by kernel_rfl).symm.trans hf) |>.symm
      obtain rfl : fn = Tryz.f11 := (Option.some.inj (Tryz.func11.symm.trans hfn)).symm
      exact ⟨by kernel_rfl, fun j t ht => by
        rw [Tryz.params11] at ht
        have h3 : ∀ u ∈ [25, 22], Tryz.prog.wantsStandIn u = false := fun u hu => by
          simp only [List.mem_cons, List.not_mem_nil, or_false] at hu
          first | (subst hu; kernel_rfl) | (rcases hu with rfl | rfl <;> kernel_rfl) | (rcases hu with rfl | rfl | rfl <;> kernel_rfl) | (rcases hu with rfl | rfl | rfl | rfl <;> kernel_rfl)
        exact h3 t (by have h4 := Array.mem_of_getElem? ht; simpa using h4)⟩)
    (by kernel_rfl)
#print axioms card
end Go.Proofs.YtmmonhgfnmeieaaGreatDoor.arrayShapes
namespace Go.Proofs.YtmmonhgfnmeieaaGreatDoor
/-- The card, under a short name, for the claim. -/
theorem arrayShapes_holds : Rows.ArrayShapesCardSaid := arrayShapes.card
end Go.Proofs.YtmmonhgfnmeieaaGreatDoor
