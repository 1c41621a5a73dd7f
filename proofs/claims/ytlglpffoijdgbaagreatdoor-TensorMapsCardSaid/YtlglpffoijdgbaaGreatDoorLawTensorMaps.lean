import Derived.Test.YtlglpffoijdgbaaGreatDoorCards
import Derived.Test.YtlglpffoijdgbaaGreatDoorTie
import Derived.Test.YtlglpffoijdgbaaGreatDoorRatW
import Derived.Test.YtlglpffoijdgbaaGreatDoorTenO
import Derived.Test.YtlglpffoijdgbaaGreatDoorPureTensorMaps
import Derived.SevenTiedAt
import Derived.ShutString
import Derived.ChangeOld
import Derived.SizedLaws
set_option maxRecDepth 100000
namespace Go.Proofs.YtlglpffoijdgbaaGreatDoor.tensorMaps
open Go.ChangeShapes Go.WideShapes Go.ChangeAt Go.RowKit Go.ZPWords
open Go.ChangeMaps (open_string shut_string)
set_option linter.unusedVariables false
theorem own : ownKnob Tryz.prog.godebug = none := by kernel_rfl
theorem lifted (os : Os) (started : os.Started) (H : Type) (enc : TypeId × Value → H) :
    ReturnsInHanded {} Tryz.checked os 11 .any (fun w args => (Rows.tensorMapsSpec.pre enc Tryz.prog Tryz.f11 [] false w args ∧ laidMetH Tryz.prog Err.laid3 w) ∧ sizedMet enc Tryz.prog Tryz.f11 (OpenSpec.ofChange Rows.tensorMapsSpec) false w args) (Rows.tensorMapsSpec.post enc Tryz.prog Tryz.f11 false true false false) := by
 refine returnsInHanded_of_change_and (C := Tryz.checked) (X := fun w _ => laidMetH Tryz.prog Err.laid3 w) (fun _ _ _ hh h => h.of_heap hh) own started (by kernel_rfl) Tryz.func11
  (ChangeSpec.witness_shaped (enc := enc) (C := Tryz.checked) (os := os) (X := fun w _ => laidMetH Tryz.prog Err.laid3 w) false (World.doorLaid Tryz.prog 2000 os) #[.agg #[.slice none 0 0, .slice none 0 0], .string ByteArray.empty, .int .i64 0] 8 rfl (World.shaped_of_RefB (by kernel_rfl) (by kernel_rfl)) (by kernel_rfl) (by kernel_rfl) (by kernel_rfl) (Err.door_met os _)) ?_
 intro W base args ds gs before hval0 hW hcnd hsz0 hL _;have hval : ∀ (j : Nat) t v, Tryz.f11.params[j]? = some t → args[j]? = some v → Value.okWide Tryz.prog W .any base t v := hval0;have hW' := hW;obtain ⟨p, q, hA0, hV, rfl, hfz, hnd⟩ := hW;have hA : DataW.TrodAll enc Tryz.prog W 0 (fun _ => true) true Tryz.f11.params.toList args.toList ds p := hA0;rw [Tryz.params11] at hA hval;obtain ⟨v0, vs0, d0, ds0, p0, q0, hargs, rfl, rfl, h0, r0⟩ := trodAll_cons hA;obtain ⟨v1, vs1, d1, ds1, p1, q1, rfl, rfl, rfl, h1, r1⟩ := trodAll_cons r0;obtain ⟨v2, vs2, d2, ds2, p2, q2, rfl, rfl, rfl, h2, r2⟩ := trodAll_cons r1;obtain ⟨rfl, rfl, rfl⟩ := trodAll_nil r2;obtain rfl : args = #[v0, v1, v2] := by cases args; simp_all
 obtain ⟨rfl, rfl⟩ := trodVars_none hV;have k0 := h0;obtain ⟨A0_0, c0_0, l0_0, A0_1, c0_1, l0_1, rfl, hr0_0, hc0_0, hr0_1, hc0_1⟩ := Ten.open_ten (hval 0 25 v0 rfl rfl) h0;obtain ⟨a1, rfl, rfl, rfl, y1⟩ := open_string Tryz.underlying9 (hval 1 9 v1 rfl rfl) h1;obtain ⟨a2, rfl, rfl, rfl, w2⟩ := open_int Tryz.underlying3 (hval 2 3 v2 rfl rfl) h2;clear hA0 hval0 hsz0;obtain ⟨kk, hk⟩ := Pure.TensorMaps l0_0 l0_1 a1 a2;refine (PQM.lw5_TensorMaps.calls kk A0_0 c0_0 l0_0 A0_1 c0_1 l0_1 a1 a2 true W (Err.gs_of_laid hL) rfl hr0_0 hc0_0 hr0_1 hc0_1 hk).mono fun e W' ⟨he, bel⟩ => ?_;subst he;exact ⟨_, rfl, _, _, _, [], _, [], hW', trodAll_mk1 (shut_bool Tryz.underlying4 _), (trodAll_cons_mk (Ten.back Ten.readT Ten.ltT k0 bel) (trodAll_cons_mk (shut_string Tryz.underlying9 y1) (trodAll_cons_mk (shut_int Tryz.underlying3 w2) trodAll_mk0))), rfl, bel.frame _, fun h => by cases h⟩
theorem over : Rows.tensorMapsRow.holds Tryz.pinned (OpenSpec.ofChange Rows.tensorMapsSpec) :=
  OpenClaim.holds_of_wide 11 Tryz.f11 rfl rfl rfl rfl rfl rfl rfl ⟨rfl, rfl, rfl, rfl, rfl⟩ rfl rfl rfl rfl rfl (by kernel_rfl) Tryz.func11 (by kernel_rfl)
    (of_decide_eq_true (by kernel_rfl)) (by unfold Func.isWrapper; first | (rw [if_pos (by decide +kernel)]; kernel_rfl) | (rw [if_neg (by decide +kernel)]; exact ⟨rfl, rfl⟩))
    (fun os started H enc _ => lifted os started H enc)
theorem card : Rows.TensorMapsCardSaid :=
  Claim7.holds_tied_plain_at .later [] [.handle, .sentinel, .sentinel] true (true, "2ca07fa30741293eff56bd8df9dac43a9866e6e7fc7ae19afb58d4a52e766f9a") true
    over (fun _ h => by cases h) (by kernel_rfl) (fun _ h => by cases h) tensorMaps_row_tie rfl ⟨rfl, rfl⟩ (by kernel_rfl) rfl
    (fun f fn hf hfn => by
      obtain rfl : f = 11 := Option.some.inj ((show Tryz.prog.funcNamed "tapewright/tapewrightlaw05.TensorMaps" = some 11 by kernel_rfl).symm.trans hf) |>.symm
      obtain rfl : fn = Tryz.f11 := (Option.some.inj (Tryz.func11.symm.trans hfn)).symm
      exact ⟨by kernel_rfl, fun j t ht => by
        rw [Tryz.params11] at ht
        have h3 : ∀ u ∈ [25, 9, 3], Tryz.prog.wantsStandIn u = false := fun u hu => by
          simp only [List.mem_cons, List.not_mem_nil, or_false] at hu
          first | (subst hu; kernel_rfl) | (rcases hu with rfl | rfl <;> kernel_rfl) | (rcases hu with rfl | rfl | rfl <;> kernel_rfl) | (rcases hu with rfl | rfl | rfl | rfl <;> kernel_rfl)
        exact h3 t (by have h4 := Array.mem_of_getElem? ht; simpa using h4)⟩)
    (by kernel_rfl)
#print axioms card
end Go.Proofs.YtlglpffoijdgbaaGreatDoor.tensorMaps
namespace Go.Proofs.YtlglpffoijdgbaaGreatDoor
theorem tensorMaps_holds : Rows.TensorMapsCardSaid := tensorMaps.card
end Go.Proofs.YtlglpffoijdgbaaGreatDoor
