/- slices.Contains at texts. -/
import Derived.Test.YtndkjpkgllmbnaaGreatDoorKinT
-- mini
namespace Go.Proofs.YtndkjpkgllmbnaaGreatDoor.Ten
open Go Go.RowKit Go.ZPWords Go.ZPMore Go.ZPLast Go.Proofs.YtndkjpkgllmbnaaGreatDoor.PV Go.Proofs.YtndkjpkgllmbnaaGreatDoor.Th Go.Proofs.YtndkjpkgllmbnaaGreatDoor.Th.Wh Go.Proofs.YtndkjpkgllmbnaaGreatDoor.Err
set_option linter.unusedVariables false
theorem index_l0 (x : ByteArray) (d : List ByteArray) (hl : d.length ≤ 1000) : ∀ g p : Nat, p + g = d.length → x ∉ d.take p →
    ∃ r, slices_Index_string_string.l0 (g + 1) d x (d.length : Int) (p : Int) = some r ∧ (r ≥ 0 ↔ x ∈ d) := by
  intro g
  induction g with
  | zero =>
    intro p hp hn;rw [List.take_of_length_le (by omega)] at hn;exact ⟨-1, by rw [slices_Index_string_string.l0, if_neg (by omega)], by simp [hn]⟩
  | succ g ih =>
    intro p hp hn
    have hlt : p < d.length := by omega
    have hw : wrap64 ((p : Int) + 1) = ((p + 1 : Nat) : Int) := by unfold wrap64; omega
    by_cases he : x = rdOf ByteArray.empty d (p : Int)
    · refine ⟨(p : Int), by rw [slices_Index_string_string.l0, if_pos (by omega), if_pos (by omega), if_pos (by omega), if_pos (by rw [← he])], ?_⟩
      have : x ∈ d := by rw [he]; exact rdOf_mem d p hlt
      simp [this]
    · obtain ⟨r, hr, hi⟩ := ih (p + 1) (by omega) (by
        rw [List.take_succ_eq_append_getElem hlt, List.mem_append, List.mem_singleton];rintro (h | h)
        · exact hn h
        · exact he (by rw [h]; simp [rdOf, List.getD, hlt]))
      refine ⟨r, ?_, hi⟩;rw [slices_Index_string_string.l0, if_pos (by omega), if_pos (by omega), if_pos (by omega), if_neg (fun h => he (toList_inj.1 h)), hw];exact hr
open Classical in
theorem has_calls (A : Option Addr) (c : Nat) (d : List ByteArray) (x : ByteArray) (w : World) (hr : Kd.C Kd.string w A d.length d) (hc : d.length ≤ c) (hl : d.length ≤ 1000) :
    Calls Tryz.prog 46 #[.slice A d.length c, .string x] w fun e w' => e = .returned (.bool (decide (x ∈ d))) ∧ Below w.heap.size w w' := by
  obtain ⟨r, hr', hi⟩ := index_l0 x d hl d.length 0 (by omega) (by simp);have e : slices_Index_string_string.f (d.length + 1) d x = some r := hr'
  have h : slices_Contains_string_string.f (d.length + 1) d x = some (decide (x ∈ d)) := by
    rw [slices_Contains_string_string.f, e, Option.bind_some, decide_eq_decide.2 hi]
  exact (slices_Contains_string_string.calls (d.length + 1) A c d x _ w hr hc h).mono fun e w' hh => ⟨hh.1, hh.2.below⟩
end Go.Proofs.YtndkjpkgllmbnaaGreatDoor.Ten
