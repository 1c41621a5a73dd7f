/- array.Transpose: what it answers. -/
import Derived.Test.YtmmonhgfnmeieaaGreatDoorPTRx
import Derived.Test.YtmmonhgfnmeieaaGreatDoorArrS
-- mini
namespace Go.Proofs.YtmmonhgfnmeieaaGreatDoor.Ten
open Go Go.RowKit Go.ZPWords Go.ZPMore Go.ZPLast Go.Proofs.YtmmonhgfnmeieaaGreatDoor.PTR Go.Proofs.YtmmonhgfnmeieaaGreatDoor.Th Go.Proofs.YtmmonhgfnmeieaaGreatDoor.Th.Wh Go.Proofs.YtmmonhgfnmeieaaGreatDoor.Err
set_option linter.unusedVariables false
section
variable {A : List Rat} {r c : Nat} (la : A.length = r * c) (hr : r ≤ 64) (hc : c ≤ 64) (so : List Int)
include la hr hc
theorem tr_l1 (k : Nat) (hk : k < c) (out : List ByteArray) (ho : out.length ≤ 90000) (R : List Int × List ByteArray × Int)
    (H : ∃ q, array_Transpose.l0 q (c : Int) ((k + 1 : Nat) : Int) [(r : Int), (c : Int)] (tx A) so (out ++ (List.range r).map fun i => rt (at_ A c i k)) = some R) : ∀ g i : Nat, i + g = r →
    ∃ q, array_Transpose.l1 q (k : Int) (c : Int) (k : Int) (r : Int) (i : Int) [(r : Int), (c : Int)] (tx A) so (out ++ (List.range i).map fun i => rt (at_ A c i k)) = some R := by
 intro g;induction g with
 | zero =>
  intro i hi;obtain ⟨q, hq⟩ := H;obtain rfl : i = r := by omega
  exact ⟨q + 1, by rw [array_Transpose.l1, if_neg (by omega), w1 (by omega)]; exact hq⟩
 | succ g ih =>
  intro i hi;obtain ⟨q, hq⟩ := ih (i + 1) (by omega);have e : (List.range (i + 1)).map (fun i => rt (at_ A c i k)) = (List.range i).map (fun i => rt (at_ A c i k)) ++ [rt (at_ A c i k)] := by rw [List.range_succ, List.map_append]; rfl
  rw [e, ← List.append_assoc] at hq;have i1 := lt_mul (show i < r by omega) hk;have e1 : rd [(r : Int), (c : Int)] 1 = (c : Int) := rfl;refine ⟨q + 1, ?_⟩;rw [array_Transpose.l1, if_pos (by omega), if_pos (by simp), e1, wr (by omega) hc (by omega), if_pos (by omega), if_pos (by rw [tx_len, la]; omega), if_pos (by rw [List.length_append, List.length_map, List.length_range]; omega), rdOf_txD A _ (by rw [la]; exact i1), w1 (by omega)];exact hq
theorem tr_l0 : ∀ g k : Nat, k + g = c →
    ∃ q, array_Transpose.l0 q (c : Int) (k : Int) [(r : Int), (c : Int)] (tx A) so (tx (grid k r (fun k i => at_ A c i k))) = some (so, tx (tr r c A), 0) := by
 intro g;induction g with
 | zero =>
  intro k hk;obtain rfl : k = c := by omega
  exact ⟨0 + 1, by rw [array_Transpose.l0, if_neg (by omega)]; rfl⟩
 | succ g ih =>
  intro k hk;have ih' := ih (k + 1) (by omega);rw [grid_succ, tx_app] at ih';have e : tx ((List.range r).map ((fun k i => at_ A c i k) k)) = (List.range r).map (fun i => rt (at_ A c i k)) := by unfold tx; rw [List.map_map]; rfl
  rw [e] at ih'
  have hl : (tx (grid k r (fun k i => at_ A c i k))).length ≤ 90000 := by
   rw [tx_len, grid_len];have := Nat.mul_le_mul (show k ≤ 64 by omega) hr;omega
  obtain ⟨q, hq⟩ := tr_l1 la hr hc so k (by omega) _ hl _ ih' r 0 (by omega);rw [List.range_zero, List.map_nil, List.append_nil] at hq;have e0 : rd [(r : Int), (c : Int)] 0 = (r : Int) := rfl;exact ⟨q + 1, by rw [array_Transpose.l0, if_pos (by omega), if_pos (by simp), e0]; exact hq⟩
end
theorem transpose_f (s : List Int) (d : List ByteArray) (h : Sm s d) : ∃ q, array_Transpose.f q s d = some ((tTr ⟨s, d⟩).1.s, (tTr ⟨s, d⟩).1.d, (tTr ⟨s, d⟩).2) := by
 unfold tTr;by_cases ht : tRight ⟨s, d⟩ = true
 case neg => exact ⟨0, by rw [array_Transpose.f, tensor_Right.of _ _ h, Option.bind_some, if_neg ht, if_neg ht]; rfl⟩
 rw [if_pos ht];obtain ⟨A, rfl, oA⟩ := right_some' ht h.2.2;by_cases c1 : s.length = 2
 case neg => exact ⟨0, by rw [array_Transpose.f, tensor_Right.of _ _ h, Option.bind_some, if_pos ht, if_neg (by omega), if_neg c1]; rfl⟩
 obtain ⟨x, y, rfl⟩ := two_of c1;have e1 : rd [x, y] 1 = y := rfl;have e0 : rd [x, y] 0 = x := rfl;dsimp only;rw [e1, e0, if_pos c1, rvl_tx];obtain ⟨r, c, rfl, rfl, hr, hc, _, _, la⟩ := two_ok oA;obtain ⟨q, hq⟩ := tr_l0 la hr hc [(c : Int), (r : Int)] c 0 (by omega);refine ⟨q, ?_⟩;rw [array_Transpose.f, tensor_Right.of _ _ h, Option.bind_some, if_pos ht, if_pos (by simp), if_pos (by simp), if_pos (by simp), e1, e0];exact hq
theorem transpose_calls (A0 : Option Addr) (c0 : Nat) (A1 : Option Addr) (c1 : Nat) (s : List Int) (d : List ByteArray) (w : World) (hG : Gs w) (hr0 : Kd.C (Kd.int .i64) w A0 s.length s) (hc0 : s.length ≤ c0) (hr1 : Kd.C Kd.string w A1 d.length d) (hc1 : d.length ≤ c1) (h : Sm s d) :
    Calls Tryz.prog 17 #[.agg #[.slice A0 s.length c0, .slice A1 d.length c1]] w (Res w (tTr ⟨s, d⟩)) := by
  obtain ⟨q, hq⟩ := transpose_f s d h;exact array_Transpose.calls q A0 c0 s A1 c1 d _ _ _ w hG hr0 hc0 hr1 hc1 hq
end Go.Proofs.YtmmonhgfnmeieaaGreatDoor.Ten
