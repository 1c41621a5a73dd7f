/- array over rational numbers. -/
import Derived.Test.YtmmonhgfnmeieaaGreatDoorArrS
-- mini
namespace Go.Proofs.YtmmonhgfnmeieaaGreatDoor.Ten
open Go Go.RowKit Go.ZPWords Go.Proofs.YtmmonhgfnmeieaaGreatDoor.Th Go.Proofs.YtmmonhgfnmeieaaGreatDoor.Th.Wh Go.Proofs.YtmmonhgfnmeieaaGreatDoor.Err
set_option linter.unusedVariables false
theorem Ok.sm1 {s : List Int} {l : List Rat} {N : Nat} (h : Ok s l N) (hN : N ≤ 40000000) : Sm1 s (tx l) := by
  refine ⟨h.sm (by omega), fun x hx => ?_⟩;obtain ⟨q, hq, rfl⟩ := List.mem_map.1 hx;have := h.bd q hq;have := size_rt q
  omega
theorem small_sm1 {s : List Int} {d : List ByteArray} (h : small ⟨s, d⟩ = true) : Sm1 s d := ⟨(small_parts h).1, fun x hx => Nat.le_trans ((small_parts h).2 x hx) (by decide)⟩
theorem mem_grid {r c : Nat} {f : Nat → Nat → Rat} {x : Rat} (h : x ∈ grid r c f) : ∃ i k, i < r ∧ k < c ∧ x = f i k := by
  unfold grid at h;rw [List.mem_flatMap] at h;obtain ⟨i, hi, h⟩ := h;obtain ⟨k, hk, rfl⟩ := List.mem_map.1 h;exact ⟨i, k, List.mem_range.1 hi, List.mem_range.1 hk, rfl⟩
theorem sz2 (r c : Nat) : sz [(r : Int), (c : Int)] = ((r * c : Nat) : Int) := by
  show (r : Int) * ((c : Int) * 1) = _
  rw [Int.mul_one, Int.natCast_mul]
theorem shOk_swap {r c : Nat} (h : shOk [(r : Int), (c : Int)] = true) : shOk [(c : Int), (r : Int)] = true := by
  unfold shOk at h ⊢;rw [sz2] at h ⊢;rw [Nat.mul_comm c r];simp only [List.all_cons, List.all_nil, Bool.and_true, List.length_cons, List.length_nil] at h ⊢;rw [Bool.and_comm (in64 (c : Int))];exact h
theorem ok_mm {r n c : Nat} {A B : List Rat} {N : Nat} (oA : Ok [(r : Int), (n : Int)] A N) (oB : Ok [(n : Int), (c : Int)] B N) (hN : 1 ≤ N) (hn : n ≤ 64) (hs : shOk [(r : Int), (c : Int)] = true) : Ok [(r : Int), (c : Int)] (mm r n c A B) (64 * (2 * N + 1) + 1) := by
 refine ⟨hs, by rw [mm, grid_len, sz2], fun x hx => ?_⟩;obtain ⟨i, k, hi, hk, rfl⟩ := mem_grid hx
 have h1 := qm_sm (f := fun j => at_ A n i j * at_ B c j k) (K := 2 * N) (fun j => by
  have h1 := qm_getD oA.bd hN (i * n + j);have h2 := qm_getD oB.bd hN (j * c + k);have := qx h1 h2;unfold at_;omega) n
 have h2 := Nat.mul_le_mul_right (2 * N + 1) hn;omega
theorem ok_tr {r c : Nat} {A : List Rat} {N : Nat} (oA : Ok [(r : Int), (c : Int)] A N) (hN : 1 ≤ N) : Ok [(c : Int), (r : Int)] (tr r c A) N := by
  refine ⟨shOk_swap oA.sh, by rw [tr, grid_len, sz2], fun x hx => ?_⟩;obtain ⟨k, i, hk, hi, rfl⟩ := mem_grid hx;exact qm_getD oA.bd hN _
theorem tmat_ok {r n c : Nat} {A B : List Rat} {N M : Nat} (oA : Ok [(r : Int), (n : Int)] A N) (oB : Ok [(n : Int), (c : Int)] B M) (hs : shOk [(r : Int), (c : Int)] = true) : tMat ⟨[(r : Int), (n : Int)], tx A⟩ ⟨[(n : Int), (c : Int)], tx B⟩ = (⟨[(r : Int), (c : Int)], tx (mm r n c A B)⟩, 0) := by
  unfold tMat;rw [if_pos oA.right, if_pos oB.right, if_pos ⟨rfl, rfl, rfl⟩];have e0 : rd [(r : Int), (n : Int)] 0 = (r : Int) := rfl;have e1 : rd [(r : Int), (n : Int)] 1 = (n : Int) := rfl;have f1 : rd [(n : Int), (c : Int)] 1 = (c : Int) := rfl;dsimp only;rw [e0, e1, f1, if_pos hs, rvl_tx, rvl_tx, Int.toNat_natCast, Int.toNat_natCast, Int.toNat_natCast]
theorem ttr_ok {r c : Nat} {A : List Rat} {N : Nat} (oA : Ok [(r : Int), (c : Int)] A N) : tTr ⟨[(r : Int), (c : Int)], tx A⟩ = (⟨[(c : Int), (r : Int)], tx (tr r c A)⟩, 0) := by
  unfold tTr;rw [if_pos oA.right];dsimp only;rw [if_pos (by rfl)];have e0 : rd [(r : Int), (c : Int)] 0 = (r : Int) := rfl;have e1 : rd [(r : Int), (c : Int)] 1 = (c : Int) := rfl;rw [e0, e1, rvl_tx, Int.toNat_natCast, Int.toNat_natCast]
theorem tmat_no {r n c : Nat} {A B : List Rat} {N M : Nat} (oA : Ok [(r : Int), (n : Int)] A N) (oB : Ok [(n : Int), (c : Int)] B M) (hs : ¬ shOk [(r : Int), (c : Int)] = true) : tMat ⟨[(r : Int), (n : Int)], tx A⟩ ⟨[(n : Int), (c : Int)], tx B⟩ = (nilT, 4) := by
  unfold tMat;rw [if_pos oA.right, if_pos oB.right, if_pos ⟨rfl, rfl, rfl⟩];have e0 : rd [(r : Int), (n : Int)] 0 = (r : Int) := rfl;have f1 : rd [(n : Int), (c : Int)] 1 = (c : Int) := rfl;dsimp only;rw [e0, f1, if_neg hs]
end Go.Proofs.YtmmonhgfnmeieaaGreatDoor.Ten
