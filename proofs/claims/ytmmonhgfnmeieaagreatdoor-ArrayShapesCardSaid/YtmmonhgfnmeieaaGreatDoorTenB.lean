/- Tensors: slices.Clone, Repeat, IndexFunc and ContainsFunc as the tensors' functions call them. -/
import Derived.Test.YtmmonhgfnmeieaaGreatDoorTenA
import Derived.Laws.CopyOwn
-- mini
namespace Go.Proofs.YtmmonhgfnmeieaaGreatDoor.Ten
open Go Go.RowKit Go.Extern.Stop Go.Stop Go.Extern Go.ZPWords Go.ZPMore Go.ZPLast Go.Proofs.YtmmonhgfnmeieaaGreatDoor.PC Go.Proofs.YtmmonhgfnmeieaaGreatDoor.Th Go.Proofs.YtmmonhgfnmeieaaGreatDoor.Th.Wh Go.Proofs.YtmmonhgfnmeieaaGreatDoor.Err
set_option maxHeartbeats 4000000
set_option maxRecDepth 1000000
theorem infoI : (Tryz.prog.info? 3).map (fun i => (i.zero, i.size, i.bytes)) = some (some (.int .i64 0), 1, 8) := by kernel_rfl
theorem infoS : (Tryz.prog.info? 9).map (fun i => (i.zero, i.size, i.bytes)) = some (some (.string ⟨#[]⟩), 1, 16) := by kernel_rfl
theorem cloneI_calls (A0 : Option Addr) (c0 : Nat) (l0 : List Int) (w : World) (hr0 : Kd.C (Kd.int .i64) w A0 l0.length l0) (c2 : l0.length ≤ 1000000) :
    Calls Tryz.prog 32 #[.slice A0 l0.length c0] w fun e w' => ∃ v0_ : Value, e = .returned (v0_) ∧ Kd.R (Kd.int .i64) 3 w' w.heap.size (fun _ => True) v0_ l0 ∧ Below w.heap.size w w' := by
 have LMc2 := A_ c2;clear c2;have hrun : ∀ (a : Option Addr) (n c : Nat) (w : World), (binOp .eql 22 (.slice a n c) (.slice none 0 0)).run Tryz.prog w = .ok (.bool a.isNone) w := fun a n c w => Lib.run_eql_slice_nil w 22 3 a n c 0 0 Tryz.underlying22
 cases A0 with
 | none =>
  have h0 : l0 = [] := by
   cases l0 with
   | nil => rfl
   | cons x l => exact absurd (hr0.2.2 (by simp)) (by simp)
  subst h0;have h1 := hrun none ([] : List Int).length c0;have HN := A_ (Below.refl w.heap.size w);go_enter Tryz.func32, Tryz.ntmps32;go_wp2;go_ret;exact ⟨_, rfl, Kd.R_nil _ _ _ _ _, HN.out⟩
 | some a0 =>
  have h1 := hrun (some a0) l0.length c0;have HR0 := A_ hr0;have HB := A_ (Below.refl w.heap.size w);clear hr0 hrun;go_enter Tryz.func32, Tryz.ntmps32;go_wp2_with (first | ((with_reducible refine gate_dst (N := 5) rfl ?_); refine Kd.R_lit (Kd.int .i64) _ 3 ?hg (N := 5) ?hd (xs := ([] : List Int)) (inner := []) (ok := fun _ => True) (okp := fun _ => True) ?hr ?hp (fun _ hk => hk) trivial (Below.refl _ _) (Nat.le_refl _) (by simp) ?_; (case hd => rfl); (case hg => rfl); (case hr => exact T3_); (case hp => exact (Reps.none _ _)); intro v102 w3 ho4 hb hg_ hnew_; clear hg_ hnew_ HB; have HO103 := A_ ho4; have HB := A_ hb; clear hb ho4) | ((with_reducible refine gate_builtin (b := .append) (xs := #[.tmp 5, .tmp 6]) rfl ?_); at_builtin; refine Kd.R_append_rows (Kd.int .i64) (w0 := w) w.heap.size rfl (.tmp 5) (.tmp 6) 22 3 (.int .i64 0) 8 rfl Tryz.underlying22 infoI rfl (by decide) (by omega) v102 [] l0 _ _ _ (fun _ => True) (fun _ => False) rfl rfl ?aO ?aR (fun _ _ h => h) (fun _ h => h.elim) ?aF ?aB ?aS ?aL ?_; (case aR => exact (Kd.C_below HR0.out HB.out)); (case aB => exact HB.out); (case aF => exact (fun _ _ => trivial)); (case aO => exact HO103.out); (case aS => exact (below_size HB.out)); (case aL => have := LMc2.out; simp; omega); intro v105 w5 ho hb hg hat; have HB2 := A_ hb; have HO106 := A_ ho; clear HB; clear HO103; clear ho hb hg hat));go_ret;exact ⟨_, rfl, HO106.out, HB2.out⟩
theorem cloneS_calls (A0 : Option Addr) (c0 : Nat) (l0 : List ByteArray) (w : World) (hr0 : Kd.C Kd.string w A0 l0.length l0) (c2 : l0.length ≤ 1000000) :
    Calls Tryz.prog 33 #[.slice A0 l0.length c0] w fun e w' => ∃ v0_ : Value, e = .returned (v0_) ∧ Kd.R Kd.string 9 w' w.heap.size (fun _ => True) v0_ l0 ∧ Below w.heap.size w w' := by
 have LMc2 := A_ c2;clear c2;have hrun : ∀ (a : Option Addr) (n c : Nat) (w : World), (binOp .eql 23 (.slice a n c) (.slice none 0 0)).run Tryz.prog w = .ok (.bool a.isNone) w := fun a n c w => Lib.run_eql_slice_nil w 23 9 a n c 0 0 Tryz.underlying23
 cases A0 with
 | none =>
  have h0 : l0 = [] := by
   cases l0 with
   | nil => rfl
   | cons x l => exact absurd (hr0.2.2 (by simp)) (by simp)
  subst h0;have h1 := hrun none ([] : List ByteArray).length c0;have HN := A_ (Below.refl w.heap.size w);go_enter Tryz.func33, Tryz.ntmps33;go_wp2;go_ret;exact ⟨_, rfl, Kd.R_nil _ _ _ _ _, HN.out⟩
 | some a0 =>
  have h1 := hrun (some a0) l0.length c0;have HR0 := A_ hr0;have HB := A_ (Below.refl w.heap.size w);clear hr0 hrun;go_enter Tryz.func33, Tryz.ntmps33;go_wp2_with (first | ((with_reducible refine gate_dst (N := 5) rfl ?_); refine Kd.R_lit Kd.string _ 9 ?hg (N := 5) ?hd (xs := ([] : List ByteArray)) (inner := []) (ok := fun _ => True) (okp := fun _ => True) ?hr ?hp (fun _ hk => hk) trivial (Below.refl _ _) (Nat.le_refl _) (by simp) ?_; (case hd => rfl); (case hg => rfl); (case hr => exact T3_); (case hp => exact (Reps.none _ _)); intro v102 w3 ho4 hb hg_ hnew_; clear hg_ hnew_ HB; have HO103 := A_ ho4; have HB := A_ hb; clear hb ho4) | ((with_reducible refine gate_builtin (b := .append) (xs := #[.tmp 5, .tmp 6]) rfl ?_); at_builtin; refine Kd.R_append_rows Kd.string (w0 := w) w.heap.size rfl (.tmp 5) (.tmp 6) 23 9 (.string ⟨#[]⟩) 16 rfl Tryz.underlying23 infoS rfl (by decide) (by omega) v102 [] l0 _ _ _ (fun _ => True) (fun _ => False) rfl rfl ?aO ?aR (fun _ _ h => h) (fun _ h => h.elim) ?aF ?aB ?aS ?aL ?_; (case aR => exact (Kd.C_below HR0.out HB.out)); (case aB => exact HB.out); (case aF => exact (fun _ _ => trivial)); (case aO => exact HO103.out); (case aS => exact (below_size HB.out)); (case aL => have := LMc2.out; simp; omega); intro v105 w5 ho hb hg hat; have HB2 := A_ hb; have HO106 := A_ ho; clear HB; clear HO103; clear ho hb hg hat));go_ret;exact ⟨_, rfl, HO106.out, HB2.out⟩
end Go.Proofs.YtmmonhgfnmeieaaGreatDoor.Ten
/- tensor.each: a closure at all numbers of a tensor. -/
namespace Go.Proofs.YtmmonhgfnmeieaaGreatDoor.Ten
open Go Go.RowKit Go.Extern.Stop Go.Stop Go.Extern Go.ZPWords Go.ZPMore Go.ZPLast Go.Proofs.YtmmonhgfnmeieaaGreatDoor.PC Go.Proofs.YtmmonhgfnmeieaaGreatDoor.Th Go.Proofs.YtmmonhgfnmeieaaGreatDoor.Th.Wh Go.Proofs.YtmmonhgfnmeieaaGreatDoor.Err
set_option maxHeartbeats 4000000
set_option maxRecDepth 1000000
end Go.Proofs.YtmmonhgfnmeieaaGreatDoor.Ten
