/- Tensors: slices.Clone, Repeat, IndexFunc and ContainsFunc as the tensors' functions call them. -/
import Derived.Test.YtlglpffoijdgbaaGreatDoorTenA
import Derived.Laws.CopyOwn
import Derived.Lib.SliceRun
import Derived.Test.YtlglpffoijdgbaaGreatDoorPUx1
import Derived.Deep.LoopGhost
import Derived.Deep.RegionHeld3
import Derived.Shelf.Abstract
import Derived.Carry
import Derived.MapKept
import Derived.Laws.EntriesVeiled
namespace Go.Proofs.YtlglpffoijdgbaaGreatDoor.Ten
open Go Go.RowKit Go.Extern.Stop Go.Stop Go.Extern Go.Proofs.YtlglpffoijdgbaaGreatDoorW.PrintWords Go.Proofs.YtlglpffoijdgbaaGreatDoorW.PrintMore Go.Proofs.YtlglpffoijdgbaaGreatDoorW.PrintLast Go.Proofs.YtlglpffoijdgbaaGreatDoor.PC Go.Proofs.YtlglpffoijdgbaaGreatDoor.Th Go.Proofs.YtlglpffoijdgbaaGreatDoor.Th.Wh Go.Proofs.YtlglpffoijdgbaaGreatDoor.Err
set_option maxHeartbeats 4000000
set_option maxRecDepth 1000000
theorem infoI : (Tryz.prog.info? 3).map (fun i => (i.zero, i.size, i.bytes)) = some (some (.int .i64 0), 1, 8) := by kernel_rfl
theorem infoS : (Tryz.prog.info? 9).map (fun i => (i.zero, i.size, i.bytes)) = some (some (.string ⟨#[]⟩), 1, 16) := by kernel_rfl
theorem cloneI_calls (A0 : Option Addr) (c0 : Nat) (l0 : List Int) (w : World) (hr0 : Kd.C (Kd.int .i64) w A0 l0.length l0) (c2 : l0.length ≤ 1000000) :
    Calls Tryz.prog 52 #[.slice A0 l0.length c0] w fun e w' => ∃ v0_ : Value, e = .returned (v0_) ∧ Kd.R (Kd.int .i64) 3 w' w.heap.size (fun _ => True) v0_ l0 ∧ Below w.heap.size w w' := by
  have LMc2 := Aside0.mk c2
  clear c2
  have hrun : ∀ (a : Option Addr) (n c : Nat) (w : World), (binOp .eql 22 (.slice a n c) (.slice none 0 0)).run Tryz.prog w = .ok (.bool a.isNone) w := fun a n c w => Lib.run_eql_slice_nil w 22 3 a n c 0 0 Tryz.underlying22
  cases A0 with
  | none =>
    have h0 : l0 = [] := by
      cases l0 with
      | nil => rfl
      | cons x l => exact absurd (hr0.2.2 (by simp)) (by simp)
    subst h0
    have h1 := hrun none ([] : List Int).length c0
    have HN := Aside0.mk (Below.refl w.heap.size w)
    go_enter Tryz.func52, Tryz.ntmps52
    go_wp2
    go_ret
    exact ⟨_, rfl, Kd.R_nil _ _ _ _ _, HN.out⟩
  | some a0 =>
    have h1 := hrun (some a0) l0.length c0
    have HR0 := Aside0.mk hr0
    have HB := Aside0.mk (Below.refl w.heap.size w)
    clear hr0 hrun
    go_enter Tryz.func52, Tryz.ntmps52
    go_wp2_with (first | ((with_reducible refine gate_dst (N := 5) rfl ?_); refine Kd.R_lit (Kd.int .i64) _ 3 ?hg (N := 5) ?hd (xs := ([] : List Int)) (inner := []) (ok := fun _ => True) (okp := fun _ => True) ?hr ?hp (fun _ hk => hk) trivial (Below.refl _ _) (Nat.le_refl _) (by simp) ?_; (case hd => rfl); (case hg => rfl); (case hr => exact T3_); (case hp => exact (Reps.none _ _)); intro v102 w3 ho4 hb hg_ hnew_; clear hg_ hnew_ HB; have HO103 := Aside0.mk ho4; have HB := Aside0.mk hb; clear hb ho4) | ((with_reducible refine gate_builtin (b := .append) (xs := #[.tmp 5, .tmp 6]) rfl ?_); at_builtin; refine Kd.R_append_rows (Kd.int .i64) (w0 := w) w.heap.size rfl (.tmp 5) (.tmp 6) 22 3 (.int .i64 0) 8 rfl Tryz.underlying22 infoI rfl (by decide) (by omega) v102 [] l0 _ _ _ (fun _ => True) (fun _ => False) rfl rfl ?aO ?aR (fun _ _ h => h) (fun _ h => h.elim) ?aF ?aB ?aS ?aL ?_; (case aR => exact (Kd.C_below HR0.out HB.out)); (case aB => exact HB.out); (case aF => exact (fun _ _ => trivial)); (case aO => exact HO103.out); (case aS => exact (below_size HB.out)); (case aL => have := LMc2.out; simp; omega); intro v105 w5 ho hb hg hat; have HB2 := Aside0.mk hb; have HO106 := Aside0.mk ho; clear HB; clear HO103; clear ho hb hg hat))
    go_ret
    exact ⟨_, rfl, HO106.out, HB2.out⟩
end Go.Proofs.YtlglpffoijdgbaaGreatDoor.Ten
/- slices.Repeat of a row of one text: the walk. -/
namespace Go.Proofs.YtlglpffoijdgbaaGreatDoor.Ten
open Go Go.RowKit Go.Extern.Stop Go.Stop Go.Extern Go.Proofs.YtlglpffoijdgbaaGreatDoorW.PrintWords Go.Proofs.YtlglpffoijdgbaaGreatDoorW.PrintMore Go.Proofs.YtlglpffoijdgbaaGreatDoorW.PrintLast Go.Proofs.YtlglpffoijdgbaaGreatDoor.PC Go.Proofs.YtlglpffoijdgbaaGreatDoor.Th Go.Proofs.YtlglpffoijdgbaaGreatDoor.Th.Wh Go.Proofs.YtlglpffoijdgbaaGreatDoor.Err
set_option maxHeartbeats 4000000
set_option maxRecDepth 1000000
set_option linter.unusedVariables false
set_option linter.unusedSimpArgs false
theorem mul_one' : ∀ m : Nat, m < 65 → PU.bits_Mul.f 1 (m : Int) = some (0, (m : Int)) := by decide +kernel
/-- A row filled with k up to a place, and with empty texts behind it. -/
def fl (k : ByteArray) (p n : Nat) : List Value := List.replicate p (.string k) ++ List.replicate (n - p) (.string ⟨#[]⟩)
theorem fl_len (k : ByteArray) (p n : Nat) (h : p ≤ n) : (fl k p n).length = n := by simp [fl]; omega
theorem made_fl (k : ByteArray) (n : Nat) : madeCells (Value.string ⟨#[]⟩).cells (n * 1) = (fl k 0 n).toArray := by
  apply Array.ext
  · simp [size_madeCells, fl]
  · intro i h1 h2
    simp [madeCells, fl, Value.cells, Nat.mod_one]
theorem splice_fl (k : ByteArray) (p n q : Nat) (h : p + q ≤ n) : splice (fl k p n) p (List.replicate q (.string k)) = fl k (p + q) n := by
  have e1 : (List.replicate p (Value.string k) ++ List.replicate (n - p) (Value.string ⟨#[]⟩)).take p = List.replicate p (.string k) := List.take_left' (by simp)
  have e2 : (List.replicate p (Value.string k) ++ List.replicate (n - p) (Value.string ⟨#[]⟩)).drop (p + q) = List.replicate (n - (p + q)) (Value.string ⟨#[]⟩) := by
    rw [List.drop_append, List.drop_eq_nil_of_le (by simp), List.nil_append, List.drop_replicate, List.length_replicate]
    congr 1
    omega
  unfold splice fl
  rw [List.length_replicate, e1, e2, ← List.append_assoc, List.replicate_append_replicate]
theorem fl_get (k : ByteArray) (p n j : Nat) (h : j < p) : (fl k p n).toArray[j]? = some (.string k) := by
  simp [fl, List.getElem?_append, h]
theorem cell_fl {k : ByteArray} {p n g : Nat} {w : World} (h : w.heap[g]? = some (.cells (fl k p n).toArray 9 (0, 0))) (q : Nat) (hq : q ≤ p) (j : Nat) (v : Value) (hj : (List.replicate q (Value.string k))[j]? = some v) : w.cell? ((⟨g, 0, none⟩ : Addr).add j) = some v := by
  rw [add_plain, blk_cell h j]
  rw [List.getElem?_replicate] at hj
  split at hj
  · rw [fl_get k p n j (by omega)]; exact hj
  · cases hj
theorem row_fl (k : ByteArray) (n : Nat) (w : World) (base g : Nat) (hb : base ≤ g) (h : w.heap[g]? = some (.cells (fl k n n).toArray 9 (0, 0))) (hn : n ≤ 64) : Kd.string.R 9 w base (fun _ => True) (.slice (some ⟨g, 0, none⟩) n n) (List.replicate n k) := by
  refine ⟨fun _ _ => trivial, List.replicate n (.string k), ⟨by simp [Kd.string, Kd.scalar], Or.inr ⟨g, n, _, by simp, hb, h, by simp, by unfold maxLen; omega, ?_, ?_⟩⟩, ?_⟩
  · simp [fl, Kd.string, Kd.scalar]
  · simp [fl, Kd.string, Kd.scalar]
  · have := Kd.reps_scalar (enc := Value.string) (List.replicate n k)
    simpa [encs, Kd.string, Kd.scalar] using this
section
variable {P : Program} {ops : Array Oper} {rest : List Oper} {o : Oper} {a : Act} {Q : Exit → Act → World → Prop}
theorem mk_event {W : World} {n : Nat} {ob : Obj} (hgd : o.guard = none) (hrun : (execOp a.eval o).run P W = .ok (.value (.slice (some ⟨W.heap.size, 0, none⟩) n n)) (W.alloc ob))
    (h : ∀ g, g = W.heap.size → ∀ w1, w1.heap[g]? = some ob → Below W.heap.size W w1 → wpList P ops Q rest (a.put o.dst (.slice (some ⟨g, 0, none⟩) n n)) w1) : wpList P ops Q (o :: rest) a W :=
  Kd.event_run hgd hrun (h _ rfl _ (blk_new W _) (below_alloc (Below.refl _ _) _))
end
theorem repeat_calls (A : Option Addr) (c : Nat) (k : ByteArray) (n : Nat) (w : World) (hr : Kd.C Kd.string w A ([k] : List ByteArray).length [k]) (hc : ([k] : List ByteArray).length ≤ c) (h1 : 1 ≤ n) (hn : n ≤ 64) :
    Calls Tryz.prog 53 #[.slice A ([k] : List ByteArray).length c, .int .i64 (n : Int)] w fun e w' => ∃ v0_ : Value, e = .returned (v0_) ∧ Kd.R Kd.string 9 w' w.heap.size (fun _ => True) v0_ (List.replicate n k) ∧ Below w.heap.size w w' := by
  show Calls Tryz.prog 53 #[.slice A 1 c, .int .i64 (n : Int)] w _
  obtain ⟨ad, rfl, hx⟩ := Kd.at_string hr (0 : Int) (by omega) (by simp)
  have hx : w.cell? (ad.add 0) = some (.string k) := hx
  have HX := Aside0.mk hx
  have HB := Aside0.mk (Below.refl w.heap.size w)
  have KM := Aside0.mk (fun W => PU.bits_Mul.calls 1 (n : Int) 0 (n : Int) W (mul_one' n (by omega)))
  have hm : ∀ W : World, (Instr.makeSlice 23 (.int .i64 (n : Int)) (.int .i64 (n : Int))).run Tryz.prog W = .ok (.slice (some ⟨W.heap.size, 0, none⟩) n n) (W.alloc (.cells (fl k 0 n).toArray 9)) := by
    intro W
    obtain ⟨i0, hi, hzz⟩ := Option.map_eq_some_iff.1 infoS
    simp only [Prod.mk.injEq] at hzz
    have := run_make (P := Tryz.prog) W 23 9 i0 (.string ⟨#[]⟩) Tryz.underlying23 hi hzz.1 .i64 .i64 (n : Int) (n : Int) (by omega) (by omega) (by rw [hzz.2.2]; omega) (by omega)
    rw [hzz.2.1] at this
    simp only [Int.toNat_natCast, made_fl k n] at this
    exact this
  have hn0 : decide ((n : Int) < 0) = false := decide_eq_false (by omega)
  have hv : IntKind.u64.wrap (n : Int) = (n : Int) := by simp [IntKind.wrap, IntKind.bits, IntKind.signed]; omega
  have HM := Aside0.mk hm
  clear hr hc hx hm
  go_enter Tryz.func53, Tryz.ntmps53
  go_wp2_with (first
    | (go_at_call 75; with_reducible refine (KM.out _).mono ?_; rintro e w' ⟨rfl, hb⟩; replace HB := Aside0.mk (below_step HB.out hb.below); clear hb)
    | ((with_reducible refine gate_dst (N := 30) rfl ?_); refine mk_event (n := n) (ob := .cells (fl k 0 n).toArray 9) rfl ?hr ?_; (case hr => (have hm := HM.out; first | (simp [execOp, hm, Result.andThen]; done) | (go_simp; done))); intro g hg w30 hbk hb; have BK := Aside0.mk hbk; have GE := Aside0.mk ((by rw [hg]; exact (below_size T6_)) : w.heap.size ≤ g); replace HB := Aside0.mk (below_step T6_ hb); clear hb hbk hg)
    | ((with_reducible refine gate_builtin (b := .copy) (xs := #[.tmp 31, .tmp 32]) rfl ?_); refine wpList_copy_splice rfl (.tmp 31) (.tmp 32) 23 23 rfl 9 Tryz.underlying23 (by kernel_rfl) _ _ _ _ _ _ rfl rfl g 0 (fl k 0 n) 9 BK.out [.string k] ?hn ?hp ?hf ?h1 w.heap.size w HB.out GE.out ?_; (case hn => show (1 : Nat) = min 1 n; omega); (case hp => exact (fun _ => ⟨rfl, ad, rfl, fun j v hj => by cases j with
        | zero => (injection hj with hj; rw [← hj]; exact cell_below HB.out HX.out)
        | succ j => cases hj⟩)); (case hf => rw [fl_len _ _ _ (by omega)]; simp; omega); (case h1 => intro v hv; rw [List.mem_singleton] at hv; rw [hv]; rfl); intro w33 hg hb; have h2 := hg.out; rw [show ([.string k] : List Value) = List.replicate 1 (.string k) from rfl, splice_fl k 0 n 1 (by omega)] at h2; replace BK := Aside0.mk h2; replace HB := Aside0.mk hb; clear hb hg h2))
  go_loopg [8] n (fun gf v8 wx => ∃ p : Nat, v8 = .int .i64 p ∧ Aside0 (1 ≤ p ∧ p ≤ n ∧ n ≤ p + gf) ∧ Aside0 (wx.heap[g]? = some (.cells (fl k p n).toArray 9 (0, 0))) ∧ Aside0 (Below w.heap.size w wx))
  case atStart => exact ⟨1, rfl, ⟨by omega⟩, BK, HB⟩
  case round =>
    clear BK HB
    obtain ⟨p, rfl, HP, BK, HB⟩ := hrel
    obtain ⟨p1, p2, p3⟩ := HP.out
    by_cases hlt : p < n
    · obtain ⟨g', rfl⟩ : ∃ g', gk = g' + 1 := ⟨gk - 1, by omega⟩
      have hs1 : IntKind.i64.wrap ((p : Int) + ((min p (n - p) : Nat) : Int)) = ((p + min p (n - p) : Nat) : Int) := by
        simp [IntKind.wrap, IntKind.bits, IntKind.signed]; omega
      have HS := Aside0.mk hs1
      clear hs1
      have hpn : (p : Int) ≤ (n : Int) := by omega
      have hp0 : (0 : Int) ≤ (p : Int) := by omega
      have hnp : ¬ n = p := by omega
      go_wp2
      go_region_held3 (fun w' => Aside0 True) (exact ⟨trivial⟩) ((refine step_copy_splice rfl (.tmp 41) (.tmp 44) 23 23 rfl 9 Tryz.underlying23 (by kernel_rfl) _ _ _ _ _ _ rfl rfl g p (fl k p n) 9 (blk_drew BK.out) (List.replicate (min p (n - p)) (.string k)) ?hn ?hp ?hf ?h1 w.heap.size w (below_drew HB.out) GE.out ?_; (case hn => rw [List.length_replicate]; done); (case hp => exact (fun _ => ⟨rfl, ⟨g, 0, none⟩, rfl, cell_fl (blk_drew BK.out) _ (by omega)⟩)); (case hf => rw [fl_len _ _ _ (by omega), List.length_replicate]; omega); (case h1 => intro v hv; rw [List.eq_of_mem_replicate hv]; rfl); intro w4 hg4 hb4))
      have h5 := hg4.out
      rw [splice_fl k p n (min p (n - p)) (by omega)] at h5
      replace BK := Aside0.mk h5
      replace HB := Aside0.mk hb4
      clear hg4 hb4 h5
      go_wp2
      go_roundg g'
      case measure => omega
      case rel => exact ⟨p + min p (n - p), by rw [← HS.out], ⟨by omega⟩, BK, HB⟩
    · obtain rfl : p = n := by omega
      have hlb : decide ((p : Int) < (p : Int)) = false := decide_eq_false (by omega)
      go_wp2
      go_ret
      exact ⟨_, rfl, row_fl k p wr _ g GE.out BK.out hn, HB.out⟩
end Go.Proofs.YtlglpffoijdgbaaGreatDoor.Ten
/- tensor.each: a closure at all numbers of a tensor. -/
namespace Go.Proofs.YtlglpffoijdgbaaGreatDoor.Ten
open Go Go.RowKit Go.Extern.Stop Go.Stop Go.Extern Go.Proofs.YtlglpffoijdgbaaGreatDoorW.PrintWords Go.Proofs.YtlglpffoijdgbaaGreatDoorW.PrintMore Go.Proofs.YtlglpffoijdgbaaGreatDoorW.PrintLast Go.Proofs.YtlglpffoijdgbaaGreatDoor.PC Go.Proofs.YtlglpffoijdgbaaGreatDoor.Th Go.Proofs.YtlglpffoijdgbaaGreatDoor.Th.Wh Go.Proofs.YtlglpffoijdgbaaGreatDoor.Err
set_option maxHeartbeats 4000000
set_option maxRecDepth 1000000
theorem blk_grown {α : Type} {d : Kd α} {e base : Nat} {ok : Nat → Prop} {W w1 : World} {v : Value} {xs : List α} (hR : d.R e W base ok v xs) (hg : W.grownBy w1 v.ownBlock) {g t : Nat} {o : Array Value} (h : W.heap[g]? = some (.cells o t (0, 0))) (ht : t ≠ e) : w1.heap[g]? = some (.cells o t (0, 0)) := by
  refine (hg.block g (blk_lt h) (fun he => ?_)).trans h
  obtain ⟨inner, ho⟩ := Kd.R_own hR
  obtain ⟨cells, hc⟩ := own_typed ho g he.symm
  rw [h] at hc
  injection hc with hc
  injection hc with _ hc
  exact ht hc
theorem row_grown {α β : Type} {d : Kd α} {d' : Kd β} {e e' base : Nat} {ok ok' : Nat → Prop} {W w1 : World} {v v' : Value} {xs : List α} {ys : List β} (hR : d.R e W base ok v xs) (hg : W.grownBy w1 v.ownBlock) (h : d'.R e' W base ok' v' ys) (hE : d'.E = []) (ht : e' ≠ e) : d'.R e' w1 base ok' v' ys := by
  refine Kd.R_mono (Kd.R_step (Kd.R_bound h) (fun k hk hlt => ?_)) (fun _ hk => hk.1)
  obtain ⟨_, _, _, q, hq, cells, hc⟩ := hk
  rw [hE, List.mem_singleton] at hq
  subst hq
  exact (blk_grown hR hg hc ht).trans hc.symm
/-- A row of one's own stands beside a store into a block of another kind. -/
theorem row_set {α : Type} {d : Kd α} {e base : Nat} {ok : Nat → Prop} {W : World} {v : Value} {xs : List α} (h : d.R e W base ok v xs) (hE : d.E = []) {g t : Nat} {o : Array Value} (hg : W.heap[g]? = some (.cells o t (0, 0))) (ht : e ≠ t) (i : Nat) (u : Value) : d.R e (W.setCell ⟨g, i, none⟩ u) base ok v xs := by
  refine Kd.R_mono (Kd.R_step (Kd.R_bound h) (fun k hk hlt => ?_)) (fun _ hk => hk.1)
  obtain ⟨_, _, _, q, hq, cells, hc⟩ := hk
  rw [hE, List.mem_singleton] at hq
  subst hq
  refine Below.heap_setCell _ _ _ _ (fun he => ?_)
  rw [he, hg] at hc
  injection hc with hc
  injection hc with _ hc
  exact ht hc.symm
theorem range_snoc (o : Nat → ByteArray) (p : Nat) : (List.range p).map o ++ [o p] = (List.range (p + 1)).map o := by
  rw [List.range_succ, List.map_append]; rfl
theorem each_calls (N : Nat) (fn : Func) (hfn : Tryz.prog.funcs[N]? = some fn) (hnm : (fn.name == "runtime.NumGoroutine") = false) (hbd : fn.body.isSome = true) (cs : Array Value) (o : Nat → ByteArray) (A0 : Option Addr) (c0 : Nat) (A1 : Option Addr) (c1 : Nat) (t : TV) (w : World)
    (hr0 : Kd.C (Kd.int .i64) w A0 t.s.length t.s) (hr1 : Kd.C Kd.string w A1 t.d.length t.d) (hs : t.s.length ≤ 1000) (hl : t.d.length ≤ 1000)
    (hD : ∀ i : Nat, i < t.d.length → ∀ W, Below w.heap.size w W → Calls Tryz.prog N (#[.int .i64 (i : Int), .string (rdOf ByteArray.empty t.d (i : Int))] ++ cs) W fun e w' => e = .returned (.tuple #[.string (o i), .int .i64 0]) ∧ Below W.heap.size W w') :
    Calls Tryz.prog 37 #[.agg #[.slice A0 t.s.length c0, .slice A1 t.d.length c1], .func (.func N) #[] cs] w fun e w' => ∃ v0_ v1_ : Value, e = .returned (.tuple #[.agg #[v0_, v1_], .int .i64 0]) ∧ Kd.R (Kd.int .i64) 3 w' w.heap.size (fun _ => True) v0_ t.s ∧ Kd.R Kd.string 9 w' w.heap.size (fun _ => True) v1_ ((List.range t.d.length).map o) ∧ Below w.heap.size w w' := by
  have HR := Aside0.mk hr1
  have KD := Aside0.mk hD
  have KC := Aside0.mk (fun (W : World) (hb : Below w.heap.size w W) => cloneI_calls A0 c0 t.s W (Kd.C_below hr0 hb) (by omega))
  clear hr0 hr1 hD hs
  obtain ⟨s, d⟩ := t
  dsimp only at *
  have HB := Aside0.mk (Below.refl w.heap.size w)
  have eN := fun args w => enters_ hfn hnm hbd args w
  have HL := Aside0.mk hl
  clear hl
  obtain ⟨m, hm⟩ : ∃ m, d.length = m := ⟨_, rfl⟩
  rw [hm] at HR KD HL ⊢
  have HM := Aside0.mk hm
  clear hm
  generalize s.length = n at *
  go_enter Tryz.func37, Tryz.ntmps37
  go_wp2_with (first
    | ((with_reducible refine gate_dst (N := 2) rfl ?_); refine box_event ?hg (N := 2) ?hd (cs := #[.slice A0 n c0, .slice A1 m c1]) (t := 25) ?hr ?_; (case hd => rfl); (case hg => rfl); (case hr => exact T3_); intro g2 hg w2 hbox hb; have BK2 := Aside0.mk hbox; replace HB := Aside0.mk (below_step T6_ hb); clear hb hbox hg)
    | ((with_reducible refine gate_dst (N := 4) rfl ?_); refine box_event ?hg (N := 4) ?hd (cs := #[.slice none 0 0, .slice none 0 0]) (t := 25) ?hr ?_; (case hd => rfl); (case hg => rfl); (case hr => exact T3_); intro g4 hg w4 hbox hb; have BK4 := Aside0.mk hbox; have GE4 := Aside0.mk ((by rw [hg]; exact (below_size T6_)) : w.heap.size ≤ g4); have N24 := Aside0.mk ((by rw [hg]; exact Nat.ne_of_lt (blk_lt (g := g2) (o := .cells #[.slice A0 n c0, .slice A1 m c1] 25 (0, 0)) (B1_ BK2.out))) : g2 ≠ g4); replace BK2 := BF_ BK2 hb; replace HB := Aside0.mk (below_step T6_ hb); clear hb hbox hg; have hz0 : w4.cell? ⟨g2, 0, none⟩ = some (.slice A0 n c0) := (blk_cell BK2.out 0).trans rfl)
    | (go_at_call 52; with_reducible refine (KC.out _ HB.out).mono ?_; rintro e w5 ⟨v0, rfl, ho, hb⟩; obtain ⟨Av, cv, rfl⟩ := Kd.R_slice ho; have HO0 := Aside0.mk (Kd.R_lower ho (below_size HB.out)); replace BK2 := BF_ BK2 hb; replace BK4 := BF_ BK4 hb; replace HB := Aside0.mk (below_step HB.out hb); clear ho hb)
    | ((with_reducible refine gate_dst (N := 6) rfl ?_); refine box_event ?hg (N := 6) ?hd (cs := #[.slice none 0 0, .slice none 0 0]) (t := 25) ?hr ?_; (case hd => rfl); (case hg => rfl); (case hr => exact T3_); intro g6 hg w6 hbox hb; have BK6 := Aside0.mk hbox; have GE6 := Aside0.mk ((by rw [hg]; exact (below_size T6_)) : w.heap.size ≤ g6); have N26 := Aside0.mk ((by rw [hg]; exact Nat.ne_of_lt (blk_lt (g := g2) (o := .cells #[.slice A0 n c0, .slice A1 m c1] 25 (0, 0)) (B1_ BK2.out))) : g2 ≠ g6); have N46 := Aside0.mk ((by rw [hg]; exact Nat.ne_of_lt (blk_lt (g := g4) (o := .cells #[.slice none 0 0, .slice none 0 0] 25 (0, 0)) (B1_ BK4.out))) : g4 ≠ g6); replace BK2 := BF_ BK2 hb; replace BK4 := BF_ BK4 hb; have HX := Aside0.mk hb; replace HB := Aside0.mk (below_step T6_ hb); clear hb hbox hg; have hy0 : w6.cell? ⟨g6, 0, none⟩ = some (.slice none 0 0) := (blk_cell BK6.out 0).trans rfl; have hy1 : w6.cell? ⟨g6, 1, none⟩ = some (.slice none 0 0) := (blk_cell BK6.out 1).trans rfl; have hf0 := blk_frozen BK6.out 0; have hf1 := blk_frozen BK6.out 1; have hnb := N26.out; have hnc := Ne.symm N26.out; have hz1 : w6.cell? ⟨g2, 1, none⟩ = some (.slice A1 m c1) := (blk_cell BK2.out 1).trans rfl))
  go_loopg [18] m (fun gf v18 wx => ∃ (p : Nat) (Bv : Option Addr) (dv : Nat), v18 = .int .i64 p ∧ Aside0 (p + gf = m) ∧ Aside0 (wx.heap[g2]? = some (.cells #[.slice A0 n c0, .slice A1 m c1] 25 (0, 0))) ∧ Aside0 (wx.heap[g4]? = some (.cells #[.slice none 0 0, .slice none 0 0] 25 (0, 0))) ∧ Aside0 (wx.heap[g6]? = some (.cells #[.slice Av s.length cv, .slice Bv p dv] 25 (0, 0))) ∧ Aside0 ((Kd.int .i64).R 3 wx w.heap.size (fun _ => True) (.slice Av s.length cv) s) ∧ Aside0 (Kd.string.R 9 wx w.heap.size (fun _ => True) (.slice Bv p dv) ((List.range p).map o)) ∧ Aside0 (Below w.heap.size w wx))
  case atStart =>
    have B6 := blk_put BK6.out 0 (.slice Av s.length cv) rfl
    exact ⟨0, none, 0, rfl, ⟨by omega⟩, ⟨blk_far (blk_far BK2.out N26.out _) N26.out _⟩, ⟨blk_far (blk_far BK4.out N46.out _) N46.out _⟩, ⟨blk_put B6 1 _ rfl⟩, ⟨row_set (row_set (Kd.R_below HO0.out HX.out) rfl BK6.out (by decide) _ _) rfl B6 (by decide) _ _⟩, ⟨Kd.R_nil _ _ _ _ _⟩, ⟨below_set (below_set HB.out GE6.out) GE6.out⟩⟩
  case round =>
    clear BK2 BK4 BK6 HB HO0 hy0 hy1 hf0 hf1 hz0 hz1
    obtain ⟨p, Bv, dv, rfl, HP, BK2, BK4, BK6, HO0, HO1, HB⟩ := hrel
    by_cases hlt : p < m
    · obtain ⟨g', rfl⟩ : ∃ g', gk = g' + 1 := ⟨gk - 1, by have := HP.out; omega⟩
      obtain ⟨ad, e, hx⟩ := Kd.at_string HR.out (p : Int) (by omega) (by omega)
      cases e
      replace hx := (HB.out.cell (World.block_lt_of_cell? w _ hx)).trans hx
      have KP := Aside0.mk (KD.out p hlt)
      generalize rdOf ByteArray.empty d (p : Int) = x at *
      simp only [Int.toNat_natCast] at hx
      have hlb : decide ((p : Int) < (m : Int)) = true := decide_eq_true (by omega)
      have HLT := Aside0.mk hlt
      have hm1 := HL.out
      go_wp2_with (first
        | (go_at_fn N; with_reducible refine (KP.out _ HB.out).mono ?_; rintro e w7 ⟨rfl, hb⟩; replace BK2 := BF_ BK2 hb; replace BK4 := BF_ BK4 hb; replace BK6 := BF_ BK6 hb; replace HO0 := Aside0.mk (Kd.R_below HO0.out hb); replace HO1 := Aside0.mk (Kd.R_below HO1.out hb); replace HB := Aside0.mk (below_step HB.out hb); clear hb; have hc6 : w7.cell? ⟨g6, 1, none⟩ = some (.slice Bv p dv) := (blk_cell BK6.out 1).trans rfl)
        | ((with_reducible refine gate_builtin (b := .append) (xs := #[.tmp 35, .tmp 37]) rfl ?_); at_builtin; refine Kd.R_append Kd.string (w0 := w) w.heap.size rfl (.tmp 35) (.tmp 37) 23 9 (.string ⟨#[]⟩) 16 rfl Tryz.underlying23 infoS rfl (by decide) (by omega) _ ((List.range p).map o) (o p) [.string (o p)] (fun _ => True) (fun _ => False) rfl rfl rfl (fun _ h => h.elim) (fun _ _ => trivial) HO1.out HB.out (below_size HB.out) ?aL ?_; (case aL => have := HLT.out; have := HL.out; simp only [List.length_map, List.length_range]; omega); intro v9 w9 ho hb hg hat; rw [range_snoc] at ho; obtain ⟨Bw, dw, ev⟩ := Kd.R_slice ho; rw [List.length_map, List.length_range] at ev; subst ev; replace BK2 := Aside0.mk (blk_grown HO1.out hg BK2.out (by decide)); replace BK4 := Aside0.mk (blk_grown HO1.out hg BK4.out (by decide)); replace BK6 := Aside0.mk (blk_grown HO1.out hg BK6.out (by decide)); replace HO0 := Aside0.mk (row_grown HO1.out hg HO0.out rfl (by decide)); replace HO1 := Aside0.mk ho; replace HB := Aside0.mk hb; clear ho hb hg hat; have hc9 : w9.cell? ⟨g6, 1, none⟩ = some (.slice Bv p dv) := (blk_cell BK6.out 1).trans rfl; have hf9 := blk_frozen BK6.out 1))
      go_roundg g'
      case measure => omega
      case rel => exact ⟨p + 1, Bw, dw, by go_num, ⟨by have := HP.out; omega⟩, ⟨blk_far BK2.out N26.out _⟩, ⟨blk_far BK4.out N46.out _⟩, ⟨blk_put BK6.out 1 _ rfl⟩, ⟨row_set HO0.out rfl BK6.out (by decide) _ _⟩, ⟨row_set HO1.out rfl BK6.out (by decide) _ _⟩, ⟨below_set HB.out GE6.out⟩⟩
    · obtain rfl : p = m := by have := HP.out; omega
      have hlb : decide ((p : Int) < (p : Int)) = false := decide_eq_false (by omega)
      have hc0 : wr.cell? ⟨g6, 0, none⟩ = some (.slice Av s.length cv) := (blk_cell BK6.out 0).trans rfl
      have hc1 : wr.cell? ⟨g6, 1, none⟩ = some (.slice Bv p dv) := (blk_cell BK6.out 1).trans rfl
      have hd0 : wr.cell? ⟨g4, 0, none⟩ = some (.slice none 0 0) := (blk_cell BK4.out 0).trans rfl
      have hd1 : wr.cell? ⟨g4, 1, none⟩ = some (.slice none 0 0) := (blk_cell BK4.out 1).trans rfl
      have hf0 := blk_frozen BK4.out 0
      have hf1 := blk_frozen BK4.out 1
      go_wp2
      have B4 := blk_put BK4.out 0 (.slice Av s.length cv) rfl
      have B5 := blk_put B4 1 (.slice Bv p dv) rfl
      refine bodyPost_ret (results_ct rfl _ _ g4 25 #[.slice Av s.length cv, .slice Bv p dv] (0, 0) _ rfl B5 Tryz.underlying25 rfl (by kernel_rfl)) rfl ?_
      exact ⟨_, _, rfl, row_set (row_set HO0.out rfl BK4.out (by decide) _ _) rfl B4 (by decide) _ _, row_set (row_set HO1.out rfl BK4.out (by decide) _ _) rfl B4 (by decide) _ _, below_set (below_set HB.out GE4.out) GE4.out⟩
end Go.Proofs.YtlglpffoijdgbaaGreatDoor.Ten
/- Maps of functions: what is put in, what is looked up; tensor.Zip's closure. -/
namespace Go.Proofs.YtlglpffoijdgbaaGreatDoor.Ten
open Go Go.RowKit Go.Extern.Stop Go.Stop Go.Extern Go.Proofs.YtlglpffoijdgbaaGreatDoorW.PrintWords Go.Proofs.YtlglpffoijdgbaaGreatDoorW.PrintMore Go.Proofs.YtlglpffoijdgbaaGreatDoorW.PrintLast Go.Proofs.YtlglpffoijdgbaaGreatDoor.PC Go.Proofs.YtlglpffoijdgbaaGreatDoor.Th Go.Proofs.YtlglpffoijdgbaaGreatDoor.Th.Wh Go.Proofs.YtlglpffoijdgbaaGreatDoor.Err
set_option maxHeartbeats 4000000
set_option maxRecDepth 1000000
set_option linter.unusedVariables false
section
variable {P : Program} {ops : Array Oper} {rest : List Oper} {o : Oper} {a : Act} {Q : Exit → Act → World → Prop}
theorem gate_insert {W : World} {t : TypeId} {m x v : Operand} (_ho : o.op = .insert t m x v) (h : wpList P ops Q (o :: rest) a W) : wpList P ops Q (o :: rest) a W := h
theorem map_event {W : World} (hgd : o.guard = none) {N : Tmp} (_hd : o.dst = some N) (t : TypeId) (ho : o.op = .makeMap t none)
    (h : ∀ b, b = W.heap.size → ∀ w1, w1.heap[b]? = some (.map #[] 0) → Below W.heap.size W w1 → wpList P ops Q rest (a.put o.dst (.map (some b))) w1) : wpList P ops Q (o :: rest) a W :=
  Kd.event_run hgd (by simp [execOp, ho, run_makeMap, Result.andThen]) (h _ rfl _ (blk_new W _) (below_alloc (Below.refl _ _) _))
theorem ins_event {W : World} (hgd : o.guard = none) {t k e : TypeId} {m x v : Operand} (ho : o.op = .insert t m x v) (ht : P.underlying t = some (.map k e)) (hk : P.underlying k = some .string)
    (b : Nat) (es : Array MapEntry) (clock : Nat) (key : ByteArray) (val : Value) (hm : a.eval m = .map (some b)) (hx : a.eval x = .string key) (hv : a.eval v = val) (hb : W.heap[b]? = some (.map es clock)) (hno : Instr.findNow .string (.string key) es.toList 0 = some none)
    (h : ∀ w1, w1.heap[b]? = some (.map (es.push ⟨.string key, val, clock⟩) (clock + 1)) → W.grownBy w1 (some b) → wpList P ops Q rest (a.put o.dst undef) w1) : wpList P ops Q (o :: rest) a W := by
  refine wpList_plain hgd fun K hK => ?_
  have hs := MapKept.heap_set (o' := .map (es.push ⟨.string key, val, clock⟩) (clock + 1)) hb
  have hrun : (Instr.mapUpdate t (.map (some b)) (.string key) val).run P W = .ok () { W with heap := W.heap.setIfInBounds b (.map (es.push ⟨.string key, val, clock⟩) (clock + 1)) } := by
    have h2 := MapKept.run_findKey (w := W) hk hno
    simp [Instr.mapUpdate, run_underlying ht, Result.andThen, MapKept.run_getObj_map hb, MapKept.run_checkKey hk (show MapKept.IsKey .string (.string key) from trivial), h2, MapKept.run_setObj_map _ hb]
  unfold Oper.wp
  simp [execOp, ho, hm, hx, hv, hrun, Result.andThen]
  have h3 := hK _ _ (h { W with heap := W.heap.setIfInBounds b (.map (es.push ⟨.string key, val, clock⟩) (clock + 1)) } hs.1 ⟨rfl, rfl, rfl, by simp, fun i _ hi => hs.2 i (fun e => hi (by rw [e]))⟩)
  exact h3
theorem look_yes {W : World} (hgd : o.guard = none) {t k e : TypeId} {m x : Operand} (ho : o.op = .lookup t m x true) (ht : P.underlying t = some (.map k e)) (hk : P.underlying k = some .string)
    (b : Nat) (es : Array MapEntry) (clock : Nat) (key : ByteArray) (hm : a.eval m = .map (some b)) (hx : a.eval x = .string key) (hb : W.heap[b]? = some (.map es clock)) (i : Nat) (v : Value) (hf : Instr.findNow .string (.string key) es.toList 0 = some (some (i, v)))
    (h : wpList P ops Q rest (a.put o.dst (.tuple #[v, .bool true])) W) : wpList P ops Q (o :: rest) a W := by
  refine wpList_plain hgd fun K hK => ?_
  have h2 := MapKept.run_findKey (w := W) hk hf
  have hrun : (Instr.lookup t (.map (some b)) (.string key) true).run P W = .ok (.tuple #[v, .bool true]) W := by
    simp [Instr.lookup, run_underlying ht, Result.andThen, MapKept.run_getObj_map hb, MapKept.run_checkKey hk (show MapKept.IsKey .string (.string key) from trivial), h2]
  unfold Oper.wp
  simp [execOp, ho, hm, hx, hrun, Result.andThen]
  exact hK _ _ h
theorem look_no {W : World} (hgd : o.guard = none) {t k e : TypeId} {m x : Operand} (ho : o.op = .lookup t m x true) (ht : P.underlying t = some (.map k e)) (hk : P.underlying k = some .string) (hz : ∀ w, (zeroValue e).run P w = .ok .nilFunc w)
    (b : Nat) (es : Array MapEntry) (clock : Nat) (key : ByteArray) (hm : a.eval m = .map (some b)) (hx : a.eval x = .string key) (hb : W.heap[b]? = some (.map es clock)) (hf : Instr.findNow .string (.string key) es.toList 0 = some none)
    (h : wpList P ops Q rest (a.put o.dst (.tuple #[.nilFunc, .bool false])) W) : wpList P ops Q (o :: rest) a W := by
  refine wpList_plain hgd fun K hK => ?_
  have h2 := MapKept.run_findKey (w := W) hk hf
  have hrun : (Instr.lookup t (.map (some b)) (.string key) true).run P W = .ok (.tuple #[.nilFunc, .bool false]) W := by
    simp [Instr.lookup, run_underlying ht, Result.andThen, MapKept.run_getObj_map hb, MapKept.run_checkKey hk (show MapKept.IsKey .string (.string key) from trivial), h2, hz]
  unfold Oper.wp
  simp [execOp, ho, hm, hx, hrun, Result.andThen]
  exact hK _ _ h
end
theorem blk_map {W w1 : World} {g b : Nat} {o : Array Value} {ty : TypeId} {es : Array MapEntry} {clock : Nat} (h : W.heap[g]? = some (.cells o ty (0, 0))) (hm : W.heap[b]? = some (.map es clock)) (hg : W.grownBy w1 (some b)) : w1.heap[g]? = some (.cells o ty (0, 0)) := by
  refine (hg.block g (blk_lt h) (fun he => ?_)).trans h
  injection he with he
  rw [he, hm] at h
  cases h
theorem held_z {W w : World} {g8 g5 i : Nat} {ad : Addr} {fv y s2 : Value} (h8 : w.cell? ⟨g8, 0, none⟩ = some fv) (h5 : w.cell? ⟨g5, 1, none⟩ = some s2) (hy : w.cell? (ad.add i) = some y) (hb : Below W.heap.size W w) :
    w.cell? ⟨g8, 0, none⟩ = some fv ∧ w.cell? ⟨g5, 1, none⟩ = some s2 ∧ w.cell? (ad.add i) = some y ∧ Aside0 (Below W.heap.size W w) := ⟨h8, h5, hy, ⟨hb⟩⟩
theorem zip1_calls (N : Nat) (fn : Func) (hfn : Tryz.prog.funcs[N]? = some fn) (hnm : (fn.name == "runtime.NumGoroutine") = false) (hbd : fn.body.isSome = true) (i n c g8 g5 : Nat) (ad : Addr) (x y : ByteArray) (r : ByteArray) (e0 : Int) (w : World)
    (h8 : w.cell? ⟨g8, 0, none⟩ = some (.func (.func N) #[] #[])) (h5 : w.cell? ⟨g5, 1, none⟩ = some (.slice (some ad) n c)) (hy : w.cell? (ad.add i) = some (.string y)) (hi : i < n) (hn : n ≤ 1000)
    (hF : ∀ W, Below w.heap.size w W → Calls Tryz.prog N #[.string x, .string y] W fun e w' => e = .returned (.tuple #[.string r, .int .i64 e0]) ∧ Below W.heap.size W w') :
    Calls Tryz.prog 38 #[.int .i64 (i : Int), .string x, .pointer (some ⟨g8, 0, none⟩), .pointer (some ⟨g5, 0, none⟩)] w fun e w' => e = .returned (.tuple #[.string r, .int .i64 e0]) ∧ Below w.heap.size w w' := by
  have KF := Aside0.mk hF
  clear hF
  have HB := Aside0.mk (Below.refl w.heap.size w)
  have H8 := Aside0.mk h8
  have H5 := Aside0.mk h5
  have HY := Aside0.mk hy
  have eN := fun args w => enters_ hfn hnm hbd args w
  go_enter Tryz.func38, Tryz.ntmps38
  go_wp2
  go_region_held3 (fun w' => w'.cell? ⟨g8, 0, none⟩ = some (.func (.func N) #[] #[]) ∧ w'.cell? ⟨g5, 1, none⟩ = some (.slice (some ad) n c) ∧ w'.cell? (ad.add i) = some (.string y) ∧ Aside0 (Below w.heap.size w w')) (first | exact held_z H8.out H5.out HY.out (below_drew HB.out) | (obtain ⟨s8, s5, sy, sb⟩ := ‹_ ∧ _›; exact held_z (cell_below hb s8) (cell_below hb s5) (cell_below hb sy) (below_step sb.out hb)) | trace_state)
    ((go_at_fn N; with_reducible refine (KF.out _ (by obtain ⟨_, _, _, sb⟩ := ‹_ ∧ _›; exact sb.out)).mono ?_; rintro e w' ⟨rfl, hb⟩))
  rename_i hh
  obtain ⟨_, _, _, HB⟩ := hh
  go_wp2
  go_ret2
  exact ⟨rfl, HB.out⟩
end Go.Proofs.YtlglpffoijdgbaaGreatDoor.Ten
