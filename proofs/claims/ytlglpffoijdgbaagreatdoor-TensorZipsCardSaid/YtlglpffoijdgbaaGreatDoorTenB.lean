/- Tensors: slices.Clone, Repeat, IndexFunc and ContainsFunc as the tensors' functions call them. -/
import Derived.Test.YtlglpffoijdgbaaGreatDoorTenA
import Derived.Laws.CopyOwn
namespace Go.Proofs.YtlglpffoijdgbaaGreatDoor.Ten
open Go Go.RowKit Go.Extern.Stop Go.Stop Go.Extern Go.ZPWords Go.ZPMore Go.ZPLast Go.Proofs.YtlglpffoijdgbaaGreatDoor.PC Go.Proofs.YtlglpffoijdgbaaGreatDoor.Th Go.Proofs.YtlglpffoijdgbaaGreatDoor.Th.Wh Go.Proofs.YtlglpffoijdgbaaGreatDoor.Err
set_option maxHeartbeats 4000000
set_option maxRecDepth 1000000
theorem infoI : (Tryz.prog.info? 3).map (fun i => (i.zero, i.size, i.bytes)) = some (some (.int .i64 0), 1, 8) := by kernel_rfl
theorem infoS : (Tryz.prog.info? 9).map (fun i => (i.zero, i.size, i.bytes)) = some (some (.string ⟨#[]⟩), 1, 16) := by kernel_rfl
theorem cloneI_calls (A0 : Option Addr) (c0 : Nat) (l0 : List Int) (w : World) (hr0 : Kd.C (Kd.int .i64) w A0 l0.length l0) (c2 : l0.length ≤ 1000000) :
    Calls Tryz.prog 52 #[.slice A0 l0.length c0] w fun e w' => ∃ v0_ : Value, e = .returned (v0_) ∧ Kd.R (Kd.int .i64) 3 w' w.heap.size (fun _ => True) v0_ l0 ∧ Below w.heap.size w w' := by
  have LMc2 := A_ c2
  clear c2
  have hrun : ∀ (a : Option Addr) (n c : Nat) (w : World), (binOp .eql 22 (.slice a n c) (.slice none 0 0)).run Tryz.prog w = .ok (.bool a.isNone) w := fun a n c w => Lib.run_eql_slice_nil w 22 3 a n c 0 0 Tryz.underlying22
  cases A0 with
  | none =>
    have h0 : l0 = [] := by
      cases l0 with
      | nil => rfl
      | cons x l => exact absurd (hr0.2.2 (by simp)) (by simp)
    subst h0
    have h1 := hrun none ([] : List Int).length c0
    have HN := A_ (Below.refl w.heap.size w)
    go_enter Tryz.func52, Tryz.ntmps52
    go_wp2
    go_ret
    exact ⟨_, rfl, Kd.R_nil _ _ _ _ _, HN.out⟩
  | some a0 =>
    have h1 := hrun (some a0) l0.length c0
    have HR0 := A_ hr0
    have HB := A_ (Below.refl w.heap.size w)
    clear hr0 hrun
    go_enter Tryz.func52, Tryz.ntmps52
    go_wp2_with (first | ((with_reducible refine gate_dst (N := 5) rfl ?_); refine Kd.R_lit (Kd.int .i64) _ 3 ?hg (N := 5) ?hd (xs := ([] : List Int)) (inner := []) (ok := fun _ => True) (okp := fun _ => True) ?hr ?hp (fun _ hk => hk) trivial (Below.refl _ _) (Nat.le_refl _) (by simp) ?_; (case hd => rfl); (case hg => rfl); (case hr => exact T3_); (case hp => exact (Reps.none _ _)); intro v102 w3 ho4 hb hg_ hnew_; clear hg_ hnew_ HB; have HO103 := A_ ho4; have HB := A_ hb; clear hb ho4) | ((with_reducible refine gate_builtin (b := .append) (xs := #[.tmp 5, .tmp 6]) rfl ?_); at_builtin; refine Kd.R_append_rows (Kd.int .i64) (w0 := w) w.heap.size rfl (.tmp 5) (.tmp 6) 22 3 (.int .i64 0) 8 rfl Tryz.underlying22 infoI rfl (by decide) (by omega) v102 [] l0 _ _ _ (fun _ => True) (fun _ => False) rfl rfl ?aO ?aR (fun _ _ h => h) (fun _ h => h.elim) ?aF ?aB ?aS ?aL ?_; (case aR => exact (Kd.C_below HR0.out HB.out)); (case aB => exact HB.out); (case aF => exact (fun _ _ => trivial)); (case aO => exact HO103.out); (case aS => exact (below_size HB.out)); (case aL => have := LMc2.out; simp; omega); intro v105 w5 ho hb hg hat; have HB2 := A_ hb; have HO106 := A_ ho; clear HB; clear HO103; clear ho hb hg hat))
    go_ret
    exact ⟨_, rfl, HO106.out, HB2.out⟩
end Go.Proofs.YtlglpffoijdgbaaGreatDoor.Ten
/- tensor.each: a closure at all numbers of a tensor. -/
namespace Go.Proofs.YtlglpffoijdgbaaGreatDoor.Ten
open Go Go.RowKit Go.Extern.Stop Go.Stop Go.Extern Go.ZPWords Go.ZPMore Go.ZPLast Go.Proofs.YtlglpffoijdgbaaGreatDoor.PC Go.Proofs.YtlglpffoijdgbaaGreatDoor.Th Go.Proofs.YtlglpffoijdgbaaGreatDoor.Th.Wh Go.Proofs.YtlglpffoijdgbaaGreatDoor.Err
set_option maxHeartbeats 4000000
set_option maxRecDepth 1000000
theorem blk_grown {α : Type} {d : Kd α} {e base : Nat} {ok : Nat → Prop} {W w1 : World} {v : Value} {xs : List α} (hR : d.R e W base ok v xs) (hg : W.grownBy w1 v.ownBlock) {g t : Nat} {o : Array Value} (h : W.heap[g]? = some (.cells o t (0, 0))) (ht : t ≠ e) : w1.heap[g]? = some (.cells o t (0, 0)) := by
  refine (hg.block g (blk_lt h) (fun he => ?_)).trans h
  obtain ⟨inner, ho⟩ := Kd.R_own hR
  obtain ⟨cells, hc⟩ := own_typed ho g he.symm
  rw [h] at hc
  injection hc with hc
  injection hc with _ hc
  exact ht hc
theorem row_grown {α β : Type} {d : Kd α} {d' : Kd β} {e e' base : Nat} {ok ok' : Nat → Prop} {W w1 : World} {v v' : Value} {xs : List α} {ys : List β} (hR : d.R e W base ok v xs) (hg : W.grownBy w1 v.ownBlock) (h : d'.R e' W base ok' v' ys) (hE : d'.E = []) (ht : e' ≠ e) : d'.R e' w1 base ok' v' ys := by
  refine Kd.R_mono (Kd.R_step (Kd.R_bound h) (fun k hk hlt => ?_)) (fun _ hk => hk.1)
  obtain ⟨_, _, _, q, hq, cells, hc⟩ := hk
  rw [hE, List.mem_singleton] at hq
  subst hq
  exact (blk_grown hR hg hc ht).trans hc.symm
/-- A row of one's own stands beside a store into a block of another kind. -/
theorem row_set {α : Type} {d : Kd α} {e base : Nat} {ok : Nat → Prop} {W : World} {v : Value} {xs : List α} (h : d.R e W base ok v xs) (hE : d.E = []) {g t : Nat} {o : Array Value} (hg : W.heap[g]? = some (.cells o t (0, 0))) (ht : e ≠ t) (i : Nat) (u : Value) : d.R e (W.setCell ⟨g, i, none⟩ u) base ok v xs := by
  refine Kd.R_mono (Kd.R_step (Kd.R_bound h) (fun k hk hlt => ?_)) (fun _ hk => hk.1)
  obtain ⟨_, _, _, q, hq, cells, hc⟩ := hk
  rw [hE, List.mem_singleton] at hq
  subst hq
  refine Below.heap_setCell _ _ _ _ (fun he => ?_)
  rw [he, hg] at hc
  injection hc with hc
  injection hc with _ hc
  exact ht hc.symm
theorem range_snoc (o : Nat → ByteArray) (p : Nat) : (List.range p).map o ++ [o p] = (List.range (p + 1)).map o := by
  rw [List.range_succ, List.map_append]; rfl
theorem each_calls (N : Nat) (fn : Func) (hfn : Tryz.prog.funcs[N]? = some fn) (hnm : (fn.name == "runtime.NumGoroutine") = false) (hbd : fn.body.isSome = true) (cs : Array Value) (o : Nat → ByteArray) (A0 : Option Addr) (c0 : Nat) (A1 : Option Addr) (c1 : Nat) (t : TV) (w : World)
    (hr0 : Kd.C (Kd.int .i64) w A0 t.s.length t.s) (hr1 : Kd.C Kd.string w A1 t.d.length t.d) (hs : t.s.length ≤ 1000) (hl : t.d.length ≤ 1000)
    (hD : ∀ i : Nat, i < t.d.length → ∀ W, Below w.heap.size w W → Calls Tryz.prog N (#[.int .i64 (i : Int), .string (rdOf ByteArray.empty t.d (i : Int))] ++ cs) W fun e w' => e = .returned (.tuple #[.string (o i), .int .i64 0]) ∧ Below W.heap.size W w') :
    Calls Tryz.prog 37 #[.agg #[.slice A0 t.s.length c0, .slice A1 t.d.length c1], .func (.func N) #[] cs] w fun e w' => ∃ v0_ v1_ : Value, e = .returned (.tuple #[.agg #[v0_, v1_], .int .i64 0]) ∧ Kd.R (Kd.int .i64) 3 w' w.heap.size (fun _ => True) v0_ t.s ∧ Kd.R Kd.string 9 w' w.heap.size (fun _ => True) v1_ ((List.range t.d.length).map o) ∧ Below w.heap.size w w' := by
  have HR := A_ hr1
  have KD := A_ hD
  have KC := A_ (fun (W : World) (hb : Below w.heap.size w W) => cloneI_calls A0 c0 t.s W (Kd.C_below hr0 hb) (by omega))
  clear hr0 hr1 hD hs
  obtain ⟨s, d⟩ := t
  dsimp only at *
  have HB := A_ (Below.refl w.heap.size w)
  have eN := fun args w => enters_ hfn hnm hbd args w
  have HL := A_ hl
  clear hl
  obtain ⟨m, hm⟩ : ∃ m, d.length = m := ⟨_, rfl⟩
  rw [hm] at HR KD HL ⊢
  have HM := A_ hm
  clear hm
  generalize s.length = n at *
  go_enter Tryz.func37, Tryz.ntmps37
  go_wp2_with (first
    | (refine BX_ 2 #[.slice A0 n c0, .slice A1 m c1] 25 ?_; intro g2 hg w2 hbox hb; have BK2 := A_ hbox; replace HB := BT_ hb; clear hb hbox hg)
    | (refine BX_ 4 #[.slice none 0 0, .slice none 0 0] 25 ?_; intro g4 hg w4 hbox hb; have BK4 := A_ hbox; have GE4 := GE_ (w := w) hg; have N24 := A_ ((by rw [hg]; exact Nat.ne_of_lt (blk_lt (g := g2) (o := .cells #[.slice A0 n c0, .slice A1 m c1] 25 (0, 0)) (B1_ BK2.out))) : g2 ≠ g4); replace BK2 := BF_ BK2 hb; replace HB := BT_ hb; clear hb hbox hg; have hz0 := CA_ BK2)
    | (go_at_call 52; with_reducible refine (KC.out _ HB.out).mono ?_; rintro e w5 ⟨v0, rfl, ho, hb⟩; obtain ⟨Av, cv, rfl⟩ := Kd.R_slice ho; have HO0 := A_ (Kd.R_lower ho (below_size HB.out)); replace BK2 := BF_ BK2 hb; replace BK4 := BF_ BK4 hb; replace HB := A_ (below_step HB.out hb); clear ho hb)
    | (refine BX_ 6 #[.slice none 0 0, .slice none 0 0] 25 ?_; intro g6 hg w6 hbox hb; have BK6 := A_ hbox; have GE6 := GE_ (w := w) hg; have N26 := A_ ((by rw [hg]; exact Nat.ne_of_lt (blk_lt (g := g2) (o := .cells #[.slice A0 n c0, .slice A1 m c1] 25 (0, 0)) (B1_ BK2.out))) : g2 ≠ g6); have N46 := A_ ((by rw [hg]; exact Nat.ne_of_lt (blk_lt (g := g4) (o := .cells #[.slice none 0 0, .slice none 0 0] 25 (0, 0)) (B1_ BK4.out))) : g4 ≠ g6); replace BK2 := BF_ BK2 hb; replace BK4 := BF_ BK4 hb; have HX := A_ hb; replace HB := BT_ hb; clear hb hbox hg; have hy0 := CA_ BK6; have hy1 := CB_ BK6; have hf0 := blk_frozen BK6.out 0; have hf1 := blk_frozen BK6.out 1; have hnb := N26.out; have hnc := Ne.symm N26.out; have hz1 := CB_ BK2))
  go_loopg [18] m (fun gf v18 wx => ∃ (p : Nat) (Bv : Option Addr) (dv : Nat), v18 = .int .i64 p ∧ Aside0 (p + gf = m) ∧ Aside0 (wx.heap[g2]? = some (.cells #[.slice A0 n c0, .slice A1 m c1] 25 (0, 0))) ∧ Aside0 (wx.heap[g4]? = some (.cells #[.slice none 0 0, .slice none 0 0] 25 (0, 0))) ∧ Aside0 (wx.heap[g6]? = some (.cells #[.slice Av s.length cv, .slice Bv p dv] 25 (0, 0))) ∧ Aside0 ((Kd.int .i64).R 3 wx w.heap.size (fun _ => True) (.slice Av s.length cv) s) ∧ Aside0 (Kd.string.R 9 wx w.heap.size (fun _ => True) (.slice Bv p dv) ((List.range p).map o)) ∧ Aside0 (Below w.heap.size w wx))
  case atStart =>
    have B6 := blk_put BK6.out 0 (.slice Av s.length cv) rfl
    exact ⟨0, none, 0, rfl, ⟨by omega⟩, ⟨blk_far (blk_far BK2.out N26.out _) N26.out _⟩, ⟨blk_far (blk_far BK4.out N46.out _) N46.out _⟩, ⟨blk_put B6 1 _ rfl⟩, ⟨row_set (row_set (Kd.R_below HO0.out HX.out) rfl BK6.out (by decide) _ _) rfl B6 (by decide) _ _⟩, ⟨Kd.R_nil _ _ _ _ _⟩, ⟨below_set (below_set HB.out GE6.out) GE6.out⟩⟩
  case round =>
    clear BK2 BK4 BK6 HB HO0 hy0 hy1 hf0 hf1 hz0 hz1
    obtain ⟨p, Bv, dv, rfl, HP, BK2, BK4, BK6, HO0, HO1, HB⟩ := hrel
    by_cases hlt : p < m
    · obtain ⟨g', rfl⟩ : ∃ g', gk = g' + 1 := ⟨gk - 1, by have := HP.out; omega⟩
      obtain ⟨ad, e, hx⟩ := Kd.at_string HR.out (p : Int) (by omega) (by omega)
      cases e
      replace hx := (HB.out.cell (World.block_lt_of_cell? w _ hx)).trans hx
      have KP := A_ (KD.out p hlt)
      generalize rdOf ByteArray.empty d (p : Int) = x at *
      simp only [Int.toNat_natCast] at hx
      have hlb : decide ((p : Int) < (m : Int)) = true := decide_eq_true (by omega)
      have HLT := A_ hlt
      have hm1 := HL.out
      go_wp2_with (first
        | (go_at_fn N; with_reducible refine (KP.out _ HB.out).mono ?_; rintro e w7 ⟨rfl, hb⟩; replace BK2 := BF_ BK2 hb; replace BK4 := BF_ BK4 hb; replace BK6 := BF_ BK6 hb; replace HO0 := A_ (Kd.R_below HO0.out hb); replace HO1 := A_ (Kd.R_below HO1.out hb); replace HB := A_ (below_step HB.out hb); clear hb; have hc6 := CB_ BK6)
        | ((with_reducible refine gate_builtin (b := .append) (xs := #[.tmp 35, .tmp 37]) rfl ?_); at_builtin; refine Kd.R_append Kd.string (w0 := w) w.heap.size rfl (.tmp 35) (.tmp 37) 23 9 (.string ⟨#[]⟩) 16 rfl Tryz.underlying23 infoS rfl (by decide) (by omega) _ ((List.range p).map o) (o p) [.string (o p)] (fun _ => True) (fun _ => False) rfl rfl rfl (fun _ h => h.elim) (fun _ _ => trivial) HO1.out HB.out (below_size HB.out) ?aL ?_; (case aL => have := HLT.out; have := HL.out; simp only [List.length_map, List.length_range]; omega); intro v9 w9 ho hb hg hat; rw [range_snoc] at ho; obtain ⟨Bw, dw, ev⟩ := Kd.R_slice ho; rw [List.length_map, List.length_range] at ev; subst ev; replace BK2 := A_ (blk_grown HO1.out hg BK2.out (by decide)); replace BK4 := A_ (blk_grown HO1.out hg BK4.out (by decide)); replace BK6 := A_ (blk_grown HO1.out hg BK6.out (by decide)); replace HO0 := A_ (row_grown HO1.out hg HO0.out rfl (by decide)); replace HO1 := A_ ho; replace HB := A_ hb; clear ho hb hg hat; have hc9 : w9.cell? ⟨g6, 1, none⟩ = some (.slice Bv p dv) := (blk_cell BK6.out 1).trans rfl; have hf9 := blk_frozen BK6.out 1))
      go_roundg g'
      case measure => omega
      case rel => exact ⟨p + 1, Bw, dw, by go_num, ⟨by have := HP.out; omega⟩, ⟨blk_far BK2.out N26.out _⟩, ⟨blk_far BK4.out N46.out _⟩, ⟨blk_put BK6.out 1 _ rfl⟩, ⟨row_set HO0.out rfl BK6.out (by decide) _ _⟩, ⟨row_set HO1.out rfl BK6.out (by decide) _ _⟩, ⟨below_set HB.out GE6.out⟩⟩
    · obtain rfl : p = m := by have := HP.out; omega
      have hlb : decide ((p : Int) < (p : Int)) = false := decide_eq_false (by omega)
      have hc0 : wr.cell? ⟨g6, 0, none⟩ = some (.slice Av s.length cv) := (blk_cell BK6.out 0).trans rfl
      have hc1 : wr.cell? ⟨g6, 1, none⟩ = some (.slice Bv p dv) := (blk_cell BK6.out 1).trans rfl
      have hd0 : wr.cell? ⟨g4, 0, none⟩ = some (.slice none 0 0) := (blk_cell BK4.out 0).trans rfl
      have hd1 : wr.cell? ⟨g4, 1, none⟩ = some (.slice none 0 0) := (blk_cell BK4.out 1).trans rfl
      have hf0 := blk_frozen BK4.out 0
      have hf1 := blk_frozen BK4.out 1
      go_wp2
      have B4 := blk_put BK4.out 0 (.slice Av s.length cv) rfl
      have B5 := blk_put B4 1 (.slice Bv p dv) rfl
      refine bodyPost_ret (results_ct rfl _ _ g4 25 #[.slice Av s.length cv, .slice Bv p dv] (0, 0) _ rfl B5 Tryz.underlying25 rfl (by kernel_rfl)) rfl ?_
      exact ⟨_, _, rfl, row_set (row_set HO0.out rfl BK4.out (by decide) _ _) rfl B4 (by decide) _ _, row_set (row_set HO1.out rfl BK4.out (by decide) _ _) rfl B4 (by decide) _ _, below_set (below_set HB.out GE4.out) GE4.out⟩
end Go.Proofs.YtlglpffoijdgbaaGreatDoor.Ten
