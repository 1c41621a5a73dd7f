-- by wip/tool/mine.py of this repo (the kit's printer with given contracts)
import Derived.Test.YtndkjpkgllmbnaaGreatDoorRatMc
import Derived.Test.YtndkjpkgllmbnaaGreatDoorTenB
import Derived.Test.YtndkjpkgllmbnaaGreatDoorTenT
namespace Go.Proofs.YtndkjpkgllmbnaaGreatDoor.PJ
open Go.RowKit Go.ZPWords Go.ZPLast Go.ZPMore
attribute [local go_sem] max2_int min2_int max_two min_two max_three min_three max_four min_four   -- for this text's walks alone
set_option linter.unusedVariables false
set_option linter.unusedSimpArgs false
set_option maxHeartbeats 8000000
set_option maxRecDepth 100000
def errW : Option Int → Value
 | none => .nilIface
 | some c => .iface 0 (.int .i64 c)
theorem errW_none : errW none = .nilIface := rfl
theorem errW_some (c : Int) : errW (some c) = .iface 0 (.int .i64 c) := rfl
theorem info9 : (Tryz.prog.info? 9).map (fun i => (i.zero, i.size, i.bytes)) = some (some (.string ⟨#[]⟩), 1, 16) := by kernel_rfl
/-! ### what the third argument answers -/
theorem goesV_ {P : Program} {ops : Array Oper} {Q : Exit → Act → World → Prop} {oi : Oper} {N : Option Tmp} {a : Act} {w : World} {K : Act → World → Prop} {f : FuncId} {fn : Func} {x : Operand} {xs : Array Operand} {ts : Array TypeId} (hf : P.funcs[f]? = some fn) (hname : (fn.name == "runtime.NumGoroutine") = false) (hb : fn.body.isSome = true) (args : Array Value)
    (hw : Region.wanted oi (yielded ops a.tmps) = true) (hN : oi.dst = N) (hop : oi.op = .call { callee := .value x, args := xs, argTypes := ts }) (hx : a.eval x = .func (.func f) #[] #[]) (hargs : xs.map a.eval = args)
    (h : Calls P f args w fun e w' => ∃ v, e = .returned v ∧ K (a.put N v) w') : if Region.wanted oi (yielded ops a.tmps) = true then Oper.wp P oi a w K Q else K (a.put N undef) w := by
  refine call_ f args hw hN ?_ h
  have he := enters_ hf hname hb args w
  unfold execOp
  simp [hop, hx, resolve, Deferred.ofValue, invoke, hargs, he]
def kink_pick.f (pick : ByteArray → ByteArray → Bool → ByteArray) (a0 a1 : ByteArray) (a2 : Bool) : Option ByteArray := some (pick a0 a1 a2)

/-! ### tensor_Right: function 31 -/
open Classical in
noncomputable def tensor_Right.f (l0_0 : List Int) (l0_1 : List ByteArray) : Option Bool := if Ten.Sm l0_0 l0_1 then some (Ten.tRight ⟨l0_0, l0_1⟩) else none
theorem tensor_Right.calls (A0_0 : Option Addr) (c0_0 : Nat) (l0_0 : List Int) (A0_1 : Option Addr) (c0_1 : Nat) (l0_1 : List ByteArray) (r : Bool) (w : World) (hG : Err.Gs w) (hr0_0 : Kd.C (Kd.int .i64) w A0_0 l0_0.length l0_0) (hc0_0 : l0_0.length ≤ c0_0) (hr0_1 : Kd.C Kd.string w A0_1 l0_1.length l0_1) (hc0_1 : l0_1.length ≤ c0_1) (h : tensor_Right.f l0_0 l0_1 = some r) :
  Calls Tryz.prog 31 #[.agg #[.slice A0_0 l0_0.length c0_0, .slice A0_1 l0_1.length c0_1]] w fun e w' => e = .returned (.bool r) ∧ Below w.heap.size w w' := by
 unfold tensor_Right.f at h
 split at h
 ·
  rename_i hl
  injection h with h;subst h;exact Ten.tright_calls A0_0 c0_0 A0_1 c0_1 ⟨l0_0, l0_1⟩ w hG hr0_0 hc0_0 hr0_1 hl.1 hl.2.1 hl.big
 ·
  cases h
theorem tensor_Right.of (s : List Int) (d : List ByteArray) (h : Ten.Sm s d) : tensor_Right.f s d = some (Ten.tRight ⟨s, d⟩) := by rw [tensor_Right.f, if_pos h]
/-! ### shape_Same: function 39 -/
noncomputable def shape_Same.f (l0 : List Int) (l1 : List Int) : Option Bool := if l0.length ≤ 1000 then some (decide (l0 = l1)) else none
theorem shape_Same.calls (A0 : Option Addr) (c0 : Nat) (l0 : List Int) (A1 : Option Addr) (c1 : Nat) (l1 : List Int) (r : Bool) (w : World) (hr0 : Kd.C (Kd.int .i64) w A0 l0.length l0) (hc0 : l0.length ≤ c0) (hr1 : Kd.C (Kd.int .i64) w A1 l1.length l1) (hc1 : l1.length ≤ c1) (h : shape_Same.f l0 l1 = some r) :
  Calls Tryz.prog 39 #[.slice A0 l0.length c0, .slice A1 l1.length c1] w fun e w' => e = .returned (.bool r) ∧ Below w.heap.size w w' := by
 unfold shape_Same.f at h
 split at h
 ·
  rename_i hl
  injection h with h;subst h;exact Ten.shSame_calls A0 c0 l0 A1 c1 l1 w hr0 hc0 hr1 hc1 hl
 ·
  cases h
theorem shape_Same.of (s t : List Int) (h : s.length ≤ 1000) : shape_Same.f s t = some (decide (s = t)) := by rw [shape_Same.f, if_pos h]
/-! ### slices_Clone_int_int: function 42 -/
noncomputable def slices_Clone_int_int.f (l0 : List Int) : Option (List Int) := if l0.length ≤ 1000000 then some l0 else none
theorem slices_Clone_int_int.calls (A0 : Option Addr) (c0 : Nat) (l0 : List Int) (r : List Int) (w : World) (hr0 : Kd.C (Kd.int .i64) w A0 l0.length l0) (hc0 : l0.length ≤ c0) (h : slices_Clone_int_int.f l0 = some r) :
  Calls Tryz.prog 42 #[.slice A0 l0.length c0] w fun e w' => ∃ v0_ : Value, e = .returned (v0_) ∧ Kd.R (Kd.int .i64) 3 w' w.heap.size (fun _ => True) v0_ r ∧ Below w.heap.size w w' := by
 unfold slices_Clone_int_int.f at h
 split at h
 ·
  rename_i hl
  injection h with h;subst h;exact Ten.cloneI_calls A0 c0 l0 w hr0 hl
 ·
  cases h
theorem slices_Clone_int_int.of (l : List Int) (h : l.length ≤ 1000000) : slices_Clone_int_int.f l = some l := by rw [slices_Clone_int_int.f, if_pos h]
/-! ### rat_Compare: function 54 -/
noncomputable def rat_Compare.f (a0 : ByteArray) (a1 : ByteArray) : Option (Int × Int) := if a0.size ≤ 40000000000 ∧ a1.size ≤ 40000000000 then some (Err.rCompare a0 a1) else none
theorem rat_Compare.calls (a0 : ByteArray) (a1 : ByteArray) (r1 : Int) (r2 : Int) (w : World) (hG : Err.Gs w) (h : rat_Compare.f a0 a1 = some (r1, r2)) :
  Calls Tryz.prog 54 #[.string a0, .string a1] w fun e w' => e = .returned (.tuple #[.int .i64 r1, .int .i64 r2]) ∧ Below w.heap.size w w' := by
 unfold rat_Compare.f at h
 by_cases c : a0.size ≤ 40000000000 ∧ a1.size ≤ 40000000000
 ·
  rw [if_pos c] at h;injection h with h;have := Err.compare_calls a0 a1 c.1 c.2 w hG;rw [h] at this;exact this
 ·
  rw [if_neg c] at h
  cases h
theorem rat_Compare.of (a b : ByteArray) (ha : a.size ≤ 40000000000) (hb : b.size ≤ 40000000000) : rat_Compare.f a b = some (Err.rCompare a b) := by rw [rat_Compare.f, if_pos ⟨ha, hb⟩]
theorem rat_Compare.rt {x y : Rat} (hx : Err.Fr x) (hy : Err.Fr y) : rat_Compare.f (Err.rt x) (Err.rt y) = some (Th.Wh.sgn (x - y).num, 0) := by
 rw [rat_Compare.of _ _ hx.size hy.size, Err.rCompare, Err.rv_rt, Err.rv_rt]
/-! ### kink_both: function 29 -/
mutual
noncomputable def kink_both.j0 (pick : ByteArray → ByteArray → Bool → ByteArray) : Nat → Bool → List Int → List ByteArray → List Int → List ByteArray → Option (List Int × List ByteArray × Int)
 | 0, _, _, _, _, _ => none
 | k + 1, x13, x102000, x102001, x103000, x103001 => if x13 = true then (some (([] : List Int), ([] : List ByteArray), 1)) else ((shape_Same.f x102000 x103000).bind fun t106 => (if t106 = true then ((slices_Clone_int_int.f x102000).bind fun t107 => (kink_both.l0 pick k x102001 (x102001.length : Int) 0 x103000 x103001 t107 ([] : List ByteArray))) else (some (([] : List Int), ([] : List ByteArray), 4))))
noncomputable def kink_both.l0 (pick : ByteArray → ByteArray → Bool → ByteArray) : Nat → List ByteArray → Int → Int → List Int → List ByteArray → List Int → List ByteArray → Option (List Int × List ByteArray × Int)
 | 0, _, _, _, _, _, _, _ => none
 | k + 1, x36, x37, x38, x103000, x103001, x111000, x111001 => if x38 < x37 then (if 0 ≤ x38 then (if x38 < (x36.length : Int) then (if x38 < (x103001.length : Int) then ((rat_Compare.f (rdOf ByteArray.empty x36 x38) (rdOf ByteArray.empty x103001 x38)).bind fun bt113 => ((kink_pick.f pick (rdOf ByteArray.empty x36 x38) (rdOf ByteArray.empty x103001 x38) (decide (bt113.1 ≥ 0))).bind fun t116 => (if x111001.length < 8796093022208 then (kink_both.l0 pick k x36 x37 (wrap64 (x38 + 1)) x103000 x103001 x111000 (x111001 ++ [t116])) else (none)))) else (none)) else (none)) else (none)) else (some (x111000, x111001, 0))
end
noncomputable def kink_both.f (pick : ByteArray → ByteArray → Bool → ByteArray) (k : Nat) (l0_0 : List Int) (l0_1 : List ByteArray) (l1_0 : List Int) (l1_1 : List ByteArray) : Option (List Int × List ByteArray × Int) := (tensor_Right.f l0_0 l0_1).bind fun t104 => (if t104 = true then ((tensor_Right.f l1_0 l1_1).bind fun t105 => (kink_both.j0 pick k (!t105) l0_0 l0_1 l1_0 l1_1)) else (kink_both.j0 pick k true l0_0 l0_1 l1_0 l1_1))
def kink_both.T10 : Bool × List (List Nat × List Nat) := (true, [([], []), ([0], [0]), ([], []), ([], []), ([], []), ([4], [4]), ([], []), ([5, 6], [5, 6]), ([7], [7]), ([], []), ([9], [9]), ([2, 3, 8, 10], [2, 3, 8, 10]), ([11], [11]), ([1, 12, 11], [1, 12]), ([0, 1, 2, 3, 4, 5, 6, 7, 8, 9, 10, 11, 12, 13], []), ([14, 13, 13, 0, 1, 2, 3, 4, 5, 6, 7, 8, 9, 10, 11, 12, 13], [13, 14])])
def kink_both.B10 : List Nat := [0, 1, 0, 0, 0, 16, 0, 112, 240, 0, 512, 2044, 4092, 8191, 16383, 32767]
theorem kink_both.tab10 : rtab .any (opsOf Tryz.f29 10) = kink_both.T10 := by kernel_rfl
theorem kink_both.bits10 : waitsOk kink_both.T10.2 kink_both.B10 = true := by kernel_rfl
theorem kink_both.calls (N : Nat) (fn : Func) (hfn : Tryz.prog.funcs[N]? = some fn) (hnm : (fn.name == "runtime.NumGoroutine") = false) (hbd : fn.body.isSome = true) (pick : ByteArray → ByteArray → Bool → ByteArray) (hF : ∀ a0 a1 a2 r w, kink_pick.f pick a0 a1 a2 = some r → Calls Tryz.prog N #[.string a0, .string a1, .bool a2] w fun e w' => e = .returned (.string r) ∧ Below w.heap.size w w') (k : Nat) (A0_0 : Option Addr) (c0_0 : Nat) (l0_0 : List Int) (A0_1 : Option Addr) (c0_1 : Nat) (l0_1 : List ByteArray) (A1_0 : Option Addr) (c1_0 : Nat) (l1_0 : List Int) (A1_1 : Option Addr) (c1_1 : Nat) (l1_1 : List ByteArray) (r1 : List Int) (r2 : List ByteArray) (r3 : Int) (w : World) (hG : Err.Gs w) (hr0_0 : Kd.C (Kd.int .i64) w A0_0 l0_0.length l0_0) (hc0_0 : l0_0.length ≤ c0_0) (hr0_1 : Kd.C Kd.string w A0_1 l0_1.length l0_1) (hc0_1 : l0_1.length ≤ c0_1) (hr1_0 : Kd.C (Kd.int .i64) w A1_0 l1_0.length l1_0) (hc1_0 : l1_0.length ≤ c1_0) (hr1_1 : Kd.C Kd.string w A1_1 l1_1.length l1_1) (hc1_1 : l1_1.length ≤ c1_1) (h : kink_both.f pick k l0_0 l0_1 l1_0 l1_1 = some (r1, r2, r3)) :
  Calls Tryz.prog 29 #[.agg #[.slice A0_0 l0_0.length c0_0, .slice A0_1 l0_1.length c0_1], .agg #[.slice A1_0 l1_0.length c1_0, .slice A1_1 l1_1.length c1_1], .func (.func N) #[] #[]] w fun e w' => ∃ v0_ v1_ : Value, e = .returned (.tuple #[.agg #[v0_, v1_], .int .i64 r3]) ∧ Kd.R (Kd.int .i64) 3 w' w.heap.size (fun _ => True) v0_ r1 ∧ Kd.R Kd.string 9 w' w.heap.size (fun _ => True) v1_ r2 ∧ Below w.heap.size w w' := by
 have HF := A_ hF
 clear hF
 have hu25 := Tryz.underlying25;have HR0_0 := A_ hr0_0;have HC0_0 := A_ hc0_0;clear hr0_0 hc0_0;have HR0_1 := A_ hr0_1;have HC0_1 := A_ hc0_1;clear hr0_1 hc0_1;have HR1_0 := A_ hr1_0;have HC1_0 := A_ hc1_0;clear hr1_0 hc1_0;have HR1_1 := A_ hr1_1;have HC1_1 := A_ hc1_1;clear hr1_1 hc1_1;have HB := A_ (Below.refl w.heap.size w);have HGs := A_ hG;clear hG;unfold kink_both.f at h;have H := h;clear h;have HC4 := A_ H;clear H;go_enter Tryz.func29, Tryz.ntmps29
 go_upto_region 1 with (first | (refine BX_ 3 #[.slice A0_0 l0_0.length c0_0, .slice A0_1 l0_1.length c0_1] 25 ?_; intro gb101 hg w5 hbox hb; have BK101 := A_ (hbox); have GE101 := GE_ hg; replace HB := BS_ hb; clear hb hbox hg) | (refine BX_ 4 #[.slice A1_0 l1_0.length c1_0, .slice A1_1 l1_1.length c1_1] 25 ?_; intro gb102 hg w6 hbox hb; have BK102 := A_ (hbox); have GE102 := GE_ hg; replace HB := BU_ hb; have NB101_102 := NB_ BK101 hg; have NB102_101 := NC_ BK101 hg; replace BK101 := BF_ BK101 hb; clear hb hbox hg) | (refine BX_ 6 #[.slice none 0 0, .slice none 0 0] 25 ?_; intro gb103 hg w7 hbox hb; have BK103 := A_ (hbox); have GE103 := GE_ hg; replace HB := BU_ hb; have NB101_103 := NB_ BK101 hg; have NB103_101 := NC_ BK101 hg; replace BK101 := BF_ BK101 hb; have NB102_103 := NB_ BK102 hg; have NB103_102 := NC_ BK102 hg; replace BK102 := BF_ BK102 hb; clear hb hbox hg))
 (try simp only [Act.put, List.setIfInBounds_toArray, List.set_cons_zero, List.set_cons_succ])
 go_cut [13] (fun v13 wc => ∃ (kq : Nat) (x13_3 : Bool), v13 = .bool x13_3 ∧ Aside0 (kink_both.j0 pick kq x13_3 l0_0 l0_1 l1_0 l1_1 = some (r1, r2, r3)) ∧ Aside0 (kq ≤ k) ∧ Aside0 (wc.heap[gb101]? = some (.cells #[(.slice A0_0 l0_0.length c0_0), (.slice A0_1 l0_1.length c0_1)] 25 (0, 0))) ∧ Aside0 (wc.heap[gb102]? = some (.cells #[(.slice A1_0 l1_0.length c1_0), (.slice A1_1 l1_1.length c1_1)] 25 (0, 0))) ∧ Aside0 (wc.heap[gb103]? = some (.cells #[(.slice none 0 0), (.slice none 0 0)] 25 (0, 0))) ∧ Aside0 (Below w.heap.size w wc))
 case first =>
  have H := HC4.out;clear HC4;replace H := BE_ H;obtain ⟨t104, A80, H⟩ := H;have A8 := A_ A80;clear A80
  by_cases c9 : t104 = true
  ·
   subst c9;rw [if_pos rfl] at H;replace H := BE_ H;obtain ⟨t105, A100, H⟩ := H;have A10 := A_ A100;clear A100;have H' := A_ H;clear H;have hnb11 := NB101_102.out;have hnc11 := NB102_101.out;have hnb12 := NB101_103.out;have hnc12 := NB103_101.out;obtain ⟨hcz13_0, hcz13_1, hfz13_0, hfz13_1⟩ := CF_ BK101
   go_wp2_with (first | (refine GL_ 31 15 Tryz.func31 #[.agg #[.slice A0_0 l0_0.length c0_0, .slice A0_1 l0_1.length c0_1]] ?_; (with_reducible refine (tensor_Right.calls _ _ l0_0 _ _ l0_1 true _ (Err.Gs.below HGs.out T9_) (CW_ HR0_0) HC0_0.out (CW_ HR0_1) HC0_1.out A8.out).mono ?_); rintro e w14 ⟨rfl, hb⟩; refine ⟨_, rfl, ?_⟩; replace BK101 := BF_ BK101 hb; replace BK102 := BF_ BK102 hb; replace BK103 := BF_ BK103 hb; replace HB := BU_ hb; clear hb; have hnb15 := NB102_103.out; have hnc15 := NB103_102.out; obtain ⟨hcz16_0, hcz16_1, hfz16_0, hfz16_1⟩ := CF_ BK102) | (go_at_call 31; (with_reducible refine (tensor_Right.calls _ _ l1_0 _ _ l1_1 t105 _ (Err.Gs.below HGs.out T9_) (CW_ HR1_0) HC1_0.out (CW_ HR1_1) HC1_1.out A10.out).mono ?_); rintro e w17 ⟨rfl, hb⟩; replace BK101 := BF_ BK101 hb; replace BK102 := BF_ BK102 hb; replace BK103 := BF_ BK103 hb; replace HB := BU_ hb; clear hb))
   go_meet
   case rel => exact ⟨_, (!t105), S1_, H', ⟨by first | omega | exact Nat.le_refl _⟩, BW_ BK101, BW_ BK102, BW_ BK103, ⟨T9_⟩⟩
  ·
   replace c9 := Bool.eq_false_iff.mpr c9;subst c9;rw [if_neg (show ¬ (false = true) by decide)] at H;have H' := A_ H;clear H;have hnb18 := NB101_102.out;have hnc18 := NB102_101.out;have hnb19 := NB101_103.out;have hnc19 := NB103_101.out;obtain ⟨hcz20_0, hcz20_1, hfz20_0, hfz20_1⟩ := CF_ BK101
   go_wp2_with (first | (refine GL_ 31 15 Tryz.func31 #[.agg #[.slice A0_0 l0_0.length c0_0, .slice A0_1 l0_1.length c0_1]] ?_; (with_reducible refine (tensor_Right.calls _ _ l0_0 _ _ l0_1 false _ (Err.Gs.below HGs.out T9_) (CW_ HR0_0) HC0_0.out (CW_ HR0_1) HC0_1.out A8.out).mono ?_); rintro e w21 ⟨rfl, hb⟩; refine ⟨_, rfl, ?_⟩; replace BK101 := BF_ BK101 hb; replace BK102 := BF_ BK102 hb; replace BK103 := BF_ BK103 hb; replace HB := BU_ hb; clear hb))
   go_meet
   case rel => exact ⟨_, (true), S1_, H', ⟨by first | omega | exact Nat.le_refl _⟩, BW_ BK101, BW_ BK102, BW_ BK103, ⟨T9_⟩⟩
 case rest =>
  clear HC4
  obtain ⟨kq, x13_3, rfl, HA, HJ3, BK101, BK102, BK103, HB⟩ := hcut
  cases kq with
  | zero => exact absurd HA.out (by simp [kink_both.j0])
  | succ kj3 =>
   have H := HA.out;clear HA;simp only [kink_both.j0] at H
   by_cases c22 : x13_3 = true
   ·
    subst c22;rw [if_pos rfl] at H;simp only [Option.some.injEq, Prod.mk.injEq] at H;obtain ⟨rfl, rfl, rfl⟩ := H;have hnb23 := NB103_101.out;have hnc23 := NB101_103.out;have hnb24 := NB103_102.out;have hnc24 := NB102_103.out;have hcz25_0 : wc.cell? ⟨gb103, 0, none⟩ = some (.slice none 0 0) := (blk_cell BK103.out 0).trans rfl;have hcz25_1 : wc.cell? ⟨gb103, 1, none⟩ = some (.slice none 0 0) := (blk_cell BK103.out 1).trans rfl;have hfz25_0 := blk_frozen BK103.out 0;have hfz25_1 := blk_frozen BK103.out 1
    go_wp2
    refine bodyPost_ret (results_ct rfl _ _ gb103 25 #[.slice none 0 0, .slice none 0 0] (0, 0) _ rfl (by (with_reducible repeat (first | refine blk_drewN ?_ _ | refine blk_drew ?_ | refine blk_alloc ?_ _)); refine blk_put (cs := #[.slice none 0 0, .slice none 0 0]) ?_ 1 _ rfl; (with_reducible repeat (first | refine blk_drewN ?_ _ | refine blk_drew ?_ | refine blk_alloc ?_ _)); refine blk_put (cs := #[.slice none 0 0, .slice none 0 0]) ?_ 0 _ rfl; (with_reducible repeat (first | refine blk_drewN ?_ _ | refine blk_drew ?_ | refine blk_alloc ?_ _)); exact BK103.out) Tryz.underlying25 rfl (by kernel_rfl)) rfl ?_;exact ⟨_, _, by first | rfl | (simp [errW_none, errW_some] <;> rfl) | (simp [*, errW_none, errW_some] <;> rfl), by first | exact Kd.R_nil _ _ _ _ _ | exact Kd.N_nil _ _ _ _ _ | exact Kd.V_nil _ _ _ _ _ | exact Kd.Q_nil _ _ _ _ _ | exact Kd.S_nil _ _ _ _ _, by first | exact Kd.R_nil _ _ _ _ _ | exact Kd.N_nil _ _ _ _ _ | exact Kd.V_nil _ _ _ _ _ | exact Kd.Q_nil _ _ _ _ _ | exact Kd.S_nil _ _ _ _ _, T9_⟩
   ·
    replace c22 := Bool.eq_false_iff.mpr c22;subst c22;rw [if_neg (show ¬ (false = true) by decide)] at H;replace H := BE_ H;obtain ⟨t106, A260, H⟩ := H;have A26 := A_ A260;clear A260
    by_cases c27 : t106 = true
    ·
     subst c27;rw [if_pos rfl] at H;replace H := BE_ H;obtain ⟨t107, A280, H⟩ := H;have A28 := A_ A280;clear A280;have H' := A_ H;clear H;have hnb29 := NB101_102.out;have hnc29 := NB102_101.out;have hnb30 := NB101_103.out;have hnc30 := NB103_101.out;obtain ⟨hcz31_0, hcz31_1, hfz31_0, hfz31_1⟩ := CF_ BK101;have hnb32 := NB102_103.out;have hnc32 := NB103_102.out;have hcz33_0 : wc.cell? ⟨gb102, 0, none⟩ = some (.slice A1_0 l1_0.length c1_0) := (blk_cell BK102.out 0).trans rfl;have hcz33_1 : wc.cell? ⟨gb102, 1, none⟩ = some (.slice A1_1 l1_1.length c1_1) := (blk_cell BK102.out 1).trans rfl;have hfz33_0 := blk_frozen BK102.out 0;have hfz33_1 := blk_frozen BK102.out 1
     go_wp2_with (first | (refine GL_ 39 28 Tryz.func39 #[.slice A0_0 l0_0.length c0_0, .slice A1_0 l1_0.length c1_0] ?_; (with_reducible refine (shape_Same.calls _ _ l0_0 _ _ l1_0 true _ (CW_ HR0_0) HC0_0.out (CW_ HR1_0) HC1_0.out A26.out).mono ?_); rintro e w34 ⟨rfl, hb⟩; refine ⟨_, rfl, ?_⟩; replace BK101 := BF_ BK101 hb; replace BK102 := BF_ BK102 hb; replace BK103 := BF_ BK103 hb; replace HB := BU_ hb; clear hb; obtain ⟨hcz35_0, hcz35_1, hfz35_0, hfz35_1⟩ := CF_ BK101) | (refine GL_ 42 33 Tryz.func42 #[.slice A0_0 l0_0.length c0_0] ?_; (with_reducible refine (slices_Clone_int_int.calls _ _ l0_0 t107 _ (CW_ HR0_0) HC0_0.out A28.out).mono ?_); rintro e w36 ⟨v108, rfl, ho0, hb⟩; refine ⟨_, rfl, ?_⟩; have HO109 := A_ (Kd.R_lower ho0 (below_size T9_)); replace BK101 := BF_ BK101 hb; replace BK102 := BF_ BK102 hb; replace BK103 := BF_ BK103 hb; replace HB := BU_ hb; clear hb ho0; obtain ⟨Ao37, co37, eo37⟩ := Kd.R_slice HO109.out; subst eo37) | (refine BX_ 8 #[.slice none 0 0, .slice none 0 0] 25 ?_; intro gb110 hg w38 hbox hb; replace HO109 := RC_ HO109 hb; have BK110 := A_ (hbox); have GE110 := GE_ hg; replace HB := BU_ hb; have NB101_110 := NB_ BK101 hg; have NB110_101 := NC_ BK101 hg; replace BK101 := BF_ BK101 hb; have NB102_110 := NB_ BK102 hg; have NB110_102 := NC_ BK102 hg; replace BK102 := BF_ BK102 hb; have NB103_110 := NB_ BK103 hg; have NB110_103 := NC_ BK103 hg; replace BK103 := BF_ BK103 hb; clear hb hbox hg; have hnb39 := NB110_101.out; have hnc39 := NB101_110.out; have hnb40 := NB110_102.out; have hnc40 := NB102_110.out; have hnb41 := NB110_103.out; have hnc41 := NB103_110.out; obtain ⟨hcz42_0, hcz42_1, hfz42_0, hfz42_1⟩ := CF_ BK110; obtain ⟨hcz43_0, hcz43_1, hfz43_0, hfz43_1⟩ := CF_ BK101))
     go_loopg [38] kj3 (fun kq v38 w' => ∃ (x38_2 : Int) (x111001_2 : List ByteArray) (u111001 : Value), v38 = .int .i64 x38_2 ∧ Aside0 (kink_both.l0 pick kq l0_1 (l0_1.length : Int) x38_2 l1_0 l1_1 t107 x111001_2 = some (r1, r2, r3)) ∧ Aside0 (kq ≤ kj3) ∧ Aside0 (Kd.R (Kd.int .i64) 3 w' w.heap.size (fun _ => True) (.slice Ao37 t107.length co37) t107) ∧ Aside0 (Kd.R Kd.string 9 w' w.heap.size (fun _ => True) u111001 x111001_2) ∧ Aside0 (w'.heap[gb101]? = some (.cells #[(.slice A0_0 l0_0.length c0_0), (.slice A0_1 l0_1.length c0_1)] 25 (0, 0))) ∧ Aside0 (w'.heap[gb102]? = some (.cells #[(.slice A1_0 l1_0.length c1_0), (.slice A1_1 l1_1.length c1_1)] 25 (0, 0))) ∧ Aside0 (w'.heap[gb103]? = some (.cells #[(.slice none 0 0), (.slice none 0 0)] 25 (0, 0))) ∧ Aside0 (w'.heap[gb110]? = some (.cells #[(.slice Ao37 t107.length co37), u111001] 25 (0, 0))) ∧ Aside0 (Below w.heap.size w w'))
     case atStart => exact ⟨(0), (([] : List ByteArray)), (.slice none 0 0), S1_, H', ⟨Nat.le_refl _⟩, RW_ HO109, ⟨by first | exact Kd.R_nil _ _ _ _ _ | exact Kd.N_nil _ _ _ _ _ | exact Kd.V_nil _ _ _ _ _ | exact Kd.Q_nil _ _ _ _ _ | exact Kd.S_nil _ _ _ _ _⟩, BW_ BK101, BW_ BK102, BW_ BK103, ⟨by (with_reducible repeat (first | refine blk_drewN ?_ _ | refine blk_drew ?_ | refine blk_alloc ?_ _)); refine blk_put (cs := #[.slice Ao37 t107.length co37, .slice none 0 0]) ?_ 1 _ rfl; (with_reducible repeat (first | refine blk_drewN ?_ _ | refine blk_drew ?_ | refine blk_alloc ?_ _)); refine blk_put (cs := #[.slice none 0 0, .slice none 0 0]) ?_ 0 _ rfl; (with_reducible repeat (first | refine blk_drewN ?_ _ | refine blk_drew ?_ | refine blk_alloc ?_ _)); exact BK110.out⟩, ⟨T9_⟩⟩
     case round =>
      clear H'
      try clear c22
      try clear c27
      try clear hcz31_0
      try clear hcz31_1
      try clear hcz33_0
      try clear hcz33_1
      try clear hcz35_0
      try clear hcz35_1
      try clear hcz42_0
      try clear hcz42_1
      try clear hcz43_0
      try clear hcz43_1
      try clear hfz31_0
      try clear hfz31_1
      try clear hfz33_0
      try clear hfz33_1
      try clear hfz35_0
      try clear hfz35_1
      try clear hfz42_0
      try clear hfz42_1
      try clear hfz43_0
      try clear hfz43_1
      obtain ⟨x38_2, x111001_2, u111001, rfl, HA, HK2, HO_111000, HO_111001, BK101, BK102, BK103, BK110, HB⟩ := hrel
      cases gk with
      | zero => exact absurd HA.out (by simp [kink_both.l0])
      | succ k2 =>
       have H := HA.out;clear HA;simp only [kink_both.l0] at H
       by_cases c44 : x38_2 < (l0_1.length : Int)
       ·
        rw [if_pos c44] at H;have c44b0 := decide_eq_true c44;clear c44
        by_cases c45 : 0 ≤ x38_2
        ·
         rw [if_pos c45] at H;have c45b0 := decide_eq_true c45;clear c45
         by_cases c46 : x38_2 < (l0_1.length : Int)
         ·
          rw [if_pos c46] at H;have c46b0 := decide_eq_true c46;clear c46
          by_cases c47 : x38_2 < (l1_1.length : Int)
          ·
           rw [if_pos c47] at H;have c47b0 := decide_eq_true c47;clear c47;replace H := BE_ H;obtain ⟨⟨t113, t114⟩, A480, H⟩ := H;have A48 := A_ A480;clear A480;replace H := BE_ H;obtain ⟨t116, A490, H⟩ := H;have A49 := A_ A490;clear A490
           by_cases c50 : x111001_2.length < 8796093022208
           ·
            rw [if_pos c50] at H;have LMc50 := A_ c50;clear c50;obtain ⟨y117, hy_⟩ : ∃ y_ : List ByteArray, y_ = (x111001_2 ++ [t116]) := ⟨_, rfl⟩
            replace H : (kink_both.l0 pick k2 l0_1 (l0_1.length : Int) (wrap64 (x38_2 + 1)) l1_0 l1_1 t107 y117) = some (r1, r2, r3) := RH_
            have Ny117 := A_ hy_;clear hy_;have H' := A_ H;clear H;have p111 : 0 ≤ (x38_2 : Int) := DA_;have q111 : x38_2 < (l0_1.length : Int) := DA_;obtain ⟨ad111, e111, hx111_0⟩ := Kd.at_string HR0_1.out x38_2 p111 q111
            cases e111
            replace hx111_0 := (HB.out.cell (World.block_lt_of_cell? w _ hx111_0)).trans hx111_0;replace p111 := eq_true p111;replace q111 := eq_true q111;have hnb51 := NB102_101.out;have hnc51 := NB101_102.out;have hnb52 := NB102_103.out;have hnc52 := NB103_102.out;have hnb53 := NB102_110.out;have hnc53 := NB110_102.out;have hcz54_0 : wr.cell? ⟨gb102, 0, none⟩ = some (.slice A1_0 l1_0.length c1_0) := (blk_cell BK102.out 0).trans rfl;have hcz54_1 : wr.cell? ⟨gb102, 1, none⟩ = some (.slice A1_1 l1_1.length c1_1) := (blk_cell BK102.out 1).trans rfl;have hfz54_0 := blk_frozen BK102.out 0;have hfz54_1 := blk_frozen BK102.out 1;have p112 : 0 ≤ (x38_2 : Int) := DA_;have q112 : x38_2 < (l1_1.length : Int) := DA_;obtain ⟨ad112, e112, hx112_0⟩ := Kd.at_string HR1_1.out x38_2 p112 q112
            cases e112
            replace hx112_0 := (HB.out.cell (World.block_lt_of_cell? w _ hx112_0)).trans hx112_0;replace p112 := eq_true p112;replace q112 := eq_true q112
            try go_wp2_with (first | (refine GL_ 54 50 Tryz.func54 #[.string (rdOf ByteArray.empty l0_1 x38_2), .string (rdOf ByteArray.empty l1_1 x38_2)] ?_; (with_reducible refine (rat_Compare.calls (rdOf ByteArray.empty l0_1 x38_2) (rdOf ByteArray.empty l1_1 x38_2) t113 t114 _ (Err.Gs.below HGs.out T9_) A48.out).mono ?_); rintro e w55 ⟨rfl, hb⟩; refine ⟨_, rfl, ?_⟩; replace HO_111000 := RC_ HO_111000 hb; replace HO_111001 := RC_ HO_111001 hb; replace BK101 := BF_ BK101 hb; replace BK102 := BF_ BK102 hb; replace BK103 := BF_ BK103 hb; replace BK110 := BF_ BK110 hb; replace HB := BU_ hb; clear hb))
            replace HO_111000 := A_ (Kd.R_drew HO_111000.out);replace HO_111001 := A_ (Kd.R_drew HO_111001.out);replace BK101 := A_ (blk_drew BK101.out);replace BK102 := A_ (blk_drew BK102.out);replace BK103 := A_ (blk_drew BK103.out);replace BK110 := A_ (blk_drew BK110.out);replace HB := A_ (below_drew1 HB.out);have p115 : 0 ≤ (x38_2 : Int) := DA_;have q115 : x38_2 < (l1_1.length : Int) := DA_;obtain ⟨ad115, e115, hx115_0⟩ := Kd.at_string HR1_1.out x38_2 p115 q115;have hw115_0 := hx115_0;obtain rfl : ad112 = ad115 := (by injection e115);replace hx115_0 := (HB.out.cell (World.block_lt_of_cell? w _ hx115_0)).trans hx115_0;replace p115 := eq_true p115;replace q115 := eq_true q115;refine start_ (n := 16) (S := fun w' => w'.cell? ⟨gb110, 0, none⟩ = some (.slice Ao37 t107.length co37) ∧ w'.cell? ⟨gb110, 1, none⟩ = some (u111001) ∧ w'.cell? ⟨gb102, 0, none⟩ = some (.slice A1_0 l1_0.length c1_0) ∧ w'.cell? ⟨gb102, 1, none⟩ = some (.slice (some ad112) l1_1.length c1_1) ∧ w'.cell? (ad112.add (x38_2).toNat) = some (.string (rdOf ByteArray.empty l1_1 x38_2))) (ds := [15]) #[false, false, false, false, false, false, false, false, false, false, false, false, false, false, false, false] (by kernel_rfl) rfl rfl ⟨(blk_cell BK110.out 0).trans rfl, (blk_cell BK110.out 1).trans rfl, (blk_cell BK102.out 0).trans rfl, (blk_cell BK102.out 1).trans rfl, ((HB.out.cell (World.block_lt_of_cell? w _ hw115_0)).trans hw115_0)⟩ (fun hHeld => ?_); refine with_tabW kink_both.tab10 kink_both.bits10 (fun HT_ HW_ => ?_);generalize w55.drew = w56 at HO_111000 HO_111001 BK101 BK102 BK103 BK110 HB hx115_0 hHeld ⊢;refine PU_ 0 53 ?_;refine PU_ 2 55 ?_;refine PU_ 3 56 ?_;refine PU_ 4 57 ?_;refine PU_ 6 59 ?_;refine PU_ 9 62 ?_;refine PU_ 10 63 ?_;refine TK_ 1 54 rfl (by rfl) (by rintro w' ⟨s0, s1, s2, s3, s4⟩;go_simp;with_reducible rfl) hHeld ?_
            refine TK_ 5 58 rfl (by rfl) (by rintro w' ⟨s0, s1, s2, s3, s4⟩;go_simp;with_reducible rfl) hHeld ?_
            refine PU_ 7 60 ?_;refine TK_ 8 61 rfl (by rfl) (by rintro w' ⟨s0, s1, s2, s3, s4⟩;go_simp;with_reducible rfl) hHeld ?_
            refine one_ (i := 11) (N := some 64) #[true, true, true, true, true, true, true, true, true, true, true, true, false, false, false, false] rfl rfl (one_of HT_.out (by kernel_rfl)) (by decide) (fun K hK => ?_);refine goesV_ hfn hnm hbd #[.string (rdOf ByteArray.empty l0_1 x38_2), .string (rdOf ByteArray.empty l1_1 x38_2), .bool (decide (t113 ≥ 0))] (by rfl) rfl rfl rfl T2_ ?_
            with_reducible refine (HF.out _ _ _ t116 _ A49.out).mono ?_
            rintro e w57 ⟨rfl, hb⟩;refine ⟨_, rfl, ?_⟩;replace HO_111000 := RC_ HO_111000 hb;replace HO_111001 := RC_ HO_111001 hb;replace BK101 := BF_ BK101 hb;replace BK102 := BF_ BK102 hb;replace BK103 := BF_ BK103 hb;replace BK110 := BF_ BK110 hb;replace HB := BU_ hb
            (try clear hb)
            (try clear hb2)
            (try clear hk)
            (try clear hi)
            refine hK.out _ _ ⟨(blk_cell BK110.out 0).trans rfl, (blk_cell BK110.out 1).trans rfl, (blk_cell BK102.out 0).trans rfl, (blk_cell BK102.out 1).trans rfl, ((HB.out.cell (World.block_lt_of_cell? w _ hw115_0)).trans hw115_0)⟩ (fun hHeld => ?_);clear hK K;refine norm_ (a' := ?_) ?_ ?_;rotate_left
            ·
             show Act.put _ (some 64) _ = _
             simp only [Act.put, List.setIfInBounds_toArray, List.set_cons_zero, List.set_cons_succ, i64_w, i32_w];rfl
            refine one_ (i := 12) (N := some 65) #[true, true, true, true, true, true, true, true, true, true, true, true, true, false, false, false] rfl rfl (one_of HT_.out (by kernel_rfl)) (by decide) (fun K hK => ?_);refine value_ (w1 := ?_) (v := ?_) (by rfl) rfl ?_ ?_;rotate_left 2
            ·
             go_simp;constructor
             ·
              rfl
             ·
              rfl
            refine hK.out _ _ ⟨(blk_cell (blk_alloc BK110.out _) 0).trans rfl, (blk_cell (blk_alloc BK110.out _) 1).trans rfl, (blk_cell (blk_alloc BK102.out _) 0).trans rfl, (blk_cell (blk_alloc BK102.out _) 1).trans rfl, (World.cell?_alloc_lt _ _ _ (World.block_lt_of_cell? _ _ (((HB.out.cell (World.block_lt_of_cell? w _ hw115_0)).trans hw115_0)))).trans (((HB.out.cell (World.block_lt_of_cell? w _ hw115_0)).trans hw115_0))⟩ (fun hHeld => ?_);clear hK K;refine norm_ (a' := ?_) ?_ ?_;rotate_left
            ·
             show Act.put _ (some 65) _ = _
             simp only [Act.put, List.setIfInBounds_toArray, List.set_cons_zero, List.set_cons_succ, i64_w, i32_w];rfl
            refine one_ (i := 13) (N := some 66) #[true, true, true, true, true, true, true, true, true, true, true, true, true, true, false, false] rfl rfl (one_of HT_.out (by kernel_rfl)) (by decide) (fun K hK => ?_);refine Kd.R_append_step Kd.string (w0 := w) w.heap.size (by rfl) (.tmp 54) (.tmp 65) 23 9 (.string ⟨#[]⟩) 16 rfl Tryz.underlying23 info9 rfl (by decide) (by omega) u111001 x111001_2 t116 [.string t116] (fun _ => True) (fun _ => False) rfl rfl ?aP (fun _ hk => hk.elim) ?aF ?aO ?aB ?aS ?aL ?_
            (case aP => exact rfl)
            (case aB => exact T9_)
            (case aF => exact (fun _ _ => trivial))
            (case aO => exact (K1_ HO_111001))
            (case aS => exact (below_size T9_))
            (case aL => have := LMc50.out; omega)
            intro v118 w58 ho hb hg hat;rw [← Ny117.out] at ho;replace HO_111000 := A_ (Kd.R_over' (K1_ HO_111000) (Kd.R_typed (K1_ HO_111001)) (by decide) hg);have HO119 := A_ (ho);replace BK101 := A_ (blk_grown (g := gb101) (o := .cells #[.slice A0_0 l0_0.length c0_0, .slice (some ad111) l0_1.length c0_1] 25 (0, 0)) (B1_ BK101.out) hg (Kd.R_ne HO_111001.out BK101.out (by decide)));replace BK102 := A_ (blk_grown (g := gb102) (o := .cells #[.slice A1_0 l1_0.length c1_0, .slice (some ad112) l1_1.length c1_1] 25 (0, 0)) (B1_ BK102.out) hg (Kd.R_ne HO_111001.out BK102.out (by decide)));replace BK103 := A_ (blk_grown (g := gb103) (o := .cells #[.slice none 0 0, .slice none 0 0] 25 (0, 0)) (B1_ BK103.out) hg (Kd.R_ne HO_111001.out BK103.out (by decide)));replace BK110 := A_ (blk_grown (g := gb110) (o := .cells #[.slice Ao37 t107.length co37, u111001] 25 (0, 0)) (B1_ BK110.out) hg (Kd.R_ne HO_111001.out BK110.out (by decide)));replace HB := A_ (hb);clear HO_111001;clear ho hb hg hat;obtain ⟨Ao59, co59, eo59⟩ := Kd.R_slice HO119.out
            (first | subst eo59 | (injection eo59 with f1_ f2_ f3_; have f4_ := f1_.symm; have f5_ := f3_.symm; clear f1_ f2_ f3_; subst f4_; subst f5_))
            refine hK.out _ _ ⟨(blk_cell BK110.out 0).trans rfl, (blk_cell BK110.out 1).trans rfl, (blk_cell BK102.out 0).trans rfl, (blk_cell BK102.out 1).trans rfl, ((HB.out.cell (World.block_lt_of_cell? w _ hw115_0)).trans hw115_0)⟩ (fun hHeld => ?_);clear hK K;refine norm_ (a' := ?_) ?_ ?_;rotate_left
            ·
             show Act.put _ (some 66) _ = _
             simp only [Act.put, List.setIfInBounds_toArray, List.set_cons_zero, List.set_cons_succ, i64_w, i32_w];rfl
            refine PU_ 14 67 ?_
            refine last_ (i := 15) (N := none) #[true, true, true, true, true, true, true, true, true, true, true, true, true, true, true, true] rfl rfl (one_of HT_.out (by kernel_rfl)) (by decide) (fun K hK => ?_);have hs60 : w58.cell? ⟨gb110, 1, none⟩ = some (u111001) := (blk_cell BK110.out 1).trans rfl;have hfs60 := blk_frozen BK110.out 1;have hns60_0 := NB101_110.out;have hns60_1 := NB102_110.out;have hns60_2 := NB103_110.out;have hms60_0 := NB110_101.out;have hms60_1 := NB110_102.out;have hms60_2 := NB110_103.out;refine skip_ (w1 := ?_) (by rfl) rfl ?_ ?_;rotate_left
            ·
             go_simp;rfl
            refine hK.out _ _ ?_;clear hK K;refine done_ (done_of HT_.out (by kernel_rfl)) ?_
            try go_wp2
            go_roundg k2
            case measure => have := HJ3.out; have := HK2.out; omega
            case rel => exact ⟨(wrap64 (x38_2 + 1)), (y117), (.slice Ao59 y117.length co59), S1_, H', ⟨by have := HJ3.out; have := HK2.out; omega⟩, RW_ HO_111000, RW_ HO119, BW_ BK101, BW_ BK102, BW_ BK103, ⟨by (with_reducible repeat (first | refine blk_drewN ?_ _ | refine blk_drew ?_ | refine blk_alloc ?_ _)); refine blk_put (cs := #[.slice Ao37 t107.length co37, u111001]) ?_ 1 _ rfl; (with_reducible repeat (first | refine blk_drewN ?_ _ | refine blk_drew ?_ | refine blk_alloc ?_ _)); exact BK110.out⟩, ⟨T9_⟩⟩
           ·
            rw [if_neg c50] at H;exact absurd H (by simp)
          ·
           rw [if_neg c47] at H;exact absurd H (by simp)
         ·
          rw [if_neg c46] at H;exact absurd H (by simp)
        ·
         rw [if_neg c45] at H;exact absurd H (by simp)
       ·
        rw [if_neg c44] at H;have c44b0 := decide_eq_false c44;clear c44;simp only [Option.some.injEq, Prod.mk.injEq] at H;obtain ⟨rfl, rfl, rfl⟩ := H;have hnb61 := NB110_101.out;have hnc61 := NB101_110.out;have hnb62 := NB110_102.out;have hnc62 := NB102_110.out;have hnb63 := NB110_103.out;have hnc63 := NB103_110.out;obtain ⟨hcz64_0, hcz64_1, hfz64_0, hfz64_1⟩ := CF_ BK110;have hnb65 := NB103_101.out;have hnc65 := NB101_103.out;have hnb66 := NB103_102.out;have hnc66 := NB102_103.out;have hcz67_0 : wr.cell? ⟨gb103, 0, none⟩ = some (.slice none 0 0) := (blk_cell BK103.out 0).trans rfl;have hcz67_1 : wr.cell? ⟨gb103, 1, none⟩ = some (.slice none 0 0) := (blk_cell BK103.out 1).trans rfl;have hfz67_0 := blk_frozen BK103.out 0;have hfz67_1 := blk_frozen BK103.out 1;obtain ⟨Ao68, co68, eo68⟩ := Kd.R_slice HO_111001.out;subst eo68
        go_wp2
        refine bodyPost_ret (results_ct rfl _ _ gb103 25 #[.slice Ao37 t107.length co37, .slice Ao68 x111001_2.length co68] (0, 0) _ rfl (by (with_reducible repeat (first | refine blk_drewN ?_ _ | refine blk_drew ?_ | refine blk_alloc ?_ _)); refine blk_put (cs := #[.slice Ao37 t107.length co37, .slice none 0 0]) ?_ 1 _ rfl; (with_reducible repeat (first | refine blk_drewN ?_ _ | refine blk_drew ?_ | refine blk_alloc ?_ _)); refine blk_put (cs := #[.slice none 0 0, .slice none 0 0]) ?_ 0 _ rfl; (with_reducible repeat (first | refine blk_drewN ?_ _ | refine blk_drew ?_ | refine blk_alloc ?_ _)); exact BK103.out) Tryz.underlying25 rfl (by kernel_rfl)) rfl ?_;exact ⟨_, _, by first | rfl | (simp [errW_none, errW_some] <;> rfl) | (simp [*, errW_none, errW_some] <;> rfl), by (with_reducible repeat (first | apply Kd.R_alloc | apply Kd.R_drewN | apply Kd.R_drew)); exact Kd.R_mono (Kd.R_far (p := ⟨gb103, 1, none⟩) (Kd.R_far (p := ⟨gb103, 0, none⟩) (Kd.R_types HO_111000.out BK103.out (by decide)) (fun _ hk => hk.2) (.slice Ao37 t107.length co37)) (fun _ hk => hk.2) (.slice Ao68 x111001_2.length co68)) (fun _ hk => trivial), by (with_reducible repeat (first | apply Kd.R_alloc | apply Kd.R_drewN | apply Kd.R_drew)); exact Kd.R_mono (Kd.R_far (p := ⟨gb103, 1, none⟩) (Kd.R_far (p := ⟨gb103, 0, none⟩) (Kd.R_types HO_111001.out BK103.out (by decide)) (fun _ hk => hk.2) (.slice Ao37 t107.length co37)) (fun _ hk => hk.2) (.slice Ao68 x111001_2.length co68)) (fun _ hk => trivial), T9_⟩
    ·
     replace c27 := Bool.eq_false_iff.mpr c27;subst c27;rw [if_neg (show ¬ (false = true) by decide)] at H;simp only [Option.some.injEq, Prod.mk.injEq] at H;obtain ⟨rfl, rfl, rfl⟩ := H;have hnb69 := NB101_102.out;have hnc69 := NB102_101.out;have hnb70 := NB101_103.out;have hnc70 := NB103_101.out;obtain ⟨hcz71_0, hcz71_1, hfz71_0, hfz71_1⟩ := CF_ BK101;have hnb72 := NB102_103.out;have hnc72 := NB103_102.out;have hcz73_0 : wc.cell? ⟨gb102, 0, none⟩ = some (.slice A1_0 l1_0.length c1_0) := (blk_cell BK102.out 0).trans rfl;have hcz73_1 : wc.cell? ⟨gb102, 1, none⟩ = some (.slice A1_1 l1_1.length c1_1) := (blk_cell BK102.out 1).trans rfl;have hfz73_0 := blk_frozen BK102.out 0;have hfz73_1 := blk_frozen BK102.out 1
     go_wp2_with (first | (refine GL_ 39 28 Tryz.func39 #[.slice A0_0 l0_0.length c0_0, .slice A1_0 l1_0.length c1_0] ?_; (with_reducible refine (shape_Same.calls _ _ l0_0 _ _ l1_0 false _ (CW_ HR0_0) HC0_0.out (CW_ HR1_0) HC1_0.out A26.out).mono ?_); rintro e w74 ⟨rfl, hb⟩; refine ⟨_, rfl, ?_⟩; replace BK101 := BF_ BK101 hb; replace BK102 := BF_ BK102 hb; replace BK103 := BF_ BK103 hb; replace HB := BU_ hb; clear hb; obtain ⟨hcz75_0, hcz75_1, hfz75_0, hfz75_1⟩ := CF_ BK103))
     refine bodyPost_ret (results_ct rfl _ _ gb103 25 #[.slice none 0 0, .slice none 0 0] (0, 0) _ rfl (by (with_reducible repeat (first | refine blk_drewN ?_ _ | refine blk_drew ?_ | refine blk_alloc ?_ _)); refine blk_put (cs := #[.slice none 0 0, .slice none 0 0]) ?_ 1 _ rfl; (with_reducible repeat (first | refine blk_drewN ?_ _ | refine blk_drew ?_ | refine blk_alloc ?_ _)); refine blk_put (cs := #[.slice none 0 0, .slice none 0 0]) ?_ 0 _ rfl; (with_reducible repeat (first | refine blk_drewN ?_ _ | refine blk_drew ?_ | refine blk_alloc ?_ _)); exact BK103.out) Tryz.underlying25 rfl (by kernel_rfl)) rfl ?_;exact ⟨_, _, by first | rfl | (simp [errW_none, errW_some] <;> rfl) | (simp [*, errW_none, errW_some] <;> rfl), by first | exact Kd.R_nil _ _ _ _ _ | exact Kd.N_nil _ _ _ _ _ | exact Kd.V_nil _ _ _ _ _ | exact Kd.Q_nil _ _ _ _ _ | exact Kd.S_nil _ _ _ _ _, by first | exact Kd.R_nil _ _ _ _ _ | exact Kd.N_nil _ _ _ _ _ | exact Kd.V_nil _ _ _ _ _ | exact Kd.Q_nil _ _ _ _ _ | exact Kd.S_nil _ _ _ _ _, T9_⟩
end Go.Proofs.YtndkjpkgllmbnaaGreatDoor.PJ
