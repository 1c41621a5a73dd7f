/- Maps of functions: what is put in, what is looked up; tensor.Zip's closure. -/
import Derived.Test.YtlglpffoijdgbaaGreatDoorTenB
import Derived.Carry
import Derived.MapKept
import Derived.Laws.EntriesVeiled
import Derived.Test.YtlglpffoijdgbaaGreatDoorTenT
-- mini
namespace Go.Proofs.YtlglpffoijdgbaaGreatDoor.Ten
open Go Go.RowKit Go.Extern.Stop Go.Stop Go.Extern Go.ZPWords Go.ZPMore Go.ZPLast Go.Proofs.YtlglpffoijdgbaaGreatDoor.PC Go.Proofs.YtlglpffoijdgbaaGreatDoor.Th Go.Proofs.YtlglpffoijdgbaaGreatDoor.Th.Wh Go.Proofs.YtlglpffoijdgbaaGreatDoor.Err
set_option maxHeartbeats 4000000
set_option maxRecDepth 1000000
set_option linter.unusedVariables false
section
variable {P : Program} {ops : Array Oper} {rest : List Oper} {o : Oper} {a : Act} {Q : Exit → Act → World → Prop}
theorem gate_insert {W : World} {t : TypeId} {m x v : Operand} (_ho : o.op = .insert t m x v) (h : wpList P ops Q (o :: rest) a W) : wpList P ops Q (o :: rest) a W := h
theorem map_event {W : World} (hgd : o.guard = none) {N : Tmp} (_hd : o.dst = some N) (t : TypeId) (ho : o.op = .makeMap t none)
    (h : ∀ b, b = W.heap.size → ∀ w1, w1.heap[b]? = some (.map #[] 0) → Below W.heap.size W w1 → wpList P ops Q rest (a.put o.dst (.map (some b))) w1) : wpList P ops Q (o :: rest) a W :=
  Kd.event_run hgd (by simp [execOp, ho, run_makeMap, Result.andThen]) (h _ rfl _ (blk_new W _) (below_alloc (Below.refl _ _) _))
theorem ins_event {W : World} (hgd : o.guard = none) {t k e : TypeId} {m x v : Operand} (ho : o.op = .insert t m x v) (ht : P.underlying t = some (.map k e)) (hk : P.underlying k = some .string)
    (b : Nat) (es : Array MapEntry) (clock : Nat) (key : ByteArray) (val : Value) (hm : a.eval m = .map (some b)) (hx : a.eval x = .string key) (hv : a.eval v = val) (hb : W.heap[b]? = some (.map es clock)) (hno : Instr.findNow .string (.string key) es.toList 0 = some none)
    (h : ∀ w1, w1.heap[b]? = some (.map (es.push ⟨.string key, val, clock⟩) (clock + 1)) → W.grownBy w1 (some b) → wpList P ops Q rest (a.put o.dst undef) w1) : wpList P ops Q (o :: rest) a W := by
 refine wpList_plain hgd fun K hK => ?_;have hs := MapKept.heap_set (o' := .map (es.push ⟨.string key, val, clock⟩) (clock + 1)) hb
 have hrun : (Instr.mapUpdate t (.map (some b)) (.string key) val).run P W = .ok () { W with heap := W.heap.setIfInBounds b (.map (es.push ⟨.string key, val, clock⟩) (clock + 1)) } := by
  have h2 := MapKept.run_findKey (w := W) hk hno;simp [Instr.mapUpdate, run_underlying ht, Result.andThen, MapKept.run_getObj_map hb, MapKept.run_checkKey hk (show MapKept.IsKey .string (.string key) from trivial), h2, MapKept.run_setObj_map _ hb]
 unfold Oper.wp;simp [execOp, ho, hm, hx, hv, hrun, Result.andThen];have h3 := hK _ _ (h { W with heap := W.heap.setIfInBounds b (.map (es.push ⟨.string key, val, clock⟩) (clock + 1)) } hs.1 ⟨rfl, rfl, rfl, by simp, fun i _ hi => hs.2 i (fun e => hi (by rw [e]))⟩);exact h3
theorem look_yes {W : World} (hgd : o.guard = none) {t k e : TypeId} {m x : Operand} (ho : o.op = .lookup t m x true) (ht : P.underlying t = some (.map k e)) (hk : P.underlying k = some .string)
    (b : Nat) (es : Array MapEntry) (clock : Nat) (key : ByteArray) (hm : a.eval m = .map (some b)) (hx : a.eval x = .string key) (hb : W.heap[b]? = some (.map es clock)) (i : Nat) (v : Value) (hf : Instr.findNow .string (.string key) es.toList 0 = some (some (i, v)))
    (h : wpList P ops Q rest (a.put o.dst (.tuple #[v, .bool true])) W) : wpList P ops Q (o :: rest) a W := by
 refine wpList_plain hgd fun K hK => ?_;have h2 := MapKept.run_findKey (w := W) hk hf
 have hrun : (Instr.lookup t (.map (some b)) (.string key) true).run P W = .ok (.tuple #[v, .bool true]) W := by
  simp [Instr.lookup, run_underlying ht, Result.andThen, MapKept.run_getObj_map hb, MapKept.run_checkKey hk (show MapKept.IsKey .string (.string key) from trivial), h2]
 unfold Oper.wp;simp [execOp, ho, hm, hx, hrun, Result.andThen];exact hK _ _ h
theorem look_no {W : World} (hgd : o.guard = none) {t k e : TypeId} {m x : Operand} (ho : o.op = .lookup t m x true) (ht : P.underlying t = some (.map k e)) (hk : P.underlying k = some .string) (hz : ∀ w, (zeroValue e).run P w = .ok .nilFunc w)
    (b : Nat) (es : Array MapEntry) (clock : Nat) (key : ByteArray) (hm : a.eval m = .map (some b)) (hx : a.eval x = .string key) (hb : W.heap[b]? = some (.map es clock)) (hf : Instr.findNow .string (.string key) es.toList 0 = some none)
    (h : wpList P ops Q rest (a.put o.dst (.tuple #[.nilFunc, .bool false])) W) : wpList P ops Q (o :: rest) a W := by
 refine wpList_plain hgd fun K hK => ?_;have h2 := MapKept.run_findKey (w := W) hk hf
 have hrun : (Instr.lookup t (.map (some b)) (.string key) true).run P W = .ok (.tuple #[.nilFunc, .bool false]) W := by
  simp [Instr.lookup, run_underlying ht, Result.andThen, MapKept.run_getObj_map hb, MapKept.run_checkKey hk (show MapKept.IsKey .string (.string key) from trivial), h2, hz]
 unfold Oper.wp;simp [execOp, ho, hm, hx, hrun, Result.andThen];exact hK _ _ h
end
theorem blk_map {W w1 : World} {g b : Nat} {o : Array Value} {ty : TypeId} {es : Array MapEntry} {clock : Nat} (h : W.heap[g]? = some (.cells o ty (0, 0))) (hm : W.heap[b]? = some (.map es clock)) (hg : W.grownBy w1 (some b)) : w1.heap[g]? = some (.cells o ty (0, 0)) := by
  refine (hg.block g (blk_lt h) (fun he => ?_)).trans h;injection he with he;rw [he, hm] at h
  cases h
theorem held_z {W w : World} {g8 g5 i : Nat} {ad : Addr} {fv y s2 : Value} (h8 : w.cell? ⟨g8, 0, none⟩ = some fv) (h5 : w.cell? ⟨g5, 1, none⟩ = some s2) (hy : w.cell? (ad.add i) = some y) (hb : Below W.heap.size W w) :
    w.cell? ⟨g8, 0, none⟩ = some fv ∧ w.cell? ⟨g5, 1, none⟩ = some s2 ∧ w.cell? (ad.add i) = some y ∧ Aside0 (Below W.heap.size W w) := ⟨h8, h5, hy, ⟨hb⟩⟩
theorem zip1_calls (N : Nat) (fn : Func) (hfn : Tryz.prog.funcs[N]? = some fn) (hnm : (fn.name == "runtime.NumGoroutine") = false) (hbd : fn.body.isSome = true) (i n c g8 g5 : Nat) (ad : Addr) (x y : ByteArray) (r : ByteArray) (e0 : Int) (w : World)
    (h8 : w.cell? ⟨g8, 0, none⟩ = some (.func (.func N) #[] #[])) (h5 : w.cell? ⟨g5, 1, none⟩ = some (.slice (some ad) n c)) (hy : w.cell? (ad.add i) = some (.string y)) (hi : i < n) (hn : n ≤ 1000)
    (hF : ∀ W, Below w.heap.size w W → Calls Tryz.prog N #[.string x, .string y] W fun e w' => e = .returned (.tuple #[.string r, .int .i64 e0]) ∧ Below W.heap.size W w') :
    Calls Tryz.prog 38 #[.int .i64 (i : Int), .string x, .pointer (some ⟨g8, 0, none⟩), .pointer (some ⟨g5, 0, none⟩)] w fun e w' => e = .returned (.tuple #[.string r, .int .i64 e0]) ∧ Below w.heap.size w w' := by
 have KF := A_ hF;clear hF;have HB := A_ (Below.refl w.heap.size w);have H8 := A_ h8;have H5 := A_ h5;have HY := A_ hy;have eN := fun args w => enters_ hfn hnm hbd args w;go_enter Tryz.func38, Tryz.ntmps38;go_wp2
 go_region_held3 (fun w' => w'.cell? ⟨g8, 0, none⟩ = some (.func (.func N) #[] #[]) ∧ w'.cell? ⟨g5, 1, none⟩ = some (.slice (some ad) n c) ∧ w'.cell? (ad.add i) = some (.string y) ∧ Aside0 (Below w.heap.size w w')) (first | exact held_z H8.out H5.out HY.out (below_drew HB.out) | (obtain ⟨s8, s5, sy, sb⟩ := ‹_ ∧ _›; exact held_z (cell_below hb s8) (cell_below hb s5) (cell_below hb sy) (below_step sb.out hb)) | trace_state)
  ((go_at_fn N; with_reducible refine (KF.out _ (by obtain ⟨_, _, _, sb⟩ := ‹_ ∧ _›; exact sb.out)).mono ?_; rintro e w' ⟨rfl, hb⟩))
 rename_i hh;obtain ⟨_, _, _, HB⟩ := hh;go_wp2;go_ret2;exact ⟨rfl, HB.out⟩
end Go.Proofs.YtlglpffoijdgbaaGreatDoor.Ten
/- tensor.Zip: the walks. -/
namespace Go.Proofs.YtlglpffoijdgbaaGreatDoor.Ten
open Go Go.RowKit Go.Extern.Stop Go.Stop Go.Extern Go.ZPWords Go.ZPMore Go.ZPLast Go.Proofs.YtlglpffoijdgbaaGreatDoor.PC Go.Proofs.YtlglpffoijdgbaaGreatDoor.Th Go.Proofs.YtlglpffoijdgbaaGreatDoor.Th.Wh Go.Proofs.YtlglpffoijdgbaaGreatDoor.Err
set_option maxHeartbeats 4000000
set_option maxRecDepth 1000000
set_option linter.unusedVariables false
theorem zip_op (op : ByteArray) (A0 : Option Addr) (c0 : Nat) (A1 : Option Addr) (c1 : Nat) (s : List Int) (d : List ByteArray) (B0 : Option Addr) (e0 : Nat) (B1 : Option Addr) (e1 : Nat) (s2 : List Int) (d2 : List ByteArray) (w : World) (hG : Gs w) (hr0 : Kd.C (Kd.int .i64) w A0 s.length s) (hc0 : s.length ≤ c0) (hr1 : Kd.C Kd.string w A1 d.length d) (hs : s.length ≤ 1000) (hl : d.length ≤ 1000) (hd : ∀ x ∈ d, x.size ≤ 40000000000) (ir0 : Kd.C (Kd.int .i64) w B0 s2.length s2) (ic0 : s2.length ≤ e0) (ir1 : Kd.C Kd.string w B1 d2.length d2) (is : s2.length ≤ 1000) (il : d2.length ≤ 1000) (id' : ∀ x ∈ d2, x.size ≤ 40000000000) (hf : Instr.findNow .string (.string op) [⟨.string ⟨#[97, 100, 100]⟩, (.func (.func 34) #[] #[]), 0⟩, ⟨.string ⟨#[115, 117, 98]⟩, (.func (.func 35) #[] #[]), 1⟩, ⟨.string ⟨#[109, 117, 108]⟩, (.func (.func 21) #[] #[]), 2⟩] 0 = some none) :
    Calls Tryz.prog 14 #[.string op, .agg #[.slice A0 s.length c0, .slice A1 d.length c1], .agg #[.slice B0 s2.length e0, .slice B1 d2.length e1]] w fun e w' => ∃ v0_ v1_ : Value, e = .returned (.tuple #[.agg #[v0_, v1_], .int .i64 1]) ∧ Kd.R (Kd.int .i64) 3 w' w.heap.size (fun _ => True) v0_ ([] : List Int) ∧ Kd.R Kd.string 9 w' w.heap.size (fun _ => True) v1_ ([] : List ByteArray) ∧ Below w.heap.size w w' := by
 have HF := A_ hf;have HB := A_ (Below.refl w.heap.size w);clear hG hr0 hc0 hr1 hs hl hd ir0 ic0 ir1 is il id' hf;go_enter Tryz.func14, Tryz.ntmps14
 go_wp2_with (first
  | (refine BX_ 4 #[.slice A0 s.length c0, .slice A1 d.length c1] 25 ?_; intro g4 hg w4 hbox hb; have BK4 := A_ hbox; replace HB := BT_ hb; clear hb hbox hg)
  | (refine BX_ 5 #[.slice B0 s2.length e0, .slice B1 d2.length e1] 25 ?_; intro g5 hg w5 hbox hb; have BK5 := A_ hbox; have NE4_5 := NB_ BK4 hg; replace BK4 := BF_ BK4 hb; replace HB := BT_ hb; clear hb hbox hg)
  | (refine BX_ 6 #[.slice none 0 0, .slice none 0 0] 25 ?_; intro g6 hg w6 hbox hb; have BK6 := A_ hbox; have GE6 := GE_ (w := w) hg; have NE4_6 := NB_ BK4 hg; replace BK4 := BF_ BK4 hb; have NE5_6 := NB_ BK5 hg; replace BK5 := BF_ BK5 hb; replace HB := BT_ hb; clear hb hbox hg)
  | ((with_reducible refine gate_dst (N := 11) rfl ?_); refine map_event rfl (N := 11) rfl 59 rfl ?_; intro b11 hg w11 hbm hb; have HM := A_ hbm; have GE11 := GE_ (w := w) hg; replace BK4 := BF_ BK4 hb; replace BK5 := BF_ BK5 hb; replace BK6 := BF_ BK6 hb; replace HB := BT_ hb; clear hb hbm hg)
  | ((refine gate_insert (v := .func 34) rfl ?_); refine ins_event rfl rfl Tryz.underlying59 Tryz.underlying9 b11 _ _ ⟨#[97, 100, 100]⟩ (.func (.func 34) #[] #[]) rfl rfl rfl HM.out (by kernel_rfl) ?_; intro wi0 hbm hg; replace BK4 := A_ (blk_map BK4.out HM.out hg); replace BK5 := A_ (blk_map BK5.out HM.out hg); replace BK6 := A_ (blk_map BK6.out HM.out hg); replace HB := A_ (HB.out.grown hg HB.out.size (fun k hk => by injection hk with hk; rw [← hk]; exact GE11.out)); replace HM := A_ hbm; clear hbm hg)
  | ((refine gate_insert (v := .func 35) rfl ?_); refine ins_event rfl rfl Tryz.underlying59 Tryz.underlying9 b11 _ _ ⟨#[115, 117, 98]⟩ (.func (.func 35) #[] #[]) rfl rfl rfl HM.out (by kernel_rfl) ?_; intro wi1 hbm hg; replace BK4 := A_ (blk_map BK4.out HM.out hg); replace BK5 := A_ (blk_map BK5.out HM.out hg); replace BK6 := A_ (blk_map BK6.out HM.out hg); replace HB := A_ (HB.out.grown hg HB.out.size (fun k hk => by injection hk with hk; rw [← hk]; exact GE11.out)); replace HM := A_ hbm; clear hbm hg)
  | ((refine gate_insert (v := .func 21) rfl ?_); refine ins_event rfl rfl Tryz.underlying59 Tryz.underlying9 b11 _ _ ⟨#[109, 117, 108]⟩ (.func (.func 21) #[] #[]) rfl rfl rfl HM.out (by kernel_rfl) ?_; intro wi2 hbm hg; replace BK4 := A_ (blk_map BK4.out HM.out hg); replace BK5 := A_ (blk_map BK5.out HM.out hg); replace BK6 := A_ (blk_map BK6.out HM.out hg); replace HB := A_ (HB.out.grown hg HB.out.size (fun k hk => by injection hk with hk; rw [← hk]; exact GE11.out)); replace HM := A_ hbm; clear hbm hg)
  | ((with_reducible refine gate_dst (N := 14) rfl ?_); refine look_no rfl rfl Tryz.underlying59 Tryz.underlying9 (fun _ => by kernel_rfl) b11 _ _ op rfl rfl HM.out HF.out ?_)
  | (refine BX_ 8 #[.nilFunc] 38 ?_; intro g8 hg w8 hbox hb; have BK8 := A_ hbox; have GE8 := GE_ (w := w) hg; have NE4_8 := NB_ BK4 hg; replace BK4 := BF_ BK4 hb; have NE5_8 := NB_ BK5 hg; replace BK5 := BF_ BK5 hb; have NE6_8 := NB_ BK6 hg; replace BK6 := BF_ BK6 hb; replace HB := BT_ hb; clear hb hbox hg; have hz8_0 : w8.cell? ⟨g8, 0, none⟩ = some (.nilFunc) := (blk_cell BK8.out 0).trans rfl; have hz8_1 := CA_ BK6; have hz8_2 := CB_ BK6; have hz8_3 := CA_ BK4; have hz8_4 := CB_ BK4; have hf8 := blk_frozen BK8.out 0; have hf60 := blk_frozen BK6.out 0; have hf61 := blk_frozen BK6.out 1; have hn4 := NE4_8.out; have hn6 := NE6_8.out; have hn46 := NE4_6.out; have hn56 := NE5_6.out))
 refine bodyPost_ret (results_ct rfl _ _ g6 25 #[.slice none 0 0, .slice none 0 0] (0, 0) _ rfl (blk_put (blk_put (blk_far BK6.out NE6_8.out _) 0 (.slice none 0 0) rfl) 1 (.slice none 0 0) rfl) Tryz.underlying25 rfl (by kernel_rfl)) rfl ?_;exact ⟨_, _, rfl, Kd.R_nil _ _ _ _ _, Kd.R_nil _ _ _ _ _, T6_⟩
theorem zip_all (op : ByteArray) (A0 : Option Addr) (c0 : Nat) (A1 : Option Addr) (c1 : Nat) (s : List Int) (d : List ByteArray) (B0 : Option Addr) (e0 : Nat) (B1 : Option Addr) (e1 : Nat) (s2 : List Int) (d2 : List ByteArray) (ix N : Nat) (fn : Func) (hfn : Tryz.prog.funcs[N]? = some fn) (hnm : (fn.name == "runtime.NumGoroutine") = false) (hbd : fn.body.isSome = true) (rf : ByteArray → ByteArray → ByteArray × Int) (r : Int) (r0 : List Int) (r1 : List ByteArray) (w : World) (hG : Gs w) (hr0 : Kd.C (Kd.int .i64) w A0 s.length s) (hc0 : s.length ≤ c0) (hr1 : Kd.C Kd.string w A1 d.length d) (hs : s.length ≤ 1000) (hl : d.length ≤ 1000) (hd : ∀ x ∈ d, x.size ≤ 40000000000) (ir0 : Kd.C (Kd.int .i64) w B0 s2.length s2) (ic0 : s2.length ≤ e0) (ir1 : Kd.C Kd.string w B1 d2.length d2) (is : s2.length ≤ 1000) (il : d2.length ≤ 1000) (id' : ∀ x ∈ d2, x.size ≤ 40000000000) (hf : Instr.findNow .string (.string op) [⟨.string ⟨#[97, 100, 100]⟩, (.func (.func 34) #[] #[]), 0⟩, ⟨.string ⟨#[115, 117, 98]⟩, (.func (.func 35) #[] #[]), 1⟩, ⟨.string ⟨#[109, 117, 108]⟩, (.func (.func 21) #[] #[]), 2⟩] 0 = some (some (ix, (.func (.func N) #[] #[]))))
    (hF : ∀ x ∈ d, ∀ y ∈ d2, ∀ W, Below w.heap.size w W → Calls Tryz.prog N #[.string x, .string y] W fun e w' => e = .returned (.tuple #[.string (rf x y).1, .int .i64 (rf x y).2]) ∧ Below W.heap.size W w')
    (hc : (tRight ⟨s, d⟩ = false ∧ r = 1 ∧ r0 = [] ∧ r1 = []) ∨ (tRight ⟨s, d⟩ = true ∧ tRight ⟨s2, d2⟩ = false ∧ r = 1 ∧ r0 = [] ∧ r1 = []) ∨ (tRight ⟨s, d⟩ = true ∧ tRight ⟨s2, d2⟩ = true ∧ decide (s = s2) = false ∧ r = 4 ∧ r0 = [] ∧ r1 = []) ∨ (tRight ⟨s, d⟩ = true ∧ tRight ⟨s2, d2⟩ = true ∧ decide (s = s2) = true ∧ d.length ≤ d2.length ∧ (∀ i : Nat, i < d.length → (rf (rdOf ByteArray.empty d (i : Int)) (rdOf ByteArray.empty d2 (i : Int))).2 = 0) ∧ r = 0 ∧ s = r0 ∧ r1 = ((List.range d.length).map fun (i : Nat) => (rf (rdOf ByteArray.empty d (i : Int)) (rdOf ByteArray.empty d2 (i : Int))).1))) :
    Calls Tryz.prog 14 #[.string op, .agg #[.slice A0 s.length c0, .slice A1 d.length c1], .agg #[.slice B0 s2.length e0, .slice B1 d2.length e1]] w fun e w' => ∃ v0_ v1_ : Value, e = .returned (.tuple #[.agg #[v0_, v1_], .int .i64 r]) ∧ Kd.R (Kd.int .i64) 3 w' w.heap.size (fun _ => True) v0_ r0 ∧ Kd.R Kd.string 9 w' w.heap.size (fun _ => True) v1_ r1 ∧ Below w.heap.size w w' := by
 have HF := A_ hf;have KA := A_ (fun (W : World) (hb : Below w.heap.size w W) => (show Calls Tryz.prog 15 #[.agg #[.slice A0 s.length c0, .slice A1 d.length c1]] W _ from tright_calls A0 c0 A1 c1 ⟨s, d⟩ W (hG.below hb) (Kd.C_below hr0 hb) hc0 (Kd.C_below hr1 hb) hs hl hd));have KB := A_ (fun (W : World) (hb : Below w.heap.size w W) => (show Calls Tryz.prog 15 #[.agg #[.slice B0 s2.length e0, .slice B1 d2.length e1]] W _ from tright_calls B0 e0 B1 e1 ⟨s2, d2⟩ W (hG.below hb) (Kd.C_below ir0 hb) ic0 (Kd.C_below ir1 hb) is il id'));have KS := A_ (fun (W : World) (hb : Below w.heap.size w W) => shSame_calls A0 c0 s B0 e0 s2 W (Kd.C_below hr0 hb) hc0 (Kd.C_below ir0 hb) ic0 hs);have HB := A_ (Below.refl w.heap.size w);rcases hc with ⟨ht, rfl, rfl, rfl⟩ | ⟨ht, hu, rfl, rfl, rfl⟩ | ⟨ht, hu, he, rfl, rfl, rfl⟩ | ⟨ht, hu, he, hdl, ho, rfl, rfl, rfl⟩
 all_goals
  first
   | have KE := A_ (fun (W : World) (g8 g5 : Nat) (hb : Below w.heap.size w W) (h8 : W.cell? ⟨g8, 0, none⟩ = some (.func (.func N) #[] #[])) (h5 : W.cell? ⟨g5, 1, none⟩ = some (.slice B1 d2.length e1)) => each_calls 38 _ Tryz.func38 (by kernel_rfl) rfl #[.pointer (some ⟨g8, 0, none⟩), .pointer (some ⟨g5, 0, none⟩)] (fun i => (rf (rdOf ByteArray.empty d (i : Int)) (rdOf ByteArray.empty d2 (i : Int))).1) A0 c0 A1 c1 ⟨s, d⟩ W (Kd.C_below hr0 hb) (Kd.C_below hr1 hb) hs hl (fun i hi W2 hb2 => by
    have hi : i < d.length := hi;obtain ⟨ad, e, hx⟩ := Kd.at_string (Kd.C_below ir1 (below_step hb hb2)) (i : Int) (by omega) (by omega);rw [Int.toNat_natCast] at hx;have h := zip1_calls N fn hfn hnm hbd i d2.length e1 g8 g5 ad (rdOf ByteArray.empty d (i : Int)) (rdOf ByteArray.empty d2 (i : Int)) _ _ W2 (cell_below hb2 h8) (by rw [← e]; exact cell_below hb2 h5) hx (by omega) il (fun W3 hb3 => hF _ (rdOf_mem d i hi) _ (rdOf_mem d2 i (by omega)) W3 (below_step (below_step hb hb2) hb3));rw [ho i hi] at h;exact h))
   | have KE := A_ True.intro
  rw [ht] at KA
  (try rw [hu] at KB)
  (try rw [he] at KS)
  clear hG hr0 hc0 hr1 hs hl hd ir0 ic0 ir1 is il id' hf ht hF
  (try clear hu)
  (try clear he)
  (try clear ho)
  (try clear hdl)
  go_enter Tryz.func14, Tryz.ntmps14
  go_wp2_with (first
   | (refine BX_ 4 #[.slice A0 s.length c0, .slice A1 d.length c1] 25 ?_; intro g4 hg w4 hbox hb; have BK4 := A_ hbox; replace HB := BT_ hb; clear hb hbox hg)
   | (refine BX_ 5 #[.slice B0 s2.length e0, .slice B1 d2.length e1] 25 ?_; intro g5 hg w5 hbox hb; have BK5 := A_ hbox; have NE4_5 := NB_ BK4 hg; replace BK4 := BF_ BK4 hb; replace HB := BT_ hb; clear hb hbox hg)
   | (refine BX_ 6 #[.slice none 0 0, .slice none 0 0] 25 ?_; intro g6 hg w6 hbox hb; have BK6 := A_ hbox; have GE6 := GE_ (w := w) hg; have NE4_6 := NB_ BK4 hg; replace BK4 := BF_ BK4 hb; have NE5_6 := NB_ BK5 hg; replace BK5 := BF_ BK5 hb; replace HB := BT_ hb; clear hb hbox hg)
   | ((with_reducible refine gate_dst (N := 11) rfl ?_); refine map_event rfl (N := 11) rfl 59 rfl ?_; intro b11 hg w11 hbm hb; have HM := A_ hbm; have GE11 := GE_ (w := w) hg; replace BK4 := BF_ BK4 hb; replace BK5 := BF_ BK5 hb; replace BK6 := BF_ BK6 hb; replace HB := BT_ hb; clear hb hbm hg)
   | ((refine gate_insert (v := .func 34) rfl ?_); refine ins_event rfl rfl Tryz.underlying59 Tryz.underlying9 b11 _ _ ⟨#[97, 100, 100]⟩ (.func (.func 34) #[] #[]) rfl rfl rfl HM.out (by kernel_rfl) ?_; intro wi0 hbm hg; replace BK4 := A_ (blk_map BK4.out HM.out hg); replace BK5 := A_ (blk_map BK5.out HM.out hg); replace BK6 := A_ (blk_map BK6.out HM.out hg); replace HB := A_ (HB.out.grown hg HB.out.size (fun k hk => by injection hk with hk; rw [← hk]; exact GE11.out)); replace HM := A_ hbm; clear hbm hg)
   | ((refine gate_insert (v := .func 35) rfl ?_); refine ins_event rfl rfl Tryz.underlying59 Tryz.underlying9 b11 _ _ ⟨#[115, 117, 98]⟩ (.func (.func 35) #[] #[]) rfl rfl rfl HM.out (by kernel_rfl) ?_; intro wi1 hbm hg; replace BK4 := A_ (blk_map BK4.out HM.out hg); replace BK5 := A_ (blk_map BK5.out HM.out hg); replace BK6 := A_ (blk_map BK6.out HM.out hg); replace HB := A_ (HB.out.grown hg HB.out.size (fun k hk => by injection hk with hk; rw [← hk]; exact GE11.out)); replace HM := A_ hbm; clear hbm hg)
   | ((refine gate_insert (v := .func 21) rfl ?_); refine ins_event rfl rfl Tryz.underlying59 Tryz.underlying9 b11 _ _ ⟨#[109, 117, 108]⟩ (.func (.func 21) #[] #[]) rfl rfl rfl HM.out (by kernel_rfl) ?_; intro wi2 hbm hg; replace BK4 := A_ (blk_map BK4.out HM.out hg); replace BK5 := A_ (blk_map BK5.out HM.out hg); replace BK6 := A_ (blk_map BK6.out HM.out hg); replace HB := A_ (HB.out.grown hg HB.out.size (fun k hk => by injection hk with hk; rw [← hk]; exact GE11.out)); replace HM := A_ hbm; clear hbm hg)
   | ((with_reducible refine gate_dst (N := 14) rfl ?_); refine look_yes rfl rfl Tryz.underlying59 Tryz.underlying9 b11 _ _ op rfl rfl HM.out ix _ HF.out ?_)
   | (refine BX_ 8 #[.nilFunc] 38 ?_; intro g8 hg w8 hbox hb; have BK8 := A_ hbox; have GE8 := GE_ (w := w) hg; have NE4_8 := NB_ BK4 hg; replace BK4 := BF_ BK4 hb; have NE5_8 := NB_ BK5 hg; replace BK5 := BF_ BK5 hb; have NE6_8 := NB_ BK6 hg; replace BK6 := BF_ BK6 hb; replace HB := BT_ hb; clear hb hbox hg; have hz8_0 : w8.cell? ⟨g8, 0, none⟩ = some (.nilFunc) := (blk_cell BK8.out 0).trans rfl; have hz8_1 := CA_ BK6; have hz8_2 := CB_ BK6; have hz8_3 := CA_ BK4; have hz8_4 := CB_ BK4; have hf8 := blk_frozen BK8.out 0; have hf60 := blk_frozen BK6.out 0; have hf61 := blk_frozen BK6.out 1; have hn4 := NE4_8.out; have hn6 := NE6_8.out; have hn46 := NE4_6.out; have hn56 := NE5_6.out)
   | (go_at_call 15; with_reducible refine (KA.out _ T6_).mono ?_; rintro e w20 ⟨rfl, hb⟩; replace BK4 := BG_ BK4 hb; replace BK5 := BG_ BK5 hb; replace BK6 := BG_ BK6 hb; replace BK8 := A_ (blk_below (blk_put BK8.out 0 (.func (.func N) #[] #[]) rfl) hb); replace HB := BT_ hb; clear hb; have hyw20_0 := CA_ BK6; have hyw20_1 := CB_ BK6; have hyw20_2 := CA_ BK5; have hyw20_3 := CB_ BK5; have hfzw200 := blk_frozen BK6.out 0; have hfzw201 := blk_frozen BK6.out 1)
   | (go_at_call 15; with_reducible refine (KB.out _ T6_).mono ?_; rintro e w21 ⟨rfl, hb⟩; replace BK4 := BF_ BK4 hb; replace BK5 := BF_ BK5 hb; replace BK6 := BF_ BK6 hb; replace BK8 := BF_ BK8 hb; replace HB := BT_ hb; clear hb; have hyw21_0 := CA_ BK6; have hyw21_1 := CB_ BK6; have hyw21_2 := CA_ BK4; have hyw21_3 := CA_ BK5; have hfzw210 := blk_frozen BK6.out 0; have hfzw211 := blk_frozen BK6.out 1)
   | (go_at_call 36; with_reducible refine (KS.out _ T6_).mono ?_; rintro e w22 ⟨rfl, hb⟩; replace BK4 := BF_ BK4 hb; replace BK5 := BF_ BK5 hb; replace BK6 := BF_ BK6 hb; replace BK8 := BF_ BK8 hb; replace HB := BT_ hb; clear hb; have hy22_0 := CA_ BK6; have hy22_1 := CB_ BK6; have hy22_2 := CA_ BK4; have hy22_3 := CB_ BK4; have hfz0 := blk_frozen BK6.out 0; have hfz1 := blk_frozen BK6.out 1)
   | (go_at_call 37; with_reducible refine (KE.out _ g8 g5 T6_ ((blk_cell BK8.out 0).trans rfl) ((blk_cell BK5.out 1).trans rfl)).mono ?_; rintro e w23 ⟨v0, v1, rfl, h0, h1, hb⟩; obtain ⟨Av, av, rfl⟩ := Kd.R_slice h0; obtain ⟨Bv, bv, rfl⟩ := Kd.R_slice h1; have HO0 := A_ (Kd.R_lower h0 (below_size T6_)); have HO1 := A_ (Kd.R_lower h1 (below_size T6_)); clear h0 h1; generalize List.length (List.map _ (List.range d.length)) = q at *; replace BK6 := BF_ BK6 hb; replace HB := BT_ hb; clear hb; obtain ⟨hy23_0, hy23_1, hfy0, hfy1⟩ := CF_ BK6))
  first
   | (refine bodyPost_ret (results_ct rfl _ _ g6 25 #[.slice Av s.length av, .slice Bv q bv] (0, 0) _ rfl (blk_put (blk_put BK6.out 0 (.slice Av s.length av) rfl) 1 (.slice Bv q bv) rfl) Tryz.underlying25 rfl (by kernel_rfl)) rfl ?_; exact ⟨_, _, rfl, row_set2 HO0.out rfl BK6.out (by decide) _ _ _ _, row_set2 HO1.out rfl BK6.out (by decide) _ _ _ _, T6_⟩)
   | (refine bodyPost_ret (results_ct rfl _ _ g6 25 #[.slice none 0 0, .slice none 0 0] (0, 0) _ rfl (blk_put (blk_put BK6.out 0 (.slice none 0 0) rfl) 1 (.slice none 0 0) rfl) Tryz.underlying25 rfl (by kernel_rfl)) rfl ?_; exact ⟨_, _, rfl, Kd.R_nil _ _ _ _ _, Kd.R_nil _ _ _ _ _, T6_⟩)
end Go.Proofs.YtlglpffoijdgbaaGreatDoor.Ten
/- tensor.Zip: the contract. -/
namespace Go.Proofs.YtlglpffoijdgbaaGreatDoor.Ten
open Go Go.RowKit Go.ZPWords Go.ZPMore Go.ZPLast Go.Proofs.YtlglpffoijdgbaaGreatDoor.PC Go.Proofs.YtlglpffoijdgbaaGreatDoor.Th Go.Proofs.YtlglpffoijdgbaaGreatDoor.Th.Wh Go.Proofs.YtlglpffoijdgbaaGreatDoor.Err
set_option linter.unusedVariables false
theorem zip_calls (op : ByteArray) (A0 : Option Addr) (c0 : Nat) (A1 : Option Addr) (c1 : Nat) (s : List Int) (d : List ByteArray) (B0 : Option Addr) (e0 : Nat) (B1 : Option Addr) (e1 : Nat) (s2 : List Int) (d2 : List ByteArray) (w : World) (hG : Gs w)
    (hr0 : Kd.C (Kd.int .i64) w A0 s.length s) (hc0 : s.length ≤ c0) (hr1 : Kd.C Kd.string w A1 d.length d) (h : Sm s d) (ir0 : Kd.C (Kd.int .i64) w B0 s2.length s2) (ic0 : s2.length ≤ e0) (ir1 : Kd.C Kd.string w B1 d2.length d2) (i : Sm s2 d2) :
    Calls Tryz.prog 14 #[.string op, .agg #[.slice A0 s.length c0, .slice A1 d.length c1], .agg #[.slice B0 s2.length e0, .slice B1 d2.length e1]] w (Res w (tZip op ⟨s, d⟩ ⟨s2, d2⟩)) := by
 have key : ∀ (ix N : Nat) (fn : Func) (hfn : Tryz.prog.funcs[N]? = some fn) (hnm : (fn.name == "runtime.NumGoroutine") = false) (hbd : fn.body.isSome = true) (rf : ByteArray → ByteArray → ByteArray × Int) (hok : ∀ {x y}, rRight x = true → rRight y = true → (rf x y).2 = 0)
  (hf : Instr.findNow .string (.string op) [⟨.string ⟨#[97, 100, 100]⟩, (.func (.func 34) #[] #[]), 0⟩, ⟨.string ⟨#[115, 117, 98]⟩, (.func (.func 35) #[] #[]), 1⟩, ⟨.string ⟨#[109, 117, 108]⟩, (.func (.func 21) #[] #[]), 2⟩] 0 = some (some (ix, (.func (.func N) #[] #[]))))
  (hF : ∀ x y, x.size ≤ 40000000000 → y.size ≤ 40000000000 → ∀ W, Gs W → Calls Tryz.prog N #[.string x, .string y] W fun e w' => e = .returned (.tuple #[.string (rf x y).1, .int .i64 (rf x y).2]) ∧ Below W.heap.size W w'),
  Calls Tryz.prog 14 #[.string op, .agg #[.slice A0 s.length c0, .slice A1 d.length c1], .agg #[.slice B0 s2.length e0, .slice B1 d2.length e1]] w (Res w (if tRight ⟨s, d⟩ = true then if tRight ⟨s2, d2⟩ = true then if s = s2 then (⟨s, List.zipWith (fun x y => (rf x y).1) d d2⟩, 0) else (nilT, 4) else (nilT, 1) else (nilT, 1))) := by
  intro ix N fn hfn hnm hbd rf hok hf hF
  have hF' : ∀ x ∈ d, ∀ y ∈ d2, ∀ W, Below w.heap.size w W → Calls Tryz.prog N #[.string x, .string y] W fun e w' => e = .returned (.tuple #[.string (rf x y).1, .int .i64 (rf x y).2]) ∧ Below W.heap.size W w' := fun x hx y hy W hb => hF x y (h.big x hx) (i.big y hy) W (hG.below hb)
  by_cases ht : tRight ⟨s, d⟩ = true
  · rw [if_pos ht];by_cases hu : tRight ⟨s2, d2⟩ = true
    · rw [if_pos hu];by_cases he : s = s2
      · rw [if_pos he]
        have hl : d.length = d2.length := by
         have h1 := (tRight_sh ht).2;have h2 := (tRight_sh hu).2;dsimp only at h1 h2;rw [he] at h1;omega
        have := zip_all op A0 c0 A1 c1 s d B0 e0 B1 e1 s2 d2 ix N fn hfn hnm hbd rf 0 s _ w hG hr0 hc0 hr1 h.1 h.2.1 h.big ir0 ic0 ir1 i.1 i.2.1 i.big hf hF' (Or.inr (Or.inr (Or.inr ⟨ht, hu, decide_eq_true he, by omega, fun j hj => hok (tRight_all ht _ (rdOf_mem d j hj)) (tRight_all hu _ (rdOf_mem d2 j (by omega))), rfl, rfl, rfl⟩)));rw [zip_at d d2 (fun x y => (rf x y).1) hl] at this;exact this
      rw [if_neg he];exact zip_all op A0 c0 A1 c1 s d B0 e0 B1 e1 s2 d2 ix N fn hfn hnm hbd rf 4 [] [] w hG hr0 hc0 hr1 h.1 h.2.1 h.big ir0 ic0 ir1 i.1 i.2.1 i.big hf hF' (Or.inr (Or.inr (Or.inl ⟨ht, hu, decide_eq_false he, rfl, rfl, rfl⟩)))
    rw [if_neg hu];exact zip_all op A0 c0 A1 c1 s d B0 e0 B1 e1 s2 d2 ix N fn hfn hnm hbd rf 1 [] [] w hG hr0 hc0 hr1 h.1 h.2.1 h.big ir0 ic0 ir1 i.1 i.2.1 i.big hf hF' (Or.inr (Or.inl ⟨ht, by simpa using hu, rfl, rfl, rfl⟩))
  · rw [if_neg ht];exact zip_all op A0 c0 A1 c1 s d B0 e0 B1 e1 s2 d2 ix N fn hfn hnm hbd rf 1 [] [] w hG hr0 hc0 hr1 h.1 h.2.1 h.big ir0 ic0 ir1 i.1 i.2.1 i.big hf hF' (Or.inl ⟨by simpa using ht, rfl, rfl, rfl⟩)
 unfold tZip opf
 have hn : ∀ {a b : ByteArray}, a ≠ b → (a == b) = false := fun {a b} h => by
  rw [Bool.eq_false_iff];exact fun e => h ((MapKept.bytes_beq a b).1 e)
 by_cases c1' : op = ⟨#[97, 100, 100]⟩
 · rw [if_pos c1'];exact key 0 34 _ Tryz.func34 (by kernel_rfl) rfl rAdd rAdd_ok (by rw [c1']; kernel_rfl) (fun x y hx hy W hG => add_calls x y hx hy W hG)
 rw [if_neg c1'];by_cases c2' : op = ⟨#[115, 117, 98]⟩
 · rw [if_pos c2'];exact key 1 35 _ Tryz.func35 (by kernel_rfl) rfl rSub rSub_ok (by rw [c2']; kernel_rfl) (fun x y hx hy W hG => sub_calls x y hx hy W hG)
 rw [if_neg c2'];by_cases c3' : op = ⟨#[109, 117, 108]⟩
 · rw [if_pos c3'];exact key 2 21 _ Tryz.func21 (by kernel_rfl) rfl rMul rMul_ok (by rw [c3']; kernel_rfl) (fun x y hx hy W hG => mul_calls x y hx hy W hG)
 rw [if_neg c3'];exact zip_op op A0 c0 A1 c1 s d B0 e0 B1 e1 s2 d2 w hG hr0 hc0 hr1 h.1 h.2.1 h.big ir0 ic0 ir1 i.1 i.2.1 i.big (by simp [Instr.findNow, Instr.sameNow, hn c1', hn c2', hn c3'])
end Go.Proofs.YtlglpffoijdgbaaGreatDoor.Ten
