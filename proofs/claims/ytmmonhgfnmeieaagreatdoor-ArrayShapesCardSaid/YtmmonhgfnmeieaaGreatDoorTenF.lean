/- slices.Repeat of a row of one text: the walk. -/
import Derived.Test.YtmmonhgfnmeieaaGreatDoorTenB
import Derived.Test.YtmmonhgfnmeieaaGreatDoorPUx
import Derived.Test.YtmmonhgfnmeieaaGreatDoorTenT
-- mini
namespace Go.Proofs.YtmmonhgfnmeieaaGreatDoor.Ten
open Go Go.RowKit Go.Extern.Stop Go.Stop Go.Extern Go.ZPWords Go.ZPMore Go.ZPLast Go.Proofs.YtmmonhgfnmeieaaGreatDoor.PC Go.Proofs.YtmmonhgfnmeieaaGreatDoor.Th Go.Proofs.YtmmonhgfnmeieaaGreatDoor.Th.Wh Go.Proofs.YtmmonhgfnmeieaaGreatDoor.Err
set_option maxHeartbeats 4000000
set_option maxRecDepth 1000000
set_option linter.unusedVariables false
set_option linter.unusedSimpArgs false
theorem mul_one' : ∀ m : Nat, m < 65 → PU.bits_Mul.f 1 (m : Int) = some (0, (m : Int)) := by decide +kernel
/-- A row filled with k up to a place, and with empty texts behind it. -/
def fl (k : ByteArray) (p n : Nat) : List Value := List.replicate p (.string k) ++ List.replicate (n - p) (.string ⟨#[]⟩)
theorem fl_len (k : ByteArray) (p n : Nat) (h : p ≤ n) : (fl k p n).length = n := by simp [fl]; omega
theorem made_fl (k : ByteArray) (n : Nat) : madeCells (Value.string ⟨#[]⟩).cells (n * 1) = (fl k 0 n).toArray := by
 apply Array.ext
 · simp [size_madeCells, fl]
 intro i h1 h2;simp [madeCells, fl, Value.cells, Nat.mod_one]
theorem splice_fl (k : ByteArray) (p n q : Nat) (h : p + q ≤ n) : splice (fl k p n) p (List.replicate q (.string k)) = fl k (p + q) n := by
 have e1 : (List.replicate p (Value.string k) ++ List.replicate (n - p) (Value.string ⟨#[]⟩)).take p = List.replicate p (.string k) := List.take_left' (by simp)
 have e2 : (List.replicate p (Value.string k) ++ List.replicate (n - p) (Value.string ⟨#[]⟩)).drop (p + q) = List.replicate (n - (p + q)) (Value.string ⟨#[]⟩) := by
  rw [List.drop_append, List.drop_eq_nil_of_le (by simp), List.nil_append, List.drop_replicate, List.length_replicate];congr 1;omega
 unfold splice fl;rw [List.length_replicate, e1, e2, ← List.append_assoc, List.replicate_append_replicate]
theorem fl_get (k : ByteArray) (p n j : Nat) (h : j < p) : (fl k p n).toArray[j]? = some (.string k) := by
  simp [fl, List.getElem?_append, h]
theorem cell_fl {k : ByteArray} {p n g : Nat} {w : World} (h : w.heap[g]? = some (.cells (fl k p n).toArray 9 (0, 0))) (q : Nat) (hq : q ≤ p) (j : Nat) (v : Value) (hj : (List.replicate q (Value.string k))[j]? = some v) : w.cell? ((⟨g, 0, none⟩ : Addr).add j) = some v := by
 rw [add_plain, blk_cell h j];rw [List.getElem?_replicate] at hj;split at hj
 · rw [fl_get k p n j (by omega)]; exact hj
 cases hj
theorem row_fl (k : ByteArray) (n : Nat) (w : World) (base g : Nat) (hb : base ≤ g) (h : w.heap[g]? = some (.cells (fl k n n).toArray 9 (0, 0))) (hn : n ≤ 64) : Kd.string.R 9 w base (fun _ => True) (.slice (some ⟨g, 0, none⟩) n n) (List.replicate n k) := by
 refine ⟨fun _ _ => trivial, List.replicate n (.string k), ⟨by simp [Kd.string, Kd.scalar], Or.inr ⟨g, n, _, by simp, hb, h, by simp, by unfold maxLen; omega, ?_, ?_⟩⟩, ?_⟩
 · simp [fl, Kd.string, Kd.scalar]
 · simp [fl, Kd.string, Kd.scalar]
 have := Kd.reps_scalar (enc := Value.string) (List.replicate n k);simpa [encs, Kd.string, Kd.scalar] using this
section
variable {P : Program} {ops : Array Oper} {rest : List Oper} {o : Oper} {a : Act} {Q : Exit → Act → World → Prop}
theorem mk_event {W : World} {n : Nat} {ob : Obj} (hgd : o.guard = none) (hrun : (execOp a.eval o).run P W = .ok (.value (.slice (some ⟨W.heap.size, 0, none⟩) n n)) (W.alloc ob))
    (h : ∀ g, g = W.heap.size → ∀ w1, w1.heap[g]? = some ob → Below W.heap.size W w1 → wpList P ops Q rest (a.put o.dst (.slice (some ⟨g, 0, none⟩) n n)) w1) : wpList P ops Q (o :: rest) a W :=
  Kd.event_run hgd hrun (h _ rfl _ (blk_new W _) (below_alloc (Below.refl _ _) _))
end
theorem repeat_calls (A : Option Addr) (c : Nat) (k : ByteArray) (n : Nat) (w : World) (hr : Kd.C Kd.string w A ([k] : List ByteArray).length [k]) (hc : ([k] : List ByteArray).length ≤ c) (h1 : 1 ≤ n) (hn : n ≤ 64) :
    Calls Tryz.prog 64 #[.slice A ([k] : List ByteArray).length c, .int .i64 (n : Int)] w fun e w' => ∃ v0_ : Value, e = .returned (v0_) ∧ Kd.R Kd.string 9 w' w.heap.size (fun _ => True) v0_ (List.replicate n k) ∧ Below w.heap.size w w' := by
 show Calls Tryz.prog 64 #[.slice A 1 c, .int .i64 (n : Int)] w _;obtain ⟨ad, rfl, hx⟩ := Kd.at_string hr (0 : Int) (by omega) (by simp);have hx : w.cell? (ad.add 0) = some (.string k) := hx;have HX := A_ hx;have HB := A_ (Below.refl w.heap.size w);have KM := A_ (fun W => PU.bits_Mul.calls 1 (n : Int) 0 (n : Int) W (mul_one' n (by omega)))
 have hm : ∀ W : World, (Instr.makeSlice 23 (.int .i64 (n : Int)) (.int .i64 (n : Int))).run Tryz.prog W = .ok (.slice (some ⟨W.heap.size, 0, none⟩) n n) (W.alloc (.cells (fl k 0 n).toArray 9)) := by
  intro W;obtain ⟨i0, hi, hzz⟩ := Option.map_eq_some_iff.1 infoS;simp only [Prod.mk.injEq] at hzz;have := run_make (P := Tryz.prog) W 23 9 i0 (.string ⟨#[]⟩) Tryz.underlying23 hi hzz.1 .i64 .i64 (n : Int) (n : Int) (by omega) (by omega) (by rw [hzz.2.2]; omega) (by omega);rw [hzz.2.1] at this;simp only [Int.toNat_natCast, made_fl k n] at this;exact this
 have hn0 : decide ((n : Int) < 0) = false := decide_eq_false (by omega);have hv : IntKind.u64.wrap (n : Int) = (n : Int) := by simp [IntKind.wrap, IntKind.bits, IntKind.signed]; omega
 have HM := A_ hm;clear hr hc hx hm;go_enter Tryz.func64, Tryz.ntmps64
 go_wp2_with (first
  | (go_at_call 88; with_reducible refine (KM.out _).mono ?_; rintro e w' ⟨rfl, hb⟩; replace HB := A_ (below_step HB.out hb.below); clear hb)
  | ((with_reducible refine gate_dst (N := 30) rfl ?_); refine mk_event (n := n) (ob := .cells (fl k 0 n).toArray 9) rfl ?hr ?_; (case hr => (have hm := HM.out; first | (simp [execOp, hm, Result.andThen]; done) | (go_simp; done))); intro g hg w30 hbk hb; have BK := A_ hbk; have GE := GE_ (w := w) hg; replace HB := BT_ hb; clear hb hbk hg)
  | ((with_reducible refine gate_builtin (b := .copy) (xs := #[.tmp 31, .tmp 32]) rfl ?_); refine wpList_copy_splice rfl (.tmp 31) (.tmp 32) 23 23 rfl 9 Tryz.underlying23 (by kernel_rfl) _ _ _ _ _ _ rfl rfl g 0 (fl k 0 n) 9 BK.out [.string k] ?hn ?hp ?hf ?h1 w.heap.size w HB.out GE.out ?_; (case hn => show (1 : Nat) = min 1 n; omega); (case hp => exact (fun _ => ⟨rfl, ad, rfl, fun j v hj => by cases j with
   | zero => (injection hj with hj; rw [← hj]; exact cell_below HB.out HX.out)
   | succ j => cases hj⟩)); (case hf => rw [fl_len _ _ _ (by omega)]; simp; omega); (case h1 => intro v hv; rw [List.mem_singleton] at hv; rw [hv]; rfl); intro w33 hg hb; have h2 := hg.out; rw [show ([.string k] : List Value) = List.replicate 1 (.string k) from rfl, splice_fl k 0 n 1 (by omega)] at h2; replace BK := A_ h2; replace HB := A_ hb; clear hb hg h2))
 go_loopg [8] n (fun gf v8 wx => ∃ p : Nat, v8 = .int .i64 p ∧ Aside0 (1 ≤ p ∧ p ≤ n ∧ n ≤ p + gf) ∧ Aside0 (wx.heap[g]? = some (.cells (fl k p n).toArray 9 (0, 0))) ∧ Aside0 (Below w.heap.size w wx))
 case atStart => exact ⟨1, rfl, ⟨by omega⟩, BK, HB⟩
 clear BK HB;obtain ⟨p, rfl, HP, BK, HB⟩ := hrel;obtain ⟨p1, p2, p3⟩ := HP.out;by_cases hlt : p < n
 · obtain ⟨g', rfl⟩ : ∃ g', gk = g' + 1 := ⟨gk - 1, by omega⟩
   have hs1 : IntKind.i64.wrap ((p : Int) + ((min p (n - p) : Nat) : Int)) = ((p + min p (n - p) : Nat) : Int) := by
    simp [IntKind.wrap, IntKind.bits, IntKind.signed]; omega
   have HS := A_ hs1;clear hs1;have hpn : (p : Int) ≤ (n : Int) := by omega
   have hp0 : (0 : Int) ≤ (p : Int) := by omega
   have hnp : ¬ n = p := by omega
   go_wp2;go_region_held3 (fun w' => Aside0 True) (exact ⟨trivial⟩) ((refine step_copy_splice rfl (.tmp 41) (.tmp 44) 23 23 rfl 9 Tryz.underlying23 (by kernel_rfl) _ _ _ _ _ _ rfl rfl g p (fl k p n) 9 (blk_drew BK.out) (List.replicate (min p (n - p)) (.string k)) ?hn ?hp ?hf ?h1 w.heap.size w (below_drew HB.out) GE.out ?_; (case hn => rw [List.length_replicate]; done); (case hp => exact (fun _ => ⟨rfl, ⟨g, 0, none⟩, rfl, cell_fl (blk_drew BK.out) _ (by omega)⟩)); (case hf => rw [fl_len _ _ _ (by omega), List.length_replicate]; omega); (case h1 => intro v hv; rw [List.eq_of_mem_replicate hv]; rfl); intro w4 hg4 hb4));have h5 := hg4.out;rw [splice_fl k p n (min p (n - p)) (by omega)] at h5;replace BK := A_ h5;replace HB := A_ hb4;clear hg4 hb4 h5;go_wp2;go_roundg g'
   case measure => omega
   case rel => exact ⟨p + min p (n - p), by rw [← HS.out], ⟨by omega⟩, BK, HB⟩
 obtain rfl : p = n := by omega
 have hlb : decide ((p : Int) < (p : Int)) = false := decide_eq_false (by omega);go_wp2;go_ret;exact ⟨_, rfl, row_fl k p wr _ g GE.out BK.out hn, HB.out⟩
end Go.Proofs.YtmmonhgfnmeieaaGreatDoor.Ten
/- tensor.Fill: the walks. -/
namespace Go.Proofs.YtmmonhgfnmeieaaGreatDoor.Ten
open Go Go.RowKit Go.Extern.Stop Go.Stop Go.Extern Go.ZPWords Go.ZPMore Go.ZPLast Go.Proofs.YtmmonhgfnmeieaaGreatDoor.PC Go.Proofs.YtmmonhgfnmeieaaGreatDoor.Th Go.Proofs.YtmmonhgfnmeieaaGreatDoor.Th.Wh Go.Proofs.YtmmonhgfnmeieaaGreatDoor.Err
set_option maxHeartbeats 4000000
set_option maxRecDepth 1000000
set_option linter.unusedVariables false
theorem fill_all (A0 : Option Addr) (c0 : Nat) (s : List Int) (k : ByteArray) (r : Int) (r0 : List Int) (r1 : List ByteArray) (n : Nat) (w : World) (hG : Gs w) (hr0 : Kd.C (Kd.int .i64) w A0 s.length s) (hc0 : s.length ≤ c0) (hs : s.length ≤ 1000) (hk : k.size ≤ 40000000000) (hc : (shOk s = false ∧ r = 1 ∧ r0 = [] ∧ r1 = []) ∨ (shOk s = true ∧ rRight k = false ∧ r = 1 ∧ r0 = [] ∧ r1 = []) ∨ (shOk s = true ∧ rRight k = true ∧ size s = (n : Int) ∧ 1 ≤ n ∧ n ≤ 64 ∧ r = 0 ∧ s = r0 ∧ r1 = List.replicate n k)) :
    Calls Tryz.prog 45 #[.slice A0 s.length c0, .string k] w fun e w' => ∃ v0_ v1_ : Value, e = .returned (.tuple #[.agg #[v0_, v1_], .int .i64 r]) ∧ Kd.R (Kd.int .i64) 3 w' w.heap.size (fun _ => True) v0_ r0 ∧ Kd.R Kd.string 9 w' w.heap.size (fun _ => True) v1_ r1 ∧ Below w.heap.size w w' := by
 have KS := A_ (fun (W : World) (hb : Below w.heap.size w W) => shRight_q A0 c0 s W (Kd.C_below hr0 hb) hc0 hs);have KK := A_ (fun (W : World) (hb : Below w.heap.size w W) => right_calls k hk W (hG.below hb));have KC := A_ (fun (W : World) (hb : Below w.heap.size w W) => cloneI_calls A0 c0 s W (Kd.C_below hr0 hb) (by omega));have KZ := A_ (fun (W : World) (hb : Below w.heap.size w W) => shSize_q A0 c0 s W (Kd.C_below hr0 hb) hc0 hs);have HB := A_ (Below.refl w.heap.size w);rcases hc with ⟨ht, rfl, rfl, rfl⟩ | ⟨ht, hkr, rfl, rfl, rfl⟩ | ⟨ht, hkr, hn, h1, hn64, rfl, rfl, rfl⟩
 all_goals
  first
   | have KP := A_ (fun (W : World) (A : Option Addr) (c : Nat) (hr : Kd.C Kd.string W A ([k] : List ByteArray).length [k]) (hc : ([k] : List ByteArray).length ≤ c) => show Calls Tryz.prog 64 #[.slice A 1 c, .int .i64 (n : Int)] W fun e w' => ∃ v0_ : Value, e = .returned (v0_) ∧ Kd.R Kd.string 9 w' W.heap.size (fun _ => True) v0_ (List.replicate n k) ∧ Below W.heap.size W w' from repeat_calls A c k n W hr hc h1 hn64)
   | have KP := A_ True.intro
  (try rw [hn] at KZ)
  rw [ht] at KS
  (try rw [hkr] at KK)
  clear hG hr0 hc0 hs hk ht
  (try clear hkr)
  (try clear hn h1 hn64)
  go_enter Tryz.func45, Tryz.ntmps45
  go_wp2_with (first
   | (refine BX_ 4 #[.slice none 0 0, .slice none 0 0] 25 ?_; intro g4 hg w4 hbox hb; have BK4 := A_ hbox; have GE4 := GE_ (w := w) hg; replace HB := BT_ hb; clear hb hbox hg; obtain ⟨hz4_0, hz4_1, hf40, hf41⟩ := CF_ BK4)
   | (go_at_call 30; with_reducible refine (KS.out _ T6_).mono ?_; rintro e w5 ⟨rfl, hb⟩; replace hb := hb.below; replace BK4 := BF_ BK4 hb; replace HB := BT_ hb; clear hb; obtain ⟨hyw50, hyw51, hzw50, hzw51⟩ := CF_ BK4)
   | (go_at_call 53; with_reducible refine (KK.out _ T6_).mono ?_; rintro e w6 ⟨rfl, hb⟩; replace BK4 := BF_ BK4 hb; replace HB := BT_ hb; clear hb; obtain ⟨hyw60, hyw61, hzw60, hzw61⟩ := CF_ BK4)
   | (go_at_call 32; with_reducible refine (KC.out _ T6_).mono ?_; rintro e w7 ⟨v0, rfl, ho, hb⟩; obtain ⟨Av, av, rfl⟩ := Kd.R_slice ho; have HO0 := A_ (Kd.R_lower ho (below_size T6_)); replace BK4 := BF_ BK4 hb; replace HB := BT_ hb; clear ho hb)
   | ((with_reducible refine gate_dst (N := 18) rfl ?_); refine Kd.R_lit Kd.string _ 9 ?hg (N := 18) ?hd (xs := ([k] : List ByteArray)) (inner := [.string k]) (ok := fun _ => True) (okp := fun _ => True) ?hr ?hp (fun _ hk => hk) trivial (Below.refl _ _) (Nat.le_refl _) (by simp) ?_; (case hd => rfl); (case hg => rfl); (case hr => exact T3_); (case hp => exact Kd.reps_scalar [k]); intro v18 w18 ho hb hg_ hnew_; clear hg_ hnew_; obtain ⟨Ax, ax, rfl⟩ := Kd.R_slice ho; have HX := A_ ho; replace HO0 := A_ (Kd.R_below HO0.out hb); replace BK4 := BF_ BK4 hb; replace HB := BT_ hb; clear hb ho)
   | (go_at_call 31; with_reducible refine (KZ.out _ T6_).mono ?_; rintro e w20 ⟨rfl, hb⟩; replace hb := hb.below; replace HX := A_ (Kd.R_below HX.out hb); replace HO0 := A_ (Kd.R_below HO0.out hb); replace BK4 := BF_ BK4 hb; replace HB := BT_ hb; clear hb)
   | (go_at_call 64; with_reducible refine (KP.out _ _ _ (Kd.R_reads' HX.out).2.2 (Kd.R_reads' HX.out).2.1).mono ?_; rintro e w21 ⟨v1, rfl, ho, hb⟩; obtain ⟨Bv, bv, rfl⟩ := Kd.R_slice ho; have HO1 := A_ (Kd.R_lower ho (below_size T6_)); replace HO0 := A_ (Kd.R_below HO0.out hb); replace BK4 := BF_ BK4 hb; replace HB := BT_ hb; clear ho hb; generalize (List.replicate n k).length = q at *; obtain ⟨hy210, hy211, hz210, hz211⟩ := CF_ BK4))
  first
   | (refine bodyPost_ret (results_ct rfl _ _ g4 25 #[.slice Av s.length av, .slice Bv q bv] (0, 0) _ rfl (blk_put (blk_put BK4.out 0 (.slice Av s.length av) rfl) 1 (.slice Bv q bv) rfl) Tryz.underlying25 rfl (by kernel_rfl)) rfl ?_; exact ⟨_, _, rfl, row_set2 HO0.out rfl BK4.out (by decide) _ _ _ _, row_set2 HO1.out rfl BK4.out (by decide) _ _ _ _, T6_⟩)
   | (refine bodyPost_ret (results_ct rfl _ _ g4 25 #[.slice none 0 0, .slice none 0 0] (0, 0) _ rfl (blk_put (blk_put BK4.out 0 (.slice none 0 0) rfl) 1 (.slice none 0 0) rfl) Tryz.underlying25 rfl (by kernel_rfl)) rfl ?_; exact ⟨_, _, rfl, Kd.R_nil _ _ _ _ _, Kd.R_nil _ _ _ _ _, T6_⟩)
end Go.Proofs.YtmmonhgfnmeieaaGreatDoor.Ten
/- tensor.Fill: the contract. -/
namespace Go.Proofs.YtmmonhgfnmeieaaGreatDoor.Ten
open Go Go.RowKit Go.ZPWords Go.ZPMore Go.ZPLast Go.Proofs.YtmmonhgfnmeieaaGreatDoor.PC Go.Proofs.YtmmonhgfnmeieaaGreatDoor.Th Go.Proofs.YtmmonhgfnmeieaaGreatDoor.Th.Wh Go.Proofs.YtmmonhgfnmeieaaGreatDoor.Err
set_option linter.unusedVariables false
theorem fill_calls (A0 : Option Addr) (c0 : Nat) (s : List Int) (k : ByteArray) (w : World) (hG : Gs w) (hr0 : Kd.C (Kd.int .i64) w A0 s.length s) (hc0 : s.length ≤ c0) (hs : s.length ≤ 1000) (hk : k.size ≤ 40000000000) :
    Calls Tryz.prog 45 #[.slice A0 s.length c0, .string k] w (Res w (tFill s k)) := by
 unfold tFill;by_cases ht : shOk s = true
 · rw [if_pos ht];by_cases hkr : rRight k = true
   · rw [if_pos hkr];have hp := shOk_parts ht;have h1 := sz_pos hp.1;have e : size s = ((size s).toNat : Int) := by rw [size, if_pos ht]; omega
     exact fill_all A0 c0 s k 0 s _ _ w hG hr0 hc0 hs hk (Or.inr (Or.inr ⟨ht, hkr, e, by rw [size, if_pos ht]; omega, by rw [size, if_pos ht]; omega, rfl, rfl, rfl⟩))
   rw [if_neg hkr];exact fill_all A0 c0 s k 1 [] [] 0 w hG hr0 hc0 hs hk (Or.inr (Or.inl ⟨ht, by simpa using hkr, rfl, rfl, rfl⟩))
 rw [if_neg ht];exact fill_all A0 c0 s k 1 [] [] 0 w hG hr0 hc0 hs hk (Or.inl ⟨by simpa using ht, rfl, rfl, rfl⟩)
end Go.Proofs.YtmmonhgfnmeieaaGreatDoor.Ten
