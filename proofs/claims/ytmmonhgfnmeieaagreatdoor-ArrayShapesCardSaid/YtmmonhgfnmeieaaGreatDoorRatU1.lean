/- rat's two errors, and errors.Is at what wraps one of them. -/
import Derived.Test.YtmmonhgfnmeieaaGreatDoorChecked
import Derived.LaidEql
import Derived.Stop.Asserts
import Derived.RowKitTokens
import Derived.Test.YtmmonhgfnmeieaaGreatDoorPCx
import Derived.Lib.Bytealg
-- mini
namespace Go.Proofs.YtmmonhgfnmeieaaGreatDoor.Err
open Go Go.RowKit Go.Extern.Stop Go.Stop Go.Extern
theorem isTypeOf (v : Value) (w : World) : (Extern.ReflectliteType.typeOf #[.iface 178 v]).run Tryz.prog w = .ok (.iface 159 (.agg #[.pointer (some ⟨4, 178, none⟩)])) w := by kernel_rfl
theorem isComparable (w : World) : ((Extern.ReflectliteType.method fun t => do Extern.Rtype.noPackHeld "Comparable" t; pure (.bool (← typeInfo t).comparable)) #[.agg #[.pointer (some ⟨4, 178, none⟩)]]).run Tryz.prog w = .ok (.bool true) w := by kernel_rfl
theorem callComparable (w : World) : (callFunc 169 #[.agg #[.pointer (some ⟨4, 178, none⟩)]]).run Tryz.prog w = .ok (.value (.bool true)) w := by
  rw [@run_callFunc_extern Tryz.prog 169 _ (Extern.ReflectliteType.method fun t => do Extern.Rtype.noPackHeld "Comparable" t; pure (.bool (← typeInfo t).comparable)) Tryz.func169 (by kernel_rfl) (by kernel_rfl) (by kernel_rfl) (by kernel_rfl), isComparable];rfl
theorem isMethodComparable (v : Value) (w : World) : (Go.method 310 159 v "Comparable").run Tryz.prog w = .ok (169, v) w := by kernel_rfl
theorem isComp : (Tryz.prog.info? 178).map (·.comparable) = some true := by kernel_rfl
theorem isSize : (Tryz.prog.info? 198).map (·.size) = some 1 := by kernel_rfl
theorem noIsE (v : Value) (xT : TypeId) (w : World) : (Instr.typeAssert (.iface 178 v) xT 161 true).run Tryz.prog w = .ok (.tuple #[.nilIface, .bool false]) w := run_typeAssert_lacksB Tryz.underlying161 (by kernel_rfl) (by kernel_rfl) v xT w
theorem noUnwrapE (v : Value) (xT : TypeId) (w : World) : (Instr.typeAssert (.iface 178 v) xT 164 true).run Tryz.prog w = .ok (.tuple #[.nilIface, .bool false]) w := run_typeAssert_lacksB Tryz.underlying164 (by kernel_rfl) (by kernel_rfl) v xT w
theorem noUnwrapsE (v : Value) (xT : TypeId) (w : World) : (Instr.typeAssert (.iface 178 v) xT 166 true).run Tryz.prog w = .ok (.tuple #[.nilIface, .bool false]) w := run_typeAssert_lacksB Tryz.underlying166 (by kernel_rfl) (by kernel_rfl) v xT w
theorem noIsW (v : Value) (xT : TypeId) (w : World) : (Instr.typeAssert (.iface 85 v) xT 161 true).run Tryz.prog w = .ok (.tuple #[.nilIface, .bool false]) w := run_typeAssert_lacksB Tryz.underlying161 (by kernel_rfl) (by kernel_rfl) v xT w
theorem hasUnwrapW (v : Value) (xT : TypeId) (w : World) : (Instr.typeAssert (.iface 85 v) xT 164 true).run Tryz.prog w = .ok (.tuple #[.iface 85 v, .bool true]) w := run_typeAssert_hasB Tryz.underlying164 (by kernel_rfl) v xT w
theorem methodUnwrap (v : Value) (w : World) : (Go.method 310 85 v "Unwrap").run Tryz.prog w = .ok (162, v) w := by kernel_rfl
set_option maxRecDepth 1000000
/-- errors.Is of what wraps the target itself. -/
theorem is_same (pb po : Nat) (b : Addr) (w : World) (h1 : w.cell? ⟨pb, po + 1, none⟩ = some (.iface 178 (.pointer (some b)))) :
    Calls Tryz.prog 93 #[.iface 85 (.pointer (some ⟨pb, po, none⟩)), .iface 178 (.pointer (some b))] w fun e w' => e = .returned (.bool true) ∧ w' = w := by
 obtain ⟨i, hi, hcmp⟩ := Option.map_eq_some_iff.1 isComp;obtain ⟨j, hj, hjs⟩ := Option.map_eq_some_iff.1 isSize;have h8 := @run_callFunc_extern Tryz.prog 113 _ Extern.ReflectliteType.typeOf Tryz.func113 (by kernel_rfl) (by kernel_rfl) (by kernel_rfl) (by kernel_rfl);have h32 := callComparable;have tT := isTypeOf;have mR := isMethodComparable;have nE := noIsE;have uE := noUnwrapE;have vE := noUnwrapsE;have nW := noIsW;have uW := hasUnwrapW;have mU := methodUnwrap;have heq := run_eql_iface_ptr_same (P := Tryz.prog) w b Tryz.underlying66 Tryz.underlying178 hi hcmp hj;have hty := run_eql_iface_types (P := Tryz.prog) 85 178 (.pointer (some ⟨pb, po, none⟩)) (.pointer (some b)) Tryz.underlying66 (by decide) w;go_enter Tryz.func93, Tryz.ntmps93;go_wp2;refine wp_loop_rounds 2 ?_;rw [rounds_succ];go_wp2;rw [rounds_succ];go_wp2;go_ret;exact ⟨rfl, rfl⟩
/-- errors.Is of what wraps another one. -/
theorem is_other (pb po : Nat) (b a : Addr) (ca cb : Array Value) (ta tb : TypeId) (w : World) (h1 : w.cell? ⟨pb, po + 1, none⟩ = some (.iface 178 (.pointer (some a)))) (hne : a ≠ b) (ha : w.heap[a.block]? = some (.cells ca ta (0, 0))) (hb : w.heap[b.block]? = some (.cells cb tb (0, 0))) :
    Calls Tryz.prog 93 #[.iface 85 (.pointer (some ⟨pb, po, none⟩)), .iface 178 (.pointer (some b))] w fun e w' => e = .returned (.bool false) ∧ w' = w := by
 obtain ⟨i, hi, hcmp⟩ := Option.map_eq_some_iff.1 isComp;obtain ⟨j, hj, hjs⟩ := Option.map_eq_some_iff.1 isSize;have h8 := @run_callFunc_extern Tryz.prog 113 _ Extern.ReflectliteType.typeOf Tryz.func113 (by kernel_rfl) (by kernel_rfl) (by kernel_rfl) (by kernel_rfl);have h32 := callComparable;have tT := isTypeOf;have mR := isMethodComparable;have nE := noIsE;have uE := noUnwrapE;have vE := noUnwrapsE;have nW := noIsW;have uW := hasUnwrapW;have mU := methodUnwrap;have heq := run_eql_iface_ptr_other (P := Tryz.prog) w Tryz.underlying66 Tryz.underlying178 hi hcmp hj (by rw [hjs]; decide) hne ha hb;have hty := run_eql_iface_types (P := Tryz.prog) 85 178 (.pointer (some ⟨pb, po, none⟩)) (.pointer (some b)) Tryz.underlying66 (by decide) w;go_enter Tryz.func93, Tryz.ntmps93;go_wp2;refine wp_loop_rounds 2 ?_;rw [rounds_succ];go_wp2;rw [rounds_succ];go_wp2;go_ret;exact ⟨rfl, rfl⟩
end Go.Proofs.YtmmonhgfnmeieaaGreatDoor.Err
/- rat.number at what wraps one of rat's two errors. -/
namespace Go.Proofs.YtmmonhgfnmeieaaGreatDoor.Err
open Go Go.RowKit Go.Extern.Stop Go.Stop Go.Extern Go.ZPWords
/-- What the two package-level variables hold. -/
structure GsAt (aF aZ : Addr) (w : World) : Prop where
  form : w.cell? ⟨1, 0, none⟩ = some (.iface 178 (.pointer (some aF)))
  zero : w.cell? ⟨0, 0, none⟩ = some (.iface 178 (.pointer (some aZ)))
  apart : aZ ≠ aF
  rowF : ∃ c t, w.heap[aF.block]? = some (.cells c t (0, 0))
  rowZ : ∃ c t, w.heap[aZ.block]? = some (.cells c t (0, 0))
def Gs (w : World) : Prop := ∃ aF aZ, GsAt aF aZ w
theorem row_lt {w : World} {b : Nat} {o : Obj} (h : w.heap[b]? = some o) : b < w.heap.size := by
 rcases Nat.lt_or_ge b w.heap.size with h' | h'
 · exact h'
 rw [Array.getElem?_eq_none h'] at h; cases h
theorem cell_lt {w : World} {a : Addr} {v : Value} (h : w.cell? a = some v) : a.block < w.heap.size := by
 rcases Nat.lt_or_ge a.block w.heap.size with h' | h'
 · exact h'
 unfold World.cell? at h;simp [Array.getElem?_eq_none h'] at h
theorem cell_below {w w' : World} (hb : Below w.heap.size w w') {a : Addr} {v : Value} (h : w.cell? a = some v) : w'.cell? a = some v := (hb.cell (cell_lt h)).trans h
theorem row_below {w w' : World} (hb : Below w.heap.size w w') {b : Nat} {o : Obj} (h : w.heap[b]? = some o) : w'.heap[b]? = some o := (hb.block b (row_lt h)).trans h
theorem GsAt.below {aF aZ : Addr} {w w' : World} (h : GsAt aF aZ w) (hb : Below w.heap.size w w') : GsAt aF aZ w' := by
  obtain ⟨h1, h2, h3, ⟨c1, t1, h4⟩, ⟨c2, t2, h5⟩⟩ := h;exact ⟨cell_below hb h1, cell_below hb h2, h3, ⟨c1, t1, row_below hb h4⟩, ⟨c2, t2, row_below hb h5⟩⟩
theorem Gs.below {w w' : World} (h : Gs w) (hb : Below w.heap.size w w') : Gs w' := by
  obtain ⟨aF, aZ, h⟩ := h;exact ⟨aF, aZ, h.below hb⟩
/-- An error's value, and its number: nil is 0; what wraps errForm is 2, errZero 3. -/
def ErrV (aF aZ : Addr) (w : World) (v : Value) (c : Int) : Prop :=
  (v = .nilIface ∧ c = 0) ∨ ∃ pb, v = .iface 85 (.pointer (some ⟨pb, 0, none⟩)) ∧
    ((c = 2 ∧ w.cell? ⟨pb, 1, none⟩ = some (.iface 178 (.pointer (some aF)))) ∨ (c = 3 ∧ w.cell? ⟨pb, 1, none⟩ = some (.iface 178 (.pointer (some aZ)))))
theorem ErrV.below {aF aZ : Addr} {w w' : World} {v : Value} {c : Int} (h : ErrV aF aZ w v c) (hb : Below w.heap.size w w') : ErrV aF aZ w' v c := by
 rcases h with h | ⟨pb, rfl, ⟨rfl, h⟩ | ⟨rfl, h⟩⟩
 · exact Or.inl h
 · exact Or.inr ⟨pb, rfl, Or.inl ⟨rfl, cell_below hb h⟩⟩
 exact Or.inr ⟨pb, rfl, Or.inr ⟨rfl, cell_below hb h⟩⟩
set_option maxHeartbeats 4000000
set_option maxRecDepth 1000000
theorem number_form {aF aZ : Addr} (pb : Nat) (w : World) (hG : GsAt aF aZ w) (h1 : w.cell? ⟨pb, 1, none⟩ = some (.iface 178 (.pointer (some aF)))) :
    Calls Tryz.prog 66 #[.iface 85 (.pointer (some ⟨pb, 0, none⟩))] w fun e w' => e = .returned (.int .i64 2) ∧ Below w.heap.size w w' := by
 have hF := hG.form;have HA : ∀ o, Below w.heap.size w (w.alloc o) := fun o => below_alloc (Below.refl _ _) o;have c1 : ∀ o, (w.alloc o).cell? ⟨1, 0, none⟩ = some (.iface 178 (.pointer (some aF))) := fun o => cell_below (HA o) hF;have c2 : ∀ o, (w.alloc o).cell? ⟨pb, 1, none⟩ = some (.iface 178 (.pointer (some aF))) := fun o => cell_below (HA o) h1;have HA' : Hid (∀ o, Below w.heap.size w (w.alloc o)) := HA;clear HA;go_enter Tryz.func66, Tryz.ntmps66;go_wp2_with (go_at_call 93; with_reducible refine (is_same pb 0 aF _ (c2 _)).mono ?_; rintro e w' ⟨rfl, rfl⟩);go_ret;exact ⟨rfl, HA'.out _⟩
theorem number_zero {aF aZ : Addr} (pb : Nat) (w : World) (hG : GsAt aF aZ w) (h1 : w.cell? ⟨pb, 1, none⟩ = some (.iface 178 (.pointer (some aZ)))) :
    Calls Tryz.prog 66 #[.iface 85 (.pointer (some ⟨pb, 0, none⟩))] w fun e w' => e = .returned (.int .i64 3) ∧ Below w.heap.size w w' := by
 obtain ⟨hF, hZ, hne, ⟨cf, tf, rF⟩, ⟨cz, tz, rZ⟩⟩ := hG;have HA : ∀ o, Below w.heap.size w (w.alloc o) := fun o => below_alloc (Below.refl _ _) o;have c1 : ∀ o, (w.alloc o).cell? ⟨1, 0, none⟩ = some (.iface 178 (.pointer (some aF))) := fun o => cell_below (HA o) hF;have c3 : ∀ o, (w.alloc o).cell? ⟨0, 0, none⟩ = some (.iface 178 (.pointer (some aZ))) := fun o => cell_below (HA o) hZ;have c2 : ∀ o, (w.alloc o).cell? ⟨pb, 1, none⟩ = some (.iface 178 (.pointer (some aZ))) := fun o => cell_below (HA o) h1;have r1 : Hid (∀ o, (w.alloc o).heap[aF.block]? = some (.cells cf tf (0, 0))) := fun o => row_below (HA o) rF;have r2 : Hid (∀ o, (w.alloc o).heap[aZ.block]? = some (.cells cz tz (0, 0))) := fun o => row_below (HA o) rZ;have HA' : Hid (∀ o, Below w.heap.size w (w.alloc o)) := HA;clear HA rF rZ;go_enter Tryz.func66, Tryz.ntmps66
 go_wp2_with (first
  | (go_at_call 93; with_reducible refine (is_other pb 0 aF aZ cz cf tz tf _ (c2 _) hne (r2.out _) (r1.out _)).mono ?_; rintro e w' ⟨rfl, rfl⟩)
  | (go_at_call 93; with_reducible refine (is_same pb 0 aZ _ (c2 _)).mono ?_; rintro e w' ⟨rfl, rfl⟩))
 go_ret;exact ⟨rfl, HA'.out _⟩
theorem number_v {aF aZ : Addr} (v : Value) (c : Int) (w : World) (hG : GsAt aF aZ w) (h : ErrV aF aZ w v c) (hc : c ≠ 0) :
    Calls Tryz.prog 66 #[v] w fun e w' => e = .returned (.int .i64 c) ∧ Below w.heap.size w w' := by
 rcases h with ⟨_, h⟩ | ⟨pb, rfl, ⟨rfl, h⟩ | ⟨rfl, h⟩⟩
 · exact absurd h hc
 · exact number_form pb w hG h
 exact number_zero pb w hG h
end Go.Proofs.YtmmonhgfnmeieaaGreatDoor.Err
/- rat.told: a rational's text, or an error's number. -/
namespace Go.Proofs.YtmmonhgfnmeieaaGreatDoor.Err
open Go Go.RowKit Go.Extern.Stop Go.Stop Go.Extern Go.ZPWords Go.Proofs.YtmmonhgfnmeieaaGreatDoor.PC
set_option maxHeartbeats 4000000
set_option maxRecDepth 1000000
theorem told_ok (n d t : ByteArray) (w : World) (ht : rat_pair_text.f n d = some t) :
    Calls Tryz.prog 67 #[.agg #[.string n, .string d], .nilIface] w fun e w' => e = .returned (.tuple #[.string t, .int .i64 0]) ∧ Below w.heap.size w w' := by
 have HT := A_ ht;clear ht;go_enter Tryz.func67, Tryz.ntmps67;go_wp2_with (go_at_call 92; with_reducible refine (rat_pair_text.calls n d t _ HT.out).mono ?_; rintro e w' ⟨rfl, hb⟩; have HB := A_ (below_step (below_alloc (Below.refl w.heap.size w) _) hb); clear hb);go_ret2;exact ⟨rfl, HB.out⟩
theorem told_no {aF aZ : Addr} (n d : ByteArray) (v : Value) (c : Int) (w : World) (hG : GsAt aF aZ w) (h : ErrV aF aZ w v c) (hc : c ≠ 0) :
    Calls Tryz.prog 67 #[.agg #[.string n, .string d], v] w fun e w' => e = .returned (.tuple #[.string ⟨#[]⟩, .int .i64 c]) ∧ Below w.heap.size w w' := by
 have HN : Aside0 (∀ o, Calls Tryz.prog 66 #[v] (w.alloc o) fun e w' => e = .returned (.int .i64 c) ∧ Below (w.alloc o).heap.size (w.alloc o) w') := ⟨fun o => number_v v c _ (hG.below (below_alloc (Below.refl _ _) o)) (h.below (below_alloc (Below.refl _ _) o)) hc⟩
 obtain ⟨pb, rfl⟩ : ∃ pb, v = .iface 85 (.pointer (some ⟨pb, 0, none⟩)) := by
  rcases h with ⟨_, h⟩ | ⟨pb, rfl, _⟩
  · exact absurd h hc
  exact ⟨pb, rfl⟩
 clear h hG hc;go_enter Tryz.func67, Tryz.ntmps67;go_wp2_with (go_at_call 66; with_reducible refine (HN.out _).mono ?_; rintro e w' ⟨rfl, hb⟩; have HB := A_ (below_step (below_alloc (Below.refl w.heap.size w) _) hb); clear hb);go_ret2;exact ⟨rfl, HB.out⟩
end Go.Proofs.YtmmonhgfnmeieaaGreatDoor.Err
/- rat.lowest: p by q in lowest terms, or by nought. -/
namespace Go.Proofs.YtmmonhgfnmeieaaGreatDoor.Err
open Go Go.RowKit Go.Extern.Stop Go.Stop Go.Extern Go.ZPWords Go.Proofs.YtmmonhgfnmeieaaGreatDoor.PC Go.Proofs.YtmmonhgfnmeieaaGreatDoor.Th Go.Proofs.YtmmonhgfnmeieaaGreatDoor.Th.Wh
theorem zt_minus {z : Int} (h : z < 0) : (zt z).data.toList = 45 :: (txt z.natAbs).data.toList := by unfold zt; rw [if_pos h, minus_list]
theorem zt_plain {z : Int} (h : ¬ z < 0) : zt z = txt z.natAbs := by unfold zt; rw [if_neg h]
theorem zt_nat (n : Nat) : zt (n : Int) = txt n := by rw [zt_plain (by omega)]; rfl
theorem zt_len (z : Int) : 1 ≤ (zt z).size := by
 by_cases h : z < 0
 · rw [size_list', zt_minus h]; simp
 obtain ⟨c, l, hc, _, _⟩ := txt_head z.natAbs;rw [zt_plain h, size_list', hc]; simp
theorem pre0 (z : Int) : stringslite_HasPrefix.f (zt z) (⟨#[45]⟩ : ByteArray) = some (decide (z < 0)) := by
 have hl := zt_len z;have k1 : ((zt z).size : Int) ≥ (((⟨#[45]⟩ : ByteArray).size : Nat) : Int) := by show ((zt z).size : Int) ≥ 1; omega
 have k2 : (0 : Int) ≤ (((⟨#[45]⟩ : ByteArray).size : Nat) : Int) := by omega
 rw [stringslite_HasPrefix.f, if_pos k1, if_pos k2, if_pos k1];refine congrArg some ?_;have e : ((zt z).extract 0 ((((⟨#[45]⟩ : ByteArray).size : Nat) : Int)).toNat).toList = (zt z).data.toList.take 1 := by rw [ByteArray.toList_eq, ex_list]; rfl
 rw [e, ByteArray.toList_eq];by_cases h : z < 0
 · rw [zt_minus h, decide_eq_true h]; rfl
 obtain ⟨c, l, hc, h1, h2⟩ := txt_head z.natAbs;rw [zt_plain h, hc, decide_eq_false h];rw [beq_eq_false_iff_ne];intro e;injection e with e1;rw [e1] at h1;exact absurd h1 (by decide)
theorem pre_zt (z : Int) : strings_HasPrefix.f (zt z) (⟨#[45]⟩ : ByteArray) = some (decide (z < 0)) := by rw [strings_HasPrefix.f, pre0, Option.bind_some]
theorem size_zt (z : Int) : rat_size.f (zt z) = some (txt z.natAbs) := by
 have hl := zt_len z;have k1 : (((⟨#[45]⟩ : ByteArray).size : Nat) : Int) ≤ ((zt z).size : Int) := by show (1 : Int) ≤ ((zt z).size : Int); omega
 have k2 : (0 : Int) ≤ (((⟨#[45]⟩ : ByteArray).size : Nat) : Int) := by omega
 rw [rat_size.f, strings_TrimPrefix.f, stringslite_TrimPrefix.f, pre0, Option.bind_some];by_cases h : z < 0
 · rw [if_pos (by simpa using h), if_pos k2, if_pos k1];refine congrArg some (ext_of ?_);rw [ex_list, size_list' (zt z), List.take_length, zt_minus h];rfl
 rw [if_neg (by simpa using h), zt_plain h]; rfl
/-- The dividend and the divisor in lowest terms. -/
def lp (x y : Int) : Int := if y < 0 then -x else x
def ln (x y : Int) : Int := let g := Nat.gcd x.natAbs y.natAbs; if lp x y < 0 then -((x.natAbs / g : Nat) : Int) else ((x.natAbs / g : Nat) : Int)
def ld (x y : Int) : Nat := y.natAbs / Nat.gcd x.natAbs y.natAbs
set_option maxHeartbeats 4000000
set_option maxRecDepth 1000000
theorem lowest_plain (p q n d m : ByteArray) (w : World) (hq : q.toList ≠ ([48] : List UInt8))
    (b1 : Bool) (h1 : strings_HasPrefix.f q (⟨#[45]⟩ : ByteArray) = some false) (h2 : rat_size.f p = some m) (g : ByteArray) (h3 : nat_Gcd.f m q = some (g, 0))
    (r1 r2 : ByteArray) (e1 e2 : Int) (h4 : nat_Div.f m g = some (n, r1, e1)) (h5 : nat_Div.f q g = some (d, r2, e2)) (h6 : strings_HasPrefix.f p (⟨#[45]⟩ : ByteArray) = some b1)
    (n' : ByteArray) (e3 : Int) (h7 : b1 = true → whole_Neg.f n = some (n', e3)) (h8 : b1 = false → n' = n) :
    Calls Tryz.prog 50 #[.string p, .string q] w fun e w' => e = .returned (.tuple #[.agg #[.string n', .string d], .nilIface]) ∧ Below w.heap.size w w' := by
 have hq0 : (q.toList == ([48] : List UInt8)) = false := beq_eq_false_iff_ne.2 hq;have A1 := A_ h1;have A2 := A_ h2;have A3 := A_ h3;have A4 := A_ h4;have A5 := A_ h5;have A6 := A_ h6;have A7 := A_ h7;have A8 := A_ h8;clear h1 h2 h3 h4 h5 h6 h7 h8;have HB := A_ (Below.refl w.heap.size w)
 cases b1 with
 | false =>
  obtain rfl := A8.out rfl;clear A7 A8;go_enter Tryz.func50, Tryz.ntmps50
  go_wp2_with (first
   | (refine BX_ 4 #[.string (⟨#[]⟩ : ByteArray), .string (⟨#[]⟩ : ByteArray)] 64 ?_; intro gb hg w6 hbox hb; have BK := A_ hbox; have GE := GE_ (w := w) hg; replace HB := BT_ hb; clear hb hbox hg)
   | (go_at_call 72; with_reducible refine (strings_HasPrefix.calls q (⟨#[45]⟩ : ByteArray) false _ A1.out).mono ?_; rintro e w' ⟨rfl, ⟨nd, rfl⟩⟩)
   | (go_at_call 72; with_reducible refine (strings_HasPrefix.calls p (⟨#[45]⟩ : ByteArray) false _ A6.out).mono ?_; rintro e w' ⟨rfl, ⟨nd, rfl⟩⟩)
   | (go_at_call 74; with_reducible refine (rat_size.calls p m _ A2.out).mono ?_; rintro e w' ⟨rfl, ⟨nd, rfl⟩⟩)
   | (go_at_call 75; with_reducible refine (nat_Gcd.calls m q g 0 _ A3.out).mono ?_; rintro e w' ⟨rfl, hb⟩; replace BK := BF_ BK hb; replace HB := BT_ hb; clear hb; have hcz0 : w'.cell? ⟨gb, 0, none⟩ = some (.string (⟨#[]⟩ : ByteArray)) := (blk_cell BK.out 0).trans rfl; have hcz1 : w'.cell? ⟨gb, 1, none⟩ = some (.string (⟨#[]⟩ : ByteArray)) := (blk_cell BK.out 1).trans rfl; have hfz0 := blk_frozen BK.out 0; have hfz1 := blk_frozen BK.out 1)
   | (go_at_call 76; with_reducible refine (nat_Div.calls m g n' r1 e1 _ A4.out).mono ?_; rintro e w' ⟨rfl, hb⟩; replace BK := BF_ BK hb; replace HB := BT_ hb; clear hb; have hcz0 : w'.cell? ⟨gb, 0, none⟩ = some (.string (⟨#[]⟩ : ByteArray)) := (blk_cell BK.out 0).trans rfl; have hcz1 : w'.cell? ⟨gb, 1, none⟩ = some (.string (⟨#[]⟩ : ByteArray)) := (blk_cell BK.out 1).trans rfl; have hfz0 := blk_frozen BK.out 0; have hfz1 := blk_frozen BK.out 1)
   | (go_at_call 76; with_reducible refine (nat_Div.calls q g d r2 e2 _ A5.out).mono ?_; rintro e w' ⟨rfl, hb⟩; replace BK := BF_ BK hb; replace HB := BT_ hb; clear hb; have hcz0 : w'.cell? ⟨gb, 0, none⟩ = some (.string (⟨#[]⟩ : ByteArray)) := (blk_cell BK.out 0).trans rfl; have hcz1 : w'.cell? ⟨gb, 1, none⟩ = some (.string (⟨#[]⟩ : ByteArray)) := (blk_cell BK.out 1).trans rfl; have hfz0 := blk_frozen BK.out 0; have hfz1 := blk_frozen BK.out 1))
  refine bodyPost_ret (results_ct rfl _ _ gb 64 #[.string n', .string d] (0, 0) _ rfl (by (with_reducible repeat (first | refine blk_drewN ?_ _ | refine blk_drew ?_ | refine blk_alloc ?_ _)); refine blk_put (cs := #[.string n', .string (⟨#[]⟩ : ByteArray)]) ?_ 1 _ rfl; (with_reducible repeat (first | refine blk_drewN ?_ _ | refine blk_drew ?_ | refine blk_alloc ?_ _)); refine blk_put (cs := #[.string (⟨#[]⟩ : ByteArray), .string (⟨#[]⟩ : ByteArray)]) ?_ 0 _ rfl; (with_reducible repeat (first | refine blk_drewN ?_ _ | refine blk_drew ?_ | refine blk_alloc ?_ _)); exact BK.out) Tryz.underlying64 rfl (by kernel_rfl)) rfl ?_;exact ⟨rfl, T6_⟩
 | true =>
  replace A7 := A_ (A7.out rfl);clear A8;go_enter Tryz.func50, Tryz.ntmps50
  go_wp2_with (first
   | (refine BX_ 4 #[.string (⟨#[]⟩ : ByteArray), .string (⟨#[]⟩ : ByteArray)] 64 ?_; intro gb hg w6 hbox hb; have BK := A_ hbox; have GE := GE_ (w := w) hg; replace HB := BT_ hb; clear hb hbox hg)
   | (go_at_call 72; with_reducible refine (strings_HasPrefix.calls q (⟨#[45]⟩ : ByteArray) false _ A1.out).mono ?_; rintro e w' ⟨rfl, ⟨nd, rfl⟩⟩)
   | (go_at_call 72; with_reducible refine (strings_HasPrefix.calls p (⟨#[45]⟩ : ByteArray) true _ A6.out).mono ?_; rintro e w' ⟨rfl, ⟨nd, rfl⟩⟩)
   | (go_at_call 74; with_reducible refine (rat_size.calls p m _ A2.out).mono ?_; rintro e w' ⟨rfl, ⟨nd, rfl⟩⟩)
   | (go_at_call 75; with_reducible refine (nat_Gcd.calls m q g 0 _ A3.out).mono ?_; rintro e w' ⟨rfl, hb⟩; replace BK := BF_ BK hb; replace HB := BT_ hb; clear hb; have hcz0 : w'.cell? ⟨gb, 0, none⟩ = some (.string (⟨#[]⟩ : ByteArray)) := (blk_cell BK.out 0).trans rfl; have hcz1 : w'.cell? ⟨gb, 1, none⟩ = some (.string (⟨#[]⟩ : ByteArray)) := (blk_cell BK.out 1).trans rfl; have hfz0 := blk_frozen BK.out 0; have hfz1 := blk_frozen BK.out 1)
   | (go_at_call 76; with_reducible refine (nat_Div.calls m g n r1 e1 _ A4.out).mono ?_; rintro e w' ⟨rfl, hb⟩; replace BK := BF_ BK hb; replace HB := BT_ hb; clear hb; have hcz0 : w'.cell? ⟨gb, 0, none⟩ = some (.string (⟨#[]⟩ : ByteArray)) := (blk_cell BK.out 0).trans rfl; have hcz1 : w'.cell? ⟨gb, 1, none⟩ = some (.string (⟨#[]⟩ : ByteArray)) := (blk_cell BK.out 1).trans rfl; have hfz0 := blk_frozen BK.out 0; have hfz1 := blk_frozen BK.out 1)
   | (go_at_call 76; with_reducible refine (nat_Div.calls q g d r2 e2 _ A5.out).mono ?_; rintro e w' ⟨rfl, hb⟩; replace BK := BF_ BK hb; replace HB := BT_ hb; clear hb; have hcz0 : w'.cell? ⟨gb, 0, none⟩ = some (.string (⟨#[]⟩ : ByteArray)) := (blk_cell BK.out 0).trans rfl; have hcz1 : w'.cell? ⟨gb, 1, none⟩ = some (.string (⟨#[]⟩ : ByteArray)) := (blk_cell BK.out 1).trans rfl; have hfz0 := blk_frozen BK.out 0; have hfz1 := blk_frozen BK.out 1)
   | (go_at_call 73; with_reducible refine (whole_Neg.calls n n' e3 _ A7.out).mono ?_; rintro e w' ⟨rfl, hb⟩; replace BK := BF_ BK hb; replace HB := BT_ hb; clear hb; have hcz0 : w'.cell? ⟨gb, 0, none⟩ = some (.string (⟨#[]⟩ : ByteArray)) := (blk_cell BK.out 0).trans rfl; have hcz1 : w'.cell? ⟨gb, 1, none⟩ = some (.string (⟨#[]⟩ : ByteArray)) := (blk_cell BK.out 1).trans rfl; have hfz0 := blk_frozen BK.out 0; have hfz1 := blk_frozen BK.out 1))
  refine bodyPost_ret (results_ct rfl _ _ gb 64 #[.string n', .string d] (0, 0) _ rfl (by (with_reducible repeat (first | refine blk_drewN ?_ _ | refine blk_drew ?_ | refine blk_alloc ?_ _)); refine blk_put (cs := #[.string n', .string (⟨#[]⟩ : ByteArray)]) ?_ 1 _ rfl; (with_reducible repeat (first | refine blk_drewN ?_ _ | refine blk_drew ?_ | refine blk_alloc ?_ _)); refine blk_put (cs := #[.string (⟨#[]⟩ : ByteArray), .string (⟨#[]⟩ : ByteArray)]) ?_ 0 _ rfl; (with_reducible repeat (first | refine blk_drewN ?_ _ | refine blk_drew ?_ | refine blk_alloc ?_ _)); exact BK.out) Tryz.underlying64 rfl (by kernel_rfl)) rfl ?_;exact ⟨rfl, T6_⟩
theorem lowest_minus (p0 q0 p q n d m : ByteArray) (e0 : Int) (w : World) (hq : q0.toList ≠ ([48] : List UInt8)) (k1 : whole_Neg.f p0 = some (p, e0)) (k2 : rat_size.f q0 = some q)
    (b1 : Bool) (h1 : strings_HasPrefix.f q0 (⟨#[45]⟩ : ByteArray) = some true) (h2 : rat_size.f p = some m) (g : ByteArray) (h3 : nat_Gcd.f m q = some (g, 0))
    (r1 r2 : ByteArray) (e1 e2 : Int) (h4 : nat_Div.f m g = some (n, r1, e1)) (h5 : nat_Div.f q g = some (d, r2, e2)) (h6 : strings_HasPrefix.f p (⟨#[45]⟩ : ByteArray) = some b1)
    (n' : ByteArray) (e3 : Int) (h7 : b1 = true → whole_Neg.f n = some (n', e3)) (h8 : b1 = false → n' = n) :
    Calls Tryz.prog 50 #[.string p0, .string q0] w fun e w' => e = .returned (.tuple #[.agg #[.string n', .string d], .nilIface]) ∧ Below w.heap.size w w' := by
 have hq0 : (q0.toList == ([48] : List UInt8)) = false := beq_eq_false_iff_ne.2 hq;have K1 := A_ k1;have K2 := A_ k2;have A1 := A_ h1;have A2 := A_ h2;have A3 := A_ h3;have A4 := A_ h4;have A5 := A_ h5;have A6 := A_ h6;have A7 := A_ h7;have A8 := A_ h8;clear k1 k2 h1 h2 h3 h4 h5 h6 h7 h8;have HB := A_ (Below.refl w.heap.size w)
 cases b1 with
 | false =>
  obtain rfl := A8.out rfl;clear A7 A8;go_enter Tryz.func50, Tryz.ntmps50
  go_wp2_with (first
   | (refine BX_ 4 #[.string (⟨#[]⟩ : ByteArray), .string (⟨#[]⟩ : ByteArray)] 64 ?_; intro gb hg w6 hbox hb; have BK := A_ hbox; have GE := GE_ (w := w) hg; replace HB := BT_ hb; clear hb hbox hg)
   | (go_at_call 72; with_reducible refine (strings_HasPrefix.calls q0 (⟨#[45]⟩ : ByteArray) true _ A1.out).mono ?_; rintro e w' ⟨rfl, ⟨nd, rfl⟩⟩)
   | (go_at_call 72; with_reducible refine (strings_HasPrefix.calls p (⟨#[45]⟩ : ByteArray) false _ A6.out).mono ?_; rintro e w' ⟨rfl, ⟨nd, rfl⟩⟩)
   | (go_at_call 74; with_reducible refine (rat_size.calls p m _ A2.out).mono ?_; rintro e w' ⟨rfl, ⟨nd, rfl⟩⟩)
   | (go_at_call 73; with_reducible refine (whole_Neg.calls p0 p e0 _ K1.out).mono ?_; rintro e w' ⟨rfl, hb⟩; replace BK := BF_ BK hb; replace HB := BT_ hb; clear hb; have hcz0 : w'.cell? ⟨gb, 0, none⟩ = some (.string (⟨#[]⟩ : ByteArray)) := (blk_cell BK.out 0).trans rfl; have hcz1 : w'.cell? ⟨gb, 1, none⟩ = some (.string (⟨#[]⟩ : ByteArray)) := (blk_cell BK.out 1).trans rfl; have hfz0 := blk_frozen BK.out 0; have hfz1 := blk_frozen BK.out 1)
   | (go_at_call 74; with_reducible refine (rat_size.calls q0 q _ K2.out).mono ?_; rintro e w' ⟨rfl, ⟨nd, rfl⟩⟩)
   | (go_at_call 75; with_reducible refine (nat_Gcd.calls m q g 0 _ A3.out).mono ?_; rintro e w' ⟨rfl, hb⟩; replace BK := BF_ BK hb; replace HB := BT_ hb; clear hb; have hcz0 : w'.cell? ⟨gb, 0, none⟩ = some (.string (⟨#[]⟩ : ByteArray)) := (blk_cell BK.out 0).trans rfl; have hcz1 : w'.cell? ⟨gb, 1, none⟩ = some (.string (⟨#[]⟩ : ByteArray)) := (blk_cell BK.out 1).trans rfl; have hfz0 := blk_frozen BK.out 0; have hfz1 := blk_frozen BK.out 1)
   | (go_at_call 76; with_reducible refine (nat_Div.calls m g n' r1 e1 _ A4.out).mono ?_; rintro e w' ⟨rfl, hb⟩; replace BK := BF_ BK hb; replace HB := BT_ hb; clear hb; have hcz0 : w'.cell? ⟨gb, 0, none⟩ = some (.string (⟨#[]⟩ : ByteArray)) := (blk_cell BK.out 0).trans rfl; have hcz1 : w'.cell? ⟨gb, 1, none⟩ = some (.string (⟨#[]⟩ : ByteArray)) := (blk_cell BK.out 1).trans rfl; have hfz0 := blk_frozen BK.out 0; have hfz1 := blk_frozen BK.out 1)
   | (go_at_call 76; with_reducible refine (nat_Div.calls q g d r2 e2 _ A5.out).mono ?_; rintro e w' ⟨rfl, hb⟩; replace BK := BF_ BK hb; replace HB := BT_ hb; clear hb; have hcz0 : w'.cell? ⟨gb, 0, none⟩ = some (.string (⟨#[]⟩ : ByteArray)) := (blk_cell BK.out 0).trans rfl; have hcz1 : w'.cell? ⟨gb, 1, none⟩ = some (.string (⟨#[]⟩ : ByteArray)) := (blk_cell BK.out 1).trans rfl; have hfz0 := blk_frozen BK.out 0; have hfz1 := blk_frozen BK.out 1))
  refine bodyPost_ret (results_ct rfl _ _ gb 64 #[.string n', .string d] (0, 0) _ rfl (by (with_reducible repeat (first | refine blk_drewN ?_ _ | refine blk_drew ?_ | refine blk_alloc ?_ _)); refine blk_put (cs := #[.string n', .string (⟨#[]⟩ : ByteArray)]) ?_ 1 _ rfl; (with_reducible repeat (first | refine blk_drewN ?_ _ | refine blk_drew ?_ | refine blk_alloc ?_ _)); refine blk_put (cs := #[.string (⟨#[]⟩ : ByteArray), .string (⟨#[]⟩ : ByteArray)]) ?_ 0 _ rfl; (with_reducible repeat (first | refine blk_drewN ?_ _ | refine blk_drew ?_ | refine blk_alloc ?_ _)); exact BK.out) Tryz.underlying64 rfl (by kernel_rfl)) rfl ?_;exact ⟨rfl, T6_⟩
 | true =>
  replace A7 := A_ (A7.out rfl);clear A8;go_enter Tryz.func50, Tryz.ntmps50
  go_wp2_with (first
   | (refine BX_ 4 #[.string (⟨#[]⟩ : ByteArray), .string (⟨#[]⟩ : ByteArray)] 64 ?_; intro gb hg w6 hbox hb; have BK := A_ hbox; have GE := GE_ (w := w) hg; replace HB := BT_ hb; clear hb hbox hg)
   | (go_at_call 72; with_reducible refine (strings_HasPrefix.calls q0 (⟨#[45]⟩ : ByteArray) true _ A1.out).mono ?_; rintro e w' ⟨rfl, ⟨nd, rfl⟩⟩)
   | (go_at_call 72; with_reducible refine (strings_HasPrefix.calls p (⟨#[45]⟩ : ByteArray) true _ A6.out).mono ?_; rintro e w' ⟨rfl, ⟨nd, rfl⟩⟩)
   | (go_at_call 74; with_reducible refine (rat_size.calls p m _ A2.out).mono ?_; rintro e w' ⟨rfl, ⟨nd, rfl⟩⟩)
   | (go_at_call 73; with_reducible refine (whole_Neg.calls p0 p e0 _ K1.out).mono ?_; rintro e w' ⟨rfl, hb⟩; replace BK := BF_ BK hb; replace HB := BT_ hb; clear hb; have hcz0 : w'.cell? ⟨gb, 0, none⟩ = some (.string (⟨#[]⟩ : ByteArray)) := (blk_cell BK.out 0).trans rfl; have hcz1 : w'.cell? ⟨gb, 1, none⟩ = some (.string (⟨#[]⟩ : ByteArray)) := (blk_cell BK.out 1).trans rfl; have hfz0 := blk_frozen BK.out 0; have hfz1 := blk_frozen BK.out 1)
   | (go_at_call 74; with_reducible refine (rat_size.calls q0 q _ K2.out).mono ?_; rintro e w' ⟨rfl, ⟨nd, rfl⟩⟩)
   | (go_at_call 75; with_reducible refine (nat_Gcd.calls m q g 0 _ A3.out).mono ?_; rintro e w' ⟨rfl, hb⟩; replace BK := BF_ BK hb; replace HB := BT_ hb; clear hb; have hcz0 : w'.cell? ⟨gb, 0, none⟩ = some (.string (⟨#[]⟩ : ByteArray)) := (blk_cell BK.out 0).trans rfl; have hcz1 : w'.cell? ⟨gb, 1, none⟩ = some (.string (⟨#[]⟩ : ByteArray)) := (blk_cell BK.out 1).trans rfl; have hfz0 := blk_frozen BK.out 0; have hfz1 := blk_frozen BK.out 1)
   | (go_at_call 76; with_reducible refine (nat_Div.calls m g n r1 e1 _ A4.out).mono ?_; rintro e w' ⟨rfl, hb⟩; replace BK := BF_ BK hb; replace HB := BT_ hb; clear hb; have hcz0 : w'.cell? ⟨gb, 0, none⟩ = some (.string (⟨#[]⟩ : ByteArray)) := (blk_cell BK.out 0).trans rfl; have hcz1 : w'.cell? ⟨gb, 1, none⟩ = some (.string (⟨#[]⟩ : ByteArray)) := (blk_cell BK.out 1).trans rfl; have hfz0 := blk_frozen BK.out 0; have hfz1 := blk_frozen BK.out 1)
   | (go_at_call 76; with_reducible refine (nat_Div.calls q g d r2 e2 _ A5.out).mono ?_; rintro e w' ⟨rfl, hb⟩; replace BK := BF_ BK hb; replace HB := BT_ hb; clear hb; have hcz0 : w'.cell? ⟨gb, 0, none⟩ = some (.string (⟨#[]⟩ : ByteArray)) := (blk_cell BK.out 0).trans rfl; have hcz1 : w'.cell? ⟨gb, 1, none⟩ = some (.string (⟨#[]⟩ : ByteArray)) := (blk_cell BK.out 1).trans rfl; have hfz0 := blk_frozen BK.out 0; have hfz1 := blk_frozen BK.out 1)
   | (go_at_call 73; with_reducible refine (whole_Neg.calls n n' e3 _ A7.out).mono ?_; rintro e w' ⟨rfl, hb⟩; replace BK := BF_ BK hb; replace HB := BT_ hb; clear hb; have hcz0 : w'.cell? ⟨gb, 0, none⟩ = some (.string (⟨#[]⟩ : ByteArray)) := (blk_cell BK.out 0).trans rfl; have hcz1 : w'.cell? ⟨gb, 1, none⟩ = some (.string (⟨#[]⟩ : ByteArray)) := (blk_cell BK.out 1).trans rfl; have hfz0 := blk_frozen BK.out 0; have hfz1 := blk_frozen BK.out 1))
  refine bodyPost_ret (results_ct rfl _ _ gb 64 #[.string n', .string d] (0, 0) _ rfl (by (with_reducible repeat (first | refine blk_drewN ?_ _ | refine blk_drew ?_ | refine blk_alloc ?_ _)); refine blk_put (cs := #[.string n', .string (⟨#[]⟩ : ByteArray)]) ?_ 1 _ rfl; (with_reducible repeat (first | refine blk_drewN ?_ _ | refine blk_drew ?_ | refine blk_alloc ?_ _)); refine blk_put (cs := #[.string (⟨#[]⟩ : ByteArray), .string (⟨#[]⟩ : ByteArray)]) ?_ 0 _ rfl; (with_reducible repeat (first | refine blk_drewN ?_ _ | refine blk_drew ?_ | refine blk_alloc ?_ _)); exact BK.out) Tryz.underlying64 rfl (by kernel_rfl)) rfl ?_;exact ⟨rfl, T6_⟩
end Go.Proofs.YtmmonhgfnmeieaaGreatDoor.Err
/- rat.lowest by nought. -/
namespace Go.Proofs.YtmmonhgfnmeieaaGreatDoor.Err
open Go Go.RowKit Go.Extern.Stop Go.Stop Go.Extern Go.ZPWords Go.Proofs.YtmmonhgfnmeieaaGreatDoor.PC Go.Proofs.YtmmonhgfnmeieaaGreatDoor.Th Go.Proofs.YtmmonhgfnmeieaaGreatDoor.Th.Wh
set_option maxHeartbeats 1000000
set_option maxRecDepth 1000000
end Go.Proofs.YtmmonhgfnmeieaaGreatDoor.Err
/- strings.Cut at a slash. -/
namespace Go.Proofs.YtmmonhgfnmeieaaGreatDoor.Err
open Go Go.RowKit Go.Extern.Stop Go.Stop Go.Extern Go.ZPWords
set_option maxHeartbeats 2000000
set_option maxRecDepth 1000000
theorem index_slash (s sub : ByteArray) (w : World) (hsz : sub.size = 1) (hbt : ∀ h : 0 < sub.size, (sub[0]'h).toNat = 47) (b : Bool) (hb : (sub.toList == s.toList) = b) (h0 : b = true → Lib.indexByte s.data.toList 47 = 0) :
    Calls Tryz.prog 132 #[.string s, .string sub] w fun e w' => e = .returned (.int .i64 (Lib.indexByte s.data.toList 47)) ∧ w' = w := by
 have hx : ∀ w, (callFunc 142 #[.string s, .int .u8 47]).run Tryz.prog w = .ok (.value (.int .i64 (Lib.indexByte s.data.toList 47))) w := fun w => by
  rw [run_callFunc_extern Tryz.func142 (by kernel_rfl) (by kernel_rfl) (by kernel_rfl) (e := Extern.BytealgIndexByte.indexByte) (by kernel_rfl), Lib.run_indexByteString];rfl
 cases b with
 | true =>
  rw [h0 rfl] at hx ⊢;clear h0;go_enter Tryz.func132, Tryz.ntmps132;go_wp2;go_ret;exact ⟨rfl, rfl⟩
 | false =>
  clear h0;go_enter Tryz.func132, Tryz.ntmps132;go_wp2;go_ret;exact ⟨rfl, rfl⟩
theorem cut0_miss (s sub : ByteArray) (w : World) (hsz : sub.size = 1) (hbt : ∀ h : 0 < sub.size, (sub[0]'h).toNat = 47) (b : Bool) (hb : (sub.toList == s.toList) = b) (h0 : b = true → Lib.indexByte s.data.toList 47 = 0) (hi : Lib.indexByte s.data.toList 47 = -1) :
    Calls Tryz.prog 110 #[.string s, .string sub] w fun e w' => e = .returned (.tuple #[.string s, .string ⟨#[]⟩, .bool false]) ∧ w' = w := by
 have HI := A_ (fun w => index_slash s sub w hsz hbt b hb h0);clear hb h0 hbt hsz;rw [hi] at HI;clear hi;go_enter Tryz.func110, Tryz.ntmps110;go_wp2_with (go_at_call 132; with_reducible refine (HI.out _).mono ?_; rintro e w' ⟨rfl, rfl⟩);go_ret3;exact ⟨rfl, rfl⟩
theorem cut0_hit (s sub : ByteArray) (w : World) (hsz : sub.size = 1) (hbt : ∀ h : 0 < sub.size, (sub[0]'h).toNat = 47) (b : Bool) (hb : (sub.toList == s.toList) = b) (h0 : b = true → Lib.indexByte s.data.toList 47 = 0) (i : Nat) (hi : Lib.indexByte s.data.toList 47 = (i : Int)) (hlt : i < s.size) (hmax : s.size ≤ 1000000000000) :
    Calls Tryz.prog 110 #[.string s, .string sub] w fun e w' => e = .returned (.tuple #[.string (s.extract 0 i), .string (s.extract (i + 1) s.size), .bool true]) ∧ Drawn0 w w' := by
 have HI := A_ (fun w => index_slash s sub w hsz hbt b hb h0);clear hb h0 hbt;rw [hi] at HI;clear hi;have c0 : (i : Int) ≥ 0 := by omega
 have c1 : (0 : Int) ≤ (i : Int) := by omega
 have c2 : (i : Int) ≤ (s.size : Int) := by omega
 have c3 : (0 : Int) ≤ (i : Int) + 1 := by omega
 have c4 : (i : Int) + 1 ≤ (s.size : Int) := by omega
 go_enter Tryz.func110, Tryz.ntmps110;go_wp2_with (go_at_call 132; with_reducible refine (HI.out _).mono ?_; rintro e w' ⟨rfl, rfl⟩);go_region;try go_wp2
 go_ret3;exact ⟨rfl, ⟨⟨1, rfl⟩⟩⟩
/-- What strings.Cut at a slash gives. -/
theorem slash_pre (s : ByteArray) : ∃ b, (((⟨#[47]⟩ : ByteArray).toList == s.toList) = b) ∧ (b = true → Lib.indexByte s.data.toList 47 = 0) := by
  refine ⟨_, rfl, fun h => ?_⟩;rw [beq_iff_eq, ByteArray.toList_eq, ByteArray.toList_eq] at h;rw [← h];rfl
theorem cut_miss' (s : ByteArray) (w : World) (hi : Lib.indexByte s.data.toList 47 = -1) :
    Calls Tryz.prog 89 #[.string s, .string ⟨#[47]⟩] w fun e w' => e = .returned (.tuple #[.string s, .string ⟨#[]⟩, .bool false]) ∧ w' = w := by
 obtain ⟨b, hb, h0⟩ := slash_pre s;have HI := A_ (fun w => cut0_miss s ⟨#[47]⟩ w rfl (fun _ => rfl) b hb h0 hi);clear hb h0 hi;generalize (⟨#[47]⟩ : ByteArray) = sub at HI ⊢;go_enter Tryz.func89, Tryz.ntmps89;go_wp2_with (go_at_call 110; with_reducible refine (HI.out _).mono ?_; rintro e w' ⟨rfl, rfl⟩);go_ret3;exact ⟨rfl, rfl⟩
theorem cut_hit' (s : ByteArray) (w : World) (i : Nat) (hi : Lib.indexByte s.data.toList 47 = (i : Int)) (hlt : i < s.size) (hmax : s.size ≤ 1000000000000) :
    Calls Tryz.prog 89 #[.string s, .string ⟨#[47]⟩] w fun e w' => e = .returned (.tuple #[.string (s.extract 0 i), .string (s.extract (i + 1) s.size), .bool true]) ∧ Drawn0 w w' := by
 obtain ⟨b, hb, h0⟩ := slash_pre s;have HI := A_ (fun w => cut0_hit s ⟨#[47]⟩ w rfl (fun _ => rfl) b hb h0 i hi hlt hmax);clear hb h0 hi;generalize (⟨#[47]⟩ : ByteArray) = sub at HI ⊢;go_enter Tryz.func89, Tryz.ntmps89;go_wp2_with (go_at_call 110; with_reducible refine (HI.out _).mono ?_; rintro e w' ⟨rfl, ⟨⟨n, rfl⟩⟩⟩);go_ret3;exact ⟨rfl, ⟨⟨n, rfl⟩⟩⟩
end Go.Proofs.YtmmonhgfnmeieaaGreatDoor.Err
