/- tensor.Sum: the walks. -/
import Derived.Test.YtmmonhgfnmeieaaGreatDoorTenT
-- mini
namespace Go.Proofs.YtmmonhgfnmeieaaGreatDoor.Ten
open Go Go.RowKit Go.Extern.Stop Go.Stop Go.Extern Go.ZPWords Go.ZPMore Go.ZPLast Go.Proofs.YtmmonhgfnmeieaaGreatDoor.PC Go.Proofs.YtmmonhgfnmeieaaGreatDoor.Th Go.Proofs.YtmmonhgfnmeieaaGreatDoor.Th.Wh Go.Proofs.YtmmonhgfnmeieaaGreatDoor.Err
set_option maxHeartbeats 4000000
set_option maxRecDepth 1000000
set_option linter.unusedVariables false
theorem sum_no (A0 : Option Addr) (c0 : Nat) (A1 : Option Addr) (c1 : Nat) (s : List Int) (d : List ByteArray) (w : World) (hG : Gs w) (hr0 : Kd.C (Kd.int .i64) w A0 s.length s) (hc0 : s.length ≤ c0) (hr1 : Kd.C Kd.string w A1 d.length d) (hs : s.length ≤ 1000) (hl : d.length ≤ 1000) (hd : ∀ x ∈ d, x.size ≤ 40000000000) (ht : tRight ⟨s, d⟩ = false) :
    Calls Tryz.prog 40 #[.agg #[.slice A0 s.length c0, .slice A1 d.length c1]] w fun e w' => e = .returned (.tuple #[.string ⟨#[]⟩, .int .i64 1]) ∧ Below w.heap.size w w' := by
 have KR := A_ (fun (W : World) (hb : Below w.heap.size w W) => tright_calls A0 c0 A1 c1 ⟨s, d⟩ W (hG.below hb) (Kd.C_below hr0 hb) hc0 (Kd.C_below hr1 hb) hs hl hd);rw [ht] at KR;have HB := A_ (Below.refl w.heap.size w);clear hG hr0 hc0 hr1 hs hl hd ht;dsimp only at *;go_enter Tryz.func40, Tryz.ntmps40
 go_wp2_with (first
  | (refine BX_ 1 #[.slice A0 s.length c0, .slice A1 d.length c1] 25 ?_; intro g1 hg w1 hbox hb; have BK1 := A_ hbox; replace HB := BT_ hb; clear hb hbox hg; have hz0 : w1.cell? ⟨g1, 0, none⟩ = some (.slice A0 s.length c0) := (blk_cell BK1.out 0).trans rfl; have hz1 : w1.cell? ⟨g1, 1, none⟩ = some (.slice A1 d.length c1) := (blk_cell BK1.out 1).trans rfl)
  | (go_at_call 29; with_reducible refine (KR.out _ T6_).mono ?_; rintro e w5 ⟨rfl, hb⟩; replace BK1 := BF_ BK1 hb; replace HB := BT_ hb; clear hb; have hy1 := CB_ BK1))
 go_ret2;exact ⟨rfl, HB.out⟩
theorem sum_ok (A0 : Option Addr) (c0 : Nat) (A1 : Option Addr) (c1 : Nat) (s : List Int) (d : List ByteArray) (o : Nat → ByteArray) (w : World) (hG : Gs w) (hr0 : Kd.C (Kd.int .i64) w A0 s.length s) (hc0 : s.length ≤ c0) (hr1 : Kd.C Kd.string w A1 d.length d) (hs : s.length ≤ 1000) (hl : d.length ≤ 1000) (hd : ∀ x ∈ d, x.size ≤ 40000000000) (ht : tRight ⟨s, d⟩ = true) (h0 : o 0 = ⟨#[48]⟩) (ho : ∀ i : Nat, i < d.length → (o i).size ≤ 40000000000 ∧ o (i + 1) = (rAdd (o i) (rdOf ByteArray.empty d (i : Int))).1) :
    Calls Tryz.prog 40 #[.agg #[.slice A0 s.length c0, .slice A1 d.length c1]] w fun e w' => e = .returned (.tuple #[.string (o d.length), .int .i64 0]) ∧ Below w.heap.size w w' := by
 have KR := A_ (fun (W : World) (hb : Below w.heap.size w W) => tright_calls A0 c0 A1 c1 ⟨s, d⟩ W (hG.below hb) (Kd.C_below hr0 hb) hc0 (Kd.C_below hr1 hb) hs hl hd);rw [ht] at KR;have HB := A_ (Below.refl w.heap.size w);have HR := A_ hr1;have H0 := A_ h0;have KA := A_ (fun (i : Nat) (hi : i < d.length) (W : World) (hb : Below w.heap.size w W) => show Calls Tryz.prog 25 #[.string (o i), .string (rdOf ByteArray.empty d (i : Int))] W fun e w' => e = .returned (.tuple #[.string (o (i + 1)), .int .i64 (rAdd (o i) (rdOf ByteArray.empty d (i : Int))).2]) ∧ Below W.heap.size W w' from (ho i hi).2 ▸ add_calls _ _ (ho i hi).1 (hd _ (rdOf_mem d i hi)) W (hG.below hb));have HL := A_ hl;clear hG hr0 hc0 hr1 hs hl hd ht ho h0;dsimp only at *;obtain ⟨m, hm⟩ : ∃ m, d.length = m := ⟨_, rfl⟩;rw [hm] at HR KR KA HL ⊢;clear hm;go_enter Tryz.func40, Tryz.ntmps40
 go_wp2_with (first
  | (refine BX_ 1 #[.slice A0 s.length c0, .slice A1 m c1] 25 ?_; intro g1 hg w1 hbox hb; have BK1 := A_ hbox; replace HB := BT_ hb; clear hb hbox hg; have hz0 : w1.cell? ⟨g1, 0, none⟩ = some (.slice A0 s.length c0) := (blk_cell BK1.out 0).trans rfl; have hz1 : w1.cell? ⟨g1, 1, none⟩ = some (.slice A1 m c1) := (blk_cell BK1.out 1).trans rfl)
  | (go_at_call 29; with_reducible refine (KR.out _ T6_).mono ?_; rintro e w5 ⟨rfl, hb⟩; replace BK1 := BF_ BK1 hb; replace HB := BT_ hb; clear hb; have hy1 := CB_ BK1))
 go_loopg [4, 13] m (fun gf v4 v13 wx => ∃ p : Nat, v4 = .string (o p) ∧ v13 = .int .i64 p ∧ Aside0 (p + gf = m) ∧ Aside0 (Below w.heap.size w wx))
 case atStart => exact ⟨0, by rw [H0.out], rfl, ⟨by omega⟩, HB⟩
 clear BK1 HB hy1 hz0 hz1;obtain ⟨p, rfl, rfl, HP, HB⟩ := hrel;by_cases hlt : p < m
 · obtain ⟨g', rfl⟩ : ∃ g', gk = g' + 1 := ⟨gk - 1, by have := HP.out; omega⟩;obtain ⟨ad, e, hx⟩ := Kd.at_string HR.out (p : Int) (by omega) (by omega)
   cases e
   replace hx := (HB.out.cell (World.block_lt_of_cell? w _ hx)).trans hx;have KP := A_ (KA.out p hlt);generalize rdOf ByteArray.empty d (p : Int) = x at *;generalize (rAdd (o p) x).2 = ec at *;simp only [Int.toNat_natCast] at hx;have hlb : decide ((p : Int) < (m : Int)) = true := decide_eq_true (by omega);have hm1 := HL.out;go_wp2_with (go_at_call 25; with_reducible refine (KP.out _ HB.out).mono ?_; rintro e w7 ⟨rfl, hb⟩; replace HB := A_ (below_step HB.out hb); clear hb);go_roundg g'
   case measure => omega
   case rel => exact ⟨p + 1, rfl, by go_num, ⟨by have := HP.out; omega⟩, HB⟩
 obtain rfl : p = m := by have := HP.out; omega
 have hlb : decide ((p : Int) < (p : Int)) = false := decide_eq_false (by omega);go_wp2;go_ret2;exact ⟨rfl, HB.out⟩
end Go.Proofs.YtmmonhgfnmeieaaGreatDoor.Ten
/- tensor.Sum: the contract. -/
namespace Go.Proofs.YtmmonhgfnmeieaaGreatDoor.Ten
open Go Go.RowKit Go.ZPWords Go.ZPMore Go.ZPLast Go.Proofs.YtmmonhgfnmeieaaGreatDoor.PC Go.Proofs.YtmmonhgfnmeieaaGreatDoor.Th Go.Proofs.YtmmonhgfnmeieaaGreatDoor.Th.Wh Go.Proofs.YtmmonhgfnmeieaaGreatDoor.Err
set_option linter.unusedVariables false
theorem sum_calls (A0 : Option Addr) (c0 : Nat) (A1 : Option Addr) (c1 : Nat) (s : List Int) (d : List ByteArray) (w : World) (hG : Gs w) (hr0 : Kd.C (Kd.int .i64) w A0 s.length s) (hc0 : s.length ≤ c0) (hr1 : Kd.C Kd.string w A1 d.length d) (h : Sm s d) (ha : ∀ p, (accS (d.take p)).size ≤ 40000000000) :
    Calls Tryz.prog 40 #[.agg #[.slice A0 s.length c0, .slice A1 d.length c1]] w fun e w' => e = .returned (.tuple #[.string (tSum ⟨s, d⟩).1, .int .i64 (tSum ⟨s, d⟩).2]) ∧ Below w.heap.size w w' := by
 unfold tSum;by_cases ht : tRight ⟨s, d⟩ = true
 · rw [if_pos ht]
   have := sum_ok A0 c0 A1 c1 s d (fun p => accS (d.take p)) w hG hr0 hc0 hr1 h.1 h.2.1 h.big ht (by simp [accS]) (fun i hi => ⟨ha i, by
    show accS (d.take (i + 1)) = _;unfold accS;rw [List.take_succ_eq_append_getElem hi, List.foldl_append];simp [rdOf, List.getD, hi]⟩)
   rw [List.take_length] at this;exact this
 rw [if_neg ht];exact sum_no A0 c0 A1 c1 s d w hG hr0 hc0 hr1 h.1 h.2.1 h.big (by simpa using ht)
end Go.Proofs.YtmmonhgfnmeieaaGreatDoor.Ten
