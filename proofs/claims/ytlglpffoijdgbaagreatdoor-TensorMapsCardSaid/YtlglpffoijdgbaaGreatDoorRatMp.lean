/- rat.Power, told by rationals. -/
import Derived.Test.YtlglpffoijdgbaaGreatDoorRatOm
import Derived.Test.YtlglpffoijdgbaaGreatDoorRatV
-- mini
namespace Go.Proofs.YtlglpffoijdgbaaGreatDoor.Err
open Go Go.RowKit Go.Extern.Stop Go.Stop Go.Extern Go.ZPWords Go.ZPMore Go.ZPLast Go.Proofs.YtlglpffoijdgbaaGreatDoor.PC Go.Proofs.YtlglpffoijdgbaaGreatDoor.Th Go.Proofs.YtlglpffoijdgbaaGreatDoor.Th.Wh
set_option maxHeartbeats 4000000
set_option maxRecDepth 1000000
theorem power_n {aF aZ : Addr} (a p q : ByteArray) (n : Nat) (hn : n ≤ 6) (o : Nat → ByteArray) (w : World) (hG : GsAt aF aZ w) (h0 : o 0 = ⟨#[49]⟩)
    (hX : ∀ w, Calls Tryz.prog 65 #[.string a] w fun e w' => e = .returned (.tuple #[.agg #[.string p, .string q], .nilIface]) ∧ Below w.heap.size w w')
    (hM : ∀ i, i < 6 → ∀ w, GsAt aF aZ w → Calls Tryz.prog 21 #[.string (o i), .string a] w fun e w' => e = .returned (.tuple #[.string (o (i + 1)), .int .i64 0]) ∧ Below w.heap.size w w') :
    Calls Tryz.prog 51 #[.string a, .int .i64 (n : Int)] w fun e w' => e = .returned (.tuple #[.string (o n), .int .i64 0]) ∧ Below w.heap.size w w' := by
 have HG0 := A_ hG;have KX := A_ hX;have h1 := hM 0 (by decide);rw [h0] at h1;have M0 := A_ h1;have M1 := A_ (hM 1 (by decide));have M2 := A_ (hM 2 (by decide));have M3 := A_ (hM 3 (by decide));have M4 := A_ (hM 4 (by decide));have M5 := A_ (hM 5 (by decide));have HB := A_ (Below.refl w.heap.size w);clear hG hX h1 hM;have hc : n = 0 ∨ n = 1 ∨ n = 2 ∨ n = 3 ∨ n = 4 ∨ n = 5 ∨ n = 6 := by omega
 clear hn;rcases hc with rfl | rfl | rfl | rfl | rfl | rfl | rfl
 · rw [h0];clear h0 M0 M1 M2 M3 M4 M5;show Calls Tryz.prog 51 #[.string a, .int .i64 0] w _;go_enter Tryz.func51, Tryz.ntmps51
   go_wp2_with (first
    | (go_at_call 65; with_reducible refine (KX.out _).mono ?_; rintro e w' ⟨rfl, hb⟩; replace HB := BT_ hb; clear hb)
    | (refine BX_ 6 #[.string (⟨#[]⟩ : ByteArray), .string (⟨#[]⟩ : ByteArray)] 67 ?_; intro g6 hg w6 hbox hb; have BK6 := A_ hbox; have GE6 := GE_ (w := w) hg; replace HB := BT_ hb; clear hb hbox hg; have hz60 : w6.cell? ⟨g6, 0, none⟩ = some (.string (⟨#[]⟩ : ByteArray)) := (blk_cell BK6.out 0).trans rfl; have hz61 : w6.cell? ⟨g6, 1, none⟩ = some (.string (⟨#[]⟩ : ByteArray)) := (blk_cell BK6.out 1).trans rfl; have hf60 := blk_frozen BK6.out 0; have hf61 := blk_frozen BK6.out 1))
   refine wp_loop_rounds 2 ?_;rw [rounds_succ];go_wp2;go_ret2;exact ⟨rfl, T6_⟩
 all_goals
  clear h0;dsimp only [Nat.reduceAdd, Int.cast_ofNat_Int] at *;generalize o 1 = o1 at *;generalize o 2 = o2 at *;generalize o 3 = o3 at *;generalize o 4 = o4 at *;generalize o 5 = o5 at *;generalize o 6 = o6 at *;go_enter Tryz.func51, Tryz.ntmps51
  go_wp2_with (first
   | (go_at_call 65; with_reducible refine (KX.out _).mono ?_; rintro e w' ⟨rfl, hb⟩; replace HB := BT_ hb; clear hb)
   | (refine BX_ 6 #[.string (⟨#[]⟩ : ByteArray), .string (⟨#[]⟩ : ByteArray)] 67 ?_; intro g6 hg w6 hbox hb; have BK6 := A_ hbox; have GE6 := GE_ (w := w) hg; replace HB := BT_ hb; clear hb hbox hg; have hz60 : w6.cell? ⟨g6, 0, none⟩ = some (.string (⟨#[]⟩ : ByteArray)) := (blk_cell BK6.out 0).trans rfl; have hz61 : w6.cell? ⟨g6, 1, none⟩ = some (.string (⟨#[]⟩ : ByteArray)) := (blk_cell BK6.out 1).trans rfl; have hf60 := blk_frozen BK6.out 0; have hf61 := blk_frozen BK6.out 1))
  refine wp_loop_rounds 8 ?_
  repeat (rw [rounds_succ]; go_wp2_with (first | (go_at_call 21; with_reducible refine (M0.out _ (HG0.out.below T6_)).mono ?_; rintro e w' ⟨rfl, hb⟩; replace HB := BT_ hb; clear hb) | (go_at_call 21; with_reducible refine (M1.out _ (HG0.out.below T6_)).mono ?_; rintro e w' ⟨rfl, hb⟩; replace HB := BT_ hb; clear hb) | (go_at_call 21; with_reducible refine (M2.out _ (HG0.out.below T6_)).mono ?_; rintro e w' ⟨rfl, hb⟩; replace HB := BT_ hb; clear hb) | (go_at_call 21; with_reducible refine (M3.out _ (HG0.out.below T6_)).mono ?_; rintro e w' ⟨rfl, hb⟩; replace HB := BT_ hb; clear hb) | (go_at_call 21; with_reducible refine (M4.out _ (HG0.out.below T6_)).mono ?_; rintro e w' ⟨rfl, hb⟩; replace HB := BT_ hb; clear hb) | (go_at_call 21; with_reducible refine (M5.out _ (HG0.out.below T6_)).mono ?_; rintro e w' ⟨rfl, hb⟩; replace HB := BT_ hb; clear hb)))
  go_ret2
  exact ⟨rfl, T6_⟩
theorem power_no {aF aZ : Addr} (a : ByteArray) (n : Int) (w : World) (hG : GsAt aF aZ w)
    (hX : ∀ w, GsAt aF aZ w → Calls Tryz.prog 65 #[.string a] w fun e w' => ∃ v, e = .returned (.tuple #[.agg #[.string ⟨#[]⟩, .string ⟨#[]⟩], v]) ∧ ErrV aF aZ w' v 2 ∧ Below w.heap.size w w') :
    Calls Tryz.prog 51 #[.string a, .int .i64 n] w fun e w' => e = .returned (.tuple #[.string ⟨#[]⟩, .int .i64 2]) ∧ Below w.heap.size w w' := by
 have HG0 := A_ hG;have KX := A_ hX;clear hG hX;have HB := A_ (Below.refl w.heap.size w);go_enter Tryz.func51, Tryz.ntmps51
 go_wp2_with (first
  | (go_at_call 65; with_reducible refine (KX.out _ (HG0.out.below T6_)).mono ?_; rintro e w' ⟨v, rfl, hev, hb⟩; replace HB := BT_ hb; clear hb; obtain ⟨pb, rfl⟩ : ∃ pb, v = .iface 83 (.pointer (some ⟨pb, 0, none⟩)) := hev.iface (by decide); have EV := A_ hev; clear hev)
  | (refine BX_ 6 #[.string (⟨#[]⟩ : ByteArray), .string (⟨#[]⟩ : ByteArray)] 67 ?_; intro g6 hg w6 hbox hb; have BK6 := A_ hbox; have GE6 := GE_ (w := w) hg; replace HB := BT_ hb; have ev_ := A_ (EV.out.below hb); clear EV; have EV := ev_; clear ev_; clear hb hbox hg; have hz60 : w6.cell? ⟨g6, 0, none⟩ = some (.string (⟨#[]⟩ : ByteArray)) := (blk_cell BK6.out 0).trans rfl; have hz61 : w6.cell? ⟨g6, 1, none⟩ = some (.string (⟨#[]⟩ : ByteArray)) := (blk_cell BK6.out 1).trans rfl; have hf60 := blk_frozen BK6.out 0; have hf61 := blk_frozen BK6.out 1)
  | (go_at_call 67; with_reducible refine (number_v _ 2 _ (HG0.out.below T6_) (EV.out.set BK6.out) (by decide)).mono ?_; rintro e w' ⟨rfl, hb⟩; replace HB := BT_ hb; clear hb))
 go_ret2;exact ⟨rfl, HB.out⟩
theorem power_neg {aF aZ : Addr} (a p q : ByteArray) (n : Int) (w : World) (hG : GsAt aF aZ w)
    (hX : ∀ w, Calls Tryz.prog 65 #[.string a] w fun e w' => e = .returned (.tuple #[.agg #[.string p, .string q], .nilIface]) ∧ Below w.heap.size w w') (hn : n < 0) :
    Calls Tryz.prog 51 #[.string a, .int .i64 n] w fun e w' => e = .returned (.tuple #[.string ⟨#[]⟩, .int .i64 1]) ∧ Below w.heap.size w w' := by
 have HG0 := A_ hG;have KX := A_ hX;clear hG hX;have HB := A_ (Below.refl w.heap.size w);go_enter Tryz.func51, Tryz.ntmps51
 go_wp2_with (first
  | (go_at_call 65; with_reducible refine (KX.out _).mono ?_; rintro e w' ⟨rfl, hb⟩; replace HB := BT_ hb; clear hb)
  | (refine BX_ 6 #[.string (⟨#[]⟩ : ByteArray), .string (⟨#[]⟩ : ByteArray)] 67 ?_; intro g6 hg w6 hbox hb; have BK6 := A_ hbox; have GE6 := GE_ (w := w) hg; replace HB := BT_ hb; clear hb hbox hg; have hz60 : w6.cell? ⟨g6, 0, none⟩ = some (.string (⟨#[]⟩ : ByteArray)) := (blk_cell BK6.out 0).trans rfl; have hz61 : w6.cell? ⟨g6, 1, none⟩ = some (.string (⟨#[]⟩ : ByteArray)) := (blk_cell BK6.out 1).trans rfl; have hf60 := blk_frozen BK6.out 0; have hf61 := blk_frozen BK6.out 1))
 go_ret2;exact ⟨rfl, T6_⟩
theorem power_big {aF aZ : Addr} (a p q : ByteArray) (n : Int) (w : World) (hG : GsAt aF aZ w)
    (hX : ∀ w, Calls Tryz.prog 65 #[.string a] w fun e w' => e = .returned (.tuple #[.agg #[.string p, .string q], .nilIface]) ∧ Below w.heap.size w w') (hn : 0 ≤ n) (hm : 6 < n) :
    Calls Tryz.prog 51 #[.string a, .int .i64 n] w fun e w' => e = .returned (.tuple #[.string ⟨#[]⟩, .int .i64 1]) ∧ Below w.heap.size w w' := by
 have HG0 := A_ hG;have KX := A_ hX;clear hG hX;have HB := A_ (Below.refl w.heap.size w);go_enter Tryz.func51, Tryz.ntmps51
 go_wp2_with (first
  | (go_at_call 65; with_reducible refine (KX.out _).mono ?_; rintro e w' ⟨rfl, hb⟩; replace HB := BT_ hb; clear hb)
  | (refine BX_ 6 #[.string (⟨#[]⟩ : ByteArray), .string (⟨#[]⟩ : ByteArray)] 67 ?_; intro g6 hg w6 hbox hb; have BK6 := A_ hbox; have GE6 := GE_ (w := w) hg; replace HB := BT_ hb; clear hb hbox hg; have hz60 : w6.cell? ⟨g6, 0, none⟩ = some (.string (⟨#[]⟩ : ByteArray)) := (blk_cell BK6.out 0).trans rfl; have hz61 : w6.cell? ⟨g6, 1, none⟩ = some (.string (⟨#[]⟩ : ByteArray)) := (blk_cell BK6.out 1).trans rfl; have hf60 := blk_frozen BK6.out 0; have hf61 := blk_frozen BK6.out 1))
 go_ret2;exact ⟨rfl, T6_⟩
theorem qm_pow (x : Rat) (n : Nat) : qm (x ^ n) ≤ n * qm x + 1 := by
 induction n with
 | zero => rw [Rat.pow_zero]; exact Nat.le_trans (by decide +kernel : qm 1 ≤ 1) (by omega)
 | succ n ih =>
  rw [Rat.pow_succ];have := qm_mul (x ^ n) x;rw [Nat.add_mul];omega
noncomputable def rPower (a : ByteArray) (n : Int) : ByteArray × Int := match rv a with | some x => if n < 0 ∨ 6 < n then (⟨#[]⟩, 1) else (rt (x ^ n.toNat), 0) | none => (⟨#[]⟩, 2)
theorem pow_mul {aF aZ : Addr} (x : Rat) (hx : qm x ≤ 3000000000) (i : Nat) (hi : i < 6) (w : World) (hG : GsAt aF aZ w) :
    Calls Tryz.prog 21 #[.string (rt (x ^ i)), .string (rt x)] w fun e w' => e = .returned (.tuple #[.string (rt (x ^ (i + 1))), .int .i64 0]) ∧ Below w.heap.size w w' := by
  have hm := qm_pow x i;have h1 : i * qm x ≤ 5 * qm x := Nat.mul_le_mul_right _ (by omega);have h2 := size_rt (x ^ i);have h3 := size_rt x;have := mul_calls (rt (x ^ i)) (rt x) (by omega) (by omega) w ⟨aF, aZ, hG⟩;rw [rMul, rv_rt, rv_rt] at this;rw [Rat.pow_succ];exact this
theorem power_calls (a : ByteArray) (n : Int) (ha : a.size ≤ 3000000000) (w : World) (hG : Gs w) :
    Calls Tryz.prog 51 #[.string a, .int .i64 n] w fun e w' => e = .returned (.tuple #[.string (rPower a n).1, .int .i64 (rPower a n).2]) ∧ Below w.heap.size w w' := by
 obtain ⟨aF, aZ, hG⟩ := hG;rcases rv_cases a with h | ⟨x, hx, h⟩
 · rw [rPower, h]; exact power_no a n w hG (fun w hG => read_not a h (by omega) w hG)
 subst hx;have hx := Nat.le_trans (qm_le x) ha;rw [rPower, h];have hr := fun w => read_rt x (by omega) w;dsimp only;by_cases hn : n < 0
 · rw [if_pos (Or.inl hn)]; exact power_neg _ _ _ n w hG hr hn
 by_cases hb : 6 < n
 · rw [if_pos (Or.inr hb)]; exact power_big _ _ _ n w hG hr (by omega) hb
 rw [if_neg (by omega)];obtain ⟨m, rfl⟩ := Int.eq_ofNat_of_zero_le (show 0 ≤ n by omega);exact power_n _ _ _ m (by omega) (fun i => rt (x ^ i)) w hG (by rw [Rat.pow_zero, rt_1]) hr (fun i hi w hG => pow_mul x hx i hi w hG)
theorem qp {x : Rat} {d : Nat} (hx : qm x ≤ d) (n : Nat) (hn : n ≤ 6 := by omega) : qm (x ^ n) ≤ 6 * d + 1 := by
  have := qm_pow x n;have h1 : n * qm x ≤ 6 * d := Nat.mul_le_mul hn hx
  omega
end Go.Proofs.YtlglpffoijdgbaaGreatDoor.Err
