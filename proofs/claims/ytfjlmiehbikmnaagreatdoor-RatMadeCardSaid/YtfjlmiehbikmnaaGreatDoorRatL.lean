/- rat.lowest: p by q in lowest terms, or by nought. -/
import Derived.Test.YtfjlmiehbikmnaaGreatDoorRatT
namespace Go.Proofs.YtfjlmiehbikmnaaGreatDoor.Err
open Go Go.RowKit Go.Extern.Stop Go.Stop Go.Extern Go.Proofs.YtfjlmiehbikmnaaGreatDoorW.PrintWords Go.Proofs.YtfjlmiehbikmnaaGreatDoor.PC Go.Proofs.YtfjlmiehbikmnaaGreatDoor.Th Go.Proofs.YtfjlmiehbikmnaaGreatDoor.Th.Wh
theorem zt_minus {z : Int} (h : z < 0) : (zt z).data.toList = 45 :: (txt z.natAbs).data.toList := by unfold zt; rw [if_pos h, minus_list]
theorem zt_plain {z : Int} (h : ¬ z < 0) : zt z = txt z.natAbs := by unfold zt; rw [if_neg h]
theorem zt_nat (n : Nat) : zt (n : Int) = txt n := by rw [zt_plain (by omega)]; rfl
theorem zt_len (z : Int) : 1 ≤ (zt z).size := by
  by_cases h : z < 0
  · rw [size_list', zt_minus h]; simp
  · obtain ⟨c, l, hc, _, _⟩ := txt_head z.natAbs
    rw [zt_plain h, size_list', hc]; simp
theorem pre0 (z : Int) : stringslite_HasPrefix.f (zt z) (⟨#[45]⟩ : ByteArray) = some (decide (z < 0)) := by
  have hl := zt_len z
  have k1 : ((zt z).size : Int) ≥ (((⟨#[45]⟩ : ByteArray).size : Nat) : Int) := by show ((zt z).size : Int) ≥ 1; omega
  have k2 : (0 : Int) ≤ (((⟨#[45]⟩ : ByteArray).size : Nat) : Int) := by omega
  rw [stringslite_HasPrefix.f, if_pos k1, if_pos k2, if_pos k1]
  refine congrArg some ?_
  have e : ((zt z).extract 0 ((((⟨#[45]⟩ : ByteArray).size : Nat) : Int)).toNat).toList = (zt z).data.toList.take 1 := by rw [ByteArray.toList_eq, ex_list]; rfl
  rw [e, ByteArray.toList_eq]
  by_cases h : z < 0
  · rw [zt_minus h, decide_eq_true h]; rfl
  · obtain ⟨c, l, hc, h1, h2⟩ := txt_head z.natAbs
    rw [zt_plain h, hc, decide_eq_false h]
    rw [beq_eq_false_iff_ne]
    intro e
    injection e with e1
    rw [e1] at h1
    exact absurd h1 (by decide)
theorem pre_zt (z : Int) : strings_HasPrefix.f (zt z) (⟨#[45]⟩ : ByteArray) = some (decide (z < 0)) := by rw [strings_HasPrefix.f, pre0, Option.bind_some]
theorem size_zt (z : Int) : rat_size.f (zt z) = some (txt z.natAbs) := by
  have hl := zt_len z
  have k1 : (((⟨#[45]⟩ : ByteArray).size : Nat) : Int) ≤ ((zt z).size : Int) := by show (1 : Int) ≤ ((zt z).size : Int); omega
  have k2 : (0 : Int) ≤ (((⟨#[45]⟩ : ByteArray).size : Nat) : Int) := by omega
  rw [rat_size.f, strings_TrimPrefix.f, stringslite_TrimPrefix.f, pre0, Option.bind_some]
  by_cases h : z < 0
  · rw [if_pos (by simpa using h), if_pos k2, if_pos k1]
    refine congrArg some (ext_of ?_)
    rw [ex_list, size_list' (zt z), List.take_length, zt_minus h]
    rfl
  · rw [if_neg (by simpa using h), zt_plain h]; rfl
/-- The dividend and the divisor in lowest terms. -/
def lp (x y : Int) : Int := if y < 0 then -x else x
def ln (x y : Int) : Int := let g := Nat.gcd x.natAbs y.natAbs; if lp x y < 0 then -((x.natAbs / g : Nat) : Int) else ((x.natAbs / g : Nat) : Int)
def ld (x y : Int) : Nat := y.natAbs / Nat.gcd x.natAbs y.natAbs
set_option maxHeartbeats 4000000
set_option maxRecDepth 1000000
theorem lowest_plain (p q n d m : ByteArray) (w : World) (hq : q.toList ≠ ([48] : List UInt8))
    (b1 : Bool) (h1 : strings_HasPrefix.f q (⟨#[45]⟩ : ByteArray) = some false) (h2 : rat_size.f p = some m) (g : ByteArray) (h3 : nat_Gcd.f m q = some (g, 0))
    (r1 r2 : ByteArray) (e1 e2 : Int) (h4 : nat_Div.f m g = some (n, r1, e1)) (h5 : nat_Div.f q g = some (d, r2, e2)) (h6 : strings_HasPrefix.f p (⟨#[45]⟩ : ByteArray) = some b1)
    (n' : ByteArray) (e3 : Int) (h7 : b1 = true → whole_Neg.f n = some (n', e3)) (h8 : b1 = false → n' = n) :
    Calls Tryz.prog 30 #[.string p, .string q] w fun e w' => e = .returned (.tuple #[.agg #[.string n', .string d], .nilIface]) ∧ Below w.heap.size w w' := by
  have hq0 : (q.toList == ([48] : List UInt8)) = false := beq_eq_false_iff_ne.2 hq
  have A1 := Aside0.mk h1
  have A2 := Aside0.mk h2
  have A3 := Aside0.mk h3
  have A4 := Aside0.mk h4
  have A5 := Aside0.mk h5
  have A6 := Aside0.mk h6
  have A7 := Aside0.mk h7
  have A8 := Aside0.mk h8
  clear h1 h2 h3 h4 h5 h6 h7 h8
  have HB := Aside0.mk (Below.refl w.heap.size w)
  cases b1 with
  | false =>
    obtain rfl := A8.out rfl
    clear A7 A8
    go_enter Tryz.func30, Tryz.ntmps30
    go_wp2_with (first
      | ((with_reducible refine gate_dst (N := 4) rfl ?_); refine box_event ?hg (N := 4) ?hd (cs := #[.string (⟨#[]⟩ : ByteArray), .string (⟨#[]⟩ : ByteArray)]) (t := 48) ?hr ?_; (case hd => rfl); (case hg => rfl); (case hr => exact T3_); intro gb hg w6 hbox hb; have n0_ := Aside0.mk (below_step T6_ hb); have n1_ := Aside0.mk hbox; have n2_ := Aside0.mk ((by rw [hg]; exact (below_size T6_)) : w.heap.size ≤ gb); clear HB; have HB := n0_; have BK := n1_; have GE := n2_; clear n0_ n1_ n2_; clear hb hbox hg)
      | (go_at_call 50; with_reducible refine (strings_HasPrefix.calls q (⟨#[45]⟩ : ByteArray) false _ A1.out).mono ?_; rintro e w' ⟨rfl, ⟨nd, rfl⟩⟩)
      | (go_at_call 50; with_reducible refine (strings_HasPrefix.calls p (⟨#[45]⟩ : ByteArray) false _ A6.out).mono ?_; rintro e w' ⟨rfl, ⟨nd, rfl⟩⟩)
      | (go_at_call 52; with_reducible refine (rat_size.calls p m _ A2.out).mono ?_; rintro e w' ⟨rfl, ⟨nd, rfl⟩⟩)
      | (go_at_call 53; with_reducible refine (nat_Gcd.calls m q g 0 _ A3.out).mono ?_; rintro e w' ⟨rfl, hb⟩; replace BK := Aside0.mk (blk_below (g := gb) (o := .cells #[.string (⟨#[]⟩ : ByteArray), .string (⟨#[]⟩ : ByteArray)] 48 (0, 0)) (B1_ BK.out) hb); replace HB := Aside0.mk (below_step T6_ hb); clear hb; have hcz0 : w'.cell? ⟨gb, 0, none⟩ = some (.string (⟨#[]⟩ : ByteArray)) := (blk_cell BK.out 0).trans rfl; have hcz1 : w'.cell? ⟨gb, 1, none⟩ = some (.string (⟨#[]⟩ : ByteArray)) := (blk_cell BK.out 1).trans rfl; have hfz0 := blk_frozen BK.out 0; have hfz1 := blk_frozen BK.out 1)
      | (go_at_call 54; with_reducible refine (nat_Div.calls m g n' r1 e1 _ A4.out).mono ?_; rintro e w' ⟨rfl, hb⟩; replace BK := Aside0.mk (blk_below (g := gb) (o := .cells #[.string (⟨#[]⟩ : ByteArray), .string (⟨#[]⟩ : ByteArray)] 48 (0, 0)) (B1_ BK.out) hb); replace HB := Aside0.mk (below_step T6_ hb); clear hb; have hcz0 : w'.cell? ⟨gb, 0, none⟩ = some (.string (⟨#[]⟩ : ByteArray)) := (blk_cell BK.out 0).trans rfl; have hcz1 : w'.cell? ⟨gb, 1, none⟩ = some (.string (⟨#[]⟩ : ByteArray)) := (blk_cell BK.out 1).trans rfl; have hfz0 := blk_frozen BK.out 0; have hfz1 := blk_frozen BK.out 1)
      | (go_at_call 54; with_reducible refine (nat_Div.calls q g d r2 e2 _ A5.out).mono ?_; rintro e w' ⟨rfl, hb⟩; replace BK := Aside0.mk (blk_below (g := gb) (o := .cells #[.string (⟨#[]⟩ : ByteArray), .string (⟨#[]⟩ : ByteArray)] 48 (0, 0)) (B1_ BK.out) hb); replace HB := Aside0.mk (below_step T6_ hb); clear hb; have hcz0 : w'.cell? ⟨gb, 0, none⟩ = some (.string (⟨#[]⟩ : ByteArray)) := (blk_cell BK.out 0).trans rfl; have hcz1 : w'.cell? ⟨gb, 1, none⟩ = some (.string (⟨#[]⟩ : ByteArray)) := (blk_cell BK.out 1).trans rfl; have hfz0 := blk_frozen BK.out 0; have hfz1 := blk_frozen BK.out 1))
    refine bodyPost_ret (results_ct rfl _ _ gb 48 #[.string n', .string d] (0, 0) _ rfl (by (with_reducible repeat (first | refine blk_drewN ?_ _ | refine blk_drew ?_ | refine blk_alloc ?_ _)); refine blk_put (cs := #[.string n', .string (⟨#[]⟩ : ByteArray)]) ?_ 1 _ rfl; (with_reducible repeat (first | refine blk_drewN ?_ _ | refine blk_drew ?_ | refine blk_alloc ?_ _)); refine blk_put (cs := #[.string (⟨#[]⟩ : ByteArray), .string (⟨#[]⟩ : ByteArray)]) ?_ 0 _ rfl; (with_reducible repeat (first | refine blk_drewN ?_ _ | refine blk_drew ?_ | refine blk_alloc ?_ _)); exact BK.out) Tryz.underlying48 rfl (by kernel_rfl)) rfl ?_
    exact ⟨rfl, T6_⟩
  | true =>
    replace A7 := Aside0.mk (A7.out rfl)
    clear A8
    go_enter Tryz.func30, Tryz.ntmps30
    go_wp2_with (first
      | ((with_reducible refine gate_dst (N := 4) rfl ?_); refine box_event ?hg (N := 4) ?hd (cs := #[.string (⟨#[]⟩ : ByteArray), .string (⟨#[]⟩ : ByteArray)]) (t := 48) ?hr ?_; (case hd => rfl); (case hg => rfl); (case hr => exact T3_); intro gb hg w6 hbox hb; have n0_ := Aside0.mk (below_step T6_ hb); have n1_ := Aside0.mk hbox; have n2_ := Aside0.mk ((by rw [hg]; exact (below_size T6_)) : w.heap.size ≤ gb); clear HB; have HB := n0_; have BK := n1_; have GE := n2_; clear n0_ n1_ n2_; clear hb hbox hg)
      | (go_at_call 50; with_reducible refine (strings_HasPrefix.calls q (⟨#[45]⟩ : ByteArray) false _ A1.out).mono ?_; rintro e w' ⟨rfl, ⟨nd, rfl⟩⟩)
      | (go_at_call 50; with_reducible refine (strings_HasPrefix.calls p (⟨#[45]⟩ : ByteArray) true _ A6.out).mono ?_; rintro e w' ⟨rfl, ⟨nd, rfl⟩⟩)
      | (go_at_call 52; with_reducible refine (rat_size.calls p m _ A2.out).mono ?_; rintro e w' ⟨rfl, ⟨nd, rfl⟩⟩)
      | (go_at_call 53; with_reducible refine (nat_Gcd.calls m q g 0 _ A3.out).mono ?_; rintro e w' ⟨rfl, hb⟩; replace BK := Aside0.mk (blk_below (g := gb) (o := .cells #[.string (⟨#[]⟩ : ByteArray), .string (⟨#[]⟩ : ByteArray)] 48 (0, 0)) (B1_ BK.out) hb); replace HB := Aside0.mk (below_step T6_ hb); clear hb; have hcz0 : w'.cell? ⟨gb, 0, none⟩ = some (.string (⟨#[]⟩ : ByteArray)) := (blk_cell BK.out 0).trans rfl; have hcz1 : w'.cell? ⟨gb, 1, none⟩ = some (.string (⟨#[]⟩ : ByteArray)) := (blk_cell BK.out 1).trans rfl; have hfz0 := blk_frozen BK.out 0; have hfz1 := blk_frozen BK.out 1)
      | (go_at_call 54; with_reducible refine (nat_Div.calls m g n r1 e1 _ A4.out).mono ?_; rintro e w' ⟨rfl, hb⟩; replace BK := Aside0.mk (blk_below (g := gb) (o := .cells #[.string (⟨#[]⟩ : ByteArray), .string (⟨#[]⟩ : ByteArray)] 48 (0, 0)) (B1_ BK.out) hb); replace HB := Aside0.mk (below_step T6_ hb); clear hb; have hcz0 : w'.cell? ⟨gb, 0, none⟩ = some (.string (⟨#[]⟩ : ByteArray)) := (blk_cell BK.out 0).trans rfl; have hcz1 : w'.cell? ⟨gb, 1, none⟩ = some (.string (⟨#[]⟩ : ByteArray)) := (blk_cell BK.out 1).trans rfl; have hfz0 := blk_frozen BK.out 0; have hfz1 := blk_frozen BK.out 1)
      | (go_at_call 54; with_reducible refine (nat_Div.calls q g d r2 e2 _ A5.out).mono ?_; rintro e w' ⟨rfl, hb⟩; replace BK := Aside0.mk (blk_below (g := gb) (o := .cells #[.string (⟨#[]⟩ : ByteArray), .string (⟨#[]⟩ : ByteArray)] 48 (0, 0)) (B1_ BK.out) hb); replace HB := Aside0.mk (below_step T6_ hb); clear hb; have hcz0 : w'.cell? ⟨gb, 0, none⟩ = some (.string (⟨#[]⟩ : ByteArray)) := (blk_cell BK.out 0).trans rfl; have hcz1 : w'.cell? ⟨gb, 1, none⟩ = some (.string (⟨#[]⟩ : ByteArray)) := (blk_cell BK.out 1).trans rfl; have hfz0 := blk_frozen BK.out 0; have hfz1 := blk_frozen BK.out 1)
      | (go_at_call 51; with_reducible refine (whole_Neg.calls n n' e3 _ A7.out).mono ?_; rintro e w' ⟨rfl, hb⟩; replace BK := Aside0.mk (blk_below (g := gb) (o := .cells #[.string (⟨#[]⟩ : ByteArray), .string (⟨#[]⟩ : ByteArray)] 48 (0, 0)) (B1_ BK.out) hb); replace HB := Aside0.mk (below_step T6_ hb); clear hb; have hcz0 : w'.cell? ⟨gb, 0, none⟩ = some (.string (⟨#[]⟩ : ByteArray)) := (blk_cell BK.out 0).trans rfl; have hcz1 : w'.cell? ⟨gb, 1, none⟩ = some (.string (⟨#[]⟩ : ByteArray)) := (blk_cell BK.out 1).trans rfl; have hfz0 := blk_frozen BK.out 0; have hfz1 := blk_frozen BK.out 1))
    refine bodyPost_ret (results_ct rfl _ _ gb 48 #[.string n', .string d] (0, 0) _ rfl (by (with_reducible repeat (first | refine blk_drewN ?_ _ | refine blk_drew ?_ | refine blk_alloc ?_ _)); refine blk_put (cs := #[.string n', .string (⟨#[]⟩ : ByteArray)]) ?_ 1 _ rfl; (with_reducible repeat (first | refine blk_drewN ?_ _ | refine blk_drew ?_ | refine blk_alloc ?_ _)); refine blk_put (cs := #[.string (⟨#[]⟩ : ByteArray), .string (⟨#[]⟩ : ByteArray)]) ?_ 0 _ rfl; (with_reducible repeat (first | refine blk_drewN ?_ _ | refine blk_drew ?_ | refine blk_alloc ?_ _)); exact BK.out) Tryz.underlying48 rfl (by kernel_rfl)) rfl ?_
    exact ⟨rfl, T6_⟩
theorem lowest_minus (p0 q0 p q n d m : ByteArray) (e0 : Int) (w : World) (hq : q0.toList ≠ ([48] : List UInt8)) (k1 : whole_Neg.f p0 = some (p, e0)) (k2 : rat_size.f q0 = some q)
    (b1 : Bool) (h1 : strings_HasPrefix.f q0 (⟨#[45]⟩ : ByteArray) = some true) (h2 : rat_size.f p = some m) (g : ByteArray) (h3 : nat_Gcd.f m q = some (g, 0))
    (r1 r2 : ByteArray) (e1 e2 : Int) (h4 : nat_Div.f m g = some (n, r1, e1)) (h5 : nat_Div.f q g = some (d, r2, e2)) (h6 : strings_HasPrefix.f p (⟨#[45]⟩ : ByteArray) = some b1)
    (n' : ByteArray) (e3 : Int) (h7 : b1 = true → whole_Neg.f n = some (n', e3)) (h8 : b1 = false → n' = n) :
    Calls Tryz.prog 30 #[.string p0, .string q0] w fun e w' => e = .returned (.tuple #[.agg #[.string n', .string d], .nilIface]) ∧ Below w.heap.size w w' := by
  have hq0 : (q0.toList == ([48] : List UInt8)) = false := beq_eq_false_iff_ne.2 hq
  have K1 := Aside0.mk k1
  have K2 := Aside0.mk k2
  have A1 := Aside0.mk h1
  have A2 := Aside0.mk h2
  have A3 := Aside0.mk h3
  have A4 := Aside0.mk h4
  have A5 := Aside0.mk h5
  have A6 := Aside0.mk h6
  have A7 := Aside0.mk h7
  have A8 := Aside0.mk h8
  clear k1 k2 h1 h2 h3 h4 h5 h6 h7 h8
  have HB := Aside0.mk (Below.refl w.heap.size w)
  cases b1 with
  | false =>
    obtain rfl := A8.out rfl
    clear A7 A8
    go_enter Tryz.func30, Tryz.ntmps30
    go_wp2_with (first
      | ((with_reducible refine gate_dst (N := 4) rfl ?_); refine box_event ?hg (N := 4) ?hd (cs := #[.string (⟨#[]⟩ : ByteArray), .string (⟨#[]⟩ : ByteArray)]) (t := 48) ?hr ?_; (case hd => rfl); (case hg => rfl); (case hr => exact T3_); intro gb hg w6 hbox hb; have n0_ := Aside0.mk (below_step T6_ hb); have n1_ := Aside0.mk hbox; have n2_ := Aside0.mk ((by rw [hg]; exact (below_size T6_)) : w.heap.size ≤ gb); clear HB; have HB := n0_; have BK := n1_; have GE := n2_; clear n0_ n1_ n2_; clear hb hbox hg)
      | (go_at_call 50; with_reducible refine (strings_HasPrefix.calls q0 (⟨#[45]⟩ : ByteArray) true _ A1.out).mono ?_; rintro e w' ⟨rfl, ⟨nd, rfl⟩⟩)
      | (go_at_call 50; with_reducible refine (strings_HasPrefix.calls p (⟨#[45]⟩ : ByteArray) false _ A6.out).mono ?_; rintro e w' ⟨rfl, ⟨nd, rfl⟩⟩)
      | (go_at_call 52; with_reducible refine (rat_size.calls p m _ A2.out).mono ?_; rintro e w' ⟨rfl, ⟨nd, rfl⟩⟩)
      | (go_at_call 51; with_reducible refine (whole_Neg.calls p0 p e0 _ K1.out).mono ?_; rintro e w' ⟨rfl, hb⟩; replace BK := Aside0.mk (blk_below (g := gb) (o := .cells #[.string (⟨#[]⟩ : ByteArray), .string (⟨#[]⟩ : ByteArray)] 48 (0, 0)) (B1_ BK.out) hb); replace HB := Aside0.mk (below_step T6_ hb); clear hb; have hcz0 : w'.cell? ⟨gb, 0, none⟩ = some (.string (⟨#[]⟩ : ByteArray)) := (blk_cell BK.out 0).trans rfl; have hcz1 : w'.cell? ⟨gb, 1, none⟩ = some (.string (⟨#[]⟩ : ByteArray)) := (blk_cell BK.out 1).trans rfl; have hfz0 := blk_frozen BK.out 0; have hfz1 := blk_frozen BK.out 1)
      | (go_at_call 52; with_reducible refine (rat_size.calls q0 q _ K2.out).mono ?_; rintro e w' ⟨rfl, ⟨nd, rfl⟩⟩)
      | (go_at_call 53; with_reducible refine (nat_Gcd.calls m q g 0 _ A3.out).mono ?_; rintro e w' ⟨rfl, hb⟩; replace BK := Aside0.mk (blk_below (g := gb) (o := .cells #[.string (⟨#[]⟩ : ByteArray), .string (⟨#[]⟩ : ByteArray)] 48 (0, 0)) (B1_ BK.out) hb); replace HB := Aside0.mk (below_step T6_ hb); clear hb; have hcz0 : w'.cell? ⟨gb, 0, none⟩ = some (.string (⟨#[]⟩ : ByteArray)) := (blk_cell BK.out 0).trans rfl; have hcz1 : w'.cell? ⟨gb, 1, none⟩ = some (.string (⟨#[]⟩ : ByteArray)) := (blk_cell BK.out 1).trans rfl; have hfz0 := blk_frozen BK.out 0; have hfz1 := blk_frozen BK.out 1)
      | (go_at_call 54; with_reducible refine (nat_Div.calls m g n' r1 e1 _ A4.out).mono ?_; rintro e w' ⟨rfl, hb⟩; replace BK := Aside0.mk (blk_below (g := gb) (o := .cells #[.string (⟨#[]⟩ : ByteArray), .string (⟨#[]⟩ : ByteArray)] 48 (0, 0)) (B1_ BK.out) hb); replace HB := Aside0.mk (below_step T6_ hb); clear hb; have hcz0 : w'.cell? ⟨gb, 0, none⟩ = some (.string (⟨#[]⟩ : ByteArray)) := (blk_cell BK.out 0).trans rfl; have hcz1 : w'.cell? ⟨gb, 1, none⟩ = some (.string (⟨#[]⟩ : ByteArray)) := (blk_cell BK.out 1).trans rfl; have hfz0 := blk_frozen BK.out 0; have hfz1 := blk_frozen BK.out 1)
      | (go_at_call 54; with_reducible refine (nat_Div.calls q g d r2 e2 _ A5.out).mono ?_; rintro e w' ⟨rfl, hb⟩; replace BK := Aside0.mk (blk_below (g := gb) (o := .cells #[.string (⟨#[]⟩ : ByteArray), .string (⟨#[]⟩ : ByteArray)] 48 (0, 0)) (B1_ BK.out) hb); replace HB := Aside0.mk (below_step T6_ hb); clear hb; have hcz0 : w'.cell? ⟨gb, 0, none⟩ = some (.string (⟨#[]⟩ : ByteArray)) := (blk_cell BK.out 0).trans rfl; have hcz1 : w'.cell? ⟨gb, 1, none⟩ = some (.string (⟨#[]⟩ : ByteArray)) := (blk_cell BK.out 1).trans rfl; have hfz0 := blk_frozen BK.out 0; have hfz1 := blk_frozen BK.out 1))
    refine bodyPost_ret (results_ct rfl _ _ gb 48 #[.string n', .string d] (0, 0) _ rfl (by (with_reducible repeat (first | refine blk_drewN ?_ _ | refine blk_drew ?_ | refine blk_alloc ?_ _)); refine blk_put (cs := #[.string n', .string (⟨#[]⟩ : ByteArray)]) ?_ 1 _ rfl; (with_reducible repeat (first | refine blk_drewN ?_ _ | refine blk_drew ?_ | refine blk_alloc ?_ _)); refine blk_put (cs := #[.string (⟨#[]⟩ : ByteArray), .string (⟨#[]⟩ : ByteArray)]) ?_ 0 _ rfl; (with_reducible repeat (first | refine blk_drewN ?_ _ | refine blk_drew ?_ | refine blk_alloc ?_ _)); exact BK.out) Tryz.underlying48 rfl (by kernel_rfl)) rfl ?_
    exact ⟨rfl, T6_⟩
  | true =>
    replace A7 := Aside0.mk (A7.out rfl)
    clear A8
    go_enter Tryz.func30, Tryz.ntmps30
    go_wp2_with (first
      | ((with_reducible refine gate_dst (N := 4) rfl ?_); refine box_event ?hg (N := 4) ?hd (cs := #[.string (⟨#[]⟩ : ByteArray), .string (⟨#[]⟩ : ByteArray)]) (t := 48) ?hr ?_; (case hd => rfl); (case hg => rfl); (case hr => exact T3_); intro gb hg w6 hbox hb; have n0_ := Aside0.mk (below_step T6_ hb); have n1_ := Aside0.mk hbox; have n2_ := Aside0.mk ((by rw [hg]; exact (below_size T6_)) : w.heap.size ≤ gb); clear HB; have HB := n0_; have BK := n1_; have GE := n2_; clear n0_ n1_ n2_; clear hb hbox hg)
      | (go_at_call 50; with_reducible refine (strings_HasPrefix.calls q0 (⟨#[45]⟩ : ByteArray) true _ A1.out).mono ?_; rintro e w' ⟨rfl, ⟨nd, rfl⟩⟩)
      | (go_at_call 50; with_reducible refine (strings_HasPrefix.calls p (⟨#[45]⟩ : ByteArray) true _ A6.out).mono ?_; rintro e w' ⟨rfl, ⟨nd, rfl⟩⟩)
      | (go_at_call 52; with_reducible refine (rat_size.calls p m _ A2.out).mono ?_; rintro e w' ⟨rfl, ⟨nd, rfl⟩⟩)
      | (go_at_call 51; with_reducible refine (whole_Neg.calls p0 p e0 _ K1.out).mono ?_; rintro e w' ⟨rfl, hb⟩; replace BK := Aside0.mk (blk_below (g := gb) (o := .cells #[.string (⟨#[]⟩ : ByteArray), .string (⟨#[]⟩ : ByteArray)] 48 (0, 0)) (B1_ BK.out) hb); replace HB := Aside0.mk (below_step T6_ hb); clear hb; have hcz0 : w'.cell? ⟨gb, 0, none⟩ = some (.string (⟨#[]⟩ : ByteArray)) := (blk_cell BK.out 0).trans rfl; have hcz1 : w'.cell? ⟨gb, 1, none⟩ = some (.string (⟨#[]⟩ : ByteArray)) := (blk_cell BK.out 1).trans rfl; have hfz0 := blk_frozen BK.out 0; have hfz1 := blk_frozen BK.out 1)
      | (go_at_call 52; with_reducible refine (rat_size.calls q0 q _ K2.out).mono ?_; rintro e w' ⟨rfl, ⟨nd, rfl⟩⟩)
      | (go_at_call 53; with_reducible refine (nat_Gcd.calls m q g 0 _ A3.out).mono ?_; rintro e w' ⟨rfl, hb⟩; replace BK := Aside0.mk (blk_below (g := gb) (o := .cells #[.string (⟨#[]⟩ : ByteArray), .string (⟨#[]⟩ : ByteArray)] 48 (0, 0)) (B1_ BK.out) hb); replace HB := Aside0.mk (below_step T6_ hb); clear hb; have hcz0 : w'.cell? ⟨gb, 0, none⟩ = some (.string (⟨#[]⟩ : ByteArray)) := (blk_cell BK.out 0).trans rfl; have hcz1 : w'.cell? ⟨gb, 1, none⟩ = some (.string (⟨#[]⟩ : ByteArray)) := (blk_cell BK.out 1).trans rfl; have hfz0 := blk_frozen BK.out 0; have hfz1 := blk_frozen BK.out 1)
      | (go_at_call 54; with_reducible refine (nat_Div.calls m g n r1 e1 _ A4.out).mono ?_; rintro e w' ⟨rfl, hb⟩; replace BK := Aside0.mk (blk_below (g := gb) (o := .cells #[.string (⟨#[]⟩ : ByteArray), .string (⟨#[]⟩ : ByteArray)] 48 (0, 0)) (B1_ BK.out) hb); replace HB := Aside0.mk (below_step T6_ hb); clear hb; have hcz0 : w'.cell? ⟨gb, 0, none⟩ = some (.string (⟨#[]⟩ : ByteArray)) := (blk_cell BK.out 0).trans rfl; have hcz1 : w'.cell? ⟨gb, 1, none⟩ = some (.string (⟨#[]⟩ : ByteArray)) := (blk_cell BK.out 1).trans rfl; have hfz0 := blk_frozen BK.out 0; have hfz1 := blk_frozen BK.out 1)
      | (go_at_call 54; with_reducible refine (nat_Div.calls q g d r2 e2 _ A5.out).mono ?_; rintro e w' ⟨rfl, hb⟩; replace BK := Aside0.mk (blk_below (g := gb) (o := .cells #[.string (⟨#[]⟩ : ByteArray), .string (⟨#[]⟩ : ByteArray)] 48 (0, 0)) (B1_ BK.out) hb); replace HB := Aside0.mk (below_step T6_ hb); clear hb; have hcz0 : w'.cell? ⟨gb, 0, none⟩ = some (.string (⟨#[]⟩ : ByteArray)) := (blk_cell BK.out 0).trans rfl; have hcz1 : w'.cell? ⟨gb, 1, none⟩ = some (.string (⟨#[]⟩ : ByteArray)) := (blk_cell BK.out 1).trans rfl; have hfz0 := blk_frozen BK.out 0; have hfz1 := blk_frozen BK.out 1)
      | (go_at_call 51; with_reducible refine (whole_Neg.calls n n' e3 _ A7.out).mono ?_; rintro e w' ⟨rfl, hb⟩; replace BK := Aside0.mk (blk_below (g := gb) (o := .cells #[.string (⟨#[]⟩ : ByteArray), .string (⟨#[]⟩ : ByteArray)] 48 (0, 0)) (B1_ BK.out) hb); replace HB := Aside0.mk (below_step T6_ hb); clear hb; have hcz0 : w'.cell? ⟨gb, 0, none⟩ = some (.string (⟨#[]⟩ : ByteArray)) := (blk_cell BK.out 0).trans rfl; have hcz1 : w'.cell? ⟨gb, 1, none⟩ = some (.string (⟨#[]⟩ : ByteArray)) := (blk_cell BK.out 1).trans rfl; have hfz0 := blk_frozen BK.out 0; have hfz1 := blk_frozen BK.out 1))
    refine bodyPost_ret (results_ct rfl _ _ gb 48 #[.string n', .string d] (0, 0) _ rfl (by (with_reducible repeat (first | refine blk_drewN ?_ _ | refine blk_drew ?_ | refine blk_alloc ?_ _)); refine blk_put (cs := #[.string n', .string (⟨#[]⟩ : ByteArray)]) ?_ 1 _ rfl; (with_reducible repeat (first | refine blk_drewN ?_ _ | refine blk_drew ?_ | refine blk_alloc ?_ _)); refine blk_put (cs := #[.string (⟨#[]⟩ : ByteArray), .string (⟨#[]⟩ : ByteArray)]) ?_ 0 _ rfl; (with_reducible repeat (first | refine blk_drewN ?_ _ | refine blk_drew ?_ | refine blk_alloc ?_ _)); exact BK.out) Tryz.underlying48 rfl (by kernel_rfl)) rfl ?_
    exact ⟨rfl, T6_⟩
end Go.Proofs.YtfjlmiehbikmnaaGreatDoor.Err
