/- rat.read: a text that is a rational. -/
import Derived.Test.YtmmonhgfnmeieaaGreatDoorRatU1
import Derived.Shelf.Abstract
-- mini
namespace Go.Proofs.YtmmonhgfnmeieaaGreatDoor.Err
open Go Go.RowKit Go.Extern.Stop Go.Stop Go.Extern Go.ZPWords Go.Proofs.YtmmonhgfnmeieaaGreatDoor.PC Go.Proofs.YtmmonhgfnmeieaaGreatDoor.Th Go.Proofs.YtmmonhgfnmeieaaGreatDoor.Th.Wh
set_option maxHeartbeats 4000000
set_option maxRecDepth 1000000
theorem read_ok_hit (s p q n d : ByteArray) (w : World) (hC : ∀ w, Calls Tryz.prog 89 #[.string s, .string ⟨#[47]⟩] w fun e w' => e = .returned (.tuple #[.string p, .string q, .bool true]) ∧ Drawn0 w w')
    (h1 : whole_Right.f p = some true) (h2 : nat_Right.f q = some true) (h3 : (q.toList == ([48] : List UInt8)) = false) (h4 : (q.toList == ([49] : List UInt8)) = false)
    (hL : ∀ w, Calls Tryz.prog 50 #[.string p, .string q] w fun e w' => e = .returned (.tuple #[.agg #[.string n, .string d], .nilIface]) ∧ Below w.heap.size w w') (ht : rat_pair_text.f n d = some s) :
    Calls Tryz.prog 65 #[.string s] w fun e w' => e = .returned (.tuple #[.agg #[.string n, .string d], .nilIface]) ∧ Below w.heap.size w w' := by
 have KC := A_ hC;have K1 := A_ h1;have K2 := A_ h2;have KL := A_ hL;have KT := A_ ht;clear hC h1 h2 hL ht;have hss : (s.toList == s.toList) = true := beq_self_eq_true _;have HB := A_ (Below.refl w.heap.size w);go_enter Tryz.func65, Tryz.ntmps65
 go_wp2_with (first
  | (refine BX_ 2 #[.string (⟨#[]⟩ : ByteArray), .string (⟨#[]⟩ : ByteArray)] 64 ?_; intro gb hg w6 hbox hb; have BK := A_ hbox; have GE := GE_ (w := w) hg; replace HB := BT_ hb; clear hb hbox hg)
  | (go_at_call 89; refine (KC.out _).mono ?_; rintro e w' ⟨rfl, ⟨⟨nd, rfl⟩⟩⟩)
  | (go_at_call 90; with_reducible refine (whole_Right.calls p true _ K1.out).mono ?_; rintro e w' ⟨rfl, hb⟩; replace BK := BF_ BK hb; replace HB := BT_ hb; clear hb; have hcz0 : w'.cell? ⟨gb, 0, none⟩ = some (.string (⟨#[]⟩ : ByteArray)) := (blk_cell BK.out 0).trans rfl; have hcz1 : w'.cell? ⟨gb, 1, none⟩ = some (.string (⟨#[]⟩ : ByteArray)) := (blk_cell BK.out 1).trans rfl; have hfz0 := blk_frozen BK.out 0; have hfz1 := blk_frozen BK.out 1)
  | (go_at_call 91; with_reducible refine (nat_Right.calls q true _ K2.out).mono ?_; rintro e w' ⟨rfl, hb⟩; replace BK := BF_ BK hb; replace HB := BT_ hb; clear hb; have hcz0 : w'.cell? ⟨gb, 0, none⟩ = some (.string (⟨#[]⟩ : ByteArray)) := (blk_cell BK.out 0).trans rfl; have hcz1 : w'.cell? ⟨gb, 1, none⟩ = some (.string (⟨#[]⟩ : ByteArray)) := (blk_cell BK.out 1).trans rfl; have hfz0 := blk_frozen BK.out 0; have hfz1 := blk_frozen BK.out 1)
  | (go_at_call 50; with_reducible refine (KL.out _).mono ?_; rintro e w' ⟨rfl, hb⟩; replace BK := BF_ BK hb; replace HB := BT_ hb; clear hb; have hcz0 : w'.cell? ⟨gb, 0, none⟩ = some (.string (⟨#[]⟩ : ByteArray)) := (blk_cell BK.out 0).trans rfl; have hcz1 : w'.cell? ⟨gb, 1, none⟩ = some (.string (⟨#[]⟩ : ByteArray)) := (blk_cell BK.out 1).trans rfl; have hfz0 := blk_frozen BK.out 0; have hfz1 := blk_frozen BK.out 1)
  | (refine BX_ 7 #[.string (⟨#[]⟩ : ByteArray), .string (⟨#[]⟩ : ByteArray)] 64 ?_; intro gb7 hg w7 hbox hb; have n0_ := BF_ BK hb; have n1_ := BT_ hb; have n2_ := A_ hbox; have n3_ := GE_ (w := w) hg; have n5_ := A_ ((by rw [hg]; exact Nat.ne_of_lt (blk_lt (g := gb) (o := .cells #[.string (⟨#[]⟩ : ByteArray), .string (⟨#[]⟩ : ByteArray)] 64 (0, 0)) (B1_ BK.out))) : gb ≠ gb7); have n6_ := A_ ((by rw [hg]; exact Nat.ne_of_gt (blk_lt (g := gb) (o := .cells #[.string (⟨#[]⟩ : ByteArray), .string (⟨#[]⟩ : ByteArray)] 64 (0, 0)) (B1_ BK.out))) : gb7 ≠ gb); clear BK HB; have BK := n0_; have HB := n1_; have BK7 := n2_; have GE7 := n3_; have NB := n5_; have NC := n6_; clear n0_ n1_ n2_ n3_ n5_ n6_; clear hb hbox hg; have hnb := NB.out; have hnc := NC.out; have hcz0 : w7.cell? ⟨gb, 0, none⟩ = some (.string (⟨#[]⟩ : ByteArray)) := (blk_cell BK.out 0).trans rfl; have hcz1 : w7.cell? ⟨gb, 1, none⟩ = some (.string (⟨#[]⟩ : ByteArray)) := (blk_cell BK.out 1).trans rfl; have hfz0 := blk_frozen BK.out 0; have hfz1 := blk_frozen BK.out 1; have hcz2 : w7.cell? ⟨gb7, 0, none⟩ = some (.string (⟨#[]⟩ : ByteArray)) := (blk_cell BK7.out 0).trans rfl; have hcz3 : w7.cell? ⟨gb7, 1, none⟩ = some (.string (⟨#[]⟩ : ByteArray)) := (blk_cell BK7.out 1).trans rfl; have hfz2 := blk_frozen BK7.out 0; have hfz3 := blk_frozen BK7.out 1)
  | (go_at_call 92; with_reducible refine (rat_pair_text.calls n d s _ KT.out).mono ?_; rintro e w' ⟨rfl, hb⟩; have n0_ := A_ (blk_below (g := gb) (o := .cells #[.string (⟨#[]⟩ : ByteArray), .string (⟨#[]⟩ : ByteArray)] 64 (0, 0)) (by (with_reducible repeat (first | refine blk_drewN ?_ _ | refine blk_drew ?_ | refine blk_alloc ?_ _)); refine blk_far ?_ NB.out _; (with_reducible repeat (first | refine blk_drewN ?_ _ | refine blk_drew ?_ | refine blk_alloc ?_ _)); refine blk_far ?_ NB.out _; (with_reducible repeat (first | refine blk_drewN ?_ _ | refine blk_drew ?_ | refine blk_alloc ?_ _)); exact BK.out) hb); have n1_ := BT_ hb; have n2_ := A_ (blk_below (g := gb7) (o := .cells #[.string n, .string d] 64 (0, 0)) (by (with_reducible repeat (first | refine blk_drewN ?_ _ | refine blk_drew ?_ | refine blk_alloc ?_ _)); refine blk_put (cs := #[.string n, .string (⟨#[]⟩ : ByteArray)]) ?_ 1 _ rfl; (with_reducible repeat (first | refine blk_drewN ?_ _ | refine blk_drew ?_ | refine blk_alloc ?_ _)); refine blk_put (cs := #[.string (⟨#[]⟩ : ByteArray), .string (⟨#[]⟩ : ByteArray)]) ?_ 0 _ rfl; (with_reducible repeat (first | refine blk_drewN ?_ _ | refine blk_drew ?_ | refine blk_alloc ?_ _)); exact BK7.out) hb); clear BK7; have BK7 := n2_; clear n2_; clear BK HB; have BK := n0_; have HB := n1_; clear n0_ n1_ hb; have hcz0 : w'.cell? ⟨gb, 0, none⟩ = some (.string (⟨#[]⟩ : ByteArray)) := (blk_cell BK.out 0).trans rfl; have hcz1 : w'.cell? ⟨gb, 1, none⟩ = some (.string (⟨#[]⟩ : ByteArray)) := (blk_cell BK.out 1).trans rfl; have hfz0 := blk_frozen BK.out 0; have hfz1 := blk_frozen BK.out 1; have hcz2 : w'.cell? ⟨gb7, 0, none⟩ = some (.string n) := (blk_cell BK7.out 0).trans rfl; have hcz3 : w'.cell? ⟨gb7, 1, none⟩ = some (.string d) := (blk_cell BK7.out 1).trans rfl; have hfz2 := blk_frozen BK7.out 0; have hfz3 := blk_frozen BK7.out 1))
 refine bodyPost_ret (results_ct rfl _ _ gb 64 #[.string n, .string d] (0, 0) _ rfl (by (with_reducible repeat (first | refine blk_drewN ?_ _ | refine blk_drew ?_ | refine blk_alloc ?_ _)); refine blk_put (cs := #[.string n, .string (⟨#[]⟩ : ByteArray)]) ?_ 1 _ rfl; (with_reducible repeat (first | refine blk_drewN ?_ _ | refine blk_drew ?_ | refine blk_alloc ?_ _)); refine blk_put (cs := #[.string (⟨#[]⟩ : ByteArray), .string (⟨#[]⟩ : ByteArray)]) ?_ 0 _ rfl; (with_reducible repeat (first | refine blk_drewN ?_ _ | refine blk_drew ?_ | refine blk_alloc ?_ _)); exact BK.out) Tryz.underlying64 rfl (by kernel_rfl)) rfl ?_;exact ⟨rfl, T6_⟩
theorem read_ok_miss (s p q0 n d : ByteArray) (w : World) (hC : ∀ w, Calls Tryz.prog 89 #[.string s, .string ⟨#[47]⟩] w fun e w' => e = .returned (.tuple #[.string p, .string q0, .bool false]) ∧ Drawn0 w w')
    (h1 : whole_Right.f p = some true) (h2 : nat_Right.f (⟨#[49]⟩ : ByteArray) = some true)
    (hL : ∀ w, Calls Tryz.prog 50 #[.string p, .string ⟨#[49]⟩] w fun e w' => e = .returned (.tuple #[.agg #[.string n, .string d], .nilIface]) ∧ Below w.heap.size w w') (ht : rat_pair_text.f n d = some s) :
    Calls Tryz.prog 65 #[.string s] w fun e w' => e = .returned (.tuple #[.agg #[.string n, .string d], .nilIface]) ∧ Below w.heap.size w w' := by
 have KC := A_ hC;have K1 := A_ h1;have K2 := A_ h2;have KL := A_ hL;have KT := A_ ht;clear hC h1 h2 hL ht;have hss : (s.toList == s.toList) = true := beq_self_eq_true _;have HB := A_ (Below.refl w.heap.size w);go_enter Tryz.func65, Tryz.ntmps65
 go_wp2_with (first
  | (refine BX_ 2 #[.string (⟨#[]⟩ : ByteArray), .string (⟨#[]⟩ : ByteArray)] 64 ?_; intro gb hg w6 hbox hb; have BK := A_ hbox; have GE := GE_ (w := w) hg; replace HB := BT_ hb; clear hb hbox hg)
  | (go_at_call 89; refine (KC.out _).mono ?_; rintro e w' ⟨rfl, ⟨⟨nd, rfl⟩⟩⟩)
  | (go_at_call 90; with_reducible refine (whole_Right.calls p true _ K1.out).mono ?_; rintro e w' ⟨rfl, hb⟩; replace BK := BF_ BK hb; replace HB := BT_ hb; clear hb; have hcz0 : w'.cell? ⟨gb, 0, none⟩ = some (.string (⟨#[]⟩ : ByteArray)) := (blk_cell BK.out 0).trans rfl; have hcz1 : w'.cell? ⟨gb, 1, none⟩ = some (.string (⟨#[]⟩ : ByteArray)) := (blk_cell BK.out 1).trans rfl; have hfz0 := blk_frozen BK.out 0; have hfz1 := blk_frozen BK.out 1)
  | (go_at_call 91; with_reducible refine (nat_Right.calls (⟨#[49]⟩ : ByteArray) true _ K2.out).mono ?_; rintro e w' ⟨rfl, hb⟩; replace BK := BF_ BK hb; replace HB := BT_ hb; clear hb; have hcz0 : w'.cell? ⟨gb, 0, none⟩ = some (.string (⟨#[]⟩ : ByteArray)) := (blk_cell BK.out 0).trans rfl; have hcz1 : w'.cell? ⟨gb, 1, none⟩ = some (.string (⟨#[]⟩ : ByteArray)) := (blk_cell BK.out 1).trans rfl; have hfz0 := blk_frozen BK.out 0; have hfz1 := blk_frozen BK.out 1)
  | (go_at_call 50; with_reducible refine (KL.out _).mono ?_; rintro e w' ⟨rfl, hb⟩; replace BK := BF_ BK hb; replace HB := BT_ hb; clear hb; have hcz0 : w'.cell? ⟨gb, 0, none⟩ = some (.string (⟨#[]⟩ : ByteArray)) := (blk_cell BK.out 0).trans rfl; have hcz1 : w'.cell? ⟨gb, 1, none⟩ = some (.string (⟨#[]⟩ : ByteArray)) := (blk_cell BK.out 1).trans rfl; have hfz0 := blk_frozen BK.out 0; have hfz1 := blk_frozen BK.out 1)
  | (refine BX_ 7 #[.string (⟨#[]⟩ : ByteArray), .string (⟨#[]⟩ : ByteArray)] 64 ?_; intro gb7 hg w7 hbox hb; have n0_ := BF_ BK hb; have n1_ := BT_ hb; have n2_ := A_ hbox; have n3_ := GE_ (w := w) hg; have n5_ := A_ ((by rw [hg]; exact Nat.ne_of_lt (blk_lt (g := gb) (o := .cells #[.string (⟨#[]⟩ : ByteArray), .string (⟨#[]⟩ : ByteArray)] 64 (0, 0)) (B1_ BK.out))) : gb ≠ gb7); have n6_ := A_ ((by rw [hg]; exact Nat.ne_of_gt (blk_lt (g := gb) (o := .cells #[.string (⟨#[]⟩ : ByteArray), .string (⟨#[]⟩ : ByteArray)] 64 (0, 0)) (B1_ BK.out))) : gb7 ≠ gb); clear BK HB; have BK := n0_; have HB := n1_; have BK7 := n2_; have GE7 := n3_; have NB := n5_; have NC := n6_; clear n0_ n1_ n2_ n3_ n5_ n6_; clear hb hbox hg; have hnb := NB.out; have hnc := NC.out; have hcz0 : w7.cell? ⟨gb, 0, none⟩ = some (.string (⟨#[]⟩ : ByteArray)) := (blk_cell BK.out 0).trans rfl; have hcz1 : w7.cell? ⟨gb, 1, none⟩ = some (.string (⟨#[]⟩ : ByteArray)) := (blk_cell BK.out 1).trans rfl; have hfz0 := blk_frozen BK.out 0; have hfz1 := blk_frozen BK.out 1; have hcz2 : w7.cell? ⟨gb7, 0, none⟩ = some (.string (⟨#[]⟩ : ByteArray)) := (blk_cell BK7.out 0).trans rfl; have hcz3 : w7.cell? ⟨gb7, 1, none⟩ = some (.string (⟨#[]⟩ : ByteArray)) := (blk_cell BK7.out 1).trans rfl; have hfz2 := blk_frozen BK7.out 0; have hfz3 := blk_frozen BK7.out 1)
  | (go_at_call 92; with_reducible refine (rat_pair_text.calls n d s _ KT.out).mono ?_; rintro e w' ⟨rfl, hb⟩; have n0_ := A_ (blk_below (g := gb) (o := .cells #[.string (⟨#[]⟩ : ByteArray), .string (⟨#[]⟩ : ByteArray)] 64 (0, 0)) (by (with_reducible repeat (first | refine blk_drewN ?_ _ | refine blk_drew ?_ | refine blk_alloc ?_ _)); refine blk_far ?_ NB.out _; (with_reducible repeat (first | refine blk_drewN ?_ _ | refine blk_drew ?_ | refine blk_alloc ?_ _)); refine blk_far ?_ NB.out _; (with_reducible repeat (first | refine blk_drewN ?_ _ | refine blk_drew ?_ | refine blk_alloc ?_ _)); exact BK.out) hb); have n1_ := BT_ hb; have n2_ := A_ (blk_below (g := gb7) (o := .cells #[.string n, .string d] 64 (0, 0)) (by (with_reducible repeat (first | refine blk_drewN ?_ _ | refine blk_drew ?_ | refine blk_alloc ?_ _)); refine blk_put (cs := #[.string n, .string (⟨#[]⟩ : ByteArray)]) ?_ 1 _ rfl; (with_reducible repeat (first | refine blk_drewN ?_ _ | refine blk_drew ?_ | refine blk_alloc ?_ _)); refine blk_put (cs := #[.string (⟨#[]⟩ : ByteArray), .string (⟨#[]⟩ : ByteArray)]) ?_ 0 _ rfl; (with_reducible repeat (first | refine blk_drewN ?_ _ | refine blk_drew ?_ | refine blk_alloc ?_ _)); exact BK7.out) hb); clear BK7; have BK7 := n2_; clear n2_; clear BK HB; have BK := n0_; have HB := n1_; clear n0_ n1_ hb; have hcz0 : w'.cell? ⟨gb, 0, none⟩ = some (.string (⟨#[]⟩ : ByteArray)) := (blk_cell BK.out 0).trans rfl; have hcz1 : w'.cell? ⟨gb, 1, none⟩ = some (.string (⟨#[]⟩ : ByteArray)) := (blk_cell BK.out 1).trans rfl; have hfz0 := blk_frozen BK.out 0; have hfz1 := blk_frozen BK.out 1; have hcz2 : w'.cell? ⟨gb7, 0, none⟩ = some (.string n) := (blk_cell BK7.out 0).trans rfl; have hcz3 : w'.cell? ⟨gb7, 1, none⟩ = some (.string d) := (blk_cell BK7.out 1).trans rfl; have hfz2 := blk_frozen BK7.out 0; have hfz3 := blk_frozen BK7.out 1))
 refine bodyPost_ret (results_ct rfl _ _ gb 64 #[.string n, .string d] (0, 0) _ rfl (by (with_reducible repeat (first | refine blk_drewN ?_ _ | refine blk_drew ?_ | refine blk_alloc ?_ _)); refine blk_put (cs := #[.string n, .string (⟨#[]⟩ : ByteArray)]) ?_ 1 _ rfl; (with_reducible repeat (first | refine blk_drewN ?_ _ | refine blk_drew ?_ | refine blk_alloc ?_ _)); refine blk_put (cs := #[.string (⟨#[]⟩ : ByteArray), .string (⟨#[]⟩ : ByteArray)]) ?_ 0 _ rfl; (with_reducible repeat (first | refine blk_drewN ?_ _ | refine blk_drew ?_ | refine blk_alloc ?_ _)); exact BK.out) Tryz.underlying64 rfl (by kernel_rfl)) rfl ?_;exact ⟨rfl, T6_⟩
end Go.Proofs.YtmmonhgfnmeieaaGreatDoor.Err
/- rat.read: a text that is no rational. -/
namespace Go.Proofs.YtmmonhgfnmeieaaGreatDoor.Err
open Go Go.RowKit Go.Extern.Stop Go.Stop Go.Extern Go.ZPWords Go.Proofs.YtmmonhgfnmeieaaGreatDoor.PC Go.Proofs.YtmmonhgfnmeieaaGreatDoor.Th Go.Proofs.YtmmonhgfnmeieaaGreatDoor.Th.Wh
set_option maxHeartbeats 4000000
set_option maxRecDepth 1000000
theorem far2 {w : World} {n gb i j : Nat} {t : TypeId} {cs : Array Value} (h : w.heap[n]? = some (.cells cs t (0, 0))) (hn : n ≠ gb) {u v : Value} : ((w.setCell ⟨gb, i, none⟩ u).setCell ⟨gb, j, none⟩ v).heap[n]? = some (.cells cs t (0, 0)) := blk_far (blk_far h hn _) hn _
theorem blk_new_at {w : World} {n : Nat} (o : Obj) (h : w.heap.size = n) : (w.alloc o).heap[n]? = some o := by subst h; exact blk_new w o
theorem read_no1_hit {aF aZ : Addr} (s p q : ByteArray) (w : World) (hG : GsAt aF aZ w) (hC : ∀ w, Calls Tryz.prog 89 #[.string s, .string ⟨#[47]⟩] w fun e w' => e = .returned (.tuple #[.string p, .string q, .bool true]) ∧ Drawn0 w w')
    (h1 : whole_Right.f p = some false) :
    Calls Tryz.prog 65 #[.string s] w fun e w' => ∃ v, e = .returned (.tuple #[.agg #[.string ⟨#[]⟩, .string ⟨#[]⟩], v]) ∧ ErrV aF aZ w' v 2 ∧ Below w.heap.size w w' := by
 have HGF := A_ hG.form;have KC := A_ hC;have K1 := A_ h1;clear hG hC h1;have HB := A_ (Below.refl w.heap.size w);go_enter Tryz.func65, Tryz.ntmps65
 go_wp2_with (first
  | (refine BX_ 2 #[.string (⟨#[]⟩ : ByteArray), .string (⟨#[]⟩ : ByteArray)] 64 ?_; intro gb hg w6 hbox hb; have BK := A_ hbox; have GE := GE_ (w := w) hg; replace HB := BT_ hb; clear hb hbox hg)
  | (go_at_call 89; refine (KC.out _).mono ?_; rintro e w' ⟨rfl, ⟨⟨nd, rfl⟩⟩⟩)
  | (go_at_call 90; with_reducible refine (whole_Right.calls p false _ K1.out).mono ?_; rintro e w' ⟨rfl, hb⟩; replace BK := BF_ BK hb; replace HB := BT_ hb; clear hb; have hcz0 : w'.cell? ⟨gb, 0, none⟩ = some (.string (⟨#[]⟩ : ByteArray)) := (blk_cell BK.out 0).trans rfl; have hcz1 : w'.cell? ⟨gb, 1, none⟩ = some (.string (⟨#[]⟩ : ByteArray)) := (blk_cell BK.out 1).trans rfl; have hfz0 := blk_frozen BK.out 0; have hfz1 := blk_frozen BK.out 1; have hgf : w'.cell? ⟨1, 0, none⟩ = some (.iface 178 (.pointer (some aF))) := cell_below HB.out HGF.out; have hgl : 1 < gb := Nat.lt_of_lt_of_le (cell_lt HGF.out) GE.out; have hg1 : 1 ≠ gb := Nat.ne_of_lt hgl; have hg2 : gb ≠ 1 := Nat.ne_of_gt hgl; clear hgl; have hal0 : ∀ o, (w'.alloc o).cell? ⟨gb, 0, none⟩ = some (.string (⟨#[]⟩ : ByteArray)) := fun o => (blk_cell (blk_alloc BK.out o) 0).trans rfl; have hal1 : ∀ o, (w'.alloc o).cell? ⟨gb, 1, none⟩ = some (.string (⟨#[]⟩ : ByteArray)) := fun o => (blk_cell (blk_alloc BK.out o) 1).trans rfl; have haf0 : ∀ o, (w'.alloc o).frozen? ⟨gb, 0, none⟩ = false := fun o => blk_frozen (blk_alloc BK.out o) 0; have haf1 : ∀ o, (w'.alloc o).frozen? ⟨gb, 1, none⟩ = false := fun o => blk_frozen (blk_alloc BK.out o) 1))
 go_region;all_goals (try go_wp2)
 all_goals
  refine bodyPost_ret (results_ct rfl _ _ gb 64 #[.string (⟨#[]⟩ : ByteArray), .string (⟨#[]⟩ : ByteArray)] (0, 0) _ rfl (by (with_reducible repeat (first | refine blk_drewN ?_ _ | refine blk_drew ?_ | refine blk_alloc ?_ _)); refine blk_put (cs := #[.string (⟨#[]⟩ : ByteArray), .string (⟨#[]⟩ : ByteArray)]) ?_ 1 _ rfl; (with_reducible repeat (first | refine blk_drewN ?_ _ | refine blk_drew ?_ | refine blk_alloc ?_ _)); refine blk_put (cs := #[.string (⟨#[]⟩ : ByteArray), .string (⟨#[]⟩ : ByteArray)]) ?_ 0 _ rfl; (with_reducible repeat (first | refine blk_drewN ?_ _ | refine blk_drew ?_ | refine blk_alloc ?_ _)); exact BK.out) Tryz.underlying64 rfl (by kernel_rfl)) rfl ?_;exact ⟨_, rfl, Or.inr ⟨_, rfl, Or.inl ⟨rfl, (blk_cell (by (with_reducible repeat (first | refine blk_drewN ?_ _ | refine blk_drew ?_)); first | exact far2 (blk_new _ _) (Nat.ne_of_gt (blk_lt BK.out)) | exact blk_new_at _ (by rw [World.size_setCell, World.size_setCell])) 1).trans rfl⟩⟩, T6_⟩
theorem read_no2_hit {aF aZ : Addr} (s p q : ByteArray) (w : World) (hG : GsAt aF aZ w) (hC : ∀ w, Calls Tryz.prog 89 #[.string s, .string ⟨#[47]⟩] w fun e w' => e = .returned (.tuple #[.string p, .string q, .bool true]) ∧ Drawn0 w w')
    (h1 : whole_Right.f p = some true) (h2 : nat_Right.f q = some false) :
    Calls Tryz.prog 65 #[.string s] w fun e w' => ∃ v, e = .returned (.tuple #[.agg #[.string ⟨#[]⟩, .string ⟨#[]⟩], v]) ∧ ErrV aF aZ w' v 2 ∧ Below w.heap.size w w' := by
 have HGF := A_ hG.form;have KC := A_ hC;have K1 := A_ h1;have K2 := A_ h2;clear hG hC h1 h2;have HB := A_ (Below.refl w.heap.size w);go_enter Tryz.func65, Tryz.ntmps65
 go_wp2_with (first
  | (refine BX_ 2 #[.string (⟨#[]⟩ : ByteArray), .string (⟨#[]⟩ : ByteArray)] 64 ?_; intro gb hg w6 hbox hb; have BK := A_ hbox; have GE := GE_ (w := w) hg; replace HB := BT_ hb; clear hb hbox hg)
  | (go_at_call 89; refine (KC.out _).mono ?_; rintro e w' ⟨rfl, ⟨⟨nd, rfl⟩⟩⟩)
  | (go_at_call 90; with_reducible refine (whole_Right.calls p true _ K1.out).mono ?_; rintro e w' ⟨rfl, hb⟩; replace BK := BF_ BK hb; replace HB := BT_ hb; clear hb; have hcz0 : w'.cell? ⟨gb, 0, none⟩ = some (.string (⟨#[]⟩ : ByteArray)) := (blk_cell BK.out 0).trans rfl; have hcz1 : w'.cell? ⟨gb, 1, none⟩ = some (.string (⟨#[]⟩ : ByteArray)) := (blk_cell BK.out 1).trans rfl; have hfz0 := blk_frozen BK.out 0; have hfz1 := blk_frozen BK.out 1; have hgf : w'.cell? ⟨1, 0, none⟩ = some (.iface 178 (.pointer (some aF))) := cell_below HB.out HGF.out; have hgl : 1 < gb := Nat.lt_of_lt_of_le (cell_lt HGF.out) GE.out; have hg1 : 1 ≠ gb := Nat.ne_of_lt hgl; have hg2 : gb ≠ 1 := Nat.ne_of_gt hgl; clear hgl; have hal0 : ∀ o, (w'.alloc o).cell? ⟨gb, 0, none⟩ = some (.string (⟨#[]⟩ : ByteArray)) := fun o => (blk_cell (blk_alloc BK.out o) 0).trans rfl; have hal1 : ∀ o, (w'.alloc o).cell? ⟨gb, 1, none⟩ = some (.string (⟨#[]⟩ : ByteArray)) := fun o => (blk_cell (blk_alloc BK.out o) 1).trans rfl; have haf0 : ∀ o, (w'.alloc o).frozen? ⟨gb, 0, none⟩ = false := fun o => blk_frozen (blk_alloc BK.out o) 0; have haf1 : ∀ o, (w'.alloc o).frozen? ⟨gb, 1, none⟩ = false := fun o => blk_frozen (blk_alloc BK.out o) 1)
  | (go_at_call 91; with_reducible refine (nat_Right.calls q false _ K2.out).mono ?_; rintro e w' ⟨rfl, hb⟩; replace BK := BF_ BK hb; replace HB := BT_ hb; clear hb; have hcz0 : w'.cell? ⟨gb, 0, none⟩ = some (.string (⟨#[]⟩ : ByteArray)) := (blk_cell BK.out 0).trans rfl; have hcz1 : w'.cell? ⟨gb, 1, none⟩ = some (.string (⟨#[]⟩ : ByteArray)) := (blk_cell BK.out 1).trans rfl; have hfz0 := blk_frozen BK.out 0; have hfz1 := blk_frozen BK.out 1; have hgf : w'.cell? ⟨1, 0, none⟩ = some (.iface 178 (.pointer (some aF))) := cell_below HB.out HGF.out; have hgl : 1 < gb := Nat.lt_of_lt_of_le (cell_lt HGF.out) GE.out; have hg1 : 1 ≠ gb := Nat.ne_of_lt hgl; have hg2 : gb ≠ 1 := Nat.ne_of_gt hgl; clear hgl; have hal0 : ∀ o, (w'.alloc o).cell? ⟨gb, 0, none⟩ = some (.string (⟨#[]⟩ : ByteArray)) := fun o => (blk_cell (blk_alloc BK.out o) 0).trans rfl; have hal1 : ∀ o, (w'.alloc o).cell? ⟨gb, 1, none⟩ = some (.string (⟨#[]⟩ : ByteArray)) := fun o => (blk_cell (blk_alloc BK.out o) 1).trans rfl; have haf0 : ∀ o, (w'.alloc o).frozen? ⟨gb, 0, none⟩ = false := fun o => blk_frozen (blk_alloc BK.out o) 0; have haf1 : ∀ o, (w'.alloc o).frozen? ⟨gb, 1, none⟩ = false := fun o => blk_frozen (blk_alloc BK.out o) 1))
 go_region;all_goals (try go_wp2)
 all_goals
  refine bodyPost_ret (results_ct rfl _ _ gb 64 #[.string (⟨#[]⟩ : ByteArray), .string (⟨#[]⟩ : ByteArray)] (0, 0) _ rfl (by (with_reducible repeat (first | refine blk_drewN ?_ _ | refine blk_drew ?_ | refine blk_alloc ?_ _)); refine blk_put (cs := #[.string (⟨#[]⟩ : ByteArray), .string (⟨#[]⟩ : ByteArray)]) ?_ 1 _ rfl; (with_reducible repeat (first | refine blk_drewN ?_ _ | refine blk_drew ?_ | refine blk_alloc ?_ _)); refine blk_put (cs := #[.string (⟨#[]⟩ : ByteArray), .string (⟨#[]⟩ : ByteArray)]) ?_ 0 _ rfl; (with_reducible repeat (first | refine blk_drewN ?_ _ | refine blk_drew ?_ | refine blk_alloc ?_ _)); exact BK.out) Tryz.underlying64 rfl (by kernel_rfl)) rfl ?_;exact ⟨_, rfl, Or.inr ⟨_, rfl, Or.inl ⟨rfl, (blk_cell (by (with_reducible repeat (first | refine blk_drewN ?_ _ | refine blk_drew ?_)); first | exact far2 (blk_new _ _) (Nat.ne_of_gt (blk_lt BK.out)) | exact blk_new_at _ (by rw [World.size_setCell, World.size_setCell])) 1).trans rfl⟩⟩, T6_⟩
theorem read_no3_hit {aF aZ : Addr} (s p q : ByteArray) (w : World) (hG : GsAt aF aZ w) (hC : ∀ w, Calls Tryz.prog 89 #[.string s, .string ⟨#[47]⟩] w fun e w' => e = .returned (.tuple #[.string p, .string q, .bool true]) ∧ Drawn0 w w')
    (h1 : whole_Right.f p = some true) (h2 : nat_Right.f q = some true) (h3 : (q.toList == ([48] : List UInt8)) = true) :
    Calls Tryz.prog 65 #[.string s] w fun e w' => ∃ v, e = .returned (.tuple #[.agg #[.string ⟨#[]⟩, .string ⟨#[]⟩], v]) ∧ ErrV aF aZ w' v 2 ∧ Below w.heap.size w w' := by
 have HGF := A_ hG.form;have KC := A_ hC;have K1 := A_ h1;have K2 := A_ h2;clear hG hC h1 h2;have HB := A_ (Below.refl w.heap.size w);go_enter Tryz.func65, Tryz.ntmps65
 go_wp2_with (first
  | (refine BX_ 2 #[.string (⟨#[]⟩ : ByteArray), .string (⟨#[]⟩ : ByteArray)] 64 ?_; intro gb hg w6 hbox hb; have BK := A_ hbox; have GE := GE_ (w := w) hg; replace HB := BT_ hb; clear hb hbox hg)
  | (go_at_call 89; refine (KC.out _).mono ?_; rintro e w' ⟨rfl, ⟨⟨nd, rfl⟩⟩⟩)
  | (go_at_call 90; with_reducible refine (whole_Right.calls p true _ K1.out).mono ?_; rintro e w' ⟨rfl, hb⟩; replace BK := BF_ BK hb; replace HB := BT_ hb; clear hb; have hcz0 : w'.cell? ⟨gb, 0, none⟩ = some (.string (⟨#[]⟩ : ByteArray)) := (blk_cell BK.out 0).trans rfl; have hcz1 : w'.cell? ⟨gb, 1, none⟩ = some (.string (⟨#[]⟩ : ByteArray)) := (blk_cell BK.out 1).trans rfl; have hfz0 := blk_frozen BK.out 0; have hfz1 := blk_frozen BK.out 1; have hgf : w'.cell? ⟨1, 0, none⟩ = some (.iface 178 (.pointer (some aF))) := cell_below HB.out HGF.out; have hgl : 1 < gb := Nat.lt_of_lt_of_le (cell_lt HGF.out) GE.out; have hg1 : 1 ≠ gb := Nat.ne_of_lt hgl; have hg2 : gb ≠ 1 := Nat.ne_of_gt hgl; clear hgl; have hal0 : ∀ o, (w'.alloc o).cell? ⟨gb, 0, none⟩ = some (.string (⟨#[]⟩ : ByteArray)) := fun o => (blk_cell (blk_alloc BK.out o) 0).trans rfl; have hal1 : ∀ o, (w'.alloc o).cell? ⟨gb, 1, none⟩ = some (.string (⟨#[]⟩ : ByteArray)) := fun o => (blk_cell (blk_alloc BK.out o) 1).trans rfl; have haf0 : ∀ o, (w'.alloc o).frozen? ⟨gb, 0, none⟩ = false := fun o => blk_frozen (blk_alloc BK.out o) 0; have haf1 : ∀ o, (w'.alloc o).frozen? ⟨gb, 1, none⟩ = false := fun o => blk_frozen (blk_alloc BK.out o) 1)
  | (go_at_call 91; with_reducible refine (nat_Right.calls q true _ K2.out).mono ?_; rintro e w' ⟨rfl, hb⟩; replace BK := BF_ BK hb; replace HB := BT_ hb; clear hb; have hcz0 : w'.cell? ⟨gb, 0, none⟩ = some (.string (⟨#[]⟩ : ByteArray)) := (blk_cell BK.out 0).trans rfl; have hcz1 : w'.cell? ⟨gb, 1, none⟩ = some (.string (⟨#[]⟩ : ByteArray)) := (blk_cell BK.out 1).trans rfl; have hfz0 := blk_frozen BK.out 0; have hfz1 := blk_frozen BK.out 1; have hgf : w'.cell? ⟨1, 0, none⟩ = some (.iface 178 (.pointer (some aF))) := cell_below HB.out HGF.out; have hgl : 1 < gb := Nat.lt_of_lt_of_le (cell_lt HGF.out) GE.out; have hg1 : 1 ≠ gb := Nat.ne_of_lt hgl; have hg2 : gb ≠ 1 := Nat.ne_of_gt hgl; clear hgl; have hal0 : ∀ o, (w'.alloc o).cell? ⟨gb, 0, none⟩ = some (.string (⟨#[]⟩ : ByteArray)) := fun o => (blk_cell (blk_alloc BK.out o) 0).trans rfl; have hal1 : ∀ o, (w'.alloc o).cell? ⟨gb, 1, none⟩ = some (.string (⟨#[]⟩ : ByteArray)) := fun o => (blk_cell (blk_alloc BK.out o) 1).trans rfl; have haf0 : ∀ o, (w'.alloc o).frozen? ⟨gb, 0, none⟩ = false := fun o => blk_frozen (blk_alloc BK.out o) 0; have haf1 : ∀ o, (w'.alloc o).frozen? ⟨gb, 1, none⟩ = false := fun o => blk_frozen (blk_alloc BK.out o) 1))
 go_region;all_goals (try go_wp2)
 all_goals
  refine bodyPost_ret (results_ct rfl _ _ gb 64 #[.string (⟨#[]⟩ : ByteArray), .string (⟨#[]⟩ : ByteArray)] (0, 0) _ rfl (by (with_reducible repeat (first | refine blk_drewN ?_ _ | refine blk_drew ?_ | refine blk_alloc ?_ _)); refine blk_put (cs := #[.string (⟨#[]⟩ : ByteArray), .string (⟨#[]⟩ : ByteArray)]) ?_ 1 _ rfl; (with_reducible repeat (first | refine blk_drewN ?_ _ | refine blk_drew ?_ | refine blk_alloc ?_ _)); refine blk_put (cs := #[.string (⟨#[]⟩ : ByteArray), .string (⟨#[]⟩ : ByteArray)]) ?_ 0 _ rfl; (with_reducible repeat (first | refine blk_drewN ?_ _ | refine blk_drew ?_ | refine blk_alloc ?_ _)); exact BK.out) Tryz.underlying64 rfl (by kernel_rfl)) rfl ?_;exact ⟨_, rfl, Or.inr ⟨_, rfl, Or.inl ⟨rfl, (blk_cell (by (with_reducible repeat (first | refine blk_drewN ?_ _ | refine blk_drew ?_)); first | exact far2 (blk_new _ _) (Nat.ne_of_gt (blk_lt BK.out)) | exact blk_new_at _ (by rw [World.size_setCell, World.size_setCell])) 1).trans rfl⟩⟩, T6_⟩
theorem read_no5_hit {aF aZ : Addr} (s p q : ByteArray) (w : World) (hG : GsAt aF aZ w) (hC : ∀ w, Calls Tryz.prog 89 #[.string s, .string ⟨#[47]⟩] w fun e w' => e = .returned (.tuple #[.string p, .string q, .bool true]) ∧ Drawn0 w w')
    (h1 : whole_Right.f p = some true) (h2 : nat_Right.f q = some true) (h3 : (q.toList == ([48] : List UInt8)) = false) (h4 : (q.toList == ([49] : List UInt8)) = true) :
    Calls Tryz.prog 65 #[.string s] w fun e w' => ∃ v, e = .returned (.tuple #[.agg #[.string ⟨#[]⟩, .string ⟨#[]⟩], v]) ∧ ErrV aF aZ w' v 2 ∧ Below w.heap.size w w' := by
 have HGF := A_ hG.form;have KC := A_ hC;have K1 := A_ h1;have K2 := A_ h2;clear hG hC h1 h2;have HB := A_ (Below.refl w.heap.size w);go_enter Tryz.func65, Tryz.ntmps65
 go_wp2_with (first
  | (refine BX_ 2 #[.string (⟨#[]⟩ : ByteArray), .string (⟨#[]⟩ : ByteArray)] 64 ?_; intro gb hg w6 hbox hb; have BK := A_ hbox; have GE := GE_ (w := w) hg; replace HB := BT_ hb; clear hb hbox hg)
  | (go_at_call 89; refine (KC.out _).mono ?_; rintro e w' ⟨rfl, ⟨⟨nd, rfl⟩⟩⟩)
  | (go_at_call 90; with_reducible refine (whole_Right.calls p true _ K1.out).mono ?_; rintro e w' ⟨rfl, hb⟩; replace BK := BF_ BK hb; replace HB := BT_ hb; clear hb; have hcz0 : w'.cell? ⟨gb, 0, none⟩ = some (.string (⟨#[]⟩ : ByteArray)) := (blk_cell BK.out 0).trans rfl; have hcz1 : w'.cell? ⟨gb, 1, none⟩ = some (.string (⟨#[]⟩ : ByteArray)) := (blk_cell BK.out 1).trans rfl; have hfz0 := blk_frozen BK.out 0; have hfz1 := blk_frozen BK.out 1; have hgf : w'.cell? ⟨1, 0, none⟩ = some (.iface 178 (.pointer (some aF))) := cell_below HB.out HGF.out; have hgl : 1 < gb := Nat.lt_of_lt_of_le (cell_lt HGF.out) GE.out; have hg1 : 1 ≠ gb := Nat.ne_of_lt hgl; have hg2 : gb ≠ 1 := Nat.ne_of_gt hgl; clear hgl; have hal0 : ∀ o, (w'.alloc o).cell? ⟨gb, 0, none⟩ = some (.string (⟨#[]⟩ : ByteArray)) := fun o => (blk_cell (blk_alloc BK.out o) 0).trans rfl; have hal1 : ∀ o, (w'.alloc o).cell? ⟨gb, 1, none⟩ = some (.string (⟨#[]⟩ : ByteArray)) := fun o => (blk_cell (blk_alloc BK.out o) 1).trans rfl; have haf0 : ∀ o, (w'.alloc o).frozen? ⟨gb, 0, none⟩ = false := fun o => blk_frozen (blk_alloc BK.out o) 0; have haf1 : ∀ o, (w'.alloc o).frozen? ⟨gb, 1, none⟩ = false := fun o => blk_frozen (blk_alloc BK.out o) 1)
  | (go_at_call 91; with_reducible refine (nat_Right.calls q true _ K2.out).mono ?_; rintro e w' ⟨rfl, hb⟩; replace BK := BF_ BK hb; replace HB := BT_ hb; clear hb; have hcz0 : w'.cell? ⟨gb, 0, none⟩ = some (.string (⟨#[]⟩ : ByteArray)) := (blk_cell BK.out 0).trans rfl; have hcz1 : w'.cell? ⟨gb, 1, none⟩ = some (.string (⟨#[]⟩ : ByteArray)) := (blk_cell BK.out 1).trans rfl; have hfz0 := blk_frozen BK.out 0; have hfz1 := blk_frozen BK.out 1; have hgf : w'.cell? ⟨1, 0, none⟩ = some (.iface 178 (.pointer (some aF))) := cell_below HB.out HGF.out; have hgl : 1 < gb := Nat.lt_of_lt_of_le (cell_lt HGF.out) GE.out; have hg1 : 1 ≠ gb := Nat.ne_of_lt hgl; have hg2 : gb ≠ 1 := Nat.ne_of_gt hgl; clear hgl; have hal0 : ∀ o, (w'.alloc o).cell? ⟨gb, 0, none⟩ = some (.string (⟨#[]⟩ : ByteArray)) := fun o => (blk_cell (blk_alloc BK.out o) 0).trans rfl; have hal1 : ∀ o, (w'.alloc o).cell? ⟨gb, 1, none⟩ = some (.string (⟨#[]⟩ : ByteArray)) := fun o => (blk_cell (blk_alloc BK.out o) 1).trans rfl; have haf0 : ∀ o, (w'.alloc o).frozen? ⟨gb, 0, none⟩ = false := fun o => blk_frozen (blk_alloc BK.out o) 0; have haf1 : ∀ o, (w'.alloc o).frozen? ⟨gb, 1, none⟩ = false := fun o => blk_frozen (blk_alloc BK.out o) 1))
 go_region;all_goals (try go_wp2)
 all_goals
  refine bodyPost_ret (results_ct rfl _ _ gb 64 #[.string (⟨#[]⟩ : ByteArray), .string (⟨#[]⟩ : ByteArray)] (0, 0) _ rfl (by (with_reducible repeat (first | refine blk_drewN ?_ _ | refine blk_drew ?_ | refine blk_alloc ?_ _)); refine blk_put (cs := #[.string (⟨#[]⟩ : ByteArray), .string (⟨#[]⟩ : ByteArray)]) ?_ 1 _ rfl; (with_reducible repeat (first | refine blk_drewN ?_ _ | refine blk_drew ?_ | refine blk_alloc ?_ _)); refine blk_put (cs := #[.string (⟨#[]⟩ : ByteArray), .string (⟨#[]⟩ : ByteArray)]) ?_ 0 _ rfl; (with_reducible repeat (first | refine blk_drewN ?_ _ | refine blk_drew ?_ | refine blk_alloc ?_ _)); exact BK.out) Tryz.underlying64 rfl (by kernel_rfl)) rfl ?_;exact ⟨_, rfl, Or.inr ⟨_, rfl, Or.inl ⟨rfl, (blk_cell (by (with_reducible repeat (first | refine blk_drewN ?_ _ | refine blk_drew ?_)); first | exact far2 (blk_new _ _) (Nat.ne_of_gt (blk_lt BK.out)) | exact blk_new_at _ (by rw [World.size_setCell, World.size_setCell])) 1).trans rfl⟩⟩, T6_⟩
theorem read_no4_hit {aF aZ : Addr} (s p q : ByteArray) (w : World) (hG : GsAt aF aZ w) (hC : ∀ w, Calls Tryz.prog 89 #[.string s, .string ⟨#[47]⟩] w fun e w' => e = .returned (.tuple #[.string p, .string q, .bool true]) ∧ Drawn0 w w')
    (h1 : whole_Right.f p = some true) (h2 : nat_Right.f q = some true) (h3 : (q.toList == ([48] : List UInt8)) = false) (h4 : (q.toList == ([49] : List UInt8)) = false) (n d t : ByteArray) (hL : ∀ w, Calls Tryz.prog 50 #[.string p, .string q] w fun e w' => e = .returned (.tuple #[.agg #[.string n, .string d], .nilIface]) ∧ Below w.heap.size w w') (ht : rat_pair_text.f n d = some t) (hts : (t.toList == s.toList) = false) :
    Calls Tryz.prog 65 #[.string s] w fun e w' => ∃ v, e = .returned (.tuple #[.agg #[.string ⟨#[]⟩, .string ⟨#[]⟩], v]) ∧ ErrV aF aZ w' v 2 ∧ Below w.heap.size w w' := by
 have HGF := A_ hG.form;have KC := A_ hC;have K1 := A_ h1;have K2 := A_ h2;have KL := A_ hL;have KT := A_ ht;clear hG hC h1 h2 hL ht;have HB := A_ (Below.refl w.heap.size w);go_enter Tryz.func65, Tryz.ntmps65
 go_wp2_with (first
  | (refine BX_ 2 #[.string (⟨#[]⟩ : ByteArray), .string (⟨#[]⟩ : ByteArray)] 64 ?_; intro gb hg w6 hbox hb; have BK := A_ hbox; have GE := GE_ (w := w) hg; replace HB := BT_ hb; clear hb hbox hg)
  | (go_at_call 89; refine (KC.out _).mono ?_; rintro e w' ⟨rfl, ⟨⟨nd, rfl⟩⟩⟩)
  | (go_at_call 90; with_reducible refine (whole_Right.calls p true _ K1.out).mono ?_; rintro e w' ⟨rfl, hb⟩; replace BK := BF_ BK hb; replace HB := BT_ hb; clear hb; have hcz0 : w'.cell? ⟨gb, 0, none⟩ = some (.string (⟨#[]⟩ : ByteArray)) := (blk_cell BK.out 0).trans rfl; have hcz1 : w'.cell? ⟨gb, 1, none⟩ = some (.string (⟨#[]⟩ : ByteArray)) := (blk_cell BK.out 1).trans rfl; have hfz0 := blk_frozen BK.out 0; have hfz1 := blk_frozen BK.out 1; have hgf : w'.cell? ⟨1, 0, none⟩ = some (.iface 178 (.pointer (some aF))) := cell_below HB.out HGF.out; have hgl : 1 < gb := Nat.lt_of_lt_of_le (cell_lt HGF.out) GE.out; have hg1 : 1 ≠ gb := Nat.ne_of_lt hgl; have hg2 : gb ≠ 1 := Nat.ne_of_gt hgl; clear hgl; have hal0 : ∀ o, (w'.alloc o).cell? ⟨gb, 0, none⟩ = some (.string (⟨#[]⟩ : ByteArray)) := fun o => (blk_cell (blk_alloc BK.out o) 0).trans rfl; have hal1 : ∀ o, (w'.alloc o).cell? ⟨gb, 1, none⟩ = some (.string (⟨#[]⟩ : ByteArray)) := fun o => (blk_cell (blk_alloc BK.out o) 1).trans rfl; have haf0 : ∀ o, (w'.alloc o).frozen? ⟨gb, 0, none⟩ = false := fun o => blk_frozen (blk_alloc BK.out o) 0; have haf1 : ∀ o, (w'.alloc o).frozen? ⟨gb, 1, none⟩ = false := fun o => blk_frozen (blk_alloc BK.out o) 1)
  | (go_at_call 91; with_reducible refine (nat_Right.calls q true _ K2.out).mono ?_; rintro e w' ⟨rfl, hb⟩; replace BK := BF_ BK hb; replace HB := BT_ hb; clear hb; have hcz0 : w'.cell? ⟨gb, 0, none⟩ = some (.string (⟨#[]⟩ : ByteArray)) := (blk_cell BK.out 0).trans rfl; have hcz1 : w'.cell? ⟨gb, 1, none⟩ = some (.string (⟨#[]⟩ : ByteArray)) := (blk_cell BK.out 1).trans rfl; have hfz0 := blk_frozen BK.out 0; have hfz1 := blk_frozen BK.out 1; have hgf : w'.cell? ⟨1, 0, none⟩ = some (.iface 178 (.pointer (some aF))) := cell_below HB.out HGF.out; have hgl : 1 < gb := Nat.lt_of_lt_of_le (cell_lt HGF.out) GE.out; have hg1 : 1 ≠ gb := Nat.ne_of_lt hgl; have hg2 : gb ≠ 1 := Nat.ne_of_gt hgl; clear hgl; have hal0 : ∀ o, (w'.alloc o).cell? ⟨gb, 0, none⟩ = some (.string (⟨#[]⟩ : ByteArray)) := fun o => (blk_cell (blk_alloc BK.out o) 0).trans rfl; have hal1 : ∀ o, (w'.alloc o).cell? ⟨gb, 1, none⟩ = some (.string (⟨#[]⟩ : ByteArray)) := fun o => (blk_cell (blk_alloc BK.out o) 1).trans rfl; have haf0 : ∀ o, (w'.alloc o).frozen? ⟨gb, 0, none⟩ = false := fun o => blk_frozen (blk_alloc BK.out o) 0; have haf1 : ∀ o, (w'.alloc o).frozen? ⟨gb, 1, none⟩ = false := fun o => blk_frozen (blk_alloc BK.out o) 1)
  | (go_at_call 50; with_reducible refine (KL.out _).mono ?_; rintro e w' ⟨rfl, hb⟩; replace BK := BF_ BK hb; replace HB := BT_ hb; clear hb; have hcz0 : w'.cell? ⟨gb, 0, none⟩ = some (.string (⟨#[]⟩ : ByteArray)) := (blk_cell BK.out 0).trans rfl; have hcz1 : w'.cell? ⟨gb, 1, none⟩ = some (.string (⟨#[]⟩ : ByteArray)) := (blk_cell BK.out 1).trans rfl; have hfz0 := blk_frozen BK.out 0; have hfz1 := blk_frozen BK.out 1)
  | (refine BX_ 7 #[.string (⟨#[]⟩ : ByteArray), .string (⟨#[]⟩ : ByteArray)] 64 ?_; intro gb7 hg w7 hbox hb; have n0_ := BF_ BK hb; have n1_ := BT_ hb; have n2_ := A_ hbox; have n3_ := GE_ (w := w) hg; have n5_ := A_ ((by rw [hg]; exact Nat.ne_of_lt (blk_lt (g := gb) (o := .cells #[.string (⟨#[]⟩ : ByteArray), .string (⟨#[]⟩ : ByteArray)] 64 (0, 0)) (B1_ BK.out))) : gb ≠ gb7); have n6_ := A_ ((by rw [hg]; exact Nat.ne_of_gt (blk_lt (g := gb) (o := .cells #[.string (⟨#[]⟩ : ByteArray), .string (⟨#[]⟩ : ByteArray)] 64 (0, 0)) (B1_ BK.out))) : gb7 ≠ gb); clear BK HB; have BK := n0_; have HB := n1_; have BK7 := n2_; have GE7 := n3_; have NB := n5_; have NC := n6_; clear n0_ n1_ n2_ n3_ n5_ n6_; clear hb hbox hg; have hnb := NB.out; have hnc := NC.out; have hcz0 : w7.cell? ⟨gb, 0, none⟩ = some (.string (⟨#[]⟩ : ByteArray)) := (blk_cell BK.out 0).trans rfl; have hcz1 : w7.cell? ⟨gb, 1, none⟩ = some (.string (⟨#[]⟩ : ByteArray)) := (blk_cell BK.out 1).trans rfl; have hfz0 := blk_frozen BK.out 0; have hfz1 := blk_frozen BK.out 1; have hcz2 : w7.cell? ⟨gb7, 0, none⟩ = some (.string (⟨#[]⟩ : ByteArray)) := (blk_cell BK7.out 0).trans rfl; have hcz3 : w7.cell? ⟨gb7, 1, none⟩ = some (.string (⟨#[]⟩ : ByteArray)) := (blk_cell BK7.out 1).trans rfl; have hfz2 := blk_frozen BK7.out 0; have hfz3 := blk_frozen BK7.out 1)
  | (go_at_call 92; with_reducible refine (rat_pair_text.calls n d t _ KT.out).mono ?_; rintro e w' ⟨rfl, hb⟩; have n0_ := A_ (blk_below (g := gb) (o := .cells #[.string (⟨#[]⟩ : ByteArray), .string (⟨#[]⟩ : ByteArray)] 64 (0, 0)) (by (with_reducible repeat (first | refine blk_drewN ?_ _ | refine blk_drew ?_ | refine blk_alloc ?_ _)); refine blk_far ?_ NB.out _; (with_reducible repeat (first | refine blk_drewN ?_ _ | refine blk_drew ?_ | refine blk_alloc ?_ _)); refine blk_far ?_ NB.out _; (with_reducible repeat (first | refine blk_drewN ?_ _ | refine blk_drew ?_ | refine blk_alloc ?_ _)); exact BK.out) hb); have n1_ := BT_ hb; have n2_ := A_ (blk_below (g := gb7) (o := .cells #[.string n, .string d] 64 (0, 0)) (by (with_reducible repeat (first | refine blk_drewN ?_ _ | refine blk_drew ?_ | refine blk_alloc ?_ _)); refine blk_put (cs := #[.string n, .string (⟨#[]⟩ : ByteArray)]) ?_ 1 _ rfl; (with_reducible repeat (first | refine blk_drewN ?_ _ | refine blk_drew ?_ | refine blk_alloc ?_ _)); refine blk_put (cs := #[.string (⟨#[]⟩ : ByteArray), .string (⟨#[]⟩ : ByteArray)]) ?_ 0 _ rfl; (with_reducible repeat (first | refine blk_drewN ?_ _ | refine blk_drew ?_ | refine blk_alloc ?_ _)); exact BK7.out) hb); clear BK7; have BK7 := n2_; clear n2_; clear BK HB; have BK := n0_; have HB := n1_; clear n0_ n1_ hb; have hcz0 : w'.cell? ⟨gb, 0, none⟩ = some (.string (⟨#[]⟩ : ByteArray)) := (blk_cell BK.out 0).trans rfl; have hcz1 : w'.cell? ⟨gb, 1, none⟩ = some (.string (⟨#[]⟩ : ByteArray)) := (blk_cell BK.out 1).trans rfl; have hfz0 := blk_frozen BK.out 0; have hfz1 := blk_frozen BK.out 1; have hcz2 : w'.cell? ⟨gb7, 0, none⟩ = some (.string n) := (blk_cell BK7.out 0).trans rfl; have hcz3 : w'.cell? ⟨gb7, 1, none⟩ = some (.string d) := (blk_cell BK7.out 1).trans rfl; have hfz2 := blk_frozen BK7.out 0; have hfz3 := blk_frozen BK7.out 1; have hgf : w'.cell? ⟨1, 0, none⟩ = some (.iface 178 (.pointer (some aF))) := cell_below HB.out HGF.out; have hgl : 1 < gb := Nat.lt_of_lt_of_le (cell_lt HGF.out) GE.out; have hg1 : 1 ≠ gb := Nat.ne_of_lt hgl; have hg2 : gb ≠ 1 := Nat.ne_of_gt hgl; clear hgl; have hal0 : ∀ o, (w'.alloc o).cell? ⟨gb, 0, none⟩ = some (.string (⟨#[]⟩ : ByteArray)) := fun o => (blk_cell (blk_alloc BK.out o) 0).trans rfl; have hal1 : ∀ o, (w'.alloc o).cell? ⟨gb, 1, none⟩ = some (.string (⟨#[]⟩ : ByteArray)) := fun o => (blk_cell (blk_alloc BK.out o) 1).trans rfl; have haf0 : ∀ o, (w'.alloc o).frozen? ⟨gb, 0, none⟩ = false := fun o => blk_frozen (blk_alloc BK.out o) 0; have haf1 : ∀ o, (w'.alloc o).frozen? ⟨gb, 1, none⟩ = false := fun o => blk_frozen (blk_alloc BK.out o) 1))
 go_region;all_goals (try go_wp2)
 all_goals
  refine bodyPost_ret (results_ct rfl _ _ gb 64 #[.string (⟨#[]⟩ : ByteArray), .string (⟨#[]⟩ : ByteArray)] (0, 0) _ rfl (by (with_reducible repeat (first | refine blk_drewN ?_ _ | refine blk_drew ?_ | refine blk_alloc ?_ _)); refine blk_put (cs := #[.string (⟨#[]⟩ : ByteArray), .string (⟨#[]⟩ : ByteArray)]) ?_ 1 _ rfl; (with_reducible repeat (first | refine blk_drewN ?_ _ | refine blk_drew ?_ | refine blk_alloc ?_ _)); refine blk_put (cs := #[.string (⟨#[]⟩ : ByteArray), .string (⟨#[]⟩ : ByteArray)]) ?_ 0 _ rfl; (with_reducible repeat (first | refine blk_drewN ?_ _ | refine blk_drew ?_ | refine blk_alloc ?_ _)); exact BK.out) Tryz.underlying64 rfl (by kernel_rfl)) rfl ?_;exact ⟨_, rfl, Or.inr ⟨_, rfl, Or.inl ⟨rfl, (blk_cell (by (with_reducible repeat (first | refine blk_drewN ?_ _ | refine blk_drew ?_)); first | exact far2 (blk_new _ _) (Nat.ne_of_gt (blk_lt BK.out)) | exact blk_new_at _ (by rw [World.size_setCell, World.size_setCell])) 1).trans rfl⟩⟩, T6_⟩
theorem read_no1_miss {aF aZ : Addr} (s p q0 : ByteArray) (w : World) (hG : GsAt aF aZ w) (hC : ∀ w, Calls Tryz.prog 89 #[.string s, .string ⟨#[47]⟩] w fun e w' => e = .returned (.tuple #[.string p, .string q0, .bool false]) ∧ Drawn0 w w')
    (h1 : whole_Right.f p = some false) :
    Calls Tryz.prog 65 #[.string s] w fun e w' => ∃ v, e = .returned (.tuple #[.agg #[.string ⟨#[]⟩, .string ⟨#[]⟩], v]) ∧ ErrV aF aZ w' v 2 ∧ Below w.heap.size w w' := by
 have HGF := A_ hG.form;have KC := A_ hC;have K1 := A_ h1;clear hG hC h1;have HB := A_ (Below.refl w.heap.size w);go_enter Tryz.func65, Tryz.ntmps65
 go_wp2_with (first
  | (refine BX_ 2 #[.string (⟨#[]⟩ : ByteArray), .string (⟨#[]⟩ : ByteArray)] 64 ?_; intro gb hg w6 hbox hb; have BK := A_ hbox; have GE := GE_ (w := w) hg; replace HB := BT_ hb; clear hb hbox hg)
  | (go_at_call 89; refine (KC.out _).mono ?_; rintro e w' ⟨rfl, ⟨⟨nd, rfl⟩⟩⟩)
  | (go_at_call 90; with_reducible refine (whole_Right.calls p false _ K1.out).mono ?_; rintro e w' ⟨rfl, hb⟩; replace BK := BF_ BK hb; replace HB := BT_ hb; clear hb; have hcz0 : w'.cell? ⟨gb, 0, none⟩ = some (.string (⟨#[]⟩ : ByteArray)) := (blk_cell BK.out 0).trans rfl; have hcz1 : w'.cell? ⟨gb, 1, none⟩ = some (.string (⟨#[]⟩ : ByteArray)) := (blk_cell BK.out 1).trans rfl; have hfz0 := blk_frozen BK.out 0; have hfz1 := blk_frozen BK.out 1; have hgf : w'.cell? ⟨1, 0, none⟩ = some (.iface 178 (.pointer (some aF))) := cell_below HB.out HGF.out; have hgl : 1 < gb := Nat.lt_of_lt_of_le (cell_lt HGF.out) GE.out; have hg1 : 1 ≠ gb := Nat.ne_of_lt hgl; have hg2 : gb ≠ 1 := Nat.ne_of_gt hgl; clear hgl; have hal0 : ∀ o, (w'.alloc o).cell? ⟨gb, 0, none⟩ = some (.string (⟨#[]⟩ : ByteArray)) := fun o => (blk_cell (blk_alloc BK.out o) 0).trans rfl; have hal1 : ∀ o, (w'.alloc o).cell? ⟨gb, 1, none⟩ = some (.string (⟨#[]⟩ : ByteArray)) := fun o => (blk_cell (blk_alloc BK.out o) 1).trans rfl; have haf0 : ∀ o, (w'.alloc o).frozen? ⟨gb, 0, none⟩ = false := fun o => blk_frozen (blk_alloc BK.out o) 0; have haf1 : ∀ o, (w'.alloc o).frozen? ⟨gb, 1, none⟩ = false := fun o => blk_frozen (blk_alloc BK.out o) 1))
 go_region;all_goals (try go_wp2)
 all_goals
  refine bodyPost_ret (results_ct rfl _ _ gb 64 #[.string (⟨#[]⟩ : ByteArray), .string (⟨#[]⟩ : ByteArray)] (0, 0) _ rfl (by (with_reducible repeat (first | refine blk_drewN ?_ _ | refine blk_drew ?_ | refine blk_alloc ?_ _)); refine blk_put (cs := #[.string (⟨#[]⟩ : ByteArray), .string (⟨#[]⟩ : ByteArray)]) ?_ 1 _ rfl; (with_reducible repeat (first | refine blk_drewN ?_ _ | refine blk_drew ?_ | refine blk_alloc ?_ _)); refine blk_put (cs := #[.string (⟨#[]⟩ : ByteArray), .string (⟨#[]⟩ : ByteArray)]) ?_ 0 _ rfl; (with_reducible repeat (first | refine blk_drewN ?_ _ | refine blk_drew ?_ | refine blk_alloc ?_ _)); exact BK.out) Tryz.underlying64 rfl (by kernel_rfl)) rfl ?_;exact ⟨_, rfl, Or.inr ⟨_, rfl, Or.inl ⟨rfl, (blk_cell (by (with_reducible repeat (first | refine blk_drewN ?_ _ | refine blk_drew ?_)); first | exact far2 (blk_new _ _) (Nat.ne_of_gt (blk_lt BK.out)) | exact blk_new_at _ (by rw [World.size_setCell, World.size_setCell])) 1).trans rfl⟩⟩, T6_⟩
end Go.Proofs.YtmmonhgfnmeieaaGreatDoor.Err
/- Rational numbers: their texts, and what is in lowest terms. -/
namespace Go.Proofs.YtmmonhgfnmeieaaGreatDoor.Err
open Go Go.RowKit Go.ZPWords Go.Proofs.YtmmonhgfnmeieaaGreatDoor.PC Go.Proofs.YtmmonhgfnmeieaaGreatDoor.Th Go.Proofs.YtmmonhgfnmeieaaGreatDoor.Th.Wh
theorem ld_divInt (x y : Int) (hy : y ≠ 0) : ld x y = (Rat.divInt x y).den := by
  rw [Rat.den_divInt, if_neg hy, ld, Int.gcd, Nat.gcd_comm]
theorem lp_sign (x y : Int) (hy : y ≠ 0) : y.sign * x = lp x y := by
 unfold lp;split
 · rw [Int.sign_eq_neg_one_of_neg (by assumption)]; omega
 rw [Int.sign_eq_one_of_pos (by omega)]; omega
theorem ln_divInt (x y : Int) (hy : y ≠ 0) : ln x y = (Rat.divInt x y).num := by
 rw [Rat.num_divInt, lp_sign x y hy];have hg : (Int.gcd y x) = Nat.gcd x.natAbs y.natAbs := by rw [Int.gcd, Nat.gcd_comm]
 rw [hg];unfold ln;have hd : Nat.gcd x.natAbs y.natAbs ∣ x.natAbs := Nat.gcd_dvd_left _ _;have ha : (lp x y).natAbs = x.natAbs := by unfold lp; split <;> simp
 rw [← ha] at hd;rw [← ha];generalize lp x y = p at *;generalize Nat.gcd p.natAbs y.natAbs = g at *;dsimp only;split
 · rw [show (p : Int) = -(p.natAbs : Int) by omega, Int.natAbs_neg, Int.natAbs_natCast, Int.neg_ediv_of_dvd (Int.natCast_dvd_natCast.2 hd)];rfl
 rw [show (p : Int) = (p.natAbs : Int) by omega, Int.natAbs_natCast];rfl
theorem num_bound (x y : Int) : (Rat.divInt x y).num.natAbs ≤ x.natAbs := by
 by_cases hy : y = 0
 · subst hy; rw [Rat.divInt_zero]; exact Nat.zero_le _
 rw [← ln_divInt x y hy];unfold ln;have h := Nat.div_le_self x.natAbs (Nat.gcd x.natAbs y.natAbs);dsimp only;generalize x.natAbs / Nat.gcd x.natAbs y.natAbs = q at *;split <;> omega
theorem den_bound (x y : Int) (hy : y ≠ 0) : (Rat.divInt x y).den ≤ y.natAbs := by
  rw [← ld_divInt x y hy];exact Nat.div_le_self _ _
theorem add_divInt (x y : Rat) : x + y = Rat.divInt (x.num * y.den + y.num * x.den) (x.den * y.den : Nat) := by rw [Rat.add_def', Rat.divInt_ofNat]
theorem mul_divInt (x y : Rat) : x * y = Rat.divInt (x.num * y.num) (x.den * y.den : Nat) := by rw [Rat.mul_def', Rat.divInt_ofNat]
theorem self_divInt (x : Rat) : Rat.divInt x.num (x.den : Int) = x := Rat.num_divInt_den x
/-- A rational's text. -/
def rt (x : Rat) : ByteArray := if x.den = 1 then zt x.num else zt x.num ++ (⟨#[47]⟩ : ByteArray) ++ txt x.den
theorem rt_one {x : Rat} (h : x.den = 1) : rt x = zt x.num := by unfold rt; rw [if_pos h]
theorem rt_frac {x : Rat} (h : x.den ≠ 1) : rt x = zt x.num ++ (⟨#[47]⟩ : ByteArray) ++ txt x.den := by unfold rt; rw [if_neg h]
theorem list_frac (a b : ByteArray) : (a ++ (⟨#[47]⟩ : ByteArray) ++ b).data.toList = a.data.toList ++ 47 :: b.data.toList := by simp
theorem no47_txt (n : Nat) : (47 : UInt8) ∉ (txt n).data.toList := by
  rw [txt_data];intro h;have := List.all_eq_true.1 (digs_dig n) _ h;exact absurd this (by decide)
theorem no47_zt (z : Int) : (47 : UInt8) ∉ (zt z).data.toList := by
 by_cases h : z < 0
 · rw [zt_minus h, List.mem_cons];intro h;rcases h with h | h
   · exact absurd h (by decide)
   exact no47_txt _ h
 rw [zt_plain h]; exact no47_txt _
theorem idx_none : ∀ {l : List UInt8}, (47 : UInt8) ∉ l → Lib.indexByte l 47 = -1
  | [], _ => rfl
  | b :: l, h => by
    rw [List.mem_cons, not_or] at h;unfold Lib.indexByte;rw [if_neg (by rw [beq_iff_eq]; exact fun e => h.1 e.symm), if_pos (by rw [idx_none h.2]; rfl)]
theorem idx_mid (q : List UInt8) : ∀ {p : List UInt8}, (47 : UInt8) ∉ p → Lib.indexByte (p ++ 47 :: q) 47 = (p.length : Int)
  | [], _ => rfl
  | b :: l, h => by
    rw [List.mem_cons, not_or] at h;rw [List.cons_append];unfold Lib.indexByte;have e := idx_mid q h.2;rw [if_neg (by rw [beq_iff_eq]; exact fun e => h.1 e.symm), if_neg (by rw [e, beq_iff_eq]; omega), e, List.length_cons]
    omega
theorem idx_cases : ∀ l : List UInt8, ((47 : UInt8) ∉ l) ∨ ∃ p q, l = p ++ 47 :: q ∧ (47 : UInt8) ∉ p
  | [] => Or.inl (by simp)
  | b :: l => by
    by_cases hb : b = 47
    · exact Or.inr ⟨[], l, by rw [hb]; rfl, by simp⟩
    rcases idx_cases l with h | ⟨p, q, rfl, h⟩
    · exact Or.inl (by rw [List.mem_cons]; exact fun e => e.elim (fun e => hb e.symm) h)
    · exact Or.inr ⟨b :: p, q, rfl, by rw [List.mem_cons]; exact fun e => e.elim (fun e => hb e.symm) h⟩
theorem mid_inj {p q p' q' : List UInt8} (h : p ++ 47 :: q = p' ++ 47 :: q') (h1 : (47 : UInt8) ∉ p) (h2 : (47 : UInt8) ∉ p') : p = p' ∧ q = q' := by
  have e1 := idx_mid q h1;rw [h, idx_mid q' h2] at e1;have := List.append_inj h (by omega);exact ⟨this.1, by have := this.2; injection this⟩
theorem rt_inj {x y : Rat} (h : rt x = rt y) : x = y := by
 by_cases hx : x.den = 1 <;> by_cases hy : y.den = 1
 · rw [rt_one hx, rt_one hy] at h;exact Rat.ext (zt_inj h) (hx.trans hy.symm)
 · rw [rt_one hx, rt_frac hy] at h;have := congrArg (fun s => s.data.toList) h;rw [list_frac] at this;exact absurd (by rw [this]; simp) (no47_zt x.num)
 · rw [rt_frac hx, rt_one hy] at h;have := congrArg (fun s => s.data.toList) h;rw [list_frac] at this;exact absurd (by rw [← this]; simp) (no47_zt y.num)
 rw [rt_frac hx, rt_frac hy] at h;have := congrArg (fun s => s.data.toList) h;rw [list_frac, list_frac] at this;have := mid_inj this (no47_zt _) (no47_zt _);exact Rat.ext (zt_inj (ext_of this.1)) (txt_inj (ext_of this.2))
/-- A rational's size: the greater one of both sizes. -/
def qm (x : Rat) : Nat := max (zs x.num) (txt x.den).size
theorem ts_mono {m n : Nat} (h : m ≤ n) : (txt m).size ≤ (txt n).size := size_le (Nat.lt_of_le_of_lt h (lt_pow_size n)) (size_pos n)
theorem qm_le_of {x : Rat} {d : Nat} (h1 : zs x.num ≤ d) (h2 : (txt x.den).size ≤ d) : qm x ≤ d := Nat.max_le.2 ⟨h1, h2⟩
theorem qm_num (x : Rat) : zs x.num ≤ qm x := Nat.le_max_left _ _
theorem qm_den (x : Rat) : (txt x.den).size ≤ qm x := Nat.le_max_right _ _
theorem qm_divInt (a b : Int) {d : Nat} (h1 : zs a ≤ d) (h2 : zs b ≤ d) : qm (Rat.divInt a b) ≤ d := by
 refine qm_le_of (Nat.le_trans (ts_mono (num_bound a b)) h1) ?_;by_cases hb : b = 0
 · subst hb;rw [Rat.divInt_zero];exact Nat.le_trans (ts_mono (by decide : (0 : Rat).den ≤ 1)) (Nat.le_trans (by decide +kernel : (txt 1).size ≤ 1) (Nat.le_trans (size_pos _) h1))
 exact Nat.le_trans (ts_mono (den_bound a b hb)) h2
theorem zs_cast (n : Nat) : zs (n : Int) = (txt n).size := rfl
theorem den_mul' (x y : Rat) : zs ((x.den * y.den : Nat) : Int) ≤ qm x + qm y := by
  rw [zs_cast];have := size_mul x.den y.den;have := qm_den x;have := qm_den y
  omega
theorem cross (x y : Rat) : zs (x.num * y.den) ≤ qm x + qm y := by
  have := zs_mul x.num y.den;rw [zs_cast] at this;have := qm_num x;have := qm_den y
  omega
theorem qm_add (x y : Rat) : qm (x + y) ≤ qm x + qm y + 1 := by
  rw [add_divInt];refine qm_divInt _ _ ?_ (Nat.le_succ_of_le (den_mul' x y));have := zs_add (x.num * y.den) (y.num * x.den);have := cross x y;have := cross y x
  omega
theorem qm_mul (x y : Rat) : qm (x * y) ≤ qm x + qm y := by
  rw [mul_divInt];refine qm_divInt _ _ ?_ (den_mul' x y);have := zs_mul x.num y.num;have := qm_num x;have := qm_num y
  omega
theorem size_frac (a b : ByteArray) : (a ++ (⟨#[47]⟩ : ByteArray) ++ b).size = a.size + b.size + 1 := by
  rw [size_list', list_frac, List.length_append, List.length_cons, ← size_list', ← size_list']; omega
theorem qm_le (x : Rat) : qm x ≤ (rt x).size := by
 have h1 := (zs_le x.num).1;by_cases h : x.den = 1
 · rw [rt_one h];refine qm_le_of h1 ?_;rw [h];exact Nat.le_trans (by decide +kernel : (txt 1).size ≤ 1) (zt_len _)
 rw [rt_frac h, size_frac];exact qm_le_of (by omega) (by omega)
theorem size_rt (x : Rat) : (rt x).size ≤ 2 * qm x + 2 := by
 have h1 := (zs_le x.num).2;have h2 := qm_num x;have h3 := qm_den x;by_cases h : x.den = 1
 · rw [rt_one h]; omega
 rw [rt_frac h, size_frac]; omega
/-- What a text tells: a rational, or none. -/
noncomputable def rv (s : ByteArray) : Option Rat := by
  classical exact if h : ∃ x, s = rt x then some h.choose else none
theorem rv_rt (x : Rat) : rv (rt x) = some x := by
  unfold rv;rw [dif_pos ⟨x, rfl⟩];exact congrArg some (rt_inj (Exists.choose_spec (p := fun y => rt x = rt y) ⟨x, rfl⟩)).symm
theorem rv_some {s : ByteArray} {x : Rat} (h : rv s = some x) : s = rt x := by
 unfold rv at h;split at h
 · rename_i h';injection h with h;rw [← h];exact h'.choose_spec
 cases h
theorem rv_none {s : ByteArray} (h : rv s = none) (x : Rat) : s ≠ rt x := by
  intro e;rw [e, rv_rt] at h
  cases h
/-- What a text tells: a whole number, or none. -/
noncomputable def zv (s : ByteArray) : Option Int := by
  classical exact if h : ∃ x, s = zt x then some h.choose else none
theorem zv_zt (x : Int) : zv (zt x) = some x := by
  unfold zv;rw [dif_pos ⟨x, rfl⟩];exact congrArg some (zt_inj (Exists.choose_spec (p := fun y => zt x = zt y) ⟨x, rfl⟩)).symm
theorem zv_cases (s : ByteArray) : (zv s = none ∧ right s = false) ∨ ∃ z, s = zt z ∧ zv s = some z := by
 cases h : right s with
 | true =>
  obtain ⟨z, rfl⟩ := zt_of_right h;exact Or.inr ⟨z, rfl, zv_zt z⟩
 | false =>
  refine Or.inl ⟨?_, rfl⟩;unfold zv;rw [dif_neg];rintro ⟨z, rfl⟩;rw [right_zt] at h
  cases h
end Go.Proofs.YtmmonhgfnmeieaaGreatDoor.Err
/- rat.lowest and rat.read, told by rationals. -/
namespace Go.Proofs.YtmmonhgfnmeieaaGreatDoor.Err
open Go Go.RowKit Go.Extern.Stop Go.Stop Go.Extern Go.ZPWords Go.Proofs.YtmmonhgfnmeieaaGreatDoor.PC Go.Proofs.YtmmonhgfnmeieaaGreatDoor.Th Go.Proofs.YtmmonhgfnmeieaaGreatDoor.Th.Wh
theorem ne48 {b : Int} (hb : b ≠ 0) : (zt b).toList ≠ ([48] : List UInt8) := by
 by_cases h : b < 0
 · rw [ByteArray.toList_eq, zt_minus h];intro e;injection e with e;exact absurd e (by decide)
 rw [zt_plain h];intro e;have := zero_toList.1 e;omega
theorem lowest_rt (a b : Int) (hb : b ≠ 0) (ha : zs a ≤ 100000000000) (hb' : zs b ≤ 100000000000) (w : World) :
    Calls Tryz.prog 50 #[.string (zt a), .string (zt b)] w fun e w' => e = .returned (.tuple #[.agg #[.string (zt (Rat.divInt a b).num), .string (txt (Rat.divInt a b).den)], .nilIface]) ∧ Below w.heap.size w w' := by
 rw [← ln_divInt a b hb, ← ld_divInt a b hb]
 have hg : Nat.gcd a.natAbs b.natAbs ≠ 0 := by
  have := Nat.gcd_pos_of_pos_right a.natAbs (show 0 < b.natAbs by omega);omega
 have fa : Fit (txt a.natAbs) := fit_nat (Nat.le_trans ha (by decide));have fb : Fit (txt b.natAbs) := fit_nat (Nat.le_trans hb' (by decide));have hgs : (txt (Nat.gcd a.natAbs b.natAbs)).size ≤ 100000000000 := Nat.le_trans (ts_mono (Nat.gcd_le_right _ (by omega))) hb';have fg : Fit (txt (Nat.gcd a.natAbs b.natAbs)) := fit_nat (Nat.le_trans hgs (by decide));have h3 := nat_Gcd.txt fa fb;have h4 := nat_Div.txt fa fg hg;have h5 := nat_Div.txt fb fg hg;have hq : (txt (a.natAbs / Nat.gcd a.natAbs b.natAbs)).size ≤ 100000000000 := Nat.le_trans (ts_mono (Nat.div_le_self _ _)) ha;have h7 := whole_Neg.zt (x := ((a.natAbs / Nat.gcd a.natAbs b.natAbs : Nat) : Int)) (Nat.le_trans hq (by decide));rw [zt_nat] at h7
 have k7 : ∀ c : Bool, c = decide (lp a b < 0) → c = true → whole_Neg.f (txt (a.natAbs / Nat.gcd a.natAbs b.natAbs)) = some (zt (ln a b), 0) := by
  intro c hc e;rw [hc, decide_eq_true_eq] at e;rw [h7, ln, if_pos e]
 have k8 : ∀ c : Bool, c = decide (lp a b < 0) → c = false → zt (ln a b) = txt (a.natAbs / Nat.gcd a.natAbs b.natAbs) := by
  intro c hc e;rw [hc, decide_eq_false_iff_not] at e;rw [ln, if_neg e, zt_nat]
 by_cases h : b < 0
 · have hl : lp a b = -a := by unfold lp; rw [if_pos h]
   have h2 := size_zt (-a);rw [Int.natAbs_neg] at h2;exact lowest_minus _ _ (zt (-a)) (txt b.natAbs) _ _ (txt a.natAbs) 0 w (ne48 hb) (whole_Neg.zt (Nat.le_trans ha (by decide))) (size_zt b) (decide (-a < 0)) (by rw [pre_zt, decide_eq_true h]) h2 _ h3 _ _ _ _ h4 h5 (pre_zt _) _ 0 (k7 _ (by rw [hl])) (k8 _ (by rw [hl]))
 have hl : lp a b = a := by unfold lp; rw [if_neg h]
 have hbt : zt b = txt b.natAbs := zt_plain h;rw [hbt];exact lowest_plain _ _ _ _ (txt a.natAbs) w (hbt ▸ ne48 hb) (decide (a < 0)) (by rw [← hbt, pre_zt, decide_eq_false h]) (size_zt a) _ h3 _ _ _ _ h4 h5 (pre_zt _) _ 0 (k7 _ (by rw [hl])) (k8 _ (by rw [hl]))
theorem one49 : (⟨#[49]⟩ : ByteArray) = txt 1 := (txt_small 1 (by decide)).symm
theorem toList49 {n : Nat} : (txt n).toList = ([49] : List UInt8) ↔ n = 1 := by
  rw [show ([49] : List UInt8) = (txt 1).toList by rw [← one49, ByteArray.toList_eq], toList_txt, toList_txt, digs_inj]
theorem text_rt (x : Rat) (h : qm x ≤ 1000000000000) : rat_pair_text.f (zt x.num) (txt x.den) = some (rt x) := by
 have h1 := (zs_le x.num).2;have h2 := qm_num x;have h3 := qm_den x;rw [rat_pair_text.f];by_cases hd : x.den = 1
 · rw [if_pos (toList49.2 hd), rt_one hd]
 have hs : (zt x.num ++ (⟨#[47]⟩ : ByteArray)).size = (zt x.num).size + 1 := by rw [ByteArray.size_append]; rfl
 rw [if_neg (fun e => hd (toList49.1 e)), if_pos (by omega), if_pos (by omega), rt_frac hd]
theorem drawn0_refl (w : World) : Drawn0 w w := ⟨⟨0, by simp [World.drewN]⟩⟩
theorem cut_miss (s : ByteArray) (h : (47 : UInt8) ∉ s.data.toList) (w : World) :
    Calls Tryz.prog 89 #[.string s, .string ⟨#[47]⟩] w fun e w' => e = .returned (.tuple #[.string s, .string ⟨#[]⟩, .bool false]) ∧ Drawn0 w w' := (cut_miss' s w (idx_none h)).mono fun _ _ ⟨h1, h2⟩ => ⟨h1, h2 ▸ drawn0_refl w⟩
theorem cut_hit (p q : ByteArray) (h : (47 : UInt8) ∉ p.data.toList) (hs : p.size + q.size ≤ 500000000000) (w : World) :
    Calls Tryz.prog 89 #[.string (p ++ (⟨#[47]⟩ : ByteArray) ++ q), .string ⟨#[47]⟩] w fun e w' => e = .returned (.tuple #[.string p, .string q, .bool true]) ∧ Drawn0 w w' := by
 have hz := size_frac p q;have hl := list_frac p q;have hi := idx_mid q.data.toList h;rw [← hl, ← size_list'] at hi;have := cut_hit' _ w _ hi (by omega) (by omega)
 have e1 : (p ++ (⟨#[47]⟩ : ByteArray) ++ q).extract 0 p.size = p := by
  apply ext_of;rw [ex_list, hl, size_list', List.take_left, List.drop_zero]
 have e2 : (p ++ (⟨#[47]⟩ : ByteArray) ++ q).extract (p.size + 1) (p ++ (⟨#[47]⟩ : ByteArray) ++ q).size = q := by
  apply ext_of;rw [ex_list, size_list' (p ++ (⟨#[47]⟩ : ByteArray) ++ q), List.take_length, hl, size_list', List.drop_append, List.drop_eq_nil_of_le (by omega), List.nil_append, show p.data.toList.length + 1 - p.data.toList.length = 1 by omega];rfl
 rw [e1, e2] at this;exact this
theorem zt_one : zt 1 = txt 1 := zt_nat 1
/-- A right text is read. -/
theorem read_rt (x : Rat) (hx : qm x ≤ 100000000000) (w : World) :
    Calls Tryz.prog 65 #[.string (rt x)] w fun e w' => e = .returned (.tuple #[.agg #[.string (zt x.num), .string (txt x.den)], .nilIface]) ∧ Below w.heap.size w w' := by
 have h1 : whole_Right.f (zt x.num) = some true := by rw [whole_Right.of, right_zt]
 have ht := text_rt x (by omega);have hn := qm_num x;have hd' := qm_den x;have hz := (zs_le x.num).2;by_cases hd : x.den = 1
 · have hs := rt_one hd;have hl := fun w => lowest_rt x.num 1 (by decide) (Nat.le_trans hn hx) (Nat.le_trans (by decide +kernel : zs 1 ≤ 1) (by decide)) w;have e1 : Rat.divInt x.num 1 = x := by have := self_divInt x; rw [hd] at this; exact this
   rw [e1, zt_one, ← one49] at hl;rw [hs] at ht ⊢;exact read_ok_miss _ _ _ _ _ w (cut_miss _ (no47_zt _)) h1 (by rw [one49, nat_Right.txt]) hl ht
 have hs := rt_frac hd;have hl := fun w => lowest_rt x.num x.den (by have := x.den_nz; omega) (Nat.le_trans hn hx) (Nat.le_trans (Nat.le_of_eq (zs_cast _)) (Nat.le_trans hd' hx)) w;rw [self_divInt, zt_nat] at hl;rw [hs] at ht ⊢;exact read_ok_hit _ _ _ _ _ w (cut_hit _ _ (no47_zt _) (by omega)) h1 (nat_Right.txt _) (beq_eq_false_iff_ne.2 fun e => x.den_nz (zero_toList.1 e)) (beq_eq_false_iff_ne.2 fun e => hd (toList49.1 e)) hl ht
theorem nat_right_of (s : ByteArray) : nat_Right.f s = some (Str.right s) := by
  rw [nat_Right.f]
/-- Whatever else is refused. -/
theorem read_not {aF aZ : Addr} (s : ByteArray) (hs : rv s = none) (hz : s.size ≤ 40000000000) (w : World) (hG : GsAt aF aZ w) :
    Calls Tryz.prog 65 #[.string s] w fun e w' => ∃ v, e = .returned (.tuple #[.agg #[.string ⟨#[]⟩, .string ⟨#[]⟩], v]) ∧ ErrV aF aZ w' v 2 ∧ Below w.heap.size w w' := by
 have hno := rv_none hs;rcases idx_cases s.data.toList with h | ⟨p, q, h, hp⟩
 · cases h1 : right s with
   | true =>
    obtain ⟨z, rfl⟩ := zt_of_right h1;exact absurd (rt_one (x := (z : Rat)) rfl).symm (hno _)
   | false => exact read_no1_miss s s _ w hG (cut_miss s h) (by rw [whole_Right.of, h1])
 have e : s = (⟨p.toArray⟩ : ByteArray) ++ (⟨#[47]⟩ : ByteArray) ++ (⟨q.toArray⟩ : ByteArray) := ext_of (by rw [list_frac, h]);have hz' := size_frac (⟨p.toArray⟩ : ByteArray) (⟨q.toArray⟩ : ByteArray);rw [← e] at hz';have hc := cut_hit (⟨p.toArray⟩ : ByteArray) (⟨q.toArray⟩ : ByteArray) hp (by omega);rw [← e] at hc;clear h hp hs;generalize (⟨p.toArray⟩ : ByteArray) = p at *;generalize (⟨q.toArray⟩ : ByteArray) = q at *
 cases h1 : right p with
 | false => exact read_no1_hit s p q w hG hc (by rw [whole_Right.of, h1])
 | true =>
  have h1' : whole_Right.f p = some true := by rw [whole_Right.of, h1]
  cases h2 : Str.right q with
  | false => exact read_no2_hit s p q w hG hc h1' (by rw [nat_right_of q, h2])
  | true =>
   have h2' : nat_Right.f q = some true := by rw [nat_right_of q, h2]
   cases h3 : (q.toList == ([48] : List UInt8)) with
   | true => exact read_no3_hit s p q w hG hc h1' h2' h3
   | false =>
    cases h4 : (q.toList == ([49] : List UInt8)) with
    | true => exact read_no5_hit s p q w hG hc h1' h2' h3 h4
    | false =>
     obtain ⟨a, rfl⟩ := zt_of_right h1;obtain ⟨b, rfl⟩ := (Th.right_iff q).1 h2;rw [beq_eq_false_iff_ne] at h3
     have hb : (b : Int) ≠ 0 := by
      intro e;exact h3 (zero_toList.2 (by omega))
     have za := (zs_le a).1;have hl := fun w => lowest_rt a b hb (by omega) (by rw [zs_cast]; omega) w;have hq := qm_divInt a b (d := 40000000000) (by omega) (by rw [zs_cast]; omega);rw [zt_nat] at hl;exact read_no4_hit s _ _ w hG hc h1' h2' (beq_eq_false_iff_ne.2 h3) h4 _ _ _ hl (text_rt _ (by omega)) (beq_eq_false_iff_ne.2 fun e => hno _ (toList_inj.1 e).symm)
end Go.Proofs.YtmmonhgfnmeieaaGreatDoor.Err
/- Words for rat's closures; what rat.lowest answers. -/
namespace Go.Proofs.YtmmonhgfnmeieaaGreatDoor.Err
open Go Go.RowKit Go.Extern.Stop Go.Stop Go.Extern Go.ZPWords Go.ZPMore Go.ZPLast Go.Proofs.YtmmonhgfnmeieaaGreatDoor.PC Go.Proofs.YtmmonhgfnmeieaaGreatDoor.Th Go.Proofs.YtmmonhgfnmeieaaGreatDoor.Th.Wh
set_option maxHeartbeats 4000000
set_option maxRecDepth 1000000
theorem ErrV.set {aF aZ : Addr} {w : World} {v x y : Value} {c : Int} {g : Nat} {a b : ByteArray} {t : TypeId} (h : ErrV aF aZ w v c) (hg : w.heap[g]? = some (.cells #[.string a, .string b] t (0, 0))) : ErrV aF aZ ((w.setCell ⟨g, 0, none⟩ x).setCell ⟨g, 1, none⟩ y) v c := by
 have key : ∀ pb u, w.cell? ⟨pb, 1, none⟩ = some (.iface 178 u) → ((w.setCell ⟨g, 0, none⟩ x).setCell ⟨g, 1, none⟩ y).cell? ⟨pb, 1, none⟩ = some (.iface 178 u) := by
  intro pb u hc
  have hne : pb ≠ g := by
   intro e;rw [e, blk_cell hg 1] at hc;simp at hc
  rw [← hc];unfold World.cell?;dsimp only;rw [Below.heap_setCell _ _ _ _ hne, Below.heap_setCell _ _ _ _ hne]
 rcases h with h | ⟨pb, rfl, ⟨rfl, h⟩ | ⟨rfl, h⟩⟩
 · exact Or.inl h
 · exact Or.inr ⟨pb, rfl, Or.inl ⟨rfl, key _ _ h⟩⟩
 exact Or.inr ⟨pb, rfl, Or.inr ⟨rfl, key _ _ h⟩⟩
theorem held_mk {W w : World} {g2 g3 g4 : Nat} {p1 q1 p2 q2 : ByteArray} {o4 : Obj} (h2 : w.heap[g2]? = some (.cells #[.string p1, .string q1] 64 (0, 0))) (h3 : w.heap[g3]? = some (.cells #[.string p2, .string q2] 64 (0, 0))) (h4 : w.heap[g4]? = some o4) (hb : Below W.heap.size W w) :
    w.cell? ⟨g2, 0, none⟩ = some (.string p1) ∧ w.cell? ⟨g2, 1, none⟩ = some (.string q1) ∧ w.cell? ⟨g3, 0, none⟩ = some (.string p2) ∧ w.cell? ⟨g3, 1, none⟩ = some (.string q2) ∧ Aside0 (w.heap[g2]? = some (.cells #[.string p1, .string q1] 64 (0, 0))) ∧ Aside0 (w.heap[g3]? = some (.cells #[.string p2, .string q2] 64 (0, 0))) ∧ Aside0 (w.heap[g4]? = some o4) ∧ Aside0 (Below W.heap.size W w) :=
  ⟨(blk_cell h2 0).trans rfl, (blk_cell h2 1).trans rfl, (blk_cell h3 0).trans rfl, (blk_cell h3 1).trans rfl, ⟨h2⟩, ⟨h3⟩, ⟨h4⟩, ⟨hb⟩⟩
theorem held_mk2 {W w : World} {g2 g3 g4 : Nat} {p1 q1 p2 q2 : ByteArray} (h2 : w.heap[g2]? = some (.cells #[.string p1, .string q1] 64 (0, 0))) (h3 : w.heap[g3]? = some (.cells #[.string p2, .string q2] 64 (0, 0))) (h4 : ∃ x y, w.heap[g4]? = some (.cells #[.string x, .string y] 64 (0, 0))) (hb : Below W.heap.size W w) :
    w.cell? ⟨g2, 0, none⟩ = some (.string p1) ∧ w.cell? ⟨g2, 1, none⟩ = some (.string q1) ∧ w.cell? ⟨g3, 0, none⟩ = some (.string p2) ∧ w.cell? ⟨g3, 1, none⟩ = some (.string q2) ∧ Aside0 (w.heap[g2]? = some (.cells #[.string p1, .string q1] 64 (0, 0))) ∧ Aside0 (w.heap[g3]? = some (.cells #[.string p2, .string q2] 64 (0, 0))) ∧ Aside0 (∃ x y, w.heap[g4]? = some (.cells #[.string x, .string y] 64 (0, 0))) ∧ Aside0 (Below W.heap.size W w) :=
  ⟨(blk_cell h2 0).trans rfl, (blk_cell h2 1).trans rfl, (blk_cell h3 0).trans rfl, (blk_cell h3 1).trans rfl, ⟨h2⟩, ⟨h3⟩, ⟨h4⟩, ⟨hb⟩⟩
theorem times_zt (a b : Int) (ha : zs a ≤ 40000000000) (hb : zs b ≤ 40000000000) : rat_times.f (zt a) (zt b) = some (zt (a * b)) := by
  rw [rat_times.f, whole_Mul.zt (Nat.le_trans ha (by decide)) (Nat.le_trans hb (by decide)), Option.bind_some]
theorem lowest_ok {aF aZ : Addr} (a b : Int) (hb : b ≠ 0) (ha : zs a ≤ 100000000000) (hb' : zs b ≤ 100000000000) (w : World) :
    Calls Tryz.prog 50 #[.string (zt a), .string (zt b)] w fun e w' => ∃ v, e = .returned (.tuple #[.agg #[.string (zt (Rat.divInt a b).num), .string (txt (Rat.divInt a b).den)], v]) ∧ ErrV aF aZ w' v 0 ∧ Below w.heap.size w w' :=
  (lowest_rt a b hb ha hb' w).mono fun _ _ ⟨h1, h2⟩ => ⟨_, h1, Or.inl ⟨rfl, rfl⟩, h2⟩
theorem rv_cases (s : ByteArray) : (rv s = none) ∨ ∃ x, s = rt x ∧ rv s = some x := by
  cases h : rv s with
  | none => exact Or.inl rfl
  | some x => exact Or.inr ⟨x, rv_some h, rfl⟩
theorem den_pos {x y : Rat} : ((x.den * y.den : Nat) : Int) ≠ 0 := by
  have := Nat.mul_ne_zero x.den_nz y.den_nz
  omega
theorem cast_den (x y : Rat) : ((x.den * y.den : Nat) : Int) = (x.den : Int) * (y.den : Int) := by simp
end Go.Proofs.YtmmonhgfnmeieaaGreatDoor.Err
/- rat.both: two rationals, and what a closure makes of them. -/
namespace Go.Proofs.YtmmonhgfnmeieaaGreatDoor.Err
open Go Go.RowKit Go.Extern.Stop Go.Stop Go.Extern Go.ZPWords Go.ZPMore Go.ZPLast Go.Proofs.YtmmonhgfnmeieaaGreatDoor.PC Go.Proofs.YtmmonhgfnmeieaaGreatDoor.Th Go.Proofs.YtmmonhgfnmeieaaGreatDoor.Th.Wh
set_option maxHeartbeats 4000000
set_option maxRecDepth 1000000
theorem ErrV.iface {aF aZ : Addr} {w : World} {v : Value} {c : Int} (h : ErrV aF aZ w v c) (hc : c ≠ 0) : ∃ pb, v = .iface 85 (.pointer (some ⟨pb, 0, none⟩)) := by
 rcases h with ⟨_, h⟩ | ⟨pb, rfl, _⟩
 · exact absurd h hc
 exact ⟨pb, rfl⟩
theorem told_any {aF aZ : Addr} (n d r : ByteArray) (v : Value) (c : Int) (w : World) (hG : GsAt aF aZ w) (h : ErrV aF aZ w v c) (h0 : c = 0 → rat_pair_text.f n d = some r) (h1 : c ≠ 0 → r = ⟨#[]⟩) :
    Calls Tryz.prog 67 #[.agg #[.string n, .string d], v] w fun e w' => e = .returned (.tuple #[.string r, .int .i64 c]) ∧ Below w.heap.size w w' := by
 by_cases hc : c = 0
 · rcases h with ⟨rfl, _⟩ | ⟨pb, _, ⟨h, _⟩ | ⟨h, _⟩⟩
   · subst hc;exact told_ok n d r w (h0 rfl)
   · omega
   omega
 rw [h1 hc];exact told_no n d v c w hG h hc
theorem both_no1 {aF aZ : Addr} (a b : ByteArray) (fv : Value) (w : World) (hG : GsAt aF aZ w)
    (hX : ∀ w, GsAt aF aZ w → Calls Tryz.prog 65 #[.string a] w fun e w' => ∃ v, e = .returned (.tuple #[.agg #[.string ⟨#[]⟩, .string ⟨#[]⟩], v]) ∧ ErrV aF aZ w' v 2 ∧ Below w.heap.size w w') :
    Calls Tryz.prog 46 #[.string a, .string b, fv] w fun e w' => e = .returned (.tuple #[.string ⟨#[]⟩, .int .i64 2]) ∧ Below w.heap.size w w' := by
  have HG0 := A_ hG;have KX := A_ hX

  clear hG hX;have HB := A_ (Below.refl w.heap.size w);go_enter Tryz.func46, Tryz.ntmps46
  go_wp2_with (first
      | (go_at_call 65; with_reducible refine (KX.out _ (HG0.out.below T6_)).mono ?_; rintro e w' ⟨v, rfl, hev, hb⟩; replace HB := BT_ hb; clear hb; obtain ⟨pb, rfl⟩ : ∃ pb, v = .iface 85 (.pointer (some ⟨pb, 0, none⟩)) := hev.iface (by decide); have EV := A_ hev; clear hev)
      | (refine BX_ 8 #[.string (⟨#[]⟩ : ByteArray), .string (⟨#[]⟩ : ByteArray)] 64 ?_; intro g8 hg w8 hbox hb; have BK8 := A_ hbox; have GE8 := GE_ (w := w) hg; replace HB := BT_ hb; have ev_ := A_ (EV.out.below hb); clear EV; have EV := ev_; clear ev_; clear hb hbox hg; have hz80 : w8.cell? ⟨g8, 0, none⟩ = some (.string (⟨#[]⟩ : ByteArray)) := (blk_cell BK8.out 0).trans rfl; have hz81 : w8.cell? ⟨g8, 1, none⟩ = some (.string (⟨#[]⟩ : ByteArray)) := (blk_cell BK8.out 1).trans rfl; have hf80 := blk_frozen BK8.out 0; have hf81 := blk_frozen BK8.out 1)
      | (go_at_call 66; with_reducible refine (number_v _ 2 _ (HG0.out.below T6_) (EV.out.set BK8.out) (by decide)).mono ?_; rintro e w' ⟨rfl, hb⟩; replace HB := BT_ hb; clear hb)
      )
  go_ret2
  exact ⟨rfl, HB.out⟩
theorem both_no2 {aF aZ : Addr} (a b p8 q8 : ByteArray) (fv : Value) (w : World) (hG : GsAt aF aZ w)
    (hX : ∀ w, Calls Tryz.prog 65 #[.string a] w fun e w' => e = .returned (.tuple #[.agg #[.string p8, .string q8], .nilIface]) ∧ Below w.heap.size w w')
    (hY : ∀ w, GsAt aF aZ w → Calls Tryz.prog 65 #[.string b] w fun e w' => ∃ v, e = .returned (.tuple #[.agg #[.string ⟨#[]⟩, .string ⟨#[]⟩], v]) ∧ ErrV aF aZ w' v 2 ∧ Below w.heap.size w w') :
    Calls Tryz.prog 46 #[.string a, .string b, fv] w fun e w' => e = .returned (.tuple #[.string ⟨#[]⟩, .int .i64 2]) ∧ Below w.heap.size w w' := by
 have HG0 := A_ hG;have KX := A_ hX;have KY := A_ hY;clear hG hX hY;have HB := A_ (Below.refl w.heap.size w);go_enter Tryz.func46, Tryz.ntmps46
 go_wp2_with (first
  | (go_at_call 65; with_reducible refine (KX.out _).mono ?_; rintro e w' ⟨rfl, hb⟩; replace HB := BT_ hb; clear hb)
  | (refine BX_ 8 #[.string (⟨#[]⟩ : ByteArray), .string (⟨#[]⟩ : ByteArray)] 64 ?_; intro g8 hg w8 hbox hb; have BK8 := A_ hbox; have GE8 := GE_ (w := w) hg; replace HB := BT_ hb; clear hb hbox hg; have hz80 : w8.cell? ⟨g8, 0, none⟩ = some (.string (⟨#[]⟩ : ByteArray)) := (blk_cell BK8.out 0).trans rfl; have hz81 : w8.cell? ⟨g8, 1, none⟩ = some (.string (⟨#[]⟩ : ByteArray)) := (blk_cell BK8.out 1).trans rfl; have hf80 := blk_frozen BK8.out 0; have hf81 := blk_frozen BK8.out 1)
  | (go_at_call 65; with_reducible refine (KY.out _ (HG0.out.below T6_)).mono ?_; rintro e w' ⟨v, rfl, hev, hb⟩; have m0_ := A_ (blk_below (g := g8) (o := .cells #[.string p8, .string q8] 64 (0, 0)) (by (with_reducible repeat (first | refine blk_drewN ?_ _ | refine blk_drew ?_ | refine blk_alloc ?_ _)); refine blk_put (cs := #[.string p8, .string (⟨#[]⟩ : ByteArray)]) ?_ 1 _ rfl; (with_reducible repeat (first | refine blk_drewN ?_ _ | refine blk_drew ?_ | refine blk_alloc ?_ _)); refine blk_put (cs := #[.string (⟨#[]⟩ : ByteArray), .string (⟨#[]⟩ : ByteArray)]) ?_ 0 _ rfl; (with_reducible repeat (first | refine blk_drewN ?_ _ | refine blk_drew ?_ | refine blk_alloc ?_ _)); exact BK8.out) hb); have n1_ := BT_ hb; clear BK8 HB; have BK8 := m0_; have HB := n1_; clear m0_ n1_ hb; have hc80 : w'.cell? ⟨g8, 0, none⟩ = some (.string p8) := (blk_cell BK8.out 0).trans rfl; have hc81 : w'.cell? ⟨g8, 1, none⟩ = some (.string q8) := (blk_cell BK8.out 1).trans rfl; obtain ⟨pb, rfl⟩ : ∃ pb, v = .iface 85 (.pointer (some ⟨pb, 0, none⟩)) := hev.iface (by decide); have EV := A_ hev; clear hev)
  | (refine BX_ 10 #[.string (⟨#[]⟩ : ByteArray), .string (⟨#[]⟩ : ByteArray)] 64 ?_; intro g10 hg w10 hbox hb; have m0_ := BF_ BK8 hb; have ne1_ := A_ ((by rw [hg]; exact Nat.ne_of_lt (blk_lt (g := g8) (o := .cells #[.string p8, .string q8] 64 (0, 0)) (B1_ BK8.out))) : g8 ≠ g10); have ne2_ := A_ (Ne.symm ne1_.out); clear BK8; have BK8 := m0_; have NB := ne1_; have NC := ne2_; clear m0_ ne1_ ne2_; have hnb := NB.out; have hnc := NC.out; have hc80 : w10.cell? ⟨g8, 0, none⟩ = some (.string p8) := (blk_cell BK8.out 0).trans rfl; have hc81 : w10.cell? ⟨g8, 1, none⟩ = some (.string q8) := (blk_cell BK8.out 1).trans rfl; have BK10 := A_ hbox; have GE10 := GE_ (w := w) hg; replace HB := BT_ hb; have ev_ := A_ (EV.out.below hb); clear EV; have EV := ev_; clear ev_; clear hb hbox hg; have hz100 : w10.cell? ⟨g10, 0, none⟩ = some (.string (⟨#[]⟩ : ByteArray)) := (blk_cell BK10.out 0).trans rfl; have hz101 : w10.cell? ⟨g10, 1, none⟩ = some (.string (⟨#[]⟩ : ByteArray)) := (blk_cell BK10.out 1).trans rfl; have hf100 := blk_frozen BK10.out 0; have hf101 := blk_frozen BK10.out 1)
  | (go_at_call 66; with_reducible refine (number_v _ 2 _ (HG0.out.below T6_) (EV.out.set BK10.out) (by decide)).mono ?_; rintro e w' ⟨rfl, hb⟩; replace HB := BT_ hb; clear hb)
  )
 go_ret2;exact ⟨rfl, HB.out⟩
theorem both_gen {aF aZ : Addr} (N : Nat) (fn : Func) (hfn : Tryz.prog.funcs[N]? = some fn) (hnm : (fn.name == "runtime.NumGoroutine") = false) (hbd : fn.body.isSome = true) (a b p8 q8 p10 q10 n d r : ByteArray) (c : Int) (w : World) (hG : GsAt aF aZ w)
    (hX : ∀ w, Calls Tryz.prog 65 #[.string a] w fun e w' => e = .returned (.tuple #[.agg #[.string p8, .string q8], .nilIface]) ∧ Below w.heap.size w w')
    (hY : ∀ w, Calls Tryz.prog 65 #[.string b] w fun e w' => e = .returned (.tuple #[.agg #[.string p10, .string q10], .nilIface]) ∧ Below w.heap.size w w')
    (hD : ∀ w, GsAt aF aZ w → Calls Tryz.prog N #[.agg #[.string p8, .string q8], .agg #[.string p10, .string q10]] w fun e w' => ∃ v, e = .returned (.tuple #[.agg #[.string n, .string d], v]) ∧ ErrV aF aZ w' v c ∧ Below w.heap.size w w')
    (h0 : c = 0 → rat_pair_text.f n d = some r) (h1 : c ≠ 0 → r = ⟨#[]⟩) :
    Calls Tryz.prog 46 #[.string a, .string b, (.func (.func N) #[] #[])] w fun e w' => e = .returned (.tuple #[.string r, .int .i64 c]) ∧ Below w.heap.size w w' := by
 have HG0 := A_ hG;have KX := A_ hX;have KY := A_ hY;have KD := A_ hD;have H0 := A_ h0;have H1 := A_ h1;clear hG hX hY hD h0 h1;have HB := A_ (Below.refl w.heap.size w);have eN := fun args w => enters_ hfn hnm hbd args w;go_enter Tryz.func46, Tryz.ntmps46
 go_wp2_with (first
  | (go_at_call 65; with_reducible refine (KX.out _).mono ?_; rintro e w' ⟨rfl, hb⟩; replace HB := BT_ hb; clear hb)
  | (refine BX_ 8 #[.string (⟨#[]⟩ : ByteArray), .string (⟨#[]⟩ : ByteArray)] 64 ?_; intro g8 hg w8 hbox hb; have BK8 := A_ hbox; have GE8 := GE_ (w := w) hg; replace HB := BT_ hb; clear hb hbox hg; have hz80 : w8.cell? ⟨g8, 0, none⟩ = some (.string (⟨#[]⟩ : ByteArray)) := (blk_cell BK8.out 0).trans rfl; have hz81 : w8.cell? ⟨g8, 1, none⟩ = some (.string (⟨#[]⟩ : ByteArray)) := (blk_cell BK8.out 1).trans rfl; have hf80 := blk_frozen BK8.out 0; have hf81 := blk_frozen BK8.out 1)
  | (go_at_call 65; with_reducible refine (KY.out _).mono ?_; rintro e w' ⟨rfl, hb⟩; have m0_ := A_ (blk_below (g := g8) (o := .cells #[.string p8, .string q8] 64 (0, 0)) (by (with_reducible repeat (first | refine blk_drewN ?_ _ | refine blk_drew ?_ | refine blk_alloc ?_ _)); refine blk_put (cs := #[.string p8, .string (⟨#[]⟩ : ByteArray)]) ?_ 1 _ rfl; (with_reducible repeat (first | refine blk_drewN ?_ _ | refine blk_drew ?_ | refine blk_alloc ?_ _)); refine blk_put (cs := #[.string (⟨#[]⟩ : ByteArray), .string (⟨#[]⟩ : ByteArray)]) ?_ 0 _ rfl; (with_reducible repeat (first | refine blk_drewN ?_ _ | refine blk_drew ?_ | refine blk_alloc ?_ _)); exact BK8.out) hb); have n1_ := BT_ hb; clear BK8 HB; have BK8 := m0_; have HB := n1_; clear m0_ n1_ hb; have hc80 : w'.cell? ⟨g8, 0, none⟩ = some (.string p8) := (blk_cell BK8.out 0).trans rfl; have hc81 : w'.cell? ⟨g8, 1, none⟩ = some (.string q8) := (blk_cell BK8.out 1).trans rfl)
  | (refine BX_ 10 #[.string (⟨#[]⟩ : ByteArray), .string (⟨#[]⟩ : ByteArray)] 64 ?_; intro g10 hg w10 hbox hb; have m0_ := BF_ BK8 hb; have ne1_ := A_ ((by rw [hg]; exact Nat.ne_of_lt (blk_lt (g := g8) (o := .cells #[.string p8, .string q8] 64 (0, 0)) (B1_ BK8.out))) : g8 ≠ g10); have ne2_ := A_ (Ne.symm ne1_.out); clear BK8; have BK8 := m0_; have NB := ne1_; have NC := ne2_; clear m0_ ne1_ ne2_; have hnb := NB.out; have hnc := NC.out; have hc80 : w10.cell? ⟨g8, 0, none⟩ = some (.string p8) := (blk_cell BK8.out 0).trans rfl; have hc81 : w10.cell? ⟨g8, 1, none⟩ = some (.string q8) := (blk_cell BK8.out 1).trans rfl; have BK10 := A_ hbox; have GE10 := GE_ (w := w) hg; replace HB := BT_ hb; clear hb hbox hg; have hz100 : w10.cell? ⟨g10, 0, none⟩ = some (.string (⟨#[]⟩ : ByteArray)) := (blk_cell BK10.out 0).trans rfl; have hz101 : w10.cell? ⟨g10, 1, none⟩ = some (.string (⟨#[]⟩ : ByteArray)) := (blk_cell BK10.out 1).trans rfl; have hf100 := blk_frozen BK10.out 0; have hf101 := blk_frozen BK10.out 1)
  | (go_at_fn N; with_reducible refine (KD.out _ (HG0.out.below T6_)).mono ?_; rintro e w' ⟨v, rfl, hev, hb⟩; have n1_ := BT_ hb; clear HB; have HB := n1_; have EV := A_ hev; clear n1_ hb hev)
  | (go_at_call 67; with_reducible refine (told_any n d r v c _ (HG0.out.below T6_) EV.out H0.out H1.out).mono ?_; rintro e w' ⟨rfl, hb⟩; replace HB := BT_ hb; clear hb))
 go_ret2;exact ⟨rfl, HB.out⟩
end Go.Proofs.YtmmonhgfnmeieaaGreatDoor.Err
