/- rat.Make, told by rationals. -/
import Derived.Test.YtfjlmiehbikmnaaGreatDoorRatU2
namespace Go.Proofs.YtfjlmiehbikmnaaGreatDoor.Err
open Go Go.RowKit Go.Extern.Stop Go.Stop Go.Extern Go.Proofs.YtfjlmiehbikmnaaGreatDoorW.PrintWords Go.Proofs.YtfjlmiehbikmnaaGreatDoorW.PrintMore Go.Proofs.YtfjlmiehbikmnaaGreatDoorW.PrintLast Go.Proofs.YtfjlmiehbikmnaaGreatDoor.PC Go.Proofs.YtfjlmiehbikmnaaGreatDoor.Th Go.Proofs.YtfjlmiehbikmnaaGreatDoor.Th.Wh
set_option maxHeartbeats 4000000
set_option maxRecDepth 1000000
theorem make_no1 (p q : ByteArray) (w : World) (h1 : whole_Right.f p = some false) :
    Calls Tryz.prog 8 #[.string p, .string q] w fun e w' => e = .returned (.tuple #[.string ⟨#[]⟩, .int .i64 2]) ∧ Below w.heap.size w w' := by
  have K1 := Aside0.mk h1
  clear h1
  have HB := Aside0.mk (Below.refl w.heap.size w)
  go_enter Tryz.func8, Tryz.ntmps8
  go_wp2_with (first
      | (go_at_call 28; with_reducible refine (whole_Right.calls p false _ K1.out).mono ?_; rintro e w' ⟨rfl, hb⟩; replace HB := Aside0.mk (below_step T6_ hb); clear hb))
  go_ret2
  exact ⟨rfl, HB.out⟩
theorem make_no2 (p q : ByteArray) (w : World) (h1 : whole_Right.f p = some true) (h2 : whole_Right.f q = some false) :
    Calls Tryz.prog 8 #[.string p, .string q] w fun e w' => e = .returned (.tuple #[.string ⟨#[]⟩, .int .i64 2]) ∧ Below w.heap.size w w' := by
  have K1 := Aside0.mk h1
  have K2 := Aside0.mk h2
  clear h1 h2
  have HB := Aside0.mk (Below.refl w.heap.size w)
  go_enter Tryz.func8, Tryz.ntmps8
  go_wp2_with (first
      | (go_at_call 28; with_reducible refine (whole_Right.calls p true _ K1.out).mono ?_; rintro e w' ⟨rfl, hb⟩; replace HB := Aside0.mk (below_step T6_ hb); clear hb)
      | (go_at_call 28; with_reducible refine (whole_Right.calls q false _ K2.out).mono ?_; rintro e w' ⟨rfl, hb⟩; replace HB := Aside0.mk (below_step T6_ hb); clear hb))
  go_ret2
  exact ⟨rfl, HB.out⟩
theorem make_ok {aF aZ : Addr} (p q n d r : ByteArray) (c : Int) (w : World) (hG : GsAt aF aZ w) (h1 : whole_Right.f p = some true) (h2 : whole_Right.f q = some true)
    (hL : ∀ w, GsAt aF aZ w → Calls Tryz.prog 30 #[.string p, .string q] w fun e w' => ∃ v, e = .returned (.tuple #[.agg #[.string n, .string d], v]) ∧ ErrV aF aZ w' v c ∧ Below w.heap.size w w')
    (h3 : c = 0 → rat_pair_text.f n d = some r) (h4 : c ≠ 0 → r = ⟨#[]⟩) :
    Calls Tryz.prog 8 #[.string p, .string q] w fun e w' => e = .returned (.tuple #[.string r, .int .i64 c]) ∧ Below w.heap.size w w' := by
  have K1 := Aside0.mk h1
  have K2 := Aside0.mk h2
  have KL := Aside0.mk hL
  have HG0 := Aside0.mk hG
  have K3 := Aside0.mk h3
  have K4 := Aside0.mk h4
  clear h1 h2 hL hG h3 h4
  have HB := Aside0.mk (Below.refl w.heap.size w)
  go_enter Tryz.func8, Tryz.ntmps8
  go_wp2_with (first
      | (go_at_call 28; with_reducible refine (whole_Right.calls p true _ K1.out).mono ?_; rintro e w' ⟨rfl, hb⟩; replace HB := Aside0.mk (below_step T6_ hb); clear hb)
      | (go_at_call 28; with_reducible refine (whole_Right.calls q true _ K2.out).mono ?_; rintro e w' ⟨rfl, hb⟩; replace HB := Aside0.mk (below_step T6_ hb); clear hb)
      | (go_at_call 30; with_reducible refine (KL.out _ (HG0.out.below T6_)).mono ?_; rintro e w' ⟨v, rfl, hev, hb⟩; have n1_ := Aside0.mk (below_step T6_ hb); clear HB; have HB := n1_; have EV := Aside0.mk hev; clear n1_ hb hev)
      | (go_at_call 29; with_reducible refine (told_any n d r v c _ (HG0.out.below T6_) EV.out K3.out K4.out).mono ?_; rintro e w' ⟨rfl, hb⟩; replace HB := Aside0.mk (below_step T6_ hb); clear hb))
  go_ret2
  exact ⟨rfl, HB.out⟩
noncomputable def rMake (p q : ByteArray) : ByteArray × Int := match zv p, zv q with | some a, some b => if b = 0 then (⟨#[]⟩, 3) else (rt (Rat.divInt a b), 0) | _, _ => (⟨#[]⟩, 2)
theorem make_calls (p q : ByteArray) (hp : p.size ≤ 40000000000) (hq : q.size ≤ 40000000000) (w : World) (hG : Gs w) :
    Calls Tryz.prog 8 #[.string p, .string q] w fun e w' => e = .returned (.tuple #[.string (rMake p q).1, .int .i64 (rMake p q).2]) ∧ Below w.heap.size w w' := by
  obtain ⟨aF, aZ, hG⟩ := hG
  rcases zv_cases p with ⟨h, k⟩ | ⟨a, ha, h⟩
  · rw [rMake, h]
    exact make_no1 p q w (by rw [whole_Right.of, k])
  rcases zv_cases q with ⟨h', k⟩ | ⟨b, hb, h'⟩
  · rw [rMake, h, h']
    subst ha
    exact make_no2 _ q w (by rw [whole_Right.of, right_zt]) (by rw [whole_Right.of, k])
  · rw [rMake, h, h']
    subst ha hb
    have za := (zs_le a).1
    have zb := (zs_le b).1
    have k1 : whole_Right.f (zt a) = some true := by rw [whole_Right.of, right_zt]
    have k2 : whole_Right.f (zt b) = some true := by rw [whole_Right.of, right_zt]
    dsimp only
    by_cases h0 : b = 0
    · subst h0
      rw [if_pos rfl]
      have e0 : zt 0 = (⟨#[48]⟩ : ByteArray) := (zt_nat 0).trans (txt_small 0 (by decide))
      exact make_ok (zt a) (zt 0) _ _ _ 3 w hG k1 k2 (by rw [e0]; exact fun w hG => lowest_zero _ w hG (by omega)) (fun h => absurd h (by decide)) (fun _ => rfl)
    · rw [if_neg h0]
      have hm := qm_divInt a b (d := 40000000000) (by omega) (by omega)
      exact make_ok _ _ _ _ _ 0 w hG k1 k2 (fun w _ => lowest_ok a b h0 (by omega) (by omega) w) (fun _ => text_rt _ (by omega)) (fun h => absurd rfl h)
end Go.Proofs.YtfjlmiehbikmnaaGreatDoor.Err
