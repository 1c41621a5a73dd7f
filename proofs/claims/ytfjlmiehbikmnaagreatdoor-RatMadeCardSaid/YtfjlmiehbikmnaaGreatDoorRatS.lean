/- rat.lowest and rat.read, told by rationals. -/
import Derived.Test.YtfjlmiehbikmnaaGreatDoorRatQ
import Derived.Test.YtfjlmiehbikmnaaGreatDoorRatR
import Derived.Test.YtfjlmiehbikmnaaGreatDoorRatF
namespace Go.Proofs.YtfjlmiehbikmnaaGreatDoor.Err
open Go Go.RowKit Go.Extern.Stop Go.Stop Go.Extern Go.Proofs.YtfjlmiehbikmnaaGreatDoorW.PrintWords Go.Proofs.YtfjlmiehbikmnaaGreatDoor.PC Go.Proofs.YtfjlmiehbikmnaaGreatDoor.Th Go.Proofs.YtfjlmiehbikmnaaGreatDoor.Th.Wh
theorem ne48 {b : Int} (hb : b ≠ 0) : (zt b).toList ≠ ([48] : List UInt8) := by
  by_cases h : b < 0
  · rw [ByteArray.toList_eq, zt_minus h]
    intro e
    injection e with e
    exact absurd e (by decide)
  · rw [zt_plain h]
    intro e
    have := zero_toList.1 e
    omega
theorem lowest_rt (a b : Int) (hb : b ≠ 0) (ha : zs a ≤ 100000000000) (hb' : zs b ≤ 100000000000) (w : World) :
    Calls Tryz.prog 30 #[.string (zt a), .string (zt b)] w fun e w' => e = .returned (.tuple #[.agg #[.string (zt (Rat.divInt a b).num), .string (txt (Rat.divInt a b).den)], .nilIface]) ∧ Below w.heap.size w w' := by
  rw [← ln_divInt a b hb, ← ld_divInt a b hb]
  have hg : Nat.gcd a.natAbs b.natAbs ≠ 0 := by
    have := Nat.gcd_pos_of_pos_right a.natAbs (show 0 < b.natAbs by omega)
    omega
  have fa : Fit (txt a.natAbs) := fit_nat (Nat.le_trans ha (by decide))
  have fb : Fit (txt b.natAbs) := fit_nat (Nat.le_trans hb' (by decide))
  have hgs : (txt (Nat.gcd a.natAbs b.natAbs)).size ≤ 100000000000 := Nat.le_trans (ts_mono (Nat.gcd_le_right _ (by omega))) hb'
  have fg : Fit (txt (Nat.gcd a.natAbs b.natAbs)) := fit_nat (Nat.le_trans hgs (by decide))
  have h3 := nat_Gcd.txt fa fb
  have h4 := nat_Div.txt fa fg hg
  have h5 := nat_Div.txt fb fg hg
  have hq : (txt (a.natAbs / Nat.gcd a.natAbs b.natAbs)).size ≤ 100000000000 := Nat.le_trans (ts_mono (Nat.div_le_self _ _)) ha
  have h7 := whole_Neg.zt (x := ((a.natAbs / Nat.gcd a.natAbs b.natAbs : Nat) : Int)) (Nat.le_trans hq (by decide))
  rw [zt_nat] at h7
  have k7 : ∀ c : Bool, c = decide (lp a b < 0) → c = true → whole_Neg.f (txt (a.natAbs / Nat.gcd a.natAbs b.natAbs)) = some (zt (ln a b), 0) := by
    intro c hc e
    rw [hc, decide_eq_true_eq] at e
    rw [h7, ln, if_pos e]
  have k8 : ∀ c : Bool, c = decide (lp a b < 0) → c = false → zt (ln a b) = txt (a.natAbs / Nat.gcd a.natAbs b.natAbs) := by
    intro c hc e
    rw [hc, decide_eq_false_iff_not] at e
    rw [ln, if_neg e, zt_nat]
  by_cases h : b < 0
  · have hl : lp a b = -a := by unfold lp; rw [if_pos h]
    have h2 := size_zt (-a)
    rw [Int.natAbs_neg] at h2
    exact lowest_minus _ _ (zt (-a)) (txt b.natAbs) _ _ (txt a.natAbs) 0 w (ne48 hb) (whole_Neg.zt (Nat.le_trans ha (by decide))) (size_zt b) (decide (-a < 0)) (by rw [pre_zt, decide_eq_true h]) h2 _ h3 _ _ _ _ h4 h5 (pre_zt _) _ 0 (k7 _ (by rw [hl])) (k8 _ (by rw [hl]))
  · have hl : lp a b = a := by unfold lp; rw [if_neg h]
    have hbt : zt b = txt b.natAbs := zt_plain h
    rw [hbt]
    exact lowest_plain _ _ _ _ (txt a.natAbs) w (hbt ▸ ne48 hb) (decide (a < 0)) (by rw [← hbt, pre_zt, decide_eq_false h]) (size_zt a) _ h3 _ _ _ _ h4 h5 (pre_zt _) _ 0 (k7 _ (by rw [hl])) (k8 _ (by rw [hl]))
theorem one49 : (⟨#[49]⟩ : ByteArray) = txt 1 := (txt_small 1 (by decide)).symm
theorem toList49 {n : Nat} : (txt n).toList = ([49] : List UInt8) ↔ n = 1 := by
  rw [show ([49] : List UInt8) = (txt 1).toList by rw [← one49, ByteArray.toList_eq], toList_txt, toList_txt, digs_inj]
theorem text_rt (x : Rat) (h : qm x ≤ 1000000000000) : rat_pair_text.f (zt x.num) (txt x.den) = some (rt x) := by
  have h1 := (zs_le x.num).2
  have h2 := qm_num x
  have h3 := qm_den x
  rw [rat_pair_text.f]
  by_cases hd : x.den = 1
  · rw [if_pos (toList49.2 hd), rt_one hd]
  · have hs : (zt x.num ++ (⟨#[47]⟩ : ByteArray)).size = (zt x.num).size + 1 := by rw [ByteArray.size_append]; rfl
    rw [if_neg (fun e => hd (toList49.1 e)), if_pos (by omega), if_pos (by omega), rt_frac hd]
theorem drawn0_refl (w : World) : Drawn0 w w := ⟨⟨0, by simp [World.drewN]⟩⟩
theorem cut_miss (s : ByteArray) (h : (47 : UInt8) ∉ s.data.toList) (w : World) :
    Calls Tryz.prog 65 #[.string s, .string ⟨#[47]⟩] w fun e w' => e = .returned (.tuple #[.string s, .string ⟨#[]⟩, .bool false]) ∧ Drawn0 w w' := (cut_miss' s w (idx_none h)).mono fun _ _ ⟨h1, h2⟩ => ⟨h1, h2 ▸ drawn0_refl w⟩
theorem cut_hit (p q : ByteArray) (h : (47 : UInt8) ∉ p.data.toList) (hs : p.size + q.size ≤ 500000000000) (w : World) :
    Calls Tryz.prog 65 #[.string (p ++ (⟨#[47]⟩ : ByteArray) ++ q), .string ⟨#[47]⟩] w fun e w' => e = .returned (.tuple #[.string p, .string q, .bool true]) ∧ Drawn0 w w' := by
  have hz := size_frac p q
  have hl := list_frac p q
  have hi := idx_mid q.data.toList h
  rw [← hl, ← size_list'] at hi
  have := cut_hit' _ w _ hi (by omega) (by omega)
  have e1 : (p ++ (⟨#[47]⟩ : ByteArray) ++ q).extract 0 p.size = p := by
    apply ext_of
    rw [ex_list, hl, size_list', List.take_left, List.drop_zero]
  have e2 : (p ++ (⟨#[47]⟩ : ByteArray) ++ q).extract (p.size + 1) (p ++ (⟨#[47]⟩ : ByteArray) ++ q).size = q := by
    apply ext_of
    rw [ex_list, size_list' (p ++ (⟨#[47]⟩ : ByteArray) ++ q), List.take_length, hl, size_list', List.drop_append, List.drop_eq_nil_of_le (by omega), List.nil_append, show p.data.toList.length + 1 - p.data.toList.length = 1 by omega]
    rfl
  rw [e1, e2] at this
  exact this
theorem zt_one : zt 1 = txt 1 := zt_nat 1
/-- A right text is read. -/
theorem read_rt (x : Rat) (hx : qm x ≤ 100000000000) (w : World) :
    Calls Tryz.prog 45 #[.string (rt x)] w fun e w' => e = .returned (.tuple #[.agg #[.string (zt x.num), .string (txt x.den)], .nilIface]) ∧ Below w.heap.size w w' := by
  have h1 : whole_Right.f (zt x.num) = some true := by rw [whole_Right.of, right_zt]
  have ht := text_rt x (by omega)
  have hn := qm_num x
  have hd' := qm_den x
  have hz := (zs_le x.num).2
  by_cases hd : x.den = 1
  · have hs := rt_one hd
    have hl := fun w => lowest_rt x.num 1 (by decide) (Nat.le_trans hn hx) (Nat.le_trans (by decide +kernel : zs 1 ≤ 1) (by decide)) w
    have e1 : Rat.divInt x.num 1 = x := by have := self_divInt x; rw [hd] at this; exact this
    rw [e1, zt_one, ← one49] at hl
    rw [hs] at ht ⊢
    exact read_ok_miss _ _ _ _ _ w (cut_miss _ (no47_zt _)) h1 (by rw [one49, nat_Right.txt]) hl ht
  · have hs := rt_frac hd
    have hl := fun w => lowest_rt x.num x.den (by have := x.den_nz; omega) (Nat.le_trans hn hx) (Nat.le_trans (Nat.le_of_eq (zs_cast _)) (Nat.le_trans hd' hx)) w
    rw [self_divInt, zt_nat] at hl
    rw [hs] at ht ⊢
    exact read_ok_hit _ _ _ _ _ w (cut_hit _ _ (no47_zt _) (by omega)) h1 (nat_Right.txt _) (beq_eq_false_iff_ne.2 fun e => x.den_nz (zero_toList.1 e)) (beq_eq_false_iff_ne.2 fun e => hd (toList49.1 e)) hl ht
theorem nat_right_of (s : ByteArray) : nat_Right.f s = some (Str.right s) := by
  rw [nat_Right.f]
/-- Whatever else is refused. -/
theorem read_not {aF aZ : Addr} (s : ByteArray) (hs : rv s = none) (hz : s.size ≤ 40000000000) (w : World) (hG : GsAt aF aZ w) :
    Calls Tryz.prog 45 #[.string s] w fun e w' => ∃ v, e = .returned (.tuple #[.agg #[.string ⟨#[]⟩, .string ⟨#[]⟩], v]) ∧ ErrV aF aZ w' v 2 ∧ Below w.heap.size w w' := by
  have hno := rv_none hs
  rcases idx_cases s.data.toList with h | ⟨p, q, h, hp⟩
  · cases h1 : right s with
    | true =>
      obtain ⟨z, rfl⟩ := zt_of_right h1
      exact absurd (rt_one (x := (z : Rat)) rfl).symm (hno _)
    | false => exact read_no1_miss s s _ w hG (cut_miss s h) (by rw [whole_Right.of, h1])
  · have e : s = (⟨p.toArray⟩ : ByteArray) ++ (⟨#[47]⟩ : ByteArray) ++ (⟨q.toArray⟩ : ByteArray) := ext_of (by rw [list_frac, h])
    have hz' := size_frac (⟨p.toArray⟩ : ByteArray) (⟨q.toArray⟩ : ByteArray)
    rw [← e] at hz'
    have hc := cut_hit (⟨p.toArray⟩ : ByteArray) (⟨q.toArray⟩ : ByteArray) hp (by omega)
    rw [← e] at hc
    clear h hp hs
    generalize (⟨p.toArray⟩ : ByteArray) = p at *
    generalize (⟨q.toArray⟩ : ByteArray) = q at *
    cases h1 : right p with
    | false => exact read_no1_hit s p q w hG hc (by rw [whole_Right.of, h1])
    | true =>
      have h1' : whole_Right.f p = some true := by rw [whole_Right.of, h1]
      cases h2 : Str.right q with
      | false => exact read_no2_hit s p q w hG hc h1' (by rw [nat_right_of q, h2])
      | true =>
        have h2' : nat_Right.f q = some true := by rw [nat_right_of q, h2]
        cases h3 : (q.toList == ([48] : List UInt8)) with
        | true => exact read_no3_hit s p q w hG hc h1' h2' h3
        | false =>
          cases h4 : (q.toList == ([49] : List UInt8)) with
          | true => exact read_no5_hit s p q w hG hc h1' h2' h3 h4
          | false =>
            obtain ⟨a, rfl⟩ := zt_of_right h1
            obtain ⟨b, rfl⟩ := (Th.right_iff q).1 h2
            rw [beq_eq_false_iff_ne] at h3
            have hb : (b : Int) ≠ 0 := by
              intro e
              exact h3 (zero_toList.2 (by omega))
            have za := (zs_le a).1
            have hl := fun w => lowest_rt a b hb (by omega) (by rw [zs_cast]; omega) w
            have hq := qm_divInt a b (d := 40000000000) (by omega) (by rw [zs_cast]; omega)
            rw [zt_nat] at hl
            exact read_no4_hit s _ _ w hG hc h1' h2' (beq_eq_false_iff_ne.2 h3) h4 _ _ _ hl (text_rt _ (by omega)) (beq_eq_false_iff_ne.2 fun e => hno _ (toList_inj.1 e).symm)
end Go.Proofs.YtfjlmiehbikmnaaGreatDoor.Err
