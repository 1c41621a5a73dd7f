/- ref03.Read, told by rationals. -/
import Derived.Test.YtmmonhgfnmeieaaGreatDoorPSx
set_option linter.unusedSimpArgs false
-- mini
namespace Go.Proofs.YtmmonhgfnmeieaaGreatDoor.Err
open Go Go.RowKit Go.ZPWords Go.Proofs.YtmmonhgfnmeieaaGreatDoor.PS Go.Proofs.YtmmonhgfnmeieaaGreatDoor.Th Go.Proofs.YtmmonhgfnmeieaaGreatDoor.Th.Wh
theorem bt_ne {s : ByteArray} {p q : List UInt8} (h : s.data.toList = p ++ q) (hp : (47 : UInt8) ∉ p) (m : Nat) (hm : m < p.length) : ¬ bt s (m : Int) = 47 := by
  have e : s.data.toList = p.take m ++ p[m] :: (p.drop (m + 1) ++ q) := by
    rw [h];have := List.take_append_drop m p;rw [List.drop_eq_getElem_cons hm] at this;have e := congrArg (fun l => l ++ q) this.symm;refine e.trans ?_;rw [List.append_assoc, List.cons_append]
  have e2 := bt_mid e;rw [List.length_take, Nat.min_eq_left (by omega)] at e2;rw [e2];intro hc;have e3 : p[m] = 47 := UInt8.toNat.inj (by show p[m].toNat = 47; omega);exact hp (e3 ▸ List.getElem_mem hm)
theorem read_scan (s : ByteArray) (hs : s.size ≤ 40000000000) (a : Int) (v : ByteArray × ByteArray × Bool) (hE : Ev (fun k => rf3_Read.l0 k s a (-1)) v) :
    ∀ n : Nat, n ≤ s.size → (∀ m : Nat, m < n → ¬ bt s (m : Int) = 47) → Ev (fun k => rf3_Read.l0 k s a ((n : Int) - 1)) v := by
 intro n;induction n with
 | zero => intro _ _; exact hE
 | succ n ih =>
  intro h1 h2;have e : ((n + 1 : Nat) : Int) - 1 = (n : Int) := by omega
  rw [e];have g0 : (n : Int) ≥ 0 := by omega
  have g1 : (0 : Int) ≤ (n : Int) := by omega
  have g2 : (n : Int) < (s.size : Int) := by omega
  have g3 : Aside0 (wrap64 ((n : Int) - 1) = (n : Int) - 1) := ⟨w64 (by omega) (by omega)⟩;exact Ev.step (fun k => by rw [rf3_Read.l0, if_pos g0, if_pos g1, if_pos g2, if_neg (h2 n (by omega)), g3.out]) (ih (by omega) (fun m hm => h2 m (by omega)))
theorem read_scan2 (s : ByteArray) (hs : s.size ≤ 40000000000) (j : Nat) (hj : bt s (j : Int) = 47) (h2 : ∀ m : Nat, m < j → ¬ bt s (m : Int) = 47) (v : ByteArray × ByteArray × Bool) (hE : Ev (fun k => rf3_Read.l0 k s (j : Int) (-1)) v) :
    ∀ n : Nat, n ≤ s.size → j < n → ∀ a : Int, Ev (fun k => rf3_Read.l0 k s a ((n : Int) - 1)) v := by
 intro n;induction n with
 | zero => intro _ h; omega
 | succ n ih =>
  intro h1 h3 a;have e : ((n + 1 : Nat) : Int) - 1 = (n : Int) := by omega
  rw [e];have g0 : (n : Int) ≥ 0 := by omega
  have g1 : (0 : Int) ≤ (n : Int) := by omega
  have g2 : (n : Int) < (s.size : Int) := by omega
  have g3 : Aside0 (wrap64 ((n : Int) - 1) = (n : Int) - 1) := ⟨w64 (by omega) (by omega)⟩;by_cases hn : n = j
  · subst hn;exact Ev.step (fun k => by rw [rf3_Read.l0, if_pos g0, if_pos g1, if_pos g2, if_pos hj, g3.out]) (read_scan s hs _ v hE n (by omega) h2)
  by_cases hc : bt s (n : Int) = 47
  · exact Ev.step (fun k => by rw [rf3_Read.l0, if_pos g0, if_pos g1, if_pos g2, if_pos hc, g3.out]) (ih (by omega) (by omega) _)
  exact Ev.step (fun k => by rw [rf3_Read.l0, if_pos g0, if_pos g1, if_pos g2, if_neg hc, g3.out]) (ih (by omega) (by omega) _)
theorem ref01_right (q : ByteArray) (h : q.size ≤ 140737488351232) : rf1_Right.f q = some (Str.right q) := by rw [rf1_Right.f, if_pos h]
theorem frac_of {s : ByteArray} {P Q : List UInt8} (hl : s.data.toList = P ++ 47 :: Q) (hP : (47 : UInt8) ∉ P) {x : Rat} (hx : s = rt x) : x.den ≠ 1 ∧ P = (zt x.num).data.toList ∧ Q = (txt x.den).data.toList := by
 by_cases hd : x.den = 1
 · exfalso;rw [hx, rt_one hd] at hl;exact no47_zt x.num (by rw [hl]; simp)
 rw [hx, rt_frac hd, list_frac] at hl;have := mid_inj hl (no47_zt _) hP;exact ⟨hd, this.1.symm, this.2.symm⟩
theorem read3_ev (s : ByteArray) (h : s.size ≤ 40000000000) : ∃ p q b, Ev (fun k => rf3_Read.f k s) (p, q, b) ∧ ((b = true ∧ ∃ x, s = rt x ∧ p = zt x.num ∧ q = txt x.den) ∨ (b = false ∧ ∀ x, s ≠ rt x)) := by
 have hw : wrap64 ((s.size : Int) - 1) = (s.size : Int) - 1 := w64 (by omega) (by omega);have hf : ∀ v, Ev (fun k => rf3_Read.l0 k s (s.size : Int) ((s.size : Int) - 1)) v → Ev (fun k => rf3_Read.f k s) v := fun v e => Ev.congr (fun k => by rw [rf3_Read.f, hw]) e;have no : ∀ p q, Ev (fun k => rf3_Read.j2 k s p q true) ((⟨#[]⟩ : ByteArray), (⟨#[]⟩ : ByteArray), false) := fun p q => Ev.step (f := fun _ => some ((⟨#[]⟩ : ByteArray), (⟨#[]⟩ : ByteArray), false)) (fun k => by rw [rf3_Read.j2, if_pos rfl]) (Ev.now _);rcases idx_cases s.data.toList with h0 | ⟨P, Q, hl, hP⟩
 · have hex : s.extract 0 ((s.size : Int)).toNat = s := ext_of (by rw [Int.toNat_natCast, ex_list, size_list', List.take_length, List.drop_zero])
   have hj1 : ∀ v, Ev (fun k => rf3_Read.j1 k s (s.size : Int) s (⟨#[49]⟩ : ByteArray)) v → Ev (fun k => rf3_Read.f k s) v := fun v e =>
    hf v (read_scan s h _ v (Ev.step (fun k => by rw [rf3_Read.l0, if_neg (by omega), if_pos (by omega), if_pos (by omega), if_neg (by omega), hex]) e) s.size (Nat.le_refl _) (fun m hm => bt_ne (q := []) (by simp) h0 m (by rw [← size_list']; exact hm)))
   have r1 := rf2_Right.of (a := s) (by omega)
   cases hr : right s with
   | false =>
    rw [hr] at r1;refine ⟨_, _, _, hj1 _ (Ev.step (fun k => by rw [rf3_Read.j1, r1, Option.bind_some, if_neg (by simp)]) (no _ _)), Or.inr ⟨rfl, fun x hx => ?_⟩⟩;by_cases hd : x.den = 1
    · rw [hx, rt_one hd, right_zt] at hr
      cases hr
    rw [hx, rt_frac hd, list_frac] at h0;exact h0 (by simp)
   | true =>
    rw [hr] at r1;obtain ⟨z, rfl⟩ := zt_of_right hr;have r2 := ref01_right (⟨#[49]⟩ : ByteArray) (by decide);rw [one49, right_txt, ← one49] at r2;have hz := (zs_le z).1;have e1 := rLowest_zt z 1 (by decide) (by omega) (Nat.le_trans (by decide +kernel : zs 1 ≤ 1) (by decide));have e0 : Rat.divInt z 1 = (z : Rat) := self_divInt (z : Rat);rw [e0, zt_one, ← one49] at e1;have e2 := rf3_Text.rt (z : Rat) (qm_le_of (Nat.le_trans hz (by omega)) (Nat.le_trans (by decide +kernel : (txt 1).size ≤ 1) (by decide)));have e3 : rt (z : Rat) = zt z := rt_one rfl;have n48 : ¬ (⟨#[49]⟩ : ByteArray).toList = ([48] : List UInt8) := by rw [ByteArray.toList_eq]; decide
    refine ⟨_, _, _, hj1 _ (Ev.step (fun k => by rw [rf3_Read.j1, r1, Option.bind_some, if_pos rfl, r2, Option.bind_some, if_pos rfl, if_neg n48, if_neg (by omega)]) (Ev.step (f := fun _ => some (zt z, txt 1, true)) (fun k => ?_) (Ev.now _))), Or.inl ⟨rfl, (z : Rat), e3.symm, rfl, rfl⟩⟩;rw [rf3_Read.j2, if_neg (by simp), rf3_Lowest.f, e1, Option.bind_some];dsimp only;rw [e2, Option.bind_some, e3, beq_self_eq_true];rfl
 have hsz : s.size = P.length + (Q.length + 1) := by rw [size_list', hl]; simp
 have hbj : bt s (P.length : Int) = 47 := bt_mid hl;have hw2 : wrap64 ((P.length : Int) + 1) = (P.length : Int) + 1 := w64 (by omega) (by omega);have x1 : s.extract 0 ((P.length : Int)).toNat = (⟨P.toArray⟩ : ByteArray) := ext_of (by rw [Int.toNat_natCast, ex_list, hl, List.take_left, List.drop_zero]);have x2 : s.extract (((P.length : Int) + 1)).toNat s.size = (⟨Q.toArray⟩ : ByteArray) := ext_of (by rw [show ((P.length : Int) + 1).toNat = P.length + 1 by omega, ex_list, size_list' s, List.take_length, hl, List.drop_append, List.drop_eq_nil_of_le (by omega), List.nil_append, show P.length + 1 - P.length = 1 by omega]; rfl)
 have hj1 : ∀ v, Ev (fun k => rf3_Read.j1 k s (P.length : Int) (⟨P.toArray⟩ : ByteArray) (⟨Q.toArray⟩ : ByteArray)) v → Ev (fun k => rf3_Read.f k s) v := fun v e =>
  hf v (read_scan2 s h P.length hbj (fun m hm => bt_ne hl hP m hm) v (Ev.step (fun k => by rw [rf3_Read.l0, if_neg (by omega), if_pos (by omega), if_pos (by omega), if_pos (by omega), hw2, if_pos (by omega), if_pos (by omega), x1, x2]) e) s.size (Nat.le_refl _) (by omega) _)
 have sp : (⟨P.toArray⟩ : ByteArray).size = P.length := by rw [size_list']
 have sq : (⟨Q.toArray⟩ : ByteArray).size = Q.length := by rw [size_list']
 have r1 := rf2_Right.of (a := (⟨P.toArray⟩ : ByteArray)) (by omega);have r2 := ref01_right (⟨Q.toArray⟩ : ByteArray) (by omega)
 have fr_ : ∀ x, s = rt x → x.den ≠ 1 ∧ (⟨P.toArray⟩ : ByteArray) = zt x.num ∧ (⟨Q.toArray⟩ : ByteArray) = txt x.den := fun x hx => by
  obtain ⟨a, b, c⟩ := frac_of hl hP hx;exact ⟨a, ext_of b, ext_of c⟩
 cases hr : right (⟨P.toArray⟩ : ByteArray) with
 | false =>
  rw [hr] at r1;refine ⟨_, _, _, hj1 _ (Ev.step (fun k => by rw [rf3_Read.j1, r1, Option.bind_some, if_neg (by simp)]) (no _ _)), Or.inr ⟨rfl, fun x hx => ?_⟩⟩;rw [(fr_ x hx).2.1, right_zt] at hr
  cases hr
 | true =>
  rw [hr] at r1
  cases hr2 : Str.right (⟨Q.toArray⟩ : ByteArray) with
  | false =>
   rw [hr2] at r2;refine ⟨_, _, _, hj1 _ (Ev.step (fun k => by rw [rf3_Read.j1, r1, Option.bind_some, if_pos rfl, r2, Option.bind_some, if_neg (by simp)]) (no _ _)), Or.inr ⟨rfl, fun x hx => ?_⟩⟩;rw [(fr_ x hx).2.2, right_txt] at hr2
   cases hr2
  | true =>
   rw [hr2] at r2;obtain ⟨a, ha⟩ := zt_of_right hr;obtain ⟨b, hb⟩ := (Th.right_iff _).1 hr2;rw [ha] at r1 hj1 fr_ sp;rw [hb] at r2 hj1 fr_ sq;by_cases h48 : (txt b).toList = ([48] : List UInt8)
   · refine ⟨_, _, _, hj1 _ (Ev.step (fun k => by rw [rf3_Read.j1, r1, Option.bind_some, if_pos rfl, r2, Option.bind_some, if_pos rfl, if_pos h48]) (no _ _)), Or.inr ⟨rfl, fun x hx => ?_⟩⟩;have := txt_inj (fr_ x hx).2.2;exact x.den_nz (this ▸ zero_toList.1 h48)
   have hb0 : (b : Int) ≠ 0 := fun e => h48 (zero_toList.2 (by omega))
   cases h49 : ((txt b).toList == ([49] : List UInt8)) with
   | true =>
    refine ⟨_, _, _, hj1 _ (Ev.step (fun k => by rw [rf3_Read.j1, r1, Option.bind_some, if_pos rfl, r2, Option.bind_some, if_pos rfl, if_neg h48, if_pos (by omega), h49]) (no _ _)), Or.inr ⟨rfl, fun x hx => ?_⟩⟩;have := txt_inj (fr_ x hx).2.2;exact (fr_ x hx).1 (this ▸ toList49.1 (beq_iff_eq.1 h49))
   | false =>
    have za := (zs_le a).1;have e1 := rLowest_zt a b hb0 (by omega) (by rw [zs_cast]; omega);have hq := qm_divInt a b (d := 40000000000) (by omega) (by rw [zs_cast]; omega);have e2 := rf3_Text.rt (Rat.divInt a b) (by omega);rw [zt_nat] at e1;refine ⟨_, _, _, hj1 _ (Ev.step (fun k => by rw [rf3_Read.j1, r1, Option.bind_some, if_pos rfl, r2, Option.bind_some, if_pos rfl, if_neg h48, if_pos (by omega), h49]) (Ev.step (f := fun _ => some (zt (Rat.divInt a b).num, txt (Rat.divInt a b).den, ((rt (Rat.divInt a b)).toList == s.toList))) (fun k => ?_) (Ev.now _))), ?_⟩
    · rw [rf3_Read.j2, if_neg (by simp), rf3_Lowest.f, e1, Option.bind_some];dsimp only;rw [e2, Option.bind_some]
    cases ht : ((rt (Rat.divInt a b)).toList == s.toList) with
    | true => exact Or.inl ⟨rfl, _, (toList_inj.1 (beq_iff_eq.1 ht)).symm, rfl, rfl⟩
    | false =>
     refine Or.inr ⟨rfl, fun x hx => ?_⟩;have f := fr_ x hx;have e4 : a = x.num := zt_inj f.2.1;have e5 : b = x.den := txt_inj f.2.2;rw [e4, e5, self_divInt, ← hx, beq_self_eq_true] at ht
     cases ht
/-- What Read tells of a text. -/
noncomputable def r3Read (s : ByteArray) : ByteArray × ByteArray × Bool := by
  classical exact if h : s.size ≤ 40000000000 then ((read3_ev s h).choose, (read3_ev s h).choose_spec.choose, (read3_ev s h).choose_spec.choose_spec.choose) else (⟨#[]⟩, ⟨#[]⟩, false)
theorem r3Read_ev (s : ByteArray) (h : s.size ≤ 40000000000) : Ev (fun k => rf3_Read.f k s) (r3Read s) := by
  unfold r3Read;rw [dif_pos h];exact (read3_ev s h).choose_spec.choose_spec.choose_spec.1
theorem r3Read_rt (x : Rat) (h : (rt x).size ≤ 40000000000) : r3Read (rt x) = (zt x.num, txt x.den, true) := by
 have := (read3_ev (rt x) h).choose_spec.choose_spec.choose_spec.2;unfold r3Read;rw [dif_pos h];rcases this with ⟨hb, y, hy, hp, hq⟩ | ⟨_, hn⟩
 · have := rt_inj hy;subst this;exact Prod.ext hp (Prod.ext hq hb)
 exact absurd rfl (hn x)
theorem r3Read_no (s : ByteArray) (hs : rv s = none) : (r3Read s).2.2 = false := by
 unfold r3Read;split
 · rename_i h;rcases (read3_ev s h).choose_spec.choose_spec.choose_spec.2 with ⟨_, y, hy, _⟩ | ⟨hb, _⟩
   · exact absurd hy (rv_none hs y)
   exact hb
 rfl
end Go.Proofs.YtmmonhgfnmeieaaGreatDoor.Err
