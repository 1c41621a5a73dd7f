/- RatTexts: whatever the texts, the law answers true: what is told is a rational, in lowest terms: what stands ahead of its / and behind it make it again. No conditions beyond the row's own (what the listed variables hold is tied by the card). -/
import Derived.Test.YtfjlmiehbikmnaaDoorRB
import Derived.Test.YtfjlmiehbikmnaaDoorPQx8
set_option linter.unusedSimpArgs false
set_option linter.unusedVariables false
namespace Go.Proofs.YtfjlmiehbikmnaaDoor.Pure
open Go Go.RowKit Go.Proofs.YtfjlmiehbikmnaaDoor.PQ Go.Proofs.YtfjlmiehbikmnaaDoorW.PrintWords Go.Proofs.YtfjlmiehbikmnaaDoor.Th Go.Proofs.YtfjlmiehbikmnaaDoor.Th.Wh Go.Proofs.YtfjlmiehbikmnaaDoor.Err
theorem texts_scan (s : ByteArray) (n : Nat) (hn : s.size = n) (hb : n ≤ 1000) (a : Int) (hE : ∀ k, tapewrightlaw03_RatTexts.l0 (k + 1) s 0 a (n : Int) (n : Int) = some true) :
    ∀ (q p : List UInt8), s.data.toList = p ++ q → (47 : UInt8) ∉ q → Ev (fun k => tapewrightlaw03_RatTexts.l0 k s 0 a (n : Int) (p.length : Int)) true := by
  intro q
  induction q with
  | nil =>
    intro p h _
    rw [List.append_nil] at h
    have e : p.length = n := by rw [← h, ← size_list', hn]
    rw [e]
    exact Ev.step (f := fun _ => some true) hE (Ev.now _)
  | cons c q ih =>
    intro p h hc
    rw [List.mem_cons, not_or] at hc
    have hl : s.size = p.length + (q.length + 1) := by rw [size_list', h]; simp
    have h0 : (0 : Int) ≤ (p.length : Int) := by omega
    have h1 : (p.length : Int) < (n : Int) := by omega
    have h2 : (p.length : Int) < (s.size : Int) := by omega
    have h3 : Aside0 (wrap64 ((p.length : Int) + 1) = (p.length : Int) + 1) := ⟨w64 (by omega) (by omega)⟩
    have h4 : ¬ (c.toNat : Int) = 47 := by
      intro e
      exact hc.1 (UInt8.toNat.inj (by show (47 : Nat) = c.toNat; omega))
    have hi := ih (p ++ [c]) (by simpa using h) hc.2
    refine Ev.step (fun k => by rw [tapewrightlaw03_RatTexts.l0, if_pos h1, if_pos h0, if_pos h2, bt_mid h, if_neg h4, h3.out]) ?_
    simpa using hi
theorem texts_scan1 (s : ByteArray) (n : Nat) (hn : s.size = n) (hb : n ≤ 1000) (Q : List UInt8) (hQ : (47 : UInt8) ∉ Q) (j : Nat) (hE : ∀ k, tapewrightlaw03_RatTexts.l0 (k + 1) s 0 (j : Int) (n : Int) (n : Int) = some true) (a : Int) :
    ∀ (q p : List UInt8), s.data.toList = p ++ (q ++ 47 :: Q) → (47 : UInt8) ∉ q → (p ++ q).length = j → Ev (fun k => tapewrightlaw03_RatTexts.l0 k s 0 a (n : Int) (p.length : Int)) true := by
  intro q
  induction q with
  | nil =>
    intro p h _ hj
    rw [List.nil_append] at h
    rw [List.append_nil] at hj
    subst hj
    have hl : s.size = p.length + (Q.length + 1) := by rw [size_list', h]; simp
    have h0 : (0 : Int) ≤ (p.length : Int) := by omega
    have h1 : (p.length : Int) < (n : Int) := by omega
    have h2 : (p.length : Int) < (s.size : Int) := by omega
    have h3 : Aside0 (wrap64 ((p.length : Int) + 1) = (p.length : Int) + 1) := ⟨w64 (by omega) (by omega)⟩
    have hi := texts_scan s n hn hb _ hE Q (p ++ [47]) (by simpa using h) hQ
    refine Ev.step (fun k => by rw [tapewrightlaw03_RatTexts.l0, if_pos h1, if_pos h0, if_pos h2, bt_mid h, if_pos (by decide), h3.out]) ?_
    simpa using hi
  | cons c q ih =>
    intro p h hc hj
    rw [List.mem_cons, not_or] at hc
    have hl : s.size = p.length + (q.length + 1 + (Q.length + 1)) := by rw [size_list', h]; simp; omega
    have h0 : (0 : Int) ≤ (p.length : Int) := by omega
    have h1 : (p.length : Int) < (n : Int) := by omega
    have h2 : (p.length : Int) < (s.size : Int) := by omega
    have h3 : Aside0 (wrap64 ((p.length : Int) + 1) = (p.length : Int) + 1) := ⟨w64 (by omega) (by omega)⟩
    have h4 : ¬ (c.toNat : Int) = 47 := by
      intro e
      exact hc.1 (UInt8.toNat.inj (by show (47 : Nat) = c.toNat; omega))
    have hi := ih (p ++ [c]) (by simpa using h) hc.2 (by simpa using hj)
    refine Ev.step (fun k => by rw [tapewrightlaw03_RatTexts.l0, if_pos h1, if_pos h0, if_pos h2, bt_mid (p := p) (q := q ++ 47 :: Q) (by simpa using h), if_neg h4, h3.out]) ?_
    simpa using hi
theorem make_rt (z : Rat) (h : qm z ≤ 1000) : rat_Make.f (zt z.num) (txt z.den) = some (rt z, 0) := by
  have h1 := qm_num z
  have h2 := (zs_le z.num).2
  have h3 := qm_den z
  rw [rat_Make.of _ _ (by omega) (by omega), ← zt_nat, rMake, zv_zt, zv_zt]
  dsimp only
  rw [if_neg (by have := z.den_nz; omega), self_divInt]
theorem texts_ev (z : Rat) (hz : qm z ≤ 400) : Ev (fun k => tapewrightlaw03_RatTexts.l0 k (rt z) 0 ((rt z).size : Int) ((rt z).size : Int) 0) true := by
  have hs := size_rt z
  have e9 := rat_Right.of (rt z) (by omega)
  rw [rRight_rt] at e9
  have em := make_rt z (by omega)
  by_cases hd : z.den = 1
  · have hE : ∀ k, tapewrightlaw03_RatTexts.l0 (k + 1) (rt z) 0 ((rt z).size : Int) ((rt z).size : Int) ((rt z).size : Int) = some true := by
      intro k
      have ex : (rt z).extract 0 (((rt z).size : Int)).toNat = zt z.num := by
        rw [Int.toNat_natCast, rt_one hd]
        exact ext_of (by rw [ex_list, size_list', List.take_length, List.drop_zero])
      rw [hd, ← one49] at em
      rw [tapewrightlaw03_RatTexts.l0, if_neg (by omega), if_neg (by omega), if_pos (by omega), if_pos (by omega), ex, em, Option.bind_some]
      dsimp only
      rw [if_pos rfl, e9, Option.bind_some, if_pos rfl, if_pos rfl, if_pos rfl, awake_true]
      rfl
    exact texts_scan (rt z) _ rfl (by omega) _ hE (rt z).data.toList [] rfl (by rw [rt_one hd]; exact no47_zt _)
  · have hl := list_frac (zt z.num) (txt z.den)
    rw [← rt_frac hd] at hl
    have hsz : (rt z).size = (zt z.num).size + (txt z.den).size + 1 := by rw [rt_frac hd, size_frac]
    have hE : ∀ k, tapewrightlaw03_RatTexts.l0 (k + 1) (rt z) 0 ((zt z.num).size : Int) ((rt z).size : Int) ((rt z).size : Int) = some true := by
      intro k
      have ex : (rt z).extract 0 (((zt z.num).size : Int)).toNat = zt z.num := by
        rw [Int.toNat_natCast]
        exact ext_of (by rw [ex_list, hl, size_list', List.take_left, List.drop_zero])
      have hw : wrap64 (((zt z.num).size : Int) + 1) = ((zt z.num).size : Int) + 1 := w64 (by omega) (by omega)
      have ex2 : (rt z).extract (((zt z.num).size : Int) + 1).toNat (rt z).size = txt z.den := by
        rw [show (((zt z.num).size : Int) + 1).toNat = (zt z.num).size + 1 by omega]
        exact ext_of (by rw [ex_list, size_list' (rt z), List.take_length, hl, size_list', List.drop_append, List.drop_eq_nil_of_le (by omega), List.nil_append, show (zt z.num).data.toList.length + 1 - (zt z.num).data.toList.length = 1 by omega]; rfl)
      rw [tapewrightlaw03_RatTexts.l0, if_neg (by omega), if_pos (by omega), hw, if_pos (by omega), if_pos (by omega), if_pos (by omega), if_pos (by omega), ex, ex2, em, Option.bind_some]
      dsimp only
      rw [if_pos rfl, e9, Option.bind_some, if_pos rfl, if_pos rfl, if_pos rfl, awake_true]
      rfl
    exact texts_scan1 (rt z) _ rfl (by omega) _ (no47_txt _) _ hE _ (zt z.num).data.toList [] hl (no47_zt _) (by rw [List.nil_append, size_list'])
theorem RatTexts : tapewrightlaw03_RatTexts.Pure := by
  intro a b s0 s1
  apply Ev.rounds
  refine Ev.bind (short_ev [a, b] (by simp)) ?_
  by_cases g : ¬ ([a, b].all ok) = true
  · exact Ev.congr (fun k => by rw [if_neg g, awake_true]; rfl) (Ev.now _)
  replace g := Decidable.not_not.1 g
  refine Ev.congr (fun k => by rw [if_pos g]) ?_
  simp only [List.all_cons, List.all_nil, Bool.and_true, Bool.and_eq_true] at g
  obtain ⟨g0, g1⟩ := g
  obtain ⟨x, rfl, f0⟩ := ok_rt g0
  obtain ⟨y, rfl, f1⟩ := ok_rt g1
  clear g0 g1
  have e1 := rat_Add.rt (fr f0) (fr f1)
  refine Ev.congr (fun k => by rw [e1, Option.bind_some]) ?_
  have hq := qa f0 f1
  exact texts_ev (x + y) (by omega)
end Go.Proofs.YtfjlmiehbikmnaaDoor.Pure
