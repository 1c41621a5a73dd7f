/- KinkTwo: the plain law. -/
import Derived.Test.YtndkjpkgllmbnaaGreatDoorPQTx
-- mini
namespace Go.Proofs.YtndkjpkgllmbnaaGreatDoor.Pure
open Go Go.RowKit Go.ZPWords Go.Proofs.YtndkjpkgllmbnaaGreatDoor.PQT Go.Proofs.YtndkjpkgllmbnaaGreatDoor.Err Go.Proofs.YtndkjpkgllmbnaaGreatDoor.Th Go.Proofs.YtndkjpkgllmbnaaGreatDoor.Ten
set_option linter.unusedVariables false
def rs (x : Rat) : S61 := ⟨Th.Wh.zt x.num, txt x.den⟩
theorem rd_rs (p q : List Rat) (x : Rat) : rd_T61 ((p ++ x :: q).map rs) (p.length : Int) = rs x := by
  unfold rd_T61
  simp [List.getD]
theorem of_l0 (s : List Int) (l : List Rat) (hl : l.length ≤ 1000000) (hb : ∀ x ∈ l, qm x ≤ 100000000000) : ∀ q p : List Rat, p ++ q = l → Ev (fun k => rf5_Of.l0 k (l.map rs) (p.length : Int) s (tx p)) (s, tx l)
  | [], p, h => by
    rw [List.append_nil] at h;subst h;exact Ev.step (f := fun _ => some (s, tx p)) (fun k => by rw [rf5_Of.l0, if_neg (by rw [List.length_map]; omega)]) (Ev.now _)
  | x :: q, p, h => by
    have hn : p.length + q.length + 1 = l.length := by rw [← h]; simp; omega
    have h1 : (p.length : Int) < ((l.map rs).length : Int) := by rw [List.length_map]; omega
    have h2 : (0 : Int) ≤ (p.length : Int) := by omega
    have h3 : (tx p).length < 8796093022208 := by rw [tx_len]; omega
    have hr : rd_T61 (l.map rs) (p.length : Int) = rs x := by rw [← h, rd_rs]
    have ih := of_l0 s l hl hb q (p ++ [x]) (by rw [← h]; simp);have hw : Aside0 (wrap64 ((p.length : Int) + 1) = ((p ++ [x]).length : Int)) := ⟨by rw [w64 (by omega) (by omega)]; simp⟩;have ht : rf3_Text.f (rs x).f0 (rs x).f1 = some (rt x) := rf3_Text.rt x (hb x (by rw [← h]; simp))
    have ha : tx p ++ [rt x] = tx (p ++ [x]) := by simp [tx]
    exact Ev.step (fun k => by rw [rf5_Of.l0, if_pos h1, if_pos h2, hr, ht, Option.bind_some, if_pos h3, ha, hw.out]) ih
theorem of_ev (s : List Int) (l : List Rat) (hl : l.length ≤ 1000000) (hb : ∀ x ∈ l, qm x ≤ 100000000000) : Ev (fun k => rf5_Of.f k s (l.map rs)) (s, tx l) :=
  Ev.congr (fun k => by rw [rf5_Of.f]; rfl) (of_l0 s l hl hb l [] rfl)
theorem at_rt (s : List Int) (p q : List Rat) (x : Rat) (hx : qm x ≤ 1000000000) : rf5_At.f s (tx (p ++ x :: q)) (p.length : Int) = some (Th.Wh.zt x.num, txt x.den) := by
  have e : tx (p ++ x :: q) = tx p ++ rt x :: tx q := by simp [tx]
  have hr : rdOf ByteArray.empty (tx (p ++ x :: q)) (p.length : Int) = rt x := by
    have h := rdOf_mid (tx p) (tx q) (rt x);rw [tx_len] at h;rw [e, h]
  have h1 : (p.length : Int) < ((tx (p ++ x :: q)).length : Int) := by rw [tx_len]; simp; omega
  have hs := size_rt x;rw [rf5_At.f, if_pos (by omega), if_pos h1, hr, rf3_Read.rt x (by omega), Option.bind_some]
theorem awake : lw7_awake.f = some true := rfl
theorem eq_step {F : Nat → Option Bool} {s : List Int} {d : List ByteArray} {v : Bool} (hl : s.length ≤ 1000000 ∧ d.length ≤ 1000000) (h : Ev F v) : Ev (fun k => (rf5_Equal.f s d s d).bind fun t => if t = true then F k else some false) v :=
  Ev.congr (fun k => by rw [rf5_Equal.of _ _ _ _ hl, Option.bind_some, decide_eq_true ⟨rfl, rfl⟩, if_pos rfl]) h
theorem lit_0 : (⟨#[48]⟩ : ByteArray) = Th.Wh.zt (0 : Rat).num := by decide +kernel
theorem lit_1 : (⟨#[49]⟩ : ByteArray) = Th.Wh.zt (1 : Rat).num := by decide +kernel
theorem lit_d0 : (⟨#[49]⟩ : ByteArray) = txt (0 : Rat).den := by decide +kernel
theorem lit_d1 : (⟨#[49]⟩ : ByteArray) = txt (1 : Rat).den := by decide +kernel
theorem rs0 : (⟨(⟨#[48]⟩ : ByteArray), (⟨#[49]⟩ : ByteArray)⟩ : S61) = rs 0 := by rw [rs, ← lit_0, ← lit_d0]
theorem rs1 : (⟨(⟨#[49]⟩ : ByteArray), (⟨#[49]⟩ : ByteArray)⟩ : S61) = rs 1 := by rw [rs, ← lit_1, ← lit_d1]
theorem less_rt (x y : Rat) (hx : qm x ≤ 40) (hy : qm y ≤ 40) : rf7_Less.f (Th.Wh.zt x.num) (txt x.den) (Th.Wh.zt y.num) (txt y.den) = some (decide (x < y)) := by
  have hn : qm (-y) ≤ 40 := by rw [qm_neg]; exact hy
  rw [rf7_Less.f, rf3_Neg.rt (fr hy), Option.bind_some];dsimp only;rw [rf3_Add.rt (fr hx) (fr hn), Option.bind_some];dsimp only;rw [rf2_Sign.zt, Option.bind_some]
  congr 1
  rw [decide_eq_decide]
  rcases rs_cases (x + -y) with ⟨h, e⟩ | ⟨h, e⟩ | ⟨h, e⟩ <;> rw [e]
  · exact ⟨fun _ => by grind, fun _ => by decide⟩
  · exact ⟨fun c => absurd c (by decide), fun c => by grind⟩
  · exact ⟨fun c => absurd c (by decide), fun c => by grind⟩
def Stp (op : ByteArray) (f : Rat → Rat → Rat) : Prop := ∀ (x y : Rat) (t : Bool) (k : Nat) (acc : List S61) (j : Int) (s : List Int) (d : List ByteArray) (s2 : List Int) (d2 : List ByteArray), t = decide (x < y) →
    (if op.toList = ([97, 98, 111, 118, 101] : List UInt8) then (if t = true then (if acc.length < 4398046511104 then rf7_Two.l0 k op (acc ++ [(⟨(⟨#[48]⟩ : ByteArray), (⟨#[49]⟩ : ByteArray)⟩ : S61)]) j s d s2 d2 else none) else (if acc.length < 4398046511104 then rf7_Two.l0 k op (acc ++ [(⟨(⟨#[49]⟩ : ByteArray), (⟨#[49]⟩ : ByteArray)⟩ : S61)]) j s d s2 d2 else none)) else (if t = true then (if acc.length < 4398046511104 then rf7_Two.l0 k op (acc ++ [(⟨Th.Wh.zt y.num, txt y.den⟩ : S61)]) j s d s2 d2 else none) else (if acc.length < 4398046511104 then rf7_Two.l0 k op (acc ++ [(⟨Th.Wh.zt x.num, txt x.den⟩ : S61)]) j s d s2 d2 else none))) = if acc.length < 4398046511104 then rf7_Two.l0 k op (acc ++ [rs (f x y)]) j s d s2 d2 else none
theorem stp_max : Stp ⟨#[109, 97, 120]⟩ qMax := fun x y t k acc j s d s2 d2 ht => by
  rw [if_neg (by decide +kernel)]
  by_cases h : x < y
  · rw [ht, decide_eq_true h, if_pos rfl, show qMax x y = y from by unfold qMax; grind]; rfl
  · rw [ht, decide_eq_false h, if_neg (by decide), show qMax x y = x from by unfold qMax; grind]; rfl
theorem stp_above : Stp ⟨#[97, 98, 111, 118, 101]⟩ qAbove := fun x y t k acc j s d s2 d2 ht => by
  rw [if_pos (by decide +kernel)]
  by_cases h : x < y
  · rw [ht, decide_eq_true h, if_pos rfl, show qAbove x y = 0 from by unfold qAbove; grind, rs0]
  · rw [ht, decide_eq_false h, if_neg (by decide), show qAbove x y = 1 from by unfold qAbove; grind, rs1]
theorem two_l0 (op : ByteArray) (f : Rat → Rat → Rat) (hst : Stp op f) (s s2 : List Int) (l m : List Rat) (hlm : l.length = m.length) (hl : l.length ≤ 64) (hb : ∀ x ∈ l, qm x ≤ 40) (hb' : ∀ x ∈ m, qm x ≤ 40) (hf : ∀ x ∈ List.zipWith f l m, qm x ≤ 100000000000) :
    ∀ q q' p p' : List Rat, p ++ q = l → p' ++ q' = m → p.length = p'.length → Ev (fun k => rf7_Two.l0 k op ((List.zipWith f p p').map rs) (p.length : Int) s (tx l) s2 (tx m)) (s, tx (List.zipWith f l m))
  | [], [], p, p', h, h', hp => by
    rw [List.append_nil] at h h';subst h h';have ho := of_ev s (List.zipWith f p p') (by rw [List.length_zipWith]; omega) hf;exact Ev.step (f := fun k => (rf5_Of.f k s ((List.zipWith f p p').map rs)).bind fun b => some (b.1, b.2)) (fun k => by rw [rf7_Two.l0, if_neg (by rw [tx_len]; omega)]) (Ev.bind ho (Ev.now _))
  | [], y :: q', p, p', h, h', hp => by rw [← h, ← h'] at hlm; simp at hlm; omega
  | x :: q, [], p, p', h, h', hp => by rw [← h, ← h'] at hlm; simp at hlm; omega
  | x :: q, y :: q', p, p', h, h', hp => by
    have hn : p.length + q.length + 1 = l.length := by rw [← h]; simp; omega
    have h1 : (p.length : Int) < ((tx l).length : Int) := by rw [tx_len]; omega
    have hx : qm x ≤ 40 := hb x (by rw [← h]; simp);have hy : qm y ≤ 40 := hb' y (by rw [← h']; simp);have a1 := at_rt s p q x (Nat.le_trans hx (by decide));have a2 := at_rt s2 p' q' y (Nat.le_trans hy (by decide));rw [h] at a1;rw [h', ← hp] at a2
    have hq : ((List.zipWith f p p').map rs).length < 4398046511104 := by rw [List.length_map, List.length_zipWith]; omega
    have ha : (List.zipWith f p p').map rs ++ [rs (f x y)] = (List.zipWith f (p ++ [x]) (p' ++ [y])).map rs := by rw [List.zipWith_append hp, List.map_append]; rfl
    have ih := two_l0 op f hst s s2 l m hlm hl hb hb' hf q q' (p ++ [x]) (p' ++ [y]) (by rw [← h]; simp) (by rw [← h']; simp) (by simp [hp]);have hw : Aside0 (wrap64 ((p.length : Int) + 1) = ((p ++ [x]).length : Int)) := ⟨by rw [w64 (by omega) (by omega)]; simp⟩;refine Ev.step (fun k => ?_) ih;rw [rf7_Two.l0, if_pos h1, a1, Option.bind_some, a2, Option.bind_some];dsimp only;rw [less_rt x y hx hy, Option.bind_some];refine (hst x y _ k _ _ _ _ _ _ rfl).trans ?_;rw [if_pos hq, ha, hw.out]
theorem two_ev (op : ByteArray) (f : Rat → Rat → Rat) (hst : Stp op f) {s : List Int} {l m : List Rat} {N : Nat} (h : Ok s l 40) (h' : Ok s m 40) (o3 : Ok s (List.zipWith f l m) N) (hN : N ≤ 1000) : Ev (fun k => rf7_Two.f k op s (tx l) s (tx m)) (s, tx (List.zipWith f l m)) :=
  Ev.congr (fun k => by rw [rf7_Two.f]; rfl) (two_l0 op f hst s s l m (len_eq h h') h.le64.1 h.bd h'.bd (fun x hx => Nat.le_trans (o3.bd x hx) (Nat.le_trans hN (by decide))) l m [] [] rfl rfl rfl)
theorem KinkTwo (s : List Int) (d : List ByteArray) (s2 : List Int) (d2 : List ByteArray) : ∃ k, lw7_KinkTwo.f k s d s2 d2 = some true := by
  have hz : ∀ n, lw7_KinkTwo.j0 (n + 1) true s d s2 d2 = some true := fun n => by rw [lw7_KinkTwo.j0, if_pos rfl, awake]; rfl
  by_cases h1 : small ⟨s, d⟩ = true
  case neg => exact ⟨0 + 1, by rw [lw7_KinkTwo.f, rf5_Small.f, Option.bind_some, if_neg h1]; exact hz 0⟩
  by_cases h2 : small ⟨s2, d2⟩ = true
  case neg =>
    rw [Bool.not_eq_true] at h2;exact ⟨0 + 1, by rw [lw7_KinkTwo.f, rf5_Small.f, rf5_Small.f, Option.bind_some, if_pos h1, Option.bind_some, h2]; exact hz 0⟩
  have m1 := (small_parts h1).1;have m2 := (small_parts h2).1
  have go : ∀ n, lw7_KinkTwo.f (n + 1) s d s2 d2 = lw7_KinkTwo.j1 n (tBoth pMax ⟨s, d⟩ ⟨s2, d2⟩).2 (tBoth pAbove ⟨s, d⟩ ⟨s2, d2⟩).2 0 (!(tRight ⟨s, d⟩ && tRight ⟨s2, d2⟩)) s d s2 d2 (tBoth pMax ⟨s, d⟩ ⟨s2, d2⟩).1.s (tBoth pMax ⟨s, d⟩ ⟨s2, d2⟩).1.d (tBoth pAbove ⟨s, d⟩ ⟨s2, d2⟩).1.s (tBoth pAbove ⟨s, d⟩ ⟨s2, d2⟩).1.d := by
    intro n;rw [lw7_KinkTwo.f, rf5_Small.f, rf5_Small.f, Option.bind_some, if_pos h1, Option.bind_some, h2]
    show lw7_KinkTwo.j0 (n + 1) false s d s2 d2 = _
    rw [lw7_KinkTwo.j0, if_neg (by decide), kink_Max.of _ _ _ _ m1 m2, Option.bind_some, kink_Above.of _ _ _ _ m1 m2, Option.bind_some, rf5_Right.of _ _ m1, Option.bind_some, rf5_Right.of _ _ m2, Option.bind_some]
    cases tRight ⟨s, d⟩
    · rw [if_neg (by decide)]; rfl
    · rw [if_pos rfl]; rfl
  have bad : ∀ n (c : Int), c ≠ 0 → lw7_KinkTwo.j2 (n + 1) c c c s d s2 d2 [] [] [] [] = some true := fun n c hc => by
    rw [lw7_KinkTwo.j2, if_neg hc, if_pos (by decide +kernel), if_pos rfl, if_pos rfl, awake]; rfl
  have no : ∀ p, (tRight ⟨s, d⟩ && tRight ⟨s2, d2⟩) = false → tBoth p ⟨s, d⟩ ⟨s2, d2⟩ = (nilT, 1) := by
    intro p h;unfold tBoth
    cases e1 : tRight ⟨s, d⟩
    · rw [if_neg (by decide)]
    · rw [e1, Bool.true_and] at h
      rw [if_pos rfl, h, if_neg (by decide)]
  cases hr : (tRight ⟨s, d⟩ && tRight ⟨s2, d2⟩)
  · refine ⟨0 + 1 + 1 + 1, ?_⟩
    rw [go, hr, no _ hr, no _ hr]
    show lw7_KinkTwo.j1 (0 + 1 + 1) 1 1 0 true s d s2 d2 [] [] [] [] = some true
    rw [lw7_KinkTwo.j1, if_pos rfl];exact bad 0 1 (by decide)
  rcases cases_t h1 with r1 | ⟨l, rfl, o1⟩
  · rw [r1] at hr; cases hr
  rcases cases_t h2 with r2 | ⟨m, rfl, o2⟩
  · rw [r2, Bool.and_false] at hr; cases hr
  have hl := o1.le64
  by_cases he : s = s2
  case neg =>
    have sh : ∀ p, tBoth p ⟨s, tx l⟩ ⟨s2, tx m⟩ = (nilT, 4) := by
      intro p;unfold tBoth;rw [if_pos o1.right, if_pos o2.right, if_neg he]
    refine ⟨0 + 1 + 1 + 1, ?_⟩;rw [go, hr, sh, sh]
    show lw7_KinkTwo.j1 (0 + 1 + 1) 4 4 0 false s (tx l) s2 (tx m) [] [] [] [] = some true
    rw [lw7_KinkTwo.j1, if_neg (by decide), rf4_Same.of _ _ (by omega), Option.bind_some, decide_eq_false he, if_neg (by decide)];exact bad 0 4 (by decide)
  subst he;have om := o1.max o2;have oa := o1.above o2
  have ls : s.length ≤ 1000000 := by omega
  have ln : ∀ f : Rat → Rat → Rat, (tx (List.zipWith f l m)).length ≤ 1000000 := fun f => by rw [tx_len, List.length_zipWith]; omega
  have hev : Ev (fun k => lw7_KinkTwo.j2 k 0 0 0 s (tx l) s (tx m) s (tx (List.zipWith qMax l m)) s (tx (List.zipWith qAbove l m))) true := by
    refine Ev.step (f := fun k => _) (fun k => by rw [lw7_KinkTwo.j2, if_pos rfl]) ?_;refine Ev.bind (a := (s, tx (List.zipWith qMax l m))) (two_ev _ _ stp_max o1 o2 om (by decide)) ?_;refine eq_step ⟨ls, ln _⟩ ?_;refine Ev.bind (a := (s, tx (List.zipWith qAbove l m))) (two_ev _ _ stp_above o1 o2 oa (by decide)) ?_;refine eq_step ⟨ls, ln _⟩ ?_;exact Ev.congr (fun k => by rw [if_pos rfl, if_pos rfl, awake]; rfl) (Ev.now true)
  obtain ⟨K, hK⟩ := hev.rounds;refine ⟨K + 1 + 1, ?_⟩;rw [go, hr, tmax o1 o2, tabove o1 o2]
  show lw7_KinkTwo.j1 (K + 1) 0 0 0 false s (tx l) s (tx m) s (tx (List.zipWith qMax l m)) s (tx (List.zipWith qAbove l m)) = some true
  rw [lw7_KinkTwo.j1, if_neg (by decide), rf4_Same.of _ _ (by omega), Option.bind_some, decide_eq_true rfl, if_pos rfl];exact hK
end Go.Proofs.YtndkjpkgllmbnaaGreatDoor.Pure
