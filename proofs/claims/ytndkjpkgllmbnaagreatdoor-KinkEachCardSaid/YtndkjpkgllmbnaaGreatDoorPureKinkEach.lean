/- KinkEach: the plain law. -/
import Derived.Test.YtndkjpkgllmbnaaGreatDoorPQEx
-- mini
namespace Go.Proofs.YtndkjpkgllmbnaaGreatDoor.Pure
open Go Go.RowKit Go.ZPWords Go.Proofs.YtndkjpkgllmbnaaGreatDoor.PQE Go.Proofs.YtndkjpkgllmbnaaGreatDoor.Err Go.Proofs.YtndkjpkgllmbnaaGreatDoor.Th Go.Proofs.YtndkjpkgllmbnaaGreatDoor.Ten
set_option linter.unusedVariables false
def rs (x : Rat) : S61 := ⟨Th.Wh.zt x.num, txt x.den⟩
theorem rd_rs (p q : List Rat) (x : Rat) : rd_T61 ((p ++ x :: q).map rs) (p.length : Int) = rs x := by
  unfold rd_T61
  simp [List.getD]
theorem of_l0 (s : List Int) (l : List Rat) (hl : l.length ≤ 1000000) (hb : ∀ x ∈ l, qm x ≤ 100000000000) : ∀ q p : List Rat, p ++ q = l → Ev (fun k => rf5_Of.l0 k (l.map rs) (p.length : Int) s (tx p)) (s, tx l)
  | [], p, h => by
    rw [List.append_nil] at h;subst h;exact Ev.step (f := fun _ => some (s, tx p)) (fun k => by rw [rf5_Of.l0, if_neg (by rw [List.length_map]; omega)]) (Ev.now _)
  | x :: q, p, h => by
    have hn : p.length + q.length + 1 = l.length := by rw [← h]; simp; omega
    have h1 : (p.length : Int) < ((l.map rs).length : Int) := by rw [List.length_map]; omega
    have h2 : (0 : Int) ≤ (p.length : Int) := by omega
    have h3 : (tx p).length < 8796093022208 := by rw [tx_len]; omega
    have hr : rd_T61 (l.map rs) (p.length : Int) = rs x := by rw [← h, rd_rs]
    have ih := of_l0 s l hl hb q (p ++ [x]) (by rw [← h]; simp);have hw : Aside0 (wrap64 ((p.length : Int) + 1) = ((p ++ [x]).length : Int)) := ⟨by rw [w64 (by omega) (by omega)]; simp⟩;have ht : rf3_Text.f (rs x).f0 (rs x).f1 = some (rt x) := rf3_Text.rt x (hb x (by rw [← h]; simp))
    have ha : tx p ++ [rt x] = tx (p ++ [x]) := by simp [tx]
    exact Ev.step (fun k => by rw [rf5_Of.l0, if_pos h1, if_pos h2, hr, ht, Option.bind_some, if_pos h3, ha, hw.out]) ih
theorem of_ev (s : List Int) (l : List Rat) (hl : l.length ≤ 1000000) (hb : ∀ x ∈ l, qm x ≤ 100000000000) : Ev (fun k => rf5_Of.f k s (l.map rs)) (s, tx l) :=
  Ev.congr (fun k => by rw [rf5_Of.f]; rfl) (of_l0 s l hl hb l [] rfl)
theorem at_rt (s : List Int) (p q : List Rat) (x : Rat) (hx : qm x ≤ 1000000000) : rf5_At.f s (tx (p ++ x :: q)) (p.length : Int) = some (Th.Wh.zt x.num, txt x.den) := by
  have e : tx (p ++ x :: q) = tx p ++ rt x :: tx q := by simp [tx]
  have hr : rdOf ByteArray.empty (tx (p ++ x :: q)) (p.length : Int) = rt x := by
    have h := rdOf_mid (tx p) (tx q) (rt x);rw [tx_len] at h;rw [e, h]
  have h1 : (p.length : Int) < ((tx (p ++ x :: q)).length : Int) := by rw [tx_len]; simp; omega
  have hs := size_rt x;rw [rf5_At.f, if_pos (by omega), if_pos h1, hr, rf3_Read.rt x (by omega), Option.bind_some]
theorem awake : lw7_awake.f = some true := rfl
theorem eq_step {F : Nat → Option Bool} {s : List Int} {d : List ByteArray} {v : Bool} (hl : s.length ≤ 1000000 ∧ d.length ≤ 1000000) (h : Ev F v) : Ev (fun k => (rf5_Equal.f s d s d).bind fun t => if t = true then F k else some false) v :=
  Ev.congr (fun k => by rw [rf5_Equal.of _ _ _ _ hl, Option.bind_some, decide_eq_true ⟨rfl, rfl⟩, if_pos rfl]) h
theorem rt0_list {x : Rat} : ((rt x).toList == ([48] : List UInt8)) = decide (x = 0) := by
  have e : ([48] : List UInt8) = (rt 0).toList := by decide +kernel
  rw [e]
  by_cases h : x = 0
  · rw [h, decide_eq_true rfl]; simp
  · rw [decide_eq_false h, beq_eq_false_iff_ne]
    exact fun c => h (rt_inj (toList_inj.1 c))
theorem lit_0 : (⟨#[48]⟩ : ByteArray) = Th.Wh.zt (0 : Rat).num := by decide +kernel
theorem lit_1 : (⟨#[49]⟩ : ByteArray) = Th.Wh.zt (1 : Rat).num := by decide +kernel
theorem lit_d0 : (⟨#[49]⟩ : ByteArray) = txt (0 : Rat).den := by decide +kernel
theorem lit_d1 : (⟨#[49]⟩ : ByteArray) = txt (1 : Rat).den := by decide +kernel
theorem neg_1 : rf3_Neg.f (⟨#[49]⟩ : ByteArray) (⟨#[49]⟩ : ByteArray) = some (Th.Wh.zt (-1 : Rat).num, txt (-1 : Rat).den) := by
  have h := rf3_Neg.rt (x := 1) (fr (d := 10) (by decide +kernel));rw [← lit_1, ← lit_d1] at h;exact h
/-- What the reference's One tells. -/
def Oned (op : ByteArray) (g : Rat → Rat) : Prop := ∀ (n : Nat) (x : Rat), qm x ≤ 40 → rf7_One.f (n + 1 + 1) op (Th.Wh.zt x.num) (txt x.den) = some (Th.Wh.zt (g x).num, txt (g x).den)
theorem l_relu : (⟨#[114, 101, 108, 117]⟩ : ByteArray).toList = [114, 101, 108, 117] := by decide +kernel
theorem l_abs : (⟨#[97, 98, 115]⟩ : ByteArray).toList = [97, 98, 115] := by decide +kernel
theorem l_step : (⟨#[115, 116, 101, 112]⟩ : ByteArray).toList = [115, 116, 101, 112] := by decide +kernel
theorem l_sign : (⟨#[115, 105, 103, 110]⟩ : ByteArray).toList = [115, 105, 103, 110] := by decide +kernel
theorem z0 {α : Type} {f : ByteArray × ByteArray → α} : f (⟨#[48]⟩, ⟨#[49]⟩) = f (Th.Wh.zt (0 : Rat).num, txt (0 : Rat).den) := by rw [← lit_0, ← lit_d0]
theorem z1 {α : Type} {f : ByteArray × ByteArray → α} : f (⟨#[49]⟩, ⟨#[49]⟩) = f (Th.Wh.zt (1 : Rat).num, txt (1 : Rat).den) := by rw [← lit_1, ← lit_d1]
theorem one_relu : Oned ⟨#[114, 101, 108, 117]⟩ (qOne 0) := fun n x hx => by
  rw [rf7_One.f, rf2_Sign.zt, Option.bind_some, l_relu, if_pos rfl]
  rcases rs_cases x with ⟨h, e⟩ | ⟨h, e⟩ | ⟨h, e⟩ <;> rw [e]
  · have hq : qOne 0 x = 0 := by unfold qOne; grind
    rw [if_neg (by decide), if_neg (by decide), rf7_One.j0, if_neg (by decide), l_relu, if_neg (by decide), if_pos rfl, rf7_One.j1, if_pos rfl, hq];exact z0 (f := some)
  · have hq : qOne 0 x = 0 := by unfold qOne; grind
    rw [if_neg (by decide), if_neg (by decide), rf7_One.j0, if_neg (by decide), l_relu, if_neg (by decide), if_pos rfl, rf7_One.j1, if_pos rfl, hq];exact z0 (f := some)
  · have hq : qOne 0 x = x := by unfold qOne; grind
    rw [if_pos (by decide), rf7_One.j0, if_pos rfl, hq]
theorem one_abs : Oned ⟨#[97, 98, 115]⟩ (qOne 2) := fun n x hx => by
  rw [rf7_One.f, rf2_Sign.zt, Option.bind_some, l_abs, if_neg (by decide), if_pos rfl]
  rcases rs_cases x with ⟨h, e⟩ | ⟨h, e⟩ | ⟨h, e⟩ <;> rw [e]
  · have hq : qOne 2 x = -x := by unfold qOne; grind
    rw [rf7_One.j0, if_neg (by decide), l_abs, if_pos rfl, rf3_Neg.rt (fr hx), Option.bind_some, hq]
  · have hq : qOne 2 x = x := by unfold qOne; grind
    rw [rf7_One.j0, if_pos (by decide), hq]
  · have hq : qOne 2 x = x := by unfold qOne; grind
    rw [rf7_One.j0, if_pos (by decide), hq]
theorem one_step : Oned ⟨#[115, 116, 101, 112]⟩ (qOne 1) := fun n x hx => by
  rw [rf7_One.f, rf2_Sign.zt, Option.bind_some, l_step, if_neg (by decide), if_neg (by decide), rf7_One.j0, if_neg (by decide), l_step, if_neg (by decide), if_neg (by decide)]
  rcases rs_cases x with ⟨h, e⟩ | ⟨h, e⟩ | ⟨h, e⟩ <;> rw [e]
  · have hq : qOne 1 x = 0 := by unfold qOne; grind
    rw [if_neg (by decide), if_pos rfl, rf7_One.j1, if_pos (by decide), hq];exact z0 (f := some)
  · have hq : qOne 1 x = 0 := by unfold qOne; grind
    rw [if_pos rfl, rf7_One.j1, if_pos rfl, hq];exact z0 (f := some)
  · have hq : qOne 1 x = 1 := by unfold qOne; grind
    rw [if_neg (by decide), if_pos rfl, rf7_One.j1, if_neg (by decide), if_neg (by decide), hq];exact z1 (f := some)
theorem one_sign : Oned ⟨#[115, 105, 103, 110]⟩ (qOne 3) := fun n x hx => by
  rw [rf7_One.f, rf2_Sign.zt, Option.bind_some, l_sign, if_neg (by decide), if_neg (by decide), rf7_One.j0, if_neg (by decide), l_sign, if_neg (by decide), if_neg (by decide)]
  rcases rs_cases x with ⟨h, e⟩ | ⟨h, e⟩ | ⟨h, e⟩ <;> rw [e]
  · have hq : qOne 3 x = -1 := by unfold qOne; grind
    rw [if_neg (by decide), if_neg (by decide), rf7_One.j1, if_neg (by decide), if_pos (by decide), neg_1, Option.bind_some, hq]
  · have hq : qOne 3 x = 0 := by unfold qOne; grind
    rw [if_pos rfl, rf7_One.j1, if_pos rfl, hq];exact z0 (f := some)
  · have hq : qOne 3 x = 1 := by unfold qOne; grind
    rw [if_neg (by decide), if_neg (by decide), rf7_One.j1, if_neg (by decide), if_neg (by decide), hq];exact z1 (f := some)
theorem each_l0 (op : ByteArray) (g : Rat → Rat) (ho : Oned op g) (s : List Int) (l : List Rat) (hl : l.length ≤ 64) (hb : ∀ x ∈ l, qm x ≤ 40) (hf : ∀ x ∈ l.map g, qm x ≤ 100000000000) :
    ∀ q p : List Rat, p ++ q = l → Ev (fun k => rf7_Each.l0 k op ((p.map g).map rs) (p.length : Int) s (tx l)) (s, tx (l.map g))
  | [], p, h => by
    rw [List.append_nil] at h;subst h;have ho := of_ev s (p.map g) (by rw [List.length_map]; omega) hf;exact Ev.step (f := fun k => (rf5_Of.f k s ((p.map g).map rs)).bind fun b => some (b.1, b.2)) (fun k => by rw [rf7_Each.l0, if_neg (by rw [tx_len]; omega)]) (Ev.bind ho (Ev.now _))
  | x :: q, p, h => by
    have hn : p.length + q.length + 1 = l.length := by rw [← h]; simp; omega
    have h1 : (p.length : Int) < ((tx l).length : Int) := by rw [tx_len]; omega
    have hx : qm x ≤ 40 := hb x (by rw [← h]; simp);have a1 := at_rt s p q x (Nat.le_trans hx (by decide));rw [h] at a1
    have hq : ((p.map g).map rs).length < 4398046511104 := by rw [List.length_map, List.length_map]; omega
    have ha : (p.map g).map rs ++ [rs (g x)] = ((p ++ [x]).map g).map rs := by simp
    have ih := each_l0 op g ho s l hl hb hf q (p ++ [x]) (by rw [← h]; simp);have hw : Aside0 (wrap64 ((p.length : Int) + 1) = ((p ++ [x]).length : Int)) := ⟨by rw [w64 (by omega) (by omega)]; simp⟩;have e1 : Ev (fun k => rf7_One.f k op (Th.Wh.zt x.num) (txt x.den)) (Th.Wh.zt (g x).num, txt (g x).den) := Ev.step (f := fun k => rf7_One.f (k + 1) op (Th.Wh.zt x.num) (txt x.den)) (fun _ => rfl) (Ev.step (f := fun _ => some (Th.Wh.zt (g x).num, txt (g x).den)) (fun k => ho k x hx) (Ev.now _));refine Ev.step (f := fun k => (rf7_One.f k op (Th.Wh.zt x.num) (txt x.den)).bind fun b => if ((p.map g).map rs).length < 4398046511104 then rf7_Each.l0 k op ((p.map g).map rs ++ [(⟨b.1, b.2⟩ : S61)]) (wrap64 ((p.length : Int) + 1)) s (tx l) else none) (fun k => by rw [rf7_Each.l0, if_pos h1, a1, Option.bind_some]) (Ev.bind e1 ?_);exact Ev.congr (fun k => by rw [if_pos hq, show (⟨(Th.Wh.zt (g x).num, txt (g x).den).1, (Th.Wh.zt (g x).num, txt (g x).den).2⟩ : S61) = rs (g x) from rfl, ha, hw.out]) ih
theorem each_ev (op : ByteArray) (g : Rat → Rat) (ho : Oned op g) {s : List Int} {l : List Rat} (h : Ok s l 40) (hg : ∀ x, qm x ≤ 40 → qm (g x) ≤ 42) : Ev (fun k => rf7_Each.f k op s (tx l)) (s, tx (l.map g)) :=
  Ev.congr (fun k => by rw [rf7_Each.f]; rfl) (each_l0 op g ho s l h.le64.1 h.bd (fun x hx => by obtain ⟨y, hy, rfl⟩ := List.mem_map.1 hx; exact Nat.le_trans (hg y (h.bd y hy)) (by decide)) l [] rfl)
theorem fin_ev {s : List Int} {l : List Rat} (o1 : Ok s l 40) (data : List ByteArray) (i : Int) (hi : ¬ i < (l.length : Int)) (b : Bool) : Ev (fun k => lw7_KinkEach.l0 k 0 0 0 0 b 0 b data (l.length : Int) i s (tx l) s (tx (l.map (qOne 0))) s (tx (l.map (qOne 2))) s (tx (l.map (qOne 1))) s (tx (l.map (qOne 3)))) true := by
  have hl := o1.le64
  have ls : s.length ≤ 1000000 := by omega
  have ln : ∀ g : Rat → Rat, (tx (l.map g)).length ≤ 1000000 := fun g => by rw [tx_len, List.length_map]; omega
  refine Ev.step (f := fun k => _) (fun k => by rw [lw7_KinkEach.l0, if_neg hi]) ?_;refine Ev.bind (a := (s, tx (l.map (qOne 0)))) (each_ev _ _ one_relu o1 (fun x hx => qm_one 0 hx)) ?_;refine eq_step ⟨ls, ln _⟩ ?_;refine Ev.bind (a := (s, tx (l.map (qOne 2)))) (each_ev _ _ one_abs o1 (fun x hx => qm_one 2 hx)) ?_;refine eq_step ⟨ls, ln _⟩ ?_;refine Ev.bind (a := (s, tx (l.map (qOne 1)))) (each_ev _ _ one_step o1 (fun x hx => qm_one 1 hx)) ?_;refine eq_step ⟨ls, ln _⟩ ?_;refine Ev.bind (a := (s, tx (l.map (qOne 3)))) (each_ev _ _ one_sign o1 (fun x hx => qm_one 3 hx)) ?_;refine eq_step ⟨ls, ln _⟩ ?_;exact Ev.congr (fun k => by rw [if_pos (by simp), if_pos rfl, if_pos rfl, if_pos rfl, if_pos rfl, if_pos rfl, awake]; rfl) (Ev.now true)
theorem zero_ev {s : List Int} {l : List Rat} (o1 : Ok s l 40) : ∀ q p : List Rat, p ++ q = l → Ev (fun k => lw7_KinkEach.l0 k 0 0 0 0 (decide ((0 : Rat) ∈ l)) 0 (decide ((0 : Rat) ∈ p)) (tx l) (l.length : Int) (p.length : Int) s (tx l) s (tx (l.map (qOne 0))) s (tx (l.map (qOne 2))) s (tx (l.map (qOne 1))) s (tx (l.map (qOne 3)))) true
  | [], p, h => by
    rw [List.append_nil] at h;subst h;exact fin_ev o1 _ _ (by omega) _
  | x :: q, p, h => by
    have hl := o1.le64
    have hn : p.length + q.length + 1 = l.length := by rw [← h]; simp; omega
    have h1 : (p.length : Int) < (l.length : Int) := by omega
    have h2 : (0 : Int) ≤ (p.length : Int) := by omega
    have h3 : (p.length : Int) < ((tx l).length : Int) := by rw [tx_len]; omega
    have hr : rdOf ByteArray.empty (tx l) (p.length : Int) = rt x := by
      have e : tx l = tx p ++ rt x :: tx q := by rw [← h]; simp [tx]
      have h := rdOf_mid (tx p) (tx q) (rt x);rw [tx_len] at h;rw [e, h]
    have ih := zero_ev o1 q (p ++ [x]) (by rw [← h]; simp);have hw : Aside0 (wrap64 ((p.length : Int) + 1) = ((p ++ [x]).length : Int)) := ⟨by rw [w64 (by omega) (by omega)]; simp⟩
    by_cases c : (0 : Rat) ∈ p
    · have e : decide ((0 : Rat) ∈ p ++ [x]) = true := decide_eq_true (List.mem_append.2 (Or.inl c))
      rw [e] at ih;rw [decide_eq_true c];exact Ev.step (fun k => by rw [lw7_KinkEach.l0, if_pos h1, if_pos h2, if_pos h3, if_pos rfl, hw.out]) ih
    · have e : decide ((0 : Rat) ∈ p ++ [x]) = decide (x = 0) := by
        rw [decide_eq_decide, List.mem_append, List.mem_singleton];constructor
        · rintro (h | h)
          · exact absurd h c
          · exact h.symm
        · exact fun h => Or.inr h.symm
      rw [e] at ih;rw [decide_eq_false c];exact Ev.step (fun k => by rw [lw7_KinkEach.l0, if_pos h1, if_pos h2, if_pos h3, if_neg (by decide), hr, rt0_list, hw.out]) ih
theorem KinkEach (s : List Int) (d : List ByteArray) : ∃ k, lw7_KinkEach.f k s d = some true := by
  by_cases h1 : small ⟨s, d⟩ = true
  case neg => exact ⟨0, by rw [lw7_KinkEach.f, rf5_Small.f, Option.bind_some, if_neg h1, awake]; rfl⟩
  have m1 := (small_parts h1).1
  have go : ∀ k, lw7_KinkEach.f k s d = _ := fun k => by rw [lw7_KinkEach.f, rf5_Small.f, Option.bind_some, if_pos h1, kink_Relu.of _ _ m1, Option.bind_some, kink_Abs.of _ _ m1, Option.bind_some, kink_Step.of _ _ m1, Option.bind_some, kink_Sign.of _ _ m1, Option.bind_some, kink_Flat.of _ _ m1, Option.bind_some, rf5_Right.of _ _ m1, Option.bind_some]
  rcases cases_t h1 with r1 | ⟨l, rfl, o1⟩
  · refine ⟨0, ?_⟩
    have hf : tFlat ⟨s, d⟩ = (false, 1) := by unfold tFlat; rw [if_neg (by simp [r1])]
    rw [go, r1, if_neg (by decide), teach_no _ r1, teach_no _ r1, teach_no _ r1, teach_no _ r1, hf];dsimp only [nilT]
    simp [awake, wrap64]
  · obtain ⟨K, hK⟩ := (zero_ev o1 l [] rfl).rounds
    refine ⟨K, ?_⟩;rw [go, o1.right, if_pos rfl, teach o1, teach o1, teach o1, teach o1, tflat o1];dsimp only;rw [tx_len];exact hK
end Go.Proofs.YtndkjpkgllmbnaaGreatDoor.Pure
