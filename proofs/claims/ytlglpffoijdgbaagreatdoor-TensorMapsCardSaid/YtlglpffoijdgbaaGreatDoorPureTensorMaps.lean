import Derived.Test.YtlglpffoijdgbaaGreatDoorTenV
import Derived.Test.YtlglpffoijdgbaaGreatDoorPQMxa
namespace Go.Proofs.YtlglpffoijdgbaaGreatDoor.Pure
open Go Go.RowKit Go.ZPWords Go.Proofs.YtlglpffoijdgbaaGreatDoor.PQM Go.Proofs.YtlglpffoijdgbaaGreatDoor.Err Go.Proofs.YtlglpffoijdgbaaGreatDoor.Th Go.Proofs.YtlglpffoijdgbaaGreatDoor.Ten
set_option linter.unusedVariables false
theorem awake : lw5_awake.f = some true := rfl
def rs (x : Rat) : S46 := ⟨Wh.zt x.num, txt x.den⟩
theorem rd_rs (p q : List Rat) (x : Rat) : rd_T46 ((p ++ x :: q).map rs) (p.length : Int) = rs x := by
  unfold rd_T46
  simp [List.getD]
theorem of_l0 (s : List Int) (l : List Rat) (hl : l.length ≤ 1000000) (hb : ∀ x ∈ l, qm x ≤ 100000000000) : ∀ q p : List Rat, p ++ q = l → Ev (fun k => rf5_Of.l0 k (l.map rs) (p.length : Int) s (tx p)) (s, tx l)
  | [], p, h => by
    rw [List.append_nil] at h
    subst h
    exact Ev.step (f := fun _ => some (s, tx p)) (fun k => by rw [rf5_Of.l0, if_neg (by rw [List.length_map]; omega)]) (Ev.now _)
  | x :: q, p, h => by
    have hn : p.length + q.length + 1 = l.length := by rw [← h]; simp; omega
    have h1 : (p.length : Int) < ((l.map rs).length : Int) := by rw [List.length_map]; omega
    have h2 : (0 : Int) ≤ (p.length : Int) := by omega
    have h3 : (tx p).length < 8796093022208 := by rw [tx_len]; omega
    have hr : rd_T46 (l.map rs) (p.length : Int) = rs x := by rw [← h, rd_rs]
    have ih := of_l0 s l hl hb q (p ++ [x]) (by rw [← h]; simp)
    have hw : Aside0 (wrap64 ((p.length : Int) + 1) = ((p ++ [x]).length : Int)) := ⟨by rw [w64 (by omega) (by omega)]; simp⟩
    have ht : rf3_Text.f (rs x).f0 (rs x).f1 = some (rt x) := rf3_Text.rt x (hb x (by rw [← h]; simp))
    have ha : tx p ++ [rt x] = tx (p ++ [x]) := by simp [tx]
    exact Ev.step (fun k => by rw [rf5_Of.l0, if_pos h1, if_pos h2, hr, ht, Option.bind_some, if_pos h3, ha, hw.out]) ih
theorem of_ev (s : List Int) (l : List Rat) (hl : l.length ≤ 1000000) (hb : ∀ x ∈ l, qm x ≤ 100000000000) : Ev (fun k => rf5_Of.f k s (l.map rs)) (s, tx l) :=
  Ev.congr (fun k => by rw [rf5_Of.f]; rfl) (of_l0 s l hl hb l [] rfl)
theorem at_rt (s : List Int) (p q : List Rat) (x : Rat) (hx : qm x ≤ 1000000000) : rf5_At.f s (tx (p ++ x :: q)) (p.length : Int) = some (Wh.zt x.num, txt x.den) := by
 have e : tx (p ++ x :: q) = tx p ++ rt x :: tx q := by simp [tx]
 have hr : rdOf ByteArray.empty (tx (p ++ x :: q)) (p.length : Int) = rt x := by
  have h := rdOf_mid (tx p) (tx q) (rt x);rw [tx_len] at h;rw [e, h]
 have h1 : (p.length : Int) < ((tx (p ++ x :: q)).length : Int) := by rw [tx_len]; simp; omega
 have hs := size_rt x;rw [rf5_At.f, if_pos (by omega), if_pos h1, hr, rf3_Read.rt x (by omega), Option.bind_some]
theorem acc_inv : ∀ (d : List ByteArray), (∀ x ∈ d, x.size ≤ 40) → ∀ (a : ByteArray) (M : Nat), (a = ⟨#[]⟩ ∨ ∃ q, a = rt q ∧ qm q ≤ M) → (d.foldl (fun a x => (rAdd a x).1) a = ⟨#[]⟩ ∨ ∃ q, d.foldl (fun a x => (rAdd a x).1) a = rt q ∧ qm q ≤ M + d.length * 41)
  | [], _, a, M, h => by simpa using h
  | x :: d, hd, a, M, h => by
    have hx : x.size ≤ 40 := hd x List.mem_cons_self
    have key : (rAdd a x).1 = ⟨#[]⟩ ∨ ∃ q, (rAdd a x).1 = rt q ∧ qm q ≤ M + 41 := by
      rcases rv_cases a with na | ⟨y, ey, hy⟩
      · exact Or.inl (by simp [rAdd, na])
      · rcases rv_cases x with nx | ⟨z, ez, hz⟩
        · exact Or.inl (by simp [rAdd, hy, nx])
        · refine Or.inr ⟨y + z, by simp [rAdd, hy, hz], ?_⟩
          have hqz : qm z ≤ 40 := Nat.le_trans (qm_le z) (by rw [← ez]; exact hx)
          have hqy : qm y ≤ M := by
            rcases h with h | ⟨q, h, hq⟩
            · exact Nat.le_trans (qm_le y) (by rw [← ey, h]; exact Nat.zero_le _)
            · have e : rv (rt q) = some y := by rw [← h]; exact hy
              rw [rv_rt] at e
              injection e with e
              rw [← e]; exact hq
          have := qa hqy hqz
          omega
    have ih := acc_inv d (fun y hy => hd y (List.mem_cons_of_mem _ hy)) (rAdd a x).1 (M + 41) key
    rw [List.foldl_cons, List.length_cons]
    rcases ih with ih | ⟨q, ih, hq⟩
    · exact Or.inl ih
    · exact Or.inr ⟨q, ih, by omega⟩
theorem acc_small {d : List ByteArray} (hd : ∀ x ∈ d, x.size ≤ 40) (hl : d.length ≤ 1000) (p : Nat) : (accS (d.take p)).size ≤ 40000000000 := by
 have h := acc_inv (d.take p) (fun x hx => hd x (List.mem_of_mem_take hx)) ⟨#[48]⟩ 1 (Or.inr ⟨0, rt_0.symm, by decide +kernel⟩);have hn : (d.take p).length ≤ 1000 := Nat.le_trans (by rw [List.length_take]; omega) hl;unfold accS;rcases h with h | ⟨q, h, hq⟩
 · rw [h]; decide
 rw [h];have := size_rt q;omega
theorem su_append : ∀ l m : List Rat, su (l ++ m) = su l + su m
  | [], m => by rw [List.nil_append, su_nil]; grind
  | x :: l, m => by rw [List.cons_append, su_cons, su_cons, su_append l m]; grind
theorem su_snoc (p : List Rat) (x : Rat) : su (p ++ [x]) = su p + x := by rw [su_append, su_cons, su_nil]; grind
theorem eqO {s : List Int} {l : List Rat} {N : Nat} (h : Ok s l N) : rf5_Equal.f s (tx l) s (tx l) = some true := by
  have h1 := h.le64
  rw [rf5_Equal.of _ _ _ _ ⟨by omega, by rw [tx_len]; omega⟩, decide_eq_true ⟨rfl, rfl⟩]
def L1 (ok : Bool) (y : Rat) (p : List Rat) : List S46 := if ok = true then (p.map (· * y)).map rs else []
def L2 (n : Int) (p : List Rat) : List S46 := if 0 ≤ n ∧ n ≤ 6 then (p.map (· ^ n.toNat)).map rs else []
theorem l1_len (ok : Bool) (y : Rat) (p : List Rat) : (L1 ok y p).length ≤ p.length := by
 unfold L1;split
 · simp
 simp
theorem l2_len (n : Int) (p : List Rat) : (L2 n p).length ≤ p.length := by
 unfold L2;split
 · simp
 simp
theorem l1_snoc (y : Rat) (p : List Rat) (x : Rat) : L1 true y p ++ [rs (x * y)] = L1 true y (p ++ [x]) := by
  unfold L1
  rw [if_pos rfl, if_pos rfl, List.map_append, List.map_append]; rfl
theorem l2_snoc {n : Int} (hn : 0 ≤ n ∧ n ≤ 6) (p : List Rat) (x : Rat) : L2 n p ++ [rs (x ^ n.toNat)] = L2 n (p ++ [x]) := by
  unfold L2
  rw [if_pos hn, if_pos hn, List.map_append, List.map_append]; rfl
theorem l2_no {n : Int} (hn : ¬ (0 ≤ n ∧ n ≤ 6)) (p q : List Rat) : L2 n p = L2 n q := by
  unfold L2
  rw [if_neg hn, if_neg hn]
theorem rp_or (k : ByteArray) (hk : k.size ≤ 40) : (∃ y, k = rt y ∧ qm y ≤ 40 ∧ rRight k = true ∧ rf3_Read.f k = some (Wh.zt y.num, txt y.den, true)) ∨ (rRight k = false ∧ ∃ p q, rf3_Read.f k = some (p, q, false)) := by
 rcases rv_cases k with h | ⟨y, rfl, h⟩
 · exact Or.inr ⟨by rw [rRight, h]; rfl, rf3_Read.no k (by omega) h⟩
 exact Or.inl ⟨y, rfl, Nat.le_trans (qm_le y) hk, by rw [rRight, h]; rfl, rf3_Read.rt y (by omega)⟩
theorem pw {x : Rat} (hx : qm x ≤ 40) {n : Int} (hn : 0 ≤ n ∧ n ≤ 6) : rf3_Power.f (Wh.zt x.num) (txt x.den) n = some (Wh.zt (x ^ n.toNat).num, txt (x ^ n.toNat).den) := by
  have h := rf3_Power.rt (x := x) (fr hx) n.toNat (by omega)
  rw [Int.toNat_of_nonneg hn.1] at h
  exact h
section
variable (n e f : Int) (u : ByteArray) (g : Int) (s : List Int) (sS : List Int) (sD : List ByteArray) (pS : List Int) (pD : List ByteArray) (y : Rat)
theorem l1_ev (ok : Bool) (p0 q0 : ByteArray) (hok : ok = true → p0 = Wh.zt y.num ∧ q0 = txt y.den ∧ qm y ≤ 40) (A : List Rat) (oA : Ok s A 40) (hu : u = rt (su A)) (hg : g = 0)
    (h0 : Ev (fun K => lw5_TensorMaps.j5 K n e f ok (L1 ok y A) (L2 n A) false s (tx A) sS sD pS pD) true) :
    ∀ q p : List Rat, p ++ q = A → Ev (fun K => lw5_TensorMaps.l1 K n e f u g ok (L1 ok y p) (L2 n p) (A.length : Int) (p.length : Int) s (tx A) sS sD pS pD p0 q0 (Wh.zt (su p).num) (txt (su p).den)) true
  | [], p, h => by
    rw [List.append_nil] at h
    subst h
    have hs := oA.su
    refine Ev.step (fun K => ?_) h0
    rw [lw5_TensorMaps.l1, if_neg (by omega), rf3_Text.rt _ (by omega), Option.bind_some, hu, if_pos rfl, hg]
    rfl
  | x :: q, p, h => by
    have hl := oA.le64
    have hn' : p.length + q.length + 1 = A.length := by rw [← h]; simp; omega
    have ih := l1_ev ok p0 q0 hok A oA hu hg h0 q (p ++ [x]) (by rw [← h]; simp)
    have hx : qm x ≤ 40 := oA.bd x (by rw [← h]; simp)
    have hp := qm_su (N := 40) p (fun z hz => oA.bd z (by rw [← h]; exact List.mem_append_left _ hz))
    have hp2 := Nat.mul_le_mul_right (40 + 1) (show p.length ≤ 64 by omega)
    have ha := at_rt s p q x (Nat.le_trans hx (by decide))
    rw [h] at ha
    have hw : wrap64 ((p.length : Int) + 1) = ((p ++ [x]).length : Int) := by rw [w64 (by omega) (by omega)]; simp
    have b1 := l1_len ok y p
    have b2 := l2_len n p
    refine Ev.step (fun K => ?_) ih
    rw [lw5_TensorMaps.l1, if_pos (by omega), ha, Option.bind_some]
    dsimp only
    rw [rf3_Add.rt (fr (show qm (su p) ≤ 64 * (40 + 1) + 1 by omega)) (fr hx), Option.bind_some, ← su_snoc, hw]
    dsimp only
    have fin : ∀ l : List S46, (if n ≥ 0 then (if n ≤ 6 then ((rf3_Power.f (Wh.zt x.num) (txt x.den) n).bind fun b => (if (L2 n p).length < 4398046511104 then (lw5_TensorMaps.l1 K n e f u g ok l (L2 n p ++ [(⟨b.1, b.2⟩ : S46)]) (A.length : Int) ((p ++ [x]).length : Int) s (tx A) sS sD pS pD p0 q0 (Wh.zt (su (p ++ [x])).num) (txt (su (p ++ [x])).den)) else (none))) else (lw5_TensorMaps.l1 K n e f u g ok l (L2 n p) (A.length : Int) ((p ++ [x]).length : Int) s (tx A) sS sD pS pD p0 q0 (Wh.zt (su (p ++ [x])).num) (txt (su (p ++ [x])).den))) else (lw5_TensorMaps.l1 K n e f u g ok l (L2 n p) (A.length : Int) ((p ++ [x]).length : Int) s (tx A) sS sD pS pD p0 q0 (Wh.zt (su (p ++ [x])).num) (txt (su (p ++ [x])).den))) = lw5_TensorMaps.l1 K n e f u g ok l (L2 n (p ++ [x])) (A.length : Int) ((p ++ [x]).length : Int) s (tx A) sS sD pS pD p0 q0 (Wh.zt (su (p ++ [x])).num) (txt (su (p ++ [x])).den) := fun l => by
      by_cases c1 : n ≥ 0
      · by_cases c2 : n ≤ 6
        · rw [if_pos c1, if_pos c2, pw hx ⟨c1, c2⟩, Option.bind_some, if_pos (by omega), ← l2_snoc ⟨c1, c2⟩]; rfl
        · rw [if_pos c1, if_neg c2, l2_no (fun h => c2 h.2) p (p ++ [x])]
      · rw [if_neg c1, l2_no (fun h => c1 h.1) p (p ++ [x])]
    cases ok
    · rw [if_neg (by decide)]
      exact fin (L1 false y p)
    · obtain ⟨rfl, rfl, hy⟩ := hok rfl
      rw [if_pos rfl, rf3_Mul.rt (fr hx) (fr hy), Option.bind_some, if_pos (by omega), Option.bind_some]
      refine (fin _).trans ?_
      rw [← l1_snoc]; rfl
theorem l0_ev (h : Int) (ok right : Bool) (A : List Int) (d : List ByteArray) (fS : List Int) (fD : List ByteArray) (m : Nat) (hm : m ≤ 64) (h0 : Ev (fun K => lw5_TensorMaps.l0 K n e f u g h ok right (List.replicate m (rs y)) (m : Int) (m : Int) s d sS sD pS pD fS fD (Wh.zt y.num) (txt y.den)) true) :
    ∀ q i : Nat, i + q = m → Ev (fun K => lw5_TensorMaps.l0 K n e f u g h ok right (List.replicate i (rs y)) (m : Int) (i : Int) s d sS sD pS pD fS fD (Wh.zt y.num) (txt y.den)) true
  | 0, i, hi => by
    obtain rfl : i = m := by omega
    exact h0
  | q + 1, i, hi => by
    have ih := l0_ev h ok right A d fS fD m hm h0 q (i + 1) (by omega)
    rw [List.replicate_succ'] at ih
    exact Ev.step (fun K => by rw [lw5_TensorMaps.l0, if_pos (by omega), if_pos (by rw [List.length_replicate]; omega), show wrap64 ((i : Int) + 1) = ((i + 1 : Nat) : Int) from by rw [w64 (by omega) (by omega)]; omega]; rfl) ih
end
theorem TensorMaps (s : List Int) (d : List ByteArray) (k : ByteArray) (n : Int) : ∃ K, lw5_TensorMaps.f K s d k n = some true := by
 refine Ev.rounds ?_;have ev1 : ∀ {g : Nat → Option Bool}, (∀ K, g (K + 1) = some true) → Ev g true := fun h => Ev.step (f := fun _ => some true) h (Ev.now _);have hz : Ev (fun K => lw5_TensorMaps.j0 K k n true s d) true := ev1 fun K => by rw [lw5_TensorMaps.j0, if_pos rfl, awake]; rfl
 by_cases h1 : small ⟨s, d⟩ = true
 case neg => exact Ev.congr (fun K => by rw [lw5_TensorMaps.f, rf5_Small.f, Option.bind_some, if_neg h1]) hz
 refine Ev.congr (f := fun K => lw5_TensorMaps.j0 K k n (decide ((k.size : Int) > 40)) s d) (fun K => by rw [lw5_TensorMaps.f, rf5_Small.f, Option.bind_some, if_pos h1]) ?_;by_cases hk : (k.size : Int) > 40
 · rw [decide_eq_true hk]; exact hz
 rw [decide_eq_false hk];have m1 := (small_parts h1).1;have hk40 : k.size ≤ 40 := by omega
 obtain ⟨ok, rp, rq, hR, hor⟩ : ∃ (ok : Bool) (rp rq : ByteArray), rf3_Read.f k = some (rp, rq, ok) ∧ ((ok = true ∧ ∃ y, k = rt y ∧ qm y ≤ 40 ∧ rRight k = true ∧ rp = Wh.zt y.num ∧ rq = txt y.den) ∨ (ok = false ∧ rRight k = false)) := by
  rcases rp_or k hk40 with ⟨y, e1, e2, e3, e4⟩ | ⟨e3, p, q, e4⟩
  · exact ⟨true, _, _, e4, Or.inl ⟨rfl, y, e1, e2, e3, rfl, rfl⟩⟩
  exact ⟨false, p, q, e4, Or.inr ⟨rfl, e3⟩⟩
 refine Ev.step (f := fun K => lw5_TensorMaps.j1 K n (tScale ⟨s, d⟩ k).2 (tPower ⟨s, d⟩ n).2 (tSum ⟨s, d⟩).1 (tSum ⟨s, d⟩).2 (tFill s k).2 ok (tRight ⟨s, d⟩) (!(ok && shOk s)) s d (tScale ⟨s, d⟩ k).1.s (tScale ⟨s, d⟩ k).1.d (tPower ⟨s, d⟩ n).1.s (tPower ⟨s, d⟩ n).1.d (tFill s k).1.s (tFill s k).1.d rp rq) (fun K => by
  rw [lw5_TensorMaps.j0, if_neg (by decide), tensor_Scale.of _ _ _ m1 (by omega), Option.bind_some, tensor_Power.of _ _ _ m1, Option.bind_some, tensor_Sum.of _ _ m1 (acc_small (small_parts h1).2 m1.2.1), Option.bind_some, tensor_Fill.of _ _ m1.1 (by omega), Option.bind_some, hR, Option.bind_some, rf5_Right.of _ _ m1, Option.bind_some];dsimp only
  cases ok
  · rw [if_neg (by decide)]; rfl
  rw [if_pos rfl, rf4_Right.f, Option.bind_some]; rfl) ?_
 have n0 : (([] : List ByteArray).length : Int) = 0 := rfl
 have j3 : Ev (fun K => lw5_TensorMaps.j3 K n (tScale ⟨s, d⟩ k).2 (tPower ⟨s, d⟩ n).2 (tSum ⟨s, d⟩).1 (tSum ⟨s, d⟩).2 ok (tRight ⟨s, d⟩) s d (tScale ⟨s, d⟩ k).1.s (tScale ⟨s, d⟩ k).1.d (tPower ⟨s, d⟩ n).1.s (tPower ⟨s, d⟩ n).1.d rp rq) true := by
  rcases cases_t h1 with r1 | ⟨A, rfl, oA⟩
  · rw [r1, tscale_no (Or.inl r1), tpower_no (Or.inl r1), tsum_no r1];refine ev1 fun K => ?_;rw [lw5_TensorMaps.j3, if_neg (by decide)];dsimp only;rw [if_pos (by decide +kernel), if_pos (by decide +kernel), if_pos rfl, if_pos rfl, if_pos rfl, awake];rfl
  have hl := oA.le64;rw [oA.right, tsum oA]
  obtain ⟨y, hy⟩ : ∃ y : Rat, ok = true → k = rt y ∧ rp = Wh.zt y.num ∧ rq = txt y.den ∧ qm y ≤ 40 := by
   rcases hor with ⟨_, y, e1, e2, _, e4, e5⟩ | ⟨e, _⟩
   · exact ⟨y, fun _ => ⟨e1, e4, e5, e2⟩⟩
   exact ⟨0, fun h => by rw [e] at h; cases h⟩
  have j7 : Ev (fun K => lw5_TensorMaps.j6 K n (tPower ⟨s, tx A⟩ n).2 (L2 n A) false s (tx A) (tPower ⟨s, tx A⟩ n).1.s (tPower ⟨s, tx A⟩ n).1.d) true := by
   have no : (n < 0 ∨ 6 < n) → Ev (fun K => lw5_TensorMaps.j7 K (tPower ⟨s, tx A⟩ n).2 (L2 n A) true s (tx A) (tPower ⟨s, tx A⟩ n).1.s (tPower ⟨s, tx A⟩ n).1.d) true := fun h => by
    rw [tpower_no (Or.inr h)];exact ev1 fun K => by rw [lw5_TensorMaps.j7, if_pos rfl, if_pos (show ((nilT.d).length : Int) = 0 from rfl), if_pos rfl, awake]; rfl
   by_cases c1 : n < 0
   · exact Ev.step (fun K => by rw [lw5_TensorMaps.j6, if_neg (by decide), if_pos c1]) (no (Or.inl c1))
   refine Ev.step (f := fun K => lw5_TensorMaps.j7 K (tPower ⟨s, tx A⟩ n).2 (L2 n A) (decide (n > 6)) s (tx A) (tPower ⟨s, tx A⟩ n).1.s (tPower ⟨s, tx A⟩ n).1.d) (fun K => by rw [lw5_TensorMaps.j6, if_neg (by decide), if_neg c1]) ?_;by_cases c2 : n > 6
   · rw [decide_eq_true c2]; exact no (Or.inr c2)
   rw [decide_eq_false c2];obtain ⟨m, rfl⟩ := Int.eq_ofNat_of_zero_le (show 0 ≤ n by omega);have hm : m ≤ 6 := by omega
   have oP : Ok s (A.map (· ^ m)) 300 := oA.map _ (fun x hx => by
    have h1 := qm_pow x m;have h2 := Nat.mul_le_mul hm hx;omega)
   have e2 : L2 (m : Int) A = (A.map (· ^ m)).map rs := by unfold L2; rw [if_pos ⟨by omega, by omega⟩, Int.toNat_natCast]
   rw [tpower oA m hm, e2];refine Ev.step (f := fun K => (rf5_Of.f K s ((A.map (· ^ m)).map rs)).bind fun b => (rf5_Equal.f s (tx (A.map (· ^ m))) b.1 b.2).bind fun t => if t = true then (if (0 : Int) = 0 then ((lw5_awake.f).bind fun t => some t) else some false) else some false) (fun K => by rw [lw5_TensorMaps.j7, if_neg (by decide)]) ?_;refine Ev.bind (of_ev s _ (by rw [List.length_map]; omega) (fun x hx => Nat.le_trans (oP.bd x hx) (by decide))) ?_;exact Ev.congr (fun K => by rw [eqO oP, Option.bind_some, if_pos rfl, if_pos rfl, awake]; rfl) (Ev.now true)
  have j5 : Ev (fun K => lw5_TensorMaps.j5 K n (tScale ⟨s, tx A⟩ k).2 (tPower ⟨s, tx A⟩ n).2 ok (L1 ok y A) (L2 n A) false s (tx A) (tScale ⟨s, tx A⟩ k).1.s (tScale ⟨s, tx A⟩ k).1.d (tPower ⟨s, tx A⟩ n).1.s (tPower ⟨s, tx A⟩ n).1.d) true := by
   rcases hor with ⟨e0, _⟩ | ⟨e0, e1⟩
   · subst e0;obtain ⟨rfl, _, _, hy40⟩ := hy rfl;have oS : Ok s (A.map (· * y)) 80 := oA.by hy40
     have e2 : L1 true y A = (A.map (· * y)).map rs := by unfold L1; rw [if_pos rfl]
     rw [tscale oA y, e2];refine Ev.step (f := fun K => (rf5_Of.f K s ((A.map (· * y)).map rs)).bind fun b => (rf5_Equal.f s (tx (A.map (· * y))) b.1 b.2).bind fun t => if t = true then (if (0 : Int) = 0 then lw5_TensorMaps.j6 K n (tPower ⟨s, tx A⟩ n).2 (L2 n A) false s (tx A) (tPower ⟨s, tx A⟩ n).1.s (tPower ⟨s, tx A⟩ n).1.d else lw5_TensorMaps.j6 K n (tPower ⟨s, tx A⟩ n).2 (L2 n A) true s (tx A) (tPower ⟨s, tx A⟩ n).1.s (tPower ⟨s, tx A⟩ n).1.d) else lw5_TensorMaps.j6 K n (tPower ⟨s, tx A⟩ n).2 (L2 n A) true s (tx A) (tPower ⟨s, tx A⟩ n).1.s (tPower ⟨s, tx A⟩ n).1.d) (fun K => by rw [lw5_TensorMaps.j5, if_neg (by decide), if_pos rfl]) ?_;refine Ev.bind (of_ev s _ (by rw [List.length_map]; omega) (fun x hx => Nat.le_trans (oS.bd x hx) (by decide))) ?_;exact Ev.congr (fun K => by rw [eqO oS, Option.bind_some, if_pos rfl, if_pos rfl]) j7
   subst e0;rw [tscale_no (Or.inr e1)];exact Ev.step (fun K => by rw [lw5_TensorMaps.j5, if_neg (by decide), if_neg (by decide)]; rfl) j7
  have hl1 := l1_ev n _ _ _ _ s _ _ _ _ y ok rp rq (fun h => ⟨(hy h).2.1, (hy h).2.2.1, (hy h).2.2.2⟩) A oA rfl rfl j5 A [] rfl;refine Ev.step (fun K => ?_) hl1;have z1 : Wh.zt (su []).num = (⟨#[48]⟩ : ByteArray) := by decide +kernel
  have z2 : txt (su []).den = (⟨#[49]⟩ : ByteArray) := by decide +kernel
  have z3 : L1 ok y [] = [] := by unfold L1; split <;> rfl
  have z4 : L2 n [] = [] := by unfold L2; split <;> rfl
  rw [z1, z2, z3, z4, lw5_TensorMaps.j3, if_pos rfl, tx_len];rfl
 by_cases c : ok = true ∧ shOk s = true
 case neg =>
  have e : (!(ok && shOk s)) = true := by
   cases h3 : ok
   · rfl
   cases h4 : shOk s
   · rfl
   exact absurd ⟨h3, h4⟩ c
  have hf : tFill s k = (nilT, 1) := by
   refine tfill_no ?_;rcases hor with ⟨e0, _⟩ | ⟨e0, e1⟩
   · refine Or.inl ?_
     cases h4 : shOk s
     · rfl
     exact absurd ⟨e0, h4⟩ c
   exact Or.inr e1
  rw [e, hf];exact Ev.step (fun K => by rw [lw5_TensorMaps.j1, if_pos rfl, if_pos (show ((nilT.d).length : Int) = 0 from rfl), if_pos rfl]) j3
 obtain ⟨rfl, hs⟩ := c;rcases hor with ⟨_, y, rfl, hy40, _, rfl, rfl⟩ | ⟨e0, _⟩
 case inr => cases e0
 rw [hs, tfill hs];have hp := shOk_parts hs;have hs1 := sz_pos hp.1;obtain ⟨m, hm'⟩ := Int.eq_ofNat_of_zero_le (show 0 ≤ sz s by omega);have hm64 : m ≤ 64 := by omega
 have oF : Ok s (List.replicate m y) 40 := ⟨hs, by rw [List.length_replicate, hm'], fun x hx => by rw [List.eq_of_mem_replicate hx]; exact hy40⟩;rw [hm', Int.toNat_natCast];refine Ev.step (f := fun K => lw5_TensorMaps.l0 K n (tScale ⟨s, d⟩ (rt y)).2 (tPower ⟨s, d⟩ n).2 (tSum ⟨s, d⟩).1 (tSum ⟨s, d⟩).2 0 true (tRight ⟨s, d⟩) [] (m : Int) 0 s d (tScale ⟨s, d⟩ (rt y)).1.s (tScale ⟨s, d⟩ (rt y)).1.d (tPower ⟨s, d⟩ n).1.s (tPower ⟨s, d⟩ n).1.d s (tx (List.replicate m y)) (Wh.zt y.num) (txt y.den)) (fun K => by rw [lw5_TensorMaps.j1, if_neg (by decide), rf4_Size.of _ hs, Option.bind_some, hm']) ?_;refine l0_ev n _ _ _ _ s _ _ _ _ y 0 true _ [] d s _ m hm64 ?_ m 0 (by omega);refine Ev.step (f := fun K => (rf5_Of.f K s (List.replicate m (rs y))).bind fun b => (rf5_Equal.f s (tx (List.replicate m y)) b.1 b.2).bind fun t => if t = true then (if (0 : Int) = 0 then lw5_TensorMaps.j3 K n (tScale ⟨s, d⟩ (rt y)).2 (tPower ⟨s, d⟩ n).2 (tSum ⟨s, d⟩).1 (tSum ⟨s, d⟩).2 true (tRight ⟨s, d⟩) s d (tScale ⟨s, d⟩ (rt y)).1.s (tScale ⟨s, d⟩ (rt y)).1.d (tPower ⟨s, d⟩ n).1.s (tPower ⟨s, d⟩ n).1.d (Wh.zt y.num) (txt y.den) else some false) else some false) (fun K => by rw [lw5_TensorMaps.l0, if_neg (by omega)]) ?_;have ho := of_ev s (List.replicate m y) (by rw [List.length_replicate]; omega) (fun x hx => Nat.le_trans (oF.bd x hx) (by decide));rw [List.map_replicate] at ho;refine Ev.bind ho ?_;exact Ev.congr (fun K => by rw [eqO oF, Option.bind_some, if_pos rfl, if_pos rfl]) j3
end Go.Proofs.YtlglpffoijdgbaaGreatDoor.Pure
