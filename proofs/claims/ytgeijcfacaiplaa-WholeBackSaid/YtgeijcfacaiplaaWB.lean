/- For the laws of layer 2: the fixed answer, whether texts are short whole numbers, and small words. -/
import Derived.Test.YtgeijcfacaiplaaPQx1
import Derived.Test.YtgeijcfacaiplaaPQx1
set_option linter.unusedSimpArgs false
namespace Go.Proofs.Ytgeijcfacaiplaa.Pure
open Go Go.RowKit Go.Proofs.Ytgeijcfacaiplaa.PQ Go.Proofs.YtgeijcfacaiplaaW.PrintWords Go.Proofs.Ytgeijcfacaiplaa.Th Go.Proofs.Ytgeijcfacaiplaa.Th.Wh
theorem lit {s : ByteArray} {n : Nat} (h : Str.right s = true) (hn : num s = n) : s = zt n := by rw [zt_pos (by omega), ← hn]; exact txt_num h
theorem tl {x y : Int} (h : x = y) : (zt x).toList = (zt y).toList := by rw [h]
theorem zt_iff {x y : Int} : (zt x).toList = (zt y).toList ↔ x = y := by
  constructor
  · intro h
    rw [ByteArray.toList_eq, ByteArray.toList_eq] at h
    exact zt_inj (ext_of h)
  · exact tl
theorem ft {x : Int} {d : Nat} (h : zs x ≤ d) (hd : d ≤ 274877906944 := by decide) : Ft x := Nat.le_trans h hd
theorem za {x y : Int} {d e : Nat} (hx : zs x ≤ d) (hy : zs y ≤ e) : zs (x + y) ≤ d + e + 1 := by have := zs_add x y; omega
theorem zb {x y : Int} {d e : Nat} (hx : zs x ≤ d) (hy : zs y ≤ e) : zs (x - y) ≤ d + e + 1 := by have := zs_sub x y; omega
theorem zm {x y : Int} {d e : Nat} (hx : zs x ≤ d) (hy : zs y ≤ e) : zs (x * y) ≤ d + e := by have := zs_mul x y; omega
theorem zn {x : Int} {d : Nat} (hx : zs x ≤ d) : zs (-x) ≤ d := by rw [zs_neg]; exact hx
theorem small {x : Int} (h : x.natAbs < 1000) : zs x ≤ 3 := size_le (d := 3) (by omega) (by omega)
theorem z0 : (⟨#[48]⟩ : ByteArray) = zt 0 := lit (n := 0) (by decide +kernel) (by decide +kernel)
theorem z1 : (⟨#[49]⟩ : ByteArray) = zt 1 := lit (n := 1) (by decide +kernel) (by decide +kernel)
theorem z2 : (⟨#[50]⟩ : ByteArray) = zt 2 := lit (n := 2) (by decide +kernel) (by decide +kernel)
theorem z3 : (⟨#[51]⟩ : ByteArray) = zt 3 := lit (n := 3) (by decide +kernel) (by decide +kernel)
theorem z5 : (⟨#[53]⟩ : ByteArray) = zt 5 := lit (n := 5) (by decide +kernel) (by decide +kernel)
theorem z6 : (⟨#[54]⟩ : ByteArray) = zt 6 := lit (n := 6) (by decide +kernel) (by decide +kernel)
theorem z7 : (⟨#[55]⟩ : ByteArray) = zt 7 := lit (n := 7) (by decide +kernel) (by decide +kernel)
theorem zneg {c : UInt8} {n : Nat} (hn : n ≠ 0) (h : (⟨#[c]⟩ : ByteArray) = zt n) : (⟨#[45, c]⟩ : ByteArray) = zt (-(n : Int)) := by
  apply ext_of
  rw [zt_neg (by omega), show (-(n : Int)).natAbs = n by omega]
  have h2 : txt n = ⟨#[c]⟩ := by rw [h, zt_pos (by omega)]; rfl
  rw [h2]
theorem m1 : (⟨#[45, 49]⟩ : ByteArray) = zt (-1) := zneg (n := 1) (by decide) z1
theorem m2 : (⟨#[45, 50]⟩ : ByteArray) = zt (-2) := zneg (n := 2) (by decide) z2
theorem m3 : (⟨#[45, 51]⟩ : ByteArray) = zt (-3) := zneg (n := 3) (by decide) z3
theorem m7 : (⟨#[45, 55]⟩ : ByteArray) = zt (-7) := zneg (n := 7) (by decide) z7
theorem ml {s : ByteArray} {l : List UInt8} {z : Int} (h : s = zt z) (e : s.data.toList = l) : (zt z).toList = l := by rw [← h, ByteArray.toList_eq, e]
theorem minus0 : right (⟨#[45, 48]⟩ : ByteArray) = false := by
  cases h : right (⟨#[45, 48]⟩ : ByteArray) with
  | false => rfl
  | true =>
    exfalso
    obtain ⟨z, hz⟩ := zt_of_right h
    by_cases h0 : z < 0
    · have e := zt_neg h0
      rw [← hz] at e
      have e2 : [48] = (txt z.natAbs).data.toList := by injection e
      have e3 := zero_toList.1 ((ByteArray.toList_eq _).trans e2.symm)
      omega
    · obtain ⟨c, l, hc, h1, _⟩ := txt_head z.natAbs
      rw [← zt_pos h0, ← hz] at hc
      injection hc with e1
      rw [← e1] at h1
      exact absurd h1 (by decide)
theorem awake_true : tapewrightlaw02_awake.f = some true := by
  have e1 : whole_Sub.f (zt 3) (zt 5) = some (zt (-2), 0) := whole_Sub.zt (ft (small (by decide))) (ft (small (by decide)))
  have e2 : whole_Mul.f (zt (-2)) (zt (-3)) = some (zt 6, 0) := whole_Mul.zt (ft (small (by decide))) (ft (small (by decide)))
  have l1 : (zt (-2)).toList = ([45, 50] : List UInt8) := ml m2 rfl
  have l2 : (zt 6).toList = ([54] : List UInt8) := ml z6 rfl
  rw [tapewrightlaw02_awake.f, z3, z5, m2, m3, m7, e1, Option.bind_some, e2, Option.bind_some, if_pos l1, if_pos rfl, if_pos l2, if_pos rfl, whole_Right.of, right_zt, Option.bind_some, if_pos rfl, whole_Right.of, minus0, Option.bind_some]
  rfl
/-- A short whole number. -/
def ok (s : ByteArray) : Bool := decide (s.size ≤ 100) && right s
theorem rdOf_mid (p s : List ByteArray) (x : ByteArray) : rdOf ByteArray.empty (p ++ x :: s) (p.length : Int) = x := by
  unfold rdOf
  simp [List.getD]
theorem short_l0 (q : List ByteArray) : ∀ p : List ByteArray, (p ++ q).length ≤ 1000 → Ev (fun k => tapewrightlaw02_short.l0 k (p ++ q) ((p ++ q).length : Int) (p.length : Int)) (q.all ok) := by
  induction q with
  | nil =>
    intro p h
    exact Ev.step (fun k => by rw [tapewrightlaw02_short.l0, if_neg (by simp)]; rfl) (Ev.now _)
  | cons x q ih =>
    intro p h
    have h1 : (p.length : Int) < ((p ++ x :: q).length : Int) := by simp; omega
    have h2 : p.length ≤ 1000 := by simp at h; omega
    rw [List.all_cons]
    by_cases hx : x.size ≤ 100
    · have e := tapewrightref02_Right.of (a := x) (by omega)
      have h3 : Aside0 (wrap64 ((p.length : Int) + 1) = (p.length : Int) + 1) := ⟨w64 (by omega) (by omega)⟩
      cases hr : right x with
      | true =>
        have hi := ih (p ++ [x]) (by simpa using h)
        rw [hr] at e
        rw [ok, decide_eq_true hx, hr, Bool.true_and, Bool.true_and]
        refine Ev.step (fun k => by rw [tapewrightlaw02_short.l0, if_pos h1, if_pos (by omega), if_pos h1, rdOf_mid, if_neg (by omega), e, Option.bind_some, if_pos rfl, h3.out]) ?_
        simpa using hi
      | false =>
        rw [hr] at e
        rw [ok, hr, Bool.and_false, Bool.false_and]
        exact Ev.step (fun k => by rw [tapewrightlaw02_short.l0, if_pos h1, if_pos (by omega), if_pos h1, rdOf_mid, if_neg (by omega), e, Option.bind_some, if_neg (by simp)]) (Ev.now _)
    · rw [ok, decide_eq_false hx, Bool.false_and, Bool.false_and]
      exact Ev.step (fun k => by rw [tapewrightlaw02_short.l0, if_pos h1, if_pos (by omega), if_pos h1, rdOf_mid, if_pos (by omega)]) (Ev.now _)
theorem short_ev (l : List ByteArray) (h : l.length ≤ 1000) : Ev (fun k => tapewrightlaw02_short.f k l) (l.all ok) := short_l0 l [] (by simpa using h)
theorem ok_zt {s : ByteArray} (h : ok s = true) : ∃ x, s = zt x ∧ zs x ≤ 100 := by
  unfold ok at h
  rw [Bool.and_eq_true, decide_eq_true_eq] at h
  obtain ⟨x, rfl⟩ := zt_of_right h.2
  exact ⟨x, rfl, Nat.le_trans (zs_le x).1 h.1⟩
theorem sgn_neg (x : Int) : sgn (-x) = -(sgn x) := by unfold sgn; split <;> split <;> (try split) <;> omega
theorem sgn_zero {x : Int} : sgn x = 0 ↔ x = 0 := by unfold sgn; split <;> (try split) <;> omega
theorem sgn_le (x : Int) : -1 ≤ sgn x ∧ sgn x ≤ 1 := by unfold sgn; split <;> (try split) <;> omega
theorem wneg (x : Int) : wrap64 (-(sgn x)) = -(sgn x) := by have := sgn_le x; exact w64 (by omega) (by omega)
theorem sgn_pos {x : Int} : sgn x > 0 ↔ x > 0 := by unfold sgn; split <;> (try split) <;> omega
theorem beq_both {a b : Bool} (h : a = true ↔ b = true) : (a == b) = true := by cases a <;> cases b <;> simp at h ⊢
end Go.Proofs.Ytgeijcfacaiplaa.Pure
