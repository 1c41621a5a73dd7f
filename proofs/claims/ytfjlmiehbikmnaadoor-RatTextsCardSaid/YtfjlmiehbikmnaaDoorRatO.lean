/- rat.Add, Sub, Mul, Quo, told by rationals. -/
import Derived.Test.YtfjlmiehbikmnaaDoorRatB
namespace Go.Proofs.YtfjlmiehbikmnaaDoor.Err
open Go Go.RowKit Go.Extern.Stop Go.Stop Go.Extern Go.Proofs.YtfjlmiehbikmnaaDoorW.PrintWords Go.Proofs.YtfjlmiehbikmnaaDoor.PC Go.Proofs.YtfjlmiehbikmnaaDoor.Th Go.Proofs.YtfjlmiehbikmnaaDoor.Th.Wh
theorem times_zt (a b : Int) (ha : zs a ≤ 40000000000) (hb : zs b ≤ 40000000000) : rat_times.f (zt a) (zt b) = some (zt (a * b)) := by
  rw [rat_times.f, whole_Mul.zt (Nat.le_trans ha (by decide)) (Nat.le_trans hb (by decide)), Option.bind_some]
theorem lowest_ok {aF aZ : Addr} (a b : Int) (hb : b ≠ 0) (ha : zs a ≤ 100000000000) (hb' : zs b ≤ 100000000000) (w : World) :
    Calls Tryd.prog 28 #[.string (zt a), .string (zt b)] w fun e w' => ∃ v, e = .returned (.tuple #[.agg #[.string (zt (Rat.divInt a b).num), .string (txt (Rat.divInt a b).den)], v]) ∧ ErrV aF aZ w' v 0 ∧ Below w.heap.size w w' :=
  (lowest_rt a b hb ha hb' w).mono fun _ _ ⟨h1, h2⟩ => ⟨_, h1, Or.inl ⟨rfl, rfl⟩, h2⟩
/-- What the four make of two texts. -/
noncomputable def rAdd (a b : ByteArray) : ByteArray × Int := match rv a, rv b with | some x, some y => (rt (x + y), 0) | _, _ => (⟨#[]⟩, 2)
noncomputable def rSub (a b : ByteArray) : ByteArray × Int := match rv a, rv b with | some x, some y => (rt (x - y), 0) | _, _ => (⟨#[]⟩, 2)
noncomputable def rMul (a b : ByteArray) : ByteArray × Int := match rv a, rv b with | some x, some y => (rt (x * y), 0) | _, _ => (⟨#[]⟩, 2)
noncomputable def rQuo (a b : ByteArray) : ByteArray × Int := match rv a, rv b with | some x, some y => if y = 0 then (⟨#[]⟩, 3) else (rt (x / y), 0) | _, _ => (⟨#[]⟩, 2)
theorem rv_cases (s : ByteArray) : (rv s = none) ∨ ∃ x, s = rt x ∧ rv s = some x := by
  cases h : rv s with
  | none => exact Or.inl rfl
  | some x => exact Or.inr ⟨x, rv_some h, rfl⟩
theorem den_pos {x y : Rat} : ((x.den * y.den : Nat) : Int) ≠ 0 := by
  have := Nat.mul_ne_zero x.den_nz y.den_nz
  omega
theorem cast_den (x y : Rat) : ((x.den * y.den : Nat) : Int) = (x.den : Int) * (y.den : Int) := by simp
set_option maxHeartbeats 4000000
set_option maxRecDepth 1000000
theorem both_add_any {aF aZ : Addr} (a b : ByteArray) (ha : a.size ≤ 40000000000) (hb : b.size ≤ 40000000000) (w : World) (hG : GsAt aF aZ w) :
    Calls Tryd.prog 24 #[.string a, .string b, (.func (.func 25) #[] #[])] w fun e w' => e = .returned (.tuple #[.string (rAdd a b).1, .int .i64 (rAdd a b).2]) ∧ Below w.heap.size w w' := by
  rcases rv_cases a with h | ⟨x, hx, h⟩
  · rw [rAdd, h]
    exact both_no1 a b _ w hG (fun w hG => read_not a h ha w hG)
  rcases rv_cases b with h' | ⟨y, hy, h'⟩
  · rw [rAdd, h, h']
    subst hx
    have := qm_le x
    exact both_no2 (rt x) b _ _ _ w hG (fun w => read_rt x (by omega) w) (fun w hG => read_not b h' hb w hG)
  · rw [rAdd, h, h']
    subst hx hy
    have hx := Nat.le_trans (qm_le x) ha
    have hy := Nat.le_trans (qm_le y) hb
    have x1 := qm_num x
    have x2 := qm_den x
    have y1 := qm_num y
    have y2 := qm_den y
    have dx : zs (x.den : Int) ≤ 40000000000 := by rw [zs_cast]; omega
    have dy : zs (y.den : Int) ≤ 40000000000 := by rw [zs_cast]; omega
    have nx : zs x.num ≤ 40000000000 := by omega
    have ny : zs y.num ≤ 40000000000 := by omega
    dsimp only
    have hl := fun (w : World) (_ : GsAt aF aZ w) => lowest_ok (aF := aF) (aZ := aZ) (x.num * y.den + y.num * x.den) ((x.den * y.den : Nat) : Int) den_pos (by have := zs_add (x.num * y.den) (y.num * x.den); have := cross x y; have := cross y x; omega) (by have := den_mul' x y; omega) w
    rw [← add_divInt, cast_den] at hl
    have hm := qm_add x y
    exact both_Add (rt x) (rt y) _ _ _ _ _ _ (rt (x + y)) 0 w hG (fun w => read_rt x (by omega) w) (fun w => read_rt y (by omega) w)
      (fun w hG => add1 _ _ _ _ _ _ (zt (x.num * y.den + y.num * x.den)) (zt ((x.den : Int) * (y.den : Int))) _ _ 0 w hG (by rw [← zt_nat, times_zt _ _ nx dy]) (by rw [← zt_nat, times_zt _ _ ny dx]) (whole_Add.zt (Nat.le_trans (cross x y) (by omega)) (Nat.le_trans (cross y x) (by omega))) (by rw [← zt_nat, ← zt_nat, times_zt _ _ dx dy]) hl)
      (fun _ => text_rt _ (by omega)) (fun h => absurd rfl h)
theorem both_sub_any {aF aZ : Addr} (a b : ByteArray) (ha : a.size ≤ 40000000000) (hb : b.size ≤ 40000000000) (w : World) (hG : GsAt aF aZ w) :
    Calls Tryd.prog 24 #[.string a, .string b, (.func (.func 35) #[] #[])] w fun e w' => e = .returned (.tuple #[.string (rSub a b).1, .int .i64 (rSub a b).2]) ∧ Below w.heap.size w w' := by
  rcases rv_cases a with h | ⟨x, hx, h⟩
  · rw [rSub, h]
    exact both_no1 a b _ w hG (fun w hG => read_not a h ha w hG)
  rcases rv_cases b with h' | ⟨y, hy, h'⟩
  · rw [rSub, h, h']
    subst hx
    have := qm_le x
    exact both_no2 (rt x) b _ _ _ w hG (fun w => read_rt x (by omega) w) (fun w hG => read_not b h' hb w hG)
  · rw [rSub, h, h']
    subst hx hy
    have hx := Nat.le_trans (qm_le x) ha
    have hy := Nat.le_trans (qm_le y) hb
    have x1 := qm_num x
    have x2 := qm_den x
    have y1 := qm_num y
    have y2 := qm_den y
    have dx : zs (x.den : Int) ≤ 40000000000 := by rw [zs_cast]; omega
    have dy : zs (y.den : Int) ≤ 40000000000 := by rw [zs_cast]; omega
    have nx : zs x.num ≤ 40000000000 := by omega
    have ny : zs y.num ≤ 40000000000 := by omega
    dsimp only
    have hl := fun (w : World) (_ : GsAt aF aZ w) => lowest_ok (aF := aF) (aZ := aZ) (x.num * y.den - y.num * x.den) ((x.den * y.den : Nat) : Int) den_pos (by have := zs_sub (x.num * y.den) (y.num * x.den); have := cross x y; have := cross y x; omega) (by have := den_mul' x y; omega) w
    rw [← sub_divInt, cast_den] at hl
    have hm := qm_sub x y
    exact both_Sub (rt x) (rt y) _ _ _ _ _ _ (rt (x - y)) 0 w hG (fun w => read_rt x (by omega) w) (fun w => read_rt y (by omega) w)
      (fun w hG => sub1 _ _ _ _ _ _ (zt (x.num * y.den - y.num * x.den)) (zt ((x.den : Int) * (y.den : Int))) _ _ 0 w hG (by rw [← zt_nat, times_zt _ _ nx dy]) (by rw [← zt_nat, times_zt _ _ ny dx]) (whole_Sub.zt (Nat.le_trans (cross x y) (by omega)) (Nat.le_trans (cross y x) (by omega))) (by rw [← zt_nat, ← zt_nat, times_zt _ _ dx dy]) hl)
      (fun _ => text_rt _ (by omega)) (fun h => absurd rfl h)
theorem both_mul_any {aF aZ : Addr} (a b : ByteArray) (ha : a.size ≤ 40000000000) (hb : b.size ≤ 40000000000) (w : World) (hG : GsAt aF aZ w) :
    Calls Tryd.prog 24 #[.string a, .string b, (.func (.func 33) #[] #[])] w fun e w' => e = .returned (.tuple #[.string (rMul a b).1, .int .i64 (rMul a b).2]) ∧ Below w.heap.size w w' := by
  rcases rv_cases a with h | ⟨x, hx, h⟩
  · rw [rMul, h]
    exact both_no1 a b _ w hG (fun w hG => read_not a h ha w hG)
  rcases rv_cases b with h' | ⟨y, hy, h'⟩
  · rw [rMul, h, h']
    subst hx
    have := qm_le x
    exact both_no2 (rt x) b _ _ _ w hG (fun w => read_rt x (by omega) w) (fun w hG => read_not b h' hb w hG)
  · rw [rMul, h, h']
    subst hx hy
    have hx := Nat.le_trans (qm_le x) ha
    have hy := Nat.le_trans (qm_le y) hb
    have x1 := qm_num x
    have x2 := qm_den x
    have y1 := qm_num y
    have y2 := qm_den y
    have dx : zs (x.den : Int) ≤ 40000000000 := by rw [zs_cast]; omega
    have dy : zs (y.den : Int) ≤ 40000000000 := by rw [zs_cast]; omega
    have nx : zs x.num ≤ 40000000000 := by omega
    have ny : zs y.num ≤ 40000000000 := by omega
    dsimp only
    have hl := fun (w : World) (_ : GsAt aF aZ w) => lowest_ok (aF := aF) (aZ := aZ) (x.num * y.num) ((x.den * y.den : Nat) : Int) den_pos (by have := zs_mul x.num y.num; omega) (by have := den_mul' x y; omega) w
    rw [← mul_divInt, cast_den] at hl
    have hm := qm_mul x y
    exact both_Mul (rt x) (rt y) _ _ _ _ _ _ (rt (x * y)) 0 w hG (fun w => read_rt x (by omega) w) (fun w => read_rt y (by omega) w)
      (fun w hG => mul1 _ _ _ _ _ _ (zt (x.num * y.num)) (zt ((x.den : Int) * (y.den : Int)))  0 w hG (times_zt _ _ nx ny) (by rw [← zt_nat, ← zt_nat, times_zt _ _ dx dy]) hl)
      (fun _ => text_rt _ (by omega)) (fun h => absurd rfl h)
theorem both_quo_any {aF aZ : Addr} (a b : ByteArray) (ha : a.size ≤ 40000000000) (hb : b.size ≤ 40000000000) (w : World) (hG : GsAt aF aZ w) :
    Calls Tryd.prog 24 #[.string a, .string b, (.func (.func 32) #[] #[])] w fun e w' => e = .returned (.tuple #[.string (rQuo a b).1, .int .i64 (rQuo a b).2]) ∧ Below w.heap.size w w' := by
  rcases rv_cases a with h | ⟨x, hx, h⟩
  · rw [rQuo, h]
    exact both_no1 a b _ w hG (fun w hG => read_not a h ha w hG)
  rcases rv_cases b with h' | ⟨y, hy, h'⟩
  · rw [rQuo, h, h']
    subst hx
    have := qm_le x
    exact both_no2 (rt x) b _ _ _ w hG (fun w => read_rt x (by omega) w) (fun w hG => read_not b h' hb w hG)
  · rw [rQuo, h, h']
    subst hx hy
    have hx := Nat.le_trans (qm_le x) ha
    have hy := Nat.le_trans (qm_le y) hb
    have x1 := qm_num x
    have x2 := qm_den x
    have y1 := qm_num y
    have y2 := qm_den y
    have dx : zs (x.den : Int) ≤ 40000000000 := by rw [zs_cast]; omega
    have dy : zs (y.den : Int) ≤ 40000000000 := by rw [zs_cast]; omega
    have nx : zs x.num ≤ 40000000000 := by omega
    have ny : zs y.num ≤ 40000000000 := by omega
    dsimp only
    have f1 : rat_times.f (zt x.num) (txt y.den) = some (zt (x.num * y.den)) := by rw [← zt_nat, times_zt _ _ nx dy]
    have f2 : rat_times.f (txt x.den) (zt y.num) = some (zt (x.den * y.num)) := by rw [← zt_nat, times_zt _ _ dx ny]
    have hc := cross x y
    have hc' := cross' x y
    by_cases h0 : y = 0
    · rw [if_pos h0]
      have e0 : (x.den : Int) * y.num = 0 := by rw [h0, Rat.zero_num, Int.mul_zero]
      rw [e0, show zt 0 = (⟨#[48]⟩ : ByteArray) from (zt_nat 0).trans (txt_small 0 (by decide))] at f2
      have hz := (zs_le (x.num * y.den)).2
      exact both_Quo (rt x) (rt y) _ _ _ _ _ _ _ 3 w hG (fun w => read_rt x (by omega) w) (fun w => read_rt y (by omega) w)
        (fun w hG => quo1 _ _ _ _ _ _ _ _ 3 w hG f1 f2 (fun w hG => lowest_zero _ w hG (by omega)))
        (fun h => absurd h (by decide)) (fun _ => rfl)
    · rw [if_neg h0]
      have hd : (x.den : Int) * y.num ≠ 0 := by
        intro e
        rcases Int.mul_eq_zero.1 e with e | e
        · have := x.den_nz
          omega
        · exact h0 (Rat.num_eq_zero.1 e)
      have hl := fun (w : World) (_ : GsAt aF aZ w) => lowest_ok (aF := aF) (aZ := aZ) (x.num * y.den) ((x.den : Int) * y.num) hd (by omega) (by omega) w
      rw [← quo_divInt] at hl
      have hm := qm_div x y
      exact both_Quo (rt x) (rt y) _ _ _ _ _ _ (rt (x / y)) 0 w hG (fun w => read_rt x (by omega) w) (fun w => read_rt y (by omega) w)
        (fun w hG => quo1 _ _ _ _ _ _ _ _ 0 w hG f1 f2 hl)
        (fun _ => text_rt _ (by omega)) (fun h => absurd rfl h)
theorem add_calls (a b : ByteArray) (ha : a.size ≤ 40000000000) (hb : b.size ≤ 40000000000) (w : World) (hG : Gs w) :
    Calls Tryd.prog 14 #[.string a, .string b] w fun e w' => e = .returned (.tuple #[.string (rAdd a b).1, .int .i64 (rAdd a b).2]) ∧ Below w.heap.size w w' := by
  obtain ⟨aF, aZ, hG⟩ := hG
  have KB := Aside0.mk (both_add_any a b ha hb w hG)
  clear ha hb hG
  generalize rAdd a b = r at KB ⊢
  go_enter Tryd.func14, Tryd.ntmps14
  go_wp2_with (go_at_call 24; with_reducible refine (KB.out).mono ?_; rintro e w' ⟨rfl, hb⟩; have HB := Aside0.mk hb; clear hb)
  go_ret2
  exact ⟨rfl, HB.out⟩
theorem sub_calls (a b : ByteArray) (ha : a.size ≤ 40000000000) (hb : b.size ≤ 40000000000) (w : World) (hG : Gs w) :
    Calls Tryd.prog 20 #[.string a, .string b] w fun e w' => e = .returned (.tuple #[.string (rSub a b).1, .int .i64 (rSub a b).2]) ∧ Below w.heap.size w w' := by
  obtain ⟨aF, aZ, hG⟩ := hG
  have KB := Aside0.mk (both_sub_any a b ha hb w hG)
  clear ha hb hG
  generalize rSub a b = r at KB ⊢
  go_enter Tryd.func20, Tryd.ntmps20
  go_wp2_with (go_at_call 24; with_reducible refine (KB.out).mono ?_; rintro e w' ⟨rfl, hb⟩; have HB := Aside0.mk hb; clear hb)
  go_ret2
  exact ⟨rfl, HB.out⟩
theorem mul_calls (a b : ByteArray) (ha : a.size ≤ 40000000000) (hb : b.size ≤ 40000000000) (w : World) (hG : Gs w) :
    Calls Tryd.prog 18 #[.string a, .string b] w fun e w' => e = .returned (.tuple #[.string (rMul a b).1, .int .i64 (rMul a b).2]) ∧ Below w.heap.size w w' := by
  obtain ⟨aF, aZ, hG⟩ := hG
  have KB := Aside0.mk (both_mul_any a b ha hb w hG)
  clear ha hb hG
  generalize rMul a b = r at KB ⊢
  go_enter Tryd.func18, Tryd.ntmps18
  go_wp2_with (go_at_call 24; with_reducible refine (KB.out).mono ?_; rintro e w' ⟨rfl, hb⟩; have HB := Aside0.mk hb; clear hb)
  go_ret2
  exact ⟨rfl, HB.out⟩
theorem quo_calls (a b : ByteArray) (ha : a.size ≤ 40000000000) (hb : b.size ≤ 40000000000) (w : World) (hG : Gs w) :
    Calls Tryd.prog 17 #[.string a, .string b] w fun e w' => e = .returned (.tuple #[.string (rQuo a b).1, .int .i64 (rQuo a b).2]) ∧ Below w.heap.size w w' := by
  obtain ⟨aF, aZ, hG⟩ := hG
  have KB := Aside0.mk (both_quo_any a b ha hb w hG)
  clear ha hb hG
  generalize rQuo a b = r at KB ⊢
  go_enter Tryd.func17, Tryd.ntmps17
  go_wp2_with (go_at_call 24; with_reducible refine (KB.out).mono ?_; rintro e w' ⟨rfl, hb⟩; have HB := Aside0.mk hb; clear hb)
  go_ret2
  exact ⟨rfl, HB.out⟩
end Go.Proofs.YtfjlmiehbikmnaaDoor.Err
