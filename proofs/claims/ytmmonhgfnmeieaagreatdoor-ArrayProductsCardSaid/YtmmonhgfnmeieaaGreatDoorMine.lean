/- Words of our own for walks: make with a length of 0 and a capacity; greater-than of strings. -/
import Derived.ArgAppend
import Derived.Below
import Derived.BigQuiet
import Derived.Deep.AppendLies
import Derived.Deep.CutBlock
import Derived.Deep.DeepCutAuto
import Derived.Deep.Draws
import Derived.Deep.LoopGhost
import Derived.Deep.OwnRows
import Derived.Deep.QuietTactic
import Derived.Deep.RegionHeld3
import Derived.KernelRfl
import Derived.Laws.BitsLemmas
import Derived.Laws.BytesArg
import Derived.Laws.IdiomCopy
import Derived.Laws.MakeOwn
import Derived.Laws.OwnMore
import Derived.Laws.Rows
import Derived.Laws.Slices
import Derived.Lib.AppendStr
import Derived.Lib.ConvBytes
import Derived.Maps.AppendAt
import Derived.OrdersHeld
import Derived.OwnWalk
import Derived.RowKit
import Derived.RowKit3
import Derived.Tactics
import Derived.WalkKit
import Derived.WideLaws
import Derived.Test.YtmmonhgfnmeieaaGreatDoorWd
import Derived.Lib.SliceRun
namespace Go.Proofs.YtmmonhgfnmeieaaGreatDoor.Mine
open Go Go.RowKit Go.ZPWords Go.ZPLast Go.ZPMore
theorem R_make0 {α : Type} {P : Program} {ops : Array Oper} {rest : List Oper} {o : Oper} {a : Act} {Q : Exit → Act → World → Prop} (d : Kd α) {w0 W : World} (base e : Nat) (hgd : o.guard = none) {N : Tmp} (_hd : o.dst = some N) (t : TypeId) (x y : Operand) (ho : o.op = .makeSlice t x y) (n : Int) (hx : a.eval x = .int .i64 0) (hy : a.eval y = .int .i64 n)
    (ht : P.underlying t = some (.slice e)) (z : Value) (bytes : Nat) (hinfo : (P.info? e).map (fun i => (i.zero, i.size, i.bytes)) = some (some z, d.sz, bytes)) (_hs0 : 0 < d.sz) (hb0 : 0 < bytes)
    {ok : Nat → Prop} (hfresh : ok W.heap.size) (h0 : 0 ≤ n) (hl : n.toNat * bytes ≤ 281474976710656) (HB : Below base w0 W) (hbase : base ≤ W.heap.size)
    (h : ∀ v1 w1, d.R e w1 base ok v1 [] → Below base w0 w1 → W.grownBy w1 none → (∃ b, v1.ownBlock = some b ∧ W.heap.size ≤ b) → wpList P ops Q rest (a.put o.dst v1) w1) : wpList P ops Q (o :: rest) a W := by
  obtain ⟨m, rfl⟩ := Int.eq_ofNat_of_zero_le h0
  simp only [Int.toNat_natCast] at hl
  obtain ⟨i0, hi, hzz⟩ := Option.map_eq_some_iff.1 hinfo
  simp only [Prod.mk.injEq] at hzz
  obtain ⟨hz0, hz1, hz2⟩ := hzz
  have hm : m ≤ 281474976710656 := Nat.le_trans (Nat.le_mul_of_pos_right _ hb0) hl
  have hbb : i0.bytes * m ≤ 281474976710656 := by rw [hz2, Nat.mul_comm]; exact hl
  have hr := run_make (P := P) W t e i0 z ht hi hz0 .i64 .i64 0 (m : Int) (by omega) (by omega)
    (by
      have h3 : ((i0.bytes * m : Nat) : Int) ≤ 281474976710656 := by omega
      rwa [Int.natCast_mul] at h3) (by omega)
  simp only [Int.toNat_natCast, Int.toNat_zero] at hr
  have hrun : (execOp a.eval o).run P W = .ok (.value (.slice (some ⟨W.heap.size, 0, none⟩) 0 m)) (W.alloc (.cells (madeCells z.cells (m * i0.size)) e)) := by
    simp [execOp, ho, hx, hy, hr]
  refine Kd.event_run hgd hrun (h _ _ ⟨fun k hk => ?_, [], ?_, Reps.none _ _⟩ (HB.alloc hbase _) (World.grownBy_alloc W _ none) ⟨W.heap.size, by simp [Value.ownBlock], Nat.le_refl _⟩)
  · have : W.heap.size = k := by simpa [Value.ownBlock] using hk
    subst this
    exact hfresh
  · have := World.ownsRow_made (base := base) W (madeCells z.cells (m * i0.size)) (e := e) (size := d.sz) m hbase (by simp [maxLen]; omega) (by rw [size_madeCells, hz1])
    simpa using this
theorem bytesLess_eq : ∀ (x y : List UInt8), Op.bytesLess x y = decide (x < y)
  | [], [] => by simp [Op.bytesLess]
  | _ :: _, [] => by simp [Op.bytesLess]
  | [], _ :: _ => by simp [Op.bytesLess]
  | a :: x, b :: y => by
    rw [Op.bytesLess, bytesLess_eq x y]
    simp only [List.cons_lt_cons_iff]
    by_cases h1 : a < b <;> by_cases h2 : a = b <;> by_cases h3 : x < y <;> simp [h1, h2, h3]
theorem gtr_aux (a b : List UInt8) : Op.bytesLess b a = !(Op.bytesLess a b || a == b) := by
  rw [bytesLess_eq, bytesLess_eq]
  by_cases h : a < b
  · simp [h, List.lt_asymm h]
  · by_cases h2 : a = b
    · subst h2; simp [h]
    · have h3 : b < a := by
        rcases List.le_iff_lt_or_eq.1 (List.not_lt.1 h) with h4 | h4
        · exact h4
        · exact absurd h4.symm h2
      simp [h, h2, h3]
@[go_sem] theorem binOp_string_gtr' (t : TypeId) (a b : ByteArray) : binOp .gtr t (.string a) (.string b) = pure (.bool (Op.bytesLess b.toList a.toList)) := by
  rw [gtr_aux a.toList b.toList]; simp [binOp, Op.stringOp]
end Go.Proofs.YtmmonhgfnmeieaaGreatDoor.Mine
namespace Go.ZPWords
set_option linter.unusedVariables false
open Go Go.RowKit Go.ZPLast Go.ZPMore
theorem T1_ {p : Prop} (h : p := by repeat (first | (with_reducible first | exact HB.out | apply below_alloc | apply pw_below_drewN | apply below_drew1) | exact HB.out)) : p := h
theorem T2_ {p : Prop} (h : p := by (try simp only [List.map_toArray, List.map_cons, List.map_nil]); first | done | rfl | (simp only [List.length_drop, List.length_take]; rfl)) : p := h
theorem T3_ {p : Prop} (h : p := by first | (go_simp; done) | (go_simp; rfl)) : p := h
theorem T4_ {p : Prop} (h : p := by first | rfl | (simp [errW_none, errW_some] <;> rfl) | (simp [*, errW_none, errW_some] <;> rfl)) : p := h
theorem T5_ {p : Prop} (h : p := by repeat (first | (with_reducible first | exact HK.out | apply Kept.alloc | apply Kept.drewN | apply Kept.drew) | exact HK.out)) : p := h
theorem K1_ {q p : Prop} (ho : Aside0 q) (h : q → p := by intro hx_; (with_reducible repeat (first | apply Kd.R_alloc | apply Kd.R_drewN | apply Kd.R_drew)); exact hx_) : p := h ho.out
theorem T6_ {p : Prop} (h : p := by repeat (first | (with_reducible first | exact HB.out | apply below_alloc | apply pw_below_drewN | apply below_drew1 | refine below_set ?_ GE.out | refine below_set ?_ GE2.out | refine below_set ?_ GE3.out | refine below_set ?_ GE4.out | refine below_set ?_ GE6.out | refine below_set ?_ GE7.out | refine below_set ?_ GE8.out | refine below_set ?_ GE10.out) | exact HB.out)) : p := h
theorem T9_ {p : Prop} (h : p := by repeat (first | (with_reducible first | exact HB.out | apply below_alloc | apply pw_below_drewN | apply below_drew1 | refine below_set ?_ (Aside0.out (by assumption))) | exact HB.out)) : p := h
theorem BF_ {w W w' : World} {g : Nat} {o : Obj} (bk : Aside0 (w.heap[g]? = some o)) (hb : Below W.heap.size W w') (h : w.heap[g]? = some o → W.heap[g]? = some o := by intro hx_; (with_reducible repeat (first | refine blk_drewN ?_ _ | refine blk_drew ?_ | refine blk_alloc ?_ _)); exact hx_) : Aside0 (w'.heap[g]? = some o) := ⟨blk_below (h bk.out) hb⟩
theorem BG_ {w W w' : World} {g : Nat} {t : TypeId} {cs : Array Value} (bk : Aside0 (w.heap[g]? = some (.cells cs t (0, 0)))) (hb : Below W.heap.size W w') (h : w.heap[g]? = some (.cells cs t (0, 0)) → W.heap[g]? = some (.cells cs t (0, 0)) := by intro hx_; repeat (first | exact hx_ | (with_reducible refine blk_drewN ?_ _) | (with_reducible refine blk_drew ?_) | (with_reducible refine blk_alloc ?_ _) | refine blk_far ?_ (Aside0.out (by assumption)) _)) : Aside0 (w'.heap[g]? = some (.cells cs t (0, 0))) := ⟨blk_below (h bk.out) hb⟩
theorem B1_ {q p : Prop} (ho : q) (h : q → p := by intro hx_; (with_reducible repeat (first | refine blk_drewN ?_ _ | refine blk_drew ?_ | refine blk_alloc ?_ _)); exact hx_) : p := h ho
theorem C1_ {q p : Prop} (ho : q) (h : q → p := by intro hx_; repeat (first | exact hx_ | (with_reducible refine Kd.C_alloc ?_ _) | (with_reducible refine Kd.C_drewN ?_ _) | (with_reducible refine Kd.C_drew ?_))) : p := h ho
theorem NB_ {w W : World} {g g' : Nat} {o : Obj} (bk : Aside0 (w.heap[g]? = some o)) (hg : g' = W.heap.size) (h : w.heap[g]? = some o → W.heap[g]? = some o := by intro hx_; (with_reducible repeat (first | refine blk_drewN ?_ _ | refine blk_drew ?_ | refine blk_alloc ?_ _)); exact hx_) : Aside0 (g ≠ g') := ⟨by rw [hg]; exact Nat.ne_of_lt (blk_lt (h bk.out))⟩
theorem NC_ {w W : World} {g g' : Nat} {o : Obj} (bk : Aside0 (w.heap[g]? = some o)) (hg : g' = W.heap.size) (h : w.heap[g]? = some o → W.heap[g]? = some o := by intro hx_; (with_reducible repeat (first | refine blk_drewN ?_ _ | refine blk_drew ?_ | refine blk_alloc ?_ _)); exact hx_) : Aside0 (g' ≠ g) := ⟨Ne.symm (NB_ bk hg h).out⟩
theorem GE_ {w W : World} {g : Nat} (hg : g = W.heap.size) (h : Below w.heap.size w W := by repeat (first | (with_reducible first | exact HB.out | apply below_alloc | apply pw_below_drewN | apply below_drew1 | refine below_set ?_ (Aside0.out (by assumption))) | exact HB.out)) : Aside0 (w.heap.size ≤ g) := ⟨by rw [hg]; exact below_size h⟩
theorem row_set1 {α : Type} {d : Kd α} {e base : Nat} {ok : Nat → Prop} {W : World} {v : Value} {xs : List α} (h : d.R e W base ok v xs) (hE : d.E = []) {g t : Nat} {o : Array Value} (hg : W.heap[g]? = some (.cells o t (0, 0))) (ht : e ≠ t) (i : Nat) (u : Value) : d.R e (W.setCell ⟨g, i, none⟩ u) base ok v xs := by
  refine Kd.R_mono (Kd.R_step (Kd.R_bound h) (fun k hk hlt => ?_)) (fun _ hk => hk.1)
  obtain ⟨_, _, _, q, hq, cells, hc⟩ := hk
  rw [hE, List.mem_singleton] at hq
  subst hq
  refine Below.heap_setCell _ _ _ _ (fun he => ?_)
  rw [he, hg] at hc
  injection hc with hc
  injection hc with _ hc
  exact ht hc.symm
theorem row_set2 {α : Type} {d : Kd α} {e base : Nat} {ok : Nat → Prop} {W : World} {v : Value} {xs : List α} (h : d.R e W base ok v xs) (hE : d.E = []) {g t : Nat} {o : Array Value} (hg : W.heap[g]? = some (.cells o t (0, 0))) (ht : e ≠ t) (i j : Nat) (u u2 : Value) : d.R e ((W.setCell ⟨g, i, none⟩ u).setCell ⟨g, j, none⟩ u2) base ok v xs :=
  row_set1 (row_set1 h hE hg ht i u) hE (blk_set hg i u) ht j u2
theorem put2 {w : World} {g t : Nat} {x y a b : Value} (h : w.heap[g]? = some (.cells #[x, y] t (0, 0))) : ((w.setCell ⟨g, 0, none⟩ a).setCell ⟨g, 1, none⟩ b).heap[g]? = some (.cells #[a, b] t (0, 0)) := blk_put (cs := #[a, y]) (blk_put (cs := #[x, y]) h 0 a rfl) 1 b rfl
theorem BP_ {w W w' : World} {g t : Nat} {x y a b : Value} (bk : Aside0 (w.heap[g]? = some (.cells #[x, y] t (0, 0)))) (hb : Below W.heap.size W w') (h : w.heap[g]? = some (.cells #[x, y] t (0, 0)) → W.heap[g]? = some (.cells #[a, b] t (0, 0)) := by intro hx_; (with_reducible repeat (first | refine blk_drewN ?_ _ | refine blk_drew ?_ | refine blk_alloc ?_ _)); exact put2 hx_) : Aside0 (w'.heap[g]? = some (.cells #[a, b] t (0, 0))) := ⟨blk_below (h bk.out) hb⟩
theorem RC_ {α : Type} {d : Kd α} {e base : Nat} {ok : Nat → Prop} {w W w' : World} {v : Value} {xs : List α} (ho : Aside0 (d.R e w base ok v xs)) (hb : Below W.heap.size W w') (h : d.R e w base ok v xs → d.R e W base ok v xs := by intro hx_; repeat (first | exact hx_ | (with_reducible apply Kd.R_alloc) | (with_reducible apply Kd.R_drewN) | (with_reducible apply Kd.R_drew) | refine row_set2 ?_ rfl (Aside0.out (by assumption)) (by decide) _ _ _ _ | refine row_set1 ?_ rfl (Aside0.out (by assumption)) (by decide) _ _)) : Aside0 (d.R e w' base ok v xs) := ⟨Kd.R_below (h ho.out) hb⟩
theorem C2_ {α : Type} {d : Kd α} {e base n c : Nat} {ok : Nat → Prop} {w W : World} {A : Option Addr} {xs : List α} (ho : Aside0 (d.R e w base ok (.slice A n c) xs)) (h : d.R e w base ok (.slice A n c) xs → d.R e W base ok (.slice A n c) xs := by intro hx_; repeat (first | exact hx_ | (with_reducible apply Kd.R_alloc) | (with_reducible apply Kd.R_drewN) | (with_reducible apply Kd.R_drew) | refine row_set2 ?_ rfl (Aside0.out (by assumption)) (by decide) _ _ _ _ | refine row_set1 ?_ rfl (Aside0.out (by assumption)) (by decide) _ _)) : d.C W A xs.length xs := (Kd.R_reads' (h ho.out)).2.2
theorem CA_ {w : World} {g t : Nat} {x y : Value} (bk : Aside0 (w.heap[g]? = some (.cells #[x, y] t (0, 0)))) : w.cell? ⟨g, 0, none⟩ = some x := (blk_cell bk.out 0).trans rfl
theorem CB_ {w : World} {g t : Nat} {x y : Value} (bk : Aside0 (w.heap[g]? = some (.cells #[x, y] t (0, 0)))) : w.cell? ⟨g, 1, none⟩ = some y := (blk_cell bk.out 1).trans rfl
theorem DA_ {p : Prop} [Decidable p] (h : decide p = true := by first | (with_reducible assumption) | assumption) : p := of_decide_eq_true h
theorem S1_ {p : Prop} (h : p := by first | rfl | (simp; done) | (simp [*]; done)) : p := h
theorem KM_ {w W W' : World} {S : Nat → Prop} (hk : Aside0 (Kept w W S)) (h : Kept w W S → Kept w W' S := by intro hx_; repeat (first | exact hx_ | (with_reducible first | apply Kept.alloc | apply Kept.drewN | apply Kept.drew))) : Kept w W' S := h hk.out
theorem BW_ {w W : World} {g : Nat} {t : TypeId} {cs : Array Value} (bk : Aside0 (w.heap[g]? = some (.cells cs t (0, 0)))) (h : w.heap[g]? = some (.cells cs t (0, 0)) → W.heap[g]? = some (.cells cs t (0, 0)) := by intro hx_; repeat (first | exact hx_ | (with_reducible refine blk_drewN ?_ _) | (with_reducible refine blk_drew ?_) | (with_reducible refine blk_alloc ?_ _) | refine blk_far ?_ (Aside0.out (by assumption)) _)) : Aside0 (W.heap[g]? = some (.cells cs t (0, 0))) := ⟨h bk.out⟩
theorem RW_ {α : Type} {d : Kd α} {e base : Nat} {ok : Nat → Prop} {w W : World} {v : Value} {xs : List α} (ho : Aside0 (d.R e w base ok v xs)) (h : d.R e w base ok v xs → d.R e W base ok v xs := by intro hx_; repeat (first | exact hx_ | (with_reducible apply Kd.R_alloc) | (with_reducible apply Kd.R_drewN) | (with_reducible apply Kd.R_drew) | refine row_set2 ?_ rfl (Aside0.out (by assumption)) (by decide) _ _ _ _ | refine row_set1 ?_ rfl (Aside0.out (by assumption)) (by decide) _ _)) : Aside0 (d.R e W base ok v xs) := ⟨h ho.out⟩
theorem A_ {p : Prop} (h : p) : Aside0 p := ⟨h⟩
theorem BE_ {α β : Type} {o : Option α} {f : α → Option β} {b : β} (h : o.bind f = some b) : ∃ a, o = some a ∧ f a = some b := Option.bind_eq_some_iff.mp h
theorem BS_ {w W w' : World} (hb : Below W.heap.size W w') (h : Below w.heap.size w W := by exact T1_) : Aside0 (Below w.heap.size w w') := ⟨below_step h hb⟩
theorem BT_ {w W w' : World} (hb : Below W.heap.size W w') (h : Below w.heap.size w W := by exact T6_) : Aside0 (Below w.heap.size w w') := ⟨below_step h hb⟩
theorem BU_ {w W w' : World} (hb : Below W.heap.size W w') (h : Below w.heap.size w W := by exact T9_) : Aside0 (Below w.heap.size w w') := ⟨below_step h hb⟩
theorem BX_ {P : Program} {ops : Array Oper} {rest : List Oper} {o : Oper} {a : Act} {Q : Exit → Act → World → Prop} {W : World} (N : Tmp) (cs : Array Value) (t : TypeId)
    (h : ∀ g, g = W.heap.size → ∀ w1, w1.heap[g]? = some (.cells cs t (0, 0)) → Below W.heap.size W w1 → wpList P ops Q rest (a.put o.dst (.pointer (some ⟨g, 0, none⟩))) w1)
    (hd : o.dst = some N := by with_reducible rfl) (hg : o.guard = none := by rfl) (hr : (execOp a.eval o).run P W = .ok (.value (.pointer (some ⟨W.heap.size, 0, none⟩))) (W.alloc (.cells cs t (0, 0))) := by first | (go_simp; done) | (go_simp; rfl)) : wpList P ops Q (o :: rest) a W := box_event hg hd hr h
theorem GL_ {P : Program} {ops : Array Oper} {rest : List Oper} {oi : Oper} {a : Act} {Q : Exit → Act → World → Prop} {w : World} (f : FuncId) (N : Tmp) {fn : Func} {as : Array Operand} {ts : Array TypeId} (hf : P.funcs[f]? = some fn) (args : Array Value)
    (h : Calls P f args w fun e w' => ∃ v, e = .returned v ∧ wpList P ops Q rest (a.put (some N) v) w')
    (hc : oi.op = .call { callee := .value (.func f), args := as, argTypes := ts } := by with_reducible rfl) (hd : oi.dst = some N := by rfl) (hg : oi.guard = none := by rfl) (hn : (fn.name == "runtime.NumGoroutine") = false := by kernel_rfl) (hb : fn.body.isSome = true := by rfl)
    (ha : as.map a.eval = args := by (try simp only [List.map_toArray, List.map_cons, List.map_nil]); first | done | rfl | (simp only [List.length_drop, List.length_take]; rfl)) : wpList P ops Q (oi :: rest) a w := goesL_ (some N) hd hg hf hn hb args hc ha h
theorem PU_ {P : Program} {ops : Array Oper} {Q : Exit → Act → World → Prop} {md : Region.Mode} {S : World → Prop} {ds : List Nat} {oi : Oper} {v : Value} {fuel : Nat} {l l' : Array Bool} {a a' : Act} {w : World} (i : Nat) (N : Tmp)
    (h : wpAnyLast P md ops Q S ds fuel l' a' w) (hi : ops[i]? = some oi := by rfl) (hN : oi.dst = some N := by rfl) (hl : l.setIfInBounds i true = l' := by simp only [List.setIfInBounds_toArray, List.set_cons_zero, List.set_cons_succ]; rfl) (hc : anyB md ops l l' i = true := by exact any_of HT_.out (by kernel_rfl))
    (hQ : ∀ c a w, Q (.panic c) (a.put oi.dst v) w → Q (.panic c) a w := by exact fun _ _ _ h => h) (hy : Yields P ops oi v a := by exact Or.inl ⟨by rfl, by intro w'; go_simp; with_reducible rfl⟩)
    (ha : a.put (some N) v = a' := by simp only [Act.put, List.setIfInBounds_toArray, List.set_cons_zero, List.set_cons_succ, i64_w, i32_w]; rfl) : wpAnyLast P md ops Q S ds (fuel + 1) l a w := pure_ l' hi hN hc hQ hy ha h
theorem PN_ {P : Program} {ops : Array Oper} {Q : Exit → Act → World → Prop} {md : Region.Mode} {S : World → Prop} {ds : List Nat} {oi : Oper} {fuel : Nat} {l l' : Array Bool} {a a' : Act} {w : World} (i : Nat) (N : Tmp)
    (h : wpAnyLast P md ops Q S ds fuel l' a' w) (hi : ops[i]? = some oi := by rfl) (hN : oi.dst = some N := by rfl) (hl : l.setIfInBounds i true = l' := by simp only [List.setIfInBounds_toArray, List.set_cons_zero, List.set_cons_succ]; rfl) (hc : anyB md ops l l' i = true := by exact any_of HT_.out (by kernel_rfl))
    (hQ : ∀ c a w, Q (.panic c) (a.put oi.dst undef) w → Q (.panic c) a w := by exact fun _ _ _ h => h) (hg : Region.wanted oi (yielded ops a.tmps) = false := by rfl)
    (ha : a.put (some N) undef = a' := by simp only [Act.put, List.setIfInBounds_toArray, List.set_cons_zero, List.set_cons_succ, i64_w, i32_w]; rfl) : wpAnyLast P md ops Q S ds (fuel + 1) l a w := pure_ l' hi hN hc hQ (Or.inr ⟨hg, rfl⟩) ha h
theorem TK_ {P : Program} {ops : Array Oper} {Q : Exit → Act → World → Prop} {md : Region.Mode} {S : World → Prop} {ds : List Nat} {oi : Oper} {v : Value} {fuel : Nat} {l l' : Array Bool} {a a' : Act} {w : World} (i : Nat) (N : Tmp) (hi : ops[i]? = some oi) (hg : Region.wanted oi (yielded ops a.tmps) = true) (hv : ∀ w, S w → (execOp a.eval oi).run P w = .ok (.value v) w) (hS : S w)
    (h : wpAnyLast P md ops Q S ds fuel l' a' w) (hN : oi.dst = some N := by rfl) (hl : l.setIfInBounds i true = l' := by simp only [List.setIfInBounds_toArray, List.set_cons_zero, List.set_cons_succ]; rfl) (hc : takeB md ops ds l l' i = true := by exact take_ofW HT_.out HW_.out (by kernel_rfl))
    (hQ : ∀ c a w, Q (.panic c) (a.put oi.dst v) w → Q (.panic c) a w := by exact fun _ _ _ h => h)
    (ha : a.put (some N) v = a' := by simp only [Act.put, List.setIfInBounds_toArray, List.set_cons_zero, List.set_cons_succ, i64_w, i32_w]; rfl) : wpAnyLast P md ops Q S ds (fuel + 1) l a w := take_ l' hi hN hc hQ (Or.inl ⟨hg, hv⟩) hS ha h
theorem CW_ {α : Type} {d : Kd α} {w W : World} {A : Option Addr} {n : Nat} {xs : List α} (hr : Aside0 (d.C w A n xs)) (hb : Below w.heap.size w W := by exact T9_) : d.C W A n xs := Kd.C_below hr.out hb
theorem RH_ {p : Prop} (h : p := by first | (rw [hy_]; with_reducible exact H) | (have H2_ := (Option.bind_some _ _).symm.trans H; rw [hy_]; with_reducible exact H2_) | (have H2_ := (Option.bind_some _ _).symm.trans H; with_reducible exact H2_) | with_reducible exact H | (rw [hy_]; exact H) | exact H) : p := h
theorem CF_ {w : World} {g t : Nat} {x y : Value} (bk : Aside0 (w.heap[g]? = some (.cells #[x, y] t (0, 0)))) : w.cell? ⟨g, 0, none⟩ = some x ∧ w.cell? ⟨g, 1, none⟩ = some y ∧ w.frozen? ⟨g, 0, none⟩ = false ∧ w.frozen? ⟨g, 1, none⟩ = false := ⟨CA_ bk, CB_ bk, blk_frozen bk.out 0, blk_frozen bk.out 1⟩
/-- A block past stores into it and others. -/
theorem BQ_ {w W : World} {g : Nat} {t : TypeId} {cs cs' : Array Value} (bk : Aside0 (w.heap[g]? = some (.cells cs t (0, 0)))) (h : w.heap[g]? = some (.cells cs t (0, 0)) → W.heap[g]? = some (.cells cs' t (0, 0)) := by intro hx_; repeat (first | with_reducible exact hx_ | with_reducible apply blk_drewN | with_reducible apply blk_drew | with_reducible apply blk_alloc | (with_reducible apply blk_far; case' hp => exact Aside0.out (by assumption)) | with_reducible apply blk_put | rfl | with_unfolding_all rfl)) : W.heap[g]? = some (.cells cs' t (0, 0)) := h bk.out
theorem KM2_ {α : Type} {d : Kd α} {e base : Nat} {ok ok' : Nat → Prop} {w W : World} {v : Value} {xs : List α} (ho : Aside0 (d.R e w base ok v xs)) (hk : ∀ k, ok k → ok' k) (h : d.R e w base ok' v xs → d.R e W base ok' v xs := by intro hx_; (with_reducible repeat (first | apply Kd.R_alloc | apply Kd.R_drewN | apply Kd.R_drew)); exact hx_) : d.R e W base ok' v xs := h (Kd.R_mono ho.out hk)
theorem NIL_ {p : Prop} (h : p := by first | exact Kd.R_nil _ _ _ _ _ | exact Kd.N_nil _ _ _ _ _ | exact Kd.V_nil _ _ _ _ _ | exact Kd.Q_nil _ _ _ _ _ | exact Kd.S_nil _ _ _ _ _) : p := h
theorem OM_ {p : Prop} (h : p := by first | omega | exact Nat.le_refl _) : p := h
theorem YE_ {α : Type} {p : Prop} [Decidable p] {a : Option α} {r : α} {G : Prop} (h : p → a = some r → G) (H : (if p then a else none) = some r) : G := by
  by_cases c : p
  · rw [if_pos c] at H; exact h c H
  · rw [if_neg c] at H; cases H
theorem YD_ {α : Type} {p : Prop} [Decidable p] {a : Option α} {r : α} {G : Prop} (h : decide p = true → a = some r → G) (H : (if p then a else none) = some r) : G := YE_ (fun c => h (decide_eq_true c)) H
theorem ID_ {α : Type} {p : Prop} [Decidable p] {a b : α} {r : α} (H : (if p then a else b) = r) : (decide p = true ∧ a = r) ∨ (decide p = false ∧ b = r) := by
  by_cases c : p
  · rw [if_pos c] at H; exact Or.inl ⟨decide_eq_true c, H⟩
  · rw [if_neg c] at H; exact Or.inr ⟨decide_eq_false c, H⟩
theorem BI_ {α : Type} {c : Bool} {a b : α} {r : α} (H : (if c = true then a else b) = r) : (c = true ∧ a = r) ∨ (c = false ∧ b = r) := by
  cases c
  · exact Or.inr ⟨rfl, H⟩
  · exact Or.inl ⟨rfl, H⟩
theorem BV_ {α β : Type} {o : Option α} {f : α → Option β} {b : β} {G : Prop} (h : ∀ a, Aside0 (o = some a) → f a = some b → G) (H : o.bind f = some b) : G := by
  obtain ⟨a, ha, hb⟩ := BE_ H
  exact h a ⟨ha⟩ hb
section
variable {w W : World} {A : Option Addr} {n : Nat} {k : IntKind} {xs : List Int} {ys : List ByteArray}
theorem AI_ (h : (Kd.int k).C w A n xs) (i : Int) (h0 : 0 ≤ i := by exact DA_) (h1 : i < (n : Int) := by exact DA_) : ∃ ad, A = some ad ∧ (0 ≤ i) = True ∧ (i < (n : Int)) = True ∧ w.cell? (ad.add i.toNat) = some (.int k (rd xs i)) := by
  obtain ⟨ad, e, hc⟩ := Kd.at_int h i h0 h1
  exact ⟨ad, e, eq_true h0, eq_true h1, hc⟩
theorem AIH_ (HB : Aside0 (Below w.heap.size w W)) (h : (Kd.int k).C w A n xs) (i : Int) (h0 : 0 ≤ i := by exact DA_) (h1 : i < (n : Int) := by exact DA_) : ∃ ad, A = some ad ∧ (0 ≤ i) = True ∧ (i < (n : Int)) = True ∧ W.cell? (ad.add i.toNat) = some (.int k (rd xs i)) := by
  obtain ⟨ad, e, hc⟩ := Kd.at_int h i h0 h1
  exact ⟨ad, e, eq_true h0, eq_true h1, (HB.out.cell (World.block_lt_of_cell? w _ hc)).trans hc⟩
theorem ASH_ (HB : Aside0 (Below w.heap.size w W)) (h : Kd.string.C w A n ys) (i : Int) (h0 : 0 ≤ i := by exact DA_) (h1 : i < (n : Int) := by exact DA_) : ∃ ad, A = some ad ∧ (0 ≤ i) = True ∧ (i < (n : Int)) = True ∧ W.cell? (ad.add i.toNat) = some (.string (rdOf ByteArray.empty ys i)) := by
  obtain ⟨ad, e, hc⟩ := Kd.at_string h i h0 h1
  exact ⟨ad, e, eq_true h0, eq_true h1, (HB.out.cell (World.block_lt_of_cell? w _ hc)).trans hc⟩
theorem AH0_ (HB : Aside0 (Below w.heap.size w W)) (h : (Kd.int k).C w A n xs) (h1 : 0 < (n : Int) := by exact DA_) : ∃ ad, A = some ad ∧ (0 ≤ (0 : Int)) = True ∧ (0 < (n : Int)) = True ∧ (0 < n) = True ∧ w.cell? ad = some (.int k (rd xs 0)) ∧ W.cell? ad = some (.int k (rd xs 0)) := by
  obtain ⟨ad, e, hc⟩ := Kd.at_int h 0 (Int.le_refl 0) h1
  rw [show ((0 : Int)).toNat = 0 from rfl, Addr.add_zero'] at hc
  exact ⟨ad, e, eq_true (Int.le_refl 0), eq_true h1, eq_true (by omega), hc, (HB.out.cell (World.block_lt_of_cell? w _ hc)).trans hc⟩
theorem AH1_ (HB : Aside0 (Below w.heap.size w W)) (h : (Kd.int k).C w A n xs) (h1 : 1 < (n : Int) := by exact DA_) : ∃ ad, A = some ad ∧ (0 ≤ (1 : Int)) = True ∧ (1 < (n : Int)) = True ∧ (1 < n) = True ∧ w.cell? ⟨ad.block, ad.off + 1, none⟩ = some (.int k (rd xs 1)) ∧ W.cell? ⟨ad.block, ad.off + 1, none⟩ = some (.int k (rd xs 1)) := by
  obtain ⟨ad, e, hc⟩ := Kd.at_int h 1 (by decide) h1
  simp only [show (1 : Int).toNat = 1 from rfl, Nat.reduceEqDiff, Go.Addr.add, ↓reduceIte] at hc
  exact ⟨ad, e, eq_true (by decide), eq_true h1, eq_true (by omega), hc, (HB.out.cell (World.block_lt_of_cell? w _ hc)).trans hc⟩
end
theorem RM_ {α : Type} {d : Kd α} {e base : Nat} {ok ok' : Nat → Prop} {w W : World} {v : Value} {xs : List α} (ho : Aside0 (d.R e w base ok v xs)) (hk : ∀ k, ok k → ok' k) (h : d.R e w base ok' v xs → d.R e W base ok' v xs := by intro hx_; repeat (first | exact hx_ | (with_reducible apply Kd.R_alloc) | (with_reducible apply Kd.R_drewN) | (with_reducible apply Kd.R_drew) | refine row_set2 ?_ rfl (Aside0.out (by assumption)) (by decide) _ _ _ _ | refine row_set1 ?_ rfl (Aside0.out (by assumption)) (by decide) _ _)) : d.R e W base ok' v xs := h (Kd.R_mono ho.out hk)
theorem FE_ {p : Prop} [Decidable p] {a : Option Bool} {r : Bool} {G : Prop} (hr : Aside0 (r = true)) (h : p → a = some r → G) (H : (if p then a else some false) = some r) : G := by
  by_cases c : p
  · rw [if_pos c] at H; exact h c H
  · rw [if_neg c] at H; exact absurd ((Option.some.inj H).trans hr.out) (by decide)
theorem FQ_ {α : Type} [BEq α] [LawfulBEq α] {x y : α} [Decidable (x = y)] {a : Option Bool} {r : Bool} {G : Prop} (hr : Aside0 (r = true)) (h : (x == y) = true → (x != y) = false → a = some r → G) (H : (if x = y then a else some false) = some r) : G := FE_ hr (fun c => h (beq_iff_eq.mpr c) (bne_eq_false_iff_eq.mpr c)) H
theorem EQ_ {α β : Type} [BEq α] [LawfulBEq α] {x y : α} [Decidable (x = y)] {a b : β} {r : β} (H : (if x = y then a else b) = r) : (x = y ∧ (x == y) = true ∧ (x != y) = false ∧ a = r) ∨ (¬ x = y ∧ (x == y) = false ∧ (x != y) = true ∧ b = r) := by
  by_cases c : x = y
  · rw [if_pos c] at H; exact Or.inl ⟨c, beq_iff_eq.mpr c, bne_eq_false_iff_eq.mpr c, H⟩
  · rw [if_neg c] at H; exact Or.inr ⟨c, beq_eq_false_iff_ne.mpr c, bne_iff_ne.mpr c, H⟩
end Go.ZPWords
