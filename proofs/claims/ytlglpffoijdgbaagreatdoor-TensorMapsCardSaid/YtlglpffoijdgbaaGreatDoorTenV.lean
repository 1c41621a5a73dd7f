/- Tensors of rational numbers: what tensor's functions make of them. -/
import Derived.Test.YtlglpffoijdgbaaGreatDoorTenT
-- mini
namespace Go.Proofs.YtlglpffoijdgbaaGreatDoor.Ten
open Go Go.RowKit Go.ZPWords Go.ZPMore Go.Proofs.YtlglpffoijdgbaaGreatDoor.PC Go.Proofs.YtlglpffoijdgbaaGreatDoor.Th Go.Proofs.YtlglpffoijdgbaaGreatDoor.Th.Wh Go.Proofs.YtlglpffoijdgbaaGreatDoor.Err
set_option linter.unusedVariables false
/-- Texts of numbers. -/
def tx (l : List Rat) : List ByteArray := l.map rt
theorem tx_len (l : List Rat) : (tx l).length = l.length := by simp [tx]
/-- Numbers in a shape, none of more than N digits. -/
structure Ok (s : List Int) (l : List Rat) (N : Nat) : Prop where
  sh : shOk s = true
  ln : (l.length : Int) = sz s
  bd : ∀ x ∈ l, qm x ≤ N
theorem Ok.mono {s : List Int} {l : List Rat} {N M : Nat} (h : Ok s l N) (hm : N ≤ M) : Ok s l M := ⟨h.sh, h.ln, fun x hx => Nat.le_trans (h.bd x hx) hm⟩
theorem Ok.le64 {s : List Int} {l : List Rat} {N : Nat} (h : Ok s l N) : l.length ≤ 64 ∧ 1 ≤ l.length ∧ s.length ≤ 4 := by
  have hp := shOk_parts h.sh;have h1 := sz_pos hp.1;have := h.ln;have := hp.2.2;exact ⟨by omega, by omega, hp.2.1⟩
theorem Ok.sm {s : List Int} {l : List Rat} {N : Nat} (h : Ok s l N) (hN : N ≤ 1000000000) : Sm s (tx l) := by
  have h1 := h.le64;refine ⟨by omega, by rw [tx_len]; omega, fun x hx => ?_⟩;obtain ⟨q, hq, rfl⟩ := List.mem_map.1 hx;exact (fr (Nat.le_trans (h.bd q hq) hN) (Nat.le_refl _)).size'
theorem nr_rt (x : Rat) : nr (rt x) = false := by unfold nr; rw [rRight_rt]; rfl
theorem Ok.right {s : List Int} {l : List Rat} {N : Nat} (h : Ok s l N) : tRight ⟨s, tx l⟩ = true := by
 unfold tRight;dsimp only
 have h2 : ((tx l).any nr) = false := by
  rw [List.any_eq_false];intro x hx;obtain ⟨q, _, rfl⟩ := List.mem_map.1 hx;rw [nr_rt]; decide
 rw [h2, h.sh, size, if_pos h.sh, tx_len, h.ln];simp
theorem right_some' {s : List Int} {d : List ByteArray} {n : Nat} (h : tRight ⟨s, d⟩ = true) (hd : ∀ x ∈ d, x.size ≤ n) : ∃ l, d = tx l ∧ Ok s l n := by
 have ha := tRight_all h;have hs := tRight_sh h;dsimp only at ha hs
 have key : ∀ d : List ByteArray, (∀ x ∈ d, rRight x = true) → (∀ x ∈ d, x.size ≤ n) → ∃ l : List Rat, d = tx l ∧ ∀ x ∈ l, qm x ≤ n := by
  intro d;induction d with
  | nil => exact fun _ _ => ⟨[], rfl, by simp⟩
  | cons x d ih =>
   intro h1 h2;obtain ⟨l, rfl, hl⟩ := ih (fun y hy => h1 y (List.mem_cons_of_mem _ hy)) (fun y hy => h2 y (List.mem_cons_of_mem _ hy));obtain ⟨q, rfl⟩ := right_some (h1 x List.mem_cons_self);refine ⟨q :: l, rfl, fun y hy => ?_⟩;rcases List.mem_cons.1 hy with rfl | hy
   · exact Nat.le_trans (qm_le y) (h2 _ List.mem_cons_self)
   exact hl y hy
 obtain ⟨l, rfl, hl⟩ := key d ha hd;exact ⟨l, rfl, hs.1, by rw [← hs.2, tx_len], hl⟩
theorem small_parts {s : List Int} {d : List ByteArray} (h : small ⟨s, d⟩ = true) : Sm s d ∧ ∀ x ∈ d, x.size ≤ 40 := by
  unfold small at h;dsimp only at h;rw [Bool.and_eq_true, Bool.and_eq_true, decide_eq_true_eq, decide_eq_true_eq, List.all_eq_true] at h
  have h2 : ∀ x ∈ d, x.size ≤ 40 := fun x hx => by simpa using h.2 x hx
  exact ⟨⟨by omega, by omega, fun x hx => Nat.le_trans (h2 x hx) (by decide)⟩, h2⟩
/-- A short tensor is none, or has numbers. -/
theorem cases_t {s : List Int} {d : List ByteArray} (h : small ⟨s, d⟩ = true) : tRight ⟨s, d⟩ = false ∨ ∃ l, d = tx l ∧ Ok s l 40 := by
  cases ht : tRight ⟨s, d⟩ with
  | false => exact Or.inl rfl
  | true => exact Or.inr (right_some' ht (small_parts h).2)
theorem sm_nil : Sm [] [] := ⟨by decide, by decide, by simp⟩
theorem nil_not : tRight nilT = false := by
  unfold tRight nilT
  decide +kernel
theorem mem_zip {f : Rat → Rat → Rat} {l m : List Rat} {z : Rat} (h : z ∈ List.zipWith f l m) : ∃ x ∈ l, ∃ y ∈ m, z = f x y := by
 induction l generalizing m with
 | nil => simp at h
 | cons x l ih =>
  cases m with
  | nil => simp at h
  | cons y m =>
   rw [List.zipWith_cons_cons, List.mem_cons] at h;rcases h with rfl | h
   · exact ⟨x, List.mem_cons_self, y, List.mem_cons_self, rfl⟩
   obtain ⟨x', hx, y', hy, rfl⟩ := ih h;exact ⟨x', List.mem_cons_of_mem _ hx, y', List.mem_cons_of_mem _ hy, rfl⟩
theorem Ok.zip {s : List Int} {l m : List Rat} {N M K : Nat} (h : Ok s l N) (h' : Ok s m M) (f : Rat → Rat → Rat) (hf : ∀ x y, qm x ≤ N → qm y ≤ M → qm (f x y) ≤ K) : Ok s (List.zipWith f l m) K := by
 refine ⟨h.sh, ?_, fun z hz => ?_⟩
 · have := h.ln;have := h'.ln;rw [List.length_zipWith];omega
 obtain ⟨x, hx, y, hy, rfl⟩ := mem_zip hz;exact hf x y (h.bd x hx) (h'.bd y hy)
theorem Ok.map {s : List Int} {l : List Rat} {N K : Nat} (h : Ok s l N) (f : Rat → Rat) (hf : ∀ x, qm x ≤ N → qm (f x) ≤ K) : Ok s (l.map f) K := by
  refine ⟨h.sh, by rw [List.length_map]; exact h.ln, fun z hz => ?_⟩;obtain ⟨x, hx, rfl⟩ := List.mem_map.1 hz;exact hf x (h.bd x hx)
theorem rAdd_rt (x y : Rat) : rAdd (rt x) (rt y) = (rt (x + y), 0) := by rw [rAdd, rv_rt, rv_rt]
theorem rSub_rt (x y : Rat) : rSub (rt x) (rt y) = (rt (x - y), 0) := by rw [rSub, rv_rt, rv_rt]
theorem rMul_rt (x y : Rat) : rMul (rt x) (rt y) = (rt (x * y), 0) := by rw [rMul, rv_rt, rv_rt]
theorem zip_tx (rf : ByteArray → ByteArray → ByteArray × Int) (f : Rat → Rat → Rat) (hf : ∀ x y, rf (rt x) (rt y) = (rt (f x y), 0)) (l m : List Rat) : List.zipWith (fun x y => (rf x y).1) (tx l) (tx m) = tx (List.zipWith f l m) := by
 unfold tx;rw [List.zipWith_map_left, List.zipWith_map_right, List.map_zipWith];congr 1;funext x y;rw [hf]
theorem opf_add : opf (⟨#[97, 100, 100]⟩ : ByteArray) = some rAdd := by rw [opf, if_pos rfl]
theorem opf_sub : opf (⟨#[115, 117, 98]⟩ : ByteArray) = some rSub := by rw [opf, if_neg (by decide), if_pos rfl]
theorem opf_mul : opf (⟨#[109, 117, 108]⟩ : ByteArray) = some rMul := by rw [opf, if_neg (by decide), if_neg (by decide), if_pos rfl]
theorem tzip_gen {op : ByteArray} {rf : ByteArray → ByteArray → ByteArray × Int} {f : Rat → Rat → Rat} (ho : opf op = some rf) (hf : ∀ x y, rf (rt x) (rt y) = (rt (f x y), 0)) {s : List Int} {l m : List Rat} {N M : Nat} (h : Ok s l N) (h' : Ok s m M) :
    tZip op ⟨s, tx l⟩ ⟨s, tx m⟩ = (⟨s, tx (List.zipWith f l m)⟩, 0) := by
  unfold tZip;rw [ho];dsimp only;rw [if_pos h.right, if_pos h'.right, if_pos rfl, zip_tx rf f hf]
theorem tadd {s : List Int} {l m : List Rat} {N M : Nat} (h : Ok s l N) (h' : Ok s m M) : tZip (⟨#[97, 100, 100]⟩ : ByteArray) ⟨s, tx l⟩ ⟨s, tx m⟩ = (⟨s, tx (List.zipWith (· + ·) l m)⟩, 0) := tzip_gen opf_add rAdd_rt h h'
theorem tsub {s : List Int} {l m : List Rat} {N M : Nat} (h : Ok s l N) (h' : Ok s m M) : tZip (⟨#[115, 117, 98]⟩ : ByteArray) ⟨s, tx l⟩ ⟨s, tx m⟩ = (⟨s, tx (List.zipWith (· - ·) l m)⟩, 0) := tzip_gen opf_sub rSub_rt h h'
theorem tmul {s : List Int} {l m : List Rat} {N M : Nat} (h : Ok s l N) (h' : Ok s m M) : tZip (⟨#[109, 117, 108]⟩ : ByteArray) ⟨s, tx l⟩ ⟨s, tx m⟩ = (⟨s, tx (List.zipWith (· * ·) l m)⟩, 0) := tzip_gen opf_mul rMul_rt h h'
theorem Ok.add {s : List Int} {l m : List Rat} {N M : Nat} (h : Ok s l N) (h' : Ok s m M) : Ok s (List.zipWith (· + ·) l m) (N + M + 1) := h.zip h' _ (fun _ _ hx hy => qa hx hy)
theorem Ok.sub {s : List Int} {l m : List Rat} {N M : Nat} (h : Ok s l N) (h' : Ok s m M) : Ok s (List.zipWith (· - ·) l m) (N + M + 1) := h.zip h' _ (fun _ _ hx hy => qb hx hy)
theorem Ok.mul {s : List Int} {l m : List Rat} {N M : Nat} (h : Ok s l N) (h' : Ok s m M) : Ok s (List.zipWith (· * ·) l m) (N + M) := h.zip h' _ (fun _ _ hx hy => qx hx hy)
theorem Ok.by {s : List Int} {l : List Rat} {N M : Nat} (h : Ok s l N) {k : Rat} (hk : qm k ≤ M) : Ok s (l.map (· * k)) (N + M) := h.map _ (fun _ hx => qx hx hk)
/-- .. or it is refused. -/
theorem tzip_no (op : ByteArray) {a b : TV} (h : tRight a = false ∨ tRight b = false) : tZip op a b = (nilT, 1) := by
 unfold tZip
 cases opf op with
 | none => rfl
 | some rf =>
  dsimp only;by_cases ha : tRight a = true
  · rw [if_pos ha, if_neg (by rcases h with h | h <;> simp_all)]
  rw [if_neg ha]
theorem tzip_sh {op : ByteArray} {rf : ByteArray → ByteArray → ByteArray × Int} (ho : opf op = some rf) {s s' : List Int} {l m : List Rat} {N M : Nat} (h : Ok s l N) (h' : Ok s' m M) (hn : s ≠ s') : tZip op ⟨s, tx l⟩ ⟨s', tx m⟩ = (nilT, 4) := by
  unfold tZip;rw [ho];dsimp only;rw [if_pos h.right, if_pos h'.right, if_neg hn]
theorem tscale {s : List Int} {l : List Rat} {N : Nat} (h : Ok s l N) (k : Rat) : tScale ⟨s, tx l⟩ (rt k) = (⟨s, tx (l.map (· * k))⟩, 0) := by
 unfold tScale;rw [if_pos h.right, if_pos (rRight_rt k)]
 have : (tx l).map (fun x => (rMul x (rt k)).1) = tx (l.map (· * k)) := by
  unfold tx;rw [List.map_map, List.map_map];congr 1;funext x;show (rMul (rt x) (rt k)).1 = rt (x * k);rw [rMul_rt]
 rw [this]
theorem tscale_no {t : TV} {k : ByteArray} (h : tRight t = false ∨ rRight k = false) : tScale t k = (nilT, 1) := by
 unfold tScale;by_cases ht : tRight t = true
 · rw [if_pos ht, if_neg (by rcases h with h | h <;> simp_all)]
 rw [if_neg ht]
theorem tpower {s : List Int} {l : List Rat} {N : Nat} (h : Ok s l N) (n : Nat) (hn : n ≤ 6) : tPower ⟨s, tx l⟩ (n : Int) = (⟨s, tx (l.map (· ^ n))⟩, 0) := by
 unfold tPower;rw [if_pos h.right, if_pos (by omega)]
 have : (tx l).map (fun x => (rPower x (n : Int)).1) = tx (l.map (· ^ n)) := by
  unfold tx;rw [List.map_map, List.map_map];congr 1;funext x;show (rPower (rt x) (n : Int)).1 = rt (x ^ n);rw [rPower, rv_rt];dsimp only;rw [if_neg (by omega), Int.toNat_natCast]
 rw [this]
theorem tpower_no {t : TV} {n : Int} (h : tRight t = false ∨ n < 0 ∨ 6 < n) : tPower t n = (nilT, 1) := by
 unfold tPower;by_cases ht : tRight t = true
 · rw [if_pos ht, if_neg (by rcases h with h | h; (· simp_all); (· omega))]
 rw [if_neg ht]
theorem Ok.pow {s : List Int} {l : List Rat} {N : Nat} (h : Ok s l N) (n : Nat) (hn : n ≤ 6) : Ok s (l.map (· ^ n)) (6 * N + 1) := h.map _ (fun _ hx => qp hx n hn)
theorem tx_rep (n : Nat) (k : Rat) : List.replicate n (rt k) = tx (List.replicate n k) := by simp [tx]
theorem tfill {s : List Int} (h : shOk s = true) (k : Rat) : tFill s (rt k) = (⟨s, tx (List.replicate (sz s).toNat k)⟩, 0) := by
  unfold tFill;rw [if_pos h, if_pos (rRight_rt k), size, if_pos h, tx_rep]
theorem tfill_no {s : List Int} {k : ByteArray} (h : shOk s = false ∨ rRight k = false) : tFill s k = (nilT, 1) := by
 unfold tFill;by_cases ht : shOk s = true
 · rw [if_pos ht, if_neg (by rcases h with h | h <;> simp_all)]
 rw [if_neg ht]
theorem ok_fill {s : List Int} (h : shOk s = true) (k : Rat) : Ok s (List.replicate (sz s).toNat k) (qm k) := by
  have h1 := sz_pos (shOk_parts h).1;refine ⟨h, by rw [List.length_replicate]; omega, fun x hx => ?_⟩;rw [List.eq_of_mem_replicate hx];exact Nat.le_refl _
/-- The sum of numbers. -/
def su (l : List Rat) : Rat := l.foldl (· + ·) 0
theorem su_acc (l : List Rat) : ∀ a : Rat, l.foldl (· + ·) a = a + su l := by
 unfold su;induction l with
 | nil => intro a; simp [Rat.add_zero]
 | cons x l ih =>
  intro a;rw [List.foldl_cons, List.foldl_cons, ih (a + x), ih (0 + x)];grind
theorem su_cons (x : Rat) (l : List Rat) : su (x :: l) = x + su l := by
  rw [su, List.foldl_cons, su_acc]
  grind
theorem su_nil : su [] = 0 := rfl
theorem acc_tx (l : List Rat) : ∀ a : Rat, (tx l).foldl (fun a x => (rAdd a x).1) (rt a) = rt (l.foldl (· + ·) a) := by
 induction l with
 | nil => intro a; rfl
 | cons x l ih =>
  intro a;show (tx l).foldl (fun a x => (rAdd a x).1) (rAdd (rt a) (rt x)).1 = _;rw [rAdd_rt, ih (a + x)]; rfl
theorem accS_tx (l : List Rat) : accS (tx l) = rt (su l) := by
  unfold accS su;rw [← acc_tx l 0, rt_0]
theorem qm_su {N : Nat} (l : List Rat) (h : ∀ x ∈ l, qm x ≤ N) : qm (su l) ≤ l.length * (N + 1) + 1 := by
 induction l with
 | nil =>
  rw [su_nil];exact Nat.le_trans (by decide +kernel : qm 0 ≤ 1) (by simp)
 | cons x l ih =>
  rw [su_cons];have h1 := ih (fun y hy => h y (List.mem_cons_of_mem _ hy));have h2 := qa (h x List.mem_cons_self) h1;rw [List.length_cons, Nat.add_mul];omega
theorem Ok.su {s : List Int} {l : List Rat} {N : Nat} (h : Ok s l N) : qm (su l) ≤ 64 * (N + 1) + 1 := by
  have h1 := qm_su l h.bd;have h2 := Nat.mul_le_mul_right (N + 1) h.le64.1
  omega
theorem Ok.acc {s : List Int} {l : List Rat} {N : Nat} (h : Ok s l N) (hN : N ≤ 10000000) (p : Nat) : (accS ((tx l).take p)).size ≤ 40000000000 := by
  have e : (tx l).take p = tx (l.take p) := by unfold tx; rw [List.map_take]
  rw [e, accS_tx];have h1 := qm_su (N := N) (l.take p) (fun x hx => h.bd x (List.mem_of_mem_take hx));have h2 : (l.take p).length ≤ 64 := Nat.le_trans (by rw [List.length_take]; omega) h.le64.1;have h3 := Nat.mul_le_mul_right (N + 1) h2;have := size_rt (Ten.su (l.take p))
  omega
theorem tsum {s : List Int} {l : List Rat} {N : Nat} (h : Ok s l N) : tSum ⟨s, tx l⟩ = (rt (su l), 0) := by
  unfold tSum;rw [if_pos h.right, accS_tx]
theorem tsum_no {t : TV} (h : tRight t = false) : tSum t = (⟨#[]⟩, 1) := by
  unfold tSum;rw [if_neg (by simp [h])]
theorem ok_one (x : Rat) {N : Nat} (h : qm x ≤ N) : Ok [] [x] N := ⟨by decide +kernel, rfl, fun y hy => by rw [List.mem_singleton] at hy; rw [hy]; exact h⟩
theorem rt_m1 : rt (-1) = (⟨#[45, 49]⟩ : ByteArray) := by decide +kernel
theorem rt_2 : rt 2 = (⟨#[50]⟩ : ByteArray) := by decide +kernel
theorem rt_3 : rt 3 = (⟨#[51]⟩ : ByteArray) := by decide +kernel
theorem rt_5 : rt 5 = (⟨#[53]⟩ : ByteArray) := by decide +kernel
theorem rt_h : rt (mkRat 1 2) = (⟨#[49, 47, 50]⟩ : ByteArray) := by decide +kernel
theorem rt_3h : rt (mkRat 3 2) = (⟨#[51, 47, 50]⟩ : ByteArray) := by decide +kernel
end Go.Proofs.YtlglpffoijdgbaaGreatDoor.Ten
/- Tensors of rational numbers: two at once; what is refused. -/
namespace Go.Proofs.YtlglpffoijdgbaaGreatDoor.Ten
open Go Go.RowKit Go.ZPWords Go.Proofs.YtlglpffoijdgbaaGreatDoor.PC Go.Proofs.YtlglpffoijdgbaaGreatDoor.Th Go.Proofs.YtlglpffoijdgbaaGreatDoor.Th.Wh Go.Proofs.YtlglpffoijdgbaaGreatDoor.Err
set_option linter.unusedVariables false
theorem opf_parts {op : ByteArray} {rf : ByteArray → ByteArray → ByteArray × Int} (h : opf op = some rf) : ∃ f : Rat → Rat → Rat, (∀ x y, rf (rt x) (rt y) = (rt (f x y), 0)) ∧ (∀ x y N M, qm x ≤ N → qm y ≤ M → qm (f x y) ≤ N + M + 1) := by
 unfold opf at h;split at h
 · injection h with h;subst h;exact ⟨(· + ·), rAdd_rt, fun x y N M hx hy => qa hx hy⟩
 split at h
 · injection h with h;subst h;exact ⟨(· - ·), rSub_rt, fun x y N M hx hy => qb hx hy⟩
 split at h
 · injection h with h;subst h;exact ⟨(· * ·), rMul_rt, fun x y N M hx hy => Nat.le_succ_of_le (qx hx hy)⟩
 cases h
theorem pair_cases {s : List Int} {d : List ByteArray} {s2 : List Int} {d2 : List ByteArray} (h1 : small ⟨s, d⟩ = true) (h2 : small ⟨s2, d2⟩ = true) :
    (s = s2 ∧ ∃ l m, d = tx l ∧ d2 = tx m ∧ Ok s l 40 ∧ Ok s m 40) ∨ ∃ c : Int, c ≠ 0 ∧ ∀ op rf, opf op = some rf → tZip op ⟨s, d⟩ ⟨s2, d2⟩ = (nilT, c) ∧ tZip op ⟨s2, d2⟩ ⟨s, d⟩ = (nilT, c) := by
 rcases cases_t h1 with r1 | ⟨l, rfl, o1⟩
 · exact Or.inr ⟨1, by decide, fun op rf ho => ⟨tzip_no _ (Or.inl r1), tzip_no _ (Or.inr r1)⟩⟩
 rcases cases_t h2 with r2 | ⟨m, rfl, o2⟩
 · exact Or.inr ⟨1, by decide, fun op rf ho => ⟨tzip_no _ (Or.inr r2), tzip_no _ (Or.inl r2)⟩⟩
 by_cases he : s = s2
 · subst he;exact Or.inl ⟨rfl, l, m, rfl, rfl, o1, o2⟩
 exact Or.inr ⟨4, by decide, fun op rf ho => ⟨tzip_sh ho o1 o2 he, tzip_sh ho o2 o1 (fun e => he e.symm)⟩⟩
/-- What comes of a short tensor is short. -/
def Sml (r : TV × Int) : Prop := Sm r.1.s r.1.d
theorem sml_nil (c : Int) : Sml (nilT, c) := sm_nil
theorem sml_ok {s : List Int} {l : List Rat} {N : Nat} (h : Ok s l N) (hN : N ≤ 1000000000) (c : Int) : Sml (⟨s, tx l⟩, c) := h.sm hN
theorem sml_scale {s : List Int} {d : List ByteArray} (h : small ⟨s, d⟩ = true) {k : ByteArray} (hk : k.size ≤ 40000) : Sml (tScale ⟨s, d⟩ k) := by
 rcases cases_t h with r | ⟨l, rfl, o⟩
 · rw [tscale_no (Or.inl r)]; exact sml_nil _
 by_cases hr : rRight k = true
 · obtain ⟨q, rfl⟩ := right_some hr;rw [tscale o q];exact sml_ok (o.by (Nat.le_trans (qm_le q) hk)) (by decide) _
 rw [tscale_no (Or.inr (by simpa using hr))]; exact sml_nil _
theorem sml_zip {op : ByteArray} {s : List Int} {d : List ByteArray} {s2 : List Int} {d2 : List ByteArray} (h1 : small ⟨s, d⟩ = true) (h2 : small ⟨s2, d2⟩ = true) {rf : ByteArray → ByteArray → ByteArray × Int} (ho : opf op = some rf) : Sml (tZip op ⟨s, d⟩ ⟨s2, d2⟩) := by
 rcases pair_cases h1 h2 with ⟨rfl, l, m, rfl, rfl, o1, o2⟩ | ⟨c, _, hc⟩
 · obtain ⟨f, hf, hq⟩ := opf_parts ho;rw [tzip_gen ho hf o1 o2];exact sml_ok (o1.zip o2 f (fun x y hx hy => hq x y _ _ hx hy)) (by decide) _
 rw [(hc op rf ho).1]; exact sml_nil _
theorem zw_comm (f : Rat → Rat → Rat) (hf : ∀ x y, f x y = f y x) (l m : List Rat) : List.zipWith f l m = List.zipWith f m l := by
 rw [List.zipWith_comm];congr 1;funext x y;exact hf y x
theorem zw_self {f : Rat → Rat → Rat} {g : Rat → Rat} (h : ∀ x, f x x = g x) (l : List Rat) : List.zipWith f l l = l.map g := by
 rw [List.zipWith_self];congr 1;funext x;exact h x
theorem su_add : ∀ {l m : List Rat}, l.length = m.length → su (List.zipWith (· + ·) l m) = su l + su m
  | [], [], _ => by rw [List.zipWith_nil_left, su_nil]; grind
  | [], y :: m, h => by simp at h
  | x :: l, [], h => by simp at h
  | x :: l, y :: m, h => by
    rw [List.zipWith_cons_cons, su_cons, su_cons, su_cons, su_add (by simpa using h)]
    grind
theorem su_mul (k : Rat) : ∀ l : List Rat, su (l.map (· * k)) = su l * k
  | [] => by rw [List.map_nil, su_nil]; grind
  | x :: l => by rw [List.map_cons, su_cons, su_cons, su_mul k l]; grind
theorem su_zero : ∀ {l : List Rat}, (∀ x ∈ l, x = 0) → su l = 0
  | [], _ => su_nil
  | x :: l, h => by
    rw [su_cons, su_zero (fun y hy => h y (List.mem_cons_of_mem _ hy)), h x List.mem_cons_self]
    grind
theorem len_eq {s : List Int} {l m : List Rat} {N M : Nat} (h : Ok s l N) (h' : Ok s m M) : l.length = m.length := by
  have := h.ln;have := h'.ln
  omega
theorem map_rep {s : List Int} {l : List Rat} {N : Nat} (h : Ok s l N) {f : Rat → Rat} {k : Rat} (hf : ∀ x, f x = k) : l.map f = List.replicate (sz s).toNat k := by
  rw [List.eq_replicate_iff];refine ⟨by have := h.ln; rw [List.length_map]; omega, fun y hy => ?_⟩;obtain ⟨x, _, rfl⟩ := List.mem_map.1 hy;exact hf x
theorem rdOf_tx (l : List Rat) (p : Nat) (h : p < l.length) : rdOf ByteArray.empty (tx l) (p : Int) = rt l[p] := by
  simp [rdOf, tx, List.getD, h]
end Go.Proofs.YtlglpffoijdgbaaGreatDoor.Ten
