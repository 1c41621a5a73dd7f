/- TensorZips: the plain law. -/
import Derived.Test.YtlglpffoijdgbaaGreatDoorPQZx
namespace Go.Proofs.YtlglpffoijdgbaaGreatDoor.Pure
open Go Go.RowKit Go.ZPWords Go.Proofs.YtlglpffoijdgbaaGreatDoor.PQZ Go.Proofs.YtlglpffoijdgbaaGreatDoor.Err Go.Proofs.YtlglpffoijdgbaaGreatDoor.Th Go.Proofs.YtlglpffoijdgbaaGreatDoor.Ten
set_option linter.unusedVariables false
def rs (x : Rat) : S46 := ⟨Th.Wh.zt x.num, txt x.den⟩
theorem rd_rs (p q : List Rat) (x : Rat) : rd_T46 ((p ++ x :: q).map rs) (p.length : Int) = rs x := by
  unfold rd_T46
  simp [List.getD]
theorem of_l0 (s : List Int) (l : List Rat) (hl : l.length ≤ 1000000) (hb : ∀ x ∈ l, qm x ≤ 100000000000) : ∀ q p : List Rat, p ++ q = l → Ev (fun k => tapewrightref05_Of.l0 k (l.map rs) (p.length : Int) s (tx p)) (s, tx l)
  | [], p, h => by
    rw [List.append_nil] at h
    subst h
    exact Ev.step (f := fun _ => some (s, tx p)) (fun k => by rw [tapewrightref05_Of.l0, if_neg (by rw [List.length_map]; omega)]) (Ev.now _)
  | x :: q, p, h => by
    have hn : p.length + q.length + 1 = l.length := by rw [← h]; simp; omega
    have h1 : (p.length : Int) < ((l.map rs).length : Int) := by rw [List.length_map]; omega
    have h2 : (0 : Int) ≤ (p.length : Int) := by omega
    have h3 : (tx p).length < 8796093022208 := by rw [tx_len]; omega
    have hr : rd_T46 (l.map rs) (p.length : Int) = rs x := by rw [← h, rd_rs]
    have ih := of_l0 s l hl hb q (p ++ [x]) (by rw [← h]; simp)
    have hw : Aside0 (wrap64 ((p.length : Int) + 1) = ((p ++ [x]).length : Int)) := ⟨by rw [w64 (by omega) (by omega)]; simp⟩
    have ht : tapewrightref03_Text.f (rs x).f0 (rs x).f1 = some (rt x) := tapewrightref03_Text.rt x (hb x (by rw [← h]; simp))
    have ha : tx p ++ [rt x] = tx (p ++ [x]) := by simp [tx]
    exact Ev.step (fun k => by rw [tapewrightref05_Of.l0, if_pos h1, if_pos h2, hr, ht, Option.bind_some, if_pos h3, ha, hw.out]) ih
theorem of_ev (s : List Int) (l : List Rat) (hl : l.length ≤ 1000000) (hb : ∀ x ∈ l, qm x ≤ 100000000000) : Ev (fun k => tapewrightref05_Of.f k s (l.map rs)) (s, tx l) :=
  Ev.congr (fun k => by rw [tapewrightref05_Of.f]; rfl) (of_l0 s l hl hb l [] rfl)
theorem at_rt (s : List Int) (p q : List Rat) (x : Rat) (hx : qm x ≤ 1000000000) : tapewrightref05_At.f s (tx (p ++ x :: q)) (p.length : Int) = some (Th.Wh.zt x.num, txt x.den) := by
  have e : tx (p ++ x :: q) = tx p ++ rt x :: tx q := by simp [tx]
  have hr : rdOf ByteArray.empty (tx (p ++ x :: q)) (p.length : Int) = rt x := by
    have h := rdOf_mid (tx p) (tx q) (rt x)
    rw [tx_len] at h
    rw [e, h]
  have h1 : (p.length : Int) < ((tx (p ++ x :: q)).length : Int) := by rw [tx_len]; simp; omega
  have hs := size_rt x
  rw [tapewrightref05_At.f, if_pos (by omega), if_pos h1, hr, tapewrightref03_Read.rt x (by omega), Option.bind_some]
/-- What a round of the reference's Zip does. -/
def Stp (op : ByteArray) (f : Rat → Rat → Rat) : Prop := ∀ (x y : Rat) (k : Nat) (acc : List S46) (j : Int) (s : List Int) (d : List ByteArray) (s2 : List Int) (d2 : List ByteArray), qm x ≤ 40 → qm y ≤ 40 →
    (if op.toList = ([97, 100, 100] : List UInt8) then ((tapewrightref03_Add.f (Th.Wh.zt x.num) (txt x.den) (Th.Wh.zt y.num) (txt y.den)).bind fun b => (if acc.length < 4398046511104 then tapewrightref05_Zip.l0 k op (acc ++ [(⟨b.1, b.2⟩ : S46)]) j s d s2 d2 else none)) else (if op.toList = ([115, 117, 98] : List UInt8) then ((tapewrightref03_Neg.f (Th.Wh.zt y.num) (txt y.den)).bind fun c => ((tapewrightref03_Add.f (Th.Wh.zt x.num) (txt x.den) c.1 c.2).bind fun b => (if acc.length < 4398046511104 then tapewrightref05_Zip.l0 k op (acc ++ [(⟨b.1, b.2⟩ : S46)]) j s d s2 d2 else none))) else ((tapewrightref03_Mul.f (Th.Wh.zt x.num) (txt x.den) (Th.Wh.zt y.num) (txt y.den)).bind fun b => (if acc.length < 4398046511104 then tapewrightref05_Zip.l0 k op (acc ++ [(⟨b.1, b.2⟩ : S46)]) j s d s2 d2 else none)))) = if acc.length < 4398046511104 then tapewrightref05_Zip.l0 k op (acc ++ [rs (f x y)]) j s d s2 d2 else none
theorem stp_add : Stp ⟨#[97, 100, 100]⟩ (· + ·) := fun x y k acc j s d s2 d2 hx hy => by
  rw [if_pos (by decide +kernel), tapewrightref03_Add.rt (fr hx) (fr hy), Option.bind_some]; rfl
theorem stp_sub : Stp ⟨#[115, 117, 98]⟩ (· - ·) := fun x y k acc j s d s2 d2 hx hy => by
  have hn : qm (-y) ≤ 40 := by rw [qm_neg]; exact hy
  rw [if_neg (by decide +kernel), if_pos (by decide +kernel), tapewrightref03_Neg.rt (fr hy), Option.bind_some]
  dsimp only
  rw [tapewrightref03_Add.rt (fr hx) (fr hn), Option.bind_some, ← Rat.sub_eq_add_neg]; rfl
theorem stp_mul : Stp ⟨#[109, 117, 108]⟩ (· * ·) := fun x y k acc j s d s2 d2 hx hy => by
  rw [if_neg (by decide +kernel), if_neg (by decide +kernel), tapewrightref03_Mul.rt (fr hx) (fr hy), Option.bind_some]; rfl
theorem zip_l0 (op : ByteArray) (f : Rat → Rat → Rat) (hst : Stp op f) (s s2 : List Int) (l m : List Rat) (hlm : l.length = m.length) (hl : l.length ≤ 64) (hb : ∀ x ∈ l, qm x ≤ 40) (hb' : ∀ x ∈ m, qm x ≤ 40) (hf : ∀ x ∈ List.zipWith f l m, qm x ≤ 100000000000) :
    ∀ q q' p p' : List Rat, p ++ q = l → p' ++ q' = m → p.length = p'.length → Ev (fun k => tapewrightref05_Zip.l0 k op ((List.zipWith f p p').map rs) (p.length : Int) s (tx l) s2 (tx m)) (s, tx (List.zipWith f l m))
  | [], [], p, p', h, h', hp => by
    rw [List.append_nil] at h h'
    subst h h'
    have ho := of_ev s (List.zipWith f p p') (by rw [List.length_zipWith]; omega) hf
    exact Ev.step (f := fun k => (tapewrightref05_Of.f k s ((List.zipWith f p p').map rs)).bind fun b => some (b.1, b.2)) (fun k => by rw [tapewrightref05_Zip.l0, if_neg (by rw [tx_len]; omega)]) (Ev.bind ho (Ev.now _))
  | [], y :: q', p, p', h, h', hp => by rw [← h, ← h'] at hlm; simp at hlm; omega
  | x :: q, [], p, p', h, h', hp => by rw [← h, ← h'] at hlm; simp at hlm; omega
  | x :: q, y :: q', p, p', h, h', hp => by
    have hn : p.length + q.length + 1 = l.length := by rw [← h]; simp; omega
    have h1 : (p.length : Int) < ((tx l).length : Int) := by rw [tx_len]; omega
    have hx : qm x ≤ 40 := hb x (by rw [← h]; simp)
    have hy : qm y ≤ 40 := hb' y (by rw [← h']; simp)
    have a1 := at_rt s p q x (Nat.le_trans hx (by decide))
    have a2 := at_rt s2 p' q' y (Nat.le_trans hy (by decide))
    rw [h] at a1
    rw [h', ← hp] at a2
    have hq : ((List.zipWith f p p').map rs).length < 4398046511104 := by rw [List.length_map, List.length_zipWith]; omega
    have ha : (List.zipWith f p p').map rs ++ [rs (f x y)] = (List.zipWith f (p ++ [x]) (p' ++ [y])).map rs := by rw [List.zipWith_append hp, List.map_append]; rfl
    have ih := zip_l0 op f hst s s2 l m hlm hl hb hb' hf q q' (p ++ [x]) (p' ++ [y]) (by rw [← h]; simp) (by rw [← h']; simp) (by simp [hp])
    have hw : Aside0 (wrap64 ((p.length : Int) + 1) = ((p ++ [x]).length : Int)) := ⟨by rw [w64 (by omega) (by omega)]; simp⟩
    refine Ev.step (fun k => ?_) ih
    rw [tapewrightref05_Zip.l0, if_pos h1, a1, Option.bind_some, a2, Option.bind_some]
    refine (hst x y k _ _ _ _ _ _ hx hy).trans ?_
    rw [if_pos hq, ha, hw.out]
theorem awake : tapewrightlaw05_awake.f = some true := rfl
theorem TensorZips (op : ByteArray) (s : List Int) (d : List ByteArray) (s2 : List Int) (d2 : List ByteArray) : ∃ k, tapewrightlaw05_TensorZips.f k op s d s2 d2 = some true := by
  have hz : ∀ n, tapewrightlaw05_TensorZips.j0 (n + 1) op true s d s2 d2 = some true := fun n => by rw [tapewrightlaw05_TensorZips.j0, if_pos rfl, awake]; rfl
  by_cases h1 : small ⟨s, d⟩ = true
  case neg => exact ⟨0 + 1, by rw [tapewrightlaw05_TensorZips.f, tapewrightref05_Small.f, Option.bind_some, if_neg h1]; exact hz 0⟩
  by_cases h2 : small ⟨s2, d2⟩ = true
  case neg =>
    rw [Bool.not_eq_true] at h2
    exact ⟨0 + 1, by rw [tapewrightlaw05_TensorZips.f, tapewrightref05_Small.f, tapewrightref05_Small.f, Option.bind_some, if_pos h1, Option.bind_some, h2]; exact hz 0⟩
  have m1 := (small_parts h1).1
  have m2 := (small_parts h2).1
  have bad : ∀ n r1, tapewrightlaw05_TensorZips.j1 (n + 1) op 1 true s d s2 d2 r1 [] = some true := fun n r1 => by rw [tapewrightlaw05_TensorZips.j1, if_pos rfl, if_pos (show (([] : List ByteArray).length : Int) = 0 from rfl), if_pos rfl, awake]; rfl
  have three : ∀ n c r1 r2, ((some (tRight ⟨s, d⟩)).bind fun t => if t = true then (tapewrightref05_Right.f s2 d2).bind fun u => tapewrightlaw05_TensorZips.j1 n op c (!u) s d s2 d2 r1 r2 else tapewrightlaw05_TensorZips.j1 n op c true s d s2 d2 r1 r2) = tapewrightlaw05_TensorZips.j1 n op c (!(tRight ⟨s, d⟩ && tRight ⟨s2, d2⟩)) s d s2 d2 r1 r2 := by
    intro n c r1 r2
    rw [Option.bind_some, tapewrightref05_Right.of _ _ m2, Option.bind_some]
    cases tRight ⟨s, d⟩
    · rw [if_neg (by decide)]; rfl
    · rw [if_pos rfl]; rfl
  have st : ∀ n, tapewrightlaw05_TensorZips.f (n + 1) op s d s2 d2 = (if op.toList = ([97, 100, 100] : List UInt8) ∨ op.toList = ([115, 117, 98] : List UInt8) ∨ op.toList = ([109, 117, 108] : List UInt8) then tapewrightlaw05_TensorZips.j1 n op (tZip op ⟨s, d⟩ ⟨s2, d2⟩).2 (!(tRight ⟨s, d⟩ && tRight ⟨s2, d2⟩)) s d s2 d2 (tZip op ⟨s, d⟩ ⟨s2, d2⟩).1.s (tZip op ⟨s, d⟩ ⟨s2, d2⟩).1.d else tapewrightlaw05_TensorZips.j1 n op (tZip op ⟨s, d⟩ ⟨s2, d2⟩).2 true s d s2 d2 (tZip op ⟨s, d⟩ ⟨s2, d2⟩).1.s (tZip op ⟨s, d⟩ ⟨s2, d2⟩).1.d) := by
    intro n
    rw [tapewrightlaw05_TensorZips.f, tapewrightref05_Small.f, tapewrightref05_Small.f, Option.bind_some, if_pos h1, Option.bind_some, h2]
    show tapewrightlaw05_TensorZips.j0 (n + 1) op false s d s2 d2 = _
    rw [tapewrightlaw05_TensorZips.j0, if_neg (by decide), tensor_Zip.of _ _ _ _ _ m1 m2, Option.bind_some, tensor_Right.of _ _ m1, Option.bind_some, tapewrightref05_Right.of _ _ m1, Option.bind_some, if_neg (by simp)]
    dsimp only
    by_cases o1 : op.toList = ([97, 100, 100] : List UInt8)
    · rw [if_pos o1, if_pos (Or.inl o1)]; exact three _ _ _ _
    by_cases o2 : op.toList = ([115, 117, 98] : List UInt8)
    · rw [if_neg o1, if_pos o2, if_pos (Or.inr (Or.inl o2))]; exact three _ _ _ _
    by_cases o3 : op.toList = ([109, 117, 108] : List UInt8)
    · rw [if_neg o1, if_neg o2, if_pos o3, if_pos (Or.inr (Or.inr o3))]; exact three _ _ _ _
    · rw [if_neg o1, if_neg o2, if_neg o3, if_neg (by rintro (h | h | h) <;> contradiction)]
  have good : ∀ (rf : ByteArray → ByteArray → ByteArray × Int) (f : Rat → Rat → Rat), opf op = some rf → (∀ x y, rf (rt x) (rt y) = (rt (f x y), 0)) → (∀ x y, qm x ≤ 40 → qm y ≤ 40 → qm (f x y) ≤ 100) → Stp op f → ∃ n, tapewrightlaw05_TensorZips.j1 n op (tZip op ⟨s, d⟩ ⟨s2, d2⟩).2 (!(tRight ⟨s, d⟩ && tRight ⟨s2, d2⟩)) s d s2 d2 (tZip op ⟨s, d⟩ ⟨s2, d2⟩).1.s (tZip op ⟨s, d⟩ ⟨s2, d2⟩).1.d = some true := by
    intro rf f ho hf hq hst
    rcases cases_t h1 with r1 | ⟨l, rfl, o1⟩
    · rw [tzip_no op (Or.inl r1), r1]; exact ⟨0 + 1, bad 0 _⟩
    rcases cases_t h2 with r2 | ⟨m, rfl, o2⟩
    · rw [tzip_no op (Or.inr r2), r2, Bool.and_false]; exact ⟨0 + 1, bad 0 _⟩
    have hl := o1.le64
    rw [o1.right, o2.right]
    by_cases he : s = s2
    case neg =>
      refine ⟨0 + 1, ?_⟩
      rw [tzip_sh ho o1 o2 he]
      show tapewrightlaw05_TensorZips.j1 (0 + 1) op 4 false s (tx l) s2 (tx m) [] [] = some true
      rw [tapewrightlaw05_TensorZips.j1, if_neg (by decide), tapewrightref04_Same.of _ _ (by omega), Option.bind_some, decide_eq_false he, if_neg (by decide), if_pos (show (([] : List ByteArray).length : Int) = 0 from rfl), if_pos rfl, awake]
      rfl
    subst he
    have o3 : Ok s (List.zipWith f l m) 100 := o1.zip o2 f hq
    have hlm : l.length = m.length := len_eq o1 o2
    have hev := zip_l0 op f hst s s l m hlm hl.1 o1.bd o2.bd (fun x hx => Nat.le_trans (o3.bd x hx) (by decide)) l m [] [] rfl rfl rfl
    obtain ⟨K, hK⟩ := hev.rounds
    refine ⟨K + 1, ?_⟩
    rw [tzip_gen ho hf o1 o2]
    show tapewrightlaw05_TensorZips.j1 (K + 1) op 0 false s (tx l) s (tx m) s (tx (List.zipWith f l m)) = some true
    have hz : tapewrightref05_Zip.f K op s (tx l) s (tx m) = some (s, tx (List.zipWith f l m)) := by rw [tapewrightref05_Zip.f]; exact hK
    have hn : (tx (List.zipWith f l m)).length ≤ 1000000 := by rw [tx_len, List.length_zipWith]; omega
    rw [tapewrightlaw05_TensorZips.j1, if_neg (by decide), tapewrightref04_Same.of _ _ (by omega), Option.bind_some, decide_eq_true rfl, if_pos rfl, hz, Option.bind_some, tapewrightref05_Equal.of _ _ _ _ ⟨by omega, hn⟩, Option.bind_some, decide_eq_true ⟨rfl, rfl⟩, if_pos rfl, if_pos rfl, awake]
    rfl
  by_cases o1 : op.toList = ([97, 100, 100] : List UInt8)
  · obtain rfl : op = ⟨#[97, 100, 100]⟩ := toList_inj.1 (o1.trans (by decide +kernel))
    obtain ⟨n, hn⟩ := good rAdd (· + ·) opf_add rAdd_rt (fun x y hx hy => Nat.le_trans (qa hx hy) (by decide)) stp_add
    exact ⟨n + 1, by rw [st, if_pos (Or.inl o1)]; exact hn⟩
  by_cases o2 : op.toList = ([115, 117, 98] : List UInt8)
  · obtain rfl : op = ⟨#[115, 117, 98]⟩ := toList_inj.1 (o2.trans (by decide +kernel))
    obtain ⟨n, hn⟩ := good rSub (· - ·) opf_sub rSub_rt (fun x y hx hy => Nat.le_trans (qb hx hy) (by decide)) stp_sub
    exact ⟨n + 1, by rw [st, if_pos (Or.inr (Or.inl o2))]; exact hn⟩
  by_cases o3 : op.toList = ([109, 117, 108] : List UInt8)
  · obtain rfl : op = ⟨#[109, 117, 108]⟩ := toList_inj.1 (o3.trans (by decide +kernel))
    obtain ⟨n, hn⟩ := good rMul (· * ·) opf_mul rMul_rt (fun x y hx hy => Nat.le_trans (qx hx hy) (by decide)) stp_mul
    exact ⟨n + 1, by rw [st, if_pos (Or.inr (Or.inr o3))]; exact hn⟩
  have hn : opf op = none := by
    unfold opf
    rw [if_neg (fun e => o1 (by rw [e]; decide +kernel)), if_neg (fun e => o2 (by rw [e]; decide +kernel)), if_neg (fun e => o3 (by rw [e]; decide +kernel))]
  refine ⟨0 + 1 + 1, ?_⟩
  rw [st, if_neg (by rintro (h | h | h) <;> contradiction), show tZip op ⟨s, d⟩ ⟨s2, d2⟩ = (nilT, 1) from by unfold tZip; rw [hn]]
  exact bad 0 _
end Go.Proofs.YtlglpffoijdgbaaGreatDoor.Pure
