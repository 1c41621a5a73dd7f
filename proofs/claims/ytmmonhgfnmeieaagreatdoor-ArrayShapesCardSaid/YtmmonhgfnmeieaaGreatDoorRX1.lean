/- ref03.Lowest and Text, told by rationals. -/
import Derived.Test.YtmmonhgfnmeieaaGreatDoorRatV
import Derived.Test.YtmmonhgfnmeieaaGreatDoorPTx
-- mini
namespace Go.Proofs.YtmmonhgfnmeieaaGreatDoor.Err
open Go Go.RowKit Go.Extern.Stop Go.Stop Go.Extern Go.ZPWords Go.ZPMore Go.ZPLast Go.Proofs.YtmmonhgfnmeieaaGreatDoor.PT Go.Proofs.YtmmonhgfnmeieaaGreatDoor.Th Go.Proofs.YtmmonhgfnmeieaaGreatDoor.Th.Wh
set_option maxHeartbeats 4000000
set_option maxRecDepth 1000000
theorem results_one {P : Program} {tmps : Array Value} {w : World} {fn : Func} {r : ResultVar} {v : Value} (h : fn.results = #[r]) (hv : Vals P tmps w [r] [v]) : (results fn tmps).run P w = .ok v w := by
 unfold results;rw [show fn.results = [r].toArray from h, List.mapM_toArray];simp only [Sem.run_bind, Sem.run_map];rw [vals_run hv]
 · simp
 · intro u;rfl
 intro a t;rfl
theorem low3 (p q p' q' n g n1 n2 d1 d2 out : ByteArray) (sq sp : Int) (b1 b2 : Bool) (w : World) (h1 : rf2_Sign.f q = some sq) (hb1 : decide (sq < 0) = b1)
    (hA : b1 = true → rf2_Neg.f p = some p' ∧ rf2_Neg.f q = some q') (hB : b1 = false → p' = p ∧ q' = q)
    (h2 : rf2_Size.f p' = some n) (h3 : rf1_Gcd.f n q' = some g) (h4 : rf1_Div.f n g = some (n1, n2)) (h5 : rf1_Div.f q' g = some (d1, d2)) (h6 : rf2_Sign.f p' = some sp) (hb2 : decide (sp < 0) = b2)
    (hC : b2 = true → out = (⟨#[45]⟩ : ByteArray) ++ n1) (hD : b2 = false → out = n1) (hs : 1 + n1.size ≤ 9223372036854775807) :
    Calls Tryz.prog 57 #[.string p, .string q] w fun e w' => e = .returned (.agg #[.string out, .string d1]) ∧ Below w.heap.size w w' := by
 have A1 := A_ h1;have A2 := A_ h2;have A3 := A_ h3;have A4 := A_ h4;have A5 := A_ h5;have A6 := A_ h6;clear h1 h2 h3 h4 h5 h6;have hs' : (⟨#[45]⟩ : ByteArray).size + n1.size ≤ 9223372036854775807 := hs;have HB := A_ (Below.refl w.heap.size w)
 cases b1
 case true =>
  have N1 := A_ (hA rfl).1;have N2 := A_ (hA rfl).2;clear hA hB
  cases b2
  all_goals
   first | (have e_ := hD rfl; subst out) | obtain rfl := hC rfl
   clear hC hD;go_enter Tryz.func57, Tryz.ntmps57
   go_wp2_with (first
    | (refine BX_ 4 #[.string (⟨#[]⟩ : ByteArray), .string (⟨#[]⟩ : ByteArray)] 49 ?_; intro g4 hg w4 hbox hb; have BK4 := A_ hbox; have GE4 := GE_ (w := w) hg; replace HB := BT_ hb; clear hb hbox hg; have hf40 := blk_frozen BK4.out 0; have hf41 := blk_frozen BK4.out 1; have hz40 : w4.cell? ⟨g4, 0, none⟩ = some (.string (⟨#[]⟩ : ByteArray)) := (blk_cell BK4.out 0).trans rfl; have hz41 : w4.cell? ⟨g4, 1, none⟩ = some (.string (⟨#[]⟩ : ByteArray)) := (blk_cell BK4.out 1).trans rfl)
    | (go_at_call 79; with_reducible refine (rf2_Sign.calls q sq _ A1.out).mono ?_; rintro e w' ⟨rfl, ⟨⟨nd, rfl⟩⟩⟩)
    | (go_at_call 80; with_reducible refine (rf2_Neg.calls p p' _ N1.out).mono ?_; rintro e w' ⟨rfl, ⟨⟨nd, rfl⟩⟩⟩)
    | (go_at_call 80; with_reducible refine (rf2_Neg.calls q q' _ N2.out).mono ?_; rintro e w' ⟨rfl, ⟨⟨nd, rfl⟩⟩⟩)
    | (go_at_call 78; with_reducible refine (rf2_Size.calls p' n _ A2.out).mono ?_; rintro e w' ⟨rfl, ⟨⟨nd, rfl⟩⟩⟩)
    | (go_at_call 81; with_reducible refine (rf1_Gcd.calls n q' g _ A3.out).mono ?_; rintro e w' ⟨rfl, hb⟩; replace BK4 := BF_ BK4 hb; have hf40 := blk_frozen BK4.out 0; have hf41 := blk_frozen BK4.out 1; have hz40 := CA_ BK4; have hz41 := CB_ BK4; replace HB := BT_ hb; clear hb)
    | (go_at_call 82; with_reducible refine (rf1_Div.calls n g n1 n2 _ A4.out).mono ?_; rintro e w' ⟨rfl, hb⟩; replace BK4 := BF_ BK4 hb; have hf40 := blk_frozen BK4.out 0; have hf41 := blk_frozen BK4.out 1; have hz40 := CA_ BK4; have hz41 := CB_ BK4; replace HB := BT_ hb; clear hb)
    | (go_at_call 82; with_reducible refine (rf1_Div.calls q' g d1 d2 _ A5.out).mono ?_; rintro e w' ⟨rfl, hb⟩; replace BK4 := BF_ BK4 hb; have hf40 := blk_frozen BK4.out 0; have hf41 := blk_frozen BK4.out 1; have hz40 := CA_ BK4; have hz41 := CB_ BK4; replace HB := BT_ hb; clear hb)
    | (go_at_call 79; with_reducible refine (rf2_Sign.calls p' sp _ A6.out).mono ?_; rintro e w' ⟨rfl, ⟨⟨nd, rfl⟩⟩⟩))
   first
    | (refine bodyPost_ret (results_one (r := .cell 4 49) rfl (.cell g4 49 #[.string n1, .string d1] (0, 0) _ rfl (by (with_reducible repeat (first | refine blk_drewN ?_ _ | refine blk_drew ?_ | refine blk_alloc ?_ _)); refine blk_put (cs := #[.string n1, .string (⟨#[]⟩ : ByteArray)]) ?_ 1 _ rfl; (with_reducible repeat (first | refine blk_drewN ?_ _ | refine blk_drew ?_ | refine blk_alloc ?_ _)); refine blk_put (cs := #[.string (⟨#[]⟩ : ByteArray), .string (⟨#[]⟩ : ByteArray)]) ?_ 0 _ rfl; (with_reducible repeat (first | refine blk_drewN ?_ _ | refine blk_drew ?_ | refine blk_alloc ?_ _)); exact BK4.out) Tryz.underlying49 rfl (by kernel_rfl) .nil)) rfl ?_; exact ⟨rfl, T6_⟩)
    | (refine bodyPost_ret (results_one (r := .cell 4 49) rfl (.cell g4 49 #[.string ((⟨#[45]⟩ : ByteArray) ++ n1), .string d1] (0, 0) _ rfl (by (with_reducible repeat (first | refine blk_drewN ?_ _ | refine blk_drew ?_ | refine blk_alloc ?_ _)); refine blk_put (cs := #[.string ((⟨#[45]⟩ : ByteArray) ++ n1), .string (⟨#[]⟩ : ByteArray)]) ?_ 1 _ rfl; (with_reducible repeat (first | refine blk_drewN ?_ _ | refine blk_drew ?_ | refine blk_alloc ?_ _)); refine blk_put (cs := #[.string (⟨#[]⟩ : ByteArray), .string (⟨#[]⟩ : ByteArray)]) ?_ 0 _ rfl; (with_reducible repeat (first | refine blk_drewN ?_ _ | refine blk_drew ?_ | refine blk_alloc ?_ _)); exact BK4.out) Tryz.underlying49 rfl (by kernel_rfl) .nil)) rfl ?_; exact ⟨rfl, T6_⟩)
 case false =>
  obtain ⟨e1_, e2_⟩ := hB rfl;subst p' q';clear hA hB
  cases b2
  all_goals
   first | (have e_ := hD rfl; subst out) | obtain rfl := hC rfl
   clear hC hD;go_enter Tryz.func57, Tryz.ntmps57
   go_wp2_with (first
    | (refine BX_ 4 #[.string (⟨#[]⟩ : ByteArray), .string (⟨#[]⟩ : ByteArray)] 49 ?_; intro g4 hg w4 hbox hb; have BK4 := A_ hbox; have GE4 := GE_ (w := w) hg; replace HB := BT_ hb; clear hb hbox hg; have hf40 := blk_frozen BK4.out 0; have hf41 := blk_frozen BK4.out 1; have hz40 : w4.cell? ⟨g4, 0, none⟩ = some (.string (⟨#[]⟩ : ByteArray)) := (blk_cell BK4.out 0).trans rfl; have hz41 : w4.cell? ⟨g4, 1, none⟩ = some (.string (⟨#[]⟩ : ByteArray)) := (blk_cell BK4.out 1).trans rfl)
    | (go_at_call 79; with_reducible refine (rf2_Sign.calls q sq _ A1.out).mono ?_; rintro e w' ⟨rfl, ⟨⟨nd, rfl⟩⟩⟩)
    | (go_at_call 78; with_reducible refine (rf2_Size.calls p n _ A2.out).mono ?_; rintro e w' ⟨rfl, ⟨⟨nd, rfl⟩⟩⟩)
    | (go_at_call 81; with_reducible refine (rf1_Gcd.calls n q g _ A3.out).mono ?_; rintro e w' ⟨rfl, hb⟩; replace BK4 := BF_ BK4 hb; have hf40 := blk_frozen BK4.out 0; have hf41 := blk_frozen BK4.out 1; have hz40 := CA_ BK4; have hz41 := CB_ BK4; replace HB := BT_ hb; clear hb)
    | (go_at_call 82; with_reducible refine (rf1_Div.calls n g n1 n2 _ A4.out).mono ?_; rintro e w' ⟨rfl, hb⟩; replace BK4 := BF_ BK4 hb; have hf40 := blk_frozen BK4.out 0; have hf41 := blk_frozen BK4.out 1; have hz40 := CA_ BK4; have hz41 := CB_ BK4; replace HB := BT_ hb; clear hb)
    | (go_at_call 82; with_reducible refine (rf1_Div.calls q g d1 d2 _ A5.out).mono ?_; rintro e w' ⟨rfl, hb⟩; replace BK4 := BF_ BK4 hb; have hf40 := blk_frozen BK4.out 0; have hf41 := blk_frozen BK4.out 1; have hz40 := CA_ BK4; have hz41 := CB_ BK4; replace HB := BT_ hb; clear hb)
    | (go_at_call 79; with_reducible refine (rf2_Sign.calls p sp _ A6.out).mono ?_; rintro e w' ⟨rfl, ⟨⟨nd, rfl⟩⟩⟩))
   first
    | (refine bodyPost_ret (results_one (r := .cell 4 49) rfl (.cell g4 49 #[.string n1, .string d1] (0, 0) _ rfl (by (with_reducible repeat (first | refine blk_drewN ?_ _ | refine blk_drew ?_ | refine blk_alloc ?_ _)); refine blk_put (cs := #[.string n1, .string (⟨#[]⟩ : ByteArray)]) ?_ 1 _ rfl; (with_reducible repeat (first | refine blk_drewN ?_ _ | refine blk_drew ?_ | refine blk_alloc ?_ _)); refine blk_put (cs := #[.string (⟨#[]⟩ : ByteArray), .string (⟨#[]⟩ : ByteArray)]) ?_ 0 _ rfl; (with_reducible repeat (first | refine blk_drewN ?_ _ | refine blk_drew ?_ | refine blk_alloc ?_ _)); exact BK4.out) Tryz.underlying49 rfl (by kernel_rfl) .nil)) rfl ?_; exact ⟨rfl, T6_⟩)
    | (refine bodyPost_ret (results_one (r := .cell 4 49) rfl (.cell g4 49 #[.string ((⟨#[45]⟩ : ByteArray) ++ n1), .string d1] (0, 0) _ rfl (by (with_reducible repeat (first | refine blk_drewN ?_ _ | refine blk_drew ?_ | refine blk_alloc ?_ _)); refine blk_put (cs := #[.string ((⟨#[45]⟩ : ByteArray) ++ n1), .string (⟨#[]⟩ : ByteArray)]) ?_ 1 _ rfl; (with_reducible repeat (first | refine blk_drewN ?_ _ | refine blk_drew ?_ | refine blk_alloc ?_ _)); refine blk_put (cs := #[.string (⟨#[]⟩ : ByteArray), .string (⟨#[]⟩ : ByteArray)]) ?_ 0 _ rfl; (with_reducible repeat (first | refine blk_drewN ?_ _ | refine blk_drew ?_ | refine blk_alloc ?_ _)); exact BK4.out) Tryz.underlying49 rfl (by kernel_rfl) .nil)) rfl ?_; exact ⟨rfl, T6_⟩)
theorem text3 (p q : ByteArray) (b : Bool) (w : World) (hb : (q.toList == ([49] : List UInt8)) = b) (h1 : p.size + 1 ≤ 9223372036854775807) (h2 : (p ++ (⟨#[47]⟩ : ByteArray)).size + q.size ≤ 9223372036854775807) :
    Calls Tryz.prog 58 #[.agg #[.string p, .string q]] w fun e w' => e = .returned (.string (if b = true then p else p ++ (⟨#[47]⟩ : ByteArray) ++ q)) ∧ Below w.heap.size w w' := by
 have HB := A_ (Below.refl w.heap.size w)
 cases b
 all_goals
  go_enter Tryz.func58, Tryz.ntmps58
  go_wp2_with (first
   | (refine BX_ 1 #[.string p, .string q] 49 ?_; intro g1 hg w1 hbox hb; have BK1 := A_ hbox; have GE1 := GE_ (w := w) hg; replace HB := BT_ hb; clear hb hbox hg; have hf10 := blk_frozen BK1.out 0; have hf11 := blk_frozen BK1.out 1; have hz10 : w1.cell? ⟨g1, 0, none⟩ = some (.string p) := (blk_cell BK1.out 0).trans rfl; have hz11 : w1.cell? ⟨g1, 1, none⟩ = some (.string q) := (blk_cell BK1.out 1).trans rfl))
  go_ret
  exact ⟨by simp, T6_⟩
noncomputable def rLowest (p q : ByteArray) : Option (ByteArray × ByteArray) := match zv p, zv q with | some a, some b => if b ≠ 0 ∧ zs a ≤ 100000000000 ∧ zs b ≤ 100000000000 then some (zt (Rat.divInt a b).num, txt (Rat.divInt a b).den) else none | _, _ => none
theorem rLowest_zt (a b : Int) (hb : b ≠ 0) (ha : zs a ≤ 100000000000) (hb' : zs b ≤ 100000000000) : rLowest (zt a) (zt b) = some (zt (Rat.divInt a b).num, txt (Rat.divInt a b).den) := by
  rw [rLowest, zv_zt, zv_zt];dsimp only;rw [if_pos ⟨hb, ha, hb'⟩]
theorem lowest3_zt (a b : Int) (hb : b ≠ 0) (ha : zs a ≤ 100000000000) (hb' : zs b ≤ 100000000000) (w : World) :
    Calls Tryz.prog 57 #[.string (zt a), .string (zt b)] w fun e w' => e = .returned (.agg #[.string (zt (Rat.divInt a b).num), .string (txt (Rat.divInt a b).den)]) ∧ Below w.heap.size w w' := by
 rw [← ln_divInt a b hb, ← ld_divInt a b hb]
 have hg : Nat.gcd a.natAbs b.natAbs ≠ 0 := by
  have := Nat.gcd_pos_of_pos_right a.natAbs (show 0 < b.natAbs by omega);omega
 have fa : Fit (txt a.natAbs) := fit_nat (Nat.le_trans ha (by decide));have fb : Fit (txt b.natAbs) := fit_nat (Nat.le_trans hb' (by decide));have hgs : (txt (Nat.gcd a.natAbs b.natAbs)).size ≤ 100000000000 := Nat.le_trans (ts_mono (Nat.gcd_le_right _ (by omega))) hb';have fg : Fit (txt (Nat.gcd a.natAbs b.natAbs)) := fit_nat (Nat.le_trans hgs (by decide));have h3 := rf1_Gcd.txt fa fb;have h4 := rf1_Div.txt fa fg hg;have h5 := rf1_Div.txt fb fg hg;have hq : (txt (a.natAbs / Nat.gcd a.natAbs b.natAbs)).size ≤ 100000000000 := Nat.le_trans (ts_mono (Nat.div_le_self _ _)) ha
 have sl : ∀ z : Int, decide (sgn z < 0) = decide (z < 0) := fun z => by
  have : sgn z < 0 ↔ z < 0 := by unfold sgn; split <;> (try split) <;> omega
  simp [this]
 have k7 : ∀ c : Bool, decide (sgn (lp a b) < 0) = c → c = true → zt (ln a b) = (⟨#[45]⟩ : ByteArray) ++ txt (a.natAbs / Nat.gcd a.natAbs b.natAbs) := by
  intro c hc e;rw [sl, e, decide_eq_true_eq] at hc;rw [ln, if_pos hc];have h9 : lp a b ≠ 0 := by omega
  have h10 : 0 < a.natAbs := by
   unfold lp at h9;split at h9 <;> omega
  have hp : 0 < a.natAbs / Nat.gcd a.natAbs b.natAbs := Nat.div_pos (Nat.gcd_le_left _ h10) (by omega);apply ext_of;rw [zt_minus (by omega), minus_list, Int.natAbs_neg];rfl
 have k8 : ∀ c : Bool, decide (sgn (lp a b) < 0) = c → c = false → zt (ln a b) = txt (a.natAbs / Nat.gcd a.natAbs b.natAbs) := by
  intro c hc e;rw [sl, e, decide_eq_false_iff_not] at hc;rw [ln, if_neg hc, zt_nat]
 by_cases h : b < 0
 · have hl : lp a b = -a := by unfold lp; rw [if_pos h]
   have hbt : zt (-b) = txt b.natAbs := by rw [zt_plain (by omega), Int.natAbs_neg]
   have e1 := rf2_Neg.zt (x := a) (Nat.le_trans ha (by decide));have e2 := rf2_Neg.zt (x := b) (Nat.le_trans hb' (by decide));have e3 := rf2_Size.zt (-a);rw [hbt] at e2;rw [Int.natAbs_neg] at e3;exact low3 _ _ _ _ _ _ _ _ _ _ _ _ _ _ _ w (rf2_Sign.zt b) (by rw [sl, decide_eq_true h]) (fun _ => ⟨e1, e2⟩) (fun e => by cases e) e3 h3 h4 h5 (rf2_Sign.zt (-a)) rfl (k7 _ (by rw [hl])) (k8 _ (by rw [hl])) (by omega)
 have hl : lp a b = a := by unfold lp; rw [if_neg h]
 have hbt : zt b = txt b.natAbs := zt_plain h;have e4 := rf2_Sign.zt b;rw [hbt] at e4 ⊢;exact low3 _ _ _ _ _ _ _ _ _ _ _ _ _ _ _ w e4 (by rw [sl, decide_eq_false h]) (fun e => by cases e) (fun _ => ⟨rfl, rfl⟩) (rf2_Size.zt a) h3 h4 h5 (rf2_Sign.zt a) rfl (k7 _ (by rw [hl])) (k8 _ (by rw [hl])) (by omega)
theorem rLowest_calls (p q r1 r2 : ByteArray) (w : World) (h : rLowest p q = some (r1, r2)) :
    Calls Tryz.prog 57 #[.string p, .string q] w fun e w' => e = .returned (.agg #[.string r1, .string r2]) ∧ Below w.heap.size w w' := by
 rcases zv_cases p with ⟨h1, _⟩ | ⟨a, ha, h1⟩
 · rw [rLowest, h1] at h
   cases h
 rcases zv_cases q with ⟨h2, _⟩ | ⟨b, hb, h2⟩
 · rw [rLowest, h1, h2] at h
   cases h
 rw [rLowest, h1, h2] at h;dsimp only at h;by_cases c : b ≠ 0 ∧ zs a ≤ 100000000000 ∧ zs b ≤ 100000000000
 · rw [if_pos c] at h;injection h with h;injection h with e1 e2;have := lowest3_zt a b c.1 c.2.1 c.2.2 w;rw [e1, e2] at this;rw [ha, hb];exact this
 rw [if_neg c] at h
 cases h
end Go.Proofs.YtmmonhgfnmeieaaGreatDoor.Err
