/- nat.Right of a text: the walk of strings.IndexFunc at the closure that asks for what is no digit. (Turned from the shelf's worked walk of strings.indexFunc.) -/
import Derived.Test.YtmmonhgfnmeieaaGreatDoorMine
import Derived.Test.YtmmonhgfnmeieaaGreatDoorProg
import Derived.Lib.OthersKept
import Derived.Laws.RangeAny
set_option maxHeartbeats 2000000
set_option maxRecDepth 1000000
-- mini
namespace Go.Proofs.YtmmonhgfnmeieaaGreatDoor.Str
open Go Go.RowKit Go.Lib Go.ZPWords
/-- Is a rune no digit? -/
def nd (r : Nat) : Bool := decide (r < 48) || decide (57 < r)
/-- Are all bytes from a place on digits? -/
def digFrom (s : ByteArray) : Nat → Nat → Bool
  | 0, _ => true
  | f + 1, pos => if h : pos < s.size then (!(nd (s[pos]'h).toNat) && digFrom s f (pos + 1)) else true
theorem digFrom_end (s : ByteArray) (f pos : Nat) (h : ¬ pos < s.size) : digFrom s f pos = true := by cases f <;> simp [digFrom, h]
def isDig (c : UInt8) : Bool := decide (48 ≤ c.toNat) && decide (c.toNat ≤ 57)
theorem isDig_nd (c : UInt8) : isDig c = !nd c.toNat := by
  unfold isDig nd;rw [Bool.eq_iff_iff]
  simp
theorem digFrom_all (s : ByteArray) : ∀ f pos, s.size ≤ pos + f → digFrom s f pos = (s.data.toList.drop pos).all isDig
  | 0, pos, h => by
    have : s.data.toList.drop pos = [] := by rw [List.drop_eq_nil_iff]; simpa using h
    simp [digFrom, this]
  | f + 1, pos, h => by
    unfold digFrom
    by_cases hp : pos < s.size
    · rw [dif_pos hp, digFrom_all s f (pos + 1) (by omega)]
      have hl : pos < s.data.toList.length := by simpa using hp
      rw [List.drop_eq_getElem_cons hl, List.all_cons, isDig_nd];rfl
    · rw [dif_neg hp]
      have : s.data.toList.drop pos = [] := by rw [List.drop_eq_nil_iff]; simpa using hp
      simp [this]
theorem nd_calls (r : Nat) (w : World) : Calls Tryz.prog 112 #[.int .i32 (r : Int)] w fun e w' => e = .returned (.bool (nd r)) ∧ w' = w := by
 by_cases h1 : (r : Int) < 48
 · have h2 := decide_eq_true h1;have h4 : nd r = true := by unfold nd; simp; omega
   have H4 := A_ h4;clear h4 h1;go_enter Tryz.func112, Tryz.ntmps112;go_wp2;go_ret;exact ⟨by rw [H4.out]; rfl, rfl⟩
 have h2 := decide_eq_false h1;by_cases h3 : 57 < (r : Int)
 · have h5 := decide_eq_true h3;have h4 : nd r = true := by unfold nd; simp; omega
   have H4 := A_ h4;clear h4 h1 h3;go_enter Tryz.func112, Tryz.ntmps112;go_wp2;go_ret;exact ⟨by rw [H4.out]; rfl, rfl⟩
 have h5 := decide_eq_false h3;have h4 : nd r = false := by unfold nd; simp; omega
 have H4 := A_ h4;clear h4 h1 h3;go_enter Tryz.func112, Tryz.ntmps112;go_wp2;go_ret;exact ⟨by rw [H4.out]; rfl, rfl⟩
/-- What is told of the place that is found. -/
def Found (s : ByteArray) (i : Int) : Prop := decide (i < 0) = digFrom s s.size 0
theorem indexFunc_calls (s : ByteArray) (w : World) :
    Calls Tryz.prog 133 #[.string s, .func (.func 112) #[] #[], .bool true] w fun e w' => (∃ i : Int, e = .returned (.int .i64 i) ∧ Found s i) ∧ Below w.heap.size w w' := by
 go_enter Tryz.func133, Tryz.ntmps133;go_wp2;go_loopg [] s.size (fun gf wx => ∃ pos : Nat, wx.heap[w.heap.size]? = some (.stringIter s pos) ∧ Below w.heap.size w wx ∧ digFrom s gf pos = digFrom s s.size 0 ∧ s.size ≤ pos + gf)
 case atStart => exact ⟨0, World.iter_heap w s 0, (Below.refl _ w).alloc (Nat.le_refl _) _, rfl, by omega⟩
 obtain ⟨pos, hit, hbw, hleft, hfu⟩ := hrel;by_cases hps : pos < s.size
 · obtain ⟨g', rfl⟩ : ∃ g', gk = g' + 1 := ⟨gk - 1, by omega⟩;have hnx : ∀ ty, (Instr.next (.pointer (some ⟨w.heap.size, 0, none⟩)) true ty).run Tryz.prog wr = _ := fun ty => Lib.run_next_any_at wr w.heap.size s pos ty hit hps
   have hone : nd (Utf8.decode s pos).1 = nd (s[pos]'hps).toNat ∧ (nd (s[pos]'hps).toNat = false → (Utf8.decode s pos).2 = 1) := by
    by_cases ha : (s[pos]'hps).toNat < 128
    · rw [decode_ascii s pos hps ha]; exact ⟨rfl, fun _ => rfl⟩
    have hd := decode_high s pos hps (by omega);have e1 : nd (Utf8.decode s pos).1 = true := by unfold nd; simp; omega
    have e2 : nd (s[pos]'hps).toNat = true := by unfold nd; simp; omega
    exact ⟨by rw [e1, e2], fun h => by rw [e2] at h; cases h⟩
   obtain ⟨R, hR⟩ : ∃ R, (Utf8.decode s pos).1 = R := ⟨_, rfl⟩;obtain ⟨K, hK⟩ : ∃ K, (Utf8.decode s pos).2 = K := ⟨_, rfl⟩;simp only [digFrom, hps, dif_pos, hR, hK] at hleft hone;rw [hR, hK] at hnx;obtain ⟨ho1, ho2⟩ := hone;rw [← ho1] at hleft ho2;clear ho1;have hit2 := Lib.iterAt_heap wr w.heap.size s pos (pos + K) hit;have hbw2 := Lib.below_iterAt hbw (k := w.heap.size) (Nat.le_refl _) s (pos + K);obtain ⟨W, hWd⟩ : ∃ W, wr.iterAt w.heap.size s (pos + K) = W := ⟨_, rfl⟩;rw [hWd] at hnx hit2 hbw2;have cS : Calls Tryz.prog 112 (#[.int .i32 (R : Int)] ++ #[]) W _ := nd_calls R W
   cases hsp : nd R <;> rw [hsp] at cS hleft ho2
   · have hK1 := ho2 rfl;subst hK1;simp only [Bool.not_false, Bool.true_and] at hleft;have HL := A_ hleft;clear hleft ho2;go_wp2_with (go_at_call 112; refine cS.mono ?_; rintro e W' ⟨rfl, rfl⟩);go_roundg g'
     case measure => omega
     case rel => exact ⟨pos + 1, hit2, hbw2, HL.out, by omega⟩
   simp only [Bool.not_true, Bool.false_and] at hleft
   have hfin : Found s (pos : Int) := by
    unfold Found; rw [← hleft]; simp
   have HF := A_ hfin;clear hleft ho2 hfin;go_wp2_with (go_at_call 112; refine cS.mono ?_; rintro e W' ⟨rfl, rfl⟩);go_ret;exact ⟨⟨_, rfl, HF.out⟩, hbw2⟩
 have hnx : ∀ ty, (Instr.next (.pointer (some ⟨w.heap.size, 0, none⟩)) true ty).run Tryz.prog wr = _ := fun ty => Lib.run_next_end_at wr w.heap.size s pos ty hit hps;rw [digFrom_end s gk pos hps] at hleft;have hfin : Found s (-1) := by unfold Found; rw [← hleft]; simp
 have HF := A_ hfin;clear hleft hfin;go_wp2;go_ret;exact ⟨⟨_, rfl, HF.out⟩, hbw⟩
theorem IndexFunc_calls (s : ByteArray) (w : World) :
    Calls Tryz.prog 111 #[.string s, .func (.func 112) #[] #[]] w fun e w' => (∃ i : Int, e = .returned (.int .i64 i) ∧ Found s i) ∧ Below w.heap.size w w' := by
 go_enter Tryz.func111, Tryz.ntmps111;go_wp2_with (go_at_call 133; refine (indexFunc_calls _ _).mono ?_; rintro e w1 ⟨⟨i, rfl, hf⟩, hb⟩; have HF := A_ hf; have HB1 := A_ hb; clear hf hb);go_ret;exact ⟨⟨_, rfl, HF.out⟩, HB1.out⟩
/-- Is a text a natural? -/
def right (s : ByteArray) : Bool := if s.size = 0 then false else if bt s 0 = 48 ∧ 1 < s.size then false else s.data.toList.all isDig
theorem found_right {s : ByteArray} {i : Int} (h : Found s i) : decide (i < 0) = s.data.toList.all isDig := by
  unfold Found at h;rw [h, digFrom_all s s.size 0 (by omega), List.drop_zero]
theorem right_calls (s : ByteArray) (w : World) :
    Calls Tryz.prog 91 #[.string s] w fun e w' => e = .returned (.bool (right s)) ∧ Below w.heap.size w w' := by
 have HB := A_ (Below.refl w.heap.size w);by_cases h0 : s.size = 0
 · have hr : right s = false := by unfold right; rw [if_pos h0]
   have hl : s.toList = [] := by
    rw [ByteArray.toList_eq];exact List.eq_nil_of_length_eq_zero (by simpa using h0)
   have h1 : (s.toList == ([] : List UInt8)) = true := by rw [hl]; rfl
   have HR := A_ hr;clear hr h0;go_enter Tryz.func91, Tryz.ntmps91;go_wp2;repeat (go_quiet (fail); try go_wp2)
   go_ret;exact ⟨by rw [HR.out]; rfl, by repeat (first | exact HB.out | apply below_alloc | apply pw_below_drewN | apply below_drew1)⟩
 have hl : ¬ s.toList = [] := by
  rw [ByteArray.toList_eq];intro h;have h5 : s.data.toList.length = 0 := by rw [h]; rfl
  rw [Array.length_toList] at h5;exact h0 h5
 have h1 : (s.toList == ([] : List UInt8)) = false := by simpa using hl
 have h2 : (!s.toList.isEmpty) = true := by simpa using hl
 have q1 : (0 < (s.size : Int)) = True := eq_true (by omega);have q2 : (0 < s.size) = True := eq_true (by omega);have hx : ∀ h : 0 < s.size, ((s[0]'h).toNat : Int) = bt s 0 := bt_at s 0;by_cases h3 : bt s 0 = 48
 · have h3b : (bt s 0 == 48) = true := beq_iff_eq.mpr h3;by_cases h4 : 1 < s.size
   · have h4b : decide (1 < (s.size : Int)) = true := decide_eq_true (by omega);have h4c := decide_eq_true h4;have hr : right s = false := by unfold right; rw [if_neg h0, if_pos ⟨h3, h4⟩]
     have HR := A_ hr;clear hr h0 h3 h4 hl;go_enter Tryz.func91, Tryz.ntmps91;go_wp2;repeat (go_quiet (fail); try go_wp2)
     go_ret;exact ⟨by rw [HR.out]; rfl, by repeat (first | exact HB.out | apply below_alloc | apply pw_below_drewN | apply below_drew1)⟩
   have h4b : decide (1 < (s.size : Int)) = false := decide_eq_false (by omega);have h4c := decide_eq_false h4;have hr : right s = s.data.toList.all isDig := by unfold right; rw [if_neg h0, if_neg (fun h => h4 h.2)]
   have HR := A_ hr;clear hr h0 h3 h4 hl;go_enter Tryz.func91, Tryz.ntmps91;go_wp2_with (go_at_call 111; refine (IndexFunc_calls _ _).mono ?_; rintro e w1 ⟨⟨i, rfl, hf⟩, hb⟩; have HF := A_ hf; have HB1 := A_ hb; clear hf hb);go_ret;exact ⟨by rw [HR.out, ← found_right HF.out]; rfl, HB1.out⟩
 have h3b : (bt s 0 == 48) = false := beq_eq_false_iff_ne.mpr h3;have hr : right s = s.data.toList.all isDig := by unfold right; rw [if_neg h0, if_neg (fun h => h3 h.1)]
 have HR := A_ hr;clear hr h0 h3 hl;go_enter Tryz.func91, Tryz.ntmps91;go_wp2_with (go_at_call 111; refine (IndexFunc_calls _ _).mono ?_; rintro e w1 ⟨⟨i, rfl, hf⟩, hb⟩; have HF := A_ hf; have HB1 := A_ hb; clear hf hb);go_ret;exact ⟨by rw [HR.out, ← found_right HF.out]; rfl, HB1.out⟩
end Go.Proofs.YtmmonhgfnmeieaaGreatDoor.Str
