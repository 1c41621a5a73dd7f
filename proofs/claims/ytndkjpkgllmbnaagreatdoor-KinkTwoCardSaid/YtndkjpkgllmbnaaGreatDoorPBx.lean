-- by wip/tool/mine.py of this repo (the kit's printer with given contracts)
import Derived.Test.YtndkjpkgllmbnaaGreatDoorThn
import Derived.Test.YtndkjpkgllmbnaaGreatDoorThr
namespace Go.Proofs.YtndkjpkgllmbnaaGreatDoor.PB
open Go.RowKit Go.ZPWords Go.ZPLast Go.ZPMore
attribute [local go_sem] max2_int min2_int max_two min_two max_three min_three max_four min_four   -- for this text's walks alone
set_option linter.unusedVariables false
set_option linter.unusedSimpArgs false
set_option maxHeartbeats 8000000
set_option maxRecDepth 100000
def errW : Option Int → Value
 | none => .nilIface
 | some c => .iface 0 (.int .i64 c)
theorem errW_none : errW none = .nilIface := rfl
theorem errW_some (c : Int) : errW (some c) = .iface 0 (.int .i64 c) := rfl
/-! ### nat_Right: function 81 -/
def nat_Right.f (a0 : ByteArray) : Option Bool := some (Str.right a0)
theorem nat_Right.calls (a0 : ByteArray) (r : Bool) (w : World) (h : nat_Right.f a0 = some r) :
  Calls Tryz.prog 81 #[.string a0] w fun e w' => e = .returned (.bool r) ∧ Below w.heap.size w w' := by
 obtain rfl := Option.some.inj h;exact Str.right_calls a0 w
theorem nat_Right.txt (m : Nat) : nat_Right.f (Th.txt m) = some true := by rw [nat_Right.f, Th.right_txt]
/-! ### stringslite_HasPrefix: function 110 -/
def stringslite_HasPrefix.f (a0 : ByteArray) (a1 : ByteArray) : Option (Bool) := if (a0.size : Int) ≥ (a1.size : Int) then (if 0 ≤ (a1.size : Int) then (if (a1.size : Int) ≤ (a0.size : Int) then (some ((a0.extract 0 ((a1.size : Int) : Int).toNat).toList == a1.toList)) else (none)) else (none)) else (some false)
theorem stringslite_HasPrefix.calls (a0 : ByteArray) (a1 : ByteArray) (r : Bool) (w : World) (h : stringslite_HasPrefix.f a0 a1 = some r) :
  Calls Tryz.prog 110 #[.string a0, .string a1] w fun e w' => e = .returned (.bool r) ∧ Drawn0 w w' := by
 unfold stringslite_HasPrefix.f at h;have H := h;clear h
 by_cases c3 : (a0.size : Int) ≥ (a1.size : Int)
 ·
  rw [if_pos c3] at H;have c3b0 : decide ((a1.size : Int) ≤ (a0.size : Int)) = true := decide_eq_true c3;have c3b1 : decide (a1.size ≤ a0.size) = true := decide_eq_true (Int.ofNat_le.mp c3);clear c3
  by_cases c4 : 0 ≤ (a1.size : Int)
  ·
   rw [if_pos c4] at H;have c4b0 := eq_true c4;have c4b1 := decide_eq_true c4;clear c4
   by_cases c5 : (a1.size : Int) ≤ (a0.size : Int)
   ·
    rw [if_pos c5] at H;have c5b0 := eq_true c5;have c5b1 := decide_eq_true c5;clear c5;obtain rfl := Option.some.inj H;go_enter Tryz.func110, Tryz.ntmps110
    go_wp2
    go_ret
    exact ⟨by first | rfl | (simp; done) | (simp [*]; done), by repeat (first | exact Drawn0.refl _ | apply Drawn0.step)⟩
   ·
    rw [if_neg c5] at H;exact absurd H (by simp)
  ·
   rw [if_neg c4] at H;exact absurd H (by simp)
 ·
  rw [if_neg c3] at H;have c3b0 : decide ((a1.size : Int) ≤ (a0.size : Int)) = false := decide_eq_false c3;have c3b1 : decide (a1.size ≤ a0.size) = false := decide_eq_false (fun h => c3 (Int.ofNat_le.mpr h));clear c3;obtain rfl := Option.some.inj H;go_enter Tryz.func110, Tryz.ntmps110
  go_wp2
  go_ret
  exact ⟨by first | rfl | (simp; done) | (simp [*]; done), by repeat (first | exact Drawn0.refl _ | apply Drawn0.step)⟩
/-! ### stringslite_CutPrefix: function 152 -/
def stringslite_CutPrefix.f (a0 : ByteArray) (a1 : ByteArray) : Option (ByteArray × Bool) := (stringslite_HasPrefix.f a0 a1).bind fun t101 => (if t101 = true then (if 0 ≤ (a1.size : Int) then (if (a1.size : Int) ≤ (a0.size : Int) then (some (a0.extract ((a1.size : Int) : Int).toNat a0.size, true)) else (none)) else (none)) else (some (a0, false)))
theorem stringslite_CutPrefix.calls (a0 : ByteArray) (a1 : ByteArray) (r1 : ByteArray) (r2 : Bool) (w : World) (h : stringslite_CutPrefix.f a0 a1 = some (r1, r2)) :
  Calls Tryz.prog 152 #[.string a0, .string a1] w fun e w' => e = .returned (.tuple #[.string r1, .bool r2]) ∧ Drawn0 w w' := by
 unfold stringslite_CutPrefix.f at h;have H := h;clear h;replace H := BE_ H;obtain ⟨t101, A30, H⟩ := H;have A3 := A_ A30;clear A30
 by_cases c4 : t101 = true
 ·
  subst c4;rw [if_pos rfl] at H
  by_cases c5 : 0 ≤ (a1.size : Int)
  ·
   rw [if_pos c5] at H;have c5b0 := eq_true c5;have c5b1 := decide_eq_true c5;clear c5
   by_cases c6 : (a1.size : Int) ≤ (a0.size : Int)
   ·
    rw [if_pos c6] at H;have c6b0 := eq_true c6;have c6b1 := decide_eq_true c6;clear c6;simp only [Option.some.injEq, Prod.mk.injEq] at H;obtain ⟨rfl, rfl⟩ := H;go_enter Tryz.func152, Tryz.ntmps152
    go_wp2_with (first | (refine GL_ 110 8 Tryz.func110 #[.string a0, .string a1] ?_; (with_reducible refine (stringslite_HasPrefix.calls a0 a1 true _ A3.out).mono ?_); rintro e w' ⟨rfl, ⟨nd, rfl⟩⟩; refine ⟨_, rfl, ?_⟩))
    go_ret2
    exact ⟨by first | rfl | (simp; done) | (simp [*]; done), by repeat (first | exact Drawn0.refl _ | apply Drawn0.step)⟩
   ·
    rw [if_neg c6] at H;exact absurd H (by simp)
  ·
   rw [if_neg c5] at H;exact absurd H (by simp)
 ·
  replace c4 := Bool.eq_false_iff.mpr c4;subst c4;rw [if_neg (show ¬ (false = true) by decide)] at H;simp only [Option.some.injEq, Prod.mk.injEq] at H;obtain ⟨rfl, rfl⟩ := H;go_enter Tryz.func152, Tryz.ntmps152
  go_wp2_with (first | (refine GL_ 110 8 Tryz.func110 #[.string a0, .string a1] ?_; (with_reducible refine (stringslite_HasPrefix.calls a0 a1 false _ A3.out).mono ?_); rintro e w' ⟨rfl, ⟨nd, rfl⟩⟩; refine ⟨_, rfl, ?_⟩))
  go_ret2
  exact ⟨by first | rfl | (simp; done) | (simp [*]; done), by repeat (first | exact Drawn0.refl _ | apply Drawn0.step)⟩
/-! ### strings_CutPrefix: function 126 -/
def strings_CutPrefix.f (a0 : ByteArray) (a1 : ByteArray) : Option (ByteArray × Bool) := (stringslite_CutPrefix.f a0 a1).bind fun bt102 => (some (bt102.1, bt102.2))
theorem strings_CutPrefix.calls (a0 : ByteArray) (a1 : ByteArray) (r1 : ByteArray) (r2 : Bool) (w : World) (h : strings_CutPrefix.f a0 a1 = some (r1, r2)) :
  Calls Tryz.prog 126 #[.string a0, .string a1] w fun e w' => e = .returned (.tuple #[.string r1, .bool r2]) ∧ Drawn0 w w' := by
 unfold strings_CutPrefix.f at h;have H := h;clear h;replace H := BE_ H;obtain ⟨⟨t102, t103⟩, A30, H⟩ := H;have A3 := A_ A30;clear A30;simp only [Option.some.injEq, Prod.mk.injEq] at H;obtain ⟨rfl, rfl⟩ := H;go_enter Tryz.func126, Tryz.ntmps126
 go_wp2_with (first | (refine GL_ 152 8 Tryz.func152 #[.string a0, .string a1] ?_; (with_reducible refine (stringslite_CutPrefix.calls a0 a1 t102 t103 _ A3.out).mono ?_); rintro e w' ⟨rfl, ⟨nd, rfl⟩⟩; refine ⟨_, rfl, ?_⟩))
 go_ret2
 exact ⟨by first | rfl | (simp; done) | (simp [*]; done), by repeat (first | exact Drawn0.refl _ | apply Drawn0.step)⟩
/-! ### whole_read: function 105 -/
def whole_read.f (a0 : ByteArray) : Option (Bool × ByteArray × Bool) := (strings_CutPrefix.f a0 (⟨#[45]⟩ : ByteArray)).bind fun bt105 => ((nat_Right.f bt105.1).bind fun t107 => (if t107 = true then (if bt105.2 = true then (some (bt105.2, bt105.1, !(bt105.1.toList == ([48] : List UInt8)))) else (some (bt105.2, bt105.1, !false))) else (some (bt105.2, bt105.1, false))))
theorem whole_read.calls (a0 : ByteArray) (r1 : Bool) (r2 : ByteArray) (r3 : Bool) (w : World) (h : whole_read.f a0 = some (r1, r2, r3)) :
  Calls Tryz.prog 105 #[.string a0] w fun e w' => e = .returned (.tuple #[.agg #[.bool r1, .string r2], .bool r3]) ∧ Below w.heap.size w w' := by
 have hu111 := Tryz.underlying111;have HB := A_ (Below.refl w.heap.size w);unfold whole_read.f at h;have H := h;clear h;replace H := BE_ H;obtain ⟨⟨t105, t106⟩, A20, H⟩ := H;have A2 := A_ A20;clear A20;replace H := BE_ H;obtain ⟨t107, A30, H⟩ := H;have A3 := A_ A30;clear A30
 by_cases c4 : t107 = true
 ·
  subst c4;rw [if_pos rfl] at H
  by_cases c5 : t106 = true
  ·
   subst c5;rw [if_pos rfl] at H;simp only [Option.some.injEq, Prod.mk.injEq] at H;obtain ⟨rfl, rfl, rfl⟩ := H;go_enter Tryz.func105, Tryz.ntmps105
   go_wp2_with (first | (refine BX_ 2 #[.bool false, .string (⟨#[]⟩ : ByteArray)] 111 ?_; intro gb104 hg w6 hbox hb; have BK104 := A_ (hbox); have GE104 := GE_ hg; replace HB := BS_ hb; clear hb hbox hg) | (refine GL_ 126 8 Tryz.func126 #[.string a0, .string (⟨#[45]⟩ : ByteArray)] ?_; (with_reducible refine (strings_CutPrefix.calls a0 (⟨#[45]⟩ : ByteArray) t105 true _ A2.out).mono ?_); rintro e w' ⟨rfl, ⟨nd, rfl⟩⟩; refine ⟨_, rfl, ?_⟩; (try (rw [drewN_self w6]; generalize hq_ : World.drewN w6 _ = w6; replace BK104 : Aside0 (w6.heap[gb104]? = some (.cells #[.bool false, .string (⟨#[]⟩ : ByteArray)] 111 (0, 0))) := ⟨by rw [← hq_]; exact (B1_ BK104.out)⟩; replace HB : Aside0 (Below w.heap.size w w6) := ⟨by rw [← hq_]; exact T9_⟩; clear hq_))) | (refine GL_ 81 15 Tryz.func81 #[.string t105] ?_; (with_reducible refine (nat_Right.calls t105 true _ A3.out).mono ?_); rintro e w7 ⟨rfl, hb⟩; refine ⟨_, rfl, ?_⟩; replace BK104 := BF_ BK104 hb; replace HB := BU_ hb; clear hb; obtain ⟨hcz8_0, hcz8_1, hfz8_0, hfz8_1⟩ := CF_ BK104))
   refine bodyPost_ret (results_ct rfl _ _ gb104 111 #[.bool true, .string t105] (0, 0) _ rfl (by (with_reducible repeat (first | refine blk_drewN ?_ _ | refine blk_drew ?_ | refine blk_alloc ?_ _)); refine blk_put (cs := #[.bool true, .string (⟨#[]⟩ : ByteArray)]) ?_ 1 _ rfl; (with_reducible repeat (first | refine blk_drewN ?_ _ | refine blk_drew ?_ | refine blk_alloc ?_ _)); refine blk_put (cs := #[.bool false, .string (⟨#[]⟩ : ByteArray)]) ?_ 0 _ rfl; (with_reducible repeat (first | refine blk_drewN ?_ _ | refine blk_drew ?_ | refine blk_alloc ?_ _)); exact BK104.out) Tryz.underlying111 rfl (by kernel_rfl)) rfl ?_;exact ⟨T4_, T9_⟩
  ·
   replace c5 := Bool.eq_false_iff.mpr c5;subst c5;rw [if_neg (show ¬ (false = true) by decide)] at H;simp only [Option.some.injEq, Prod.mk.injEq] at H;obtain ⟨rfl, rfl, rfl⟩ := H;go_enter Tryz.func105, Tryz.ntmps105
   go_wp2_with (first | (refine BX_ 2 #[.bool false, .string (⟨#[]⟩ : ByteArray)] 111 ?_; intro gb104 hg w9 hbox hb; have BK104 := A_ (hbox); have GE104 := GE_ hg; replace HB := BS_ hb; clear hb hbox hg) | (refine GL_ 126 8 Tryz.func126 #[.string a0, .string (⟨#[45]⟩ : ByteArray)] ?_; (with_reducible refine (strings_CutPrefix.calls a0 (⟨#[45]⟩ : ByteArray) t105 false _ A2.out).mono ?_); rintro e w' ⟨rfl, ⟨nd, rfl⟩⟩; refine ⟨_, rfl, ?_⟩; (try (rw [drewN_self w9]; generalize hq_ : World.drewN w9 _ = w9; replace BK104 : Aside0 (w9.heap[gb104]? = some (.cells #[.bool false, .string (⟨#[]⟩ : ByteArray)] 111 (0, 0))) := ⟨by rw [← hq_]; exact (B1_ BK104.out)⟩; replace HB : Aside0 (Below w.heap.size w w9) := ⟨by rw [← hq_]; exact T9_⟩; clear hq_))) | (refine GL_ 81 15 Tryz.func81 #[.string t105] ?_; (with_reducible refine (nat_Right.calls t105 true _ A3.out).mono ?_); rintro e w10 ⟨rfl, hb⟩; refine ⟨_, rfl, ?_⟩; replace BK104 := BF_ BK104 hb; replace HB := BU_ hb; clear hb; obtain ⟨hcz11_0, hcz11_1, hfz11_0, hfz11_1⟩ := CF_ BK104))
   refine bodyPost_ret (results_ct rfl _ _ gb104 111 #[.bool false, .string t105] (0, 0) _ rfl (by (with_reducible repeat (first | refine blk_drewN ?_ _ | refine blk_drew ?_ | refine blk_alloc ?_ _)); refine blk_put (cs := #[.bool false, .string (⟨#[]⟩ : ByteArray)]) ?_ 1 _ rfl; (with_reducible repeat (first | refine blk_drewN ?_ _ | refine blk_drew ?_ | refine blk_alloc ?_ _)); refine blk_put (cs := #[.bool false, .string (⟨#[]⟩ : ByteArray)]) ?_ 0 _ rfl; (with_reducible repeat (first | refine blk_drewN ?_ _ | refine blk_drew ?_ | refine blk_alloc ?_ _)); exact BK104.out) Tryz.underlying111 rfl (by kernel_rfl)) rfl ?_;exact ⟨T4_, T9_⟩
 ·
  replace c4 := Bool.eq_false_iff.mpr c4;subst c4;rw [if_neg (show ¬ (false = true) by decide)] at H;simp only [Option.some.injEq, Prod.mk.injEq] at H;obtain ⟨rfl, rfl, rfl⟩ := H;go_enter Tryz.func105, Tryz.ntmps105
  go_wp2_with (first | (refine BX_ 2 #[.bool false, .string (⟨#[]⟩ : ByteArray)] 111 ?_; intro gb104 hg w12 hbox hb; have BK104 := A_ (hbox); have GE104 := GE_ hg; replace HB := BS_ hb; clear hb hbox hg) | (refine GL_ 126 8 Tryz.func126 #[.string a0, .string (⟨#[45]⟩ : ByteArray)] ?_; (with_reducible refine (strings_CutPrefix.calls a0 (⟨#[45]⟩ : ByteArray) t105 t106 _ A2.out).mono ?_); rintro e w' ⟨rfl, ⟨nd, rfl⟩⟩; refine ⟨_, rfl, ?_⟩; (try (rw [drewN_self w12]; generalize hq_ : World.drewN w12 _ = w12; replace BK104 : Aside0 (w12.heap[gb104]? = some (.cells #[.bool false, .string (⟨#[]⟩ : ByteArray)] 111 (0, 0))) := ⟨by rw [← hq_]; exact (B1_ BK104.out)⟩; replace HB : Aside0 (Below w.heap.size w w12) := ⟨by rw [← hq_]; exact T9_⟩; clear hq_))) | (refine GL_ 81 15 Tryz.func81 #[.string t105] ?_; (with_reducible refine (nat_Right.calls t105 false _ A3.out).mono ?_); rintro e w13 ⟨rfl, hb⟩; refine ⟨_, rfl, ?_⟩; replace BK104 := BF_ BK104 hb; replace HB := BU_ hb; clear hb; obtain ⟨hcz14_0, hcz14_1, hfz14_0, hfz14_1⟩ := CF_ BK104))
  refine bodyPost_ret (results_ct rfl _ _ gb104 111 #[.bool t106, .string t105] (0, 0) _ rfl (by (with_reducible repeat (first | refine blk_drewN ?_ _ | refine blk_drew ?_ | refine blk_alloc ?_ _)); refine blk_put (cs := #[.bool t106, .string (⟨#[]⟩ : ByteArray)]) ?_ 1 _ rfl; (with_reducible repeat (first | refine blk_drewN ?_ _ | refine blk_drew ?_ | refine blk_alloc ?_ _)); refine blk_put (cs := #[.bool false, .string (⟨#[]⟩ : ByteArray)]) ?_ 0 _ rfl; (with_reducible repeat (first | refine blk_drewN ?_ _ | refine blk_drew ?_ | refine blk_alloc ?_ _)); exact BK104.out) Tryz.underlying111 rfl (by kernel_rfl)) rfl ?_;exact ⟨T4_, T9_⟩
/-! ### whole_both: function 92 -/
def whole_both.f (a0 : ByteArray) (a1 : ByteArray) : Option (Bool × ByteArray × Bool × ByteArray × Bool) := (whole_read.f a0).bind fun bt110 => ((whole_read.f a1).bind fun bt114 => (if bt110.2.2 = true then (some (bt110.1, bt110.2.1, bt114.1, bt114.2.1, bt114.2.2)) else (some (bt110.1, bt110.2.1, bt114.1, bt114.2.1, false))))
def whole_both.T3 : Bool × List (List Nat × List Nat) := (true, [([], []), ([], []), ([], []), ([2], [2]), ([3], [3]), ([3, 4], [3, 4]), ([0, 3, 0], [0]), ([1, 6, 0, 1, 6], [1]), ([5, 7, 0, 1, 2, 3, 4, 5, 6, 7], [5])])
def whole_both.B3 : List Nat := [0, 0, 0, 4, 12, 28, 13, 79, 255]
theorem whole_both.tab3 : rtab .any (opsOf Tryz.f92 3) = whole_both.T3 := by kernel_rfl
theorem whole_both.bits3 : waitsOk whole_both.T3.2 whole_both.B3 = true := by kernel_rfl
theorem whole_both.calls (a0 : ByteArray) (a1 : ByteArray) (r1 : Bool) (r2 : ByteArray) (r3 : Bool) (r4 : ByteArray) (r5 : Bool) (w : World) (h : whole_both.f a0 a1 = some (r1, r2, r3, r4, r5)) :
  Calls Tryz.prog 92 #[.string a0, .string a1] w fun e w' => e = .returned (.tuple #[.agg #[.bool r1, .string r2], .agg #[.bool r3, .string r4], .bool r5]) ∧ Below w.heap.size w w' := by
 have hu111 := Tryz.underlying111;have HB := A_ (Below.refl w.heap.size w);unfold whole_both.f at h;have H := h;clear h;replace H := BE_ H;obtain ⟨⟨t110, t111, t112⟩, A30, H⟩ := H;have A3 := A_ A30;clear A30;replace H := BE_ H;obtain ⟨⟨t114, t115, t116⟩, A40, H⟩ := H;have A4 := A_ A40;clear A40
 by_cases c5 : t112 = true
 ·
  subst c5;rw [if_pos rfl] at H;simp only [Option.some.injEq, Prod.mk.injEq] at H;obtain ⟨rfl, rfl, rfl, rfl, rfl⟩ := H;go_enter Tryz.func92, Tryz.ntmps92
  try go_wp2_with (first | (refine BX_ 4 #[.bool false, .string (⟨#[]⟩ : ByteArray)] 111 ?_; intro gb108 hg w6 hbox hb; have BK108 := A_ (hbox); have GE108 := GE_ hg; replace HB := BS_ hb; clear hb hbox hg) | (refine BX_ 5 #[.bool false, .string (⟨#[]⟩ : ByteArray)] 111 ?_; intro gb109 hg w7 hbox hb; have BK109 := A_ (hbox); have GE109 := GE_ hg; replace HB := BU_ hb; have NB108_109 := NB_ BK108 hg; have NB109_108 := NC_ BK108 hg; replace BK108 := BF_ BK108 hb; clear hb hbox hg) | (refine GL_ 105 13 Tryz.func105 #[.string a0] ?_; (with_reducible refine (whole_read.calls a0 t110 t111 true _ A3.out).mono ?_); rintro e w8 ⟨rfl, hb⟩; refine ⟨_, rfl, ?_⟩; replace BK108 := BF_ BK108 hb; replace BK109 := BF_ BK109 hb; replace HB := BU_ hb; clear hb) | (refine BX_ 7 #[.bool false, .string (⟨#[]⟩ : ByteArray)] 111 ?_; intro gb113 hg w9 hbox hb; have BK113 := A_ (hbox); have GE113 := GE_ hg; replace HB := BU_ hb; have NB108_113 := NB_ BK108 hg; have NB113_108 := NC_ BK108 hg; replace BK108 := BF_ BK108 hb; have NB109_113 := NB_ BK109 hg; have NB113_109 := NC_ BK109 hg; replace BK109 := BF_ BK109 hb; clear hb hbox hg; have hnb10 := NB113_108.out; have hnc10 := NB108_113.out; have hnb11 := NB113_109.out; have hnc11 := NB109_113.out; obtain ⟨hcz12_0, hcz12_1, hfz12_0, hfz12_1⟩ := CF_ BK113) | (refine GL_ 105 18 Tryz.func105 #[.string a1] ?_; (with_reducible refine (whole_read.calls a1 t114 t115 t116 _ A4.out).mono ?_); rintro e w13 ⟨rfl, hb⟩; refine ⟨_, rfl, ?_⟩; replace BK108 := BG_ BK108 hb; replace BK109 := BG_ BK109 hb; replace BK113 := BP_ BK113 hb; replace HB := BU_ hb; clear hb) | (refine BX_ 9 #[.bool false, .string (⟨#[]⟩ : ByteArray)] 111 ?_; intro gb117 hg w14 hbox hb; have BK117 := A_ (hbox); have GE117 := GE_ hg; replace HB := BU_ hb; have NB108_117 := NB_ BK108 hg; have NB117_108 := NC_ BK108 hg; replace BK108 := BF_ BK108 hb; have NB109_117 := NB_ BK109 hg; have NB117_109 := NC_ BK109 hg; replace BK109 := BF_ BK109 hb; have NB113_117 := NB_ BK113 hg; have NB117_113 := NC_ BK113 hg; replace BK113 := BF_ BK113 hb; clear hb hbox hg; have hnb15 := NB117_108.out; have hnc15 := NB108_117.out; have hnb16 := NB117_109.out; have hnc16 := NB109_117.out; have hnb17 := NB117_113.out; have hnc17 := NB113_117.out; obtain ⟨hcz18_0, hcz18_1, hfz18_0, hfz18_1⟩ := CF_ BK117))
  have n0_ : Aside0 (((w14.setCell ⟨gb117, 0, none⟩ (.bool t114)).setCell ⟨gb117, 1, none⟩ (.string t115)).heap[gb108]? = some (.cells #[.bool false, .string (⟨#[]⟩ : ByteArray)] 111 (0, 0))) := BW_ BK108;have n1_ : Aside0 (((w14.setCell ⟨gb117, 0, none⟩ (.bool t114)).setCell ⟨gb117, 1, none⟩ (.string t115)).heap[gb109]? = some (.cells #[.bool false, .string (⟨#[]⟩ : ByteArray)] 111 (0, 0))) := BW_ BK109;have n2_ : Aside0 (((w14.setCell ⟨gb117, 0, none⟩ (.bool t114)).setCell ⟨gb117, 1, none⟩ (.string t115)).heap[gb113]? = some (.cells #[.bool t110, .string t111] 111 (0, 0))) := BW_ BK113;have n3_ : Aside0 (((w14.setCell ⟨gb117, 0, none⟩ (.bool t114)).setCell ⟨gb117, 1, none⟩ (.string t115)).heap[gb117]? = some (.cells #[.bool t114, .string t115] 111 (0, 0))) := ⟨by (with_reducible repeat (first | refine blk_drewN ?_ _ | refine blk_drew ?_ | refine blk_alloc ?_ _)); refine blk_put (cs := #[.bool t114, .string (⟨#[]⟩ : ByteArray)]) ?_ 1 _ rfl; (with_reducible repeat (first | refine blk_drewN ?_ _ | refine blk_drew ?_ | refine blk_alloc ?_ _)); refine blk_put (cs := #[.bool false, .string (⟨#[]⟩ : ByteArray)]) ?_ 0 _ rfl; (with_reducible repeat (first | refine blk_drewN ?_ _ | refine blk_drew ?_ | refine blk_alloc ?_ _)); exact BK117.out⟩;have n4_ : Aside0 (Below w.heap.size w ((w14.setCell ⟨gb117, 0, none⟩ (.bool t114)).setCell ⟨gb117, 1, none⟩ (.string t115))) := ⟨T9_⟩
  (try clear BK108)
  (try clear BK109)
  (try clear BK113)
  (try clear BK117)
  (try clear HB)
  generalize ((w14.setCell ⟨gb117, 0, none⟩ (.bool t114)).setCell ⟨gb117, 1, none⟩ (.string t115)) = w19 at n0_ n1_ n2_ n3_ n4_ ⊢;have BK108 := n0_;have BK109 := n1_;have BK113 := n2_;have BK117 := n3_;have HB := n4_;clear n0_ n1_ n2_ n3_ n4_;replace BK108 := A_ (blk_drew BK108.out);replace BK109 := A_ (blk_drew BK109.out);replace BK113 := A_ (blk_drew BK113.out);replace BK117 := A_ (blk_drew BK117.out);replace HB := A_ (below_drew1 HB.out);refine start_ (n := 9) (S := fun w' => w'.cell? ⟨gb113, 0, none⟩ = some (.bool t110) ∧ w'.cell? ⟨gb113, 1, none⟩ = some (.string t111) ∧ w'.cell? ⟨gb117, 0, none⟩ = some (.bool t114) ∧ w'.cell? ⟨gb117, 1, none⟩ = some (.string t115)) (ds := []) #[false, false, false, false, false, false, false, false, false] (by kernel_rfl) rfl rfl ⟨(blk_cell BK113.out 0).trans rfl, (blk_cell BK113.out 1).trans rfl, (blk_cell BK117.out 0).trans rfl, (blk_cell BK117.out 1).trans rfl⟩ (fun hHeld => ?_); refine with_tabW whole_both.tab3 whole_both.bits3 (fun HT_ HW_ => ?_);generalize w19.drew = w20 at BK108 BK109 BK113 BK117 HB hHeld ⊢;refine PU_ 2 23 ?_;refine PU_ 3 24 ?_;refine PU_ 4 25 ?_;refine PU_ 5 26 ?_;refine TK_ 0 21 rfl (by rfl) (by rintro w' ⟨s0, s1, s2, s3⟩;go_simp;with_reducible rfl) hHeld ?_
  refine TK_ 1 22 rfl (by rfl) (by rintro w' ⟨s0, s1, s2, s3⟩;go_simp;with_reducible rfl) hHeld ?_
  refine one_ (i := 6) (N := none) #[true, true, true, true, true, true, true, false, false] rfl rfl (one_of HT_.out (by kernel_rfl)) (by decide) (fun K hK => ?_);have hs21 : w20.cell? ⟨gb108, 0, none⟩ = some (.bool false) := (blk_cell BK108.out 0).trans rfl;have hfs21 := blk_frozen BK108.out 0;have hns21_1 := NB109_108.out;have hns21_2 := NB113_108.out;have hns21_3 := NB117_108.out;have hms21_1 := NB108_109.out;have hms21_2 := NB108_113.out;have hms21_3 := NB108_117.out;have hs22 : w20.cell? ⟨gb108, 1, none⟩ = some (.string (⟨#[]⟩ : ByteArray)) := (blk_cell BK108.out 1).trans rfl;have hfs22 := blk_frozen BK108.out 1;have hns22_1 := NB109_108.out;have hns22_2 := NB113_108.out;have hns22_3 := NB117_108.out;have hms22_1 := NB108_109.out;have hms22_2 := NB108_113.out;have hms22_3 := NB108_117.out;refine skip_ (w1 := ?_) (by rfl) rfl ?_ ?_;rotate_left
  ·
   go_simp;rfl
  refine hK.out _ _ ⟨((cell_far (p := ⟨gb108, _, none⟩) NB113_108.out _).trans (((cell_far (p := ⟨gb108, _, none⟩) NB113_108.out _).trans (hHeld.1)))), ((cell_far (p := ⟨gb108, _, none⟩) NB113_108.out _).trans (((cell_far (p := ⟨gb108, _, none⟩) NB113_108.out _).trans (hHeld.2.1)))), ((cell_far (p := ⟨gb108, _, none⟩) NB117_108.out _).trans (((cell_far (p := ⟨gb108, _, none⟩) NB117_108.out _).trans (hHeld.2.2.1)))), ((cell_far (p := ⟨gb108, _, none⟩) NB117_108.out _).trans (((cell_far (p := ⟨gb108, _, none⟩) NB117_108.out _).trans (hHeld.2.2.2))))⟩ (fun hHeld => ?_);clear hK K;refine one_ (i := 7) (N := none) #[true, true, true, true, true, true, true, true, false] rfl rfl (one_of HT_.out (by kernel_rfl)) (by decide) (fun K hK => ?_);have hs23 : w20.cell? ⟨gb109, 0, none⟩ = some (.bool false) := (blk_cell BK109.out 0).trans rfl;have hfs23 := blk_frozen BK109.out 0;have hns23_0 := NB108_109.out;have hns23_2 := NB113_109.out;have hns23_3 := NB117_109.out;have hms23_0 := NB109_108.out;have hms23_2 := NB109_113.out;have hms23_3 := NB109_117.out;have hs24 : w20.cell? ⟨gb109, 1, none⟩ = some (.string (⟨#[]⟩ : ByteArray)) := (blk_cell BK109.out 1).trans rfl;have hfs24 := blk_frozen BK109.out 1;have hns24_0 := NB108_109.out;have hns24_2 := NB113_109.out;have hns24_3 := NB117_109.out;have hms24_0 := NB109_108.out;have hms24_2 := NB109_113.out;have hms24_3 := NB109_117.out;refine skip_ (w1 := ?_) (by rfl) rfl ?_ ?_;rotate_left
  ·
   go_simp;rfl
  refine hK.out _ _ ⟨((cell_far (p := ⟨gb109, _, none⟩) NB113_109.out _).trans (((cell_far (p := ⟨gb109, _, none⟩) NB113_109.out _).trans (hHeld.1)))), ((cell_far (p := ⟨gb109, _, none⟩) NB113_109.out _).trans (((cell_far (p := ⟨gb109, _, none⟩) NB113_109.out _).trans (hHeld.2.1)))), ((cell_far (p := ⟨gb109, _, none⟩) NB117_109.out _).trans (((cell_far (p := ⟨gb109, _, none⟩) NB117_109.out _).trans (hHeld.2.2.1)))), ((cell_far (p := ⟨gb109, _, none⟩) NB117_109.out _).trans (((cell_far (p := ⟨gb109, _, none⟩) NB117_109.out _).trans (hHeld.2.2.2))))⟩ (fun hHeld => ?_);clear hK K;refine PU_ 8 6 ?_
  refine done_ (done_of HT_.out (by kernel_rfl)) ?_
  try go_wp2
  refine bodyPost_ret (results_list (rs := [.cell 4 111, .cell 5 111, .tmp 6]) rfl (by simp) (.cell gb108 111 #[.bool t110, .string t111] (0, 0) _ rfl (by (with_reducible repeat (first | refine blk_drewN ?_ _ | refine blk_drew ?_ | refine blk_alloc ?_ _)); refine blk_far ?_ NB108_109.out _; (with_reducible repeat (first | refine blk_drewN ?_ _ | refine blk_drew ?_ | refine blk_alloc ?_ _)); refine blk_far ?_ NB108_109.out _; (with_reducible repeat (first | refine blk_drewN ?_ _ | refine blk_drew ?_ | refine blk_alloc ?_ _)); refine blk_put (cs := #[.bool t110, .string (⟨#[]⟩ : ByteArray)]) ?_ 1 _ rfl; (with_reducible repeat (first | refine blk_drewN ?_ _ | refine blk_drew ?_ | refine blk_alloc ?_ _)); refine blk_put (cs := #[.bool false, .string (⟨#[]⟩ : ByteArray)]) ?_ 0 _ rfl; (with_reducible repeat (first | refine blk_drewN ?_ _ | refine blk_drew ?_ | refine blk_alloc ?_ _)); exact BK108.out) Tryz.underlying111 rfl (by kernel_rfl) (.cell gb109 111 #[.bool t114, .string t115] (0, 0) _ rfl (by (with_reducible repeat (first | refine blk_drewN ?_ _ | refine blk_drew ?_ | refine blk_alloc ?_ _)); refine blk_put (cs := #[.bool t114, .string (⟨#[]⟩ : ByteArray)]) ?_ 1 _ rfl; (with_reducible repeat (first | refine blk_drewN ?_ _ | refine blk_drew ?_ | refine blk_alloc ?_ _)); refine blk_put (cs := #[.bool false, .string (⟨#[]⟩ : ByteArray)]) ?_ 0 _ rfl; (with_reducible repeat (first | refine blk_drewN ?_ _ | refine blk_drew ?_ | refine blk_alloc ?_ _)); refine blk_far ?_ NB109_108.out _; (with_reducible repeat (first | refine blk_drewN ?_ _ | refine blk_drew ?_ | refine blk_alloc ?_ _)); refine blk_far ?_ NB109_108.out _; (with_reducible repeat (first | refine blk_drewN ?_ _ | refine blk_drew ?_ | refine blk_alloc ?_ _)); exact BK109.out) Tryz.underlying111 rfl (by kernel_rfl) (.tmp .nil)))) rfl ?_;exact ⟨T4_, T9_⟩
 ·
  replace c5 := Bool.eq_false_iff.mpr c5;subst c5;rw [if_neg (show ¬ (false = true) by decide)] at H;simp only [Option.some.injEq, Prod.mk.injEq] at H;obtain ⟨rfl, rfl, rfl, rfl, rfl⟩ := H;go_enter Tryz.func92, Tryz.ntmps92
  try go_wp2_with (first | (refine BX_ 4 #[.bool false, .string (⟨#[]⟩ : ByteArray)] 111 ?_; intro gb108 hg w25 hbox hb; have BK108 := A_ (hbox); have GE108 := GE_ hg; replace HB := BS_ hb; clear hb hbox hg) | (refine BX_ 5 #[.bool false, .string (⟨#[]⟩ : ByteArray)] 111 ?_; intro gb109 hg w26 hbox hb; have BK109 := A_ (hbox); have GE109 := GE_ hg; replace HB := BU_ hb; have NB108_109 := NB_ BK108 hg; have NB109_108 := NC_ BK108 hg; replace BK108 := BF_ BK108 hb; clear hb hbox hg) | (refine GL_ 105 13 Tryz.func105 #[.string a0] ?_; (with_reducible refine (whole_read.calls a0 t110 t111 false _ A3.out).mono ?_); rintro e w27 ⟨rfl, hb⟩; refine ⟨_, rfl, ?_⟩; replace BK108 := BF_ BK108 hb; replace BK109 := BF_ BK109 hb; replace HB := BU_ hb; clear hb) | (refine BX_ 7 #[.bool false, .string (⟨#[]⟩ : ByteArray)] 111 ?_; intro gb113 hg w28 hbox hb; have BK113 := A_ (hbox); have GE113 := GE_ hg; replace HB := BU_ hb; have NB108_113 := NB_ BK108 hg; have NB113_108 := NC_ BK108 hg; replace BK108 := BF_ BK108 hb; have NB109_113 := NB_ BK109 hg; have NB113_109 := NC_ BK109 hg; replace BK109 := BF_ BK109 hb; clear hb hbox hg; have hnb29 := NB113_108.out; have hnc29 := NB108_113.out; have hnb30 := NB113_109.out; have hnc30 := NB109_113.out; obtain ⟨hcz31_0, hcz31_1, hfz31_0, hfz31_1⟩ := CF_ BK113) | (refine GL_ 105 18 Tryz.func105 #[.string a1] ?_; (with_reducible refine (whole_read.calls a1 t114 t115 t116 _ A4.out).mono ?_); rintro e w32 ⟨rfl, hb⟩; refine ⟨_, rfl, ?_⟩; replace BK108 := BG_ BK108 hb; replace BK109 := BG_ BK109 hb; replace BK113 := BP_ BK113 hb; replace HB := BU_ hb; clear hb) | (refine BX_ 9 #[.bool false, .string (⟨#[]⟩ : ByteArray)] 111 ?_; intro gb117 hg w33 hbox hb; have BK117 := A_ (hbox); have GE117 := GE_ hg; replace HB := BU_ hb; have NB108_117 := NB_ BK108 hg; have NB117_108 := NC_ BK108 hg; replace BK108 := BF_ BK108 hb; have NB109_117 := NB_ BK109 hg; have NB117_109 := NC_ BK109 hg; replace BK109 := BF_ BK109 hb; have NB113_117 := NB_ BK113 hg; have NB117_113 := NC_ BK113 hg; replace BK113 := BF_ BK113 hb; clear hb hbox hg; have hnb34 := NB117_108.out; have hnc34 := NB108_117.out; have hnb35 := NB117_109.out; have hnc35 := NB109_117.out; have hnb36 := NB117_113.out; have hnc36 := NB113_117.out; obtain ⟨hcz37_0, hcz37_1, hfz37_0, hfz37_1⟩ := CF_ BK117))
  have n0_ : Aside0 (((w33.setCell ⟨gb117, 0, none⟩ (.bool t114)).setCell ⟨gb117, 1, none⟩ (.string t115)).heap[gb108]? = some (.cells #[.bool false, .string (⟨#[]⟩ : ByteArray)] 111 (0, 0))) := BW_ BK108;have n1_ : Aside0 (((w33.setCell ⟨gb117, 0, none⟩ (.bool t114)).setCell ⟨gb117, 1, none⟩ (.string t115)).heap[gb109]? = some (.cells #[.bool false, .string (⟨#[]⟩ : ByteArray)] 111 (0, 0))) := BW_ BK109;have n2_ : Aside0 (((w33.setCell ⟨gb117, 0, none⟩ (.bool t114)).setCell ⟨gb117, 1, none⟩ (.string t115)).heap[gb113]? = some (.cells #[.bool t110, .string t111] 111 (0, 0))) := BW_ BK113;have n3_ : Aside0 (((w33.setCell ⟨gb117, 0, none⟩ (.bool t114)).setCell ⟨gb117, 1, none⟩ (.string t115)).heap[gb117]? = some (.cells #[.bool t114, .string t115] 111 (0, 0))) := ⟨by (with_reducible repeat (first | refine blk_drewN ?_ _ | refine blk_drew ?_ | refine blk_alloc ?_ _)); refine blk_put (cs := #[.bool t114, .string (⟨#[]⟩ : ByteArray)]) ?_ 1 _ rfl; (with_reducible repeat (first | refine blk_drewN ?_ _ | refine blk_drew ?_ | refine blk_alloc ?_ _)); refine blk_put (cs := #[.bool false, .string (⟨#[]⟩ : ByteArray)]) ?_ 0 _ rfl; (with_reducible repeat (first | refine blk_drewN ?_ _ | refine blk_drew ?_ | refine blk_alloc ?_ _)); exact BK117.out⟩;have n4_ : Aside0 (Below w.heap.size w ((w33.setCell ⟨gb117, 0, none⟩ (.bool t114)).setCell ⟨gb117, 1, none⟩ (.string t115))) := ⟨T9_⟩
  (try clear BK108)
  (try clear BK109)
  (try clear BK113)
  (try clear BK117)
  (try clear HB)
  generalize ((w33.setCell ⟨gb117, 0, none⟩ (.bool t114)).setCell ⟨gb117, 1, none⟩ (.string t115)) = w38 at n0_ n1_ n2_ n3_ n4_ ⊢;have BK108 := n0_;have BK109 := n1_;have BK113 := n2_;have BK117 := n3_;have HB := n4_;clear n0_ n1_ n2_ n3_ n4_;replace BK108 := A_ (blk_drew BK108.out);replace BK109 := A_ (blk_drew BK109.out);replace BK113 := A_ (blk_drew BK113.out);replace BK117 := A_ (blk_drew BK117.out);replace HB := A_ (below_drew1 HB.out);refine start_ (n := 9) (S := fun w' => w'.cell? ⟨gb113, 0, none⟩ = some (.bool t110) ∧ w'.cell? ⟨gb113, 1, none⟩ = some (.string t111) ∧ w'.cell? ⟨gb117, 0, none⟩ = some (.bool t114) ∧ w'.cell? ⟨gb117, 1, none⟩ = some (.string t115)) (ds := []) #[false, false, false, false, false, false, false, false, false] (by kernel_rfl) rfl rfl ⟨(blk_cell BK113.out 0).trans rfl, (blk_cell BK113.out 1).trans rfl, (blk_cell BK117.out 0).trans rfl, (blk_cell BK117.out 1).trans rfl⟩ (fun hHeld => ?_); refine with_tabW whole_both.tab3 whole_both.bits3 (fun HT_ HW_ => ?_);generalize w38.drew = w39 at BK108 BK109 BK113 BK117 HB hHeld ⊢;refine PU_ 2 23 ?_;refine PU_ 3 24 ?_;refine PN_ 4 25 ?_;refine PU_ 5 26 ?_;refine TK_ 0 21 rfl (by rfl) (by rintro w' ⟨s0, s1, s2, s3⟩;go_simp;with_reducible rfl) hHeld ?_
  refine TK_ 1 22 rfl (by rfl) (by rintro w' ⟨s0, s1, s2, s3⟩;go_simp;with_reducible rfl) hHeld ?_
  refine one_ (i := 6) (N := none) #[true, true, true, true, true, true, true, false, false] rfl rfl (one_of HT_.out (by kernel_rfl)) (by decide) (fun K hK => ?_);have hs40 : w39.cell? ⟨gb108, 0, none⟩ = some (.bool false) := (blk_cell BK108.out 0).trans rfl;have hfs40 := blk_frozen BK108.out 0;have hns40_1 := NB109_108.out;have hns40_2 := NB113_108.out;have hns40_3 := NB117_108.out;have hms40_1 := NB108_109.out;have hms40_2 := NB108_113.out;have hms40_3 := NB108_117.out;have hs41 : w39.cell? ⟨gb108, 1, none⟩ = some (.string (⟨#[]⟩ : ByteArray)) := (blk_cell BK108.out 1).trans rfl;have hfs41 := blk_frozen BK108.out 1;have hns41_1 := NB109_108.out;have hns41_2 := NB113_108.out;have hns41_3 := NB117_108.out;have hms41_1 := NB108_109.out;have hms41_2 := NB108_113.out;have hms41_3 := NB108_117.out;refine skip_ (w1 := ?_) (by rfl) rfl ?_ ?_;rotate_left
  ·
   go_simp;rfl
  refine hK.out _ _ ⟨((cell_far (p := ⟨gb108, _, none⟩) NB113_108.out _).trans (((cell_far (p := ⟨gb108, _, none⟩) NB113_108.out _).trans (hHeld.1)))), ((cell_far (p := ⟨gb108, _, none⟩) NB113_108.out _).trans (((cell_far (p := ⟨gb108, _, none⟩) NB113_108.out _).trans (hHeld.2.1)))), ((cell_far (p := ⟨gb108, _, none⟩) NB117_108.out _).trans (((cell_far (p := ⟨gb108, _, none⟩) NB117_108.out _).trans (hHeld.2.2.1)))), ((cell_far (p := ⟨gb108, _, none⟩) NB117_108.out _).trans (((cell_far (p := ⟨gb108, _, none⟩) NB117_108.out _).trans (hHeld.2.2.2))))⟩ (fun hHeld => ?_);clear hK K;refine one_ (i := 7) (N := none) #[true, true, true, true, true, true, true, true, false] rfl rfl (one_of HT_.out (by kernel_rfl)) (by decide) (fun K hK => ?_);have hs42 : w39.cell? ⟨gb109, 0, none⟩ = some (.bool false) := (blk_cell BK109.out 0).trans rfl;have hfs42 := blk_frozen BK109.out 0;have hns42_0 := NB108_109.out;have hns42_2 := NB113_109.out;have hns42_3 := NB117_109.out;have hms42_0 := NB109_108.out;have hms42_2 := NB109_113.out;have hms42_3 := NB109_117.out;have hs43 : w39.cell? ⟨gb109, 1, none⟩ = some (.string (⟨#[]⟩ : ByteArray)) := (blk_cell BK109.out 1).trans rfl;have hfs43 := blk_frozen BK109.out 1;have hns43_0 := NB108_109.out;have hns43_2 := NB113_109.out;have hns43_3 := NB117_109.out;have hms43_0 := NB109_108.out;have hms43_2 := NB109_113.out;have hms43_3 := NB109_117.out;refine skip_ (w1 := ?_) (by rfl) rfl ?_ ?_;rotate_left
  ·
   go_simp;rfl
  refine hK.out _ _ ⟨((cell_far (p := ⟨gb109, _, none⟩) NB113_109.out _).trans (((cell_far (p := ⟨gb109, _, none⟩) NB113_109.out _).trans (hHeld.1)))), ((cell_far (p := ⟨gb109, _, none⟩) NB113_109.out _).trans (((cell_far (p := ⟨gb109, _, none⟩) NB113_109.out _).trans (hHeld.2.1)))), ((cell_far (p := ⟨gb109, _, none⟩) NB117_109.out _).trans (((cell_far (p := ⟨gb109, _, none⟩) NB117_109.out _).trans (hHeld.2.2.1)))), ((cell_far (p := ⟨gb109, _, none⟩) NB117_109.out _).trans (((cell_far (p := ⟨gb109, _, none⟩) NB117_109.out _).trans (hHeld.2.2.2))))⟩ (fun hHeld => ?_);clear hK K;refine PU_ 8 6 ?_
  refine done_ (done_of HT_.out (by kernel_rfl)) ?_
  try go_wp2
  refine bodyPost_ret (results_list (rs := [.cell 4 111, .cell 5 111, .tmp 6]) rfl (by simp) (.cell gb108 111 #[.bool t110, .string t111] (0, 0) _ rfl (by (with_reducible repeat (first | refine blk_drewN ?_ _ | refine blk_drew ?_ | refine blk_alloc ?_ _)); refine blk_far ?_ NB108_109.out _; (with_reducible repeat (first | refine blk_drewN ?_ _ | refine blk_drew ?_ | refine blk_alloc ?_ _)); refine blk_far ?_ NB108_109.out _; (with_reducible repeat (first | refine blk_drewN ?_ _ | refine blk_drew ?_ | refine blk_alloc ?_ _)); refine blk_put (cs := #[.bool t110, .string (⟨#[]⟩ : ByteArray)]) ?_ 1 _ rfl; (with_reducible repeat (first | refine blk_drewN ?_ _ | refine blk_drew ?_ | refine blk_alloc ?_ _)); refine blk_put (cs := #[.bool false, .string (⟨#[]⟩ : ByteArray)]) ?_ 0 _ rfl; (with_reducible repeat (first | refine blk_drewN ?_ _ | refine blk_drew ?_ | refine blk_alloc ?_ _)); exact BK108.out) Tryz.underlying111 rfl (by kernel_rfl) (.cell gb109 111 #[.bool t114, .string t115] (0, 0) _ rfl (by (with_reducible repeat (first | refine blk_drewN ?_ _ | refine blk_drew ?_ | refine blk_alloc ?_ _)); refine blk_put (cs := #[.bool t114, .string (⟨#[]⟩ : ByteArray)]) ?_ 1 _ rfl; (with_reducible repeat (first | refine blk_drewN ?_ _ | refine blk_drew ?_ | refine blk_alloc ?_ _)); refine blk_put (cs := #[.bool false, .string (⟨#[]⟩ : ByteArray)]) ?_ 0 _ rfl; (with_reducible repeat (first | refine blk_drewN ?_ _ | refine blk_drew ?_ | refine blk_alloc ?_ _)); refine blk_far ?_ NB109_108.out _; (with_reducible repeat (first | refine blk_drewN ?_ _ | refine blk_drew ?_ | refine blk_alloc ?_ _)); refine blk_far ?_ NB109_108.out _; (with_reducible repeat (first | refine blk_drewN ?_ _ | refine blk_drew ?_ | refine blk_alloc ?_ _)); exact BK109.out) Tryz.underlying111 rfl (by kernel_rfl) (.tmp .nil)))) rfl ?_;exact ⟨T4_, T9_⟩
/-! ### nat_Add: function 116 -/
def nat_Add.f (a0 : ByteArray) (a1 : ByteArray) : Option (ByteArray × Int) := if Th.Fit a0 ∧ Th.Fit a1 then some (Th.sAdd a0 a1) else none
theorem nat_Add.calls (a0 : ByteArray) (a1 : ByteArray) (r1 : ByteArray) (r2 : Int) (w : World) (h : nat_Add.f a0 a1 = some (r1, r2)) :
  Calls Tryz.prog 116 #[.string a0, .string a1] w fun e w' => e = .returned (.tuple #[.string r1, .int .i64 r2]) ∧ Below w.heap.size w w' := by
 unfold nat_Add.f at h
 by_cases c : Th.Fit a0 ∧ Th.Fit a1
 ·
  rw [if_pos c] at h;obtain ⟨k, hk⟩ := (Th.add_spec a0 a1 c.1 c.2).rounds;exact PA.nat_Add.calls k a0 a1 r1 r2 w (hk.trans h)
 ·
  rw [if_neg c] at h
  cases h
theorem nat_Add.txt {m n : Nat} (hm : Th.Fit (Th.txt m)) (hn : Th.Fit (Th.txt n)) : nat_Add.f (Th.txt m) (Th.txt n) = some (Th.txt (m + n), 0) := by
 rw [nat_Add.f, if_pos ⟨hm, hn⟩, Th.sAdd, Th.right_txt, Th.right_txt, Th.num_txt, Th.num_txt];rfl
/-! ### nat_Compare: function 117 -/
def nat_Compare.f (a0 : ByteArray) (a1 : ByteArray) : Option (Int × Int) := if Th.Fit a0 ∧ Th.Fit a1 then some (Th.sCompare a0 a1) else none
theorem nat_Compare.calls (a0 : ByteArray) (a1 : ByteArray) (r1 : Int) (r2 : Int) (w : World) (h : nat_Compare.f a0 a1 = some (r1, r2)) :
  Calls Tryz.prog 117 #[.string a0, .string a1] w fun e w' => e = .returned (.tuple #[.int .i64 r1, .int .i64 r2]) ∧ Below w.heap.size w w' := by
 unfold nat_Compare.f at h
 by_cases c : Th.Fit a0 ∧ Th.Fit a1
 ·
  rw [if_pos c] at h;obtain ⟨k, hk⟩ := (Th.compare_spec a0 a1 c.1 c.2).rounds;exact PA.nat_Compare.calls k a0 a1 r1 r2 w (hk.trans h)
 ·
  rw [if_neg c] at h
  cases h
theorem nat_Compare.txt {m n : Nat} (hm : Th.Fit (Th.txt m)) (hn : Th.Fit (Th.txt n)) : nat_Compare.f (Th.txt m) (Th.txt n) = some (Th.cmp (m : Int) (n : Int), 0) := by
 rw [nat_Compare.f, if_pos ⟨hm, hn⟩, Th.sCompare, Th.right_txt, Th.right_txt, Th.num_txt, Th.num_txt];rfl
/-! ### nat_Sub: function 118 -/
def nat_Sub.f (a0 : ByteArray) (a1 : ByteArray) : Option (ByteArray × Int) := if Th.Fit a0 ∧ Th.Fit a1 then some (Th.sSub a0 a1) else none
theorem nat_Sub.calls (a0 : ByteArray) (a1 : ByteArray) (r1 : ByteArray) (r2 : Int) (w : World) (h : nat_Sub.f a0 a1 = some (r1, r2)) :
  Calls Tryz.prog 118 #[.string a0, .string a1] w fun e w' => e = .returned (.tuple #[.string r1, .int .i64 r2]) ∧ Below w.heap.size w w' := by
 unfold nat_Sub.f at h
 by_cases c : Th.Fit a0 ∧ Th.Fit a1
 ·
  rw [if_pos c] at h;obtain ⟨k, hk⟩ := (Th.sub_spec a0 a1 c.1 c.2).rounds;exact PA.nat_Sub.calls k a0 a1 r1 r2 w (hk.trans h)
 ·
  rw [if_neg c] at h
  cases h
theorem nat_Sub.txt {m n : Nat} (hm : Th.Fit (Th.txt m)) (hn : Th.Fit (Th.txt n)) (h : n ≤ m) : nat_Sub.f (Th.txt m) (Th.txt n) = some (Th.txt (m - n), 0) := by
 rw [nat_Sub.f, if_pos ⟨hm, hn⟩, Th.sSub, Th.right_txt, Th.right_txt, Th.num_txt, Th.num_txt, if_neg (show ¬ m < n by omega)];rfl
/-! ### whole_sum: function 93 -/
def whole_sum.f (a0_0 : Bool) (a0_1 : ByteArray) (a1_0 : Bool) (a1_1 : ByteArray) : Option (Bool × ByteArray) := if (a0_0 == a1_0) = true then ((nat_Add.f a0_1 a1_1).bind fun bt121 => (some (a0_0, bt121.1))) else ((nat_Compare.f a0_1 a1_1).bind fun bt123 => (if bt123.1 < 0 then ((nat_Sub.f a1_1 a0_1).bind fun bt125 => (some (a1_0, bt125.1))) else ((nat_Sub.f a0_1 a1_1).bind fun bt127 => (some (a0_0, bt127.1)))))
theorem whole_sum.calls (a0_0 : Bool) (a0_1 : ByteArray) (a1_0 : Bool) (a1_1 : ByteArray) (r1 : Bool) (r2 : ByteArray) (w : World) (h : whole_sum.f a0_0 a0_1 a1_0 a1_1 = some (r1, r2)) :
  Calls Tryz.prog 93 #[.agg #[.bool a0_0, .string a0_1], .agg #[.bool a1_0, .string a1_1]] w fun e w' => e = .returned (.agg #[.bool r1, .string r2]) ∧ Below w.heap.size w w' := by
 have hu111 := Tryz.underlying111;have HB := A_ (Below.refl w.heap.size w);unfold whole_sum.f at h;have H := h;clear h
 by_cases c3 : (a0_0 == a1_0) = true
 ·
  rw [if_pos c3] at H;have c3b0 : (a0_0 == a1_0) = true := c3
  (try (have c3b1 : decide (a0_0 = a1_0) = true := by simpa using c3))
  (try (have c3b2 : (a0_0 == a1_0) = true := by simpa using c3))
  clear c3;replace H := BE_ H;obtain ⟨⟨t121, t122⟩, A40, H⟩ := H;have A4 := A_ A40;clear A40;simp only [Option.some.injEq, Prod.mk.injEq] at H;obtain ⟨rfl, rfl⟩ := H;go_enter Tryz.func93, Tryz.ntmps93
  go_wp2_with (first | (refine BX_ 2 #[.bool a0_0, .string a0_1] 111 ?_; intro gb118 hg w5 hbox hb; have BK118 := A_ (hbox); have GE118 := GE_ hg; replace HB := BS_ hb; clear hb hbox hg) | (refine BX_ 3 #[.bool a1_0, .string a1_1] 111 ?_; intro gb119 hg w6 hbox hb; have BK119 := A_ (hbox); have GE119 := GE_ hg; replace HB := BU_ hb; have NB118_119 := NB_ BK118 hg; have NB119_118 := NC_ BK118 hg; replace BK118 := BF_ BK118 hb; clear hb hbox hg) | (refine BX_ 4 #[.bool false, .string (⟨#[]⟩ : ByteArray)] 111 ?_; intro gb120 hg w7 hbox hb; have BK120 := A_ (hbox); have GE120 := GE_ hg; replace HB := BU_ hb; have NB118_120 := NB_ BK118 hg; have NB120_118 := NC_ BK118 hg; replace BK118 := BF_ BK118 hb; have NB119_120 := NB_ BK119 hg; have NB120_119 := NC_ BK119 hg; replace BK119 := BF_ BK119 hb; clear hb hbox hg; have hnb8 := NB118_119.out; have hnc8 := NB119_118.out; have hnb9 := NB118_120.out; have hnc9 := NB120_118.out; obtain ⟨hcz10_0, hcz10_1, hfz10_0, hfz10_1⟩ := CF_ BK118; have hnb11 := NB119_120.out; have hnc11 := NB120_119.out; obtain ⟨hcz12_0, hcz12_1, hfz12_0, hfz12_1⟩ := CF_ BK119) | (refine GL_ 116 21 Tryz.func116 #[.string a0_1, .string a1_1] ?_; (with_reducible refine (nat_Add.calls a0_1 a1_1 t121 t122 _ A4.out).mono ?_); rintro e w13 ⟨rfl, hb⟩; refine ⟨_, rfl, ?_⟩; replace BK118 := BF_ BK118 hb; replace BK119 := BF_ BK119 hb; replace BK120 := BF_ BK120 hb; replace HB := BU_ hb; clear hb; obtain ⟨hcz14_0, hcz14_1, hfz14_0, hfz14_1⟩ := CF_ BK118; obtain ⟨hcz15_0, hcz15_1, hfz15_0, hfz15_1⟩ := CF_ BK120))
  refine bodyPost_ret (results_cell_row rfl _ _ gb120 111 #[.bool a0_0, .string t121] (0, 0) _ rfl (by (with_reducible repeat (first | refine blk_drewN ?_ _ | refine blk_drew ?_ | refine blk_alloc ?_ _)); refine blk_put (cs := #[.bool a0_0, .string (⟨#[]⟩ : ByteArray)]) ?_ 1 _ rfl; (with_reducible repeat (first | refine blk_drewN ?_ _ | refine blk_drew ?_ | refine blk_alloc ?_ _)); refine blk_put (cs := #[.bool false, .string (⟨#[]⟩ : ByteArray)]) ?_ 0 _ rfl; (with_reducible repeat (first | refine blk_drewN ?_ _ | refine blk_drew ?_ | refine blk_alloc ?_ _)); exact BK120.out) Tryz.underlying111 rfl (by kernel_rfl)) rfl ?_;exact ⟨T4_, T9_⟩
 ·
  rw [if_neg c3] at H
  have c3b0 : (a0_0 == a1_0) = false := by simpa using c3
  (try (have c3b1 : decide (a0_0 = a1_0) = false := by simpa using c3))
  (try (have c3b2 : (a0_0 == a1_0) = false := by simpa using c3))
  (try (have c3b3 : ¬ (a0_0 = a1_0) := by simpa using c3))
  clear c3;replace H := BE_ H;obtain ⟨⟨t123, t124⟩, A160, H⟩ := H;have A16 := A_ A160;clear A160
  by_cases c17 : t123 < 0
  ·
   rw [if_pos c17] at H;have c17b0 := decide_eq_true c17;clear c17;replace H := BE_ H;obtain ⟨⟨t125, t126⟩, A180, H⟩ := H;have A18 := A_ A180;clear A180;simp only [Option.some.injEq, Prod.mk.injEq] at H;obtain ⟨rfl, rfl⟩ := H;go_enter Tryz.func93, Tryz.ntmps93
   go_wp2_with (first | (refine BX_ 2 #[.bool a0_0, .string a0_1] 111 ?_; intro gb118 hg w19 hbox hb; have BK118 := A_ (hbox); have GE118 := GE_ hg; replace HB := BS_ hb; clear hb hbox hg) | (refine BX_ 3 #[.bool a1_0, .string a1_1] 111 ?_; intro gb119 hg w20 hbox hb; have BK119 := A_ (hbox); have GE119 := GE_ hg; replace HB := BU_ hb; have NB118_119 := NB_ BK118 hg; have NB119_118 := NC_ BK118 hg; replace BK118 := BF_ BK118 hb; clear hb hbox hg) | (refine BX_ 4 #[.bool false, .string (⟨#[]⟩ : ByteArray)] 111 ?_; intro gb120 hg w21 hbox hb; have BK120 := A_ (hbox); have GE120 := GE_ hg; replace HB := BU_ hb; have NB118_120 := NB_ BK118 hg; have NB120_118 := NC_ BK118 hg; replace BK118 := BF_ BK118 hb; have NB119_120 := NB_ BK119 hg; have NB120_119 := NC_ BK119 hg; replace BK119 := BF_ BK119 hb; clear hb hbox hg; have hnb22 := NB118_119.out; have hnc22 := NB119_118.out; have hnb23 := NB118_120.out; have hnc23 := NB120_118.out; obtain ⟨hcz24_0, hcz24_1, hfz24_0, hfz24_1⟩ := CF_ BK118; have hnb25 := NB119_120.out; have hnc25 := NB120_119.out; obtain ⟨hcz26_0, hcz26_1, hfz26_0, hfz26_1⟩ := CF_ BK119) | (refine GL_ 117 33 Tryz.func117 #[.string a0_1, .string a1_1] ?_; (with_reducible refine (nat_Compare.calls a0_1 a1_1 t123 t124 _ A16.out).mono ?_); rintro e w27 ⟨rfl, hb⟩; refine ⟨_, rfl, ?_⟩; replace BK118 := BF_ BK118 hb; replace BK119 := BF_ BK119 hb; replace BK120 := BF_ BK120 hb; replace HB := BU_ hb; clear hb; obtain ⟨hcz28_0, hcz28_1, hfz28_0, hfz28_1⟩ := CF_ BK119; obtain ⟨hcz29_0, hcz29_1, hfz29_0, hfz29_1⟩ := CF_ BK118) | (refine GL_ 118 45 Tryz.func118 #[.string a1_1, .string a0_1] ?_; (with_reducible refine (nat_Sub.calls a1_1 a0_1 t125 t126 _ A18.out).mono ?_); rintro e w30 ⟨rfl, hb⟩; refine ⟨_, rfl, ?_⟩; replace BK118 := A_ (blk_below (g := gb118) (o := .cells #[.bool a1_0, .string a1_1] 111 (0, 0)) (by (with_reducible repeat (first | refine blk_drewN ?_ _ | refine blk_drew ?_ | refine blk_alloc ?_ _)); refine blk_far ?_ NB118_119.out _; (with_reducible repeat (first | refine blk_drewN ?_ _ | refine blk_drew ?_ | refine blk_alloc ?_ _)); refine blk_far ?_ NB118_119.out _; (with_reducible repeat (first | refine blk_drewN ?_ _ | refine blk_drew ?_ | refine blk_alloc ?_ _)); refine blk_put (cs := #[.bool a1_0, .string a0_1]) ?_ 1 _ rfl; (with_reducible repeat (first | refine blk_drewN ?_ _ | refine blk_drew ?_ | refine blk_alloc ?_ _)); refine blk_put (cs := #[.bool a0_0, .string a0_1]) ?_ 0 _ rfl; (with_reducible repeat (first | refine blk_drewN ?_ _ | refine blk_drew ?_ | refine blk_alloc ?_ _)); exact BK118.out) hb); replace BK119 := A_ (blk_below (g := gb119) (o := .cells #[.bool a0_0, .string a0_1] 111 (0, 0)) (by (with_reducible repeat (first | refine blk_drewN ?_ _ | refine blk_drew ?_ | refine blk_alloc ?_ _)); refine blk_put (cs := #[.bool a0_0, .string a1_1]) ?_ 1 _ rfl; (with_reducible repeat (first | refine blk_drewN ?_ _ | refine blk_drew ?_ | refine blk_alloc ?_ _)); refine blk_put (cs := #[.bool a1_0, .string a1_1]) ?_ 0 _ rfl; (with_reducible repeat (first | refine blk_drewN ?_ _ | refine blk_drew ?_ | refine blk_alloc ?_ _)); refine blk_far ?_ NB119_118.out _; (with_reducible repeat (first | refine blk_drewN ?_ _ | refine blk_drew ?_ | refine blk_alloc ?_ _)); refine blk_far ?_ NB119_118.out _; (with_reducible repeat (first | refine blk_drewN ?_ _ | refine blk_drew ?_ | refine blk_alloc ?_ _)); exact BK119.out) hb); replace BK120 := BG_ BK120 hb; replace HB := BU_ hb; clear hb; obtain ⟨hcz31_0, hcz31_1, hfz31_0, hfz31_1⟩ := CF_ BK118; obtain ⟨hcz32_0, hcz32_1, hfz32_0, hfz32_1⟩ := CF_ BK120))
   refine bodyPost_ret (results_cell_row rfl _ _ gb120 111 #[.bool a1_0, .string t125] (0, 0) _ rfl (by (with_reducible repeat (first | refine blk_drewN ?_ _ | refine blk_drew ?_ | refine blk_alloc ?_ _)); refine blk_put (cs := #[.bool a1_0, .string (⟨#[]⟩ : ByteArray)]) ?_ 1 _ rfl; (with_reducible repeat (first | refine blk_drewN ?_ _ | refine blk_drew ?_ | refine blk_alloc ?_ _)); refine blk_put (cs := #[.bool false, .string (⟨#[]⟩ : ByteArray)]) ?_ 0 _ rfl; (with_reducible repeat (first | refine blk_drewN ?_ _ | refine blk_drew ?_ | refine blk_alloc ?_ _)); exact BK120.out) Tryz.underlying111 rfl (by kernel_rfl)) rfl ?_;exact ⟨T4_, T9_⟩
  ·
   rw [if_neg c17] at H;have c17b0 := decide_eq_false c17;clear c17;replace H := BE_ H;obtain ⟨⟨t127, t128⟩, A330, H⟩ := H;have A33 := A_ A330;clear A330;simp only [Option.some.injEq, Prod.mk.injEq] at H;obtain ⟨rfl, rfl⟩ := H;go_enter Tryz.func93, Tryz.ntmps93
   go_wp2_with (first | (refine BX_ 2 #[.bool a0_0, .string a0_1] 111 ?_; intro gb118 hg w34 hbox hb; have BK118 := A_ (hbox); have GE118 := GE_ hg; replace HB := BS_ hb; clear hb hbox hg) | (refine BX_ 3 #[.bool a1_0, .string a1_1] 111 ?_; intro gb119 hg w35 hbox hb; have BK119 := A_ (hbox); have GE119 := GE_ hg; replace HB := BU_ hb; have NB118_119 := NB_ BK118 hg; have NB119_118 := NC_ BK118 hg; replace BK118 := BF_ BK118 hb; clear hb hbox hg) | (refine BX_ 4 #[.bool false, .string (⟨#[]⟩ : ByteArray)] 111 ?_; intro gb120 hg w36 hbox hb; have BK120 := A_ (hbox); have GE120 := GE_ hg; replace HB := BU_ hb; have NB118_120 := NB_ BK118 hg; have NB120_118 := NC_ BK118 hg; replace BK118 := BF_ BK118 hb; have NB119_120 := NB_ BK119 hg; have NB120_119 := NC_ BK119 hg; replace BK119 := BF_ BK119 hb; clear hb hbox hg; have hnb37 := NB118_119.out; have hnc37 := NB119_118.out; have hnb38 := NB118_120.out; have hnc38 := NB120_118.out; obtain ⟨hcz39_0, hcz39_1, hfz39_0, hfz39_1⟩ := CF_ BK118; have hnb40 := NB119_120.out; have hnc40 := NB120_119.out; obtain ⟨hcz41_0, hcz41_1, hfz41_0, hfz41_1⟩ := CF_ BK119) | (refine GL_ 117 33 Tryz.func117 #[.string a0_1, .string a1_1] ?_; (with_reducible refine (nat_Compare.calls a0_1 a1_1 t123 t124 _ A16.out).mono ?_); rintro e w42 ⟨rfl, hb⟩; refine ⟨_, rfl, ?_⟩; replace BK118 := BF_ BK118 hb; replace BK119 := BF_ BK119 hb; replace BK120 := BF_ BK120 hb; replace HB := BU_ hb; clear hb; obtain ⟨hcz43_0, hcz43_1, hfz43_0, hfz43_1⟩ := CF_ BK118; obtain ⟨hcz44_0, hcz44_1, hfz44_0, hfz44_1⟩ := CF_ BK119) | (refine GL_ 118 45 Tryz.func118 #[.string a0_1, .string a1_1] ?_; (with_reducible refine (nat_Sub.calls a0_1 a1_1 t127 t128 _ A33.out).mono ?_); rintro e w45 ⟨rfl, hb⟩; refine ⟨_, rfl, ?_⟩; replace BK118 := BF_ BK118 hb; replace BK119 := BF_ BK119 hb; replace BK120 := BF_ BK120 hb; replace HB := BU_ hb; clear hb; obtain ⟨hcz46_0, hcz46_1, hfz46_0, hfz46_1⟩ := CF_ BK118; obtain ⟨hcz47_0, hcz47_1, hfz47_0, hfz47_1⟩ := CF_ BK120))
   refine bodyPost_ret (results_cell_row rfl _ _ gb120 111 #[.bool a0_0, .string t127] (0, 0) _ rfl (by (with_reducible repeat (first | refine blk_drewN ?_ _ | refine blk_drew ?_ | refine blk_alloc ?_ _)); refine blk_put (cs := #[.bool a0_0, .string (⟨#[]⟩ : ByteArray)]) ?_ 1 _ rfl; (with_reducible repeat (first | refine blk_drewN ?_ _ | refine blk_drew ?_ | refine blk_alloc ?_ _)); refine blk_put (cs := #[.bool false, .string (⟨#[]⟩ : ByteArray)]) ?_ 0 _ rfl; (with_reducible repeat (first | refine blk_drewN ?_ _ | refine blk_drew ?_ | refine blk_alloc ?_ _)); exact BK120.out) Tryz.underlying111 rfl (by kernel_rfl)) rfl ?_;exact ⟨T4_, T9_⟩
/-! ### whole_number_text: function 94 -/
def whole_number_text.f (a0_0 : Bool) (a0_1 : ByteArray) : Option (ByteArray) := if a0_0 = true then (if a0_1.toList = ([48] : List UInt8) then (some a0_1) else (if 1 + a0_1.size ≤ 9223372036854775807 then (some ((⟨#[45]⟩ : ByteArray) ++ a0_1)) else (none))) else (some a0_1)
theorem whole_number_text.calls (a0_0 : Bool) (a0_1 : ByteArray) (r : ByteArray) (w : World) (h : whole_number_text.f a0_0 a0_1 = some r) :
  Calls Tryz.prog 94 #[.agg #[.bool a0_0, .string a0_1]] w fun e w' => e = .returned (.string r) ∧ Below w.heap.size w w' := by
 have hu111 := Tryz.underlying111;have HB := A_ (Below.refl w.heap.size w);unfold whole_number_text.f at h;have H := h;clear h
 by_cases c2 : a0_0 = true
 ·
  subst c2;rw [if_pos rfl] at H
  by_cases c3 : a0_1.toList = ([48] : List UInt8)
  ·
   rw [if_pos c3] at H;have c3b0 : (a0_1.toList == ([48] : List UInt8)) = true := beq_iff_eq.mpr c3;have c3b1 : (a0_1.toList != ([48] : List UInt8)) = false := bne_eq_false_iff_eq.mpr c3;clear c3;obtain rfl := Option.some.inj H;go_enter Tryz.func94, Tryz.ntmps94
   go_wp2_with (first | (refine BX_ 1 #[.bool true, .string a0_1] 111 ?_; intro gb129 hg w4 hbox hb; have BK129 := A_ (hbox); have GE129 := GE_ hg; replace HB := BS_ hb; clear hb hbox hg; obtain ⟨hcz5_0, hcz5_1, hfz5_0, hfz5_1⟩ := CF_ BK129))
   go_ret
   exact ⟨T4_, T9_⟩
  ·
   rw [if_neg c3] at H;have c3b0 : (a0_1.toList == ([48] : List UInt8)) = false := beq_eq_false_iff_ne.mpr c3;have c3b1 : (a0_1.toList != ([48] : List UInt8)) = true := bne_iff_ne.mpr c3
   by_cases c6 : 1 + a0_1.size ≤ 9223372036854775807
   ·
    rw [if_pos c6] at H;have c6b0 := eq_true c6;have c6b1 := decide_eq_true c6
    try have c6b2 : (9223372036854775807 < 1 + a0_1.size) = False := eq_false (Nat.not_lt.2 c6)
    obtain rfl := Option.some.inj H;go_enter Tryz.func94, Tryz.ntmps94
    go_wp2_with (first | (refine BX_ 1 #[.bool true, .string a0_1] 111 ?_; intro gb129 hg w7 hbox hb; have BK129 := A_ (hbox); have GE129 := GE_ hg; replace HB := BS_ hb; clear hb hbox hg; obtain ⟨hcz8_0, hcz8_1, hfz8_0, hfz8_1⟩ := CF_ BK129))
    go_ret
    exact ⟨T4_, T9_⟩
   ·
    rw [if_neg c6] at H;exact absurd H (by simp)
 ·
  replace c2 := Bool.eq_false_iff.mpr c2;subst c2;rw [if_neg (show ¬ (false = true) by decide)] at H;obtain rfl := Option.some.inj H;go_enter Tryz.func94, Tryz.ntmps94
  go_wp2_with (first | (refine BX_ 1 #[.bool false, .string a0_1] 111 ?_; intro gb129 hg w9 hbox hb; have BK129 := A_ (hbox); have GE129 := GE_ hg; replace HB := BS_ hb; clear hb hbox hg; obtain ⟨hcz10_0, hcz10_1, hfz10_0, hfz10_1⟩ := CF_ BK129))
  go_ret
  exact ⟨T4_, T9_⟩
/-! ### whole_Add: function 64 -/
def whole_Add.f (a0 : ByteArray) (a1 : ByteArray) : Option (ByteArray × Int) := (whole_both.f a0 a1).bind fun bt130 => (if bt130.2.2.2.2 = true then ((whole_sum.f bt130.1 bt130.2.1 bt130.2.2.1 bt130.2.2.2.1).bind fun bt137 => ((whole_number_text.f bt137.1 bt137.2).bind fun t139 => (some (t139, 0)))) else (some ((⟨#[]⟩ : ByteArray), 2)))
theorem whole_Add.calls (a0 : ByteArray) (a1 : ByteArray) (r1 : ByteArray) (r2 : Int) (w : World) (h : whole_Add.f a0 a1 = some (r1, r2)) :
  Calls Tryz.prog 64 #[.string a0, .string a1] w fun e w' => e = .returned (.tuple #[.string r1, .int .i64 r2]) ∧ Below w.heap.size w w' := by
 have hu111 := Tryz.underlying111;have HB := A_ (Below.refl w.heap.size w);unfold whole_Add.f at h;have H := h;clear h;replace H := BE_ H;obtain ⟨⟨t130, t131, t132, t133, t134⟩, A30, H⟩ := H;have A3 := A_ A30;clear A30
 by_cases c4 : t134 = true
 ·
  subst c4;rw [if_pos rfl] at H;replace H := BE_ H;obtain ⟨⟨t137, t138⟩, A50, H⟩ := H;have A5 := A_ A50;clear A50;replace H := BE_ H;obtain ⟨t139, A60, H⟩ := H;have A6 := A_ A60;clear A60;simp only [Option.some.injEq, Prod.mk.injEq] at H;obtain ⟨rfl, rfl⟩ := H;go_enter Tryz.func64, Tryz.ntmps64
  go_wp2_with (first | (refine GL_ 92 12 Tryz.func92 #[.string a0, .string a1] ?_; (with_reducible refine (whole_both.calls a0 a1 t130 t131 t132 t133 true _ A3.out).mono ?_); rintro e w7 ⟨rfl, hb⟩; refine ⟨_, rfl, ?_⟩; replace HB := BS_ hb; clear hb) | (refine BX_ 6 #[.bool false, .string (⟨#[]⟩ : ByteArray)] 111 ?_; intro gb135 hg w8 hbox hb; have BK135 := A_ (hbox); have GE135 := GE_ hg; replace HB := BS_ hb; clear hb hbox hg) | (refine BX_ 7 #[.bool false, .string (⟨#[]⟩ : ByteArray)] 111 ?_; intro gb136 hg w9 hbox hb; have BK136 := A_ (hbox); have GE136 := GE_ hg; replace HB := BU_ hb; have NB135_136 := NB_ BK135 hg; have NB136_135 := NC_ BK135 hg; replace BK135 := BF_ BK135 hb; clear hb hbox hg; have hnb10 := NB135_136.out; have hnc10 := NB136_135.out; obtain ⟨hcz11_0, hcz11_1, hfz11_0, hfz11_1⟩ := CF_ BK135; obtain ⟨hcz12_0, hcz12_1, hfz12_0, hfz12_1⟩ := CF_ BK136) | (refine GL_ 93 20 Tryz.func93 #[.agg #[.bool t130, .string t131], .agg #[.bool t132, .string t133]] ?_; (with_reducible refine (whole_sum.calls t130 t131 t132 t133 t137 t138 _ A5.out).mono ?_); rintro e w13 ⟨rfl, hb⟩; refine ⟨_, rfl, ?_⟩; replace BK135 := A_ (blk_below (g := gb135) (o := .cells #[.bool t130, .string t131] 111 (0, 0)) (by (with_reducible repeat (first | refine blk_drewN ?_ _ | refine blk_drew ?_ | refine blk_alloc ?_ _)); refine blk_far ?_ NB135_136.out _; (with_reducible repeat (first | refine blk_drewN ?_ _ | refine blk_drew ?_ | refine blk_alloc ?_ _)); refine blk_far ?_ NB135_136.out _; (with_reducible repeat (first | refine blk_drewN ?_ _ | refine blk_drew ?_ | refine blk_alloc ?_ _)); refine blk_put (cs := #[.bool t130, .string (⟨#[]⟩ : ByteArray)]) ?_ 1 _ rfl; (with_reducible repeat (first | refine blk_drewN ?_ _ | refine blk_drew ?_ | refine blk_alloc ?_ _)); refine blk_put (cs := #[.bool false, .string (⟨#[]⟩ : ByteArray)]) ?_ 0 _ rfl; (with_reducible repeat (first | refine blk_drewN ?_ _ | refine blk_drew ?_ | refine blk_alloc ?_ _)); exact BK135.out) hb); replace BK136 := A_ (blk_below (g := gb136) (o := .cells #[.bool t132, .string t133] 111 (0, 0)) (by (with_reducible repeat (first | refine blk_drewN ?_ _ | refine blk_drew ?_ | refine blk_alloc ?_ _)); refine blk_put (cs := #[.bool t132, .string (⟨#[]⟩ : ByteArray)]) ?_ 1 _ rfl; (with_reducible repeat (first | refine blk_drewN ?_ _ | refine blk_drew ?_ | refine blk_alloc ?_ _)); refine blk_put (cs := #[.bool false, .string (⟨#[]⟩ : ByteArray)]) ?_ 0 _ rfl; (with_reducible repeat (first | refine blk_drewN ?_ _ | refine blk_drew ?_ | refine blk_alloc ?_ _)); refine blk_far ?_ NB136_135.out _; (with_reducible repeat (first | refine blk_drewN ?_ _ | refine blk_drew ?_ | refine blk_alloc ?_ _)); refine blk_far ?_ NB136_135.out _; (with_reducible repeat (first | refine blk_drewN ?_ _ | refine blk_drew ?_ | refine blk_alloc ?_ _)); exact BK136.out) hb); replace HB := BU_ hb; clear hb) | (refine GL_ 94 21 Tryz.func94 #[.agg #[.bool t137, .string t138]] ?_; (with_reducible refine (whole_number_text.calls t137 t138 t139 _ A6.out).mono ?_); rintro e w14 ⟨rfl, hb⟩; refine ⟨_, rfl, ?_⟩; replace BK135 := BF_ BK135 hb; replace BK136 := BF_ BK136 hb; replace HB := BU_ hb; clear hb))
  go_ret2
  exact ⟨T4_, T9_⟩
 ·
  replace c4 := Bool.eq_false_iff.mpr c4;subst c4;rw [if_neg (show ¬ (false = true) by decide)] at H;simp only [Option.some.injEq, Prod.mk.injEq] at H;obtain ⟨rfl, rfl⟩ := H;go_enter Tryz.func64, Tryz.ntmps64
  go_wp2_with (first | (refine GL_ 92 12 Tryz.func92 #[.string a0, .string a1] ?_; (with_reducible refine (whole_both.calls a0 a1 t130 t131 t132 t133 false _ A3.out).mono ?_); rintro e w15 ⟨rfl, hb⟩; refine ⟨_, rfl, ?_⟩; replace HB := BS_ hb; clear hb) | (refine BX_ 6 #[.bool false, .string (⟨#[]⟩ : ByteArray)] 111 ?_; intro gb135 hg w16 hbox hb; have BK135 := A_ (hbox); have GE135 := GE_ hg; replace HB := BS_ hb; clear hb hbox hg) | (refine BX_ 7 #[.bool false, .string (⟨#[]⟩ : ByteArray)] 111 ?_; intro gb136 hg w17 hbox hb; have BK136 := A_ (hbox); have GE136 := GE_ hg; replace HB := BU_ hb; have NB135_136 := NB_ BK135 hg; have NB136_135 := NC_ BK135 hg; replace BK135 := BF_ BK135 hb; clear hb hbox hg; have hnb18 := NB135_136.out; have hnc18 := NB136_135.out; obtain ⟨hcz19_0, hcz19_1, hfz19_0, hfz19_1⟩ := CF_ BK135; obtain ⟨hcz20_0, hcz20_1, hfz20_0, hfz20_1⟩ := CF_ BK136))
  go_ret2
  exact ⟨T4_, T9_⟩
/-! ### whole_Sub: function 66 -/
def whole_Sub.f (a0 : ByteArray) (a1 : ByteArray) : Option (ByteArray × Int) := (whole_both.f a0 a1).bind fun bt140 => (if bt140.2.2.2.2 = true then ((whole_sum.f bt140.1 bt140.2.1 (!bt140.2.2.1) bt140.2.2.2.1).bind fun bt147 => ((whole_number_text.f bt147.1 bt147.2).bind fun t149 => (some (t149, 0)))) else (some ((⟨#[]⟩ : ByteArray), 2)))
theorem whole_Sub.calls (a0 : ByteArray) (a1 : ByteArray) (r1 : ByteArray) (r2 : Int) (w : World) (h : whole_Sub.f a0 a1 = some (r1, r2)) :
  Calls Tryz.prog 66 #[.string a0, .string a1] w fun e w' => e = .returned (.tuple #[.string r1, .int .i64 r2]) ∧ Below w.heap.size w w' := by
 have HB := A_ (Below.refl w.heap.size w);unfold whole_Sub.f at h;have H := h;clear h;replace H := BE_ H;obtain ⟨⟨t140, t141, t142, t143, t144⟩, A30, H⟩ := H;have A3 := A_ A30;clear A30
 by_cases c4 : t144 = true
 ·
  subst c4;rw [if_pos rfl] at H;replace H := BE_ H;obtain ⟨⟨t147, t148⟩, A50, H⟩ := H;have A5 := A_ A50;clear A50;replace H := BE_ H;obtain ⟨t149, A60, H⟩ := H;have A6 := A_ A60;clear A60;simp only [Option.some.injEq, Prod.mk.injEq] at H;obtain ⟨rfl, rfl⟩ := H;go_enter Tryz.func66, Tryz.ntmps66
  go_wp2_with (first | (refine GL_ 92 12 Tryz.func92 #[.string a0, .string a1] ?_; (with_reducible refine (whole_both.calls a0 a1 t140 t141 t142 t143 true _ A3.out).mono ?_); rintro e w7 ⟨rfl, hb⟩; refine ⟨_, rfl, ?_⟩; replace HB := BS_ hb; clear hb) | (refine GL_ 93 24 Tryz.func93 #[.agg #[.bool t140, .string t141], .agg #[.bool (!t142), .string t143]] ?_; (with_reducible refine (whole_sum.calls t140 t141 (!t142) t143 t147 t148 _ A5.out).mono ?_); rintro e w13 ⟨rfl, hb⟩; refine ⟨_, rfl, ?_⟩; replace HB := BS_ hb; clear hb) | (refine GL_ 94 25 Tryz.func94 #[.agg #[.bool t147, .string t148]] ?_; (with_reducible refine (whole_number_text.calls t147 t148 t149 _ A6.out).mono ?_); rintro e w14 ⟨rfl, hb⟩; refine ⟨_, rfl, ?_⟩; replace HB := BS_ hb; clear hb))
  go_ret2
  exact ⟨rfl, T1_⟩
 ·
  replace c4 := Bool.eq_false_iff.mpr c4;subst c4;rw [if_neg (show ¬ (false = true) by decide)] at H;simp only [Option.some.injEq, Prod.mk.injEq] at H;obtain ⟨rfl, rfl⟩ := H;go_enter Tryz.func66, Tryz.ntmps66
  go_wp2_with (first | (refine GL_ 92 12 Tryz.func92 #[.string a0, .string a1] ?_; (with_reducible refine (whole_both.calls a0 a1 t140 t141 t142 t143 false _ A3.out).mono ?_); rintro e w7 ⟨rfl, hb⟩; refine ⟨_, rfl, ?_⟩; replace HB := BS_ hb; clear hb))
  go_ret2
  exact ⟨rfl, T1_⟩
/-! ### nat_Mul: function 115 -/
def nat_Mul.f (a0 : ByteArray) (a1 : ByteArray) : Option (ByteArray × Int) := if Th.Fit a0 ∧ Th.Fit a1 then some (Th.sMul a0 a1) else none
theorem nat_Mul.calls (a0 : ByteArray) (a1 : ByteArray) (r1 : ByteArray) (r2 : Int) (w : World) (h : nat_Mul.f a0 a1 = some (r1, r2)) :
  Calls Tryz.prog 115 #[.string a0, .string a1] w fun e w' => e = .returned (.tuple #[.string r1, .int .i64 r2]) ∧ Below w.heap.size w w' := by
 unfold nat_Mul.f at h
 by_cases c : Th.Fit a0 ∧ Th.Fit a1
 ·
  rw [if_pos c] at h;obtain ⟨k, hk⟩ := (Th.mul_spec a0 a1 c.1 c.2).rounds;exact PA.nat_Mul.calls k a0 a1 r1 r2 w (hk.trans h)
 ·
  rw [if_neg c] at h
  cases h
theorem nat_Mul.txt {m n : Nat} (hm : Th.Fit (Th.txt m)) (hn : Th.Fit (Th.txt n)) : nat_Mul.f (Th.txt m) (Th.txt n) = some (Th.txt (m * n), 0) := by
 rw [nat_Mul.f, if_pos ⟨hm, hn⟩, Th.sMul, Th.right_txt, Th.right_txt, Th.num_txt, Th.num_txt];rfl
/-! ### whole_Mul: function 90 -/
def whole_Mul.f (a0 : ByteArray) (a1 : ByteArray) : Option (ByteArray × Int) := (whole_both.f a0 a1).bind fun bt140 => (if bt140.2.2.2.2 = true then ((nat_Mul.f bt140.2.1 bt140.2.2.2.1).bind fun bt147 => ((whole_number_text.f (bt140.1 != bt140.2.2.1) bt147.1).bind fun t149 => (some (t149, 0)))) else (some ((⟨#[]⟩ : ByteArray), 2)))
theorem whole_Mul.calls (a0 : ByteArray) (a1 : ByteArray) (r1 : ByteArray) (r2 : Int) (w : World) (h : whole_Mul.f a0 a1 = some (r1, r2)) :
  Calls Tryz.prog 90 #[.string a0, .string a1] w fun e w' => e = .returned (.tuple #[.string r1, .int .i64 r2]) ∧ Below w.heap.size w w' := by
 have hu111 := Tryz.underlying111;have HB := A_ (Below.refl w.heap.size w);unfold whole_Mul.f at h;have H := h;clear h;replace H := BE_ H;obtain ⟨⟨t140, t141, t142, t143, t144⟩, A30, H⟩ := H;have A3 := A_ A30;clear A30
 by_cases c4 : t144 = true
 ·
  subst c4;rw [if_pos rfl] at H;replace H := BE_ H;obtain ⟨⟨t147, t148⟩, A50, H⟩ := H;have A5 := A_ A50;clear A50;replace H := BE_ H;obtain ⟨t149, A60, H⟩ := H;have A6 := A_ A60;clear A60;simp only [Option.some.injEq, Prod.mk.injEq] at H;obtain ⟨rfl, rfl⟩ := H;go_enter Tryz.func90, Tryz.ntmps90
  go_wp2_with (first | (refine GL_ 92 14 Tryz.func92 #[.string a0, .string a1] ?_; (with_reducible refine (whole_both.calls a0 a1 t140 t141 t142 t143 true _ A3.out).mono ?_); rintro e w7 ⟨rfl, hb⟩; refine ⟨_, rfl, ?_⟩; replace HB := BS_ hb; clear hb) | (refine BX_ 6 #[.bool false, .string (⟨#[]⟩ : ByteArray)] 111 ?_; intro gb145 hg w8 hbox hb; have BK145 := A_ (hbox); have GE145 := GE_ hg; replace HB := BS_ hb; clear hb hbox hg) | (refine BX_ 7 #[.bool false, .string (⟨#[]⟩ : ByteArray)] 111 ?_; intro gb146 hg w9 hbox hb; have BK146 := A_ (hbox); have GE146 := GE_ hg; replace HB := BU_ hb; have NB145_146 := NB_ BK145 hg; have NB146_145 := NC_ BK145 hg; replace BK145 := BF_ BK145 hb; clear hb hbox hg; have hnb10 := NB145_146.out; have hnc10 := NB146_145.out; obtain ⟨hcz11_0, hcz11_1, hfz11_0, hfz11_1⟩ := CF_ BK145; obtain ⟨hcz12_0, hcz12_1, hfz12_0, hfz12_1⟩ := CF_ BK146) | (refine GL_ 115 25 Tryz.func115 #[.string t141, .string t143] ?_; (with_reducible refine (nat_Mul.calls t141 t143 t147 t148 _ A5.out).mono ?_); rintro e w13 ⟨rfl, hb⟩; refine ⟨_, rfl, ?_⟩; replace BK145 := A_ (blk_below (g := gb145) (o := .cells #[.bool t140, .string t141] 111 (0, 0)) (by (with_reducible repeat (first | refine blk_drewN ?_ _ | refine blk_drew ?_ | refine blk_alloc ?_ _)); refine blk_far ?_ NB145_146.out _; (with_reducible repeat (first | refine blk_drewN ?_ _ | refine blk_drew ?_ | refine blk_alloc ?_ _)); refine blk_far ?_ NB145_146.out _; (with_reducible repeat (first | refine blk_drewN ?_ _ | refine blk_drew ?_ | refine blk_alloc ?_ _)); refine blk_put (cs := #[.bool t140, .string (⟨#[]⟩ : ByteArray)]) ?_ 1 _ rfl; (with_reducible repeat (first | refine blk_drewN ?_ _ | refine blk_drew ?_ | refine blk_alloc ?_ _)); refine blk_put (cs := #[.bool false, .string (⟨#[]⟩ : ByteArray)]) ?_ 0 _ rfl; (with_reducible repeat (first | refine blk_drewN ?_ _ | refine blk_drew ?_ | refine blk_alloc ?_ _)); exact BK145.out) hb); replace BK146 := A_ (blk_below (g := gb146) (o := .cells #[.bool t142, .string t143] 111 (0, 0)) (by (with_reducible repeat (first | refine blk_drewN ?_ _ | refine blk_drew ?_ | refine blk_alloc ?_ _)); refine blk_put (cs := #[.bool t142, .string (⟨#[]⟩ : ByteArray)]) ?_ 1 _ rfl; (with_reducible repeat (first | refine blk_drewN ?_ _ | refine blk_drew ?_ | refine blk_alloc ?_ _)); refine blk_put (cs := #[.bool false, .string (⟨#[]⟩ : ByteArray)]) ?_ 0 _ rfl; (with_reducible repeat (first | refine blk_drewN ?_ _ | refine blk_drew ?_ | refine blk_alloc ?_ _)); refine blk_far ?_ NB146_145.out _; (with_reducible repeat (first | refine blk_drewN ?_ _ | refine blk_drew ?_ | refine blk_alloc ?_ _)); refine blk_far ?_ NB146_145.out _; (with_reducible repeat (first | refine blk_drewN ?_ _ | refine blk_drew ?_ | refine blk_alloc ?_ _)); exact BK146.out) hb); replace HB := BU_ hb; clear hb; obtain ⟨hcz14_0, hcz14_1, hfz14_0, hfz14_1⟩ := CF_ BK145; have hcz15_0 : w13.cell? ⟨gb146, 0, none⟩ = some (.bool t142) := (blk_cell BK146.out 0).trans rfl; have hcz15_1 : w13.cell? ⟨gb146, 1, none⟩ = some (.string t143) := (blk_cell BK146.out 1).trans rfl; have hfz15_0 := blk_frozen BK146.out 0; have hfz15_1 := blk_frozen BK146.out 1) | (refine GL_ 94 35 Tryz.func94 #[.agg #[.bool (t140 != t142), .string t147]] ?_; (with_reducible refine (whole_number_text.calls (t140 != t142) t147 t149 _ A6.out).mono ?_); rintro e w16 ⟨rfl, hb⟩; refine ⟨_, rfl, ?_⟩; replace BK145 := BF_ BK145 hb; replace BK146 := BF_ BK146 hb; replace HB := BU_ hb; clear hb))
  go_ret2
  exact ⟨T4_, T9_⟩
 ·
  replace c4 := Bool.eq_false_iff.mpr c4;subst c4;rw [if_neg (show ¬ (false = true) by decide)] at H;simp only [Option.some.injEq, Prod.mk.injEq] at H;obtain ⟨rfl, rfl⟩ := H;go_enter Tryz.func90, Tryz.ntmps90
  go_wp2_with (first | (refine GL_ 92 14 Tryz.func92 #[.string a0, .string a1] ?_; (with_reducible refine (whole_both.calls a0 a1 t140 t141 t142 t143 false _ A3.out).mono ?_); rintro e w17 ⟨rfl, hb⟩; refine ⟨_, rfl, ?_⟩; replace HB := BS_ hb; clear hb) | (refine BX_ 6 #[.bool false, .string (⟨#[]⟩ : ByteArray)] 111 ?_; intro gb145 hg w18 hbox hb; have BK145 := A_ (hbox); have GE145 := GE_ hg; replace HB := BS_ hb; clear hb hbox hg) | (refine BX_ 7 #[.bool false, .string (⟨#[]⟩ : ByteArray)] 111 ?_; intro gb146 hg w19 hbox hb; have BK146 := A_ (hbox); have GE146 := GE_ hg; replace HB := BU_ hb; have NB145_146 := NB_ BK145 hg; have NB146_145 := NC_ BK145 hg; replace BK145 := BF_ BK145 hb; clear hb hbox hg; have hnb20 := NB145_146.out; have hnc20 := NB146_145.out; obtain ⟨hcz21_0, hcz21_1, hfz21_0, hfz21_1⟩ := CF_ BK145; obtain ⟨hcz22_0, hcz22_1, hfz22_0, hfz22_1⟩ := CF_ BK146))
  go_ret2
  exact ⟨T4_, T9_⟩
/-! ### whole_Neg: function 86 -/
def whole_Neg.f (a0 : ByteArray) : Option (ByteArray × Int) := (whole_read.f a0).bind fun bt150 => (if bt150.2.2 = true then ((whole_number_text.f (!bt150.1) bt150.2.1).bind fun t154 => (some (t154, 0))) else (some ((⟨#[]⟩ : ByteArray), 2)))
theorem whole_Neg.calls (a0 : ByteArray) (r1 : ByteArray) (r2 : Int) (w : World) (h : whole_Neg.f a0 = some (r1, r2)) :
  Calls Tryz.prog 86 #[.string a0] w fun e w' => e = .returned (.tuple #[.string r1, .int .i64 r2]) ∧ Below w.heap.size w w' := by
 have hu111 := Tryz.underlying111;have HB := A_ (Below.refl w.heap.size w);unfold whole_Neg.f at h;have H := h;clear h;replace H := BE_ H;obtain ⟨⟨t150, t151, t152⟩, A20, H⟩ := H;have A2 := A_ A20;clear A20
 by_cases c3 : t152 = true
 ·
  subst c3;rw [if_pos rfl] at H;replace H := BE_ H;obtain ⟨t154, A40, H⟩ := H;have A4 := A_ A40;clear A40;simp only [Option.some.injEq, Prod.mk.injEq] at H;obtain ⟨rfl, rfl⟩ := H;go_enter Tryz.func86, Tryz.ntmps86
  go_wp2_with (first | (refine GL_ 105 8 Tryz.func105 #[.string a0] ?_; (with_reducible refine (whole_read.calls a0 t150 t151 true _ A2.out).mono ?_); rintro e w5 ⟨rfl, hb⟩; refine ⟨_, rfl, ?_⟩; replace HB := BS_ hb; clear hb) | (refine BX_ 4 #[.bool false, .string (⟨#[]⟩ : ByteArray)] 111 ?_; intro gb153 hg w6 hbox hb; have BK153 := A_ (hbox); have GE153 := GE_ hg; replace HB := BS_ hb; clear hb hbox hg; obtain ⟨hcz7_0, hcz7_1, hfz7_0, hfz7_1⟩ := CF_ BK153) | (refine GL_ 94 18 Tryz.func94 #[.agg #[.bool (!t150), .string t151]] ?_; (with_reducible refine (whole_number_text.calls (!t150) t151 t154 _ A4.out).mono ?_); rintro e w8 ⟨rfl, hb⟩; refine ⟨_, rfl, ?_⟩; replace BK153 := A_ (blk_below (g := gb153) (o := .cells #[.bool (!t150), .string t151] 111 (0, 0)) (by (with_reducible repeat (first | refine blk_drewN ?_ _ | refine blk_drew ?_ | refine blk_alloc ?_ _)); refine blk_put (cs := #[.bool t150, .string t151]) ?_ 0 _ rfl; (with_reducible repeat (first | refine blk_drewN ?_ _ | refine blk_drew ?_ | refine blk_alloc ?_ _)); refine blk_put (cs := #[.bool t150, .string (⟨#[]⟩ : ByteArray)]) ?_ 1 _ rfl; (with_reducible repeat (first | refine blk_drewN ?_ _ | refine blk_drew ?_ | refine blk_alloc ?_ _)); refine blk_put (cs := #[.bool false, .string (⟨#[]⟩ : ByteArray)]) ?_ 0 _ rfl; (with_reducible repeat (first | refine blk_drewN ?_ _ | refine blk_drew ?_ | refine blk_alloc ?_ _)); exact BK153.out) hb); replace HB := BU_ hb; clear hb))
  go_ret2
  exact ⟨T4_, T9_⟩
 ·
  replace c3 := Bool.eq_false_iff.mpr c3;subst c3;rw [if_neg (show ¬ (false = true) by decide)] at H;simp only [Option.some.injEq, Prod.mk.injEq] at H;obtain ⟨rfl, rfl⟩ := H;go_enter Tryz.func86, Tryz.ntmps86
  go_wp2_with (first | (refine GL_ 105 8 Tryz.func105 #[.string a0] ?_; (with_reducible refine (whole_read.calls a0 t150 t151 false _ A2.out).mono ?_); rintro e w9 ⟨rfl, hb⟩; refine ⟨_, rfl, ?_⟩; replace HB := BS_ hb; clear hb) | (refine BX_ 4 #[.bool false, .string (⟨#[]⟩ : ByteArray)] 111 ?_; intro gb153 hg w10 hbox hb; have BK153 := A_ (hbox); have GE153 := GE_ hg; replace HB := BS_ hb; clear hb hbox hg; obtain ⟨hcz11_0, hcz11_1, hfz11_0, hfz11_1⟩ := CF_ BK153))
  go_ret2
  exact ⟨T4_, T9_⟩
/-! ### whole_Sign: function 103 -/
def whole_Sign.f (a0 : ByteArray) : Option (Int × Int) := (whole_read.f a0).bind fun bt155 => (if bt155.2.2 = true then (if bt155.1 = true then (some ((-1), 0)) else (if bt155.2.1.toList = ([48] : List UInt8) then (some (0, 0)) else (some (1, 0)))) else (some (0, 2)))
theorem whole_Sign.calls (a0 : ByteArray) (r1 : Int) (r2 : Int) (w : World) (h : whole_Sign.f a0 = some (r1, r2)) :
  Calls Tryz.prog 103 #[.string a0] w fun e w' => e = .returned (.tuple #[.int .i64 r1, .int .i64 r2]) ∧ Below w.heap.size w w' := by
 have hu111 := Tryz.underlying111;have HB := A_ (Below.refl w.heap.size w);unfold whole_Sign.f at h;have H := h;clear h;replace H := BE_ H;obtain ⟨⟨t155, t156, t157⟩, A20, H⟩ := H;have A2 := A_ A20;clear A20
 by_cases c3 : t157 = true
 ·
  subst c3;rw [if_pos rfl] at H
  by_cases c4 : t155 = true
  ·
   subst c4;rw [if_pos rfl] at H;simp only [Option.some.injEq, Prod.mk.injEq] at H;obtain ⟨rfl, rfl⟩ := H;go_enter Tryz.func103, Tryz.ntmps103
   go_wp2_with (first | (refine GL_ 105 8 Tryz.func105 #[.string a0] ?_; (with_reducible refine (whole_read.calls a0 true t156 true _ A2.out).mono ?_); rintro e w5 ⟨rfl, hb⟩; refine ⟨_, rfl, ?_⟩; replace HB := BS_ hb; clear hb) | (refine BX_ 4 #[.bool false, .string (⟨#[]⟩ : ByteArray)] 111 ?_; intro gb158 hg w6 hbox hb; have BK158 := A_ (hbox); have GE158 := GE_ hg; replace HB := BS_ hb; clear hb hbox hg; obtain ⟨hcz7_0, hcz7_1, hfz7_0, hfz7_1⟩ := CF_ BK158))
   go_ret2
   exact ⟨T4_, T9_⟩
  ·
   replace c4 := Bool.eq_false_iff.mpr c4;subst c4;rw [if_neg (show ¬ (false = true) by decide)] at H
   by_cases c8 : t156.toList = ([48] : List UInt8)
   ·
    rw [if_pos c8] at H;have c8b0 : (t156.toList == ([48] : List UInt8)) = true := beq_iff_eq.mpr c8;have c8b1 : (t156.toList != ([48] : List UInt8)) = false := bne_eq_false_iff_eq.mpr c8;clear c8;simp only [Option.some.injEq, Prod.mk.injEq] at H;obtain ⟨rfl, rfl⟩ := H;go_enter Tryz.func103, Tryz.ntmps103
    go_wp2_with (first | (refine GL_ 105 8 Tryz.func105 #[.string a0] ?_; (with_reducible refine (whole_read.calls a0 false t156 true _ A2.out).mono ?_); rintro e w9 ⟨rfl, hb⟩; refine ⟨_, rfl, ?_⟩; replace HB := BS_ hb; clear hb) | (refine BX_ 4 #[.bool false, .string (⟨#[]⟩ : ByteArray)] 111 ?_; intro gb158 hg w10 hbox hb; have BK158 := A_ (hbox); have GE158 := GE_ hg; replace HB := BS_ hb; clear hb hbox hg; obtain ⟨hcz11_0, hcz11_1, hfz11_0, hfz11_1⟩ := CF_ BK158))
    go_ret2
    exact ⟨T4_, T9_⟩
   ·
    rw [if_neg c8] at H;have c8b0 : (t156.toList == ([48] : List UInt8)) = false := beq_eq_false_iff_ne.mpr c8;have c8b1 : (t156.toList != ([48] : List UInt8)) = true := bne_iff_ne.mpr c8;simp only [Option.some.injEq, Prod.mk.injEq] at H;obtain ⟨rfl, rfl⟩ := H;go_enter Tryz.func103, Tryz.ntmps103
    go_wp2_with (first | (refine GL_ 105 8 Tryz.func105 #[.string a0] ?_; (with_reducible refine (whole_read.calls a0 false t156 true _ A2.out).mono ?_); rintro e w12 ⟨rfl, hb⟩; refine ⟨_, rfl, ?_⟩; replace HB := BS_ hb; clear hb) | (refine BX_ 4 #[.bool false, .string (⟨#[]⟩ : ByteArray)] 111 ?_; intro gb158 hg w13 hbox hb; have BK158 := A_ (hbox); have GE158 := GE_ hg; replace HB := BS_ hb; clear hb hbox hg; obtain ⟨hcz14_0, hcz14_1, hfz14_0, hfz14_1⟩ := CF_ BK158))
    go_ret2
    exact ⟨T4_, T9_⟩
 ·
  replace c3 := Bool.eq_false_iff.mpr c3;subst c3;rw [if_neg (show ¬ (false = true) by decide)] at H;simp only [Option.some.injEq, Prod.mk.injEq] at H;obtain ⟨rfl, rfl⟩ := H;go_enter Tryz.func103, Tryz.ntmps103
  go_wp2_with (first | (refine GL_ 105 8 Tryz.func105 #[.string a0] ?_; (with_reducible refine (whole_read.calls a0 t155 t156 false _ A2.out).mono ?_); rintro e w15 ⟨rfl, hb⟩; refine ⟨_, rfl, ?_⟩; replace HB := BS_ hb; clear hb) | (refine BX_ 4 #[.bool false, .string (⟨#[]⟩ : ByteArray)] 111 ?_; intro gb158 hg w16 hbox hb; have BK158 := A_ (hbox); have GE158 := GE_ hg; replace HB := BS_ hb; clear hb hbox hg; obtain ⟨hcz17_0, hcz17_1, hfz17_0, hfz17_1⟩ := CF_ BK158))
  go_ret2
  exact ⟨T4_, T9_⟩
/-! ### whole_Right: function 80 -/
def whole_Right.f (a0 : ByteArray) : Option (Bool) := (whole_read.f a0).bind fun bt159 => (some bt159.2.2)
theorem whole_Right.calls (a0 : ByteArray) (r : Bool) (w : World) (h : whole_Right.f a0 = some r) :
  Calls Tryz.prog 80 #[.string a0] w fun e w' => e = .returned (.bool r) ∧ Below w.heap.size w w' := by
 have hu111 := Tryz.underlying111;have HB := A_ (Below.refl w.heap.size w);unfold whole_Right.f at h;have H := h;clear h;replace H := BE_ H;obtain ⟨⟨t159, t160, t161⟩, A20, H⟩ := H;have A2 := A_ A20;clear A20;obtain rfl := Option.some.inj H;go_enter Tryz.func80, Tryz.ntmps80
 go_wp2_with (first | (refine GL_ 105 7 Tryz.func105 #[.string a0] ?_; (with_reducible refine (whole_read.calls a0 t159 t160 t161 _ A2.out).mono ?_); rintro e w3 ⟨rfl, hb⟩; refine ⟨_, rfl, ?_⟩; replace HB := BS_ hb; clear hb) | (refine BX_ 3 #[.bool false, .string (⟨#[]⟩ : ByteArray)] 111 ?_; intro gb162 hg w4 hbox hb; have BK162 := A_ (hbox); have GE162 := GE_ hg; replace HB := BS_ hb; clear hb hbox hg; obtain ⟨hcz5_0, hcz5_1, hfz5_0, hfz5_1⟩ := CF_ BK162))
 go_ret
 exact ⟨T4_, T9_⟩
/-! ### rf2_Sign: function 74 -/
def rf2_Sign.f (a0 : ByteArray) : Option (Int) := if 0 < (a0.size : Int) then (if (bt a0 0) = 45 then (some (-1)) else (if a0.toList = ([48] : List UInt8) then (some 0) else (some 1))) else (none)
theorem rf2_Sign.calls (a0 : ByteArray) (r : Int) (w : World) (h : rf2_Sign.f a0 = some r) :
  Calls Tryz.prog 74 #[.string a0] w fun e w' => e = .returned (.int .i64 r) ∧ Drawn0 w w' := by
 unfold rf2_Sign.f at h;have H := h;clear h
 by_cases c2 : 0 < (a0.size : Int)
 ·
  rw [if_pos c2] at H;have c2b0 := decide_eq_true c2;have c2b1 : decide (0 < a0.size) = true := decide_eq_true (by omega);clear c2
  by_cases c4 : (bt a0 0) = 45
  ·
   rw [if_pos c4] at H;have c4b0 : ((bt a0 0) == 45) = true := beq_iff_eq.mpr c4;have c4b1 : ((bt a0 0) != 45) = false := bne_eq_false_iff_eq.mpr c4;clear c4;obtain rfl := Option.some.inj H;have p3 : 0 ≤ (0 : Int) := (by omega);have q3 : 0 < a0.size := (by have : (0 : Int) < (a0.size : Int) := DA_; omega);have hx3 : ∀ h : 0 < a0.size, ((a0[0]'h).toNat : Int) = bt a0 0 := bt_at a0 0;clear p3;have qi3 : (0 < (a0.size : Int)) = True := eq_true (DA_);replace q3 := eq_true q3;go_enter Tryz.func74, Tryz.ntmps74
   go_wp2
   go_ret
   exact ⟨by first | rfl | (simp; done) | (simp [*]; done), by repeat (first | exact Drawn0.refl _ | apply Drawn0.step)⟩
  ·
   rw [if_neg c4] at H;have c4b0 : ((bt a0 0) == 45) = false := beq_eq_false_iff_ne.mpr c4;have c4b1 : ((bt a0 0) != 45) = true := bne_iff_ne.mpr c4
   by_cases c5 : a0.toList = ([48] : List UInt8)
   ·
    rw [if_pos c5] at H;have c5b0 : (a0.toList == ([48] : List UInt8)) = true := beq_iff_eq.mpr c5;have c5b1 : (a0.toList != ([48] : List UInt8)) = false := bne_eq_false_iff_eq.mpr c5;clear c5;obtain rfl := Option.some.inj H;have p3 : 0 ≤ (0 : Int) := (by omega);have q3 : 0 < a0.size := (by have : (0 : Int) < (a0.size : Int) := DA_; omega);have hx3 : ∀ h : 0 < a0.size, ((a0[0]'h).toNat : Int) = bt a0 0 := bt_at a0 0;clear p3;have qi3 : (0 < (a0.size : Int)) = True := eq_true (DA_);replace q3 := eq_true q3;go_enter Tryz.func74, Tryz.ntmps74
    go_wp2
    go_ret
    exact ⟨by first | rfl | (simp; done) | (simp [*]; done), by repeat (first | exact Drawn0.refl _ | apply Drawn0.step)⟩
   ·
    rw [if_neg c5] at H;have c5b0 : (a0.toList == ([48] : List UInt8)) = false := beq_eq_false_iff_ne.mpr c5;have c5b1 : (a0.toList != ([48] : List UInt8)) = true := bne_iff_ne.mpr c5;obtain rfl := Option.some.inj H;have p3 : 0 ≤ (0 : Int) := (by omega);have q3 : 0 < a0.size := (by have : (0 : Int) < (a0.size : Int) := DA_; omega);have hx3 : ∀ h : 0 < a0.size, ((a0[0]'h).toNat : Int) = bt a0 0 := bt_at a0 0;clear p3;have qi3 : (0 < (a0.size : Int)) = True := eq_true (DA_);replace q3 := eq_true q3;go_enter Tryz.func74, Tryz.ntmps74
    go_wp2
    go_ret
    exact ⟨by first | rfl | (simp; done) | (simp [*]; done), by repeat (first | exact Drawn0.refl _ | apply Drawn0.step)⟩
 ·
  rw [if_neg c2] at H;exact absurd H (by simp)
/-! ### rf2_Size: function 97 -/
def rf2_Size.f (a0 : ByteArray) : Option (ByteArray) := if (a0.size : Int) > 0 then (if 0 < (a0.size : Int) then (if (bt a0 0) = 45 then (if 1 ≤ (a0.size : Int) then (some (a0.extract 1 a0.size)) else (none)) else (some a0)) else (none)) else (some a0)
theorem rf2_Size.calls (a0 : ByteArray) (r : ByteArray) (w : World) (h : rf2_Size.f a0 = some r) :
  Calls Tryz.prog 97 #[.string a0] w fun e w' => e = .returned (.string r) ∧ Drawn0 w w' := by
 unfold rf2_Size.f at h;have H := h;clear h
 by_cases c2 : (a0.size : Int) > 0
 ·
  rw [if_pos c2] at H;have c2b0 : decide (0 < (a0.size : Int)) = true := decide_eq_true c2;have c2b1 : decide (0 < a0.size) = true := decide_eq_true (by omega);clear c2
  by_cases c3 : 0 < (a0.size : Int)
  ·
   rw [if_pos c3] at H;have c3b0 := decide_eq_true c3;have c3b1 : decide (0 < a0.size) = true := decide_eq_true (by omega);clear c3
   by_cases c5 : (bt a0 0) = 45
   ·
    rw [if_pos c5] at H;have c5b0 : ((bt a0 0) == 45) = true := beq_iff_eq.mpr c5;have c5b1 : ((bt a0 0) != 45) = false := bne_eq_false_iff_eq.mpr c5;clear c5
    by_cases c6 : 1 ≤ (a0.size : Int)
    ·
     rw [if_pos c6] at H;have c6b0 := eq_true c6;have c6b1 := decide_eq_true c6;clear c6;obtain rfl := Option.some.inj H;have p4 : 0 ≤ (0 : Int) := (by omega);have q4 : 0 < a0.size := (by have : (0 : Int) < (a0.size : Int) := DA_; omega);have hx4 : ∀ h : 0 < a0.size, ((a0[0]'h).toNat : Int) = bt a0 0 := bt_at a0 0;clear p4;have qi4 : (0 < (a0.size : Int)) = True := eq_true (DA_);replace q4 := eq_true q4;go_enter Tryz.func97, Tryz.ntmps97
     go_wp2
     go_ret
     exact ⟨by first | rfl | (simp; done) | (simp [*]; done), by repeat (first | exact Drawn0.refl _ | apply Drawn0.step)⟩
    ·
     rw [if_neg c6] at H;exact absurd H (by simp)
   ·
    rw [if_neg c5] at H;have c5b0 : ((bt a0 0) == 45) = false := beq_eq_false_iff_ne.mpr c5;have c5b1 : ((bt a0 0) != 45) = true := bne_iff_ne.mpr c5;obtain rfl := Option.some.inj H;have p4 : 0 ≤ (0 : Int) := (by omega);have q4 : 0 < a0.size := (by have : (0 : Int) < (a0.size : Int) := DA_; omega);have hx4 : ∀ h : 0 < a0.size, ((a0[0]'h).toNat : Int) = bt a0 0 := bt_at a0 0;clear p4;have qi4 : (0 < (a0.size : Int)) = True := eq_true (DA_);replace q4 := eq_true q4;go_enter Tryz.func97, Tryz.ntmps97
    go_wp2
    go_ret
    exact ⟨by first | rfl | (simp; done) | (simp [*]; done), by repeat (first | exact Drawn0.refl _ | apply Drawn0.step)⟩
  ·
   rw [if_neg c3] at H;exact absurd H (by simp)
 ·
  rw [if_neg c2] at H;have c2b0 : decide (0 < (a0.size : Int)) = false := decide_eq_false c2;have c2b1 : decide (0 < a0.size) = false := decide_eq_false (by omega);clear c2;obtain rfl := Option.some.inj H;go_enter Tryz.func97, Tryz.ntmps97
  go_wp2
  go_ret
  exact ⟨by first | rfl | (simp; done) | (simp [*]; done), by repeat (first | exact Drawn0.refl _ | apply Drawn0.step)⟩
/-! ### rf2_of: function 119 -/
def rf2_of.f (a0 : ByteArray) (a1 : Int) : Option (ByteArray) := if a1 < 0 then (if a0.toList = ([48] : List UInt8) then (some a0) else (if 1 + a0.size ≤ 9223372036854775807 then (some ((⟨#[45]⟩ : ByteArray) ++ a0)) else (none))) else (some a0)
theorem rf2_of.calls (a0 : ByteArray) (a1 : Int) (r : ByteArray) (w : World) (h : rf2_of.f a0 a1 = some r) :
  Calls Tryz.prog 119 #[.string a0, .int .i64 a1] w fun e w' => e = .returned (.string r) ∧ Drawn0 w w' := by
 unfold rf2_of.f at h;have H := h;clear h
 by_cases c3 : a1 < 0
 ·
  rw [if_pos c3] at H;have c3b0 := decide_eq_true c3;clear c3
  by_cases c4 : a0.toList = ([48] : List UInt8)
  ·
   rw [if_pos c4] at H;have c4b0 : (a0.toList == ([48] : List UInt8)) = true := beq_iff_eq.mpr c4;have c4b1 : (a0.toList != ([48] : List UInt8)) = false := bne_eq_false_iff_eq.mpr c4;clear c4;obtain rfl := Option.some.inj H;go_enter Tryz.func119, Tryz.ntmps119
   go_wp2
   go_ret
   exact ⟨by first | rfl | (simp; done) | (simp [*]; done), by repeat (first | exact Drawn0.refl _ | apply Drawn0.step)⟩
  ·
   rw [if_neg c4] at H;have c4b0 : (a0.toList == ([48] : List UInt8)) = false := beq_eq_false_iff_ne.mpr c4;have c4b1 : (a0.toList != ([48] : List UInt8)) = true := bne_iff_ne.mpr c4
   by_cases c5 : 1 + a0.size ≤ 9223372036854775807
   ·
    rw [if_pos c5] at H;have c5b0 := eq_true c5;have c5b1 := decide_eq_true c5
    try have c5b2 : (9223372036854775807 < 1 + a0.size) = False := eq_false (Nat.not_lt.2 c5)
    obtain rfl := Option.some.inj H;go_enter Tryz.func119, Tryz.ntmps119
    go_wp2
    go_ret
    exact ⟨by first | rfl | (simp; done) | (simp [*]; done), by repeat (first | exact Drawn0.refl _ | apply Drawn0.step)⟩
   ·
    rw [if_neg c5] at H;exact absurd H (by simp)
 ·
  rw [if_neg c3] at H;have c3b0 := decide_eq_false c3;clear c3;obtain rfl := Option.some.inj H;go_enter Tryz.func119, Tryz.ntmps119
  go_wp2
  go_ret
  exact ⟨by first | rfl | (simp; done) | (simp [*]; done), by repeat (first | exact Drawn0.refl _ | apply Drawn0.step)⟩
/-! ### rf1_Compare: function 121 -/
def rf1_Compare.f (a0 : ByteArray) (a1 : ByteArray) : Option (Int) := if (Str.right a0 = true ∧ Str.right a1 = true) ∧ Th.Fit a0 ∧ Th.Fit a1 then some (Th.Ref.cmpN (Th.num a0) (Th.num a1)) else none
theorem rf1_Compare.calls (a0 : ByteArray) (a1 : ByteArray) (r : Int) (w : World) (h : rf1_Compare.f a0 a1 = some r) :
  Calls Tryz.prog 121 #[.string a0, .string a1] w fun e w' => e = .returned (.int .i64 r) ∧ Drawn0 w w' := by
 unfold rf1_Compare.f at h
 by_cases c : (Str.right a0 = true ∧ Str.right a1 = true) ∧ Th.Fit a0 ∧ Th.Fit a1
 ·
  rw [if_pos c] at h;obtain ⟨⟨h1, h2⟩, h3⟩ := c;obtain ⟨m, rfl⟩ := (Th.right_iff a0).1 h1;obtain ⟨n, rfl⟩ := (Th.right_iff a1).1 h2;simp only [Th.num_txt] at h h3;exact PR.rf1_Compare.calls _ _ r w ((Th.Ref.compare_spec m n).trans h)
 ·
  rw [if_neg c] at h
  cases h
theorem rf1_Compare.txt {m n : Nat} (hm : Th.Fit (Th.txt m)) (hn : Th.Fit (Th.txt n)) : rf1_Compare.f (Th.txt m) (Th.txt n) = some (Th.Ref.cmpN m n) := by
 rw [rf1_Compare.f, if_pos ⟨⟨Th.right_txt m, Th.right_txt n⟩, hm, hn⟩, Th.num_txt, Th.num_txt]
/-! ### rf1_Sub: function 122 -/
def rf1_Sub.f (a0 : ByteArray) (a1 : ByteArray) : Option (ByteArray) := if (Str.right a0 = true ∧ Str.right a1 = true) ∧ Th.Fit a0 ∧ Th.Fit a1 ∧ Th.num a1 ≤ Th.num a0 then some (Th.txt (Th.num a0 - Th.num a1)) else none
theorem rf1_Sub.calls (a0 : ByteArray) (a1 : ByteArray) (r : ByteArray) (w : World) (h : rf1_Sub.f a0 a1 = some r) :
  Calls Tryz.prog 122 #[.string a0, .string a1] w fun e w' => e = .returned (.string r) ∧ Below w.heap.size w w' := by
 unfold rf1_Sub.f at h
 by_cases c : (Str.right a0 = true ∧ Str.right a1 = true) ∧ Th.Fit a0 ∧ Th.Fit a1 ∧ Th.num a1 ≤ Th.num a0
 ·
  rw [if_pos c] at h;obtain ⟨⟨h1, h2⟩, h3⟩ := c;obtain ⟨m, rfl⟩ := (Th.right_iff a0).1 h1;obtain ⟨n, rfl⟩ := (Th.right_iff a1).1 h2;simp only [Th.num_txt] at h h3;obtain ⟨k, hk⟩ := (Th.Ref.sub_spec m n h3.2.2 (Nat.le_trans h3.1 (by decide))).rounds;exact PR.rf1_Sub.calls k _ _ r w (hk.trans h)
 ·
  rw [if_neg c] at h
  cases h
theorem rf1_Sub.txt {m n : Nat} (hm : Th.Fit (Th.txt m)) (hn : Th.Fit (Th.txt n)) (h : n ≤ m) : rf1_Sub.f (Th.txt m) (Th.txt n) = some (Th.txt (m - n)) := by
 rw [rf1_Sub.f, if_pos ⟨⟨Th.right_txt m, Th.right_txt n⟩, hm, hn, by rw [Th.num_txt, Th.num_txt]; exact h⟩, Th.num_txt, Th.num_txt]
/-! ### rf1_Add: function 123 -/
def rf1_Add.f (a0 : ByteArray) (a1 : ByteArray) : Option (ByteArray) := if (Str.right a0 = true ∧ Str.right a1 = true) ∧ Th.Fit a0 ∧ Th.Fit a1 then some (Th.txt (Th.num a0 + Th.num a1)) else none
theorem rf1_Add.calls (a0 : ByteArray) (a1 : ByteArray) (r : ByteArray) (w : World) (h : rf1_Add.f a0 a1 = some r) :
  Calls Tryz.prog 123 #[.string a0, .string a1] w fun e w' => e = .returned (.string r) ∧ Below w.heap.size w w' := by
 unfold rf1_Add.f at h
 by_cases c : (Str.right a0 = true ∧ Str.right a1 = true) ∧ Th.Fit a0 ∧ Th.Fit a1
 ·
  rw [if_pos c] at h;obtain ⟨⟨h1, h2⟩, h3⟩ := c;obtain ⟨m, rfl⟩ := (Th.right_iff a0).1 h1;obtain ⟨n, rfl⟩ := (Th.right_iff a1).1 h2;simp only [Th.num_txt] at h h3;obtain ⟨k, hk⟩ := (Th.Ref.add_spec m n (Nat.le_trans h3.1 (by decide)) (Nat.le_trans h3.2 (by decide))).rounds;exact PR.rf1_Add.calls k _ _ r w (hk.trans h)
 ·
  rw [if_neg c] at h
  cases h
theorem rf1_Add.txt {m n : Nat} (hm : Th.Fit (Th.txt m)) (hn : Th.Fit (Th.txt n)) : rf1_Add.f (Th.txt m) (Th.txt n) = some (Th.txt (m + n)) := by
 rw [rf1_Add.f, if_pos ⟨⟨Th.right_txt m, Th.right_txt n⟩, hm, hn⟩, Th.num_txt, Th.num_txt]
/-! ### rf2_Add: function 101 -/
def rf2_Add.f (a0 : ByteArray) (a1 : ByteArray) : Option (ByteArray) := (rf2_Size.f a0).bind fun t163 => ((rf2_Size.f a1).bind fun t164 => ((rf2_Sign.f a0).bind fun t165 => ((rf2_Sign.f a1).bind fun t166 => (if (wrap64 (t165 * t166)) ≥ 0 then ((rf1_Add.f t163 t164).bind fun t167 => ((rf2_Sign.f a0).bind fun t168 => ((rf2_Sign.f a1).bind fun t169 => ((rf2_of.f t167 (wrap64 (t168 + t169))).bind fun t170 => (some t170))))) else ((rf1_Compare.f t163 t164).bind fun t171 => (if t171 ≥ 0 then ((rf1_Sub.f t163 t164).bind fun t172 => ((rf2_Sign.f a0).bind fun t173 => ((rf2_of.f t172 t173).bind fun t174 => (some t174)))) else ((rf1_Sub.f t164 t163).bind fun t175 => ((rf2_Sign.f a1).bind fun t176 => ((rf2_of.f t175 t176).bind fun t177 => (some t177))))))))))
theorem rf2_Add.calls (a0 : ByteArray) (a1 : ByteArray) (r : ByteArray) (w : World) (h : rf2_Add.f a0 a1 = some r) :
  Calls Tryz.prog 101 #[.string a0, .string a1] w fun e w' => e = .returned (.string r) ∧ Below w.heap.size w w' := by
 have HB := A_ (Below.refl w.heap.size w);unfold rf2_Add.f at h;have H := h;clear h;replace H := BE_ H;obtain ⟨t163, A30, H⟩ := H;have A3 := A_ A30;clear A30;replace H := BE_ H;obtain ⟨t164, A40, H⟩ := H;have A4 := A_ A40;clear A40;replace H := BE_ H;obtain ⟨t165, A50, H⟩ := H;have A5 := A_ A50;clear A50;replace H := BE_ H;obtain ⟨t166, A60, H⟩ := H;have A6 := A_ A60;clear A60
 by_cases c7 : (wrap64 (t165 * t166)) ≥ 0
 ·
  rw [if_pos c7] at H;have c7b0 : decide (0 ≤ (wrap64 (t165 * t166))) = true := decide_eq_true c7;clear c7;replace H := BE_ H;obtain ⟨t167, A80, H⟩ := H;have A8 := A_ A80;clear A80;replace H := BE_ H;obtain ⟨t168, A90, H⟩ := H;have A9 := A_ A90;clear A90;replace H := BE_ H;obtain ⟨t169, A100, H⟩ := H;have A10 := A_ A100;clear A100;replace H := BE_ H;obtain ⟨t170, A110, H⟩ := H;have A11 := A_ A110;clear A110;obtain rfl := Option.some.inj H;go_enter Tryz.func101, Tryz.ntmps101
  go_wp2_with (first | (refine GL_ 97 8 Tryz.func97 #[.string a0] ?_; (with_reducible refine (rf2_Size.calls a0 t163 _ A3.out).mono ?_); rintro e w' ⟨rfl, ⟨nd, rfl⟩⟩; refine ⟨_, rfl, ?_⟩) | (refine GL_ 97 10 Tryz.func97 #[.string a1] ?_; (with_reducible refine (rf2_Size.calls a1 t164 _ A4.out).mono ?_); rintro e w' ⟨rfl, ⟨nd, rfl⟩⟩; refine ⟨_, rfl, ?_⟩) | (refine GL_ 74 12 Tryz.func74 #[.string a0] ?_; (with_reducible refine (rf2_Sign.calls a0 t165 _ A5.out).mono ?_); rintro e w' ⟨rfl, ⟨nd, rfl⟩⟩; refine ⟨_, rfl, ?_⟩) | (refine GL_ 74 14 Tryz.func74 #[.string a1] ?_; (with_reducible refine (rf2_Sign.calls a1 t166 _ A6.out).mono ?_); rintro e w' ⟨rfl, ⟨nd, rfl⟩⟩; refine ⟨_, rfl, ?_⟩) | (refine GL_ 123 19 Tryz.func123 #[.string t163, .string t164] ?_; (with_reducible refine (rf1_Add.calls t163 t164 t167 _ A8.out).mono ?_); rintro e w12 ⟨rfl, hb⟩; refine ⟨_, rfl, ?_⟩; replace HB := BS_ hb; clear hb) | (refine GL_ 74 21 Tryz.func74 #[.string a0] ?_; (with_reducible refine (rf2_Sign.calls a0 t168 _ A9.out).mono ?_); rintro e w' ⟨rfl, ⟨nd, rfl⟩⟩; refine ⟨_, rfl, ?_⟩) | (refine GL_ 74 23 Tryz.func74 #[.string a1] ?_; (with_reducible refine (rf2_Sign.calls a1 t169 _ A10.out).mono ?_); rintro e w' ⟨rfl, ⟨nd, rfl⟩⟩; refine ⟨_, rfl, ?_⟩) | (refine GL_ 119 25 Tryz.func119 #[.string t167, .int .i64 (wrap64 (t168 + t169))] ?_; (with_reducible refine (rf2_of.calls t167 (wrap64 (t168 + t169)) t170 _ A11.out).mono ?_); rintro e w' ⟨rfl, ⟨nd, rfl⟩⟩; refine ⟨_, rfl, ?_⟩))
  go_ret
  exact ⟨T4_, T1_⟩
 ·
  rw [if_neg c7] at H;have c7b0 : decide (0 ≤ (wrap64 (t165 * t166))) = false := decide_eq_false c7;clear c7;replace H := BE_ H;obtain ⟨t171, A130, H⟩ := H;have A13 := A_ A130;clear A130
  by_cases c14 : t171 ≥ 0
  ·
   rw [if_pos c14] at H;have c14b0 : decide (0 ≤ t171) = true := decide_eq_true c14;clear c14;replace H := BE_ H;obtain ⟨t172, A150, H⟩ := H;have A15 := A_ A150;clear A150;replace H := BE_ H;obtain ⟨t173, A160, H⟩ := H;have A16 := A_ A160;clear A160;replace H := BE_ H;obtain ⟨t174, A170, H⟩ := H;have A17 := A_ A170;clear A170;obtain rfl := Option.some.inj H;go_enter Tryz.func101, Tryz.ntmps101
   go_wp2_with (first | (refine GL_ 97 8 Tryz.func97 #[.string a0] ?_; (with_reducible refine (rf2_Size.calls a0 t163 _ A3.out).mono ?_); rintro e w' ⟨rfl, ⟨nd, rfl⟩⟩; refine ⟨_, rfl, ?_⟩) | (refine GL_ 97 10 Tryz.func97 #[.string a1] ?_; (with_reducible refine (rf2_Size.calls a1 t164 _ A4.out).mono ?_); rintro e w' ⟨rfl, ⟨nd, rfl⟩⟩; refine ⟨_, rfl, ?_⟩) | (refine GL_ 74 12 Tryz.func74 #[.string a0] ?_; (with_reducible refine (rf2_Sign.calls a0 t165 _ A5.out).mono ?_); rintro e w' ⟨rfl, ⟨nd, rfl⟩⟩; refine ⟨_, rfl, ?_⟩) | (refine GL_ 74 14 Tryz.func74 #[.string a1] ?_; (with_reducible refine (rf2_Sign.calls a1 t166 _ A6.out).mono ?_); rintro e w' ⟨rfl, ⟨nd, rfl⟩⟩; refine ⟨_, rfl, ?_⟩) | (refine GL_ 121 28 Tryz.func121 #[.string t163, .string t164] ?_; (with_reducible refine (rf1_Compare.calls t163 t164 t171 _ A13.out).mono ?_); rintro e w' ⟨rfl, ⟨nd, rfl⟩⟩; refine ⟨_, rfl, ?_⟩) | (refine GL_ 122 32 Tryz.func122 #[.string t163, .string t164] ?_; (with_reducible refine (rf1_Sub.calls t163 t164 t172 _ A15.out).mono ?_); rintro e w18 ⟨rfl, hb⟩; refine ⟨_, rfl, ?_⟩; replace HB := BS_ hb; clear hb) | (refine GL_ 74 34 Tryz.func74 #[.string a0] ?_; (with_reducible refine (rf2_Sign.calls a0 t173 _ A16.out).mono ?_); rintro e w' ⟨rfl, ⟨nd, rfl⟩⟩; refine ⟨_, rfl, ?_⟩) | (refine GL_ 119 35 Tryz.func119 #[.string t172, .int .i64 t173] ?_; (with_reducible refine (rf2_of.calls t172 t173 t174 _ A17.out).mono ?_); rintro e w' ⟨rfl, ⟨nd, rfl⟩⟩; refine ⟨_, rfl, ?_⟩))
   go_ret
   exact ⟨T4_, T1_⟩
  ·
   rw [if_neg c14] at H;have c14b0 : decide (0 ≤ t171) = false := decide_eq_false c14;clear c14;replace H := BE_ H;obtain ⟨t175, A190, H⟩ := H;have A19 := A_ A190;clear A190;replace H := BE_ H;obtain ⟨t176, A200, H⟩ := H;have A20 := A_ A200;clear A200;replace H := BE_ H;obtain ⟨t177, A210, H⟩ := H;have A21 := A_ A210;clear A210;obtain rfl := Option.some.inj H;go_enter Tryz.func101, Tryz.ntmps101
   go_wp2_with (first | (refine GL_ 97 8 Tryz.func97 #[.string a0] ?_; (with_reducible refine (rf2_Size.calls a0 t163 _ A3.out).mono ?_); rintro e w' ⟨rfl, ⟨nd, rfl⟩⟩; refine ⟨_, rfl, ?_⟩) | (refine GL_ 97 10 Tryz.func97 #[.string a1] ?_; (with_reducible refine (rf2_Size.calls a1 t164 _ A4.out).mono ?_); rintro e w' ⟨rfl, ⟨nd, rfl⟩⟩; refine ⟨_, rfl, ?_⟩) | (refine GL_ 74 12 Tryz.func74 #[.string a0] ?_; (with_reducible refine (rf2_Sign.calls a0 t165 _ A5.out).mono ?_); rintro e w' ⟨rfl, ⟨nd, rfl⟩⟩; refine ⟨_, rfl, ?_⟩) | (refine GL_ 74 14 Tryz.func74 #[.string a1] ?_; (with_reducible refine (rf2_Sign.calls a1 t166 _ A6.out).mono ?_); rintro e w' ⟨rfl, ⟨nd, rfl⟩⟩; refine ⟨_, rfl, ?_⟩) | (refine GL_ 121 28 Tryz.func121 #[.string t163, .string t164] ?_; (with_reducible refine (rf1_Compare.calls t163 t164 t171 _ A13.out).mono ?_); rintro e w' ⟨rfl, ⟨nd, rfl⟩⟩; refine ⟨_, rfl, ?_⟩) | (refine GL_ 122 38 Tryz.func122 #[.string t164, .string t163] ?_; (with_reducible refine (rf1_Sub.calls t164 t163 t175 _ A19.out).mono ?_); rintro e w22 ⟨rfl, hb⟩; refine ⟨_, rfl, ?_⟩; replace HB := BS_ hb; clear hb) | (refine GL_ 74 40 Tryz.func74 #[.string a1] ?_; (with_reducible refine (rf2_Sign.calls a1 t176 _ A20.out).mono ?_); rintro e w' ⟨rfl, ⟨nd, rfl⟩⟩; refine ⟨_, rfl, ?_⟩) | (refine GL_ 119 41 Tryz.func119 #[.string t175, .int .i64 t176] ?_; (with_reducible refine (rf2_of.calls t175 t176 t177 _ A21.out).mono ?_); rintro e w' ⟨rfl, ⟨nd, rfl⟩⟩; refine ⟨_, rfl, ?_⟩))
   go_ret
   exact ⟨T4_, T1_⟩
/-! ### rf2_Neg: function 98 -/
def rf2_Neg.f (a0 : ByteArray) : Option (ByteArray) := (rf2_Size.f a0).bind fun t178 => ((rf2_Sign.f a0).bind fun t179 => ((rf2_of.f t178 (wrap64 (-t179))).bind fun t180 => (some t180)))
theorem rf2_Neg.calls (a0 : ByteArray) (r : ByteArray) (w : World) (h : rf2_Neg.f a0 = some r) :
  Calls Tryz.prog 98 #[.string a0] w fun e w' => e = .returned (.string r) ∧ Drawn0 w w' := by
 unfold rf2_Neg.f at h;have H := h;clear h;replace H := BE_ H;obtain ⟨t178, A20, H⟩ := H;have A2 := A_ A20;clear A20;replace H := BE_ H;obtain ⟨t179, A30, H⟩ := H;have A3 := A_ A30;clear A30;replace H := BE_ H;obtain ⟨t180, A40, H⟩ := H;have A4 := A_ A40;clear A40;obtain rfl := Option.some.inj H;go_enter Tryz.func98, Tryz.ntmps98
 go_wp2_with (first | (refine GL_ 97 4 Tryz.func97 #[.string a0] ?_; (with_reducible refine (rf2_Size.calls a0 t178 _ A2.out).mono ?_); rintro e w' ⟨rfl, ⟨nd, rfl⟩⟩; refine ⟨_, rfl, ?_⟩) | (refine GL_ 74 6 Tryz.func74 #[.string a0] ?_; (with_reducible refine (rf2_Sign.calls a0 t179 _ A3.out).mono ?_); rintro e w' ⟨rfl, ⟨nd, rfl⟩⟩; refine ⟨_, rfl, ?_⟩) | (refine GL_ 119 8 Tryz.func119 #[.string t178, .int .i64 (wrap64 (-t179))] ?_; (with_reducible refine (rf2_of.calls t178 (wrap64 (-t179)) t180 _ A4.out).mono ?_); rintro e w' ⟨rfl, ⟨nd, rfl⟩⟩; refine ⟨_, rfl, ?_⟩))
 go_ret
 exact ⟨by first | rfl | (simp; done) | (simp [*]; done), by repeat (first | exact Drawn0.refl _ | apply Drawn0.step)⟩
/-! ### rf1_Mul: function 124 -/
def rf1_Mul.f (a0 : ByteArray) (a1 : ByteArray) : Option (ByteArray) := if (Str.right a0 = true ∧ Str.right a1 = true) ∧ Th.Fit a0 ∧ Th.Fit a1 then some (Th.txt (Th.num a0 * Th.num a1)) else none
theorem rf1_Mul.calls (a0 : ByteArray) (a1 : ByteArray) (r : ByteArray) (w : World) (h : rf1_Mul.f a0 a1 = some r) :
  Calls Tryz.prog 124 #[.string a0, .string a1] w fun e w' => e = .returned (.string r) ∧ Below w.heap.size w w' := by
 unfold rf1_Mul.f at h
 by_cases c : (Str.right a0 = true ∧ Str.right a1 = true) ∧ Th.Fit a0 ∧ Th.Fit a1
 ·
  rw [if_pos c] at h;obtain ⟨⟨h1, h2⟩, h3⟩ := c;obtain ⟨m, rfl⟩ := (Th.right_iff a0).1 h1;obtain ⟨n, rfl⟩ := (Th.right_iff a1).1 h2;simp only [Th.num_txt] at h h3;obtain ⟨k, hk⟩ := (Th.Ref.mul_spec m n (Nat.le_trans h3.1 (by decide)) (Nat.le_trans h3.2 (by decide))).rounds;exact PR.rf1_Mul.calls k _ _ r w (hk.trans h)
 ·
  rw [if_neg c] at h
  cases h
theorem rf1_Mul.txt {m n : Nat} (hm : Th.Fit (Th.txt m)) (hn : Th.Fit (Th.txt n)) : rf1_Mul.f (Th.txt m) (Th.txt n) = some (Th.txt (m * n)) := by
 rw [rf1_Mul.f, if_pos ⟨⟨Th.right_txt m, Th.right_txt n⟩, hm, hn⟩, Th.num_txt, Th.num_txt]
/-! ### rf2_Mul: function 102 -/
def rf2_Mul.f (a0 : ByteArray) (a1 : ByteArray) : Option (ByteArray) := (rf2_Size.f a0).bind fun t181 => ((rf2_Size.f a1).bind fun t182 => ((rf1_Mul.f t181 t182).bind fun t183 => ((rf2_Sign.f a0).bind fun t184 => ((rf2_Sign.f a1).bind fun t185 => ((rf2_of.f t183 (wrap64 (t184 * t185))).bind fun t186 => (some t186))))))
theorem rf2_Mul.calls (a0 : ByteArray) (a1 : ByteArray) (r : ByteArray) (w : World) (h : rf2_Mul.f a0 a1 = some r) :
  Calls Tryz.prog 102 #[.string a0, .string a1] w fun e w' => e = .returned (.string r) ∧ Below w.heap.size w w' := by
 have HB := A_ (Below.refl w.heap.size w);unfold rf2_Mul.f at h;have H := h;clear h;replace H := BE_ H;obtain ⟨t181, A30, H⟩ := H;have A3 := A_ A30;clear A30;replace H := BE_ H;obtain ⟨t182, A40, H⟩ := H;have A4 := A_ A40;clear A40;replace H := BE_ H;obtain ⟨t183, A50, H⟩ := H;have A5 := A_ A50;clear A50;replace H := BE_ H;obtain ⟨t184, A60, H⟩ := H;have A6 := A_ A60;clear A60;replace H := BE_ H;obtain ⟨t185, A70, H⟩ := H;have A7 := A_ A70;clear A70;replace H := BE_ H;obtain ⟨t186, A80, H⟩ := H;have A8 := A_ A80;clear A80;obtain rfl := Option.some.inj H;go_enter Tryz.func102, Tryz.ntmps102
 go_wp2_with (first | (refine GL_ 97 6 Tryz.func97 #[.string a0] ?_; (with_reducible refine (rf2_Size.calls a0 t181 _ A3.out).mono ?_); rintro e w' ⟨rfl, ⟨nd, rfl⟩⟩; refine ⟨_, rfl, ?_⟩) | (refine GL_ 97 8 Tryz.func97 #[.string a1] ?_; (with_reducible refine (rf2_Size.calls a1 t182 _ A4.out).mono ?_); rintro e w' ⟨rfl, ⟨nd, rfl⟩⟩; refine ⟨_, rfl, ?_⟩) | (refine GL_ 124 9 Tryz.func124 #[.string t181, .string t182] ?_; (with_reducible refine (rf1_Mul.calls t181 t182 t183 _ A5.out).mono ?_); rintro e w9 ⟨rfl, hb⟩; refine ⟨_, rfl, ?_⟩; replace HB := BS_ hb; clear hb) | (refine GL_ 74 11 Tryz.func74 #[.string a0] ?_; (with_reducible refine (rf2_Sign.calls a0 t184 _ A6.out).mono ?_); rintro e w' ⟨rfl, ⟨nd, rfl⟩⟩; refine ⟨_, rfl, ?_⟩) | (refine GL_ 74 13 Tryz.func74 #[.string a1] ?_; (with_reducible refine (rf2_Sign.calls a1 t185 _ A7.out).mono ?_); rintro e w' ⟨rfl, ⟨nd, rfl⟩⟩; refine ⟨_, rfl, ?_⟩) | (refine GL_ 119 15 Tryz.func119 #[.string t183, .int .i64 (wrap64 (t184 * t185))] ?_; (with_reducible refine (rf2_of.calls t183 (wrap64 (t184 * t185)) t186 _ A8.out).mono ?_); rintro e w' ⟨rfl, ⟨nd, rfl⟩⟩; refine ⟨_, rfl, ?_⟩))
 go_ret
 exact ⟨T4_, T1_⟩
/-! ### rf1_Right: function 71 -/
def rf1_Right.f (a0 : ByteArray) : Option Bool := if a0.size ≤ 140737488351232 then some (Str.right a0) else none
theorem rf1_Right.calls (a0 : ByteArray) (r : Bool) (w : World) (h : rf1_Right.f a0 = some r) :
  Calls Tryz.prog 71 #[.string a0] w fun e w' => e = .returned (.bool r) ∧ Drawn0 w w' := by
 unfold rf1_Right.f at h
 by_cases c : a0.size ≤ 140737488351232
 ·
  rw [if_pos c] at h;obtain ⟨k, hk⟩ := (Th.Ref.right_spec a0 c).rounds;exact PR.rf1_Right.calls k a0 r w (hk.trans h)
 ·
  rw [if_neg c] at h
  cases h
/-! ### rf2_Right: function 70 -/
def rf2_Right.f (a0 : ByteArray) : Option (Bool) := (rf2_Size.f a0).bind fun t187 => ((rf1_Right.f t187).bind fun t188 => (if t188 = true then (some (a0.toList != ([45, 48] : List UInt8))) else (some false)))
theorem rf2_Right.calls (a0 : ByteArray) (r : Bool) (w : World) (h : rf2_Right.f a0 = some r) :
  Calls Tryz.prog 70 #[.string a0] w fun e w' => e = .returned (.bool r) ∧ Drawn0 w w' := by
 unfold rf2_Right.f at h;have H := h;clear h;replace H := BE_ H;obtain ⟨t187, A20, H⟩ := H;have A2 := A_ A20;clear A20;replace H := BE_ H;obtain ⟨t188, A30, H⟩ := H;have A3 := A_ A30;clear A30
 by_cases c4 : t188 = true
 ·
  subst c4;rw [if_pos rfl] at H;obtain rfl := Option.some.inj H;go_enter Tryz.func70, Tryz.ntmps70
  go_wp2_with (first | (refine GL_ 97 4 Tryz.func97 #[.string a0] ?_; (with_reducible refine (rf2_Size.calls a0 t187 _ A2.out).mono ?_); rintro e w' ⟨rfl, ⟨nd, rfl⟩⟩; refine ⟨_, rfl, ?_⟩) | (refine GL_ 71 5 Tryz.func71 #[.string t187] ?_; (with_reducible refine (rf1_Right.calls t187 true _ A3.out).mono ?_); rintro e w' ⟨rfl, ⟨nd, rfl⟩⟩; refine ⟨_, rfl, ?_⟩))
  go_ret
  exact ⟨by first | rfl | (simp; done) | (simp [*]; done), by repeat (first | exact Drawn0.refl _ | apply Drawn0.step)⟩
 ·
  replace c4 := Bool.eq_false_iff.mpr c4;subst c4;rw [if_neg (show ¬ (false = true) by decide)] at H;obtain rfl := Option.some.inj H;go_enter Tryz.func70, Tryz.ntmps70
  go_wp2_with (first | (refine GL_ 97 4 Tryz.func97 #[.string a0] ?_; (with_reducible refine (rf2_Size.calls a0 t187 _ A2.out).mono ?_); rintro e w' ⟨rfl, ⟨nd, rfl⟩⟩; refine ⟨_, rfl, ?_⟩) | (refine GL_ 71 5 Tryz.func71 #[.string t187] ?_; (with_reducible refine (rf1_Right.calls t187 false _ A3.out).mono ?_); rintro e w' ⟨rfl, ⟨nd, rfl⟩⟩; refine ⟨_, rfl, ?_⟩))
  go_ret
  exact ⟨by first | rfl | (simp; done) | (simp [*]; done), by repeat (first | exact Drawn0.refl _ | apply Drawn0.step)⟩
/-! ### strings_HasPrefix: function 85 -/
def strings_HasPrefix.f (a0 : ByteArray) (a1 : ByteArray) : Option (Bool) := (stringslite_HasPrefix.f a0 a1).bind fun t189 => (some t189)
/-! ### stringslite_TrimPrefix: function 134 -/
def stringslite_TrimPrefix.f (a0 : ByteArray) (a1 : ByteArray) : Option (ByteArray) := (stringslite_HasPrefix.f a0 a1).bind fun t190 => (if t190 = true then (if 0 ≤ (a1.size : Int) then (if (a1.size : Int) ≤ (a0.size : Int) then (some (a0.extract ((a1.size : Int) : Int).toNat a0.size)) else (none)) else (none)) else (some a0))
/-! ### strings_TrimPrefix: function 111 -/
def strings_TrimPrefix.f (a0 : ByteArray) (a1 : ByteArray) : Option (ByteArray) := (stringslite_TrimPrefix.f a0 a1).bind fun t191 => (some t191)
end Go.Proofs.YtndkjpkgllmbnaaGreatDoor.PB
