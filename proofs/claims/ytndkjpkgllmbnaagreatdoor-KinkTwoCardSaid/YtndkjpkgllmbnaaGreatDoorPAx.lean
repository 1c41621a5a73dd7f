-- by wip/tool/mine.py of this repo (the kit's printer with given contracts)
import Derived.Test.YtndkjpkgllmbnaaGreatDoorPAxa
namespace Go.Proofs.YtndkjpkgllmbnaaGreatDoor.PA
open Go.RowKit Go.ZPWords Go.ZPLast Go.ZPMore
attribute [local go_sem] max2_int min2_int max_two min_two max_three min_three max_four min_four   -- for this text's walks alone
set_option linter.unusedVariables false
set_option linter.unusedSimpArgs false
set_option maxHeartbeats 8000000
set_option maxRecDepth 100000
/-! ### nat_Mul: function 115 -/
def nat_Mul.f (k : Nat) (a0 : ByteArray) (a1 : ByteArray) : Option (ByteArray × Int) := (nat_both.f k a0 a1).bind fun bt247 => (if bt247.2.2 = true then ((nat_mul.f k bt247.1 bt247.2.1).bind fun t254 => ((nat_text.f k t254).bind fun t257 => (some (t257, 0)))) else (some ((⟨#[]⟩ : ByteArray), 2)))
theorem nat_Mul.calls (k : Nat) (a0 : ByteArray) (a1 : ByteArray) (r1 : ByteArray) (r2 : Int) (w : World) (h : nat_Mul.f k a0 a1 = some (r1, r2)) :
  Calls Tryz.prog 115 #[.string a0, .string a1] w fun e w' => e = .returned (.tuple #[.string r1, .int .i64 r2]) ∧ Below w.heap.size w w' := by
 have HB := A_ (Below.refl w.heap.size w);unfold nat_Mul.f at h;have H := h;clear h;replace H := BE_ H;obtain ⟨⟨t247, t248, t249⟩, A30, H⟩ := H;have A3 := A_ A30;clear A30
 by_cases c4 : t249 = true
 ·
  subst c4;rw [if_pos rfl] at H;replace H := BE_ H;obtain ⟨t254, A50, H⟩ := H;have A5 := A_ A50;clear A50;replace H := BE_ H;obtain ⟨t257, A60, H⟩ := H;have A6 := A_ A60;clear A60;simp only [Option.some.injEq, Prod.mk.injEq] at H;obtain ⟨rfl, rfl⟩ := H;go_enter Tryz.func115, Tryz.ntmps115
  go_wp2_with (first | (refine GL_ 112 12 Tryz.func112 #[.string a0, .string a1] ?_; (with_reducible refine (nat_both.calls k a0 a1 t247 t248 true _ A3.out).mono ?_); rintro e w7 ⟨v250, v252, rfl, ho0, ho1, hb⟩; refine ⟨_, rfl, ?_⟩; have HO251 := A_ (Kd.R_lower ho0 (below_size T1_)); have HO253 := A_ (Kd.R_lower ho1 (below_size T1_)); replace HB := BS_ hb; clear hb ho0 ho1; obtain ⟨Ao8, co8, eo8⟩ := Kd.R_slice HO251.out; subst eo8; obtain ⟨Ao9, co9, eo9⟩ := Kd.R_slice HO253.out; subst eo9) | (refine GL_ 143 20 Tryz.func143 #[.slice Ao8 t247.length co8, .slice Ao9 t248.length co9] ?_; (with_reducible refine (nat_mul.calls k _ _ t247 _ _ t248 t254 _ (C1_ (Kd.R_reads' HO251.out).2.2) ((Kd.R_reads' HO251.out).2.1) (C1_ (Kd.R_reads' HO253.out).2.2) ((Kd.R_reads' HO253.out).2.1) A5.out).mono ?_); rintro e w10 ⟨v255, rfl, ho0, hb⟩; refine ⟨_, rfl, ?_⟩; have HO256 := A_ (Kd.R_lower (Kd.R_new' (Kd.R_new' ho0 (Kd.R_lt (K1_ HO251))) (Kd.R_lt (K1_ HO253))) (below_size T1_)); replace HO251 := A_ (Kd.R_elder' (K1_ HO251) (Kd.R_base ho0) hb); replace HO253 := A_ (Kd.R_elder' (K1_ HO253) (Kd.R_base ho0) hb); replace HB := BS_ hb; clear hb ho0; obtain ⟨Ao11, co11, eo11⟩ := Kd.R_slice HO256.out; subst eo11) | (refine GL_ 114 21 Tryz.func114 #[.slice Ao11 t254.length co11] ?_; (with_reducible refine (nat_text.calls k (fun k_ => some k_ = (.slice Ao11 t254.length co11 : Value).ownBlock) _ _ t254 t257 _ (Kd.R_V (Kd.R_tight rfl (HO256.out))) A6.out).mono ?_); rintro e w12 ⟨rfl, hb⟩; refine ⟨_, rfl, ?_⟩; replace HO251 := RC_ HO251 hb; replace HO253 := RC_ HO253 hb; replace HO256 := RC_ HO256 hb; replace HB := BS_ hb; clear hb))
  go_ret2
  exact ⟨T4_, T1_⟩
 ·
  replace c4 := Bool.eq_false_iff.mpr c4;subst c4;rw [if_neg (show ¬ (false = true) by decide)] at H;simp only [Option.some.injEq, Prod.mk.injEq] at H;obtain ⟨rfl, rfl⟩ := H;go_enter Tryz.func115, Tryz.ntmps115
  go_wp2_with (first | (refine GL_ 112 12 Tryz.func112 #[.string a0, .string a1] ?_; (with_reducible refine (nat_both.calls k a0 a1 t247 t248 false _ A3.out).mono ?_); rintro e w13 ⟨v250, v252, rfl, ho0, ho1, hb⟩; refine ⟨_, rfl, ?_⟩; have HO251 := A_ (Kd.R_lower ho0 (below_size T1_)); have HO253 := A_ (Kd.R_lower ho1 (below_size T1_)); replace HB := BS_ hb; clear hb ho0 ho1))
  go_ret2
  exact ⟨T4_, T1_⟩
/-! ### nat_Compare: function 117 -/
def nat_Compare.f (k : Nat) (a0 : ByteArray) (a1 : ByteArray) : Option (Int × Int) := (nat_both.f k a0 a1).bind fun bt258 => (if bt258.2.2 = true then ((nat_compare.f k bt258.1 bt258.2.1).bind fun t265 => (some (t265, 0))) else (some (0, 2)))
theorem nat_Compare.calls (k : Nat) (a0 : ByteArray) (a1 : ByteArray) (r1 : Int) (r2 : Int) (w : World) (h : nat_Compare.f k a0 a1 = some (r1, r2)) :
  Calls Tryz.prog 117 #[.string a0, .string a1] w fun e w' => e = .returned (.tuple #[.int .i64 r1, .int .i64 r2]) ∧ Below w.heap.size w w' := by
 have HB := A_ (Below.refl w.heap.size w);unfold nat_Compare.f at h;have H := h;clear h;replace H := BE_ H;obtain ⟨⟨t258, t259, t260⟩, A30, H⟩ := H;have A3 := A_ A30;clear A30
 by_cases c4 : t260 = true
 ·
  subst c4;rw [if_pos rfl] at H;replace H := BE_ H;obtain ⟨t265, A50, H⟩ := H;have A5 := A_ A50;clear A50;simp only [Option.some.injEq, Prod.mk.injEq] at H;obtain ⟨rfl, rfl⟩ := H;go_enter Tryz.func117, Tryz.ntmps117
  go_wp2_with (first | (refine GL_ 112 12 Tryz.func112 #[.string a0, .string a1] ?_; (with_reducible refine (nat_both.calls k a0 a1 t258 t259 true _ A3.out).mono ?_); rintro e w6 ⟨v261, v263, rfl, ho0, ho1, hb⟩; refine ⟨_, rfl, ?_⟩; have HO262 := A_ (Kd.R_lower ho0 (below_size T1_)); have HO264 := A_ (Kd.R_lower ho1 (below_size T1_)); replace HB := BS_ hb; clear hb ho0 ho1; obtain ⟨Ao7, co7, eo7⟩ := Kd.R_slice HO262.out; subst eo7; obtain ⟨Ao8, co8, eo8⟩ := Kd.R_slice HO264.out; subst eo8) | (refine GL_ 137 20 Tryz.func137 #[.slice Ao7 t258.length co7, .slice Ao8 t259.length co8] ?_; (with_reducible refine (nat_compare.calls k _ _ t258 _ _ t259 t265 _ (C1_ (Kd.R_reads' HO262.out).2.2) ((Kd.R_reads' HO262.out).2.1) (C1_ (Kd.R_reads' HO264.out).2.2) ((Kd.R_reads' HO264.out).2.1) A5.out).mono ?_); rintro e w' ⟨rfl, ⟨nd, rfl⟩⟩; refine ⟨_, rfl, ?_⟩))
  go_ret2
  exact ⟨T4_, T1_⟩
 ·
  replace c4 := Bool.eq_false_iff.mpr c4;subst c4;rw [if_neg (show ¬ (false = true) by decide)] at H;simp only [Option.some.injEq, Prod.mk.injEq] at H;obtain ⟨rfl, rfl⟩ := H;go_enter Tryz.func117, Tryz.ntmps117
  go_wp2_with (first | (refine GL_ 112 12 Tryz.func112 #[.string a0, .string a1] ?_; (with_reducible refine (nat_both.calls k a0 a1 t258 t259 false _ A3.out).mono ?_); rintro e w9 ⟨v261, v263, rfl, ho0, ho1, hb⟩; refine ⟨_, rfl, ?_⟩; have HO262 := A_ (Kd.R_lower ho0 (below_size T1_)); have HO264 := A_ (Kd.R_lower ho1 (below_size T1_)); replace HB := BS_ hb; clear hb ho0 ho1))
  go_ret2
  exact ⟨T4_, T1_⟩
/-! ### nat_shift: function 139 -/
def nat_shift.f (k : Nat) (l0 : List Int) (a1 : Int) : Option (List Int) := if 0 ≤ a1 then ((nat_step.f k l0 (shl .u64 1 a1) 0).bind fun t266 => (some t266)) else (none)
theorem nat_shift.calls (k : Nat) (A0 : Option Addr) (c0 : Nat) (l0 : List Int) (a1 : Int) (r : List Int) (w : World) (hr0 : Kd.C (Kd.int .u32) w A0 l0.length l0) (hc0 : l0.length ≤ c0) (h : nat_shift.f k l0 a1 = some r) :
  Calls Tryz.prog 139 #[.slice A0 l0.length c0, .int .u64 a1] w fun e w' => ∃ v0_ : Value, e = .returned (v0_) ∧ Kd.R (Kd.int .u32) 115 w' w.heap.size (fun _ => True) v0_ r ∧ Below w.heap.size w w' := by
 have HR0 := A_ hr0;have HC0 := A_ hc0;clear hr0 hc0;have HB := A_ (Below.refl w.heap.size w);unfold nat_shift.f at h;have H := h;clear h
 by_cases c3 : 0 ≤ a1
 ·
  rw [if_pos c3] at H;have c3b0 := eq_true c3;have c3b1 := decide_eq_true c3;clear c3;obtain ⟨ji4, hji4⟩ : ∃ j_ : Int, (shl .u64 1 a1) = j_ := ⟨_, rfl⟩
  first | rw [hji4] at H | simp only [hji4] at H
  have hji4_ : (IntKind.u64.wrap (1 * 2 ^ min a1.toNat 64)) = ji4 := hji4;have hji4z : a1 ≤ 64 → (IntKind.u64.wrap (1 * 2 ^ a1.toNat)) = ji4 := shl_small hji4
  have hji4u : (IntKind.u64.wrap (2 ^ min a1.toNat 64)) = ji4 := by have h_ := hji4_; rw [Int.one_mul] at h_; exact h_
  have hji4v : a1 ≤ 64 → (IntKind.u64.wrap (2 ^ a1.toNat)) = ji4 := fun hle_ => by have h_ := hji4z hle_; rw [Int.one_mul] at h_; exact h_
  replace H := BE_ H;obtain ⟨t266, A50, H⟩ := H;have A5 := A_ A50;clear A50;obtain rfl := Option.some.inj H;go_enter Tryz.func139, Tryz.ntmps139
  go_wp2_with (first | ((with_reducible refine gate_callee (f := 155) rfl ?_); refine goesL_ (some 8) rfl rfl Tryz.func155 (by kernel_rfl) rfl #[.slice A0 l0.length c0, .int .u64 ji4, .int .u64 0] rfl (by (try simp only [List.map_toArray, List.map_cons, List.map_nil]); first | done | (simp only [hji4]; rfl) | rfl | (simp only [List.length_drop, List.length_take]; rfl)) ?_; (with_reducible refine (nat_step.calls k _ _ l0 ji4 0 t266 _ (C1_ HR0.out) HC0.out A5.out).mono ?_); rintro e w6 ⟨v267, rfl, ho0, hb⟩; refine ⟨_, rfl, ?_⟩; have HO268 := A_ (Kd.R_lower ho0 (below_size T1_)); replace HB := BS_ hb; clear hb ho0))
  go_ret
  exact ⟨_, by first | rfl | (simp [errW_none, errW_some] <;> rfl) | (simp only [← hji4]; first | rfl | (simp [errW_none, errW_some] <;> rfl)) | (simp [*, errW_none, errW_some] <;> rfl), by (with_reducible repeat (first | apply Kd.R_alloc | apply Kd.R_drewN | apply Kd.R_drew)); exact HO268.out, T1_⟩
 ·
  rw [if_neg c3] at H;exact absurd H (by simp)
/-! ### nat_guess: function 140 -/
mutual
def nat_guess.l0 : Nat → List Int → List Int → Int → Int → List Int → List Int → Option (Int × List Int)
 | 0, _, _, _, _, _, _ => none
 | k + 1, x0, x1, x2, x11, x12, x13 => (nat_limbs_uint32.f x12).bind fun t281 => ((nat_trim.f k t281).bind fun t284 => ((nat_compare.f k x13 t284).bind fun t287 => (if t287 > 0 then ((nat_sub.f k x13 x1).bind fun t288 => (nat_guess.l0 k x0 x1 x2 (IntKind.u64.wrap (x11 - 1)) x12 t288)) else ((nat_sub.f k x12 x13).bind fun t291 => (nat_guess.l1 k x0 x2 x11 t291 (x12.length : Int) 0)))))
def nat_guess.l1 : Nat → List Int → Int → Int → List Int → Int → Int → Option (Int × List Int)
 | 0, _, _, _, _, _, _ => none
 | k + 1, x0, x2, x11, x14, x65, x66 => if x66 < x65 then (if 0 ≤ (wrap64 (x2 + x66)) then (if (wrap64 (x2 + x66)) < (x0.length : Int) then ((some (x0.set ((wrap64 (x2 + x66)) : Int).toNat 0 : List Int)).bind fun y294 => (if x66 < (x14.length : Int) then (if 0 ≤ x66 then (nat_guess.l1 k (y294.set ((wrap64 (x2 + x66)) : Int).toNat (rd x14 x66)) x2 x11 x14 x65 (wrap64 (x66 + 1))) else (none)) else (nat_guess.l1 k y294 x2 x11 x14 x65 (wrap64 (x66 + 1))))) else (none)) else (none)) else (some ((x11) % 4294967296, x0))
end
def nat_guess.f (k : Nat) (l0 : List Int) (l1 : List Int) (a2 : Int) (a3 : Int) : Option (Int × List Int) := if 0 ≤ (wrap64 (a2 + (l1.length : Int))) then (if (wrap64 (a2 + (l1.length : Int))) < (l0.length : Int) then (if 0 ≤ (wrap64 ((wrap64 (a2 + (l1.length : Int))) - 1)) then (if (wrap64 ((wrap64 (a2 + (l1.length : Int))) - 1)) < (l0.length : Int) then (if a3 = 0 then (none) else (if 0 ≤ a2 then (if a2 ≤ (wrap64 ((wrap64 (a2 + (l1.length : Int))) + 1)) then (if (wrap64 ((wrap64 (a2 + (l1.length : Int))) + 1)) ≤ (l0.length : Int) then ((nat_limbs_uint32.f ((l0.take ((wrap64 ((wrap64 (a2 + (l1.length : Int))) + 1)) : Int).toNat).drop (a2 : Int).toNat)).bind fun t275 => ((nat_step.f k l1 (mn (IntKind.u64.wrap (Int.tdiv (Go.bits .or .u64 (IntKind.u64.wrap ((IntKind.u64.wrap (rd l0 (wrap64 (a2 + (l1.length : Int))))) * 4294967296)) (IntKind.u64.wrap (rd l0 (wrap64 ((wrap64 (a2 + (l1.length : Int))) - 1))))) a3)) 4294967295) 0).bind fun t278 => (nat_guess.l0 k l0 l1 a2 (mn (IntKind.u64.wrap (Int.tdiv (Go.bits .or .u64 (IntKind.u64.wrap ((IntKind.u64.wrap (rd l0 (wrap64 (a2 + (l1.length : Int))))) * 4294967296)) (IntKind.u64.wrap (rd l0 (wrap64 ((wrap64 (a2 + (l1.length : Int))) - 1))))) a3)) 4294967295) t275 t278))) else (none)) else (none)) else (none))) else (none)) else (none)) else (none)) else (none)
theorem nat_guess.calls (k : Nat) (P0_ : Nat → Prop) (u9000_ : Value) (l0 : List Int) (A1 : Option Addr) (c1 : Nat) (l1 : List Int) (a2 : Int) (a3 : Int) (r1 : Int) (r2 : List Int) (w0 w : World) (hB : Below w0.heap.size w0 w) (ho0 : Kd.R (Kd.int .u32) 115 w w0.heap.size P0_ u9000_ l0) (hr1 : ∀ W_, Kept w W_ (fun k_ => P0_ k_) → Kd.C (Kd.int .u32) W_ A1 l1.length l1) (hc1 : l1.length ≤ c1) (h : nat_guess.f k l0 l1 a2 a3 = some (r1, r2)) :
  Calls Tryz.prog 140 #[u9000_, .slice A1 l1.length c1, .int .i64 a2, .int .u64 a3] w fun e w' => e = .returned (.int .u32 r1) ∧ Kd.R (Kd.int .u32) 115 w' w0.heap.size (fun k_ => (P0_ k_ ∨ w.heap.size ≤ k_)) u9000_ r2 ∧ Below w0.heap.size w0 w' ∧ Kept w w' (fun k_ => P0_ k_) := by
 have HO0 := A_ (show Kd.R (Kd.int .u32) 115 w w0.heap.size (fun k_ => (P0_ k_ ∨ w.heap.size ≤ k_)) u9000_ l0 from Kd.R_mono ho0 (fun k_ hk => (.inl hk)));have HR1 := A_ hr1;have HC1 := A_ hc1;clear hr1 hc1;have HK := A_ (Kept.refl w (fun k_ => P0_ k_));have HW0 := A_ hB.size;have HB := A_ hB;clear hB;unfold nat_guess.f at h;have H := h;clear h;obtain ⟨ji5, hji5⟩ : ∃ j_ : Int, (wrap64 (a2 + (l1.length : Int))) = j_ := ⟨_, rfl⟩
 first | rw [hji5] at H | simp only [hji5] at H
 have hji5w : (IntKind.i64.wrap (a2 + (l1.length : Int))) = ji5 := (i64_w _).trans hji5
 by_cases c6 : 0 ≤ (ji5)
 ·
  rw [if_pos c6] at H;have c6b0 := decide_eq_true c6;clear c6
  by_cases c7 : (ji5) < (l0.length : Int)
  ·
   rw [if_pos c7] at H;have c7b0 := decide_eq_true c7;clear c7;obtain ⟨ji8, hji8⟩ : ∃ j_ : Int, (wrap64 ((ji5) - 1)) = j_ := ⟨_, rfl⟩
   first | rw [hji8] at H | simp only [hji8] at H
   have hji8w : (IntKind.i64.wrap ((ji5) - 1)) = ji8 := (i64_w _).trans hji8
   by_cases c9 : 0 ≤ (ji8)
   ·
    rw [if_pos c9] at H;have c9b0 := decide_eq_true c9;clear c9
    by_cases c10 : (ji8) < (l0.length : Int)
    ·
     rw [if_pos c10] at H;have c10b0 := decide_eq_true c10;clear c10
     by_cases c11 : a3 = 0
     ·
      rw [if_pos c11] at H;exact absurd H (by simp)
     ·
      rw [if_neg c11] at H;have c11b0 : (a3 == 0) = false := beq_eq_false_iff_ne.mpr c11;have c11b1 : (a3 != 0) = true := bne_iff_ne.mpr c11;obtain ⟨ji12, hji12⟩ : ∃ j_ : Int, (mn (IntKind.u64.wrap (Int.tdiv (Go.bits .or .u64 (IntKind.u64.wrap ((IntKind.u64.wrap (rd l0 (ji5))) * 4294967296)) (IntKind.u64.wrap (rd l0 (ji8)))) a3)) 4294967295) = j_ := ⟨_, rfl⟩
      first | rw [hji12] at H | simp only [hji12] at H
      have hji12_ : (if 4294967295 < (IntKind.u64.wrap (Int.tdiv (Go.bits .or .u64 (IntKind.u64.wrap ((IntKind.u64.wrap (rd l0 (ji5))) * 4294967296)) (IntKind.u64.wrap (rd l0 (ji8)))) a3)) then 4294967295 else (IntKind.u64.wrap (Int.tdiv (Go.bits .or .u64 (IntKind.u64.wrap ((IntKind.u64.wrap (rd l0 (ji5))) * 4294967296)) (IntKind.u64.wrap (rd l0 (ji8)))) a3))) = ji12 := hji12
      by_cases c13 : 0 ≤ a2
      ·
       rw [if_pos c13] at H;have c13b0 := eq_true c13;have c13b1 := decide_eq_true c13;clear c13
       by_cases c14 : a2 ≤ (wrap64 ((ji5) + 1))
       ·
        rw [if_pos c14] at H;have c14b0 := eq_true c14;have c14b1 : decide (a2 ≤ (wrap64 ((ji5) + 1))) = true := decide_eq_true c14
        by_cases c15 : (wrap64 ((ji5) + 1)) ≤ (l0.length : Int)
        ·
         rw [if_pos c15] at H;have c15b0 := eq_true c15;have c15b1 : decide ((wrap64 ((ji5) + 1)) ≤ (l0.length : Int)) = true := decide_eq_true c15;obtain ⟨y271, hy_⟩ : ∃ y_ : List Int, y_ = ((l0.take ((wrap64 ((ji5) + 1)) : Int).toNat).drop (a2 : Int).toNat) := ⟨_, rfl⟩
         replace H : ((nat_limbs_uint32.f y271).bind fun t275 => ((nat_step.f k l1 (ji12) 0).bind fun t278 => (nat_guess.l0 k l0 l1 a2 ji12 t275 t278))) = some (r1, r2) := RH_
         have Ny271 := A_ hy_;clear hy_;replace H := BE_ H;obtain ⟨t275, A160, H⟩ := H;have A16 := A_ A160;clear A160;replace H := BE_ H;obtain ⟨t278, A170, H⟩ := H;have A17 := A_ A170;clear A170;have H' := A_ H;clear H;obtain ⟨Ao18, co18, eo18⟩ := Kd.R_slice HO0.out;subst eo18;have p269 : 0 ≤ ((ji5) : Int) := DA_;have q269 : (ji5) < (l0.length : Int) := DA_;obtain ⟨ad269, e269, hx269_0⟩ := Kd.at_int (Kd.R_reads' HO0.out).2.2 (ji5) p269 q269
         cases e269
         replace p269 := eq_true p269;replace q269 := eq_true q269;have p270 : 0 ≤ ((ji8) : Int) := DA_;have q270 : (ji8) < (l0.length : Int) := DA_;obtain ⟨ad270, e270, hx270_0⟩ := Kd.at_int (Kd.R_reads' HO0.out).2.2 (ji8) p270 q270;obtain rfl : ad269 = ad270 := (by injection e270);replace p270 := eq_true p270;replace q270 := eq_true q270;have q19 : ((wrap64 ((ji5) + 1)) : Int) ≤ ((l0.length : Int) : Int) := DA_;obtain ⟨i019, hi019, _, hsz19, _⟩ := info_parts info115;have hroom19 : l0.length ≤ co18 := (Kd.R_reads' HO0.out).2.1;have hC19 : Kd.C (Kd.int .u32) _ (some ad269) l0.length l0 := (Kd.R_reads' HO0.out).2.2;have ql19 : (a2 : Int) ≤ ((wrap64 ((ji5) + 1)) : Int) := DA_;have q019 : (0 : Int) ≤ (a2 : Int) := DA_;have hcut19 := cut_mid (P := Tryz.prog) 131 115 .i64 .i64 Tryz.underlying131 hi019 1 hsz19 (some ad269) l0.length co18 a2 (wrap64 ((ji5) + 1)) q019 ql19 q19 hroom19;have hr19 := Kd.C_mid (lo := (a2 : Int).toNat) (hi := ((wrap64 ((ji5) + 1)) : Int).toNat) (c := co18) hC19 (by omega) (by omega) hroom19;obtain ⟨A19, hA19⟩ : ∃ A1, A1 = (if co18 = (a2 : Int).toNat then (some ad269) else ((some ad269) : Option Addr).map (·.add ((a2 : Int).toNat * 1))) := ⟨_, rfl⟩;obtain ⟨c19, hc19⟩ : ∃ c1, c1 = co18 - (a2 : Int).toNat := ⟨_, rfl⟩;have hy19 : y271.length = ((wrap64 ((ji5) + 1)) : Int).toNat - (a2 : Int).toNat := (by rw [Ny271.out, List.length_drop, List.length_take] <;> omega);rw [show ((l0).take ((wrap64 ((ji5) + 1)) : Int).toNat).drop (a2 : Int).toNat = y271 from Ny271.out.symm] at hr19;replace hr19 : Kd.C (Kd.int .u32) _ A19 y271.length y271 := (by rw [hA19]; exact hr19);rw [← hy19, ← hA19, ← hc19] at hcut19;have HR274 := A_ hr19;have HC274 := A_ (show y271.length ≤ c19 from by rw [hy19, hc19]; exact Nat.sub_le_sub_right (Nat.le_trans (by omega) hroom19) _);clear hr19 hC19 hroom19 hi019 hsz19 hc19;have KY19 := A_ hy19;have KA19 := A_ hA19;clear hy19 hA19;have KL19 := A_ (show ((wrap64 ((ji5) + 1)) : Int).toNat ≤ l0.length from by omega);have KM19 := A_ (show (a2 : Int).toNat ≤ ((wrap64 ((ji5) + 1)) : Int).toNat from by omega);replace q19 := eq_true q19;go_enter Tryz.func140, Tryz.ntmps140
         iterate 3 ((try go_wp2_with (first | (go_at_call 141; (with_reducible refine (nat_limbs_uint32.calls _ _ y271 t275 _ ?side1 ?side2 A16.out).mono ?_); (case side1 => repeat (first | exact (by repeat (first | (with_reducible exact HR274.out) | (with_reducible refine Kd.C_alloc ?_ _) | (with_reducible refine Kd.C_drewN ?_ _) | (with_reducible refine Kd.C_drew ?_) | exact HR274.out)) | (with_reducible refine Kd.C_alloc ?_ _) | (with_reducible refine Kd.C_drewN ?_ _) | (with_reducible refine Kd.C_drew ?_))); (case side2 => exact HC274.out); rintro e w20 ⟨v276, rfl, ho0, hb⟩; have HO277 := A_ (Kd.R_lower (Kd.R_new' (Kd.R_newM (M := fun k_ => (P0_ k_ ∨ w.heap.size ≤ k_)) ho0 (KM_ HK).1 (fun k_ h_ => .inr h_)) (Kd.R_lt (K1_ HO0))) (below_size T1_)); replace HO0 := A_ (Kd.R_elder' (K1_ HO0) (Kd.R_base ho0) hb); replace HR274 := A_ (Kd.C_below (by repeat (first | (with_reducible exact HR274.out) | (with_reducible refine Kd.C_alloc ?_ _) | (with_reducible refine Kd.C_drewN ?_ _) | (with_reducible refine Kd.C_drew ?_) | exact HR274.out)) hb); replace HK := A_ (Kept.below (S := (fun k_ => P0_ k_)) T5_ hb); replace HB := BS_ hb; clear hb ho0) | (go_at_call 155; (with_reducible refine (nat_step.calls k _ _ l1 ji12 0 t278 _ (Kd.C_kept_now HR1.out T5_) HC1.out A17.out).mono ?_); rintro e w21 ⟨v279, rfl, ho0, hb⟩; have HO280 := A_ (Kd.R_lower (Kd.R_new' (Kd.R_new' (Kd.R_newM (M := fun k_ => (P0_ k_ ∨ w.heap.size ≤ k_)) ho0 (KM_ HK).1 (fun k_ h_ => .inr h_)) (Kd.R_lt (K1_ HO0))) (Kd.R_lt (K1_ HO277))) (below_size T1_)); replace HO0 := A_ (Kd.R_elder' (K1_ HO0) (Kd.R_base ho0) hb); replace HO277 := A_ (Kd.R_elder' (K1_ HO277) (Kd.R_base ho0) hb); replace HR274 := A_ (Kd.C_below (by repeat (first | (with_reducible exact HR274.out) | (with_reducible refine Kd.C_alloc ?_ _) | (with_reducible refine Kd.C_drewN ?_ _) | (with_reducible refine Kd.C_drew ?_) | exact HR274.out)) hb); replace HK := A_ (Kept.below (S := (fun k_ => P0_ k_)) T5_ hb); replace HB := BS_ hb; clear hb ho0))); (try go_quiet (first | (go_at_call 141; (with_reducible refine (nat_limbs_uint32.calls _ _ y271 t275 _ ?side1 ?side2 A16.out).mono ?_); (case side1 => repeat (first | exact (by repeat (first | (with_reducible exact HR274.out) | (with_reducible refine Kd.C_alloc ?_ _) | (with_reducible refine Kd.C_drewN ?_ _) | (with_reducible refine Kd.C_drew ?_) | exact HR274.out)) | (with_reducible refine Kd.C_alloc ?_ _) | (with_reducible refine Kd.C_drewN ?_ _) | (with_reducible refine Kd.C_drew ?_))); (case side2 => exact HC274.out); rintro e w20 ⟨v276, rfl, ho0, hb⟩; have HO277 := A_ (Kd.R_lower (Kd.R_new' (Kd.R_newM (M := fun k_ => (P0_ k_ ∨ w.heap.size ≤ k_)) ho0 (KM_ HK).1 (fun k_ h_ => .inr h_)) (Kd.R_lt (K1_ HO0))) (below_size T1_)); replace HO0 := A_ (Kd.R_elder' (K1_ HO0) (Kd.R_base ho0) hb); replace HR274 := A_ (Kd.C_below (by repeat (first | (with_reducible exact HR274.out) | (with_reducible refine Kd.C_alloc ?_ _) | (with_reducible refine Kd.C_drewN ?_ _) | (with_reducible refine Kd.C_drew ?_) | exact HR274.out)) hb); replace HK := A_ (Kept.below (S := (fun k_ => P0_ k_)) T5_ hb); replace HB := BS_ hb; clear hb ho0) | (go_at_call 155; (with_reducible refine (nat_step.calls k _ _ l1 ji12 0 t278 _ (Kd.C_kept_now HR1.out T5_) HC1.out A17.out).mono ?_); rintro e w21 ⟨v279, rfl, ho0, hb⟩; have HO280 := A_ (Kd.R_lower (Kd.R_new' (Kd.R_new' (Kd.R_newM (M := fun k_ => (P0_ k_ ∨ w.heap.size ≤ k_)) ho0 (KM_ HK).1 (fun k_ h_ => .inr h_)) (Kd.R_lt (K1_ HO0))) (Kd.R_lt (K1_ HO277))) (below_size T1_)); replace HO0 := A_ (Kd.R_elder' (K1_ HO0) (Kd.R_base ho0) hb); replace HO277 := A_ (Kd.R_elder' (K1_ HO277) (Kd.R_base ho0) hb); replace HR274 := A_ (Kd.C_below (by repeat (first | (with_reducible exact HR274.out) | (with_reducible refine Kd.C_alloc ?_ _) | (with_reducible refine Kd.C_drewN ?_ _) | (with_reducible refine Kd.C_drew ?_) | exact HR274.out)) hb); replace HK := A_ (Kept.below (S := (fun k_ => P0_ k_)) T5_ hb); replace HB := BS_ hb; clear hb ho0))))
         go_loopg [11, 13] k (fun kq v11 v13 w' => ∃ (x11_1 : Int) (x13_1 : List Int), v11 = .int .u64 x11_1 ∧ Aside0 (nat_guess.l0 kq l0 l1 a2 x11_1 t275 x13_1 = some (r1, r2)) ∧ Aside0 (kq ≤ k) ∧ Aside0 (Kd.R (Kd.int .u32) 115 w' w0.heap.size (fun k_ => (P0_ k_ ∨ w.heap.size ≤ k_) ∧ some k_ ≠ (v276 : Value).ownBlock ∧ some k_ ≠ (v13 : Value).ownBlock) (.slice (some ad269) l0.length co18) l0) ∧ Aside0 (Kd.R (Kd.int .u32) 115 w' w0.heap.size (fun k_ => (P0_ k_ ∨ w.heap.size ≤ k_) ∧ some k_ ≠ ((.slice (some ad269) l0.length co18) : Value).ownBlock ∧ some k_ ≠ (v13 : Value).ownBlock) v276 t275) ∧ Aside0 (Kd.R (Kd.int .u32) 115 w' w0.heap.size (fun k_ => (P0_ k_ ∨ w.heap.size ≤ k_) ∧ some k_ ≠ ((.slice (some ad269) l0.length co18) : Value).ownBlock ∧ some k_ ≠ (v276 : Value).ownBlock) v13 x13_1) ∧ Aside0 (Kept w w' (fun k_ => P0_ k_)) ∧ Aside0 (Below w0.heap.size w0 w'))
         case atStart => exact ⟨(ji12), (t278), (by first | rfl | (simp; done) | (simp only [← hji12] <;> (first | rfl | simp)) | (simp [*]; done)), H', ⟨Nat.le_refl _⟩, ⟨by (with_reducible repeat (first | apply Kd.R_alloc | apply Kd.R_drewN | apply Kd.R_drew)); exact Kd.R_mono HO0.out (fun _ hk => ⟨hk.1.1, ⟨hk.1.2, hk.2⟩⟩)⟩, ⟨by (with_reducible repeat (first | apply Kd.R_alloc | apply Kd.R_drewN | apply Kd.R_drew)); exact Kd.R_mono HO277.out (fun _ hk => ⟨hk.1.1.1, ⟨hk.1.2, hk.2⟩⟩)⟩, ⟨by (with_reducible repeat (first | apply Kd.R_alloc | apply Kd.R_drewN | apply Kd.R_drew)); exact Kd.R_mono HO280.out (fun _ hk => ⟨hk.1.1.1, ⟨hk.1.2, hk.2⟩⟩)⟩, ⟨by repeat (first | (with_reducible first | exact HK.out | apply Kept.alloc | apply Kept.drewN | apply Kept.drew) | exact HK.out)⟩, ⟨T1_⟩⟩
         case round =>
          clear H'
          try clear c1
          try clear c6
          try clear c6b0
          try clear c7
          try clear c7b0
          try clear c9
          try clear c9b0
          try clear c10
          try clear c10b0
          try clear c11
          try clear c11b0
          try clear c11b1
          try clear c13
          try clear c13b0
          try clear c13b1
          try clear c14
          try clear c14b0
          try clear c14b1
          try clear c15
          try clear c15b0
          try clear c15b1
          try clear c19
          try clear q19
          try clear hx269_0
          try clear hx270_0
          try clear p269
          try clear p270
          try clear q019
          try clear q19
          try clear q269
          try clear q270
          obtain ⟨x11_1, x13_1, rfl, HA, HK1, HO_0, HO_12, HO_13, HK, HB⟩ := hrel
          cases gk with
          | zero => exact absurd HA.out (by simp [nat_guess.l0])
          | succ k1 =>
           have H := HA.out;clear HA;simp only [nat_guess.l0] at H;replace H := BE_ H;obtain ⟨t281, A220, H⟩ := H;have A22 := A_ A220;clear A220;replace H := BE_ H;obtain ⟨t284, A230, H⟩ := H;have A23 := A_ A230;clear A230;replace H := BE_ H;obtain ⟨t287, A240, H⟩ := H;have A24 := A_ A240;clear A240
           by_cases c25 : t287 > 0
           ·
            rw [if_pos c25] at H;have c25b0 : decide (0 < t287) = true := decide_eq_true c25;clear c25;replace H := BE_ H;obtain ⟨t288, A260, H⟩ := H;have A26 := A_ A260;clear A260;have H' := A_ H;clear H;obtain ⟨Ao27, co27, eo27⟩ := Kd.R_slice HO_12.out;subst eo27
            iterate 3 ((try go_wp2_with (first | (go_at_call 141; (with_reducible refine (nat_limbs_uint32.calls _ _ t275 t281 _ (C1_ (Kd.R_reads' HO_12.out).2.2) ((Kd.R_reads' HO_12.out).2.1) A22.out).mono ?_); rintro e w28 ⟨v282, rfl, ho0, hb⟩; have HO283 := A_ (Kd.R_lower (Kd.R_new' (Kd.R_new' (Kd.R_new' (Kd.R_newM (M := fun k_ => (P0_ k_ ∨ w.heap.size ≤ k_)) ho0 (KM_ HK).1 (fun k_ h_ => .inr h_)) (Kd.R_lt (K1_ HO_0))) (Kd.R_lt (K1_ HO_12))) (Kd.R_lt (K1_ HO_13))) (below_size T1_)); replace HO_0 := A_ (Kd.R_elder' (K1_ HO_0) (Kd.R_base ho0) hb); replace HO_12 := A_ (Kd.R_elder' (K1_ HO_12) (Kd.R_base ho0) hb); replace HO_13 := A_ (Kd.R_elder' (K1_ HO_13) (Kd.R_base ho0) hb); replace HK := A_ (Kept.below (S := (fun k_ => P0_ k_)) T5_ hb); replace HB := BS_ hb; clear hb ho0; obtain ⟨Ao29, co29, eo29⟩ := Kd.R_slice HO283.out; subst eo29) | (go_at_call 135; (with_reducible refine (nat_trim.calls k1 (fun k_ => some k_ = (.slice Ao29 t281.length co29 : Value).ownBlock) (.slice Ao29 t281.length co29) t281 t284 w0 _ ?side1 ?side2 A23.out).mono ?_); (case side1 => repeat (first | (with_reducible first | exact HB.out | apply below_alloc | apply pw_below_drewN | apply below_drew1) | exact HB.out)); (case side2 => exact Kd.R_tight rfl HO283.out); rintro e w30 ⟨v285, rfl, ho0, hb, hkp⟩; have n0_ := A_ (Kd.R_mono (ok' := fun k_ => (P0_ k_ ∨ w.heap.size ≤ k_) ∧ some k_ ≠ (.slice Ao27 t275.length co27 : Value).ownBlock ∧ some k_ ≠ (u13 : Value).ownBlock ∧ some k_ ≠ (v285 : Value).ownBlock) (Kd.R_keptB (HO_0.out) hkp (fun k_ hk_ hs_ => (hk_.2) hs_)) (fun k_ hk_ => ⟨hk_.1.1.1, hk_.1.1.2.1, hk_.1.1.2.2, fun e_ => Or.elim (ho0.1 k_ e_.symm) (fun hs_ => hk_.2.1 hs_) (fun hn_ => Nat.not_le.2 hk_.2.2 hn_)⟩)); have n1_ := A_ (Kd.R_mono (ok' := fun k_ => (P0_ k_ ∨ w.heap.size ≤ k_) ∧ some k_ ≠ (.slice (some ad269) l0.length co18 : Value).ownBlock ∧ some k_ ≠ (u13 : Value).ownBlock ∧ some k_ ≠ (v285 : Value).ownBlock) (Kd.R_keptB (HO_12.out) hkp (fun k_ hk_ hs_ => (hk_.2) hs_)) (fun k_ hk_ => ⟨hk_.1.1.1, hk_.1.1.2.1, hk_.1.1.2.2, fun e_ => Or.elim (ho0.1 k_ e_.symm) (fun hs_ => hk_.2.1 hs_) (fun hn_ => Nat.not_le.2 hk_.2.2 hn_)⟩)); have n2_ := A_ (Kd.R_mono (ok' := fun k_ => (P0_ k_ ∨ w.heap.size ≤ k_) ∧ some k_ ≠ (.slice (some ad269) l0.length co18 : Value).ownBlock ∧ some k_ ≠ (.slice Ao27 t275.length co27 : Value).ownBlock ∧ some k_ ≠ (v285 : Value).ownBlock) (Kd.R_keptB (HO_13.out) hkp (fun k_ hk_ hs_ => (hk_.2) hs_)) (fun k_ hk_ => ⟨hk_.1.1.1, hk_.1.1.2.1, hk_.1.1.2.2, fun e_ => Or.elim (ho0.1 k_ e_.symm) (fun hs_ => hk_.2.1 hs_) (fun hn_ => Nat.not_le.2 hk_.2.2 hn_)⟩)); have n3_ := A_ (Kd.R_mono (ok' := fun k_ => (P0_ k_ ∨ w.heap.size ≤ k_) ∧ some k_ ≠ (.slice (some ad269) l0.length co18 : Value).ownBlock ∧ some k_ ≠ (.slice Ao27 t275.length co27 : Value).ownBlock ∧ some k_ ≠ (u13 : Value).ownBlock) ho0 (fun k_ hk_ => ⟨Or.elim hk_ (fun hs_ => (HO283.out.1 k_ (hs_).symm).1.1.1.1) (fun hn_ => (.inr (Nat.le_trans (KM_ HK).1 hn_))), Or.elim hk_ (fun hs_ => fun e_ => (((HO_0.out).1 k_ e_.symm).2) hs_) (fun hn_ => (Kd.fresh' (Kd.R_lt (K1_ HO_0)) k_ hn_)), Or.elim hk_ (fun hs_ => fun e_ => (((HO_12.out).1 k_ e_.symm).2) hs_) (fun hn_ => (Kd.fresh' (Kd.R_lt (K1_ HO_12)) k_ hn_)), Or.elim hk_ (fun hs_ => fun e_ => (((HO_13.out).1 k_ e_.symm).2) hs_) (fun hn_ => (Kd.fresh' (Kd.R_lt (K1_ HO_13)) k_ hn_))⟩)); have n4_ := A_ (Kept.then_ (S := (fun k_ => P0_ k_)) T5_ hkp (fun k_ hs_ => (fun e_ => (HO283.out.1 k_ e_.symm).1.1.1.1) hs_)); have n5_ := A_ (hb); clear HO_0; clear HO_12; clear HO_13; clear HK; clear HB; clear HO283; have HO_0 := n0_; have HO_12 := n1_; have HO_13 := n2_; have HO286 := n3_; have HK := n4_; have HB := n5_; clear n0_ n1_ n2_ n3_ n4_ n5_; clear hb hkp ho0; obtain ⟨Ao31, co31, eo31⟩ := Kd.R_slice HO_13.out; subst eo31; obtain ⟨Ao32, co32, eo32⟩ := Kd.R_slice HO286.out; subst eo32) | (go_at_call 137; (with_reducible refine (nat_compare.calls k1 _ _ x13_1 _ _ t284 t287 _ (C1_ (Kd.R_reads' HO_13.out).2.2) ((Kd.R_reads' HO_13.out).2.1) (C1_ (Kd.R_reads' HO286.out).2.2) ((Kd.R_reads' HO286.out).2.1) A24.out).mono ?_); rintro e w' ⟨rfl, ⟨nd, rfl⟩⟩; (try first | exact ⟨rfl, _, World.drewN_drewN _ _ _⟩ | exact ⟨rfl, _, Eq.trans (World.drewN_drewN _ _ _) (congrArg (World.drewN _) (Nat.add_assoc _ _ _))⟩)) | (go_at_call 145; (with_reducible refine (nat_sub.calls k1 _ _ x13_1 _ _ l1 t288 _ (C1_ (Kd.R_reads' HO_13.out).2.2) ((Kd.R_reads' HO_13.out).2.1) (Kd.C_kept_now HR1.out T5_) HC1.out A26.out).mono ?_); rintro e w33 ⟨v289, rfl, ho0, hb⟩; have HO290 := A_ (Kd.R_lower (Kd.R_new' (Kd.R_new' (Kd.R_new' (Kd.R_new' (Kd.R_newM (M := fun k_ => (P0_ k_ ∨ w.heap.size ≤ k_)) ho0 (KM_ HK).1 (fun k_ h_ => .inr h_)) (Kd.R_lt (K1_ HO_0))) (Kd.R_lt (K1_ HO_12))) (Kd.R_lt (K1_ HO_13))) (Kd.R_lt (K1_ HO286))) (below_size T1_)); replace HO_0 := A_ (Kd.R_elder' (K1_ HO_0) (Kd.R_base ho0) hb); replace HO_12 := A_ (Kd.R_elder' (K1_ HO_12) (Kd.R_base ho0) hb); replace HO_13 := A_ (Kd.R_elder' (K1_ HO_13) (Kd.R_base ho0) hb); replace HO286 := A_ (Kd.R_elder' (K1_ HO286) (Kd.R_base ho0) hb); replace HK := A_ (Kept.below (S := (fun k_ => P0_ k_)) T5_ hb); replace HB := BS_ hb; clear hb ho0))); (try go_quiet (first | (go_at_call 137; (with_reducible refine (nat_compare.calls k1 _ _ x13_1 _ _ t284 t287 _ (C1_ (Kd.R_reads' HO_13.out).2.2) ((Kd.R_reads' HO_13.out).2.1) (C1_ (Kd.R_reads' HO286.out).2.2) ((Kd.R_reads' HO286.out).2.1) A24.out).mono ?_); rintro e w' ⟨rfl, ⟨nd, rfl⟩⟩; (try first | exact ⟨rfl, _, World.drewN_drewN _ _ _⟩ | exact ⟨rfl, _, Eq.trans (World.drewN_drewN _ _ _) (congrArg (World.drewN _) (Nat.add_assoc _ _ _))⟩)))))
            go_roundg k1
            case measure => have := HK1.out; omega
            case rel => exact ⟨(IntKind.u64.wrap (x11_1 - 1)), (t288), S1_, H', ⟨by have := HK1.out; omega⟩, ⟨by (with_reducible repeat (first | apply Kd.R_alloc | apply Kd.R_drewN | apply Kd.R_drew)); exact Kd.R_mono HO_0.out (fun _ hk => ⟨hk.1.1, ⟨hk.1.2.1, hk.2⟩⟩)⟩, ⟨by (with_reducible repeat (first | apply Kd.R_alloc | apply Kd.R_drewN | apply Kd.R_drew)); exact Kd.R_mono HO_12.out (fun _ hk => ⟨hk.1.1, ⟨hk.1.2.1, hk.2⟩⟩)⟩, ⟨by (with_reducible repeat (first | apply Kd.R_alloc | apply Kd.R_drewN | apply Kd.R_drew)); exact Kd.R_mono HO290.out (fun _ hk => ⟨hk.1.1.1.1.1, ⟨hk.1.1.1.2, hk.1.1.2⟩⟩)⟩, ⟨by repeat (first | (with_reducible first | exact HK.out | apply Kept.alloc | apply Kept.drewN | apply Kept.drew) | exact HK.out)⟩, ⟨T1_⟩⟩
           ·
            rw [if_neg c25] at H;have c25b0 : decide (0 < t287) = false := decide_eq_false c25;clear c25;replace H := BE_ H;obtain ⟨t291, A340, H⟩ := H;have A34 := A_ A340;clear A340;have H' := A_ H;clear H;obtain ⟨Ao35, co35, eo35⟩ := Kd.R_slice HO_12.out;subst eo35
            iterate 3 ((try go_wp2_with (first | (go_at_call 141; (with_reducible refine (nat_limbs_uint32.calls _ _ t275 t281 _ (C1_ (Kd.R_reads' HO_12.out).2.2) ((Kd.R_reads' HO_12.out).2.1) A22.out).mono ?_); rintro e w36 ⟨v282, rfl, ho0, hb⟩; have HO283 := A_ (Kd.R_lower (Kd.R_new' (Kd.R_new' (Kd.R_new' (Kd.R_newM (M := fun k_ => (P0_ k_ ∨ w.heap.size ≤ k_)) ho0 (KM_ HK).1 (fun k_ h_ => .inr h_)) (Kd.R_lt (K1_ HO_0))) (Kd.R_lt (K1_ HO_12))) (Kd.R_lt (K1_ HO_13))) (below_size T1_)); replace HO_0 := A_ (Kd.R_elder' (K1_ HO_0) (Kd.R_base ho0) hb); replace HO_12 := A_ (Kd.R_elder' (K1_ HO_12) (Kd.R_base ho0) hb); replace HO_13 := A_ (Kd.R_elder' (K1_ HO_13) (Kd.R_base ho0) hb); replace HK := A_ (Kept.below (S := (fun k_ => P0_ k_)) T5_ hb); replace HB := BS_ hb; clear hb ho0; obtain ⟨Ao37, co37, eo37⟩ := Kd.R_slice HO283.out; subst eo37) | (go_at_call 135; (with_reducible refine (nat_trim.calls k1 (fun k_ => some k_ = (.slice Ao37 t281.length co37 : Value).ownBlock) (.slice Ao37 t281.length co37) t281 t284 w0 _ ?side1 ?side2 A23.out).mono ?_); (case side1 => repeat (first | (with_reducible first | exact HB.out | apply below_alloc | apply pw_below_drewN | apply below_drew1) | exact HB.out)); (case side2 => exact Kd.R_tight rfl HO283.out); rintro e w38 ⟨v285, rfl, ho0, hb, hkp⟩; have n0_ := A_ (Kd.R_mono (ok' := fun k_ => (P0_ k_ ∨ w.heap.size ≤ k_) ∧ some k_ ≠ (.slice Ao35 t275.length co35 : Value).ownBlock ∧ some k_ ≠ (u13 : Value).ownBlock ∧ some k_ ≠ (v285 : Value).ownBlock) (Kd.R_keptB (HO_0.out) hkp (fun k_ hk_ hs_ => (hk_.2) hs_)) (fun k_ hk_ => ⟨hk_.1.1.1, hk_.1.1.2.1, hk_.1.1.2.2, fun e_ => Or.elim (ho0.1 k_ e_.symm) (fun hs_ => hk_.2.1 hs_) (fun hn_ => Nat.not_le.2 hk_.2.2 hn_)⟩)); have n1_ := A_ (Kd.R_mono (ok' := fun k_ => (P0_ k_ ∨ w.heap.size ≤ k_) ∧ some k_ ≠ (.slice (some ad269) l0.length co18 : Value).ownBlock ∧ some k_ ≠ (u13 : Value).ownBlock ∧ some k_ ≠ (v285 : Value).ownBlock) (Kd.R_keptB (HO_12.out) hkp (fun k_ hk_ hs_ => (hk_.2) hs_)) (fun k_ hk_ => ⟨hk_.1.1.1, hk_.1.1.2.1, hk_.1.1.2.2, fun e_ => Or.elim (ho0.1 k_ e_.symm) (fun hs_ => hk_.2.1 hs_) (fun hn_ => Nat.not_le.2 hk_.2.2 hn_)⟩)); have n2_ := A_ (Kd.R_mono (ok' := fun k_ => (P0_ k_ ∨ w.heap.size ≤ k_) ∧ some k_ ≠ (.slice (some ad269) l0.length co18 : Value).ownBlock ∧ some k_ ≠ (.slice Ao35 t275.length co35 : Value).ownBlock ∧ some k_ ≠ (v285 : Value).ownBlock) (Kd.R_keptB (HO_13.out) hkp (fun k_ hk_ hs_ => (hk_.2) hs_)) (fun k_ hk_ => ⟨hk_.1.1.1, hk_.1.1.2.1, hk_.1.1.2.2, fun e_ => Or.elim (ho0.1 k_ e_.symm) (fun hs_ => hk_.2.1 hs_) (fun hn_ => Nat.not_le.2 hk_.2.2 hn_)⟩)); have n3_ := A_ (Kd.R_mono (ok' := fun k_ => (P0_ k_ ∨ w.heap.size ≤ k_) ∧ some k_ ≠ (.slice (some ad269) l0.length co18 : Value).ownBlock ∧ some k_ ≠ (.slice Ao35 t275.length co35 : Value).ownBlock ∧ some k_ ≠ (u13 : Value).ownBlock) ho0 (fun k_ hk_ => ⟨Or.elim hk_ (fun hs_ => (HO283.out.1 k_ (hs_).symm).1.1.1.1) (fun hn_ => (.inr (Nat.le_trans (KM_ HK).1 hn_))), Or.elim hk_ (fun hs_ => fun e_ => (((HO_0.out).1 k_ e_.symm).2) hs_) (fun hn_ => (Kd.fresh' (Kd.R_lt (K1_ HO_0)) k_ hn_)), Or.elim hk_ (fun hs_ => fun e_ => (((HO_12.out).1 k_ e_.symm).2) hs_) (fun hn_ => (Kd.fresh' (Kd.R_lt (K1_ HO_12)) k_ hn_)), Or.elim hk_ (fun hs_ => fun e_ => (((HO_13.out).1 k_ e_.symm).2) hs_) (fun hn_ => (Kd.fresh' (Kd.R_lt (K1_ HO_13)) k_ hn_))⟩)); have n4_ := A_ (Kept.then_ (S := (fun k_ => P0_ k_)) T5_ hkp (fun k_ hs_ => (fun e_ => (HO283.out.1 k_ e_.symm).1.1.1.1) hs_)); have n5_ := A_ (hb); clear HO_0; clear HO_12; clear HO_13; clear HK; clear HB; clear HO283; have HO_0 := n0_; have HO_12 := n1_; have HO_13 := n2_; have HO286 := n3_; have HK := n4_; have HB := n5_; clear n0_ n1_ n2_ n3_ n4_ n5_; clear hb hkp ho0; obtain ⟨Ao39, co39, eo39⟩ := Kd.R_slice HO_13.out; subst eo39; obtain ⟨Ao40, co40, eo40⟩ := Kd.R_slice HO286.out; subst eo40) | (go_at_call 137; (with_reducible refine (nat_compare.calls k1 _ _ x13_1 _ _ t284 t287 _ (C1_ (Kd.R_reads' HO_13.out).2.2) ((Kd.R_reads' HO_13.out).2.1) (C1_ (Kd.R_reads' HO286.out).2.2) ((Kd.R_reads' HO286.out).2.1) A24.out).mono ?_); rintro e w' ⟨rfl, ⟨nd, rfl⟩⟩; (try first | exact ⟨rfl, _, World.drewN_drewN _ _ _⟩ | exact ⟨rfl, _, Eq.trans (World.drewN_drewN _ _ _) (congrArg (World.drewN _) (Nat.add_assoc _ _ _))⟩)) | (go_at_call 145; (with_reducible refine (nat_sub.calls k1 _ _ t275 _ _ x13_1 t291 _ (C1_ (Kd.R_reads' HO_12.out).2.2) ((Kd.R_reads' HO_12.out).2.1) (C1_ (Kd.R_reads' HO_13.out).2.2) ((Kd.R_reads' HO_13.out).2.1) A34.out).mono ?_); rintro e w41 ⟨v292, rfl, ho0, hb⟩; have HO293 := A_ (Kd.R_lower (Kd.R_new' (Kd.R_new' (Kd.R_new' (Kd.R_new' (Kd.R_newM (M := fun k_ => (P0_ k_ ∨ w.heap.size ≤ k_)) ho0 (KM_ HK).1 (fun k_ h_ => .inr h_)) (Kd.R_lt (K1_ HO_0))) (Kd.R_lt (K1_ HO_12))) (Kd.R_lt (K1_ HO_13))) (Kd.R_lt (K1_ HO286))) (below_size T1_)); replace HO_0 := A_ (Kd.R_elder' (K1_ HO_0) (Kd.R_base ho0) hb); replace HO_12 := A_ (Kd.R_elder' (K1_ HO_12) (Kd.R_base ho0) hb); replace HO_13 := A_ (Kd.R_elder' (K1_ HO_13) (Kd.R_base ho0) hb); replace HO286 := A_ (Kd.R_elder' (K1_ HO286) (Kd.R_base ho0) hb); replace HK := A_ (Kept.below (S := (fun k_ => P0_ k_)) T5_ hb); replace HB := BS_ hb; clear hb ho0))); (try go_quiet (first | (go_at_call 137; (with_reducible refine (nat_compare.calls k1 _ _ x13_1 _ _ t284 t287 _ (C1_ (Kd.R_reads' HO_13.out).2.2) ((Kd.R_reads' HO_13.out).2.1) (C1_ (Kd.R_reads' HO286.out).2.2) ((Kd.R_reads' HO286.out).2.1) A24.out).mono ?_); rintro e w' ⟨rfl, ⟨nd, rfl⟩⟩; (try first | exact ⟨rfl, _, World.drewN_drewN _ _ _⟩ | exact ⟨rfl, _, Eq.trans (World.drewN_drewN _ _ _) (congrArg (World.drewN _) (Nat.add_assoc _ _ _))⟩)))))
            go_loopg [66] k1 (fun kq v66 w' => ∃ (x0_2 : List Int) (x66_2 : Int), v66 = .int .i64 x66_2 ∧ Aside0 (nat_guess.l1 kq x0_2 a2 x11_1 t291 (t275.length : Int) x66_2 = some (r1, r2)) ∧ Aside0 (kq ≤ k1) ∧ Aside0 (Kd.R (Kd.int .u32) 115 w' w0.heap.size (fun k_ => (P0_ k_ ∨ w.heap.size ≤ k_) ∧ some k_ ≠ (v292 : Value).ownBlock) (.slice (some ad269) l0.length co18) x0_2) ∧ Aside0 (Kd.R (Kd.int .u32) 115 w' w0.heap.size (fun k_ => (P0_ k_ ∨ w.heap.size ≤ k_) ∧ some k_ ≠ ((.slice (some ad269) l0.length co18) : Value).ownBlock) v292 t291) ∧ Aside0 (Kept w w' (fun k_ => P0_ k_)) ∧ Aside0 (Below w0.heap.size w0 w'))
            case atStart => exact ⟨(l0), (0), S1_, H', ⟨Nat.le_refl _⟩, ⟨by (with_reducible repeat (first | apply Kd.R_alloc | apply Kd.R_drewN | apply Kd.R_drew)); exact Kd.R_mono HO_0.out (fun _ hk => ⟨hk.1.1, hk.2⟩)⟩, ⟨by (with_reducible repeat (first | apply Kd.R_alloc | apply Kd.R_drewN | apply Kd.R_drew)); exact Kd.R_mono HO293.out (fun _ hk => ⟨hk.1.1.1.1.1, hk.1.1.1.2⟩)⟩, ⟨by repeat (first | (with_reducible first | exact HK.out | apply Kept.alloc | apply Kept.drewN | apply Kept.drew) | exact HK.out)⟩, ⟨T1_⟩⟩
            case round =>
             clear H'
             try clear c1
             try clear c6
             try clear c6b0
             try clear c7
             try clear c7b0
             try clear c9
             try clear c9b0
             try clear c10
             try clear c10b0
             try clear c11
             try clear c11b0
             try clear c11b1
             try clear c13
             try clear c13b0
             try clear c13b1
             try clear c14
             try clear c14b0
             try clear c14b1
             try clear c15
             try clear c15b0
             try clear c15b1
             try clear c19
             try clear q19
             try clear c25
             try clear c25b0
             try clear hx269_0
             try clear hx270_0
             try clear p269
             try clear p270
             try clear q019
             try clear q19
             try clear q269
             try clear q270
             obtain ⟨x0_2, x66_2, rfl, HA, HK2, HO_0, HO_14, HK, HB⟩ := hrel;have hl0_2 := (Kd.R_reads' HO_0.out).1;rw [hl0_2] at HO_0
             (try simp only [hl0_2])
             (try simp only [hl0_2] at HO_14)
             cases gk with
             | zero => exact absurd HA.out (by simp [nat_guess.l1])
             | succ k2 =>
              have H := HA.out;clear HA;simp only [nat_guess.l1] at H
              by_cases c42 : x66_2 < (t275.length : Int)
              ·
               rw [if_pos c42] at H;have c42b0 := decide_eq_true c42
               (try (have c42b0h := c42b0; simp only [hl0_2] at c42b0h))
               clear c42;obtain ⟨ji43, hji43⟩ : ∃ j_ : Int, (wrap64 (a2 + x66_2)) = j_ := ⟨_, rfl⟩
               first | rw [hji43] at H | simp only [hji43] at H
               have hji43w : (IntKind.i64.wrap (a2 + x66_2)) = ji43 := (i64_w _).trans hji43
               by_cases c44 : 0 ≤ (ji43)
               ·
                rw [if_pos c44] at H;have c44b0 := decide_eq_true c44;clear c44
                by_cases c45 : (ji43) < (x0_2.length : Int)
                ·
                 rw [if_pos c45] at H;have c45b0 := decide_eq_true c45
                 (try (have c45b0h := c45b0; simp only [hl0_2] at c45b0h))
                 clear c45;obtain ⟨y294, hy_⟩ : ∃ y_ : List Int, y_ = (x0_2.set ((ji43) : Int).toNat 0) := ⟨_, rfl⟩
                 replace H : (if x66_2 < (t291.length : Int) then (if 0 ≤ x66_2 then (nat_guess.l1 k2 (y294.set ((ji43) : Int).toNat (rd t291 x66_2)) a2 x11_1 t291 (t275.length : Int) (wrap64 (x66_2 + 1))) else (none)) else (nat_guess.l1 k2 y294 a2 x11_1 t291 (t275.length : Int) (wrap64 (x66_2 + 1)))) = some (r1, r2) := RH_
                 have Ny294 := A_ hy_;clear hy_
                 by_cases c47 : x66_2 < (t291.length : Int)
                 ·
                  rw [if_pos c47] at H;have c47b0 := decide_eq_true c47
                  (try (have c47b0h := c47b0; simp only [hl0_2] at c47b0h))
                  clear c47
                  by_cases c48 : 0 ≤ x66_2
                  ·
                   rw [if_pos c48] at H;have c48b0 := decide_eq_true c48;clear c48;obtain ⟨y296, hy_⟩ : ∃ y_ : List Int, y_ = (y294.set ((ji43) : Int).toNat (rd t291 x66_2)) := ⟨_, rfl⟩
                   replace H : (nat_guess.l1 k2 y296 a2 x11_1 t291 (t275.length : Int) (wrap64 (x66_2 + 1))) = some (r1, r2) := RH_
                   have Ny296 := A_ hy_;clear hy_;have H' := A_ H;clear H;have p46 : 0 ≤ ((ji43) : Int) := DA_;have q46 : ((ji43) : Int) < ((x0_2.length : Int) : Int) := DA_;obtain ⟨go46, co46, eo46, gb46, gl46, cl46, HG46⟩ := Kd.R_form HO_0.out (by omega)
                   (first | cases eo46 | (injection eo46 with ea_ en_ ec_; (first | subst ea_ | (injection ea_ with ea_; subst ea_)); subst ec_; clear en_))
                   have GB46 := A_ gb46;have GG46 := A_ HG46;clear gb46 gl46 HG46;have HMgo46 := A_ (show (P0_ go46 ∨ w.heap.size ≤ go46) from (HO_0.out.1 _ rfl).1)
                   (first | simp only [add_plain] at hx269_0 | skip)
                   (first | simp only [add_plain] at hx270_0 | skip)
                   obtain ⟨hx46_0, hf46_0⟩ := Kd.R_celln 0 HO_0.out ((ji43) : Int) p46 q46;replace p46 := eq_true p46;replace q46 := eq_true q46;have HP50 := Kd.R_putg HO_0.out ((ji43) : Int) 0
                   iterate 3 ((try go_wp2_with (first | ((with_reducible refine gate_store (t := 115) (p := 73) rfl ?_); (try (rw [drewN_self wr]; generalize hq_ : World.drewN wr _ = wr; replace HO_0 := A_ (Kd.R_at hq_ HO_0.out); replace HO_14 := A_ (Kd.R_at hq_ HO_14.out); replace HK := A_ (kept_at hq_ HK.out); replace HB := A_ (below_at hq_ HB.out); clear hq_; (try (have HP50 := Kd.R_putg HO_0.out ((ji43) : Int) 0)))); refine store_event (t := 115) (p := 73) (v := ?vo_w51) (w1 := (wr.setCell ⟨go46, ((ji43) : Int).toNat, none⟩ (.int .u32 0))) ?hg ?ho ?hn ?hr ?_; (case ho => rfl); (case hg => rfl); (case hn => rfl); (case hr => exact T3_); intro w51 hw; have hg : wr.grownBy w51 (some go46) := (by rw [hw]; exact HP50.2); have hp_ : Kd.R (Kd.int .u32) 115 w51 w0.heap.size (fun k_ => (P0_ k_ ∨ w.heap.size ≤ k_) ∧ some k_ ≠ (v292 : Value).ownBlock) (.slice (some ⟨go46, 0, none⟩) x0_2.length co18) y294 := (by rw [hw, Ny294.out]; exact HP50.1); clear HP50; replace HO_14 := A_ (Kd.R_after (v := (.slice (some ⟨go46, 0, none⟩) x0_2.length co18)) (v1 := (.slice (some ⟨go46, 0, none⟩) x0_2.length co18)) (ok := (fun k_ => (P0_ k_ ∨ w.heap.size ≤ k_))) (K1_ HO_14) hg (.inl rfl)); replace HB := A_ ((by rw [hw]; exact below_set (HB.out) GB46.out : Below w0.heap.size w0 w51)); replace HK := A_ (Kept.of_grown (S := (fun k_ => P0_ k_)) hg T5_ (fun k_ e_ => (HO_0.out.1 k_ e_).1)); replace HO_0 := A_ (hp_); clear hg hw hp_; obtain ⟨Ao52, co52, eo52⟩ := Kd.R_slice HO_14.out; subst eo52; have p295 : 0 ≤ (x66_2 : Int) := DA_; have q295 : x66_2 < (t291.length : Int) := DA_; obtain ⟨ad295, e295, hx295_0⟩ := Kd.at_int (Kd.R_reads' HO_14.out).2.2 x66_2 p295 q295; cases e295; replace p295 := eq_true p295; replace q295 := eq_true q295; have p49 : 0 ≤ ((ji43) : Int) := DA_; have q49 : ((ji43) : Int) < ((x0_2.length : Int) : Int) := DA_; obtain ⟨hx49_0, hf49_0⟩ := Kd.R_celln 0 HO_0.out ((ji43) : Int) p49 q49; replace p49 := eq_true p49; replace q49 := eq_true q49; obtain ⟨hy53_, hz53_⟩ := Kd.R_celln 0 HO_0.out ((ji43) : Int) (DA_) (DA_); have HP53 := Kd.R_putg HO_0.out ((ji43) : Int) (rd t291 x66_2)) | ((with_reducible refine gate_store (t := 115) (p := 86) rfl ?_); (try (rw [drewN_self w51]; generalize hq_ : World.drewN w51 _ = w51; replace HO_0 := A_ (Kd.R_at hq_ HO_0.out); replace HO_14 := A_ (Kd.R_at hq_ HO_14.out); replace HK := A_ (kept_at hq_ HK.out); replace HB := A_ (below_at hq_ HB.out); clear hq_; (try (obtain ⟨hy53_, hz53_⟩ := Kd.R_celln 0 HO_0.out ((ji43) : Int) (DA_) (DA_))); (try (have HP53 := Kd.R_putg HO_0.out ((ji43) : Int) (rd t291 x66_2))))); refine store_event (t := 115) (p := 86) (v := ?vo_w54) (w1 := (w51.setCell ⟨go46, ((ji43) : Int).toNat, none⟩ (.int .u32 (rd t291 x66_2)))) ?hg ?ho ?hn ?hr ?_; (case ho => rfl); (case hg => rfl); (case hn => rfl); (case hr => exact T3_); intro w54 hw; have hg : w51.grownBy w54 (some go46) := (by rw [hw]; exact HP53.2); have hp_ : Kd.R (Kd.int .u32) 115 w54 w0.heap.size (fun k_ => (P0_ k_ ∨ w.heap.size ≤ k_) ∧ some k_ ≠ (.slice (some ad295) t291.length co52 : Value).ownBlock) (.slice (some ⟨go46, 0, none⟩) x0_2.length co18) y296 := (by rw [hw, Ny296.out]; exact HP53.1); clear HP53; replace HO_14 := A_ (Kd.R_after (v := (.slice (some ⟨go46, 0, none⟩) x0_2.length co18)) (v1 := (.slice (some ⟨go46, 0, none⟩) x0_2.length co18)) (ok := (fun k_ => (P0_ k_ ∨ w.heap.size ≤ k_))) (K1_ HO_14) hg (.inl rfl)); replace HB := A_ ((by rw [hw]; exact below_set (HB.out) GB46.out : Below w0.heap.size w0 w54)); replace HK := A_ (Kept.of_grown (S := (fun k_ => P0_ k_)) hg T5_ (fun k_ e_ => (HO_0.out.1 k_ e_).1)); replace HO_0 := A_ (hp_); clear hg hw hp_))); (try go_quiet (first | ((with_reducible refine gate_store (t := 115) (p := 73) rfl ?_); (try (rw [drewN_self wr]; generalize hq_ : World.drewN wr _ = wr; replace HO_0 := A_ (Kd.R_at hq_ HO_0.out); replace HO_14 := A_ (Kd.R_at hq_ HO_14.out); replace HK := A_ (kept_at hq_ HK.out); replace HB := A_ (below_at hq_ HB.out); clear hq_; (try (have HP50 := Kd.R_putg HO_0.out ((ji43) : Int) 0)))); refine store_event (t := 115) (p := 73) (v := ?vo_w51) (w1 := (wr.setCell ⟨go46, ((ji43) : Int).toNat, none⟩ (.int .u32 0))) ?hg ?ho ?hn ?hr ?_; (case ho => rfl); (case hg => rfl); (case hn => rfl); (case hr => exact T3_); intro w51 hw; have hg : wr.grownBy w51 (some go46) := (by rw [hw]; exact HP50.2); have hp_ : Kd.R (Kd.int .u32) 115 w51 w0.heap.size (fun k_ => (P0_ k_ ∨ w.heap.size ≤ k_) ∧ some k_ ≠ (v292 : Value).ownBlock) (.slice (some ⟨go46, 0, none⟩) x0_2.length co18) y294 := (by rw [hw, Ny294.out]; exact HP50.1); clear HP50; replace HO_14 := A_ (Kd.R_after (v := (.slice (some ⟨go46, 0, none⟩) x0_2.length co18)) (v1 := (.slice (some ⟨go46, 0, none⟩) x0_2.length co18)) (ok := (fun k_ => (P0_ k_ ∨ w.heap.size ≤ k_))) (K1_ HO_14) hg (.inl rfl)); replace HB := A_ ((by rw [hw]; exact below_set (HB.out) GB46.out : Below w0.heap.size w0 w51)); replace HK := A_ (Kept.of_grown (S := (fun k_ => P0_ k_)) hg T5_ (fun k_ e_ => (HO_0.out.1 k_ e_).1)); replace HO_0 := A_ (hp_); clear hg hw hp_; obtain ⟨Ao52, co52, eo52⟩ := Kd.R_slice HO_14.out; subst eo52; have p295 : 0 ≤ (x66_2 : Int) := DA_; have q295 : x66_2 < (t291.length : Int) := DA_; obtain ⟨ad295, e295, hx295_0⟩ := Kd.at_int (Kd.R_reads' HO_14.out).2.2 x66_2 p295 q295; cases e295; replace p295 := eq_true p295; replace q295 := eq_true q295; have p49 : 0 ≤ ((ji43) : Int) := DA_; have q49 : ((ji43) : Int) < ((x0_2.length : Int) : Int) := DA_; obtain ⟨hx49_0, hf49_0⟩ := Kd.R_celln 0 HO_0.out ((ji43) : Int) p49 q49; replace p49 := eq_true p49; replace q49 := eq_true q49; obtain ⟨hy53_, hz53_⟩ := Kd.R_celln 0 HO_0.out ((ji43) : Int) (DA_) (DA_); have HP53 := Kd.R_putg HO_0.out ((ji43) : Int) (rd t291 x66_2)) | ((with_reducible refine gate_store (t := 115) (p := 86) rfl ?_); (try (rw [drewN_self w51]; generalize hq_ : World.drewN w51 _ = w51; replace HO_0 := A_ (Kd.R_at hq_ HO_0.out); replace HO_14 := A_ (Kd.R_at hq_ HO_14.out); replace HK := A_ (kept_at hq_ HK.out); replace HB := A_ (below_at hq_ HB.out); clear hq_; (try (obtain ⟨hy53_, hz53_⟩ := Kd.R_celln 0 HO_0.out ((ji43) : Int) (DA_) (DA_))); (try (have HP53 := Kd.R_putg HO_0.out ((ji43) : Int) (rd t291 x66_2))))); refine store_event (t := 115) (p := 86) (v := ?vo_w54) (w1 := (w51.setCell ⟨go46, ((ji43) : Int).toNat, none⟩ (.int .u32 (rd t291 x66_2)))) ?hg ?ho ?hn ?hr ?_; (case ho => rfl); (case hg => rfl); (case hn => rfl); (case hr => exact T3_); intro w54 hw; have hg : w51.grownBy w54 (some go46) := (by rw [hw]; exact HP53.2); have hp_ : Kd.R (Kd.int .u32) 115 w54 w0.heap.size (fun k_ => (P0_ k_ ∨ w.heap.size ≤ k_) ∧ some k_ ≠ (.slice (some ad295) t291.length co52 : Value).ownBlock) (.slice (some ⟨go46, 0, none⟩) x0_2.length co18) y296 := (by rw [hw, Ny296.out]; exact HP53.1); clear HP53; replace HO_14 := A_ (Kd.R_after (v := (.slice (some ⟨go46, 0, none⟩) x0_2.length co18)) (v1 := (.slice (some ⟨go46, 0, none⟩) x0_2.length co18)) (ok := (fun k_ => (P0_ k_ ∨ w.heap.size ≤ k_))) (K1_ HO_14) hg (.inl rfl)); replace HB := A_ ((by rw [hw]; exact below_set (HB.out) GB46.out : Below w0.heap.size w0 w54)); replace HK := A_ (Kept.of_grown (S := (fun k_ => P0_ k_)) hg T5_ (fun k_ e_ => (HO_0.out.1 k_ e_).1)); replace HO_0 := A_ (hp_); clear hg hw hp_))))
                   (try simp only [← hl0_2])
                   go_roundg k2
                   case measure => have := HK1.out; have := HK2.out; omega
                   case rel => exact ⟨(y296), (wrap64 (x66_2 + 1)), S1_, H', ⟨by have := HK1.out; have := HK2.out; omega⟩, ⟨by (try simp only [hl0_2]); (with_reducible repeat (first | apply Kd.R_alloc | apply Kd.R_drewN | apply Kd.R_drew)); exact HO_0.out⟩, ⟨by (try simp only [hl0_2]); (with_reducible repeat (first | apply Kd.R_alloc | apply Kd.R_drewN | apply Kd.R_drew)); exact HO_14.out⟩, ⟨by repeat (first | (with_reducible first | exact HK.out | apply Kept.alloc | apply Kept.drewN | apply Kept.drew) | exact HK.out)⟩, ⟨T1_⟩⟩
                  ·
                   rw [if_neg c48] at H;exact absurd H (by simp)
                 ·
                  rw [if_neg c47] at H;have c47b0 := decide_eq_false c47
                  (try (have c47b0h := c47b0; simp only [hl0_2] at c47b0h))
                  clear c47;have H' := A_ H;clear H;have p46 : 0 ≤ ((ji43) : Int) := DA_;have q46 : ((ji43) : Int) < ((x0_2.length : Int) : Int) := DA_;obtain ⟨go46, co46, eo46, gb46, gl46, cl46, HG46⟩ := Kd.R_form HO_0.out (by omega)
                  (first | cases eo46 | (injection eo46 with ea_ en_ ec_; (first | subst ea_ | (injection ea_ with ea_; subst ea_)); subst ec_; clear en_))
                  have GB46 := A_ gb46;have GG46 := A_ HG46;clear gb46 gl46 HG46;have HMgo46 := A_ (show (P0_ go46 ∨ w.heap.size ≤ go46) from (HO_0.out.1 _ rfl).1);obtain ⟨hx46_0, hf46_0⟩ := Kd.R_celln 0 HO_0.out ((ji43) : Int) p46 q46;replace p46 := eq_true p46;replace q46 := eq_true q46;have HP55 := Kd.R_putg HO_0.out ((ji43) : Int) 0
                  iterate 3 ((try go_wp2_with (first | ((with_reducible refine gate_store (t := 115) (p := 73) rfl ?_); (try (rw [drewN_self wr]; generalize hq_ : World.drewN wr _ = wr; replace HO_0 := A_ (Kd.R_at hq_ HO_0.out); replace HO_14 := A_ (Kd.R_at hq_ HO_14.out); replace HK := A_ (kept_at hq_ HK.out); replace HB := A_ (below_at hq_ HB.out); clear hq_; (try (have HP55 := Kd.R_putg HO_0.out ((ji43) : Int) 0)))); refine store_event (t := 115) (p := 73) (v := ?vo_w56) (w1 := (wr.setCell ⟨go46, ((ji43) : Int).toNat, none⟩ (.int .u32 0))) ?hg ?ho ?hn ?hr ?_; (case ho => rfl); (case hg => rfl); (case hn => rfl); (case hr => exact T3_); intro w56 hw; have hg : wr.grownBy w56 (some go46) := (by rw [hw]; exact HP55.2); have hp_ : Kd.R (Kd.int .u32) 115 w56 w0.heap.size (fun k_ => (P0_ k_ ∨ w.heap.size ≤ k_) ∧ some k_ ≠ (v292 : Value).ownBlock) (.slice (some ⟨go46, 0, none⟩) x0_2.length co18) y294 := (by rw [hw, Ny294.out]; exact HP55.1); clear HP55; replace HO_14 := A_ (Kd.R_after (v := (.slice (some ⟨go46, 0, none⟩) x0_2.length co18)) (v1 := (.slice (some ⟨go46, 0, none⟩) x0_2.length co18)) (ok := (fun k_ => (P0_ k_ ∨ w.heap.size ≤ k_))) (K1_ HO_14) hg (.inl rfl)); replace HB := A_ ((by rw [hw]; exact below_set (HB.out) GB46.out : Below w0.heap.size w0 w56)); replace HK := A_ (Kept.of_grown (S := (fun k_ => P0_ k_)) hg T5_ (fun k_ e_ => (HO_0.out.1 k_ e_).1)); replace HO_0 := A_ (hp_); clear hg hw hp_; obtain ⟨Ao57, co57, eo57⟩ := Kd.R_slice HO_14.out; subst eo57))); (try go_quiet (first | ((with_reducible refine gate_store (t := 115) (p := 73) rfl ?_); (try (rw [drewN_self wr]; generalize hq_ : World.drewN wr _ = wr; replace HO_0 := A_ (Kd.R_at hq_ HO_0.out); replace HO_14 := A_ (Kd.R_at hq_ HO_14.out); replace HK := A_ (kept_at hq_ HK.out); replace HB := A_ (below_at hq_ HB.out); clear hq_; (try (have HP55 := Kd.R_putg HO_0.out ((ji43) : Int) 0)))); refine store_event (t := 115) (p := 73) (v := ?vo_w56) (w1 := (wr.setCell ⟨go46, ((ji43) : Int).toNat, none⟩ (.int .u32 0))) ?hg ?ho ?hn ?hr ?_; (case ho => rfl); (case hg => rfl); (case hn => rfl); (case hr => exact T3_); intro w56 hw; have hg : wr.grownBy w56 (some go46) := (by rw [hw]; exact HP55.2); have hp_ : Kd.R (Kd.int .u32) 115 w56 w0.heap.size (fun k_ => (P0_ k_ ∨ w.heap.size ≤ k_) ∧ some k_ ≠ (v292 : Value).ownBlock) (.slice (some ⟨go46, 0, none⟩) x0_2.length co18) y294 := (by rw [hw, Ny294.out]; exact HP55.1); clear HP55; replace HO_14 := A_ (Kd.R_after (v := (.slice (some ⟨go46, 0, none⟩) x0_2.length co18)) (v1 := (.slice (some ⟨go46, 0, none⟩) x0_2.length co18)) (ok := (fun k_ => (P0_ k_ ∨ w.heap.size ≤ k_))) (K1_ HO_14) hg (.inl rfl)); replace HB := A_ ((by rw [hw]; exact below_set (HB.out) GB46.out : Below w0.heap.size w0 w56)); replace HK := A_ (Kept.of_grown (S := (fun k_ => P0_ k_)) hg T5_ (fun k_ e_ => (HO_0.out.1 k_ e_).1)); replace HO_0 := A_ (hp_); clear hg hw hp_; obtain ⟨Ao57, co57, eo57⟩ := Kd.R_slice HO_14.out; subst eo57))))
                  (try simp only [← hl0_2])
                  go_roundg k2
                  case measure => have := HK1.out; have := HK2.out; omega
                  case rel => exact ⟨(y294), (wrap64 (x66_2 + 1)), S1_, H', ⟨by have := HK1.out; have := HK2.out; omega⟩, ⟨by (try simp only [hl0_2]); (with_reducible repeat (first | apply Kd.R_alloc | apply Kd.R_drewN | apply Kd.R_drew)); exact HO_0.out⟩, ⟨by (try simp only [hl0_2]); (with_reducible repeat (first | apply Kd.R_alloc | apply Kd.R_drewN | apply Kd.R_drew)); exact HO_14.out⟩, ⟨by repeat (first | (with_reducible first | exact HK.out | apply Kept.alloc | apply Kept.drewN | apply Kept.drew) | exact HK.out)⟩, ⟨T1_⟩⟩
                ·
                 rw [if_neg c45] at H;exact absurd H (by simp)
               ·
                rw [if_neg c44] at H;exact absurd H (by simp)
              ·
               rw [if_neg c42] at H;have c42b0 := decide_eq_false c42
               (try (have c42b0h := c42b0; simp only [hl0_2] at c42b0h))
               clear c42;simp only [Option.some.injEq, Prod.mk.injEq] at H;obtain ⟨rfl, rfl⟩ := H
               go_wp2
               repeat (go_quiet (fail); try go_wp2)
               go_ret
               exact ⟨by first | rfl | (simp [errW_none, errW_some] <;> rfl) | (simp only [← hji5, ← hji8, ← hji12]; first | rfl | (simp [errW_none, errW_some] <;> rfl)) | (simp [*, errW_none, errW_some] <;> rfl), (by first | exact (by (with_reducible repeat (first | apply Kd.R_alloc | apply Kd.R_drewN | apply Kd.R_drew)); exact Kd.R_mono HO_0.out (fun _ hk => hk.1)) | (simp only [hl0_2]; exact (by (with_reducible repeat (first | apply Kd.R_alloc | apply Kd.R_drewN | apply Kd.R_drew)); exact Kd.R_mono HO_0.out (fun _ hk => hk.1)))), T1_, by repeat (first | (with_reducible first | exact HK.out | apply Kept.alloc | apply Kept.drewN | apply Kept.drew) | exact HK.out)⟩
        ·
         rw [if_neg c15] at H;exact absurd H (by simp)
       ·
        rw [if_neg c14] at H;exact absurd H (by simp)
      ·
       rw [if_neg c13] at H;exact absurd H (by simp)
    ·
     rw [if_neg c10] at H;exact absurd H (by simp)
   ·
    rw [if_neg c9] at H;exact absurd H (by simp)
  ·
   rw [if_neg c7] at H;exact absurd H (by simp)
 ·
  rw [if_neg c6] at H;exact absurd H (by simp)
/-! ### nat_divide: function 113 -/
mutual
def nat_divide.l0 : Nat → List Int → List Int → Int → Option (List Int × List Int)
 | 0, _, _, _ => none
 | k + 1, x0, x1, x8 => if 0 ≤ (wrap64 ((x1.length : Int) - 1)) then (if (wrap64 ((x1.length : Int) - 1)) < (x1.length : Int) then (if 0 ≤ x8 then (if ((shl .u32 (rd x1 (wrap64 ((x1.length : Int) - 1))) x8) / 2147483648) = 0 then (nat_divide.l0 k x0 x1 (IntKind.u64.wrap (x8 + 1))) else ((nat_shift.f k x0 x8).bind fun t310 => (if t310.length < 35184372088832 then ((some (t310 ++ [0] : List Int)).bind fun y313 => ((nat_shift.f k x1 x8).bind fun t316 => (if (y313.length : Int) = (x0.length : Int) then (if y313.length < 35184372088832 then (nat_divide.j1 k x8 (y313 ++ [0]) t316) else (none)) else (nat_divide.j1 k x8 y313 t316)))) else (none)))) else (none)) else (none)) else (none)
def nat_divide.j1 : Nat → Int → List Int → List Int → Option (List Int × List Int)
 | 0, _, _, _ => none
 | k + 1, x8, x9, x10 => if 0 ≤ (wrap64 ((x9.length : Int) - (x10.length : Int))) then (if (wrap64 ((x9.length : Int) - (x10.length : Int)) : Int).toNat ≤ 70368744177664 then ((some (List.replicate (wrap64 ((x9.length : Int) - (x10.length : Int)) : Int).toNat 0 : List Int)).bind fun y322 => (if 0 ≤ (wrap64 ((x10.length : Int) - 1)) then (if (wrap64 ((x10.length : Int) - 1)) < (x10.length : Int) then (nat_divide.l1 k x8 x9 x10 y322 (IntKind.u64.wrap (rd x10 (wrap64 ((x10.length : Int) - 1)))) (wrap64 ((y322.length : Int) - 1))) else (none)) else (none))) else (none)) else (none)
def nat_divide.l1 : Nat → Int → List Int → List Int → List Int → Int → Int → Option (List Int × List Int)
 | 0, _, _, _, _, _, _ => none
 | k + 1, x8, x9, x10, x11, x12, x13 => if x13 ≥ 0 then ((nat_guess.f k x9 x10 x13 x12).bind fun bt326 => (if 0 ≤ x13 then (if x13 < (x11.length : Int) then (nat_divide.l1 k x8 bt326.2 x10 (x11.set (x13 : Int).toNat bt326.1) x12 (wrap64 (x13 - 1))) else (none)) else (none))) else ((nat_limbs_uint32.f x9).bind fun t329 => ((nat_trim.f k t329).bind fun t332 => (if 0 ≤ x8 then ((nat_small.f k t332 (shl .u64 1 x8)).bind fun bt335 => ((nat_trim.f k x11).bind fun t339 => (some (t339, bt335.1)))) else (none))))
end
def nat_divide.f (k : Nat) (l0 : List Int) (l1 : List Int) : Option (List Int × List Int) := (nat_compare.f k l0 l1).bind fun t297 => (if t297 < 0 then (some (([] : List Int), l0)) else (if (l1.length : Int) = 1 then (if 0 < (l1.length : Int) then ((nat_small.f k l0 (IntKind.u64.wrap (rd l1 0))).bind fun bt299 => ((nat_trim.f k (([(bt299.2) % 4294967296] : List Int))).bind fun t306 => (some (bt299.1, t306)))) else (none)) else (nat_divide.l0 k l0 l1 0)))
theorem nat_divide.calls (k : Nat) (P0_ : Nat → Prop) (u9000_ : Value) (l0 : List Int) (A1 : Option Addr) (c1 : Nat) (l1 : List Int) (r1 : List Int) (r2 : List Int) (w0 w : World) (hB : Below w0.heap.size w0 w) (ho0 : Kd.R (Kd.int .u32) 115 w w0.heap.size P0_ u9000_ l0) (hr1 : ∀ W_, Kept w W_ (fun k_ => P0_ k_) → Kd.C (Kd.int .u32) W_ A1 l1.length l1) (hc1 : l1.length ≤ c1) (h : nat_divide.f k l0 l1 = some (r1, r2)) :
  Calls Tryz.prog 113 #[u9000_, .slice A1 l1.length c1] w fun e w' => ∃ v0_ v1_ : Value, e = .returned (.tuple #[v0_, v1_]) ∧ Kd.R (Kd.int .u32) 115 w' w0.heap.size (fun k_ => (P0_ k_ ∨ w.heap.size ≤ k_) ∧ some k_ ≠ (v1_ : Value).ownBlock) v0_ r1 ∧ Kd.R (Kd.int .u32) 115 w' w0.heap.size (fun k_ => (P0_ k_ ∨ w.heap.size ≤ k_) ∧ some k_ ≠ (v0_ : Value).ownBlock) v1_ r2 ∧ Below w0.heap.size w0 w' ∧ Kept w w' (fun k_ => P0_ k_) := by
 have HO0 := A_ (show Kd.R (Kd.int .u32) 115 w w0.heap.size (fun k_ => (P0_ k_ ∨ w.heap.size ≤ k_)) u9000_ l0 from Kd.R_mono ho0 (fun k_ hk => (.inl hk)));have HR1 := A_ hr1;have HC1 := A_ hc1;clear hr1 hc1;have HK := A_ (Kept.refl w (fun k_ => P0_ k_));have HW0 := A_ hB.size;have HB := A_ hB;clear hB;unfold nat_divide.f at h;have H := h;clear h;replace H := BE_ H;obtain ⟨t297, A30, H⟩ := H;have A3 := A_ A30;clear A30
 by_cases c4 : t297 < 0
 ·
  rw [if_pos c4] at H;have c4b0 := decide_eq_true c4;clear c4;simp only [Option.some.injEq, Prod.mk.injEq] at H;obtain ⟨rfl, rfl⟩ := H;obtain ⟨Ao5, co5, eo5⟩ := Kd.R_slice HO0.out;subst eo5;go_enter Tryz.func113, Tryz.ntmps113
  go_wp2_with (first | (refine GL_ 137 19 Tryz.func137 #[.slice Ao5 l0.length co5, .slice A1 l1.length c1] ?_; (with_reducible refine (nat_compare.calls k _ _ l0 _ _ l1 t297 _ (C1_ (Kd.R_reads' HO0.out).2.2) ((Kd.R_reads' HO0.out).2.1) (Kd.C_kept_now HR1.out T5_) HC1.out A3.out).mono ?_); rintro e w' ⟨rfl, ⟨nd, rfl⟩⟩; refine ⟨_, rfl, ?_⟩))
  go_ret2
  exact ⟨_, _, by first | rfl | (simp [errW_none, errW_some] <;> rfl) | (simp [*, errW_none, errW_some] <;> rfl), by first | exact Kd.R_nil _ _ _ _ _ | exact Kd.N_nil _ _ _ _ _ | exact Kd.V_nil _ _ _ _ _ | exact Kd.Q_nil _ _ _ _ _ | exact Kd.S_nil _ _ _ _ _, by (with_reducible repeat (first | apply Kd.R_alloc | apply Kd.R_drewN | apply Kd.R_drew)); exact Kd.R_mono HO0.out (fun _ hk => ⟨hk, (by simp [Value.ownBlock])⟩), T1_, by repeat (first | (with_reducible first | exact HK.out | apply Kept.alloc | apply Kept.drewN | apply Kept.drew) | exact HK.out)⟩
 ·
  rw [if_neg c4] at H;have c4b0 := decide_eq_false c4;clear c4
  by_cases c6 : (l1.length : Int) = 1
  ·
   rw [if_pos c6] at H;have c6b0 : ((l1.length : Int) == 1) = true := beq_iff_eq.mpr c6;have c6b1 : ((l1.length : Int) != 1) = false := bne_eq_false_iff_eq.mpr c6;clear c6
   by_cases c7 : 0 < (l1.length : Int)
   ·
    rw [if_pos c7] at H;have c7b0 := decide_eq_true c7;have c7b1 : decide (0 < l1.length) = true := decide_eq_true (by omega);clear c7;replace H := BE_ H;obtain ⟨⟨t299, t300⟩, A80, H⟩ := H;have A8 := A_ A80;clear A80;obtain ⟨y303, hy_⟩ : ∃ y_ : List Int, y_ = (([(t300) % 4294967296] : List Int)) := ⟨_, rfl⟩
    replace H : ((nat_trim.f k y303).bind fun t306 => (some (t299, t306))) = some (r1, r2) := RH_
    have Ny303 := A_ hy_;clear hy_;replace H := BE_ H;obtain ⟨t306, A90, H⟩ := H;have A9 := A_ A90;clear A90;simp only [Option.some.injEq, Prod.mk.injEq] at H;obtain ⟨rfl, rfl⟩ := H;obtain ⟨Ao10, co10, eo10⟩ := Kd.R_slice HO0.out;subst eo10;go_enter Tryz.func113, Tryz.ntmps113
    go_wp2_with (first | (refine GL_ 137 19 Tryz.func137 #[.slice Ao10 l0.length co10, .slice A1 l1.length c1] ?_; (with_reducible refine (nat_compare.calls k _ _ l0 _ _ l1 t297 _ (C1_ (Kd.R_reads' HO0.out).2.2) ((Kd.R_reads' HO0.out).2.1) (Kd.C_kept_now HR1.out T5_) HC1.out A3.out).mono ?_); rintro e w' ⟨rfl, ⟨nd, rfl⟩⟩; refine ⟨_, rfl, ?_⟩; have p298 : 0 ≤ (0 : Int) := (by omega); have q298 : 0 < (l1.length : Int) := DA_; obtain ⟨ad298, e298, hx298_0⟩ := Kd.at_int (Kd.C_kept_now HR1.out HK.out) 0 p298 q298; cases e298; have qi298 : (0 < l1.length) = True := eq_true (by omega); (try rw [show ((0 : Int)).toNat = 0 from rfl] at hx298_0); (try rw [Addr.add_zero'] at hx298_0); replace p298 := eq_true p298; replace q298 := eq_true q298) | (refine GL_ 138 31 Tryz.func138 #[.slice Ao10 l0.length co10, .int .u64 (IntKind.u64.wrap (rd l1 0))] ?_; (with_reducible refine (nat_small.calls k _ _ l0 (IntKind.u64.wrap (rd l1 0)) t299 t300 _ (C1_ (Kd.R_reads' HO0.out).2.2) ((Kd.R_reads' HO0.out).2.1) A8.out).mono ?_); rintro e w11 ⟨v301, rfl, ho0, hb⟩; refine ⟨_, rfl, ?_⟩; have HO302 := A_ (Kd.R_lower (Kd.R_new' (Kd.R_newM (M := fun k_ => (P0_ k_ ∨ w.heap.size ≤ k_)) ho0 (KM_ HK).1 (fun k_ h_ => .inr h_)) (Kd.R_lt (K1_ HO0))) (below_size T1_)); replace HO0 := A_ (Kd.R_elder' (K1_ HO0) (Kd.R_base ho0) hb); replace HK := A_ (Kept.below (S := (fun k_ => P0_ k_)) T5_ hb); replace HB := BS_ hb; clear hb ho0) | ((with_reducible refine gate_dst (N := 37) rfl ?_); refine Kd.R_lit (Kd.int .u32) _ 115 ?hg (N := 37) ?hd (xs := ([(t300) % 4294967296] : List Int)) (inner := [.int .u32 ((t300) % 4294967296)]) (ok := fun _ => True) (okp := fun _ => True) ?hr ?hp (fun _ hk => hk) trivial (Below.refl _ _) (Nat.le_refl _) (by simp) ?_; (case hd => rfl); (case hg => rfl); (case hr => exact T3_); (case hp => exact (Reps.one (show Kd.M (Kd.int .u32) _ _ _ ((t300) % 4294967296) [.int .u32 ((t300) % 4294967296)] from rfl) (Reps.none _ _))); intro v304 w12 ho13 hb hg_ hnew_; clear hg_ hnew_; (first | rw [← Ny303.out] at ho13 | (simp only [Int.reduceToNat] at ho13; rw [← Ny303.out] at ho13)); have HO305 := A_ (Kd.R_lower (Kd.R_new' (Kd.R_new' (Kd.R_newM (M := fun k_ => (P0_ k_ ∨ w.heap.size ≤ k_)) ho13 (KM_ HK).1 (fun k_ h_ => .inr h_)) (Kd.R_lt (K1_ HO0))) (Kd.R_lt (K1_ HO302))) (below_size T1_)); replace HO0 := A_ (Kd.R_elder' (K1_ HO0) (Kd.R_base ho13) hb); replace HO302 := A_ (Kd.R_elder' (K1_ HO302) (Kd.R_base ho13) hb); replace HK := A_ (Kept.below (S := (fun k_ => P0_ k_)) T5_ hb); replace HB := BS_ hb; clear hb ho13; obtain ⟨Ao14, co14, eo14⟩ := Kd.R_slice HO305.out; subst eo14) | (refine GL_ 135 38 Tryz.func135 #[.slice Ao14 y303.length co14] ?_; (with_reducible refine (nat_trim.calls k (fun k_ => some k_ = (.slice Ao14 y303.length co14 : Value).ownBlock) (.slice Ao14 y303.length co14) y303 t306 w0 _ ?side1 ?side2 A9.out).mono ?_); (case side1 => repeat (first | (with_reducible first | exact HB.out | apply below_alloc | apply pw_below_drewN | apply below_drew1) | exact HB.out)); (case side2 => exact Kd.R_tight rfl HO305.out); rintro e w15 ⟨v307, rfl, ho0, hb, hkp⟩; refine ⟨_, rfl, ?_⟩; have n0_ := A_ (Kd.R_mono (ok' := fun k_ => (P0_ k_ ∨ w.heap.size ≤ k_) ∧ some k_ ≠ (v301 : Value).ownBlock ∧ some k_ ≠ (v307 : Value).ownBlock) (Kd.R_keptB (HO0.out) hkp (fun k_ hk_ hs_ => (hk_.2) hs_)) (fun k_ hk_ => ⟨hk_.1.1.1, hk_.1.1.2, fun e_ => Or.elim (ho0.1 k_ e_.symm) (fun hs_ => hk_.2.1 hs_) (fun hn_ => Nat.not_le.2 hk_.2.2 hn_)⟩)); have n1_ := A_ (Kd.R_mono (ok' := fun k_ => (P0_ k_ ∨ w.heap.size ≤ k_) ∧ some k_ ≠ (.slice Ao10 l0.length co10 : Value).ownBlock ∧ some k_ ≠ (v307 : Value).ownBlock) (Kd.R_keptB (HO302.out) hkp (fun k_ hk_ hs_ => (hk_.2) hs_)) (fun k_ hk_ => ⟨hk_.1.1.1.1, hk_.1.1.2, fun e_ => Or.elim (ho0.1 k_ e_.symm) (fun hs_ => hk_.2.1 hs_) (fun hn_ => Nat.not_le.2 hk_.2.2 hn_)⟩)); have n2_ := A_ (Kd.R_mono (ok' := fun k_ => (P0_ k_ ∨ w.heap.size ≤ k_) ∧ some k_ ≠ (.slice Ao10 l0.length co10 : Value).ownBlock ∧ some k_ ≠ (v301 : Value).ownBlock) ho0 (fun k_ hk_ => ⟨Or.elim hk_ (fun hs_ => (HO305.out.1 k_ (hs_).symm).1.1.1) (fun hn_ => (.inr (Nat.le_trans (KM_ HK).1 hn_))), Or.elim hk_ (fun hs_ => fun e_ => (((HO0.out).1 k_ e_.symm).2) hs_) (fun hn_ => (Kd.fresh' (Kd.R_lt (K1_ HO0)) k_ hn_)), Or.elim hk_ (fun hs_ => fun e_ => (((HO302.out).1 k_ e_.symm).2) hs_) (fun hn_ => (Kd.fresh' (Kd.R_lt (K1_ HO302)) k_ hn_))⟩)); have n3_ := A_ (Kept.then_ (S := (fun k_ => P0_ k_)) T5_ hkp (fun k_ hs_ => (fun e_ => (HO305.out.1 k_ e_.symm).1.1.1) hs_)); have n4_ := A_ (hb); clear HO0; clear HO302; clear HK; clear HB; clear HO305; have HO0 := n0_; have HO302 := n1_; have HO308 := n2_; have HK := n3_; have HB := n4_; clear n0_ n1_ n2_ n3_ n4_; clear hb hkp ho0))
    go_ret2
    exact ⟨_, _, by first | rfl | (simp [errW_none, errW_some] <;> rfl) | (simp [*, errW_none, errW_some] <;> rfl), by (with_reducible repeat (first | apply Kd.R_alloc | apply Kd.R_drewN | apply Kd.R_drew)); exact Kd.R_mono HO302.out (fun _ hk => ⟨hk.1, hk.2.2⟩), by (with_reducible repeat (first | apply Kd.R_alloc | apply Kd.R_drewN | apply Kd.R_drew)); exact Kd.R_mono HO308.out (fun _ hk => ⟨hk.1, hk.2.2⟩), T1_, by repeat (first | (with_reducible first | exact HK.out | apply Kept.alloc | apply Kept.drewN | apply Kept.drew) | exact HK.out)⟩
   ·
    rw [if_neg c7] at H;exact absurd H (by simp)
  ·
   rw [if_neg c6] at H;have c6b0 : ((l1.length : Int) == 1) = false := beq_eq_false_iff_ne.mpr c6;have c6b1 : ((l1.length : Int) != 1) = true := bne_iff_ne.mpr c6;have H' := A_ H;clear H;obtain ⟨Ao16, co16, eo16⟩ := Kd.R_slice HO0.out;subst eo16;go_enter Tryz.func113, Tryz.ntmps113
   go_wp2_with (first | (refine GL_ 137 19 Tryz.func137 #[.slice Ao16 l0.length co16, .slice A1 l1.length c1] ?_; (with_reducible refine (nat_compare.calls k _ _ l0 _ _ l1 t297 _ (C1_ (Kd.R_reads' HO0.out).2.2) ((Kd.R_reads' HO0.out).2.1) (Kd.C_kept_now HR1.out T5_) HC1.out A3.out).mono ?_); rintro e w' ⟨rfl, ⟨nd, rfl⟩⟩; refine ⟨_, rfl, ?_⟩))
   go_loopg [8] k (fun kq v8 w' => ∃ (x8_1 : Int), v8 = .int .u64 x8_1 ∧ Aside0 (nat_divide.l0 kq l0 l1 x8_1 = some (r1, r2)) ∧ Aside0 (kq ≤ k) ∧ Aside0 (Kd.R (Kd.int .u32) 115 w' w0.heap.size (fun k_ => (P0_ k_ ∨ w.heap.size ≤ k_)) (.slice Ao16 l0.length co16) l0) ∧ Aside0 (Kept w w' (fun k_ => P0_ k_)) ∧ Aside0 (Below w0.heap.size w0 w'))
   case atStart => exact ⟨(0), S1_, H', ⟨Nat.le_refl _⟩, ⟨by (with_reducible repeat (first | apply Kd.R_alloc | apply Kd.R_drewN | apply Kd.R_drew)); exact HO0.out⟩, ⟨by repeat (first | (with_reducible first | exact HK.out | apply Kept.alloc | apply Kept.drewN | apply Kept.drew) | exact HK.out)⟩, ⟨T1_⟩⟩
   case round =>
    clear H'
    try clear c1
    try clear c4
    try clear c4b0
    try clear c6
    try clear c6b0
    try clear c6b1
    obtain ⟨x8_1, rfl, HA, HK1, HO_0, HK, HB⟩ := hrel
    cases gk with
    | zero => exact absurd HA.out (by simp [nat_divide.l0])
    | succ k1 =>
     have H := HA.out;clear HA;simp only [nat_divide.l0] at H;obtain ⟨ji17, hji17⟩ : ∃ j_ : Int, (wrap64 ((l1.length : Int) - 1)) = j_ := ⟨_, rfl⟩
     first | rw [hji17] at H | simp only [hji17] at H
     have hji17w : (IntKind.i64.wrap ((l1.length : Int) - 1)) = ji17 := (i64_w _).trans hji17
     by_cases c18 : 0 ≤ (ji17)
     ·
      rw [if_pos c18] at H;have c18b0 := decide_eq_true c18;clear c18
      by_cases c19 : (ji17) < (l1.length : Int)
      ·
       rw [if_pos c19] at H;have c19b0 := decide_eq_true c19;clear c19
       by_cases c20 : 0 ≤ x8_1
       ·
        rw [if_pos c20] at H;have c20b0 := eq_true c20;have c20b1 := decide_eq_true c20;clear c20;obtain ⟨ji21, hji21⟩ : ∃ j_ : Int, (shl .u32 (rd l1 (ji17)) x8_1) = j_ := ⟨_, rfl⟩
        first | rw [hji21] at H | simp only [hji21] at H
        have hji21_ : (IntKind.u32.wrap ((rd l1 (ji17)) * 2 ^ min x8_1.toNat 32)) = ji21 := hji21;have hji21z : x8_1 ≤ 32 → (IntKind.u32.wrap ((rd l1 (ji17)) * 2 ^ x8_1.toNat)) = ji21 := shl_small hji21
        by_cases c22 : ((ji21) / 2147483648) = 0
        ·
         rw [if_pos c22] at H;have c22b0 : (((ji21) / 2147483648) == 0) = true := beq_iff_eq.mpr c22;have c22b1 : (((ji21) / 2147483648) != 0) = false := bne_eq_false_iff_eq.mpr c22;clear c22;have H' := A_ H;clear H;have p309 : 0 ≤ ((ji17) : Int) := DA_;have q309 : (ji17) < (l1.length : Int) := DA_;obtain ⟨ad309, e309, hx309_0⟩ := Kd.at_int (Kd.C_kept_now HR1.out HK.out) (ji17) p309 q309
         cases e309
         replace p309 := eq_true p309;replace q309 := eq_true q309
         go_wp2
         go_roundg k1
         case measure => have := HK1.out; omega
         case rel => exact ⟨(IntKind.u64.wrap (x8_1 + 1)), S1_, H', ⟨by have := HK1.out; omega⟩, ⟨by (with_reducible repeat (first | apply Kd.R_alloc | apply Kd.R_drewN | apply Kd.R_drew)); exact HO_0.out⟩, ⟨by repeat (first | (with_reducible first | exact HK.out | apply Kept.alloc | apply Kept.drewN | apply Kept.drew) | exact HK.out)⟩, ⟨T1_⟩⟩
        ·
         rw [if_neg c22] at H;have c22b0 : (((ji21) / 2147483648) == 0) = false := beq_eq_false_iff_ne.mpr c22;have c22b1 : (((ji21) / 2147483648) != 0) = true := bne_iff_ne.mpr c22;replace H := BE_ H;obtain ⟨t310, A230, H⟩ := H;have A23 := A_ A230;clear A230
         by_cases c24 : t310.length < 35184372088832
         ·
          rw [if_pos c24] at H;have LMc24 := A_ c24;clear c24;obtain ⟨y313, hy_⟩ : ∃ y_ : List Int, y_ = (t310 ++ [0]) := ⟨_, rfl⟩
          replace H : ((nat_shift.f k1 l1 x8_1).bind fun t316 => (if (y313.length : Int) = (l0.length : Int) then (if y313.length < 35184372088832 then (nat_divide.j1 k1 x8_1 (y313 ++ [0]) t316) else (none)) else (nat_divide.j1 k1 x8_1 y313 t316))) = some (r1, r2) := RH_
          have Ny313 := A_ hy_;clear hy_;replace H := BE_ H;obtain ⟨t316, A250, H⟩ := H;have A25 := A_ A250;clear A250;have HC26 := A_ H;clear H;have p309 : 0 ≤ ((ji17) : Int) := DA_;have q309 : (ji17) < (l1.length : Int) := DA_;obtain ⟨ad309, e309, hx309_0⟩ := Kd.at_int (Kd.C_kept_now HR1.out HK.out) (ji17) p309 q309
          cases e309
          replace p309 := eq_true p309;replace q309 := eq_true q309
          go_upto_if 63 with (first | (refine GL_ 139 53 Tryz.func139 #[.slice Ao16 l0.length co16, .int .u64 x8_1] ?_; (with_reducible refine (nat_shift.calls k1 _ _ l0 x8_1 t310 _ (C1_ (Kd.R_reads' HO_0.out).2.2) ((Kd.R_reads' HO_0.out).2.1) A23.out).mono ?_); rintro e w27 ⟨v311, rfl, ho0, hb⟩; refine ⟨_, rfl, ?_⟩; have HO312 := A_ (Kd.R_lower (Kd.R_new' (Kd.R_newM (M := fun k_ => (P0_ k_ ∨ w.heap.size ≤ k_)) ho0 (KM_ HK).1 (fun k_ h_ => .inr h_)) (Kd.R_lt (K1_ HO_0))) (below_size T1_)); replace HO_0 := A_ (Kd.R_elder' (K1_ HO_0) (Kd.R_base ho0) hb); replace HK := A_ (Kept.below (S := (fun k_ => P0_ k_)) T5_ hb); replace HB := BS_ hb; clear hb ho0) | ((with_reducible refine gate_builtin (b := .append) (xs := #[.tmp 53, .tmp 54]) rfl ?_); at_builtin; refine Kd.R_append (Kd.int .u32) (w0 := w0) w0.heap.size rfl (.tmp 53) (.tmp 54) 131 115 (.int .u32 0) 4 rfl Tryz.underlying131 info115 rfl (by decide) (by omega) v311 t310 0 [.int .u32 0] (fun k_ => (P0_ k_ ∨ w.heap.size ≤ k_) ∧ some k_ ≠ (.slice Ao16 l0.length co16 : Value).ownBlock) (fun _ => False) rfl rfl ?aP (fun _ hk => hk.elim) ?aF ?aO ?aB ?aS ?aL ?_; (case aP => exact rfl); (case aB => exact T1_); (case aF => exact (fun k_ hk => ⟨(.inr (Nat.le_trans (KM_ HK).1 hk)), Kd.fresh' (Kd.R_lt (K1_ HO_0)) k_ hk⟩)); (case aO => exact (by (with_reducible repeat (first | apply Kd.R_alloc | apply Kd.R_drewN | apply Kd.R_drew)); exact Kd.R_mono HO312.out (fun _ hk => ⟨hk.1.1, hk.2⟩))); (case aS => exact (below_size T1_)); (case aL => have := LMc24.out; omega); intro v314 w28 ho hb hg hat; rw [← Ny313.out] at ho; have n0_ := A_ (Kd.R_after (ok := (fun k_ => (P0_ k_ ∨ w.heap.size ≤ k_))) (K1_ HO_0) hg hat); have n1_ := A_ (hb); have n2_ := A_ (Kept.of_grown (S := (fun k_ => P0_ k_)) hg T5_ (fun k_ e_ => (HO312.out.1 k_ e_).1.1)); have n3_ := A_ (ho); clear HO_0; clear HB; clear HK; clear HO312; have HO_0 := n0_; have HB := n1_; have HK := n2_; have HO315 := n3_; clear n0_ n1_ n2_ n3_; clear ho hb hg hat) | (refine GL_ 139 58 Tryz.func139 #[.slice (some ad309) l1.length c1, .int .u64 x8_1] ?_; (with_reducible refine (nat_shift.calls k1 _ _ l1 x8_1 t316 _ (Kd.C_kept_now HR1.out T5_) HC1.out A25.out).mono ?_); rintro e w29 ⟨v317, rfl, ho0, hb⟩; refine ⟨_, rfl, ?_⟩; have HO318 := A_ (Kd.R_lower (Kd.R_new' (Kd.R_new' (Kd.R_newM (M := fun k_ => (P0_ k_ ∨ w.heap.size ≤ k_)) ho0 (KM_ HK).1 (fun k_ h_ => .inr h_)) (Kd.R_lt (K1_ HO_0))) (Kd.R_lt (K1_ HO315))) (below_size T1_)); replace HO_0 := A_ (Kd.R_elder' (K1_ HO_0) (Kd.R_base ho0) hb); replace HO315 := A_ (Kd.R_elder' (K1_ HO315) (Kd.R_base ho0) hb); replace HK := A_ (Kept.below (S := (fun k_ => P0_ k_)) T5_ hb); replace HB := BS_ hb; clear hb ho0; obtain ⟨Ao30, co30, eo30⟩ := Kd.R_slice HO315.out; subst eo30))
          (try simp only [Act.put, List.setIfInBounds_toArray, List.set_cons_zero, List.set_cons_succ])
          go_cut [9] (fun v9 wc => ∃ (kq : Nat) (x9_25 : List Int), Aside0 (nat_divide.j1 kq x8_1 x9_25 t316 = some (r1, r2)) ∧ Aside0 (kq ≤ k1) ∧ Aside0 (Kd.R (Kd.int .u32) 115 wc w0.heap.size (fun k_ => (P0_ k_ ∨ w.heap.size ≤ k_) ∧ some k_ ≠ (v317 : Value).ownBlock) v9 x9_25) ∧ Aside0 (Kd.R (Kd.int .u32) 115 wc w0.heap.size (fun k_ => (P0_ k_ ∨ w.heap.size ≤ k_) ∧ some k_ ≠ (v9 : Value).ownBlock) v317 t316) ∧ Aside0 (Kept w wc (fun k_ => P0_ k_)) ∧ Aside0 (Below w0.heap.size w0 wc))
          case first =>
           have H := HC26.out;clear HC26
           by_cases c31 : (y313.length : Int) = (l0.length : Int)
           ·
            rw [if_pos c31] at H;have c31b0 : ((y313.length : Int) == (l0.length : Int)) = true := beq_iff_eq.mpr c31;have c31b1 : ((y313.length : Int) != (l0.length : Int)) = false := bne_eq_false_iff_eq.mpr c31
            have c31b2 : (y313.length == l0.length) = true := by first | simpa using c31 | (simp at c31 ⊢; omega)
            clear c31
            (first | rw [c31b0] | (simp only [i64_w, i32_w]; rw [c31b0]) | skip)
            by_cases c32 : y313.length < 35184372088832
            ·
             rw [if_pos c32] at H;have LMc32 := A_ c32;clear c32;obtain ⟨y319, hy_⟩ : ∃ y_ : List Int, y_ = (y313 ++ [0]) := ⟨_, rfl⟩
             replace H : (nat_divide.j1 k1 x8_1 y319 t316) = some (r1, r2) := RH_
             have Ny319 := A_ hy_;clear hy_;have H' := A_ H;clear H
             go_wp2_with (first | ((with_reducible refine gate_builtin (b := .append) (xs := #[.tmp 64, .tmp 65]) rfl ?_); at_builtin; refine Kd.R_append (Kd.int .u32) (w0 := w0) w0.heap.size rfl (.tmp 64) (.tmp 65) 131 115 (.int .u32 0) 4 rfl Tryz.underlying131 info115 rfl (by decide) (by omega) (.slice Ao30 y313.length co30) y313 0 [.int .u32 0] (fun k_ => (P0_ k_ ∨ w.heap.size ≤ k_) ∧ some k_ ≠ (.slice Ao16 l0.length co16 : Value).ownBlock ∧ some k_ ≠ (v317 : Value).ownBlock) (fun _ => False) rfl rfl ?aP (fun _ hk => hk.elim) ?aF ?aO ?aB ?aS ?aL ?_; (case aP => exact rfl); (case aB => exact T1_); (case aF => exact (fun k_ hk => ⟨(.inr (Nat.le_trans (KM_ HK).1 hk)), Kd.fresh' (Kd.R_lt (K1_ HO_0)) k_ hk, Kd.fresh' (Kd.R_lt (K1_ HO318)) k_ hk⟩)); (case aO => exact (by (with_reducible repeat (first | apply Kd.R_alloc | apply Kd.R_drewN | apply Kd.R_drew)); exact Kd.R_mono HO315.out (fun _ hk => ⟨hk.1.1, ⟨hk.1.2, hk.2⟩⟩))); (case aS => exact (below_size T1_)); (case aL => have := LMc32.out; omega); intro v320 w33 ho hb hg hat; rw [← Ny319.out] at ho; have n0_ := A_ (Kd.R_after (ok := (fun k_ => (P0_ k_ ∨ w.heap.size ≤ k_) ∧ some k_ ≠ (v317 : Value).ownBlock)) (by (with_reducible repeat (first | apply Kd.R_alloc | apply Kd.R_drewN | apply Kd.R_drew)); exact Kd.R_mono HO_0.out (fun _ hk => ⟨⟨hk.1.1, hk.2⟩, hk.1.2⟩)) hg hat); have n1_ := A_ (Kd.R_after (ok := (fun k_ => (P0_ k_ ∨ w.heap.size ≤ k_) ∧ some k_ ≠ (.slice Ao16 l0.length co16 : Value).ownBlock)) (by (with_reducible repeat (first | apply Kd.R_alloc | apply Kd.R_drewN | apply Kd.R_drew)); exact Kd.R_mono HO318.out (fun _ hk => ⟨⟨hk.1.1.1, hk.1.2⟩, hk.2⟩)) hg hat); have n2_ := A_ (hb); have n3_ := A_ (Kept.of_grown (S := (fun k_ => P0_ k_)) hg T5_ (fun k_ e_ => (HO315.out.1 k_ e_).1.1)); have n4_ := A_ (ho); clear HO_0; clear HO318; clear HB; clear HK; clear HO315; have HO_0 := n0_; have HO318 := n1_; have HB := n2_; have HK := n3_; have HO321 := n4_; clear n0_ n1_ n2_ n3_ n4_; clear ho hb hg hat))
             go_meet
             case rel => exact ⟨_, (y319), H', ⟨by have := HK1.out; first | omega | exact Nat.le_refl _⟩, ⟨by (with_reducible repeat (first | apply Kd.R_alloc | apply Kd.R_drewN | apply Kd.R_drew)); exact Kd.R_mono HO321.out (fun _ hk => ⟨hk.1, hk.2.2⟩)⟩, ⟨by (with_reducible repeat (first | apply Kd.R_alloc | apply Kd.R_drewN | apply Kd.R_drew)); exact Kd.R_mono HO318.out (fun _ hk => ⟨hk.1.1, hk.2⟩)⟩, ⟨by repeat (first | (with_reducible first | exact HK.out | apply Kept.alloc | apply Kept.drewN | apply Kept.drew) | exact HK.out)⟩, ⟨T1_⟩⟩
            ·
             rw [if_neg c32] at H;exact absurd H (by simp)
           ·
            rw [if_neg c31] at H;have c31b0 : ((y313.length : Int) == (l0.length : Int)) = false := beq_eq_false_iff_ne.mpr c31;have c31b1 : ((y313.length : Int) != (l0.length : Int)) = true := bne_iff_ne.mpr c31
            have c31b2 : (y313.length == l0.length) = false := by first | simpa using c31 | (simp at c31 ⊢; omega)
            (first | rw [c31b0] | (simp only [i64_w, i32_w]; rw [c31b0]) | skip)
            have H' := A_ H;clear H
            go_wp2
            go_meet
            case rel => exact ⟨_, (y313), H', ⟨by have := HK1.out; first | omega | exact Nat.le_refl _⟩, ⟨by (with_reducible repeat (first | apply Kd.R_alloc | apply Kd.R_drewN | apply Kd.R_drew)); exact Kd.R_mono HO315.out (fun _ hk => ⟨hk.1.1, hk.2⟩)⟩, ⟨by (with_reducible repeat (first | apply Kd.R_alloc | apply Kd.R_drewN | apply Kd.R_drew)); exact Kd.R_mono HO318.out (fun _ hk => ⟨hk.1.1.1, hk.2⟩)⟩, ⟨by repeat (first | (with_reducible first | exact HK.out | apply Kept.alloc | apply Kept.drewN | apply Kept.drew) | exact HK.out)⟩, ⟨T1_⟩⟩
          case rest =>
           clear HC26
           try clear c1
           try clear c4
           try clear c4b0
           try clear c6
           try clear c6b0
           try clear c6b1
           try clear c18
           try clear c18b0
           try clear c19
           try clear c19b0
           try clear c20
           try clear c20b0
           try clear c20b1
           try clear c22
           try clear c22b0
           try clear c22b1
           try clear c24
           try clear hx309_0
           try clear p309
           try clear q309
           obtain ⟨kq, x9_25, HA, HJ25, HO_9, HO_10, HK, HB⟩ := hcut
           cases kq with
           | zero => exact absurd HA.out (by simp [nat_divide.j1])
           | succ kj25 =>
            have H := HA.out;clear HA;simp only [nat_divide.j1] at H;obtain ⟨ji34, hji34⟩ : ∃ j_ : Int, (wrap64 ((x9_25.length : Int) - (t316.length : Int))) = j_ := ⟨_, rfl⟩
            first | rw [hji34] at H | simp only [hji34] at H
            have hji34w : (IntKind.i64.wrap ((x9_25.length : Int) - (t316.length : Int))) = ji34 := (i64_w _).trans hji34
            by_cases c35 : 0 ≤ (ji34)
            ·
             rw [if_pos c35] at H;have c35b0 := eq_true c35;have c35b1 := decide_eq_true c35;clear c35
             by_cases c36 : (ji34 : Int).toNat ≤ 70368744177664
             ·
              rw [if_pos c36] at H;have c36b0 := eq_true c36;have c36b1 := decide_eq_true c36;clear c36;obtain ⟨y322, hy_⟩ : ∃ y_ : List Int, y_ = (List.replicate (ji34 : Int).toNat 0) := ⟨_, rfl⟩
              replace H : (if 0 ≤ (wrap64 ((t316.length : Int) - 1)) then (if (wrap64 ((t316.length : Int) - 1)) < (t316.length : Int) then (nat_divide.l1 kj25 x8_1 x9_25 t316 y322 (IntKind.u64.wrap (rd t316 (wrap64 ((t316.length : Int) - 1)))) (wrap64 ((y322.length : Int) - 1))) else (none)) else (none)) = some (r1, r2) := RH_
              have Ny322 := A_ hy_;clear hy_;obtain ⟨ji37, hji37⟩ : ∃ j_ : Int, (wrap64 ((t316.length : Int) - 1)) = j_ := ⟨_, rfl⟩
              first | rw [hji37] at H | simp only [hji37] at H
              have hji37w : (IntKind.i64.wrap ((t316.length : Int) - 1)) = ji37 := (i64_w _).trans hji37
              by_cases c38 : 0 ≤ (ji37)
              ·
               rw [if_pos c38] at H;have c38b0 := decide_eq_true c38;clear c38
               by_cases c39 : (ji37) < (t316.length : Int)
               ·
                rw [if_pos c39] at H;have c39b0 := decide_eq_true c39;clear c39;have H' := A_ H;clear H;obtain ⟨Ao40, co40, eo40⟩ := Kd.R_slice HO_9.out;subst eo40;obtain ⟨Ao41, co41, eo41⟩ := Kd.R_slice HO_10.out;subst eo41
                go_wp2_with (first | ((with_reducible refine gate_dst (N := 72) rfl ?_); refine Kd.R_make (Kd.int .u32) _ 115 rfl (N := 72) rfl 131 _ _ rfl ji34 rfl rfl Tryz.underlying131 (.int .u32 0) 4 info115 rfl (by decide) (by omega) 0 (ok := fun _ => True) (okp := fun _ => True) rfl (fun _ hk => hk) trivial (DA_) (Nat.le_trans (Nat.mul_le_mul_right _ (DA_ : ji34.toNat ≤ 70368744177664)) (by omega)) (Below.refl _ _) (Nat.le_refl _) ?_; intro v323 w42 ho43 hb hg_ hnew_; clear hg_ hnew_; (first | rw [← Ny322.out] at ho43 | (simp only [Int.reduceToNat] at ho43; rw [← Ny322.out] at ho43)); have HO324 := A_ (Kd.R_lower (Kd.R_new' (Kd.R_new' (Kd.R_newM (M := fun k_ => (P0_ k_ ∨ w.heap.size ≤ k_)) ho43 (KM_ HK).1 (fun k_ h_ => .inr h_)) (Kd.R_lt (K1_ HO_9))) (Kd.R_lt (K1_ HO_10))) (below_size T1_)); replace HO_9 := A_ (Kd.R_elder' (K1_ HO_9) (Kd.R_base ho43) hb); replace HO_10 := A_ (Kd.R_elder' (K1_ HO_10) (Kd.R_base ho43) hb); replace HK := A_ (Kept.below (S := (fun k_ => P0_ k_)) T5_ hb); replace HB := BS_ hb; clear hb ho43; have p325 : 0 ≤ ((ji37) : Int) := DA_; have q325 : (ji37) < (t316.length : Int) := DA_; obtain ⟨ad325, e325, hx325_0⟩ := Kd.at_int (Kd.R_reads' HO_10.out).2.2 (ji37) p325 q325; cases e325; replace p325 := eq_true p325; replace q325 := eq_true q325; obtain ⟨Ao44, co44, eo44⟩ := Kd.R_slice HO324.out; subst eo44))
                go_loopg [13] kj25 (fun kq v13 w' => ∃ (x9_3 : List Int) (x11_3 : List Int) (x13_3 : Int), v13 = .int .i64 x13_3 ∧ Aside0 (nat_divide.l1 kq x8_1 x9_3 t316 x11_3 (IntKind.u64.wrap (rd t316 (ji37))) x13_3 = some (r1, r2)) ∧ Aside0 (kq ≤ kj25) ∧ Aside0 (Kd.R (Kd.int .u32) 115 w' w0.heap.size (fun k_ => (P0_ k_ ∨ w.heap.size ≤ k_) ∧ some k_ ≠ ((.slice (some ad325) t316.length co41) : Value).ownBlock ∧ some k_ ≠ ((.slice Ao44 y322.length co44) : Value).ownBlock) (.slice Ao40 x9_25.length co40) x9_3) ∧ Aside0 (Kd.R (Kd.int .u32) 115 w' w0.heap.size (fun k_ => (P0_ k_ ∨ w.heap.size ≤ k_) ∧ some k_ ≠ ((.slice Ao40 x9_25.length co40) : Value).ownBlock ∧ some k_ ≠ ((.slice Ao44 y322.length co44) : Value).ownBlock) (.slice (some ad325) t316.length co41) t316) ∧ Aside0 (Kd.R (Kd.int .u32) 115 w' w0.heap.size (fun k_ => (P0_ k_ ∨ w.heap.size ≤ k_) ∧ some k_ ≠ ((.slice Ao40 x9_25.length co40) : Value).ownBlock ∧ some k_ ≠ ((.slice (some ad325) t316.length co41) : Value).ownBlock) (.slice Ao44 y322.length co44) x11_3) ∧ Aside0 (Kept w w' (fun k_ => P0_ k_)) ∧ Aside0 (Below w0.heap.size w0 w'))
                case atStart => exact ⟨(x9_25), (y322), (wrap64 ((y322.length : Int) - 1)), S1_, H', ⟨Nat.le_refl _⟩, ⟨by (with_reducible repeat (first | apply Kd.R_alloc | apply Kd.R_drewN | apply Kd.R_drew)); exact Kd.R_mono HO_9.out (fun _ hk => ⟨hk.1.1, ⟨hk.1.2, hk.2⟩⟩)⟩, ⟨by (with_reducible repeat (first | apply Kd.R_alloc | apply Kd.R_drewN | apply Kd.R_drew)); exact Kd.R_mono HO_10.out (fun _ hk => ⟨hk.1.1, ⟨hk.1.2, hk.2⟩⟩)⟩, ⟨by (with_reducible repeat (first | apply Kd.R_alloc | apply Kd.R_drewN | apply Kd.R_drew)); exact Kd.R_mono HO324.out (fun _ hk => ⟨hk.1.1.1, ⟨hk.1.2, hk.2⟩⟩)⟩, ⟨by repeat (first | (with_reducible first | exact HK.out | apply Kept.alloc | apply Kept.drewN | apply Kept.drew) | exact HK.out)⟩, ⟨T1_⟩⟩
                case round =>
                 clear H'
                 try clear c1
                 try clear c4
                 try clear c4b0
                 try clear c6
                 try clear c6b0
                 try clear c6b1
                 try clear c18
                 try clear c18b0
                 try clear c19
                 try clear c19b0
                 try clear c20
                 try clear c20b0
                 try clear c20b1
                 try clear c22
                 try clear c22b0
                 try clear c22b1
                 try clear c24
                 try clear c35
                 try clear c35b0
                 try clear c35b1
                 try clear c36
                 try clear c36b0
                 try clear c36b1
                 try clear c38
                 try clear c38b0
                 try clear c39
                 try clear c39b0
                 try clear hx309_0
                 try clear hx325_0
                 try clear p309
                 try clear p325
                 try clear q309
                 try clear q325
                 obtain ⟨x9_3, x11_3, x13_3, rfl, HA, HK3, HO_9, HO_10, HO_11, HK, HB⟩ := hrel;have hl9_3 := (Kd.R_reads' HO_9.out).1;rw [hl9_3] at HO_9
                 (try simp only [hl9_3])
                 (try simp only [hl9_3] at HO_10)
                 (try simp only [hl9_3] at HO_11)
                 have hl11_3 := (Kd.R_reads' HO_11.out).1;rw [hl11_3] at HO_11
                 (try simp only [hl11_3])
                 (try simp only [hl11_3] at HO_9)
                 (try simp only [hl11_3] at HO_10)
                 cases gk with
                 | zero => exact absurd HA.out (by simp [nat_divide.l1])
                 | succ k3 =>
                  have H := HA.out;clear HA;simp only [nat_divide.l1] at H
                  by_cases c45 : x13_3 ≥ 0
                  ·
                   rw [if_pos c45] at H;have c45b0 : decide (0 ≤ x13_3) = true := decide_eq_true c45;clear c45;replace H := BE_ H;obtain ⟨⟨t326, t327⟩, A460, H⟩ := H;have A46 := A_ A460;clear A460
                   by_cases c47 : 0 ≤ x13_3
                   ·
                    rw [if_pos c47] at H;have c47b0 := decide_eq_true c47;clear c47
                    by_cases c48 : x13_3 < (x11_3.length : Int)
                    ·
                     rw [if_pos c48] at H;have c48b0 := decide_eq_true c48
                     (try (have c48b0h := c48b0; simp only [hl9_3, hl11_3] at c48b0h))
                     clear c48;obtain ⟨y328, hy_⟩ : ∃ y_ : List Int, y_ = (x11_3.set (x13_3 : Int).toNat t326) := ⟨_, rfl⟩
                     replace H : (nat_divide.l1 k3 x8_1 t327 t316 y328 (IntKind.u64.wrap (rd t316 (ji37))) (wrap64 (x13_3 - 1))) = some (r1, r2) := RH_
                     have Ny328 := A_ hy_;clear hy_;have H' := A_ H;clear H
                     go_wp2_with (first | ((with_reducible refine gate_callee (f := 140) rfl ?_); refine goesL_ (some 93) rfl rfl Tryz.func140 (by kernel_rfl) rfl #[.slice Ao40 x9_3.length co40, .slice (some ad325) t316.length co41, .int .i64 x13_3, .int .u64 (IntKind.u64.wrap (rd t316 (ji37)))] rfl (by (try simp only [List.map_toArray, List.map_cons, List.map_nil]); first | done | (simp only [hji37]; rfl) | rfl | (simp only [List.length_drop, List.length_take]; rfl)) ?_; (with_reducible refine (nat_guess.calls k3 (fun k_ => some k_ = (.slice Ao40 x9_3.length co40 : Value).ownBlock) (.slice Ao40 x9_3.length co40) x9_3 _ _ t316 x13_3 (IntKind.u64.wrap (rd t316 (ji37))) t326 t327 w0 _ ?side1 ?side2 ?side3 ?side4 A46.out).mono ?_); (case side1 => repeat (first | (with_reducible first | exact HB.out | apply below_alloc | apply pw_below_drewN | apply below_drew1) | exact HB.out)); (case side2 => exact Kd.R_tight rfl HO_9.out); (case side3 => exact Kd.C_kept_own (HO_10.out) (fun k_ hk_ hs_ => (hk_.2.1) hs_)); (case side4 => exact (Kd.R_reads' HO_10.out).2.1); rintro e w50 ⟨rfl, hy0, hb, hkp⟩; refine ⟨_, rfl, ?_⟩; replace HO_10 := A_ (Kd.R_mono (ok' := fun k_ => (P0_ k_ ∨ w.heap.size ≤ k_) ∧ some k_ ≠ (.slice Ao40 x9_3.length co40 : Value).ownBlock ∧ some k_ ≠ (.slice Ao44 x11_3.length co44 : Value).ownBlock) (Kd.R_keptB (HO_10.out) hkp (fun k_ hk_ hs_ => (hk_.2.1) hs_)) (fun k_ hk_ => ⟨hk_.1.1, hk_.1.2.1, hk_.1.2.2⟩)); replace HO_11 := A_ (Kd.R_mono (ok' := fun k_ => (P0_ k_ ∨ w.heap.size ≤ k_) ∧ some k_ ≠ (.slice Ao40 x9_3.length co40 : Value).ownBlock ∧ some k_ ≠ (.slice (some ad325) t316.length co41 : Value).ownBlock) (Kd.R_keptB (HO_11.out) hkp (fun k_ hk_ hs_ => (hk_.2.1) hs_)) (fun k_ hk_ => ⟨hk_.1.1, hk_.1.2.1, hk_.1.2.2⟩)); replace HK := A_ (Kept.then_ (S := (fun k_ => P0_ k_)) T5_ hkp (fun k_ hs_ => (fun e_ => (HO_9.out.1 k_ e_.symm).1) hs_)); replace HO_9 := A_ (Kd.R_reok rfl hy0 (fun k_ e_ => HO_9.out.1 k_ e_)); replace HB := A_ (hb); clear hb hkp hy0; have p49 : 0 ≤ (x13_3 : Int) := DA_; have q49 : (x13_3 : Int) < ((x11_3.length : Int) : Int) := DA_; obtain ⟨go49, co49, eo49, gb49, gl49, cl49, HG49⟩ := Kd.R_form HO_11.out (by omega); (first | cases eo49 | (injection eo49 with ea_ en_ ec_; (first | subst ea_ | (injection ea_ with ea_; subst ea_)); subst ec_; clear en_)); have GB49 := A_ gb49; have GG49 := A_ HG49; clear gb49 gl49 HG49; have HMgo49 := A_ (show (P0_ go49 ∨ w.heap.size ≤ go49) from (HO_11.out.1 _ rfl).1); obtain ⟨hx49_0, hf49_0⟩ := Kd.R_celln 0 HO_11.out (x13_3 : Int) p49 q49; replace p49 := eq_true p49; replace q49 := eq_true q49; obtain ⟨hy51_, hz51_⟩ := Kd.R_celln 0 HO_11.out (x13_3 : Int) (DA_) (DA_); have HP51 := Kd.R_putg HO_11.out (x13_3 : Int) t326) | ((with_reducible refine gate_store (t := 115) (p := 94) rfl ?_); refine store_event (t := 115) (p := 94) (v := ?vo_w52) (w1 := (w50.setCell ⟨go49, (x13_3 : Int).toNat, none⟩ (.int .u32 t326))) ?hg ?ho ?hn ?hr ?_; (case ho => rfl); (case hg => rfl); (case hn => rfl); (case hr => exact T3_); intro w52 hw; have hg : w50.grownBy w52 (some go49) := (by rw [hw]; exact HP51.2); have hp_ : Kd.R (Kd.int .u32) 115 w52 w0.heap.size (fun k_ => (P0_ k_ ∨ w.heap.size ≤ k_) ∧ some k_ ≠ (.slice Ao40 x9_3.length co40 : Value).ownBlock ∧ some k_ ≠ (.slice (some ad325) t316.length co41 : Value).ownBlock) (.slice (some ⟨go49, 0, none⟩) x11_3.length co44) y328 := (by rw [hw, Ny328.out]; exact HP51.1); clear HP51; replace HO_9 := A_ (Kd.R_after (v := (.slice (some ⟨go49, 0, none⟩) x11_3.length co44)) (v1 := (.slice (some ⟨go49, 0, none⟩) x11_3.length co44)) (ok := (fun k_ => (P0_ k_ ∨ w.heap.size ≤ k_) ∧ some k_ ≠ (.slice (some ad325) t316.length co41 : Value).ownBlock)) (by (with_reducible repeat (first | apply Kd.R_alloc | apply Kd.R_drewN | apply Kd.R_drew)); exact Kd.R_mono HO_9.out (fun _ hk => ⟨⟨hk.1, hk.2.1⟩, hk.2.2⟩)) hg (.inl rfl)); replace HO_10 := A_ (Kd.R_after (v := (.slice (some ⟨go49, 0, none⟩) x11_3.length co44)) (v1 := (.slice (some ⟨go49, 0, none⟩) x11_3.length co44)) (ok := (fun k_ => (P0_ k_ ∨ w.heap.size ≤ k_) ∧ some k_ ≠ (.slice Ao40 x9_3.length co40 : Value).ownBlock)) (by (with_reducible repeat (first | apply Kd.R_alloc | apply Kd.R_drewN | apply Kd.R_drew)); exact Kd.R_mono HO_10.out (fun _ hk => ⟨⟨hk.1, hk.2.1⟩, hk.2.2⟩)) hg (.inl rfl)); replace HB := A_ ((by rw [hw]; exact below_set (HB.out) GB49.out : Below w0.heap.size w0 w52)); replace HK := A_ (Kept.of_grown (S := (fun k_ => P0_ k_)) hg T5_ (fun k_ e_ => (HO_11.out.1 k_ e_).1)); replace HO_11 := A_ (hp_); clear hg hw hp_))
                     (try simp only [← hl9_3, ← hl11_3])
                     go_roundg k3
                     case measure => have := HK1.out; have := HJ25.out; have := HK3.out; omega
                     case rel => exact ⟨(t327), (y328), (wrap64 (x13_3 - 1)), S1_, H', ⟨by have := HK1.out; have := HJ25.out; have := HK3.out; omega⟩, ⟨by (try simp only [hl9_3]); (try simp only [hl11_3]); (with_reducible repeat (first | apply Kd.R_alloc | apply Kd.R_drewN | apply Kd.R_drew)); exact Kd.R_mono HO_9.out (fun _ hk => ⟨hk.1.1, ⟨hk.1.2, hk.2⟩⟩)⟩, ⟨by (try simp only [hl9_3]); (try simp only [hl11_3]); (with_reducible repeat (first | apply Kd.R_alloc | apply Kd.R_drewN | apply Kd.R_drew)); exact Kd.R_mono HO_10.out (fun _ hk => ⟨hk.1.1, ⟨hk.1.2, hk.2⟩⟩)⟩, ⟨by (try simp only [hl9_3]); (try simp only [hl11_3]); (with_reducible repeat (first | apply Kd.R_alloc | apply Kd.R_drewN | apply Kd.R_drew)); exact HO_11.out⟩, ⟨by repeat (first | (with_reducible first | exact HK.out | apply Kept.alloc | apply Kept.drewN | apply Kept.drew) | exact HK.out)⟩, ⟨T1_⟩⟩
                    ·
                     rw [if_neg c48] at H;exact absurd H (by simp)
                   ·
                    rw [if_neg c47] at H;exact absurd H (by simp)
                  ·
                   rw [if_neg c45] at H;have c45b0 : decide (0 ≤ x13_3) = false := decide_eq_false c45;clear c45;replace H := BE_ H;obtain ⟨t329, A530, H⟩ := H;have A53 := A_ A530;clear A530;replace H := BE_ H;obtain ⟨t332, A540, H⟩ := H;have A54 := A_ A540;clear A540
                   by_cases c55 : 0 ≤ x8_1
                   ·
                    rw [if_pos c55] at H;have c55b0 := eq_true c55;have c55b1 := decide_eq_true c55;clear c55;obtain ⟨ji56, hji56⟩ : ∃ j_ : Int, (shl .u64 1 x8_1) = j_ := ⟨_, rfl⟩
                    first | rw [hji56] at H | simp only [hji56] at H
                    (try rw [hji56] at A53)
                    (try rw [hji56] at A54)
                    have hji56_ : (IntKind.u64.wrap (1 * 2 ^ min x8_1.toNat 64)) = ji56 := hji56;have hji56z : x8_1 ≤ 64 → (IntKind.u64.wrap (1 * 2 ^ x8_1.toNat)) = ji56 := shl_small hji56
                    have hji56u : (IntKind.u64.wrap (2 ^ min x8_1.toNat 64)) = ji56 := by have h_ := hji56_; rw [Int.one_mul] at h_; exact h_
                    have hji56v : x8_1 ≤ 64 → (IntKind.u64.wrap (2 ^ x8_1.toNat)) = ji56 := fun hle_ => by have h_ := hji56z hle_; rw [Int.one_mul] at h_; exact h_
                    replace H := BE_ H;obtain ⟨⟨t335, t336⟩, A570, H⟩ := H;have A57 := A_ A570;clear A570;replace H := BE_ H;obtain ⟨t339, A580, H⟩ := H;have A58 := A_ A580;clear A580;simp only [Option.some.injEq, Prod.mk.injEq] at H;obtain ⟨rfl, rfl⟩ := H
                    go_wp2_with (first | (refine GL_ 141 96 Tryz.func141 #[.slice Ao40 x9_3.length co40] ?_; (with_reducible refine (nat_limbs_uint32.calls _ _ x9_3 t329 _ (C1_ (Kd.R_reads' HO_9.out).2.2) ((Kd.R_reads' HO_9.out).2.1) A53.out).mono ?_); rintro e w59 ⟨v330, rfl, ho0, hb⟩; refine ⟨_, rfl, ?_⟩; have HO331 := A_ (Kd.R_lower (Kd.R_new' (Kd.R_new' (Kd.R_new' (Kd.R_newM (M := fun k_ => (P0_ k_ ∨ w.heap.size ≤ k_)) ho0 (KM_ HK).1 (fun k_ h_ => .inr h_)) (Kd.R_lt (K1_ HO_9))) (Kd.R_lt (K1_ HO_10))) (Kd.R_lt (K1_ HO_11))) (below_size T1_)); replace HO_9 := A_ (Kd.R_elder' (K1_ HO_9) (Kd.R_base ho0) hb); replace HO_10 := A_ (Kd.R_elder' (K1_ HO_10) (Kd.R_base ho0) hb); replace HO_11 := A_ (Kd.R_elder' (K1_ HO_11) (Kd.R_base ho0) hb); replace HK := A_ (Kept.below (S := (fun k_ => P0_ k_)) T5_ hb); replace HB := BS_ hb; clear hb ho0; obtain ⟨Ao60, co60, eo60⟩ := Kd.R_slice HO331.out; subst eo60) | (refine GL_ 135 97 Tryz.func135 #[.slice Ao60 t329.length co60] ?_; (with_reducible refine (nat_trim.calls k3 (fun k_ => some k_ = (.slice Ao60 t329.length co60 : Value).ownBlock) (.slice Ao60 t329.length co60) t329 t332 w0 _ ?side1 ?side2 A54.out).mono ?_); (case side1 => repeat (first | (with_reducible first | exact HB.out | apply below_alloc | apply pw_below_drewN | apply below_drew1) | exact HB.out)); (case side2 => exact Kd.R_tight rfl HO331.out); rintro e w61 ⟨v333, rfl, ho0, hb, hkp⟩; refine ⟨_, rfl, ?_⟩; have n0_ := A_ (Kd.R_mono (ok' := fun k_ => (P0_ k_ ∨ w.heap.size ≤ k_) ∧ some k_ ≠ (.slice (some ad325) t316.length co41 : Value).ownBlock ∧ some k_ ≠ (.slice Ao44 x11_3.length co44 : Value).ownBlock ∧ some k_ ≠ (v333 : Value).ownBlock) (Kd.R_keptB (HO_9.out) hkp (fun k_ hk_ hs_ => (hk_.2) hs_)) (fun k_ hk_ => ⟨hk_.1.1.1, hk_.1.1.2.1, hk_.1.1.2.2, fun e_ => Or.elim (ho0.1 k_ e_.symm) (fun hs_ => hk_.2.1 hs_) (fun hn_ => Nat.not_le.2 hk_.2.2 hn_)⟩)); have n1_ := A_ (Kd.R_mono (ok' := fun k_ => (P0_ k_ ∨ w.heap.size ≤ k_) ∧ some k_ ≠ (.slice Ao40 x9_3.length co40 : Value).ownBlock ∧ some k_ ≠ (.slice Ao44 x11_3.length co44 : Value).ownBlock ∧ some k_ ≠ (v333 : Value).ownBlock) (Kd.R_keptB (HO_10.out) hkp (fun k_ hk_ hs_ => (hk_.2) hs_)) (fun k_ hk_ => ⟨hk_.1.1.1, hk_.1.1.2.1, hk_.1.1.2.2, fun e_ => Or.elim (ho0.1 k_ e_.symm) (fun hs_ => hk_.2.1 hs_) (fun hn_ => Nat.not_le.2 hk_.2.2 hn_)⟩)); have n2_ := A_ (Kd.R_mono (ok' := fun k_ => (P0_ k_ ∨ w.heap.size ≤ k_) ∧ some k_ ≠ (.slice Ao40 x9_3.length co40 : Value).ownBlock ∧ some k_ ≠ (.slice (some ad325) t316.length co41 : Value).ownBlock ∧ some k_ ≠ (v333 : Value).ownBlock) (Kd.R_keptB (HO_11.out) hkp (fun k_ hk_ hs_ => (hk_.2) hs_)) (fun k_ hk_ => ⟨hk_.1.1.1, hk_.1.1.2.1, hk_.1.1.2.2, fun e_ => Or.elim (ho0.1 k_ e_.symm) (fun hs_ => hk_.2.1 hs_) (fun hn_ => Nat.not_le.2 hk_.2.2 hn_)⟩)); have n3_ := A_ (Kd.R_mono (ok' := fun k_ => (P0_ k_ ∨ w.heap.size ≤ k_) ∧ some k_ ≠ (.slice Ao40 x9_3.length co40 : Value).ownBlock ∧ some k_ ≠ (.slice (some ad325) t316.length co41 : Value).ownBlock ∧ some k_ ≠ (.slice Ao44 x11_3.length co44 : Value).ownBlock) ho0 (fun k_ hk_ => ⟨Or.elim hk_ (fun hs_ => (HO331.out.1 k_ (hs_).symm).1.1.1.1) (fun hn_ => (.inr (Nat.le_trans (KM_ HK).1 hn_))), Or.elim hk_ (fun hs_ => fun e_ => (((HO_9.out).1 k_ e_.symm).2) hs_) (fun hn_ => (Kd.fresh' (Kd.R_lt (K1_ HO_9)) k_ hn_)), Or.elim hk_ (fun hs_ => fun e_ => (((HO_10.out).1 k_ e_.symm).2) hs_) (fun hn_ => (Kd.fresh' (Kd.R_lt (K1_ HO_10)) k_ hn_)), Or.elim hk_ (fun hs_ => fun e_ => (((HO_11.out).1 k_ e_.symm).2) hs_) (fun hn_ => (Kd.fresh' (Kd.R_lt (K1_ HO_11)) k_ hn_))⟩)); have n4_ := A_ (Kept.then_ (S := (fun k_ => P0_ k_)) T5_ hkp (fun k_ hs_ => (fun e_ => (HO331.out.1 k_ e_.symm).1.1.1.1) hs_)); have n5_ := A_ (hb); clear HO_9; clear HO_10; clear HO_11; clear HK; clear HB; clear HO331; have HO_9 := n0_; have HO_10 := n1_; have HO_11 := n2_; have HO334 := n3_; have HK := n4_; have HB := n5_; clear n0_ n1_ n2_ n3_ n4_ n5_; clear hb hkp ho0; obtain ⟨Ao62, co62, eo62⟩ := Kd.R_slice HO334.out; subst eo62) | ((with_reducible refine gate_callee (f := 138) rfl ?_); refine goesL_ (some 102) rfl rfl Tryz.func138 (by kernel_rfl) rfl #[.slice Ao62 t332.length co62, .int .u64 ji56] rfl (by (try simp only [List.map_toArray, List.map_cons, List.map_nil]); first | done | (simp only [hji56]; rfl) | rfl | (simp only [List.length_drop, List.length_take]; rfl)) ?_; (with_reducible refine (nat_small.calls k3 _ _ t332 ji56 t335 t336 _ (C1_ (Kd.R_reads' HO334.out).2.2) ((Kd.R_reads' HO334.out).2.1) A57.out).mono ?_); rintro e w63 ⟨v337, rfl, ho0, hb⟩; refine ⟨_, rfl, ?_⟩; have HO338 := A_ (Kd.R_lower (Kd.R_new' (Kd.R_new' (Kd.R_new' (Kd.R_new' (Kd.R_newM (M := fun k_ => (P0_ k_ ∨ w.heap.size ≤ k_)) ho0 (KM_ HK).1 (fun k_ h_ => .inr h_)) (Kd.R_lt (K1_ HO_9))) (Kd.R_lt (K1_ HO_10))) (Kd.R_lt (K1_ HO_11))) (Kd.R_lt (K1_ HO334))) (below_size T1_)); replace HO_9 := A_ (Kd.R_elder' (K1_ HO_9) (Kd.R_base ho0) hb); replace HO_10 := A_ (Kd.R_elder' (K1_ HO_10) (Kd.R_base ho0) hb); replace HO_11 := A_ (Kd.R_elder' (K1_ HO_11) (Kd.R_base ho0) hb); replace HO334 := A_ (Kd.R_elder' (K1_ HO334) (Kd.R_base ho0) hb); replace HK := A_ (Kept.below (S := (fun k_ => P0_ k_)) T5_ hb); replace HB := BS_ hb; clear hb ho0) | (refine GL_ 135 106 Tryz.func135 #[.slice Ao44 x11_3.length co44] ?_; (with_reducible refine (nat_trim.calls k3 (fun k_ => some k_ = (.slice Ao44 x11_3.length co44 : Value).ownBlock) (.slice Ao44 x11_3.length co44) x11_3 t339 w0 _ ?side1 ?side2 A58.out).mono ?_); (case side1 => repeat (first | (with_reducible first | exact HB.out | apply below_alloc | apply pw_below_drewN | apply below_drew1) | exact HB.out)); (case side2 => exact Kd.R_tight rfl HO_11.out); rintro e w64 ⟨v340, rfl, ho0, hb, hkp⟩; refine ⟨_, rfl, ?_⟩; have n0_ := A_ (Kd.R_mono (ok' := fun k_ => (P0_ k_ ∨ w.heap.size ≤ k_) ∧ some k_ ≠ (.slice (some ad325) t316.length co41 : Value).ownBlock ∧ some k_ ≠ (.slice Ao62 t332.length co62 : Value).ownBlock ∧ some k_ ≠ (v337 : Value).ownBlock ∧ some k_ ≠ (v340 : Value).ownBlock) (Kd.R_keptB (HO_9.out) hkp (fun k_ hk_ hs_ => (hk_.1.2.2.1) hs_)) (fun k_ hk_ => ⟨hk_.1.1.1, hk_.1.1.2.1, hk_.1.1.2.2.2, hk_.1.2, fun e_ => Or.elim (ho0.1 k_ e_.symm) (fun hs_ => hk_.2.1 hs_) (fun hn_ => Nat.not_le.2 hk_.2.2 hn_)⟩)); have n1_ := A_ (Kd.R_mono (ok' := fun k_ => (P0_ k_ ∨ w.heap.size ≤ k_) ∧ some k_ ≠ (.slice Ao40 x9_3.length co40 : Value).ownBlock ∧ some k_ ≠ (.slice Ao62 t332.length co62 : Value).ownBlock ∧ some k_ ≠ (v337 : Value).ownBlock ∧ some k_ ≠ (v340 : Value).ownBlock) (Kd.R_keptB (HO_10.out) hkp (fun k_ hk_ hs_ => (hk_.1.2.2.1) hs_)) (fun k_ hk_ => ⟨hk_.1.1.1, hk_.1.1.2.1, hk_.1.1.2.2.2, hk_.1.2, fun e_ => Or.elim (ho0.1 k_ e_.symm) (fun hs_ => hk_.2.1 hs_) (fun hn_ => Nat.not_le.2 hk_.2.2 hn_)⟩)); have n2_ := A_ (Kd.R_mono (ok' := fun k_ => (P0_ k_ ∨ w.heap.size ≤ k_) ∧ some k_ ≠ (.slice Ao40 x9_3.length co40 : Value).ownBlock ∧ some k_ ≠ (.slice (some ad325) t316.length co41 : Value).ownBlock ∧ some k_ ≠ (v337 : Value).ownBlock ∧ some k_ ≠ (v340 : Value).ownBlock) (Kd.R_keptB (HO334.out) hkp (fun k_ hk_ hs_ => (hk_.1.2.2.2) hs_)) (fun k_ hk_ => ⟨hk_.1.1.1, hk_.1.1.2.1, hk_.1.1.2.2.1, hk_.1.2, fun e_ => Or.elim (ho0.1 k_ e_.symm) (fun hs_ => hk_.2.1 hs_) (fun hn_ => Nat.not_le.2 hk_.2.2 hn_)⟩)); have n3_ := A_ (Kd.R_mono (ok' := fun k_ => (P0_ k_ ∨ w.heap.size ≤ k_) ∧ some k_ ≠ (.slice Ao40 x9_3.length co40 : Value).ownBlock ∧ some k_ ≠ (.slice (some ad325) t316.length co41 : Value).ownBlock ∧ some k_ ≠ (.slice Ao62 t332.length co62 : Value).ownBlock ∧ some k_ ≠ (v340 : Value).ownBlock) (Kd.R_keptB (HO338.out) hkp (fun k_ hk_ hs_ => (hk_.1.2) hs_)) (fun k_ hk_ => ⟨hk_.1.1.1.1.1.1, hk_.1.1.1.1.2, hk_.1.1.1.2, hk_.1.2, fun e_ => Or.elim (ho0.1 k_ e_.symm) (fun hs_ => hk_.2.1 hs_) (fun hn_ => Nat.not_le.2 hk_.2.2 hn_)⟩)); have n4_ := A_ (Kd.R_mono (ok' := fun k_ => (P0_ k_ ∨ w.heap.size ≤ k_) ∧ some k_ ≠ (.slice Ao40 x9_3.length co40 : Value).ownBlock ∧ some k_ ≠ (.slice (some ad325) t316.length co41 : Value).ownBlock ∧ some k_ ≠ (.slice Ao62 t332.length co62 : Value).ownBlock ∧ some k_ ≠ (v337 : Value).ownBlock) ho0 (fun k_ hk_ => ⟨Or.elim hk_ (fun hs_ => (HO_11.out.1 k_ (hs_).symm).1.1) (fun hn_ => (.inr (Nat.le_trans (KM_ HK).1 hn_))), Or.elim hk_ (fun hs_ => fun e_ => (((HO_9.out).1 k_ e_.symm).1.2.2.1) hs_) (fun hn_ => (Kd.fresh' (Kd.R_lt (K1_ HO_9)) k_ hn_)), Or.elim hk_ (fun hs_ => fun e_ => (((HO_10.out).1 k_ e_.symm).1.2.2.1) hs_) (fun hn_ => (Kd.fresh' (Kd.R_lt (K1_ HO_10)) k_ hn_)), Or.elim hk_ (fun hs_ => fun e_ => (((HO334.out).1 k_ e_.symm).1.2.2.2) hs_) (fun hn_ => (Kd.fresh' (Kd.R_lt (K1_ HO334)) k_ hn_)), Or.elim hk_ (fun hs_ => fun e_ => (((HO338.out).1 k_ e_.symm).1.2) hs_) (fun hn_ => (Kd.fresh' (Kd.R_lt (K1_ HO338)) k_ hn_))⟩)); have n5_ := A_ (Kept.then_ (S := (fun k_ => P0_ k_)) T5_ hkp (fun k_ hs_ => (fun e_ => (HO_11.out.1 k_ e_.symm).1.1) hs_)); have n6_ := A_ (hb); clear HO_9; clear HO_10; clear HO334; clear HO338; clear HK; clear HB; clear HO_11; have HO_9 := n0_; have HO_10 := n1_; have HO334 := n2_; have HO338 := n3_; have HO341 := n4_; have HK := n5_; have HB := n6_; clear n0_ n1_ n2_ n3_ n4_ n5_ n6_; clear hb hkp ho0))
                    go_ret2
                    exact ⟨_, _, by first | rfl | (simp [errW_none, errW_some] <;> rfl) | (simp only [← hji17, ← hji21, ← hji34, ← hji37, ← hji56]; first | rfl | (simp [errW_none, errW_some] <;> rfl)) | (simp [*, errW_none, errW_some] <;> rfl), by (with_reducible repeat (first | apply Kd.R_alloc | apply Kd.R_drewN | apply Kd.R_drew)); exact Kd.R_mono HO341.out (fun _ hk => ⟨hk.1, hk.2.2.2.2⟩), by (with_reducible repeat (first | apply Kd.R_alloc | apply Kd.R_drewN | apply Kd.R_drew)); exact Kd.R_mono HO338.out (fun _ hk => ⟨hk.1, hk.2.2.2.2⟩), T1_, by repeat (first | (with_reducible first | exact HK.out | apply Kept.alloc | apply Kept.drewN | apply Kept.drew) | exact HK.out)⟩
                   ·
                    rw [if_neg c55] at H;exact absurd H (by simp)
               ·
                rw [if_neg c39] at H;exact absurd H (by simp)
              ·
               rw [if_neg c38] at H;exact absurd H (by simp)
             ·
              rw [if_neg c36] at H;exact absurd H (by simp)
            ·
             rw [if_neg c35] at H;exact absurd H (by simp)
         ·
          rw [if_neg c24] at H;exact absurd H (by simp)
       ·
        rw [if_neg c20] at H;exact absurd H (by simp)
      ·
       rw [if_neg c19] at H;exact absurd H (by simp)
     ·
      rw [if_neg c18] at H;exact absurd H (by simp)
/-! ### nat_Div: function 89 -/
def nat_Div.f (k : Nat) (a0 : ByteArray) (a1 : ByteArray) : Option (ByteArray × ByteArray × Int) := (nat_both.f k a0 a1).bind fun bt342 => (if bt342.2.2 = true then (if (bt342.2.1.length : Int) = 0 then (some ((⟨#[]⟩ : ByteArray), (⟨#[]⟩ : ByteArray), 3)) else ((nat_divide.f k bt342.1 bt342.2.1).bind fun bt349 => ((nat_text.f k bt349.1).bind fun t355 => ((nat_text.f k bt349.2).bind fun t356 => (some (t355, t356, 0)))))) else (some ((⟨#[]⟩ : ByteArray), (⟨#[]⟩ : ByteArray), 2)))
theorem nat_Div.calls (k : Nat) (a0 : ByteArray) (a1 : ByteArray) (r1 : ByteArray) (r2 : ByteArray) (r3 : Int) (w : World) (h : nat_Div.f k a0 a1 = some (r1, r2, r3)) :
  Calls Tryz.prog 89 #[.string a0, .string a1] w fun e w' => e = .returned (.tuple #[.string r1, .string r2, .int .i64 r3]) ∧ Below w.heap.size w w' := by
 have HB := A_ (Below.refl w.heap.size w);unfold nat_Div.f at h;have H := h;clear h;replace H := BE_ H;obtain ⟨⟨t342, t343, t344⟩, A30, H⟩ := H;have A3 := A_ A30;clear A30
 by_cases c4 : t344 = true
 ·
  subst c4;rw [if_pos rfl] at H
  by_cases c5 : (t343.length : Int) = 0
  ·
   rw [if_pos c5] at H;have c5b0 : ((t343.length : Int) == 0) = true := beq_iff_eq.mpr c5;have c5b1 : ((t343.length : Int) != 0) = false := bne_eq_false_iff_eq.mpr c5;clear c5;simp only [Option.some.injEq, Prod.mk.injEq] at H;obtain ⟨rfl, rfl, rfl⟩ := H;go_enter Tryz.func89, Tryz.ntmps89
   go_wp2_with (first | (refine GL_ 112 15 Tryz.func112 #[.string a0, .string a1] ?_; (with_reducible refine (nat_both.calls k a0 a1 t342 t343 true _ A3.out).mono ?_); rintro e w6 ⟨v345, v347, rfl, ho0, ho1, hb⟩; refine ⟨_, rfl, ?_⟩; have HO346 := A_ (Kd.R_lower ho0 (below_size T1_)); have HO348 := A_ (Kd.R_lower ho1 (below_size T1_)); replace HB := BS_ hb; clear hb ho0 ho1; obtain ⟨Ao7, co7, eo7⟩ := Kd.R_slice HO348.out; subst eo7))
   go_ret3
   exact ⟨T4_, T1_⟩
  ·
   rw [if_neg c5] at H;have c5b0 : ((t343.length : Int) == 0) = false := beq_eq_false_iff_ne.mpr c5;have c5b1 : ((t343.length : Int) != 0) = true := bne_iff_ne.mpr c5
   have c5b2 : ¬ (t343 = []) := fun h_ => c5 (by rw [h_]; rfl)
   replace H := BE_ H;obtain ⟨⟨t349, t352⟩, A80, H⟩ := H;have A8 := A_ A80;clear A80;replace H := BE_ H;obtain ⟨t355, A90, H⟩ := H;have A9 := A_ A90;clear A90;replace H := BE_ H;obtain ⟨t356, A100, H⟩ := H;have A10 := A_ A100;clear A100;simp only [Option.some.injEq, Prod.mk.injEq] at H;obtain ⟨rfl, rfl, rfl⟩ := H;go_enter Tryz.func89, Tryz.ntmps89
   go_wp2_with (first | (refine GL_ 112 15 Tryz.func112 #[.string a0, .string a1] ?_; (with_reducible refine (nat_both.calls k a0 a1 t342 t343 true _ A3.out).mono ?_); rintro e w11 ⟨v345, v347, rfl, ho0, ho1, hb⟩; refine ⟨_, rfl, ?_⟩; have HO346 := A_ (Kd.R_lower ho0 (below_size T1_)); have HO348 := A_ (Kd.R_lower ho1 (below_size T1_)); replace HB := BS_ hb; clear hb ho0 ho1; obtain ⟨Ao12, co12, eo12⟩ := Kd.R_slice HO348.out; subst eo12; obtain ⟨Ao13, co13, eo13⟩ := Kd.R_slice HO346.out; subst eo13) | (refine GL_ 113 29 Tryz.func113 #[.slice Ao13 t342.length co13, .slice Ao12 t343.length co12] ?_; (with_reducible refine (nat_divide.calls k (fun k_ => some k_ = (.slice Ao13 t342.length co13 : Value).ownBlock) (.slice Ao13 t342.length co13) t342 _ _ t343 t349 t352 w _ ?side1 ?side2 ?side3 ?side4 A8.out).mono ?_); (case side1 => repeat (first | (with_reducible first | exact HB.out | apply below_alloc | apply pw_below_drewN | apply below_drew1) | exact HB.out)); (case side2 => exact Kd.R_tight rfl HO346.out); (case side3 => exact Kd.C_kept_own (HO348.out) (fun k_ hk_ hs_ => (hk_) hs_)); (case side4 => exact (Kd.R_reads' HO348.out).2.1); rintro e w14 ⟨v350, v353, rfl, ho0, ho1, hb, hkp⟩; refine ⟨_, rfl, ?_⟩; have HO351 := A_ (Kd.R_mono (ok' := fun k_ => some k_ ≠ (v353 : Value).ownBlock ∧ some k_ ≠ (.slice Ao12 t343.length co12 : Value).ownBlock) ho0 (fun k_ hk_ => ⟨hk_.2, Or.elim hk_.1 (fun hs_ => fun e_ => (((HO348.out).1 k_ e_.symm)) hs_) (fun hn_ => (Kd.fresh' (Kd.R_lt (K1_ HO348)) k_ hn_))⟩)); have HO354 := A_ (Kd.R_mono (ok' := fun k_ => some k_ ≠ (v350 : Value).ownBlock ∧ some k_ ≠ (.slice Ao12 t343.length co12 : Value).ownBlock) ho1 (fun k_ hk_ => ⟨hk_.2, Or.elim hk_.1 (fun hs_ => fun e_ => (((HO348.out).1 k_ e_.symm)) hs_) (fun hn_ => (Kd.fresh' (Kd.R_lt (K1_ HO348)) k_ hn_))⟩)); replace HO348 := A_ (Kd.R_mono (ok' := fun k_ => some k_ ≠ (v350 : Value).ownBlock ∧ some k_ ≠ (v353 : Value).ownBlock) (Kd.R_keptB (HO348.out) hkp (fun k_ hk_ hs_ => (hk_) hs_)) (fun k_ hk_ => ⟨fun e_ => Or.elim (ho0.1 k_ e_.symm).1 (fun hs_ => hk_.2.1 hs_) (fun hn_ => Nat.not_le.2 hk_.2.2 hn_), fun e_ => Or.elim (ho1.1 k_ e_.symm).1 (fun hs_ => hk_.2.1 hs_) (fun hn_ => Nat.not_le.2 hk_.2.2 hn_)⟩)); replace HB := A_ (hb); clear HO346; clear hb hkp ho0 ho1; obtain ⟨Ao15, co15, eo15⟩ := Kd.R_slice HO351.out; subst eo15) | (refine GL_ 114 33 Tryz.func114 #[.slice Ao15 t349.length co15] ?_; (with_reducible refine (nat_text.calls k (fun k_ => some k_ = (.slice Ao15 t349.length co15 : Value).ownBlock) _ _ t349 t355 _ (Kd.R_V (Kd.R_tight rfl (HO351.out))) A9.out).mono ?_); rintro e w16 ⟨rfl, hb⟩; refine ⟨_, rfl, ?_⟩; replace HO348 := RC_ HO348 hb; replace HO351 := RC_ HO351 hb; replace HO354 := RC_ HO354 hb; replace HB := BS_ hb; clear hb; obtain ⟨Ao17, co17, eo17⟩ := Kd.R_slice HO354.out; subst eo17) | (refine GL_ 114 35 Tryz.func114 #[.slice Ao17 t352.length co17] ?_; (with_reducible refine (nat_text.calls k (fun k_ => some k_ = (.slice Ao17 t352.length co17 : Value).ownBlock) _ _ t352 t356 _ (Kd.R_V (Kd.R_tight rfl (HO354.out))) A10.out).mono ?_); rintro e w18 ⟨rfl, hb⟩; refine ⟨_, rfl, ?_⟩; replace HO348 := RC_ HO348 hb; replace HO351 := RC_ HO351 hb; replace HO354 := RC_ HO354 hb; replace HB := BS_ hb; clear hb))
   go_ret3
   exact ⟨T4_, T1_⟩
 ·
  replace c4 := Bool.eq_false_iff.mpr c4;subst c4;rw [if_neg (show ¬ (false = true) by decide)] at H;simp only [Option.some.injEq, Prod.mk.injEq] at H;obtain ⟨rfl, rfl, rfl⟩ := H;go_enter Tryz.func89, Tryz.ntmps89
  go_wp2_with (first | (refine GL_ 112 15 Tryz.func112 #[.string a0, .string a1] ?_; (with_reducible refine (nat_both.calls k a0 a1 t342 t343 false _ A3.out).mono ?_); rintro e w19 ⟨v345, v347, rfl, ho0, ho1, hb⟩; refine ⟨_, rfl, ?_⟩; have HO346 := A_ (Kd.R_lower ho0 (below_size T1_)); have HO348 := A_ (Kd.R_lower ho1 (below_size T1_)); replace HB := BS_ hb; clear hb ho0 ho1))
  go_ret3
  exact ⟨T4_, T1_⟩
/-! ### nat_Gcd: function 88 -/
def nat_Gcd.l0 : Nat → List Int → List Int → Option (ByteArray × Int)
 | 0, _, _ => none
 | k + 1, x6, x7 => if (x7.length : Int) > 0 then ((nat_divide.f k x6 x7).bind fun bt364 => (nat_Gcd.l0 k x7 bt364.2)) else ((nat_text.f k x6).bind fun t370 => (some (t370, 0)))
def nat_Gcd.f (k : Nat) (a0 : ByteArray) (a1 : ByteArray) : Option (ByteArray × Int) := (nat_both.f k a0 a1).bind fun bt357 => (if bt357.2.2 = true then (nat_Gcd.l0 k bt357.1 bt357.2.1) else (some ((⟨#[]⟩ : ByteArray), 2)))
theorem nat_Gcd.calls (k : Nat) (a0 : ByteArray) (a1 : ByteArray) (r1 : ByteArray) (r2 : Int) (w : World) (h : nat_Gcd.f k a0 a1 = some (r1, r2)) :
  Calls Tryz.prog 88 #[.string a0, .string a1] w fun e w' => e = .returned (.tuple #[.string r1, .int .i64 r2]) ∧ Below w.heap.size w w' := by
 have HB := A_ (Below.refl w.heap.size w);unfold nat_Gcd.f at h;have H := h;clear h;replace H := BE_ H;obtain ⟨⟨t357, t358, t359⟩, A30, H⟩ := H;have A3 := A_ A30;clear A30
 by_cases c4 : t359 = true
 ·
  subst c4;rw [if_pos rfl] at H;have H' := A_ H;clear H;go_enter Tryz.func88, Tryz.ntmps88
  go_wp2_with (first | (refine GL_ 112 14 Tryz.func112 #[.string a0, .string a1] ?_; (with_reducible refine (nat_both.calls k a0 a1 t357 t358 true _ A3.out).mono ?_); rintro e w5 ⟨v360, v362, rfl, ho0, ho1, hb⟩; refine ⟨_, rfl, ?_⟩; have HO361 := A_ (Kd.R_lower ho0 (below_size T1_)); have HO363 := A_ (Kd.R_lower ho1 (below_size T1_)); replace HB := BS_ hb; clear hb ho0 ho1))
  go_loopg [6, 7] k (fun kq v6 v7 w' => ∃ (x6_1 : List Int) (x7_1 : List Int), Aside0 (nat_Gcd.l0 kq x6_1 x7_1 = some (r1, r2)) ∧ Aside0 (kq ≤ k) ∧ Aside0 (Kd.R (Kd.int .u32) 115 w' w.heap.size (fun k_ => some k_ ≠ (v7 : Value).ownBlock) v6 x6_1) ∧ Aside0 (Kd.R (Kd.int .u32) 115 w' w.heap.size (fun k_ => some k_ ≠ (v6 : Value).ownBlock) v7 x7_1) ∧ Aside0 (Below w.heap.size w w'))
  case atStart => exact ⟨(t357), (t358), H', ⟨Nat.le_refl _⟩, ⟨by (with_reducible repeat (first | apply Kd.R_alloc | apply Kd.R_drewN | apply Kd.R_drew)); exact HO361.out⟩, ⟨by (with_reducible repeat (first | apply Kd.R_alloc | apply Kd.R_drewN | apply Kd.R_drew)); exact HO363.out⟩, ⟨T1_⟩⟩
  case round =>
   clear H'
   try clear c4
   obtain ⟨x6_1, x7_1, HA, HK1, HO_6, HO_7, HB⟩ := hrel
   cases gk with
   | zero => exact absurd HA.out (by simp [nat_Gcd.l0])
   | succ k1 =>
    have H := HA.out;clear HA;simp only [nat_Gcd.l0] at H
    by_cases c6 : (x7_1.length : Int) > 0
    ·
     rw [if_pos c6] at H;have c6b0 : decide (0 < (x7_1.length : Int)) = true := decide_eq_true c6;have c6b1 : decide (0 < x7_1.length) = true := decide_eq_true (by omega);clear c6;replace H := BE_ H;obtain ⟨⟨t364, t367⟩, A70, H⟩ := H;have A7 := A_ A70;clear A70;have H' := A_ H;clear H;obtain ⟨Ao8, co8, eo8⟩ := Kd.R_slice HO_7.out;subst eo8;obtain ⟨Ao9, co9, eo9⟩ := Kd.R_slice HO_6.out;subst eo9
     go_wp2_with (first | (refine GL_ 113 26 Tryz.func113 #[.slice Ao9 x6_1.length co9, .slice Ao8 x7_1.length co8] ?_; (with_reducible refine (nat_divide.calls k1 (fun k_ => some k_ = (.slice Ao9 x6_1.length co9 : Value).ownBlock) (.slice Ao9 x6_1.length co9) x6_1 _ _ x7_1 t364 t367 w _ ?side1 ?side2 ?side3 ?side4 A7.out).mono ?_); (case side1 => repeat (first | (with_reducible first | exact HB.out | apply below_alloc | apply pw_below_drewN | apply below_drew1) | exact HB.out)); (case side2 => exact Kd.R_tight rfl HO_6.out); (case side3 => exact Kd.C_kept_own (HO_7.out) (fun k_ hk_ hs_ => (hk_) hs_)); (case side4 => exact (Kd.R_reads' HO_7.out).2.1); rintro e w10 ⟨v365, v368, rfl, ho0, ho1, hb, hkp⟩; refine ⟨_, rfl, ?_⟩; have HO366 := A_ (Kd.R_mono (ok' := fun k_ => some k_ ≠ (v368 : Value).ownBlock ∧ some k_ ≠ (.slice Ao8 x7_1.length co8 : Value).ownBlock) ho0 (fun k_ hk_ => ⟨hk_.2, Or.elim hk_.1 (fun hs_ => fun e_ => (((HO_7.out).1 k_ e_.symm)) hs_) (fun hn_ => (Kd.fresh' (Kd.R_lt (K1_ HO_7)) k_ hn_))⟩)); have HO369 := A_ (Kd.R_mono (ok' := fun k_ => some k_ ≠ (v365 : Value).ownBlock ∧ some k_ ≠ (.slice Ao8 x7_1.length co8 : Value).ownBlock) ho1 (fun k_ hk_ => ⟨hk_.2, Or.elim hk_.1 (fun hs_ => fun e_ => (((HO_7.out).1 k_ e_.symm)) hs_) (fun hn_ => (Kd.fresh' (Kd.R_lt (K1_ HO_7)) k_ hn_))⟩)); replace HO_7 := A_ (Kd.R_mono (ok' := fun k_ => some k_ ≠ (v365 : Value).ownBlock ∧ some k_ ≠ (v368 : Value).ownBlock) (Kd.R_keptB (HO_7.out) hkp (fun k_ hk_ hs_ => (hk_) hs_)) (fun k_ hk_ => ⟨fun e_ => Or.elim (ho0.1 k_ e_.symm).1 (fun hs_ => hk_.2.1 hs_) (fun hn_ => Nat.not_le.2 hk_.2.2 hn_), fun e_ => Or.elim (ho1.1 k_ e_.symm).1 (fun hs_ => hk_.2.1 hs_) (fun hn_ => Nat.not_le.2 hk_.2.2 hn_)⟩)); replace HB := A_ (hb); clear HO_6; clear hb hkp ho0 ho1))
     go_roundg k1
     case measure => have := HK1.out; omega
     case rel => exact ⟨(x7_1), (t367), H', ⟨by have := HK1.out; omega⟩, ⟨by (with_reducible repeat (first | apply Kd.R_alloc | apply Kd.R_drewN | apply Kd.R_drew)); exact Kd.R_mono HO_7.out (fun _ hk => hk.2)⟩, ⟨by (with_reducible repeat (first | apply Kd.R_alloc | apply Kd.R_drewN | apply Kd.R_drew)); exact Kd.R_mono HO369.out (fun _ hk => hk.2)⟩, ⟨T1_⟩⟩
    ·
     rw [if_neg c6] at H;have c6b0 : decide (0 < (x7_1.length : Int)) = false := decide_eq_false c6;have c6b1 : decide (0 < x7_1.length) = false := decide_eq_false (by omega);clear c6;replace H := BE_ H;obtain ⟨t370, A110, H⟩ := H;have A11 := A_ A110;clear A110;simp only [Option.some.injEq, Prod.mk.injEq] at H;obtain ⟨rfl, rfl⟩ := H;obtain ⟨Ao12, co12, eo12⟩ := Kd.R_slice HO_7.out;subst eo12;obtain ⟨Ao13, co13, eo13⟩ := Kd.R_slice HO_6.out;subst eo13
     go_wp2_with (first | (refine GL_ 114 32 Tryz.func114 #[.slice Ao13 x6_1.length co13] ?_; (with_reducible refine (nat_text.calls k1 (fun k_ => some k_ = (.slice Ao13 x6_1.length co13 : Value).ownBlock) _ _ x6_1 t370 _ (Kd.R_V (Kd.R_tight rfl (HO_6.out))) A11.out).mono ?_); rintro e w14 ⟨rfl, hb⟩; refine ⟨_, rfl, ?_⟩; replace HO_6 := RC_ HO_6 hb; replace HO_7 := RC_ HO_7 hb; replace HB := BS_ hb; clear hb))
     go_ret2
     exact ⟨T4_, T1_⟩
 ·
  replace c4 := Bool.eq_false_iff.mpr c4;subst c4;rw [if_neg (show ¬ (false = true) by decide)] at H;simp only [Option.some.injEq, Prod.mk.injEq] at H;obtain ⟨rfl, rfl⟩ := H;go_enter Tryz.func88, Tryz.ntmps88
  go_wp2_with (first | (refine GL_ 112 14 Tryz.func112 #[.string a0, .string a1] ?_; (with_reducible refine (nat_both.calls k a0 a1 t357 t358 false _ A3.out).mono ?_); rintro e w15 ⟨v360, v362, rfl, ho0, ho1, hb⟩; refine ⟨_, rfl, ?_⟩; have HO361 := A_ (Kd.R_lower ho0 (below_size T1_)); have HO363 := A_ (Kd.R_lower ho1 (below_size T1_)); replace HB := BS_ hb; clear hb ho0 ho1))
  go_ret2
  exact ⟨T4_, T1_⟩
end Go.Proofs.YtndkjpkgllmbnaaGreatDoor.PA
