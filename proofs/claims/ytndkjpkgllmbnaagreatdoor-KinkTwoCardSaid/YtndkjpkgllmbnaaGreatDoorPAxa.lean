-- by wip/tool/mine.py of this repo (the kit's printer with given contracts)
import Derived.Test.YtndkjpkgllmbnaaGreatDoorStr
namespace Go.Proofs.YtndkjpkgllmbnaaGreatDoor.PA
open Go.RowKit Go.ZPWords Go.ZPLast Go.ZPMore
attribute [local go_sem] max2_int min2_int max_two min_two max_three min_three max_four min_four   -- for this text's walks alone
set_option linter.unusedVariables false
set_option linter.unusedSimpArgs false
set_option maxHeartbeats 8000000
set_option maxRecDepth 100000
def errW : Option Int → Value
 | none => .nilIface
 | some c => .iface 0 (.int .i64 c)
theorem errW_none : errW none = .nilIface := rfl
theorem errW_some (c : Int) : errW (some c) = .iface 0 (.int .i64 c) := rfl
theorem info5 : (Tryz.prog.info? 5).map (fun i => (i.zero, i.size, i.bytes)) = some (some (.int .u8 0), 1, 1) := by kernel_rfl
theorem info115 : (Tryz.prog.info? 115).map (fun i => (i.zero, i.size, i.bytes)) = some (some (.int .u32 0), 1, 4) := by kernel_rfl
/-! ### nat_Right: function 81 -/
def nat_Right.f (a0 : ByteArray) : Option Bool := some (Str.right a0)
theorem nat_Right.calls (a0 : ByteArray) (r : Bool) (w : World) (h : nat_Right.f a0 = some r) :
  Calls Tryz.prog 81 #[.string a0] w fun e w' => e = .returned (.bool r) ∧ Below w.heap.size w w' := by
 obtain rfl := Option.some.inj h;exact Str.right_calls a0 w
/-! ### nat_trim: function 135 -/
def nat_trim.l0 : Nat → List Int → Option (List Int)
 | 0, _ => none
 | k + 1, x0 => if (x0.length : Int) > 0 then (if 0 ≤ (wrap64 ((x0.length : Int) - 1)) then (if (wrap64 ((x0.length : Int) - 1)) < (x0.length : Int) then (if (rd x0 (wrap64 ((x0.length : Int) - 1))) = 0 then (if (wrap64 ((x0.length : Int) - 1)) ≤ (x0.length : Int) then (nat_trim.l0 k (x0.take ((wrap64 ((x0.length : Int) - 1)) : Int).toNat)) else (none)) else (some x0)) else (none)) else (none)) else (some x0)
def nat_trim.f (k : Nat) (l0 : List Int) : Option (List Int) := nat_trim.l0 k l0
theorem nat_trim.calls (k : Nat) (P0_ : Nat → Prop) (u9000_ : Value) (l0 : List Int) (r : List Int) (w0 w : World) (hB : Below w0.heap.size w0 w) (ho0 : Kd.R (Kd.int .u32) 115 w w0.heap.size P0_ u9000_ l0) (h : nat_trim.f k l0 = some r) :
  Calls Tryz.prog 135 #[u9000_] w fun e w' => ∃ v0_ : Value, e = .returned (v0_) ∧ Kd.R (Kd.int .u32) 115 w' w0.heap.size (fun k_ => (P0_ k_ ∨ w.heap.size ≤ k_)) v0_ r ∧ Below w0.heap.size w0 w' ∧ Kept w w' (fun k_ => P0_ k_) := by
 have HO0 := A_ (show Kd.R (Kd.int .u32) 115 w w0.heap.size (fun k_ => (P0_ k_ ∨ w.heap.size ≤ k_)) u9000_ l0 from Kd.R_mono ho0 (fun k_ hk => (.inl hk)));have HK := A_ (Kept.refl w (fun k_ => P0_ k_));have HW0 := A_ hB.size;have HB := A_ hB;clear hB;unfold nat_trim.f at h;have H := h;clear h;have H' := A_ H;clear H;go_enter Tryz.func135, Tryz.ntmps135
 go_wp2
 go_loopg [0] k (fun kq v0 w' => ∃ (x0_1 : List Int), Aside0 (nat_trim.l0 kq x0_1 = some r) ∧ Aside0 (kq ≤ k) ∧ Aside0 (Kd.R (Kd.int .u32) 115 w' w0.heap.size (fun k_ => (P0_ k_ ∨ w.heap.size ≤ k_)) v0 x0_1) ∧ Aside0 (Kept w w' (fun k_ => P0_ k_)) ∧ Aside0 (Below w0.heap.size w0 w'))
 case atStart => exact ⟨(l0), H', ⟨Nat.le_refl _⟩, ⟨by (with_reducible repeat (first | apply Kd.R_alloc | apply Kd.R_drewN | apply Kd.R_drew)); exact HO0.out⟩, ⟨by repeat (first | (with_reducible first | exact HK.out | apply Kept.alloc | apply Kept.drewN | apply Kept.drew) | exact HK.out)⟩, ⟨T1_⟩⟩
 case round =>
  clear H'
  obtain ⟨x0_1, HA, HK1, HO_0, HK, HB⟩ := hrel
  cases gk with
  | zero => exact absurd HA.out (by simp [nat_trim.l0])
  | succ k1 =>
   have H := HA.out;clear HA;simp only [nat_trim.l0] at H
   by_cases c2 : (x0_1.length : Int) > 0
   ·
    rw [if_pos c2] at H;have c2b0 : decide (0 < (x0_1.length : Int)) = true := decide_eq_true c2;have c2b1 : decide (0 < x0_1.length) = true := decide_eq_true (by omega);clear c2;obtain ⟨ji3, hji3⟩ : ∃ j_ : Int, (wrap64 ((x0_1.length : Int) - 1)) = j_ := ⟨_, rfl⟩
    first | rw [hji3] at H | simp only [hji3] at H
    have hji3w : (IntKind.i64.wrap ((x0_1.length : Int) - 1)) = ji3 := (i64_w _).trans hji3
    by_cases c4 : 0 ≤ (ji3)
    ·
     rw [if_pos c4] at H;have c4b0 := decide_eq_true c4;clear c4
     by_cases c5 : (ji3) < (x0_1.length : Int)
     ·
      rw [if_pos c5] at H;have c5b0 := decide_eq_true c5;clear c5
      by_cases c6 : (rd x0_1 (ji3)) = 0
      ·
       rw [if_pos c6] at H;have c6b0 : ((rd x0_1 (ji3)) == 0) = true := beq_iff_eq.mpr c6;have c6b1 : ((rd x0_1 (ji3)) != 0) = false := bne_eq_false_iff_eq.mpr c6;clear c6
       by_cases c7 : (ji3) ≤ (x0_1.length : Int)
       ·
        rw [if_pos c7] at H;have c7b0 := eq_true c7;have c7b1 := decide_eq_true c7;clear c7;obtain ⟨y102, hy_⟩ : ∃ y_ : List Int, y_ = (x0_1.take ((ji3) : Int).toNat) := ⟨_, rfl⟩
        replace H : (nat_trim.l0 k1 y102) = some r := RH_
        have Ny102 := A_ hy_;clear hy_;have H' := A_ H;clear H;obtain ⟨Ao8, co8, eo8⟩ := Kd.R_slice HO_0.out;subst eo8;have p101 : 0 ≤ ((ji3) : Int) := DA_;have q101 : (ji3) < (x0_1.length : Int) := DA_;obtain ⟨ad101, e101, hx101_0⟩ := Kd.at_int (Kd.R_reads' HO_0.out).2.2 (ji3) p101 q101
        cases e101
        replace p101 := eq_true p101;replace q101 := eq_true q101;have q9 : ((ji3) : Int) ≤ ((x0_1.length : Int) : Int) := DA_;obtain ⟨i09, hi09, _, hsz9, _⟩ := info_parts info115;have hcut9 := cut_to (P := Tryz.prog) 131 115 .i64 Tryz.underlying131 hi09 (some ad101) x0_1.length co8 (ji3) (DA_) q9 (Kd.R_reads' HO_0.out).2.1;have hr9 := Kd.R_take (m := ((ji3) : Int).toNat) HO_0.out (by omega);have hy9 : y102.length = ((ji3) : Int).toNat := (by rw [Ny102.out, List.length_take]; omega);rw [← Ny102.out] at hr9;rw [← hy9] at hr9 hcut9;clear hy9 hi09 hsz9 HO_0;have HO104 := A_ hr9;clear hr9;replace q9 := eq_true q9
        go_wp2
        go_roundg k1
        case measure => have := HK1.out; omega
        case rel => exact ⟨(y102), H', ⟨by have := HK1.out; omega⟩, ⟨by (with_reducible repeat (first | apply Kd.R_alloc | apply Kd.R_drewN | apply Kd.R_drew)); exact HO104.out⟩, ⟨by repeat (first | (with_reducible first | exact HK.out | apply Kept.alloc | apply Kept.drewN | apply Kept.drew) | exact HK.out)⟩, ⟨T1_⟩⟩
       ·
        rw [if_neg c7] at H;exact absurd H (by simp)
      ·
       rw [if_neg c6] at H;have c6b0 : ((rd x0_1 (ji3)) == 0) = false := beq_eq_false_iff_ne.mpr c6;have c6b1 : ((rd x0_1 (ji3)) != 0) = true := bne_iff_ne.mpr c6;obtain rfl := Option.some.inj H;obtain ⟨Ao10, co10, eo10⟩ := Kd.R_slice HO_0.out;subst eo10;have p101 : 0 ≤ ((ji3) : Int) := DA_;have q101 : (ji3) < (x0_1.length : Int) := DA_;obtain ⟨ad101, e101, hx101_0⟩ := Kd.at_int (Kd.R_reads' HO_0.out).2.2 (ji3) p101 q101
       cases e101
       replace p101 := eq_true p101;replace q101 := eq_true q101
       go_wp2
       go_ret
       exact ⟨_, by first | rfl | (simp [errW_none, errW_some] <;> rfl) | (simp only [← hji3]; first | rfl | (simp [errW_none, errW_some] <;> rfl)) | (simp [*, errW_none, errW_some] <;> rfl), by (with_reducible repeat (first | apply Kd.R_alloc | apply Kd.R_drewN | apply Kd.R_drew)); exact HO_0.out, T1_, by repeat (first | (with_reducible first | exact HK.out | apply Kept.alloc | apply Kept.drewN | apply Kept.drew) | exact HK.out)⟩
     ·
      rw [if_neg c5] at H;exact absurd H (by simp)
    ·
     rw [if_neg c4] at H;exact absurd H (by simp)
   ·
    rw [if_neg c2] at H;have c2b0 : decide (0 < (x0_1.length : Int)) = false := decide_eq_false c2;have c2b1 : decide (0 < x0_1.length) = false := decide_eq_false (by omega);clear c2;obtain rfl := Option.some.inj H;obtain ⟨Ao11, co11, eo11⟩ := Kd.R_slice HO_0.out;subst eo11
    go_wp2
    go_ret
    exact ⟨_, by first | rfl | (simp [errW_none, errW_some] <;> rfl) | (simp [*, errW_none, errW_some] <;> rfl), by (with_reducible repeat (first | apply Kd.R_alloc | apply Kd.R_drewN | apply Kd.R_drew)); exact HO_0.out, T1_, by repeat (first | (with_reducible first | exact HK.out | apply Kept.alloc | apply Kept.drewN | apply Kept.drew) | exact HK.out)⟩
/-! ### nat_step: function 155 -/
def nat_step.l0 : Nat → Int → Int → List Int → List Int → Int → Int → Option (List Int)
 | 0, _, _, _, _, _, _ => none
 | k + 1, x1, x2, x7, x14, x15, x16 => if x16 < x15 then (if 0 ≤ x16 then (if x16 < (x14.length : Int) then (if x7.length < 35184372088832 then (nat_step.l0 k x1 ((IntKind.u64.wrap (x2 + (IntKind.u64.wrap ((IntKind.u64.wrap (rd x14 x16)) * x1)))) / 4294967296) (x7 ++ [(IntKind.u64.wrap (x2 + (IntKind.u64.wrap ((IntKind.u64.wrap (rd x14 x16)) * x1)))) % 4294967296]) x14 x15 (wrap64 (x16 + 1))) else (none)) else (none)) else (none)) else (if x7.length < 35184372088832 then ((nat_trim.f k (x7 ++ [(x2) % 4294967296])).bind fun t115 => (some t115)) else (none))
def nat_step.f (k : Nat) (l0 : List Int) (a1 : Int) (a2 : Int) : Option (List Int) := if 0 ≤ (wrap64 ((l0.length : Int) + 1)) then (if ((wrap64 ((l0.length : Int) + 1)) : Int).toNat ≤ 70368744177664 then (nat_step.l0 k a1 a2 (([] : List Int)) l0 (l0.length : Int) 0) else (none)) else (none)
theorem nat_step.calls (k : Nat) (A0 : Option Addr) (c0 : Nat) (l0 : List Int) (a1 : Int) (a2 : Int) (r : List Int) (w : World) (hr0 : Kd.C (Kd.int .u32) w A0 l0.length l0) (hc0 : l0.length ≤ c0) (h : nat_step.f k l0 a1 a2 = some r) :
  Calls Tryz.prog 155 #[.slice A0 l0.length c0, .int .u64 a1, .int .u64 a2] w fun e w' => ∃ v0_ : Value, e = .returned (v0_) ∧ Kd.R (Kd.int .u32) 115 w' w.heap.size (fun _ => True) v0_ r ∧ Below w.heap.size w w' := by
 have HR0 := A_ hr0;have HC0 := A_ hc0;clear hr0 hc0;have HB := A_ (Below.refl w.heap.size w);unfold nat_step.f at h;have H := h;clear h;obtain ⟨ji4, hji4⟩ : ∃ j_ : Int, (wrap64 ((l0.length : Int) + 1)) = j_ := ⟨_, rfl⟩
 first | rw [hji4] at H | simp only [hji4] at H
 have hji4w : (IntKind.i64.wrap ((l0.length : Int) + 1)) = ji4 := (i64_w _).trans hji4
 by_cases c5 : 0 ≤ (ji4)
 ·
  rw [if_pos c5] at H;have c5b0 := eq_true c5;have c5b1 := decide_eq_true c5;clear c5
  by_cases c6 : ((ji4) : Int).toNat ≤ 70368744177664
  ·
   rw [if_pos c6] at H;have c6b0 := eq_true c6;have c6b1 := decide_eq_true c6;clear c6;obtain ⟨y105, hy_⟩ : ∃ y_ : List Int, y_ = (([] : List Int)) := ⟨_, rfl⟩
   replace H : (nat_step.l0 k a1 a2 y105 l0 (l0.length : Int) 0) = some r := RH_
   have Ny105 := A_ hy_;clear hy_;have H' := A_ H;clear H;go_enter Tryz.func155, Tryz.ntmps155
   go_wp2_with (first | ((with_reducible refine gate_dst (N := 13) rfl ?_); refine Go.Proofs.YtndkjpkgllmbnaaGreatDoor.Mine.R_make0 (Kd.int .u32) _ 115 rfl (N := 13) rfl 131 _ _ rfl ji4 rfl rfl Tryz.underlying131 (.int .u32 0) 4 info115 (by decide) (by decide) (ok := fun _ => True) trivial (DA_) (Nat.le_trans (Nat.mul_le_mul_right _ (DA_ : (ji4 : Int).toNat ≤ 70368744177664)) (by omega)) (Below.refl _ _) (Nat.le_refl _) ?_; intro v106 w7 ho8 hb hg_ hnew_; clear hg_ hnew_; (first | rw [← Ny105.out] at ho8 | (simp only [Int.reduceToNat] at ho8; rw [← Ny105.out] at ho8)); have HO107 := A_ (Kd.R_lower ho8 (below_size T1_)); replace HB := BS_ hb; clear hb ho8))
   go_loopg [2, 7, 16] k (fun kq v2 v7 v16 w' => ∃ (x2_1 : Int) (x7_1 : List Int) (x16_1 : Int), v2 = .int .u64 x2_1 ∧ v16 = .int .i64 x16_1 ∧ Aside0 (nat_step.l0 kq a1 x2_1 x7_1 l0 (l0.length : Int) x16_1 = some r) ∧ Aside0 (kq ≤ k) ∧ Aside0 (Kd.R (Kd.int .u32) 115 w' w.heap.size (fun _ => True) v7 x7_1) ∧ Aside0 (Below w.heap.size w w'))
   case atStart => exact ⟨(a2), (y105), (0), S1_, S1_, H', ⟨Nat.le_refl _⟩, ⟨by (with_reducible repeat (first | apply Kd.R_alloc | apply Kd.R_drewN | apply Kd.R_drew)); exact HO107.out⟩, ⟨T1_⟩⟩
   case round =>
    clear H'
    try clear c5
    try clear c5b0
    try clear c5b1
    try clear c6
    try clear c6b0
    try clear c6b1
    obtain ⟨x2_1, x7_1, x16_1, rfl, rfl, HA, HK1, HO_7, HB⟩ := hrel
    cases gk with
    | zero => exact absurd HA.out (by simp [nat_step.l0])
    | succ k1 =>
     have H := HA.out;clear HA;simp only [nat_step.l0] at H
     by_cases c9 : x16_1 < (l0.length : Int)
     ·
      rw [if_pos c9] at H;have c9b0 := decide_eq_true c9;clear c9
      by_cases c10 : 0 ≤ x16_1
      ·
       rw [if_pos c10] at H;have c10b0 := decide_eq_true c10;clear c10
       by_cases c11 : x16_1 < (l0.length : Int)
       ·
        rw [if_pos c11] at H;have c11b0 := decide_eq_true c11;clear c11
        by_cases c12 : x7_1.length < 35184372088832
        ·
         rw [if_pos c12] at H;have LMc12 := A_ c12;clear c12;obtain ⟨y109, hy_⟩ : ∃ y_ : List Int, y_ = (x7_1 ++ [(IntKind.u64.wrap (x2_1 + (IntKind.u64.wrap ((IntKind.u64.wrap (rd l0 x16_1)) * a1)))) % 4294967296]) := ⟨_, rfl⟩
         replace H : (nat_step.l0 k1 a1 ((IntKind.u64.wrap (x2_1 + (IntKind.u64.wrap ((IntKind.u64.wrap (rd l0 x16_1)) * a1)))) / 4294967296) y109 l0 (l0.length : Int) (wrap64 (x16_1 + 1))) = some r := RH_
         have Ny109 := A_ hy_;clear hy_;have H' := A_ H;clear H;have p108 : 0 ≤ (x16_1 : Int) := DA_;have q108 : x16_1 < (l0.length : Int) := DA_;obtain ⟨ad108, e108, hx108_0⟩ := Kd.at_int HR0.out x16_1 p108 q108
         cases e108
         replace hx108_0 := (HB.out.cell (World.block_lt_of_cell? w _ hx108_0)).trans hx108_0;replace p108 := eq_true p108;replace q108 := eq_true q108
         go_wp2_with (first | ((with_reducible refine gate_builtin (b := .append) (xs := #[.tmp 26, .tmp 29]) rfl ?_); at_builtin; refine Kd.R_append (Kd.int .u32) (w0 := w) w.heap.size rfl (.tmp 26) (.tmp 29) 131 115 (.int .u32 0) 4 rfl Tryz.underlying131 info115 rfl (by decide) (by omega) u7 x7_1 ((IntKind.u64.wrap (x2_1 + (IntKind.u64.wrap ((IntKind.u64.wrap (rd l0 x16_1)) * a1)))) % 4294967296) [.int .u32 ((IntKind.u64.wrap (x2_1 + (IntKind.u64.wrap ((IntKind.u64.wrap (rd l0 x16_1)) * a1)))) % 4294967296)] (fun _ => True) (fun _ => False) rfl rfl ?aP (fun _ hk => hk.elim) ?aF ?aO ?aB ?aS ?aL ?_; (case aP => exact rfl); (case aB => exact T1_); (case aF => exact (fun _ _ => trivial)); (case aO => exact (K1_ HO_7)); (case aS => exact (below_size T1_)); (case aL => have := LMc12.out; omega); intro v110 w13 ho hb hg hat; rw [← Ny109.out] at ho; have HO111 := A_ (ho); replace HB := A_ (hb); clear HO_7; clear ho hb hg hat))
         go_roundg k1
         case measure => have := HK1.out; omega
         case rel => exact ⟨((IntKind.u64.wrap (x2_1 + (IntKind.u64.wrap ((IntKind.u64.wrap (rd l0 x16_1)) * a1)))) / 4294967296), (y109), (wrap64 (x16_1 + 1)), S1_, S1_, H', ⟨by have := HK1.out; omega⟩, ⟨by (with_reducible repeat (first | apply Kd.R_alloc | apply Kd.R_drewN | apply Kd.R_drew)); exact HO111.out⟩, ⟨T1_⟩⟩
        ·
         rw [if_neg c12] at H;exact absurd H (by simp)
       ·
        rw [if_neg c11] at H;exact absurd H (by simp)
      ·
       rw [if_neg c10] at H;exact absurd H (by simp)
     ·
      rw [if_neg c9] at H;have c9b0 := decide_eq_false c9;clear c9
      by_cases c14 : x7_1.length < 35184372088832
      ·
       rw [if_pos c14] at H;have LMc14 := A_ c14;clear c14;obtain ⟨y112, hy_⟩ : ∃ y_ : List Int, y_ = (x7_1 ++ [(x2_1) % 4294967296]) := ⟨_, rfl⟩
       replace H : ((nat_trim.f k1 y112).bind fun t115 => (some t115)) = some r := RH_
       have Ny112 := A_ hy_;clear hy_;replace H := BE_ H;obtain ⟨t115, A150, H⟩ := H;have A15 := A_ A150;clear A150;obtain rfl := Option.some.inj H
       go_wp2_with (first | ((with_reducible refine gate_builtin (b := .append) (xs := #[.tmp 34, .tmp 37]) rfl ?_); at_builtin; refine Kd.R_append (Kd.int .u32) (w0 := w) w.heap.size rfl (.tmp 34) (.tmp 37) 131 115 (.int .u32 0) 4 rfl Tryz.underlying131 info115 rfl (by decide) (by omega) u7 x7_1 ((x2_1) % 4294967296) [.int .u32 ((x2_1) % 4294967296)] (fun _ => True) (fun _ => False) rfl rfl ?aP (fun _ hk => hk.elim) ?aF ?aO ?aB ?aS ?aL ?_; (case aP => exact rfl); (case aB => exact T1_); (case aF => exact (fun _ _ => trivial)); (case aO => exact (K1_ HO_7)); (case aS => exact (below_size T1_)); (case aL => have := LMc14.out; omega); intro v113 w16 ho hb hg hat; rw [← Ny112.out] at ho; have HO114 := A_ (ho); replace HB := A_ (hb); clear HO_7; clear ho hb hg hat; obtain ⟨Ao17, co17, eo17⟩ := Kd.R_slice HO114.out; subst eo17) | (refine GL_ 135 39 Tryz.func135 #[.slice Ao17 y112.length co17] ?_; (with_reducible refine (nat_trim.calls k1 (fun k_ => some k_ = (.slice Ao17 y112.length co17 : Value).ownBlock) (.slice Ao17 y112.length co17) y112 t115 w _ ?side1 ?side2 A15.out).mono ?_); (case side1 => repeat (first | (with_reducible first | exact HB.out | apply below_alloc | apply pw_below_drewN | apply below_drew1) | exact HB.out)); (case side2 => exact Kd.R_tight rfl HO114.out); rintro e w18 ⟨v116, rfl, ho0, hb, hkp⟩; refine ⟨_, rfl, ?_⟩; have HO117 := A_ (Kd.R_mono (ok' := fun k_ => True) ho0 (fun k_ hk_ => trivial)); replace HB := A_ (hb); clear HO114; clear hb hkp ho0))
       go_ret
       exact ⟨_, by first | rfl | (simp [errW_none, errW_some] <;> rfl) | (simp only [← hji4]; first | rfl | (simp [errW_none, errW_some] <;> rfl)) | (simp [*, errW_none, errW_some] <;> rfl), by (with_reducible repeat (first | apply Kd.R_alloc | apply Kd.R_drewN | apply Kd.R_drew)); exact HO117.out, T1_⟩
      ·
       rw [if_neg c14] at H;exact absurd H (by simp)
  ·
   rw [if_neg c6] at H;exact absurd H (by simp)
 ·
  rw [if_neg c5] at H;exact absurd H (by simp)
/-! ### nat_read: function 136 -/
mutual
def nat_read.l0 : Nat → ByteArray → List Int → Option (List Int)
 | 0, _, _ => none
 | k + 1, x0, x3 => if (x0.size : Int) > 0 then (nat_read.l1 k x0 x3 (wrap64 ((Int.tmod (wrap64 ((x0.size : Int) - 1)) 9) + 1)) 0 (wrap64 ((Int.tmod (wrap64 ((x0.size : Int) - 1)) 9) + 1)) 0) else (some x3)
def nat_read.l1 : Nat → ByteArray → List Int → Int → Int → Int → Int → Option (List Int)
 | 0, _, _, _, _, _, _ => none
 | k + 1, x0, x3, x4, x5, x15, x16 => if x16 < x15 then (if 0 ≤ x16 then (if x16 < (x0.size : Int) then (nat_read.l1 k x0 x3 x4 (IntKind.u64.wrap ((IntKind.u64.wrap (10 * x5)) + (((bt x0 x16) - 48) % 256))) x15 (wrap64 (x16 + 1))) else (none)) else (none)) else ((nat_step.f k x3 1000000000 x5).bind fun t118 => (if 0 ≤ x4 then (if x4 ≤ (x0.size : Int) then (nat_read.l0 k (x0.extract (x4 : Int).toNat x0.size) t118) else (none)) else (none)))
end
def nat_read.f (k : Nat) (a0 : ByteArray) : Option (List Int) := nat_read.l0 k a0 ([] : List Int)
theorem nat_read.calls (k : Nat) (a0 : ByteArray) (r : List Int) (w : World) (h : nat_read.f k a0 = some r) :
  Calls Tryz.prog 136 #[.string a0] w fun e w' => ∃ v0_ : Value, e = .returned (v0_) ∧ Kd.R (Kd.int .u32) 115 w' w.heap.size (fun _ => True) v0_ r ∧ Below w.heap.size w w' := by
 have HB := A_ (Below.refl w.heap.size w);unfold nat_read.f at h;have H := h;clear h;have H' := A_ H;clear H;go_enter Tryz.func136, Tryz.ntmps136
 go_wp2
 go_loopg [0, 3] k (fun kq v0 v3 w' => ∃ (x0_1 : ByteArray) (x3_1 : List Int), v0 = .string x0_1 ∧ Aside0 (nat_read.l0 kq x0_1 x3_1 = some r) ∧ Aside0 (kq ≤ k) ∧ Aside0 (Kd.R (Kd.int .u32) 115 w' w.heap.size (fun _ => True) v3 x3_1) ∧ Aside0 (Below w.heap.size w w'))
 case atStart => exact ⟨(a0), (([] : List Int)), S1_, H', ⟨Nat.le_refl _⟩, ⟨by first | exact Kd.R_nil _ _ _ _ _ | exact Kd.N_nil _ _ _ _ _ | exact Kd.V_nil _ _ _ _ _ | exact Kd.Q_nil _ _ _ _ _ | exact Kd.S_nil _ _ _ _ _⟩, ⟨T1_⟩⟩
 case round =>
  clear H'
  obtain ⟨x0_1, x3_1, rfl, HA, HK1, HO_3, HB⟩ := hrel
  cases gk with
  | zero => exact absurd HA.out (by simp [nat_read.l0])
  | succ k1 =>
   have H := HA.out;clear HA;simp only [nat_read.l0] at H
   by_cases c2 : (x0_1.size : Int) > 0
   ·
    rw [if_pos c2] at H;have c2b0 : decide (0 < (x0_1.size : Int)) = true := decide_eq_true c2;have c2b1 : decide (0 < x0_1.size) = true := decide_eq_true (by omega);clear c2;have H' := A_ H;clear H
    go_wp2
    go_loopg [5, 16] k1 (fun kq v5 v16 w' => ∃ (x5_2 : Int) (x16_2 : Int), v5 = .int .u64 x5_2 ∧ v16 = .int .i64 x16_2 ∧ Aside0 (nat_read.l1 kq x0_1 x3_1 (wrap64 ((Int.tmod (wrap64 ((x0_1.size : Int) - 1)) 9) + 1)) x5_2 (wrap64 ((Int.tmod (wrap64 ((x0_1.size : Int) - 1)) 9) + 1)) x16_2 = some r) ∧ Aside0 (kq ≤ k1) ∧ Aside0 (Kd.R (Kd.int .u32) 115 w' w.heap.size (fun _ => True) u3 x3_1) ∧ Aside0 (Below w.heap.size w w'))
    case atStart => exact ⟨(0), (0), S1_, S1_, H', ⟨Nat.le_refl _⟩, ⟨by (with_reducible repeat (first | apply Kd.R_alloc | apply Kd.R_drewN | apply Kd.R_drew)); exact HO_3.out⟩, ⟨T1_⟩⟩
    case round =>
     clear H'
     try clear c2
     try clear c2b0
     try clear c2b1
     obtain ⟨x5_2, x16_2, rfl, rfl, HA, HK2, HO_3, HB⟩ := hrel
     cases gk with
     | zero => exact absurd HA.out (by simp [nat_read.l1])
     | succ k2 =>
      have H := HA.out;clear HA;simp only [nat_read.l1] at H
      by_cases c3 : x16_2 < (wrap64 ((Int.tmod (wrap64 ((x0_1.size : Int) - 1)) 9) + 1))
      ·
       rw [if_pos c3] at H;have c3b0 : decide (x16_2 < (wrap64 ((Int.tmod (wrap64 ((x0_1.size : Int) - 1)) 9) + 1))) = true := decide_eq_true c3;clear c3
       by_cases c4 : 0 ≤ x16_2
       ·
        rw [if_pos c4] at H;have c4b0 := decide_eq_true c4;clear c4
        by_cases c5 : x16_2 < (x0_1.size : Int)
        ·
         rw [if_pos c5] at H;have c5b0 := decide_eq_true c5;clear c5;have H' := A_ H;clear H;have p6 : 0 ≤ (x16_2 : Int) := DA_;have q6 : x16_2 < (x0_1.size : Int) := DA_;have hx6 := bt_at x0_1 x16_2;replace p6 := eq_true p6;replace q6 := eq_true q6
         go_wp2
         go_roundg k2
         case measure => have := HK1.out; have := HK2.out; omega
         case rel => exact ⟨(IntKind.u64.wrap ((IntKind.u64.wrap (10 * x5_2)) + (((bt x0_1 x16_2) - 48) % 256))), (wrap64 (x16_2 + 1)), S1_, S1_, H', ⟨by have := HK1.out; have := HK2.out; omega⟩, ⟨by (with_reducible repeat (first | apply Kd.R_alloc | apply Kd.R_drewN | apply Kd.R_drew)); exact HO_3.out⟩, ⟨T1_⟩⟩
        ·
         rw [if_neg c5] at H;exact absurd H (by simp)
       ·
        rw [if_neg c4] at H;exact absurd H (by simp)
      ·
       rw [if_neg c3] at H;have c3b0 : decide (x16_2 < (wrap64 ((Int.tmod (wrap64 ((x0_1.size : Int) - 1)) 9) + 1))) = false := decide_eq_false c3;clear c3;replace H := BE_ H;obtain ⟨t118, A70, H⟩ := H;have A7 := A_ A70;clear A70;obtain ⟨ji8, hji8⟩ : ∃ j_ : Int, (wrap64 ((Int.tmod (wrap64 ((x0_1.size : Int) - 1)) 9) + 1)) = j_ := ⟨_, rfl⟩
       first | rw [hji8] at H | simp only [hji8] at H
       (try rw [hji8] at c3b0)
       (try rw [hji8] at A7)
       have hji8w : (IntKind.i64.wrap ((Int.tmod (wrap64 ((x0_1.size : Int) - 1)) 9) + 1)) = ji8 := (i64_w _).trans hji8
       by_cases c9 : 0 ≤ (ji8)
       ·
        rw [if_pos c9] at H;have c9b0 := eq_true c9;have c9b1 := decide_eq_true c9;clear c9
        by_cases c10 : (ji8) ≤ (x0_1.size : Int)
        ·
         rw [if_pos c10] at H;have c10b0 := eq_true c10;have c10b1 := decide_eq_true c10;clear c10;have H' := A_ H;clear H;obtain ⟨Ao11, co11, eo11⟩ := Kd.R_slice HO_3.out;subst eo11
         go_wp2_with (first | (refine GL_ 155 30 Tryz.func155 #[.slice Ao11 x3_1.length co11, .int .u64 1000000000, .int .u64 x5_2] ?_; (with_reducible refine (nat_step.calls k2 _ _ x3_1 1000000000 x5_2 t118 _ (C1_ (Kd.R_reads' HO_3.out).2.2) ((Kd.R_reads' HO_3.out).2.1) A7.out).mono ?_); rintro e w12 ⟨v119, rfl, ho0, hb⟩; refine ⟨_, rfl, ?_⟩; have HO120 := A_ (Kd.R_lower (Kd.R_new' ho0 (Kd.R_lt (K1_ HO_3))) (below_size T1_)); replace HO_3 := A_ (Kd.R_elder' (K1_ HO_3) (Kd.R_base ho0) hb); replace HB := BS_ hb; clear hb ho0))
         go_roundg k2
         case measure => have := HK1.out; have := HK2.out; omega
         case rel => exact ⟨(x0_1.extract ((ji8) : Int).toNat x0_1.size), (t118), (by first | rfl | (simp; done) | (simp only [← hji8] <;> (first | rfl | simp)) | (simp [*]; done)), H', ⟨by have := HK1.out; have := HK2.out; omega⟩, ⟨by (with_reducible repeat (first | apply Kd.R_alloc | apply Kd.R_drewN | apply Kd.R_drew)); exact Kd.R_mono HO120.out (fun _ hk => trivial)⟩, ⟨T1_⟩⟩
        ·
         rw [if_neg c10] at H;exact absurd H (by simp)
       ·
        rw [if_neg c9] at H;exact absurd H (by simp)
   ·
    rw [if_neg c2] at H;have c2b0 : decide (0 < (x0_1.size : Int)) = false := decide_eq_false c2;have c2b1 : decide (0 < x0_1.size) = false := decide_eq_false (by omega);clear c2;obtain rfl := Option.some.inj H
    go_wp2
    go_ret
    exact ⟨_, by first | rfl | (simp [errW_none, errW_some] <;> rfl) | (simp [*, errW_none, errW_some] <;> rfl), by (with_reducible repeat (first | apply Kd.R_alloc | apply Kd.R_drewN | apply Kd.R_drew)); exact HO_3.out, T1_⟩
/-! ### nat_both: function 112 -/
def nat_both.j0 : Nat → ByteArray → ByteArray → Bool → Option (List Int × List Int × Bool)
 | 0, _, _, _ => none
 | k + 1, x0, x1, x14 => if x14 = true then (some (([] : List Int), ([] : List Int), false)) else ((nat_read.f k x0).bind fun t123 => ((nat_trim.f k t123).bind fun t126 => ((nat_read.f k x1).bind fun t129 => ((nat_trim.f k t129).bind fun t132 => (some (t126, t132, true))))))
def nat_both.f (k : Nat) (a0 : ByteArray) (a1 : ByteArray) : Option (List Int × List Int × Bool) := (nat_Right.f a0).bind fun t121 => (if t121 = true then ((nat_Right.f a1).bind fun t122 => (nat_both.j0 k a0 a1 (!t122))) else (nat_both.j0 k a0 a1 true))
theorem nat_both.calls (k : Nat) (a0 : ByteArray) (a1 : ByteArray) (r1 : List Int) (r2 : List Int) (r3 : Bool) (w : World) (h : nat_both.f k a0 a1 = some (r1, r2, r3)) :
  Calls Tryz.prog 112 #[.string a0, .string a1] w fun e w' => ∃ v0_ v1_ : Value, e = .returned (.tuple #[v0_, v1_, .bool r3]) ∧ Kd.R (Kd.int .u32) 115 w' w.heap.size (fun k_ => some k_ ≠ (v1_ : Value).ownBlock) v0_ r1 ∧ Kd.R (Kd.int .u32) 115 w' w.heap.size (fun k_ => some k_ ≠ (v0_ : Value).ownBlock) v1_ r2 ∧ Below w.heap.size w w' := by
 have HB := A_ (Below.refl w.heap.size w);unfold nat_both.f at h;have H := h;clear h;have HC3 := A_ H;clear H;go_enter Tryz.func112, Tryz.ntmps112
 go_upto_region 1 with (fail)
 go_cut [14] (fun v14 wc => ∃ (kq : Nat) (x14_2 : Bool), v14 = .bool x14_2 ∧ Aside0 (nat_both.j0 kq a0 a1 x14_2 = some (r1, r2, r3)) ∧ Aside0 (kq ≤ k) ∧ Aside0 (Below w.heap.size w wc))
 case first =>
  have H := HC3.out;clear HC3;replace H := BE_ H;obtain ⟨t121, A40, H⟩ := H;have A4 := A_ A40;clear A40
  by_cases c5 : t121 = true
  ·
   subst c5;rw [if_pos rfl] at H;replace H := BE_ H;obtain ⟨t122, A60, H⟩ := H;have A6 := A_ A60;clear A60;have H' := A_ H;clear H
   go_wp2_with (first | (refine GL_ 81 8 Tryz.func81 #[.string a0] ?_; (with_reducible refine (nat_Right.calls a0 true _ A4.out).mono ?_); rintro e w7 ⟨rfl, hb⟩; refine ⟨_, rfl, ?_⟩; replace HB := BS_ hb; clear hb) | (go_at_call 81; (with_reducible refine (nat_Right.calls a1 t122 _ A6.out).mono ?_); rintro e w8 ⟨rfl, hb⟩; replace HB := BS_ hb; clear hb))
   go_meet
   case rel => exact ⟨_, (!t122), S1_, H', ⟨by first | omega | exact Nat.le_refl _⟩, ⟨T1_⟩⟩
  ·
   replace c5 := Bool.eq_false_iff.mpr c5;subst c5;rw [if_neg (show ¬ (false = true) by decide)] at H;have H' := A_ H;clear H
   go_wp2_with (first | (refine GL_ 81 8 Tryz.func81 #[.string a0] ?_; (with_reducible refine (nat_Right.calls a0 false _ A4.out).mono ?_); rintro e w9 ⟨rfl, hb⟩; refine ⟨_, rfl, ?_⟩; replace HB := BS_ hb; clear hb))
   go_meet
   case rel => exact ⟨_, (true), S1_, H', ⟨by first | omega | exact Nat.le_refl _⟩, ⟨T1_⟩⟩
 case rest =>
  clear HC3
  obtain ⟨kq, x14_2, rfl, HA, HJ2, HB⟩ := hcut
  cases kq with
  | zero => exact absurd HA.out (by simp [nat_both.j0])
  | succ kj2 =>
   have H := HA.out;clear HA;simp only [nat_both.j0] at H
   by_cases c10 : x14_2 = true
   ·
    subst c10;rw [if_pos rfl] at H;simp only [Option.some.injEq, Prod.mk.injEq] at H;obtain ⟨rfl, rfl, rfl⟩ := H
    go_wp2
    go_ret3
    exact ⟨_, _, by first | rfl | (simp [errW_none, errW_some] <;> rfl) | (simp [*, errW_none, errW_some] <;> rfl), by first | exact Kd.R_nil _ _ _ _ _ | exact Kd.N_nil _ _ _ _ _ | exact Kd.V_nil _ _ _ _ _ | exact Kd.Q_nil _ _ _ _ _ | exact Kd.S_nil _ _ _ _ _, by first | exact Kd.R_nil _ _ _ _ _ | exact Kd.N_nil _ _ _ _ _ | exact Kd.V_nil _ _ _ _ _ | exact Kd.Q_nil _ _ _ _ _ | exact Kd.S_nil _ _ _ _ _, T1_⟩
   ·
    replace c10 := Bool.eq_false_iff.mpr c10;subst c10;rw [if_neg (show ¬ (false = true) by decide)] at H;replace H := BE_ H;obtain ⟨t123, A110, H⟩ := H;have A11 := A_ A110;clear A110;replace H := BE_ H;obtain ⟨t126, A120, H⟩ := H;have A12 := A_ A120;clear A120;replace H := BE_ H;obtain ⟨t129, A130, H⟩ := H;have A13 := A_ A130;clear A130;replace H := BE_ H;obtain ⟨t132, A140, H⟩ := H;have A14 := A_ A140;clear A140;simp only [Option.some.injEq, Prod.mk.injEq] at H;obtain ⟨rfl, rfl, rfl⟩ := H
    go_wp2_with (first | (refine GL_ 136 16 Tryz.func136 #[.string a0] ?_; (with_reducible refine (nat_read.calls kj2 a0 t123 _ A11.out).mono ?_); rintro e w15 ⟨v124, rfl, ho0, hb⟩; refine ⟨_, rfl, ?_⟩; have HO125 := A_ (Kd.R_lower ho0 (below_size T1_)); replace HB := BS_ hb; clear hb ho0; obtain ⟨Ao16, co16, eo16⟩ := Kd.R_slice HO125.out; subst eo16) | (refine GL_ 135 17 Tryz.func135 #[.slice Ao16 t123.length co16] ?_; (with_reducible refine (nat_trim.calls kj2 (fun k_ => some k_ = (.slice Ao16 t123.length co16 : Value).ownBlock) (.slice Ao16 t123.length co16) t123 t126 w _ ?side1 ?side2 A12.out).mono ?_); (case side1 => repeat (first | (with_reducible first | exact HB.out | apply below_alloc | apply pw_below_drewN | apply below_drew1) | exact HB.out)); (case side2 => exact Kd.R_tight rfl HO125.out); rintro e w17 ⟨v127, rfl, ho0, hb, hkp⟩; refine ⟨_, rfl, ?_⟩; have HO128 := A_ (Kd.R_mono (ok' := fun k_ => True) ho0 (fun k_ hk_ => trivial)); replace HB := A_ (hb); clear HO125; clear hb hkp ho0) | (refine GL_ 136 19 Tryz.func136 #[.string a1] ?_; (with_reducible refine (nat_read.calls kj2 a1 t129 _ A13.out).mono ?_); rintro e w18 ⟨v130, rfl, ho0, hb⟩; refine ⟨_, rfl, ?_⟩; have HO131 := A_ (Kd.R_lower (Kd.R_new' ho0 (Kd.R_lt (K1_ HO128))) (below_size T1_)); replace HO128 := A_ (Kd.R_elder' (K1_ HO128) (Kd.R_base ho0) hb); replace HB := BS_ hb; clear hb ho0; obtain ⟨Ao19, co19, eo19⟩ := Kd.R_slice HO131.out; subst eo19) | (refine GL_ 135 20 Tryz.func135 #[.slice Ao19 t129.length co19] ?_; (with_reducible refine (nat_trim.calls kj2 (fun k_ => some k_ = (.slice Ao19 t129.length co19 : Value).ownBlock) (.slice Ao19 t129.length co19) t129 t132 w _ ?side1 ?side2 A14.out).mono ?_); (case side1 => repeat (first | (with_reducible first | exact HB.out | apply below_alloc | apply pw_below_drewN | apply below_drew1) | exact HB.out)); (case side2 => exact Kd.R_tight rfl HO131.out); rintro e w20 ⟨v133, rfl, ho0, hb, hkp⟩; refine ⟨_, rfl, ?_⟩; have HO134 := A_ (Kd.R_mono (ok' := fun k_ => some k_ ≠ (v127 : Value).ownBlock) ho0 (fun k_ hk_ => Or.elim hk_ (fun hs_ => fun e_ => (((HO128.out).1 k_ e_.symm).2) hs_) (fun hn_ => (Kd.fresh' (Kd.R_lt (K1_ HO128)) k_ hn_)))); replace HO128 := A_ (Kd.R_mono (ok' := fun k_ => some k_ ≠ (v133 : Value).ownBlock) (Kd.R_keptB (HO128.out) hkp (fun k_ hk_ hs_ => (hk_.2) hs_)) (fun k_ hk_ => fun e_ => Or.elim (ho0.1 k_ e_.symm) (fun hs_ => hk_.2.1 hs_) (fun hn_ => Nat.not_le.2 hk_.2.2 hn_))); replace HB := A_ (hb); clear HO131; clear hb hkp ho0))
    go_ret3
    exact ⟨_, _, by first | rfl | (simp [errW_none, errW_some] <;> rfl) | (simp [*, errW_none, errW_some] <;> rfl), by (with_reducible repeat (first | apply Kd.R_alloc | apply Kd.R_drewN | apply Kd.R_drew)); exact HO128.out, by (with_reducible repeat (first | apply Kd.R_alloc | apply Kd.R_drewN | apply Kd.R_drew)); exact HO134.out, T1_⟩
/-! ### nat_limbs_uint32: function 141 -/
def nat_limbs_uint32.f (l0 : List Int) : Option (List Int) := if l0.length < 35184372088832 then some l0 else none
theorem nat_limbs_uint32.calls (A0 : Option Addr) (c0 : Nat) (l0 : List Int) (r : List Int) (w : World) (hr0 : Kd.C (Kd.int .u32) w A0 l0.length l0) (hc0 : l0.length ≤ c0) (h : nat_limbs_uint32.f l0 = some r) :
  Calls Tryz.prog 141 #[.slice A0 l0.length c0] w fun e w' => ∃ v0_ : Value, e = .returned (v0_) ∧ Kd.R (Kd.int .u32) 115 w' w.heap.size (fun _ => True) v0_ r ∧ Below w.heap.size w w' := by
 unfold nat_limbs_uint32.f at h
 by_cases c2 : l0.length < 35184372088832
 ·
  rw [if_pos c2] at h;obtain rfl := Option.some.inj h;have LMc2 := A_ c2;clear c2 h
  have hrun : ∀ (a : Option Addr) (n c : Nat) (w : World), (binOp .eql 131 (.slice a n c) (.slice none 0 0)).run Tryz.prog w = .ok (.bool a.isNone) w := fun a n c w => Lib.run_eql_slice_nil w 131 115 a n c 0 0 Tryz.underlying131
  cases A0 with
  | none =>
   have h0 : l0 = [] := by
    cases l0 with
    | nil => rfl
    | cons x l => exact absurd (hr0.2.2 (by simp)) (by simp)
   subst h0;have h1 := hrun none ([] : List Int).length c0;have HN := A_ (Below.refl w.heap.size w);go_enter Tryz.func141, Tryz.ntmps141
   go_wp2
   go_ret
   exact ⟨_, rfl, Kd.R_nil _ _ _ _ _, HN.out⟩
  | some a0 =>
   have h1 := hrun (some a0) l0.length c0;have HR0 := A_ hr0;have HB := A_ (Below.refl w.heap.size w);clear hr0 hrun;go_enter Tryz.func141, Tryz.ntmps141
   go_wp2_with (first | ((with_reducible refine gate_dst (N := 5) rfl ?_); refine Kd.R_lit (Kd.int .u32) _ 115 ?hg (N := 5) ?hd (xs := ([] : List Int)) (inner := []) (ok := fun _ => True) (okp := fun _ => True) ?hr ?hp (fun _ hk => hk) trivial (Below.refl _ _) (Nat.le_refl _) (by simp) ?_; (case hd => rfl); (case hg => rfl); (case hr => exact T3_); (case hp => exact (Reps.none _ _)); intro v102 w3 ho4 hb hg_ hnew_; clear hg_ hnew_ HB; have HO103 := A_ ho4; have HB := A_ hb; clear hb ho4) | ((with_reducible refine gate_builtin (b := .append) (xs := #[.tmp 5, .tmp 6]) rfl ?_); at_builtin; refine Kd.R_append_rows (Kd.int .u32) (w0 := w) w.heap.size rfl (.tmp 5) (.tmp 6) 131 115 (.int .u32 0) 4 rfl Tryz.underlying131 info115 rfl (by decide) (by omega) v102 [] l0 _ _ _ (fun _ => True) (fun _ => False) rfl rfl ?aO ?aR (fun _ _ h => h) (fun _ h => h.elim) ?aF ?aB ?aS ?aL ?_; (case aR => exact (Kd.C_below HR0.out HB.out)); (case aB => exact HB.out); (case aF => exact (fun _ _ => trivial)); (case aO => exact HO103.out); (case aS => exact (below_size HB.out)); (case aL => have := LMc2.out; simp; omega); intro v105 w5 ho hb hg hat; have HB2 := A_ hb; have HO106 := A_ ho; clear HB; clear HO103; clear ho hb hg hat))
   go_ret
   exact ⟨_, rfl, HO106.out, HB2.out⟩
 ·
  rw [if_neg c2] at h;exact absurd h (by simp)
/-! ### nat_small: function 138 -/
def nat_small.l0 : Nat → Int → List Int → Int → Int → Option (List Int × Int)
 | 0, _, _, _, _ => none
 | k + 1, x1, x6, x7, x8 => if x8 ≥ 0 then (if 0 ≤ x8 then (if x8 < (x6.length : Int) then (if x1 = 0 then (none) else (nat_small.l0 k x1 (x6.set (x8 : Int).toNat ((IntKind.u64.wrap (Int.tdiv (Go.bits .or .u64 (IntKind.u64.wrap (x7 * 4294967296)) (IntKind.u64.wrap (rd x6 x8))) x1)) % 4294967296)) (Int.tmod (Go.bits .or .u64 (IntKind.u64.wrap (x7 * 4294967296)) (IntKind.u64.wrap (rd x6 x8))) x1) (wrap64 (x8 - 1)))) else (none)) else (none)) else ((nat_trim.f k x6).bind fun t140 => (some (t140, x7)))
def nat_small.f (k : Nat) (l0 : List Int) (a1 : Int) : Option (List Int × Int) := (nat_limbs_uint32.f l0).bind fun t135 => (nat_small.l0 k a1 t135 0 (wrap64 ((t135.length : Int) - 1)))
theorem nat_small.calls (k : Nat) (A0 : Option Addr) (c0 : Nat) (l0 : List Int) (a1 : Int) (r1 : List Int) (r2 : Int) (w : World) (hr0 : Kd.C (Kd.int .u32) w A0 l0.length l0) (hc0 : l0.length ≤ c0) (h : nat_small.f k l0 a1 = some (r1, r2)) :
  Calls Tryz.prog 138 #[.slice A0 l0.length c0, .int .u64 a1] w fun e w' => ∃ v0_ : Value, e = .returned (.tuple #[v0_, .int .u64 r2]) ∧ Kd.R (Kd.int .u32) 115 w' w.heap.size (fun _ => True) v0_ r1 ∧ Below w.heap.size w w' := by
 have HR0 := A_ hr0;have HC0 := A_ hc0;clear hr0 hc0;have HB := A_ (Below.refl w.heap.size w);unfold nat_small.f at h;have H := h;clear h;replace H := BE_ H;obtain ⟨t135, A30, H⟩ := H;have A3 := A_ A30;clear A30;have H' := A_ H;clear H;go_enter Tryz.func138, Tryz.ntmps138
 go_wp2_with (first | (refine GL_ 141 10 Tryz.func141 #[.slice A0 l0.length c0] ?_; (with_reducible refine (nat_limbs_uint32.calls _ _ l0 t135 _ (C1_ HR0.out) HC0.out A3.out).mono ?_); rintro e w4 ⟨v136, rfl, ho0, hb⟩; refine ⟨_, rfl, ?_⟩; have HO137 := A_ (Kd.R_lower ho0 (below_size T1_)); replace HB := BS_ hb; clear hb ho0; obtain ⟨Ao5, co5, eo5⟩ := Kd.R_slice HO137.out; subst eo5))
 go_loopg [7, 8] k (fun kq v7 v8 w' => ∃ (x6_1 : List Int) (x7_1 : Int) (x8_1 : Int), v7 = .int .u64 x7_1 ∧ v8 = .int .i64 x8_1 ∧ Aside0 (nat_small.l0 kq a1 x6_1 x7_1 x8_1 = some (r1, r2)) ∧ Aside0 (kq ≤ k) ∧ Aside0 (Kd.R (Kd.int .u32) 115 w' w.heap.size (fun _ => True) (.slice Ao5 t135.length co5) x6_1) ∧ Aside0 (Below w.heap.size w w'))
 case atStart => exact ⟨(t135), (0), (wrap64 ((t135.length : Int) - 1)), S1_, S1_, H', ⟨Nat.le_refl _⟩, ⟨by (with_reducible repeat (first | apply Kd.R_alloc | apply Kd.R_drewN | apply Kd.R_drew)); exact HO137.out⟩, ⟨T1_⟩⟩
 case round =>
  clear H'
  obtain ⟨x6_1, x7_1, x8_1, rfl, rfl, HA, HK1, HO_6, HB⟩ := hrel;have hl6_1 := (Kd.R_reads' HO_6.out).1;rw [hl6_1] at HO_6
  (try simp only [hl6_1])
  cases gk with
  | zero => exact absurd HA.out (by simp [nat_small.l0])
  | succ k1 =>
   have H := HA.out;clear HA;simp only [nat_small.l0] at H
   by_cases c6 : x8_1 ≥ 0
   ·
    rw [if_pos c6] at H;have c6b0 : decide (0 ≤ x8_1) = true := decide_eq_true c6;clear c6
    by_cases c7 : 0 ≤ x8_1
    ·
     rw [if_pos c7] at H;have c7b0 := decide_eq_true c7;clear c7
     by_cases c8 : x8_1 < (x6_1.length : Int)
     ·
      rw [if_pos c8] at H;have c8b0 := decide_eq_true c8
      (try (have c8b0h := c8b0; simp only [hl6_1] at c8b0h))
      clear c8
      by_cases c9 : a1 = 0
      ·
       rw [if_pos c9] at H;exact absurd H (by simp)
      ·
       rw [if_neg c9] at H;have c9b0 : (a1 == 0) = false := beq_eq_false_iff_ne.mpr c9;have c9b1 : (a1 != 0) = true := bne_iff_ne.mpr c9;obtain ⟨y139, hy_⟩ : ∃ y_ : List Int, y_ = (x6_1.set (x8_1 : Int).toNat ((IntKind.u64.wrap (Int.tdiv (Go.bits .or .u64 (IntKind.u64.wrap (x7_1 * 4294967296)) (IntKind.u64.wrap (rd x6_1 x8_1))) a1)) % 4294967296)) := ⟨_, rfl⟩
       replace H : (nat_small.l0 k1 a1 y139 (Int.tmod (Go.bits .or .u64 (IntKind.u64.wrap (x7_1 * 4294967296)) (IntKind.u64.wrap (rd x6_1 x8_1))) a1) (wrap64 (x8_1 - 1))) = some (r1, r2) := RH_
       have Ny139 := A_ hy_;clear hy_;have H' := A_ H;clear H;have p138 : 0 ≤ (x8_1 : Int) := DA_;have q138 : x8_1 < (x6_1.length : Int) := DA_;obtain ⟨ad138, e138, hx138_0⟩ := Kd.at_int (Kd.R_reads' HO_6.out).2.2 x8_1 p138 q138
       cases e138
       replace p138 := eq_true p138;replace q138 := eq_true q138;have p10 : 0 ≤ (x8_1 : Int) := DA_;have q10 : (x8_1 : Int) < ((x6_1.length : Int) : Int) := DA_;obtain ⟨go10, co10, eo10, gb10, gl10, cl10, HG10⟩ := Kd.R_form HO_6.out (by omega)
       (first | cases eo10 | (injection eo10 with ea_ en_ ec_; (first | subst ea_ | (injection ea_ with ea_; subst ea_)); subst ec_; clear en_))
       have GB10 := A_ gb10;have GG10 := A_ HG10;clear gb10 gl10 HG10
       (first | simp only [add_plain] at hx138_0 | skip)
       obtain ⟨hx10_0, hf10_0⟩ := Kd.R_celln 0 HO_6.out (x8_1 : Int) p10 q10;replace p10 := eq_true p10;replace q10 := eq_true q10;have HP11 := Kd.R_putg HO_6.out (x8_1 : Int) ((IntKind.u64.wrap (Int.tdiv (Go.bits .or .u64 (IntKind.u64.wrap (x7_1 * 4294967296)) (IntKind.u64.wrap (rd x6_1 x8_1))) a1)) % 4294967296)
       go_wp2_with (first | ((with_reducible refine gate_store (t := 115) (p := 32) rfl ?_); refine store_event (t := 115) (p := 32) (v := ?vo_w12) (w1 := (wr.setCell ⟨go10, (x8_1 : Int).toNat, none⟩ (.int .u32 ((IntKind.u64.wrap (Int.tdiv (Go.bits .or .u64 (IntKind.u64.wrap (x7_1 * 4294967296)) (IntKind.u64.wrap (rd x6_1 x8_1))) a1)) % 4294967296)))) ?hg ?ho ?hn ?hr ?_; (case ho => rfl); (case hg => rfl); (case hn => rfl); (case hr => exact T3_); intro w12 hw; have hg : wr.grownBy w12 (some go10) := (by rw [hw]; exact HP11.2); have hp_ : Kd.R (Kd.int .u32) 115 w12 w.heap.size (fun _ => True) (.slice (some ⟨go10, 0, none⟩) x6_1.length co5) y139 := (by rw [hw, Ny139.out]; exact HP11.1); clear HP11; replace HO_6 := A_ (hp_); replace HB := A_ ((by rw [hw]; exact below_set (HB.out) GB10.out : Below w.heap.size w w12)); clear hg hw hp_))
       (try simp only [← hl6_1])
       go_roundg k1
       case measure => have := HK1.out; omega
       case rel => exact ⟨(y139), (Int.tmod (Go.bits .or .u64 (IntKind.u64.wrap (x7_1 * 4294967296)) (IntKind.u64.wrap (rd x6_1 x8_1))) a1), (wrap64 (x8_1 - 1)), S1_, S1_, H', ⟨by have := HK1.out; omega⟩, ⟨by (try simp only [hl6_1]); (with_reducible repeat (first | apply Kd.R_alloc | apply Kd.R_drewN | apply Kd.R_drew)); exact HO_6.out⟩, ⟨T1_⟩⟩
     ·
      rw [if_neg c8] at H;exact absurd H (by simp)
    ·
     rw [if_neg c7] at H;exact absurd H (by simp)
   ·
    rw [if_neg c6] at H;have c6b0 : decide (0 ≤ x8_1) = false := decide_eq_false c6;clear c6;replace H := BE_ H;obtain ⟨t140, A130, H⟩ := H;have A13 := A_ A130;clear A130;simp only [Option.some.injEq, Prod.mk.injEq] at H;obtain ⟨rfl, rfl⟩ := H
    go_wp2_with (first | (refine GL_ 135 37 Tryz.func135 #[.slice Ao5 x6_1.length co5] ?_; (with_reducible refine (nat_trim.calls k1 (fun k_ => some k_ = (.slice Ao5 x6_1.length co5 : Value).ownBlock) (.slice Ao5 x6_1.length co5) x6_1 t140 w _ ?side1 ?side2 A13.out).mono ?_); (case side1 => repeat (first | (with_reducible first | exact HB.out | apply below_alloc | apply pw_below_drewN | apply below_drew1) | exact HB.out)); (case side2 => exact Kd.R_tight rfl HO_6.out); rintro e w14 ⟨v141, rfl, ho0, hb, hkp⟩; refine ⟨_, rfl, ?_⟩; have HO142 := A_ (Kd.R_mono (ok' := fun k_ => True) ho0 (fun k_ hk_ => trivial)); replace HB := A_ (hb); clear HO_6; clear hb hkp ho0))
    go_ret2
    exact ⟨_, by first | rfl | (simp [errW_none, errW_some] <;> rfl) | (simp [*, errW_none, errW_some] <;> rfl), by (with_reducible repeat (first | apply Kd.R_alloc | apply Kd.R_drewN | apply Kd.R_drew)); exact HO142.out, T1_⟩
/-! ### slices_Reverse_byte_byte: function 142 -/
def slices_Reverse_byte_byte.l0 : Nat → List Int → Int → Int → Option (List Int)
 | 0, _, _, _ => none
 | k + 1, x0, x2, x3 => if x2 < x3 then (if 0 ≤ x3 then (if x3 < (x0.length : Int) then (if 0 ≤ x2 then (if x2 < (x0.length : Int) then (slices_Reverse_byte_byte.l0 k ((x0.set (x2 : Int).toNat (rd x0 x3)).set (x3 : Int).toNat (rd x0 x2)) (wrap64 (x2 + 1)) (wrap64 (x3 - 1))) else (none)) else (none)) else (none)) else (none)) else (some x0)
def slices_Reverse_byte_byte.f (k : Nat) (l0 : List Int) : Option (List Int) := slices_Reverse_byte_byte.l0 k l0 0 (wrap64 ((l0.length : Int) - 1))
def slices_Reverse_byte_byte.T3 : Bool × List (List Nat × List Nat) := (true, [([], []), ([], []), ([], []), ([], []), ([], []), ([], []), ([4, 5], [4, 5]), ([6], [6]), ([], []), ([], []), ([8, 9], [8, 9]), ([10], [10]), ([0, 1, 0, 1, 4, 5, 6, 7, 11], [0, 1]), ([12, 7, 0, 1, 4, 5, 6, 7, 11], [7, 12]), ([2, 3, 0, 1, 2, 3, 4, 5, 6, 7, 8, 9, 10, 11, 12, 13], [2, 3]), ([14, 11, 13, 0, 1, 2, 3, 4, 5, 6, 7, 8, 9, 10, 11, 12, 13], [11, 14])])
def slices_Reverse_byte_byte.B3 : List Nat := [0, 0, 0, 0, 0, 0, 48, 112, 0, 0, 768, 1792, 4083, 8179, 16383, 32767]
theorem slices_Reverse_byte_byte.tab3 : rtab .any (opsOf Tryz.f142 3) = slices_Reverse_byte_byte.T3 := by kernel_rfl
theorem slices_Reverse_byte_byte.bits3 : waitsOk slices_Reverse_byte_byte.T3.2 slices_Reverse_byte_byte.B3 = true := by kernel_rfl
theorem slices_Reverse_byte_byte.calls (k : Nat) (P0_ : Nat → Prop) (u9000_ : Value) (l0 : List Int) (r : List Int) (w0 w : World) (hB : Below w0.heap.size w0 w) (ho0 : Kd.R (Kd.int .u8) 5 w w0.heap.size P0_ u9000_ l0) (h : slices_Reverse_byte_byte.f k l0 = some r) :
  Calls Tryz.prog 142 #[u9000_] w fun e w' => e = .returned (.tuple #[]) ∧ Kd.R (Kd.int .u8) 5 w' w0.heap.size (fun k_ => (P0_ k_ ∨ w.heap.size ≤ k_)) u9000_ r ∧ Below w0.heap.size w0 w' ∧ Kept w w' (fun k_ => P0_ k_) := by
 have HO0 := A_ (show Kd.R (Kd.int .u8) 5 w w0.heap.size (fun k_ => (P0_ k_ ∨ w.heap.size ≤ k_)) u9000_ l0 from Kd.R_mono ho0 (fun k_ hk => (.inl hk)));have HK := A_ (Kept.refl w (fun k_ => P0_ k_));have HW0 := A_ hB.size;have HB := A_ hB;clear hB;unfold slices_Reverse_byte_byte.f at h;have H := h;clear h;have H' := A_ H;clear H;obtain ⟨Ao2, co2, eo2⟩ := Kd.R_slice HO0.out;subst eo2;go_enter Tryz.func142, Tryz.ntmps142
 go_wp2
 go_loopg [2, 3] k (fun kq v2 v3 w' => ∃ (x0_1 : List Int) (x2_1 : Int) (x3_1 : Int), v2 = .int .i64 x2_1 ∧ v3 = .int .i64 x3_1 ∧ Aside0 (slices_Reverse_byte_byte.l0 kq x0_1 x2_1 x3_1 = some r) ∧ Aside0 (kq ≤ k) ∧ Aside0 (Kd.R (Kd.int .u8) 5 w' w0.heap.size (fun k_ => (P0_ k_ ∨ w.heap.size ≤ k_)) (.slice Ao2 l0.length co2) x0_1) ∧ Aside0 (Kept w w' (fun k_ => P0_ k_)) ∧ Aside0 (Below w0.heap.size w0 w'))
 case atStart => exact ⟨(l0), (0), (wrap64 ((l0.length : Int) - 1)), S1_, S1_, H', ⟨Nat.le_refl _⟩, ⟨by (with_reducible repeat (first | apply Kd.R_alloc | apply Kd.R_drewN | apply Kd.R_drew)); exact HO0.out⟩, ⟨by repeat (first | (with_reducible first | exact HK.out | apply Kept.alloc | apply Kept.drewN | apply Kept.drew) | exact HK.out)⟩, ⟨T1_⟩⟩
 case round =>
  clear H'
  obtain ⟨x0_1, x2_1, x3_1, rfl, rfl, HA, HK1, HO_0, HK, HB⟩ := hrel;have hl0_1 := (Kd.R_reads' HO_0.out).1;rw [hl0_1] at HO_0
  (try simp only [hl0_1])
  cases gk with
  | zero => exact absurd HA.out (by simp [slices_Reverse_byte_byte.l0])
  | succ k1 =>
   have H := HA.out;clear HA;simp only [slices_Reverse_byte_byte.l0] at H
   by_cases c3 : x2_1 < x3_1
   ·
    rw [if_pos c3] at H;have c3b0 := decide_eq_true c3;clear c3
    by_cases c4 : 0 ≤ x3_1
    ·
     rw [if_pos c4] at H;have c4b0 := decide_eq_true c4;clear c4
     by_cases c5 : x3_1 < (x0_1.length : Int)
     ·
      rw [if_pos c5] at H;have c5b0 := decide_eq_true c5
      (try (have c5b0h := c5b0; simp only [hl0_1] at c5b0h))
      clear c5
      by_cases c6 : 0 ≤ x2_1
      ·
       rw [if_pos c6] at H;have c6b0 := decide_eq_true c6;clear c6
       by_cases c7 : x2_1 < (x0_1.length : Int)
       ·
        rw [if_pos c7] at H;have c7b0 := decide_eq_true c7
        (try (have c7b0h := c7b0; simp only [hl0_1] at c7b0h))
        clear c7;obtain ⟨y145, hy_⟩ : ∃ y_ : List Int, y_ = (x0_1.set (x2_1 : Int).toNat (rd x0_1 x3_1)) := ⟨_, rfl⟩
        replace H : (slices_Reverse_byte_byte.l0 k1 (y145.set (x3_1 : Int).toNat (rd x0_1 x2_1)) (wrap64 (x2_1 + 1)) (wrap64 (x3_1 - 1))) = some r := RH_
        have Ny145 := A_ hy_;clear hy_;obtain ⟨y146, hy_⟩ : ∃ y_ : List Int, y_ = (y145.set (x3_1 : Int).toNat (rd x0_1 x2_1)) := ⟨_, rfl⟩
        replace H : (slices_Reverse_byte_byte.l0 k1 y146 (wrap64 (x2_1 + 1)) (wrap64 (x3_1 - 1))) = some r := RH_
        have Ny146 := A_ hy_;clear hy_;have H' := A_ H;clear H
        try go_wp2
        replace HO_0 := A_ (Kd.R_drew HO_0.out);replace HK := A_ (Kept.drew HK.out);replace HB := A_ (below_drew1 HB.out);have p143 : 0 ≤ (x3_1 : Int) := DA_;have q143 : x3_1 < (x0_1.length : Int) := DA_;obtain ⟨ad143, e143, hx143_0⟩ := Kd.at_int (Kd.R_reads' HO_0.out).2.2 x3_1 p143 q143
        cases e143
        replace p143 := eq_true p143;replace q143 := eq_true q143;have p144 : 0 ≤ (x2_1 : Int) := DA_;have q144 : x2_1 < (x0_1.length : Int) := DA_;obtain ⟨ad144, e144, hx144_0⟩ := Kd.at_int (Kd.R_reads' HO_0.out).2.2 x2_1 p144 q144;obtain rfl : ad143 = ad144 := (by injection e144);replace p144 := eq_true p144;replace q144 := eq_true q144;have p8 : 0 ≤ (x2_1 : Int) := DA_;have q8 : (x2_1 : Int) < ((x0_1.length : Int) : Int) := DA_;obtain ⟨go8, co8, eo8, gb8, gl8, cl8, HG8⟩ := Kd.R_form HO_0.out (by omega)
        (first | cases eo8 | (injection eo8 with ea_ en_ ec_; (first | subst ea_ | (injection ea_ with ea_; subst ea_)); subst ec_; clear en_))
        have GB8 := A_ gb8;have GG8 := A_ HG8;clear gb8 gl8 HG8;have HMgo8 := A_ (show (P0_ go8 ∨ w.heap.size ≤ go8) from (HO_0.out.1 _ rfl))
        (first | simp only [add_plain] at hx143_0 | skip)
        (first | simp only [add_plain] at hx144_0 | skip)
        obtain ⟨hx8_0, hf8_0⟩ := Kd.R_celln 0 HO_0.out (x2_1 : Int) p8 q8;replace p8 := eq_true p8;replace q8 := eq_true q8;have HP11 := Kd.R_putn HO_0.out (x2_1 : Int) (rd x0_1 x3_1);rw [← Ny145.out] at HP11;have HQ11 := A_ HP11;clear HP11;have p9 : 0 ≤ (x3_1 : Int) := DA_;have q9 : (x3_1 : Int) < ((x0_1.length : Int) : Int) := DA_;obtain ⟨hx9_0, hf9_0⟩ := Kd.R_celln 0 HQ11.out (x3_1 : Int) p9 q9;replace p9 := eq_true p9;replace q9 := eq_true q9;have HP12 := Kd.R_putn HQ11.out (x3_1 : Int) (rd x0_1 x2_1);rw [← Ny146.out] at HP12;have HQ12 := A_ HP12;clear HP12;refine start_ (n := 16) (S := fun w' => w'.cell? ⟨go8, (x3_1).toNat, none⟩ = some (.int .u8 (rd x0_1 x3_1)) ∧ w'.cell? ⟨go8, (x2_1).toNat, none⟩ = some (.int .u8 (rd x0_1 x2_1))) (ds := [13, 15]) #[false, false, false, false, false, false, false, false, false, false, false, false, false, false, false, false] (by kernel_rfl) rfl rfl ⟨hx143_0, hx144_0⟩ (fun hHeld => ?_); refine with_tabW slices_Reverse_byte_byte.tab3 slices_Reverse_byte_byte.bits3 (fun HT_ HW_ => ?_);generalize wr.drew = w10 at HO_0 HK HB GG8 HQ11 HQ12 hf8_0 hf9_0 hx143_0 hx144_0 hx8_0 hx9_0 hHeld ⊢;refine PU_ 0 14 ?_;refine PU_ 1 15 ?_;refine PU_ 2 16 ?_;refine PU_ 3 17 ?_;refine PU_ 4 18 ?_;refine PU_ 5 19 ?_;refine PU_ 6 20 ?_;refine PU_ 8 22 ?_;refine PU_ 9 23 ?_;refine PU_ 10 24 ?_;refine TK_ 7 21 rfl (by rfl) (by rintro w' ⟨s0, s1⟩;go_simp;with_reducible rfl) hHeld ?_
        refine TK_ 11 25 rfl (by rfl) (by rintro w' ⟨s0, s1⟩;go_simp;with_reducible rfl) hHeld ?_
        refine PU_ 12 26 ?_
        refine last_ (i := 13) (N := none) #[true, true, true, true, true, true, true, true, true, true, true, true, true, true, false, false] rfl rfl (one_of HT_.out (by kernel_rfl)) (by decide) (fun K hK => ?_);refine skip_ (w1 := ?_) (by rfl) rfl ?_ ?_;rotate_left
        ·
         go_simp;rfl
        refine hK.out _ _ ?_;clear hK K;refine PU_ 14 27 ?_
        refine last_ (i := 15) (N := none) #[true, true, true, true, true, true, true, true, true, true, true, true, true, true, true, true] rfl rfl (one_of HT_.out (by kernel_rfl)) (by decide) (fun K hK => ?_);refine skip_ (w1 := ?_) (by rfl) rfl ?_ ?_;rotate_left
        ·
         go_simp;rfl
        refine hK.out _ _ ?_;clear hK K;refine done_ (done_of HT_.out (by kernel_rfl)) ?_
        try go_wp2
        (try simp only [← hl0_1])
        go_roundg k1
        case measure => have := HK1.out; omega
        case rel => exact ⟨(y146), (wrap64 (x2_1 + 1)), (wrap64 (x3_1 - 1)), S1_, S1_, H', ⟨by have := HK1.out; omega⟩, ⟨by (try simp only [hl0_1]); (with_reducible repeat (first | apply Kd.R_alloc | apply Kd.R_drewN | apply Kd.R_drew)); exact HQ12.out⟩, ⟨by repeat (first | (with_reducible first | exact HK.out | apply Kept.alloc | apply Kept.drewN | apply Kept.drew | refine Kept.setCell ?_ HMgo8.out _ | refine Kept.setCell ?_ HMgo8.out _) | exact HK.out)⟩, ⟨T9_⟩⟩
       ·
        rw [if_neg c7] at H;exact absurd H (by simp)
      ·
       rw [if_neg c6] at H;exact absurd H (by simp)
     ·
      rw [if_neg c5] at H;exact absurd H (by simp)
    ·
     rw [if_neg c4] at H;exact absurd H (by simp)
   ·
    rw [if_neg c3] at H;have c3b0 := decide_eq_false c3;clear c3;obtain rfl := Option.some.inj H
    go_wp2
    first | go_end0 | ((try simp only [Exit.inBlock, Exit.then]); refine bodyPost_ret (results_none rfl _ _ _) rfl ?_)
    exact ⟨T4_, (by first | exact (K1_ HO_0) | (simp only [hl0_1]; exact (K1_ HO_0))), T1_, by repeat (first | (with_reducible first | exact HK.out | apply Kept.alloc | apply Kept.drewN | apply Kept.drew) | exact HK.out)⟩
/-! ### nat_text: function 114 -/
mutual
def nat_text.l0 : Nat → List Int → List Int → Option (ByteArray)
 | 0, _, _ => none
 | k + 1, x0, x3 => if (x0.length : Int) > 0 then ((nat_small.f k x0 1000000000).bind fun bt148 => (nat_text.l1 k x3 bt148.1 bt148.2 0)) else ((slices_Reverse_byte_byte.f k x3).bind fun t147 => (some (strOfNums t147)))
def nat_text.l1 : Nat → List Int → List Int → Int → Int → Option (ByteArray)
 | 0, _, _, _, _ => none
 | k + 1, x3, x4, x5, x6 => if x6 < 9 then (if (x4.length : Int) > 0 then (if x3.length < 140737488355328 then (nat_text.l1 k (x3 ++ [(IntKind.u64.wrap (48 + (Int.tmod x5 10))) % 256]) x4 (IntKind.u64.wrap (Int.tdiv x5 10)) (wrap64 (x6 + 1))) else (none)) else (if x5 > 0 then (if x3.length < 140737488355328 then (nat_text.l1 k (x3 ++ [(IntKind.u64.wrap (48 + (Int.tmod x5 10))) % 256]) x4 (IntKind.u64.wrap (Int.tdiv x5 10)) (wrap64 (x6 + 1))) else (none)) else (nat_text.l0 k x4 x3))) else (nat_text.l0 k x4 x3)
end
def nat_text.f (k : Nat) (l0 : List Int) : Option (ByteArray) := if (l0.length : Int) = 0 then (some (⟨#[48]⟩ : ByteArray)) else (nat_text.l0 k l0 ([] : List Int))
theorem nat_text.calls (k : Nat) (P0_ : Nat → Prop) (A0 : Option Addr) (c0 : Nat) (l0 : List Int) (r : ByteArray) (w : World) (hs0 : Kd.V (Kd.int .u32) 115 w w.heap.size (fun k_ => P0_ k_) (.slice A0 l0.length c0) l0) (h : nat_text.f k l0 = some r) :
  Calls Tryz.prog 114 #[.slice A0 l0.length c0] w fun e w' => e = .returned (.string r) ∧ Below w.heap.size w w' := by
 have HO0 := A_ (show Kd.V (Kd.int .u32) 115 w w.heap.size (fun k_ => (P0_ k_ ∨ w.heap.size ≤ k_)) (.slice A0 l0.length c0) l0 from Kd.V_mono hs0 (fun k_ hk => .inl hk));have HB := A_ (Below.refl w.heap.size w);unfold nat_text.f at h;have H := h;clear h
 by_cases c2 : (l0.length : Int) = 0
 ·
  rw [if_pos c2] at H;have c2b0 : ((l0.length : Int) == 0) = true := beq_iff_eq.mpr c2;have c2b1 : ((l0.length : Int) != 0) = false := bne_eq_false_iff_eq.mpr c2;clear c2;obtain rfl := Option.some.inj H;go_enter Tryz.func114, Tryz.ntmps114
  go_wp2
  go_ret
  exact ⟨T4_, T1_⟩
 ·
  rw [if_neg c2] at H;have c2b0 : ((l0.length : Int) == 0) = false := beq_eq_false_iff_ne.mpr c2;have c2b1 : ((l0.length : Int) != 0) = true := bne_iff_ne.mpr c2
  have c2b2 : ¬ (l0 = []) := fun h_ => c2 (by rw [h_]; rfl)
  have H' := A_ H;clear H;go_enter Tryz.func114, Tryz.ntmps114
  go_wp2
  go_loopg [0, 3] k (fun kq v0 v3 w' => ∃ (x0_1 : List Int) (x3_1 : List Int), Aside0 (nat_text.l0 kq x0_1 x3_1 = some r) ∧ Aside0 (kq ≤ k) ∧ Aside0 (Kd.V (Kd.int .u32) 115 w' w.heap.size (fun k_ => (P0_ k_ ∨ w.heap.size ≤ k_) ∧ some k_ ≠ (v3 : Value).ownBlock) v0 x0_1) ∧ Aside0 (Kd.R (Kd.int .u8) 5 w' w.heap.size (fun k_ => (w.heap.size ≤ k_)) v3 x3_1) ∧ Aside0 (Below w.heap.size w w'))
  case atStart => exact ⟨(l0), (([] : List Int)), H', ⟨Nat.le_refl _⟩, ⟨by (with_reducible repeat (first | apply Kd.V_alloc | apply Kd.V_drewN | apply Kd.V_drew)); exact Kd.V_mono HO0.out (fun _ hk => ⟨hk, (by simp [Value.ownBlock])⟩)⟩, ⟨by first | exact Kd.R_nil _ _ _ _ _ | exact Kd.N_nil _ _ _ _ _ | exact Kd.V_nil _ _ _ _ _ | exact Kd.Q_nil _ _ _ _ _ | exact Kd.S_nil _ _ _ _ _⟩, ⟨T1_⟩⟩
  case round =>
   clear H'
   try clear c2
   try clear c2b0
   try clear c2b1
   try clear c2b2
   obtain ⟨x0_1, x3_1, HA, HK1, HO_0, HO_3, HB⟩ := hrel
   cases gk with
   | zero => exact absurd HA.out (by simp [nat_text.l0])
   | succ k1 =>
    have H := HA.out;clear HA;simp only [nat_text.l0] at H
    by_cases c3 : (x0_1.length : Int) > 0
    ·
     rw [if_pos c3] at H;have c3b0 : decide (0 < (x0_1.length : Int)) = true := decide_eq_true c3;have c3b1 : decide (0 < x0_1.length) = true := decide_eq_true (by omega);clear c3;replace H := BE_ H;obtain ⟨⟨t148, t149⟩, A40, H⟩ := H;have A4 := A_ A40;clear A40;have H' := A_ H;clear H;obtain ⟨Ao5, co5, eo5⟩ := Kd.V_slice HO_0.out;subst eo5
     go_wp2_with (first | (refine GL_ 138 15 Tryz.func138 #[.slice Ao5 x0_1.length co5, .int .u64 1000000000] ?_; (with_reducible refine (nat_small.calls k1 _ _ x0_1 1000000000 t148 t149 _ ?side1 ?side2 A4.out).mono ?_); (case side1 => repeat (first | exact (Kd.V_reads' HO_0.out).2.2 | (with_reducible refine Kd.C_alloc ?_ _) | (with_reducible refine Kd.C_drewN ?_ _) | (with_reducible refine Kd.C_drew ?_))); (case side2 => exact (Kd.V_reads' HO_0.out).2.1); rintro e w6 ⟨v150, rfl, ho0, hb⟩; refine ⟨_, rfl, ?_⟩; replace HO_0 := A_ (Kd.V_elder' (by (with_reducible repeat (first | apply Kd.V_alloc | apply Kd.V_drewN | apply Kd.V_drew)); exact HO_0.out) (Kd.R_base ho0) hb); replace HO_3 := RC_ HO_3 hb; have HO151 := A_ (Kd.R_lower (Kd.R_newM (M := fun k_ => (w.heap.size ≤ k_)) ho0 (below_size T1_) (fun k_ h_ => h_)) (below_size T1_)); replace HB := BS_ hb; clear hb ho0))
     go_loopg [3, 5, 6] k1 (fun kq v3 v5 v6 w' => ∃ (x3_2 : List Int) (x5_2 : Int) (x6_2 : Int), v5 = .int .u64 x5_2 ∧ v6 = .int .i64 x6_2 ∧ Aside0 (nat_text.l1 kq x3_2 t148 x5_2 x6_2 = some r) ∧ Aside0 (kq ≤ k1) ∧ Aside0 (Kd.R (Kd.int .u8) 5 w' w.heap.size (fun k_ => (w.heap.size ≤ k_)) v3 x3_2) ∧ Aside0 (Kd.R (Kd.int .u32) 115 w' w.heap.size (fun k_ => (w.heap.size ≤ k_)) v150 t148) ∧ Aside0 (Below w.heap.size w w'))
     case atStart => exact ⟨(x3_1), (t149), (0), S1_, S1_, H', ⟨Nat.le_refl _⟩, ⟨by (with_reducible repeat (first | apply Kd.R_alloc | apply Kd.R_drewN | apply Kd.R_drew)); exact HO_3.out⟩, ⟨by (with_reducible repeat (first | apply Kd.R_alloc | apply Kd.R_drewN | apply Kd.R_drew)); exact Kd.R_mono HO151.out (fun _ hk => hk.1)⟩, ⟨T1_⟩⟩
     case round =>
      clear H'
      try clear c2
      try clear c2b0
      try clear c2b1
      try clear c2b2
      try clear c3
      try clear c3b0
      try clear c3b1
      obtain ⟨x3_2, x5_2, x6_2, rfl, rfl, HA, HK2, HO_3, HO_4, HB⟩ := hrel
      cases gk with
      | zero => exact absurd HA.out (by simp [nat_text.l1])
      | succ k2 =>
       have H := HA.out;clear HA;simp only [nat_text.l1] at H
       by_cases c7 : x6_2 < 9
       ·
        rw [if_pos c7] at H;have c7b0 := decide_eq_true c7;clear c7
        by_cases c8 : (t148.length : Int) > 0
        ·
         rw [if_pos c8] at H;have c8b0 : decide (0 < (t148.length : Int)) = true := decide_eq_true c8;have c8b1 : decide (0 < t148.length) = true := decide_eq_true (by omega);clear c8
         by_cases c9 : x3_2.length < 140737488355328
         ·
          rw [if_pos c9] at H;have LMc9 := A_ c9;clear c9;obtain ⟨y152, hy_⟩ : ∃ y_ : List Int, y_ = (x3_2 ++ [(IntKind.u64.wrap (48 + (Int.tmod x5_2 10))) % 256]) := ⟨_, rfl⟩
          replace H : (nat_text.l1 k2 y152 t148 (IntKind.u64.wrap (Int.tdiv x5_2 10)) (wrap64 (x6_2 + 1))) = some r := RH_
          have Ny152 := A_ hy_;clear hy_;have H' := A_ H;clear H;obtain ⟨Ao10, co10, eo10⟩ := Kd.R_slice HO_4.out;subst eo10
          go_wp2_with (first | ((with_reducible refine gate_builtin (b := .append) (xs := #[.tmp 31, .tmp 36]) rfl ?_); (try (refine gate_guard (by rfl) ?_; dsimp only)); at_builtin; refine Kd.R_append (Kd.int .u8) (w0 := w) w.heap.size rfl (.tmp 31) (.tmp 36) 44 5 (.int .u8 0) 1 rfl Tryz.underlying44 info5 rfl (by decide) (by omega) u3 x3_2 ((IntKind.u64.wrap (48 + (Int.tmod x5_2 10))) % 256) [.int .u8 ((IntKind.u64.wrap (48 + (Int.tmod x5_2 10))) % 256)] (fun k_ => (w.heap.size ≤ k_)) (fun _ => False) rfl rfl ?aP (fun _ hk => hk.elim) ?aF ?aO ?aB ?aS ?aL ?_; (case aP => exact rfl); (case aB => exact T1_); (case aF => exact (fun k_ hk => (Nat.le_trans (below_size T1_) hk))); (case aO => exact (K1_ HO_3)); (case aS => exact (below_size T1_)); (case aL => have := LMc9.out; omega); intro v153 w11 ho hb hg hat; rw [← Ny152.out] at ho; replace HO_4 := A_ (Kd.R_over' (K1_ HO_4) (Kd.R_typed (K1_ HO_3)) (by decide) hg); have HO154 := A_ (ho); replace HB := A_ (hb); clear HO_3; clear ho hb hg hat))
          go_roundg k2
          case measure => have := HK1.out; have := HK2.out; omega
          case rel => exact ⟨(y152), (IntKind.u64.wrap (Int.tdiv x5_2 10)), (wrap64 (x6_2 + 1)), S1_, S1_, H', ⟨by have := HK1.out; have := HK2.out; omega⟩, ⟨by (with_reducible repeat (first | apply Kd.R_alloc | apply Kd.R_drewN | apply Kd.R_drew)); exact HO154.out⟩, ⟨by (with_reducible repeat (first | apply Kd.R_alloc | apply Kd.R_drewN | apply Kd.R_drew)); exact HO_4.out⟩, ⟨T1_⟩⟩
         ·
          rw [if_neg c9] at H;exact absurd H (by simp)
        ·
         rw [if_neg c8] at H;have c8b0 : decide (0 < (t148.length : Int)) = false := decide_eq_false c8;have c8b1 : decide (0 < t148.length) = false := decide_eq_false (by omega);clear c8
         by_cases c12 : x5_2 > 0
         ·
          rw [if_pos c12] at H;have c12b0 : decide (0 < x5_2) = true := decide_eq_true c12;clear c12
          by_cases c13 : x3_2.length < 140737488355328
          ·
           rw [if_pos c13] at H;have LMc13 := A_ c13;clear c13;obtain ⟨y155, hy_⟩ : ∃ y_ : List Int, y_ = (x3_2 ++ [(IntKind.u64.wrap (48 + (Int.tmod x5_2 10))) % 256]) := ⟨_, rfl⟩
           replace H : (nat_text.l1 k2 y155 t148 (IntKind.u64.wrap (Int.tdiv x5_2 10)) (wrap64 (x6_2 + 1))) = some r := RH_
           have Ny155 := A_ hy_;clear hy_;have H' := A_ H;clear H;obtain ⟨Ao14, co14, eo14⟩ := Kd.R_slice HO_4.out;subst eo14
           go_wp2_with (first | ((with_reducible refine gate_builtin (b := .append) (xs := #[.tmp 31, .tmp 36]) rfl ?_); (try (refine gate_guard (by rfl) ?_; dsimp only)); at_builtin; refine Kd.R_append (Kd.int .u8) (w0 := w) w.heap.size rfl (.tmp 31) (.tmp 36) 44 5 (.int .u8 0) 1 rfl Tryz.underlying44 info5 rfl (by decide) (by omega) u3 x3_2 ((IntKind.u64.wrap (48 + (Int.tmod x5_2 10))) % 256) [.int .u8 ((IntKind.u64.wrap (48 + (Int.tmod x5_2 10))) % 256)] (fun k_ => (w.heap.size ≤ k_)) (fun _ => False) rfl rfl ?aP (fun _ hk => hk.elim) ?aF ?aO ?aB ?aS ?aL ?_; (case aP => exact rfl); (case aB => exact T1_); (case aF => exact (fun k_ hk => (Nat.le_trans (below_size T1_) hk))); (case aO => exact (K1_ HO_3)); (case aS => exact (below_size T1_)); (case aL => have := LMc13.out; omega); intro v156 w15 ho hb hg hat; rw [← Ny155.out] at ho; replace HO_4 := A_ (Kd.R_over' (K1_ HO_4) (Kd.R_typed (K1_ HO_3)) (by decide) hg); have HO157 := A_ (ho); replace HB := A_ (hb); clear HO_3; clear ho hb hg hat))
           go_roundg k2
           case measure => have := HK1.out; have := HK2.out; omega
           case rel => exact ⟨(y155), (IntKind.u64.wrap (Int.tdiv x5_2 10)), (wrap64 (x6_2 + 1)), S1_, S1_, H', ⟨by have := HK1.out; have := HK2.out; omega⟩, ⟨by (with_reducible repeat (first | apply Kd.R_alloc | apply Kd.R_drewN | apply Kd.R_drew)); exact HO157.out⟩, ⟨by (with_reducible repeat (first | apply Kd.R_alloc | apply Kd.R_drewN | apply Kd.R_drew)); exact HO_4.out⟩, ⟨T1_⟩⟩
          ·
           rw [if_neg c13] at H;exact absurd H (by simp)
         ·
          rw [if_neg c12] at H;have c12b0 : decide (0 < x5_2) = false := decide_eq_false c12;clear c12;have H' := A_ H;clear H;obtain ⟨Ao16, co16, eo16⟩ := Kd.R_slice HO_4.out;subst eo16
          go_wp2
          go_roundg k2
          case measure => have := HK1.out; have := HK2.out; omega
          case rel => exact ⟨(t148), (x3_2), H', ⟨by have := HK1.out; have := HK2.out; omega⟩, ⟨Kd.V_mono (Kd.R_V (by (with_reducible repeat (first | apply Kd.R_alloc | apply Kd.R_drewN | apply Kd.R_drew)); exact (Kd.R_apart' HO_4.out (Kd.R_typed HO_3.out) (by decide)))) (fun k_ hk => by first | exact ⟨(.inr (hk.1)), hk.2⟩ | exact (.inr (hk)))⟩, ⟨by (with_reducible repeat (first | apply Kd.R_alloc | apply Kd.R_drewN | apply Kd.R_drew)); exact HO_3.out⟩, ⟨T1_⟩⟩
       ·
        rw [if_neg c7] at H;have c7b0 := decide_eq_false c7;clear c7;have H' := A_ H;clear H
        go_wp2
        go_roundg k2
        case measure => have := HK1.out; have := HK2.out; omega
        case rel => exact ⟨(t148), (x3_2), H', ⟨by have := HK1.out; have := HK2.out; omega⟩, ⟨Kd.V_mono (Kd.R_V (by (with_reducible repeat (first | apply Kd.R_alloc | apply Kd.R_drewN | apply Kd.R_drew)); exact (Kd.R_apart' HO_4.out (Kd.R_typed HO_3.out) (by decide)))) (fun k_ hk => by first | exact ⟨(.inr (hk.1)), hk.2⟩ | exact (.inr (hk)))⟩, ⟨by (with_reducible repeat (first | apply Kd.R_alloc | apply Kd.R_drewN | apply Kd.R_drew)); exact HO_3.out⟩, ⟨T1_⟩⟩
    ·
     rw [if_neg c3] at H;have c3b0 : decide (0 < (x0_1.length : Int)) = false := decide_eq_false c3;have c3b1 : decide (0 < x0_1.length) = false := decide_eq_false (by omega);clear c3;replace H := BE_ H;obtain ⟨t147, A170, H⟩ := H;have A17 := A_ A170;clear A170;obtain rfl := Option.some.inj H;obtain ⟨Ao18, co18, eo18⟩ := Kd.V_slice HO_0.out;subst eo18;obtain ⟨Ao19, co19, eo19⟩ := Kd.R_slice HO_3.out;subst eo19
     go_wp2_with (first | (refine GL_ 142 42 Tryz.func142 #[.slice Ao19 x3_1.length co19] ?_; (with_reducible refine (slices_Reverse_byte_byte.calls k1 (fun k_ => some k_ = (.slice Ao19 x3_1.length co19 : Value).ownBlock) (.slice Ao19 x3_1.length co19) x3_1 t147 w _ ?side1 ?side2 A17.out).mono ?_); (case side1 => repeat (first | (with_reducible first | exact HB.out | apply below_alloc | apply pw_below_drewN | apply below_drew1) | exact HB.out)); (case side2 => exact Kd.R_tight rfl HO_3.out); rintro e w20 ⟨rfl, hy0, hb, hkp⟩; refine ⟨_, rfl, ?_⟩; replace HO_0 := A_ (Kd.V_mono (ok' := fun k_ => (P0_ k_ ∨ w.heap.size ≤ k_) ∧ some k_ ≠ (.slice Ao19 x3_1.length co19 : Value).ownBlock) (Kd.V_keptB (HO_0.out) hkp (fun k_ hk_ hs_ => (hk_.2) hs_)) (fun k_ hk_ => ⟨hk_.1.1, hk_.1.2⟩)); replace HO_3 := A_ (Kd.R_reok rfl hy0 (fun k_ e_ => HO_3.out.1 k_ e_)); replace HB := A_ (hb); clear hb hkp hy0; have hcv21 := own_string (P := Tryz.prog) Tryz.underlying44 Tryz.underlying5 Tryz.underlying9 (Kd.own_of_R HO_3.out)))
     go_ret
     exact ⟨T4_, T1_⟩
/-! ### nat_add: function 144 -/
mutual
def nat_add.l0 : Nat → List Int → List Int → Int → List Int → Int → Int → Option (List Int)
 | 0, _, _, _, _, _, _ => none
 | k + 1, x1, x5, x6, x20, x21, x22 => if x22 < x21 then (if 0 ≤ x22 then (if x22 < (x20.length : Int) then (if x22 < (x1.length : Int) then (if x5.length < 35184372088832 then (nat_add.l0 k x1 (x5 ++ [(IntKind.u64.wrap ((IntKind.u64.wrap (x6 + (IntKind.u64.wrap (rd x20 x22)))) + (IntKind.u64.wrap (rd x1 x22)))) % 4294967296]) ((IntKind.u64.wrap ((IntKind.u64.wrap (x6 + (IntKind.u64.wrap (rd x20 x22)))) + (IntKind.u64.wrap (rd x1 x22)))) / 4294967296) x20 x21 (wrap64 (x22 + 1))) else (none)) else (if x5.length < 35184372088832 then (nat_add.l0 k x1 (x5 ++ [(IntKind.u64.wrap (x6 + (IntKind.u64.wrap (rd x20 x22)))) % 4294967296]) ((IntKind.u64.wrap (x6 + (IntKind.u64.wrap (rd x20 x22)))) / 4294967296) x20 x21 (wrap64 (x22 + 1))) else (none))) else (none)) else (none)) else (if x5.length < 35184372088832 then ((nat_trim.f k (x5 ++ [(x6) % 4294967296])).bind fun t172 => (some t172)) else (none))
def nat_add.l100 : Nat → List Int → List Int → Int → List Int → Int → Int → Option (List Int)
 | 0, _, _, _, _, _, _ => none
 | k + 1, x1, x5, x6, x20, x21, x22 => if x22 < x21 then (if 0 ≤ x22 then (if x22 < (x20.length : Int) then (if x22 < (x1.length : Int) then (if x5.length < 35184372088832 then (nat_add.l100 k x1 (x5 ++ [(IntKind.u64.wrap ((IntKind.u64.wrap (x6 + (IntKind.u64.wrap (rd x20 x22)))) + (IntKind.u64.wrap (rd x1 x22)))) % 4294967296]) ((IntKind.u64.wrap ((IntKind.u64.wrap (x6 + (IntKind.u64.wrap (rd x20 x22)))) + (IntKind.u64.wrap (rd x1 x22)))) / 4294967296) x20 x21 (wrap64 (x22 + 1))) else (none)) else (if x5.length < 35184372088832 then (nat_add.l100 k x1 (x5 ++ [(IntKind.u64.wrap (x6 + (IntKind.u64.wrap (rd x20 x22)))) % 4294967296]) ((IntKind.u64.wrap (x6 + (IntKind.u64.wrap (rd x20 x22)))) / 4294967296) x20 x21 (wrap64 (x22 + 1))) else (none))) else (none)) else (none)) else (if x5.length < 35184372088832 then ((nat_trim.f k (x5 ++ [(x6) % 4294967296])).bind fun t189 => (some t189)) else (none))
end
def nat_add.f (k : Nat) (l0 : List Int) (l1 : List Int) : Option (List Int) := if (l0.length : Int) < (l1.length : Int) then (if 0 ≤ (wrap64 ((l1.length : Int) + 1)) then (if ((wrap64 ((l1.length : Int) + 1)) : Int).toNat ≤ 70368744177664 then (nat_add.l0 k l0 (([] : List Int)) 0 l1 (l1.length : Int) 0) else (none)) else (none)) else (if 0 ≤ (wrap64 ((l0.length : Int) + 1)) then (if ((wrap64 ((l0.length : Int) + 1)) : Int).toNat ≤ 70368744177664 then (nat_add.l100 k l1 (([] : List Int)) 0 l0 (l0.length : Int) 0) else (none)) else (none))
theorem nat_add.calls (k : Nat) (A0 : Option Addr) (c0 : Nat) (l0 : List Int) (A1 : Option Addr) (c1 : Nat) (l1 : List Int) (r : List Int) (w : World) (hr0 : Kd.C (Kd.int .u32) w A0 l0.length l0) (hc0 : l0.length ≤ c0) (hr1 : Kd.C (Kd.int .u32) w A1 l1.length l1) (hc1 : l1.length ≤ c1) (h : nat_add.f k l0 l1 = some r) :
  Calls Tryz.prog 144 #[.slice A0 l0.length c0, .slice A1 l1.length c1] w fun e w' => ∃ v0_ : Value, e = .returned (v0_) ∧ Kd.R (Kd.int .u32) 115 w' w.heap.size (fun _ => True) v0_ r ∧ Below w.heap.size w w' := by
 have HR0 := A_ hr0;have HC0 := A_ hc0;clear hr0 hc0;have HR1 := A_ hr1;have HC1 := A_ hc1;clear hr1 hc1;have HB := A_ (Below.refl w.heap.size w);unfold nat_add.f at h;have H := h;clear h
 by_cases c3 : (l0.length : Int) < (l1.length : Int)
 ·
  rw [if_pos c3] at H;have c3b0 := decide_eq_true c3;have c3b1 : decide (l0.length < l1.length) = true := decide_eq_true (Int.ofNat_lt.mp c3);clear c3;obtain ⟨ji4, hji4⟩ : ∃ j_ : Int, (wrap64 ((l1.length : Int) + 1)) = j_ := ⟨_, rfl⟩
  first | rw [hji4] at H | simp only [hji4] at H
  have hji4w : (IntKind.i64.wrap ((l1.length : Int) + 1)) = ji4 := (i64_w _).trans hji4
  by_cases c5 : 0 ≤ (ji4)
  ·
   rw [if_pos c5] at H;have c5b0 := eq_true c5;have c5b1 := decide_eq_true c5;clear c5
   by_cases c6 : ((ji4) : Int).toNat ≤ 70368744177664
   ·
    rw [if_pos c6] at H;have c6b0 := eq_true c6;have c6b1 := decide_eq_true c6;clear c6;obtain ⟨y158, hy_⟩ : ∃ y_ : List Int, y_ = (([] : List Int)) := ⟨_, rfl⟩
    replace H : (nat_add.l0 k l0 y158 0 l1 (l1.length : Int) 0) = some r := RH_
    have Ny158 := A_ hy_;clear hy_;have H' := A_ H;clear H;go_enter Tryz.func144, Tryz.ntmps144
    go_wp2_with (first | ((with_reducible refine gate_dst (N := 19) rfl ?_); refine Go.Proofs.YtndkjpkgllmbnaaGreatDoor.Mine.R_make0 (Kd.int .u32) _ 115 rfl (N := 19) rfl 131 _ _ rfl ji4 rfl rfl Tryz.underlying131 (.int .u32 0) 4 info115 (by decide) (by decide) (ok := fun _ => True) trivial (DA_) (Nat.le_trans (Nat.mul_le_mul_right _ (DA_ : (ji4 : Int).toNat ≤ 70368744177664)) (by omega)) (Below.refl _ _) (Nat.le_refl _) ?_; intro v159 w7 ho8 hb hg_ hnew_; clear hg_ hnew_; (first | rw [← Ny158.out] at ho8 | (simp only [Int.reduceToNat] at ho8; rw [← Ny158.out] at ho8)); have HO160 := A_ (Kd.R_lower ho8 (below_size T1_)); replace HB := BS_ hb; clear hb ho8))
    go_loopg [5, 6, 22] k (fun kq v5 v6 v22 w' => ∃ (x5_1 : List Int) (x6_1 : Int) (x22_1 : Int), v6 = .int .u64 x6_1 ∧ v22 = .int .i64 x22_1 ∧ Aside0 (nat_add.l0 kq l0 x5_1 x6_1 l1 (l1.length : Int) x22_1 = some r) ∧ Aside0 (kq ≤ k) ∧ Aside0 (Kd.R (Kd.int .u32) 115 w' w.heap.size (fun _ => True) v5 x5_1) ∧ Aside0 (Below w.heap.size w w'))
    case atStart => exact ⟨(y158), (0), (0), S1_, S1_, H', ⟨Nat.le_refl _⟩, ⟨by (with_reducible repeat (first | apply Kd.R_alloc | apply Kd.R_drewN | apply Kd.R_drew)); exact HO160.out⟩, ⟨T1_⟩⟩
    case round =>
     clear H'
     try clear c1
     try clear c3
     try clear c3b0
     try clear c3b1
     try clear c5
     try clear c5b0
     try clear c5b1
     try clear c6
     try clear c6b0
     try clear c6b1
     obtain ⟨x5_1, x6_1, x22_1, rfl, rfl, HA, HK1, HO_5, HB⟩ := hrel
     cases gk with
     | zero => exact absurd HA.out (by simp [nat_add.l0])
     | succ k1 =>
      have H := HA.out;clear HA;simp only [nat_add.l0] at H
      by_cases c9 : x22_1 < (l1.length : Int)
      ·
       rw [if_pos c9] at H;have c9b0 := decide_eq_true c9;clear c9
       by_cases c10 : 0 ≤ x22_1
       ·
        rw [if_pos c10] at H;have c10b0 := decide_eq_true c10;clear c10
        by_cases c11 : x22_1 < (l1.length : Int)
        ·
         rw [if_pos c11] at H;have c11b0 := decide_eq_true c11;clear c11
         by_cases c12 : x22_1 < (l0.length : Int)
         ·
          rw [if_pos c12] at H;have c12b0 := decide_eq_true c12;clear c12
          by_cases c13 : x5_1.length < 35184372088832
          ·
           rw [if_pos c13] at H;have LMc13 := A_ c13;clear c13;obtain ⟨y163, hy_⟩ : ∃ y_ : List Int, y_ = (x5_1 ++ [(IntKind.u64.wrap ((IntKind.u64.wrap (x6_1 + (IntKind.u64.wrap (rd l1 x22_1)))) + (IntKind.u64.wrap (rd l0 x22_1)))) % 4294967296]) := ⟨_, rfl⟩
           replace H : (nat_add.l0 k1 l0 y163 ((IntKind.u64.wrap ((IntKind.u64.wrap (x6_1 + (IntKind.u64.wrap (rd l1 x22_1)))) + (IntKind.u64.wrap (rd l0 x22_1)))) / 4294967296) l1 (l1.length : Int) (wrap64 (x22_1 + 1))) = some r := RH_
           have Ny163 := A_ hy_;clear hy_;have H' := A_ H;clear H;have p161 : 0 ≤ (x22_1 : Int) := DA_;have q161 : x22_1 < (l1.length : Int) := DA_;obtain ⟨ad161, e161, hx161_0⟩ := Kd.at_int HR1.out x22_1 p161 q161
           cases e161
           replace hx161_0 := (HB.out.cell (World.block_lt_of_cell? w _ hx161_0)).trans hx161_0;replace p161 := eq_true p161;replace q161 := eq_true q161;have p162 : 0 ≤ (x22_1 : Int) := DA_;have q162 : x22_1 < (l0.length : Int) := DA_;obtain ⟨ad162, e162, hx162_0⟩ := Kd.at_int HR0.out x22_1 p162 q162
           cases e162
           replace hx162_0 := (HB.out.cell (World.block_lt_of_cell? w _ hx162_0)).trans hx162_0;replace p162 := eq_true p162;replace q162 := eq_true q162
           go_wp2_with (first | ((with_reducible refine gate_builtin (b := .append) (xs := #[.tmp 42, .tmp 45]) rfl ?_); at_builtin; refine Kd.R_append (Kd.int .u32) (w0 := w) w.heap.size rfl (.tmp 42) (.tmp 45) 131 115 (.int .u32 0) 4 rfl Tryz.underlying131 info115 rfl (by decide) (by omega) u5 x5_1 ((IntKind.u64.wrap ((IntKind.u64.wrap (x6_1 + (IntKind.u64.wrap (rd l1 x22_1)))) + (IntKind.u64.wrap (rd l0 x22_1)))) % 4294967296) [.int .u32 ((IntKind.u64.wrap ((IntKind.u64.wrap (x6_1 + (IntKind.u64.wrap (rd l1 x22_1)))) + (IntKind.u64.wrap (rd l0 x22_1)))) % 4294967296)] (fun _ => True) (fun _ => False) rfl rfl ?aP (fun _ hk => hk.elim) ?aF ?aO ?aB ?aS ?aL ?_; (case aP => exact rfl); (case aB => exact T1_); (case aF => exact (fun _ _ => trivial)); (case aO => exact (K1_ HO_5)); (case aS => exact (below_size T1_)); (case aL => have := LMc13.out; omega); intro v164 w14 ho hb hg hat; rw [← Ny163.out] at ho; have HO165 := A_ (ho); replace HB := A_ (hb); clear HO_5; clear ho hb hg hat))
           go_roundg k1
           case measure => have := HK1.out; omega
           case rel => exact ⟨(y163), ((IntKind.u64.wrap ((IntKind.u64.wrap (x6_1 + (IntKind.u64.wrap (rd l1 x22_1)))) + (IntKind.u64.wrap (rd l0 x22_1)))) / 4294967296), (wrap64 (x22_1 + 1)), S1_, S1_, H', ⟨by have := HK1.out; omega⟩, ⟨by (with_reducible repeat (first | apply Kd.R_alloc | apply Kd.R_drewN | apply Kd.R_drew)); exact HO165.out⟩, ⟨T1_⟩⟩
          ·
           rw [if_neg c13] at H;exact absurd H (by simp)
         ·
          rw [if_neg c12] at H;have c12b0 := decide_eq_false c12;clear c12
          by_cases c15 : x5_1.length < 35184372088832
          ·
           rw [if_pos c15] at H;have LMc15 := A_ c15;clear c15;obtain ⟨y166, hy_⟩ : ∃ y_ : List Int, y_ = (x5_1 ++ [(IntKind.u64.wrap (x6_1 + (IntKind.u64.wrap (rd l1 x22_1)))) % 4294967296]) := ⟨_, rfl⟩
           replace H : (nat_add.l0 k1 l0 y166 ((IntKind.u64.wrap (x6_1 + (IntKind.u64.wrap (rd l1 x22_1)))) / 4294967296) l1 (l1.length : Int) (wrap64 (x22_1 + 1))) = some r := RH_
           have Ny166 := A_ hy_;clear hy_;have H' := A_ H;clear H;have p161 : 0 ≤ (x22_1 : Int) := DA_;have q161 : x22_1 < (l1.length : Int) := DA_;obtain ⟨ad161, e161, hx161_0⟩ := Kd.at_int HR1.out x22_1 p161 q161
           cases e161
           replace hx161_0 := (HB.out.cell (World.block_lt_of_cell? w _ hx161_0)).trans hx161_0;replace p161 := eq_true p161;replace q161 := eq_true q161
           go_wp2_with (first | ((with_reducible refine gate_builtin (b := .append) (xs := #[.tmp 42, .tmp 45]) rfl ?_); at_builtin; refine Kd.R_append (Kd.int .u32) (w0 := w) w.heap.size rfl (.tmp 42) (.tmp 45) 131 115 (.int .u32 0) 4 rfl Tryz.underlying131 info115 rfl (by decide) (by omega) u5 x5_1 ((IntKind.u64.wrap (x6_1 + (IntKind.u64.wrap (rd l1 x22_1)))) % 4294967296) [.int .u32 ((IntKind.u64.wrap (x6_1 + (IntKind.u64.wrap (rd l1 x22_1)))) % 4294967296)] (fun _ => True) (fun _ => False) rfl rfl ?aP (fun _ hk => hk.elim) ?aF ?aO ?aB ?aS ?aL ?_; (case aP => exact rfl); (case aB => exact T1_); (case aF => exact (fun _ _ => trivial)); (case aO => exact (K1_ HO_5)); (case aS => exact (below_size T1_)); (case aL => have := LMc15.out; omega); intro v167 w16 ho hb hg hat; rw [← Ny166.out] at ho; have HO168 := A_ (ho); replace HB := A_ (hb); clear HO_5; clear ho hb hg hat))
           go_roundg k1
           case measure => have := HK1.out; omega
           case rel => exact ⟨(y166), ((IntKind.u64.wrap (x6_1 + (IntKind.u64.wrap (rd l1 x22_1)))) / 4294967296), (wrap64 (x22_1 + 1)), S1_, S1_, H', ⟨by have := HK1.out; omega⟩, ⟨by (with_reducible repeat (first | apply Kd.R_alloc | apply Kd.R_drewN | apply Kd.R_drew)); exact HO168.out⟩, ⟨T1_⟩⟩
          ·
           rw [if_neg c15] at H;exact absurd H (by simp)
        ·
         rw [if_neg c11] at H;exact absurd H (by simp)
       ·
        rw [if_neg c10] at H;exact absurd H (by simp)
      ·
       rw [if_neg c9] at H;have c9b0 := decide_eq_false c9;clear c9
       by_cases c17 : x5_1.length < 35184372088832
       ·
        rw [if_pos c17] at H;have LMc17 := A_ c17;clear c17;obtain ⟨y169, hy_⟩ : ∃ y_ : List Int, y_ = (x5_1 ++ [(x6_1) % 4294967296]) := ⟨_, rfl⟩
        replace H : ((nat_trim.f k1 y169).bind fun t172 => (some t172)) = some r := RH_
        have Ny169 := A_ hy_;clear hy_;replace H := BE_ H;obtain ⟨t172, A180, H⟩ := H;have A18 := A_ A180;clear A180;obtain rfl := Option.some.inj H
        go_wp2_with (first | ((with_reducible refine gate_builtin (b := .append) (xs := #[.tmp 50, .tmp 53]) rfl ?_); at_builtin; refine Kd.R_append (Kd.int .u32) (w0 := w) w.heap.size rfl (.tmp 50) (.tmp 53) 131 115 (.int .u32 0) 4 rfl Tryz.underlying131 info115 rfl (by decide) (by omega) u5 x5_1 ((x6_1) % 4294967296) [.int .u32 ((x6_1) % 4294967296)] (fun _ => True) (fun _ => False) rfl rfl ?aP (fun _ hk => hk.elim) ?aF ?aO ?aB ?aS ?aL ?_; (case aP => exact rfl); (case aB => exact T1_); (case aF => exact (fun _ _ => trivial)); (case aO => exact (K1_ HO_5)); (case aS => exact (below_size T1_)); (case aL => have := LMc17.out; omega); intro v170 w19 ho hb hg hat; rw [← Ny169.out] at ho; have HO171 := A_ (ho); replace HB := A_ (hb); clear HO_5; clear ho hb hg hat; obtain ⟨Ao20, co20, eo20⟩ := Kd.R_slice HO171.out; subst eo20) | (refine GL_ 135 55 Tryz.func135 #[.slice Ao20 y169.length co20] ?_; (with_reducible refine (nat_trim.calls k1 (fun k_ => some k_ = (.slice Ao20 y169.length co20 : Value).ownBlock) (.slice Ao20 y169.length co20) y169 t172 w _ ?side1 ?side2 A18.out).mono ?_); (case side1 => repeat (first | (with_reducible first | exact HB.out | apply below_alloc | apply pw_below_drewN | apply below_drew1) | exact HB.out)); (case side2 => exact Kd.R_tight rfl HO171.out); rintro e w21 ⟨v173, rfl, ho0, hb, hkp⟩; refine ⟨_, rfl, ?_⟩; have HO174 := A_ (Kd.R_mono (ok' := fun k_ => True) ho0 (fun k_ hk_ => trivial)); replace HB := A_ (hb); clear HO171; clear hb hkp ho0))
        go_ret
        exact ⟨_, by first | rfl | (simp [errW_none, errW_some] <;> rfl) | (simp only [← hji4]; first | rfl | (simp [errW_none, errW_some] <;> rfl)) | (simp [*, errW_none, errW_some] <;> rfl), by (with_reducible repeat (first | apply Kd.R_alloc | apply Kd.R_drewN | apply Kd.R_drew)); exact HO174.out, T1_⟩
       ·
        rw [if_neg c17] at H;exact absurd H (by simp)
   ·
    rw [if_neg c6] at H;exact absurd H (by simp)
  ·
   rw [if_neg c5] at H;exact absurd H (by simp)
 ·
  rw [if_neg c3] at H;have c3b0 := decide_eq_false c3;have c3b1 : decide (l0.length < l1.length) = false := decide_eq_false (fun h => c3 (Int.ofNat_lt.mpr h));clear c3;obtain ⟨ji22, hji22⟩ : ∃ j_ : Int, (wrap64 ((l0.length : Int) + 1)) = j_ := ⟨_, rfl⟩
  first | rw [hji22] at H | simp only [hji22] at H
  have hji22w : (IntKind.i64.wrap ((l0.length : Int) + 1)) = ji22 := (i64_w _).trans hji22
  by_cases c23 : 0 ≤ (ji22)
  ·
   rw [if_pos c23] at H;have c23b0 := eq_true c23;have c23b1 := decide_eq_true c23;clear c23
   by_cases c24 : ((ji22) : Int).toNat ≤ 70368744177664
   ·
    rw [if_pos c24] at H;have c24b0 := eq_true c24;have c24b1 := decide_eq_true c24;clear c24;obtain ⟨y175, hy_⟩ : ∃ y_ : List Int, y_ = (([] : List Int)) := ⟨_, rfl⟩
    replace H : (nat_add.l100 k l1 y175 0 l0 (l0.length : Int) 0) = some r := RH_
    have Ny175 := A_ hy_;clear hy_;have H' := A_ H;clear H;go_enter Tryz.func144, Tryz.ntmps144
    go_wp2_with (first | ((with_reducible refine gate_dst (N := 19) rfl ?_); refine Go.Proofs.YtndkjpkgllmbnaaGreatDoor.Mine.R_make0 (Kd.int .u32) _ 115 rfl (N := 19) rfl 131 _ _ rfl ji22 rfl rfl Tryz.underlying131 (.int .u32 0) 4 info115 (by decide) (by decide) (ok := fun _ => True) trivial (DA_) (Nat.le_trans (Nat.mul_le_mul_right _ (DA_ : (ji22 : Int).toNat ≤ 70368744177664)) (by omega)) (Below.refl _ _) (Nat.le_refl _) ?_; intro v176 w25 ho26 hb hg_ hnew_; clear hg_ hnew_; (first | rw [← Ny175.out] at ho26 | (simp only [Int.reduceToNat] at ho26; rw [← Ny175.out] at ho26)); have HO177 := A_ (Kd.R_lower ho26 (below_size T1_)); replace HB := BS_ hb; clear hb ho26))
    go_loopg [5, 6, 22] k (fun kq v5 v6 v22 w' => ∃ (x5_1 : List Int) (x6_1 : Int) (x22_1 : Int), v6 = .int .u64 x6_1 ∧ v22 = .int .i64 x22_1 ∧ Aside0 (nat_add.l100 kq l1 x5_1 x6_1 l0 (l0.length : Int) x22_1 = some r) ∧ Aside0 (kq ≤ k) ∧ Aside0 (Kd.R (Kd.int .u32) 115 w' w.heap.size (fun _ => True) v5 x5_1) ∧ Aside0 (Below w.heap.size w w'))
    case atStart => exact ⟨(y175), (0), (0), S1_, S1_, H', ⟨Nat.le_refl _⟩, ⟨by (with_reducible repeat (first | apply Kd.R_alloc | apply Kd.R_drewN | apply Kd.R_drew)); exact HO177.out⟩, ⟨T1_⟩⟩
    case round =>
     clear H'
     try clear c1
     try clear c3
     try clear c3b0
     try clear c3b1
     try clear c23
     try clear c23b0
     try clear c23b1
     try clear c24
     try clear c24b0
     try clear c24b1
     obtain ⟨x5_1, x6_1, x22_1, rfl, rfl, HA, HK1, HO_5, HB⟩ := hrel
     cases gk with
     | zero => exact absurd HA.out (by simp [nat_add.l100])
     | succ k1 =>
      have H := HA.out;clear HA;simp only [nat_add.l100] at H
      by_cases c27 : x22_1 < (l0.length : Int)
      ·
       rw [if_pos c27] at H;have c27b0 := decide_eq_true c27;clear c27
       by_cases c28 : 0 ≤ x22_1
       ·
        rw [if_pos c28] at H;have c28b0 := decide_eq_true c28;clear c28
        by_cases c29 : x22_1 < (l0.length : Int)
        ·
         rw [if_pos c29] at H;have c29b0 := decide_eq_true c29;clear c29
         by_cases c30 : x22_1 < (l1.length : Int)
         ·
          rw [if_pos c30] at H;have c30b0 := decide_eq_true c30;clear c30
          by_cases c31 : x5_1.length < 35184372088832
          ·
           rw [if_pos c31] at H;have LMc31 := A_ c31;clear c31;obtain ⟨y180, hy_⟩ : ∃ y_ : List Int, y_ = (x5_1 ++ [(IntKind.u64.wrap ((IntKind.u64.wrap (x6_1 + (IntKind.u64.wrap (rd l0 x22_1)))) + (IntKind.u64.wrap (rd l1 x22_1)))) % 4294967296]) := ⟨_, rfl⟩
           replace H : (nat_add.l100 k1 l1 y180 ((IntKind.u64.wrap ((IntKind.u64.wrap (x6_1 + (IntKind.u64.wrap (rd l0 x22_1)))) + (IntKind.u64.wrap (rd l1 x22_1)))) / 4294967296) l0 (l0.length : Int) (wrap64 (x22_1 + 1))) = some r := RH_
           have Ny180 := A_ hy_;clear hy_;have H' := A_ H;clear H;have p178 : 0 ≤ (x22_1 : Int) := DA_;have q178 : x22_1 < (l0.length : Int) := DA_;obtain ⟨ad178, e178, hx178_0⟩ := Kd.at_int HR0.out x22_1 p178 q178
           cases e178
           replace hx178_0 := (HB.out.cell (World.block_lt_of_cell? w _ hx178_0)).trans hx178_0;replace p178 := eq_true p178;replace q178 := eq_true q178;have p179 : 0 ≤ (x22_1 : Int) := DA_;have q179 : x22_1 < (l1.length : Int) := DA_;obtain ⟨ad179, e179, hx179_0⟩ := Kd.at_int HR1.out x22_1 p179 q179
           cases e179
           replace hx179_0 := (HB.out.cell (World.block_lt_of_cell? w _ hx179_0)).trans hx179_0;replace p179 := eq_true p179;replace q179 := eq_true q179
           go_wp2_with (first | ((with_reducible refine gate_builtin (b := .append) (xs := #[.tmp 42, .tmp 45]) rfl ?_); at_builtin; refine Kd.R_append (Kd.int .u32) (w0 := w) w.heap.size rfl (.tmp 42) (.tmp 45) 131 115 (.int .u32 0) 4 rfl Tryz.underlying131 info115 rfl (by decide) (by omega) u5 x5_1 ((IntKind.u64.wrap ((IntKind.u64.wrap (x6_1 + (IntKind.u64.wrap (rd l0 x22_1)))) + (IntKind.u64.wrap (rd l1 x22_1)))) % 4294967296) [.int .u32 ((IntKind.u64.wrap ((IntKind.u64.wrap (x6_1 + (IntKind.u64.wrap (rd l0 x22_1)))) + (IntKind.u64.wrap (rd l1 x22_1)))) % 4294967296)] (fun _ => True) (fun _ => False) rfl rfl ?aP (fun _ hk => hk.elim) ?aF ?aO ?aB ?aS ?aL ?_; (case aP => exact rfl); (case aB => exact T1_); (case aF => exact (fun _ _ => trivial)); (case aO => exact (K1_ HO_5)); (case aS => exact (below_size T1_)); (case aL => have := LMc31.out; omega); intro v181 w32 ho hb hg hat; rw [← Ny180.out] at ho; have HO182 := A_ (ho); replace HB := A_ (hb); clear HO_5; clear ho hb hg hat))
           go_roundg k1
           case measure => have := HK1.out; omega
           case rel => exact ⟨(y180), ((IntKind.u64.wrap ((IntKind.u64.wrap (x6_1 + (IntKind.u64.wrap (rd l0 x22_1)))) + (IntKind.u64.wrap (rd l1 x22_1)))) / 4294967296), (wrap64 (x22_1 + 1)), S1_, S1_, H', ⟨by have := HK1.out; omega⟩, ⟨by (with_reducible repeat (first | apply Kd.R_alloc | apply Kd.R_drewN | apply Kd.R_drew)); exact HO182.out⟩, ⟨T1_⟩⟩
          ·
           rw [if_neg c31] at H;exact absurd H (by simp)
         ·
          rw [if_neg c30] at H;have c30b0 := decide_eq_false c30;clear c30
          by_cases c33 : x5_1.length < 35184372088832
          ·
           rw [if_pos c33] at H;have LMc33 := A_ c33;clear c33;obtain ⟨y183, hy_⟩ : ∃ y_ : List Int, y_ = (x5_1 ++ [(IntKind.u64.wrap (x6_1 + (IntKind.u64.wrap (rd l0 x22_1)))) % 4294967296]) := ⟨_, rfl⟩
           replace H : (nat_add.l100 k1 l1 y183 ((IntKind.u64.wrap (x6_1 + (IntKind.u64.wrap (rd l0 x22_1)))) / 4294967296) l0 (l0.length : Int) (wrap64 (x22_1 + 1))) = some r := RH_
           have Ny183 := A_ hy_;clear hy_;have H' := A_ H;clear H;have p178 : 0 ≤ (x22_1 : Int) := DA_;have q178 : x22_1 < (l0.length : Int) := DA_;obtain ⟨ad178, e178, hx178_0⟩ := Kd.at_int HR0.out x22_1 p178 q178
           cases e178
           replace hx178_0 := (HB.out.cell (World.block_lt_of_cell? w _ hx178_0)).trans hx178_0;replace p178 := eq_true p178;replace q178 := eq_true q178
           go_wp2_with (first | ((with_reducible refine gate_builtin (b := .append) (xs := #[.tmp 42, .tmp 45]) rfl ?_); at_builtin; refine Kd.R_append (Kd.int .u32) (w0 := w) w.heap.size rfl (.tmp 42) (.tmp 45) 131 115 (.int .u32 0) 4 rfl Tryz.underlying131 info115 rfl (by decide) (by omega) u5 x5_1 ((IntKind.u64.wrap (x6_1 + (IntKind.u64.wrap (rd l0 x22_1)))) % 4294967296) [.int .u32 ((IntKind.u64.wrap (x6_1 + (IntKind.u64.wrap (rd l0 x22_1)))) % 4294967296)] (fun _ => True) (fun _ => False) rfl rfl ?aP (fun _ hk => hk.elim) ?aF ?aO ?aB ?aS ?aL ?_; (case aP => exact rfl); (case aB => exact T1_); (case aF => exact (fun _ _ => trivial)); (case aO => exact (K1_ HO_5)); (case aS => exact (below_size T1_)); (case aL => have := LMc33.out; omega); intro v184 w34 ho hb hg hat; rw [← Ny183.out] at ho; have HO185 := A_ (ho); replace HB := A_ (hb); clear HO_5; clear ho hb hg hat))
           go_roundg k1
           case measure => have := HK1.out; omega
           case rel => exact ⟨(y183), ((IntKind.u64.wrap (x6_1 + (IntKind.u64.wrap (rd l0 x22_1)))) / 4294967296), (wrap64 (x22_1 + 1)), S1_, S1_, H', ⟨by have := HK1.out; omega⟩, ⟨by (with_reducible repeat (first | apply Kd.R_alloc | apply Kd.R_drewN | apply Kd.R_drew)); exact HO185.out⟩, ⟨T1_⟩⟩
          ·
           rw [if_neg c33] at H;exact absurd H (by simp)
        ·
         rw [if_neg c29] at H;exact absurd H (by simp)
       ·
        rw [if_neg c28] at H;exact absurd H (by simp)
      ·
       rw [if_neg c27] at H;have c27b0 := decide_eq_false c27;clear c27
       by_cases c35 : x5_1.length < 35184372088832
       ·
        rw [if_pos c35] at H;have LMc35 := A_ c35;clear c35;obtain ⟨y186, hy_⟩ : ∃ y_ : List Int, y_ = (x5_1 ++ [(x6_1) % 4294967296]) := ⟨_, rfl⟩
        replace H : ((nat_trim.f k1 y186).bind fun t189 => (some t189)) = some r := RH_
        have Ny186 := A_ hy_;clear hy_;replace H := BE_ H;obtain ⟨t189, A360, H⟩ := H;have A36 := A_ A360;clear A360;obtain rfl := Option.some.inj H
        go_wp2_with (first | ((with_reducible refine gate_builtin (b := .append) (xs := #[.tmp 50, .tmp 53]) rfl ?_); at_builtin; refine Kd.R_append (Kd.int .u32) (w0 := w) w.heap.size rfl (.tmp 50) (.tmp 53) 131 115 (.int .u32 0) 4 rfl Tryz.underlying131 info115 rfl (by decide) (by omega) u5 x5_1 ((x6_1) % 4294967296) [.int .u32 ((x6_1) % 4294967296)] (fun _ => True) (fun _ => False) rfl rfl ?aP (fun _ hk => hk.elim) ?aF ?aO ?aB ?aS ?aL ?_; (case aP => exact rfl); (case aB => exact T1_); (case aF => exact (fun _ _ => trivial)); (case aO => exact (K1_ HO_5)); (case aS => exact (below_size T1_)); (case aL => have := LMc35.out; omega); intro v187 w37 ho hb hg hat; rw [← Ny186.out] at ho; have HO188 := A_ (ho); replace HB := A_ (hb); clear HO_5; clear ho hb hg hat; obtain ⟨Ao38, co38, eo38⟩ := Kd.R_slice HO188.out; subst eo38) | (refine GL_ 135 55 Tryz.func135 #[.slice Ao38 y186.length co38] ?_; (with_reducible refine (nat_trim.calls k1 (fun k_ => some k_ = (.slice Ao38 y186.length co38 : Value).ownBlock) (.slice Ao38 y186.length co38) y186 t189 w _ ?side1 ?side2 A36.out).mono ?_); (case side1 => repeat (first | (with_reducible first | exact HB.out | apply below_alloc | apply pw_below_drewN | apply below_drew1) | exact HB.out)); (case side2 => exact Kd.R_tight rfl HO188.out); rintro e w39 ⟨v190, rfl, ho0, hb, hkp⟩; refine ⟨_, rfl, ?_⟩; have HO191 := A_ (Kd.R_mono (ok' := fun k_ => True) ho0 (fun k_ hk_ => trivial)); replace HB := A_ (hb); clear HO188; clear hb hkp ho0))
        go_ret
        exact ⟨_, by first | rfl | (simp [errW_none, errW_some] <;> rfl) | (simp only [← hji22]; first | rfl | (simp [errW_none, errW_some] <;> rfl)) | (simp [*, errW_none, errW_some] <;> rfl), by (with_reducible repeat (first | apply Kd.R_alloc | apply Kd.R_drewN | apply Kd.R_drew)); exact HO191.out, T1_⟩
       ·
        rw [if_neg c35] at H;exact absurd H (by simp)
   ·
    rw [if_neg c24] at H;exact absurd H (by simp)
  ·
   rw [if_neg c23] at H;exact absurd H (by simp)
/-! ### nat_Add: function 116 -/
def nat_Add.f (k : Nat) (a0 : ByteArray) (a1 : ByteArray) : Option (ByteArray × Int) := (nat_both.f k a0 a1).bind fun bt192 => (if bt192.2.2 = true then ((nat_add.f k bt192.1 bt192.2.1).bind fun t199 => ((nat_text.f k t199).bind fun t202 => (some (t202, 0)))) else (some ((⟨#[]⟩ : ByteArray), 2)))
theorem nat_Add.calls (k : Nat) (a0 : ByteArray) (a1 : ByteArray) (r1 : ByteArray) (r2 : Int) (w : World) (h : nat_Add.f k a0 a1 = some (r1, r2)) :
  Calls Tryz.prog 116 #[.string a0, .string a1] w fun e w' => e = .returned (.tuple #[.string r1, .int .i64 r2]) ∧ Below w.heap.size w w' := by
 have HB := A_ (Below.refl w.heap.size w);unfold nat_Add.f at h;have H := h;clear h;replace H := BE_ H;obtain ⟨⟨t192, t193, t194⟩, A30, H⟩ := H;have A3 := A_ A30;clear A30
 by_cases c4 : t194 = true
 ·
  subst c4;rw [if_pos rfl] at H;replace H := BE_ H;obtain ⟨t199, A50, H⟩ := H;have A5 := A_ A50;clear A50;replace H := BE_ H;obtain ⟨t202, A60, H⟩ := H;have A6 := A_ A60;clear A60;simp only [Option.some.injEq, Prod.mk.injEq] at H;obtain ⟨rfl, rfl⟩ := H;go_enter Tryz.func116, Tryz.ntmps116
  go_wp2_with (first | (refine GL_ 112 12 Tryz.func112 #[.string a0, .string a1] ?_; (with_reducible refine (nat_both.calls k a0 a1 t192 t193 true _ A3.out).mono ?_); rintro e w7 ⟨v195, v197, rfl, ho0, ho1, hb⟩; refine ⟨_, rfl, ?_⟩; have HO196 := A_ (Kd.R_lower ho0 (below_size T1_)); have HO198 := A_ (Kd.R_lower ho1 (below_size T1_)); replace HB := BS_ hb; clear hb ho0 ho1; obtain ⟨Ao8, co8, eo8⟩ := Kd.R_slice HO196.out; subst eo8; obtain ⟨Ao9, co9, eo9⟩ := Kd.R_slice HO198.out; subst eo9) | (refine GL_ 144 20 Tryz.func144 #[.slice Ao8 t192.length co8, .slice Ao9 t193.length co9] ?_; (with_reducible refine (nat_add.calls k _ _ t192 _ _ t193 t199 _ (C1_ (Kd.R_reads' HO196.out).2.2) ((Kd.R_reads' HO196.out).2.1) (C1_ (Kd.R_reads' HO198.out).2.2) ((Kd.R_reads' HO198.out).2.1) A5.out).mono ?_); rintro e w10 ⟨v200, rfl, ho0, hb⟩; refine ⟨_, rfl, ?_⟩; have HO201 := A_ (Kd.R_lower (Kd.R_new' (Kd.R_new' ho0 (Kd.R_lt (K1_ HO196))) (Kd.R_lt (K1_ HO198))) (below_size T1_)); replace HO196 := A_ (Kd.R_elder' (K1_ HO196) (Kd.R_base ho0) hb); replace HO198 := A_ (Kd.R_elder' (K1_ HO198) (Kd.R_base ho0) hb); replace HB := BS_ hb; clear hb ho0; obtain ⟨Ao11, co11, eo11⟩ := Kd.R_slice HO201.out; subst eo11) | (refine GL_ 114 21 Tryz.func114 #[.slice Ao11 t199.length co11] ?_; (with_reducible refine (nat_text.calls k (fun k_ => some k_ = (.slice Ao11 t199.length co11 : Value).ownBlock) _ _ t199 t202 _ (Kd.R_V (Kd.R_tight rfl (HO201.out))) A6.out).mono ?_); rintro e w12 ⟨rfl, hb⟩; refine ⟨_, rfl, ?_⟩; replace HO196 := RC_ HO196 hb; replace HO198 := RC_ HO198 hb; replace HO201 := RC_ HO201 hb; replace HB := BS_ hb; clear hb))
  go_ret2
  exact ⟨T4_, T1_⟩
 ·
  replace c4 := Bool.eq_false_iff.mpr c4;subst c4;rw [if_neg (show ¬ (false = true) by decide)] at H;simp only [Option.some.injEq, Prod.mk.injEq] at H;obtain ⟨rfl, rfl⟩ := H;go_enter Tryz.func116, Tryz.ntmps116
  go_wp2_with (first | (refine GL_ 112 12 Tryz.func112 #[.string a0, .string a1] ?_; (with_reducible refine (nat_both.calls k a0 a1 t192 t193 false _ A3.out).mono ?_); rintro e w13 ⟨v195, v197, rfl, ho0, ho1, hb⟩; refine ⟨_, rfl, ?_⟩; have HO196 := A_ (Kd.R_lower ho0 (below_size T1_)); have HO198 := A_ (Kd.R_lower ho1 (below_size T1_)); replace HB := BS_ hb; clear hb ho0 ho1))
  go_ret2
  exact ⟨T4_, T1_⟩
/-! ### nat_compare: function 137 -/
def nat_compare.l0 : Nat → List Int → List Int → Int → Option (Int)
 | 0, _, _, _ => none
 | k + 1, x0, x1, x5 => if x5 ≥ 0 then (if 0 ≤ x5 then (if x5 < (x0.length : Int) then (if x5 < (x1.length : Int) then (if (rd x0 x5) = (rd x1 x5) then (nat_compare.l0 k x0 x1 (wrap64 (x5 - 1))) else (if (rd x0 x5) < (rd x1 x5) then (some (-1)) else (some 1))) else (none)) else (none)) else (none)) else (some 0)
def nat_compare.f (k : Nat) (l0 : List Int) (l1 : List Int) : Option (Int) := if (l0.length : Int) = (l1.length : Int) then (nat_compare.l0 k l0 l1 (wrap64 ((l0.length : Int) - 1))) else (if (l0.length : Int) < (l1.length : Int) then (some (-1)) else (some 1))
theorem nat_compare.calls (k : Nat) (A0 : Option Addr) (c0 : Nat) (l0 : List Int) (A1 : Option Addr) (c1 : Nat) (l1 : List Int) (r : Int) (w : World) (hr0 : Kd.C (Kd.int .u32) w A0 l0.length l0) (hc0 : l0.length ≤ c0) (hr1 : Kd.C (Kd.int .u32) w A1 l1.length l1) (hc1 : l1.length ≤ c1) (h : nat_compare.f k l0 l1 = some r) :
  Calls Tryz.prog 137 #[.slice A0 l0.length c0, .slice A1 l1.length c1] w fun e w' => e = .returned (.int .i64 r) ∧ Drawn0 w w' := by
 have HR0 := A_ hr0;have HC0 := A_ hc0;clear hr0 hc0;have HR1 := A_ hr1;have HC1 := A_ hc1;clear hr1 hc1;unfold nat_compare.f at h;have H := h;clear h
 by_cases c3 : (l0.length : Int) = (l1.length : Int)
 ·
  rw [if_pos c3] at H;have c3b0 : ((l0.length : Int) == (l1.length : Int)) = true := beq_iff_eq.mpr c3;have c3b1 : ((l0.length : Int) != (l1.length : Int)) = false := bne_eq_false_iff_eq.mpr c3
  have c3b2 : (l0.length == l1.length) = true := by first | simpa using c3 | (simp at c3 ⊢; omega)
  clear c3;have H' := A_ H;clear H;go_enter Tryz.func137, Tryz.ntmps137
  go_wp2
  repeat (go_quiet (fail); try go_wp2)
  go_loopg [5] k (fun kq v5 w' => ∃ (x5_1 : Int), v5 = .int .i64 x5_1 ∧ Aside0 (nat_compare.l0 kq l0 l1 x5_1 = some r) ∧ Aside0 (kq ≤ k) ∧ Drawn0 w w')
  case atStart => exact ⟨(wrap64 ((l0.length : Int) - 1)), S1_, H', ⟨Nat.le_refl _⟩, by repeat (first | exact Drawn0.refl _ | apply Drawn0.step)⟩
  case round =>
   clear H'
   try clear c1
   try clear c3
   try clear c3b0
   try clear c3b1
   try clear c3b2
   obtain ⟨x5_1, rfl, HA, HK1, ⟨m1, rfl⟩⟩ := hrel
   cases gk with
   | zero => exact absurd HA.out (by simp [nat_compare.l0])
   | succ k1 =>
    have H := HA.out;clear HA;simp only [nat_compare.l0] at H
    by_cases c4 : x5_1 ≥ 0
    ·
     rw [if_pos c4] at H;have c4b0 : decide (0 ≤ x5_1) = true := decide_eq_true c4;clear c4
     by_cases c5 : 0 ≤ x5_1
     ·
      rw [if_pos c5] at H;have c5b0 := decide_eq_true c5;clear c5
      by_cases c6 : x5_1 < (l0.length : Int)
      ·
       rw [if_pos c6] at H;have c6b0 := decide_eq_true c6;clear c6
       by_cases c7 : x5_1 < (l1.length : Int)
       ·
        rw [if_pos c7] at H;have c7b0 := decide_eq_true c7;clear c7
        by_cases c8 : (rd l0 x5_1) = (rd l1 x5_1)
        ·
         rw [if_pos c8] at H;have c8b0 : ((rd l0 x5_1) == (rd l1 x5_1)) = true := beq_iff_eq.mpr c8;have c8b1 : ((rd l0 x5_1) != (rd l1 x5_1)) = false := bne_eq_false_iff_eq.mpr c8;clear c8;have H' := A_ H;clear H;have p203 : 0 ≤ (x5_1 : Int) := DA_;have q203 : x5_1 < (l0.length : Int) := DA_;obtain ⟨ad203, e203, hx203_0⟩ := Kd.at_int HR0.out x5_1 p203 q203
         cases e203
         replace p203 := eq_true p203;replace q203 := eq_true q203;have p204 : 0 ≤ (x5_1 : Int) := DA_;have q204 : x5_1 < (l1.length : Int) := DA_;obtain ⟨ad204, e204, hx204_0⟩ := Kd.at_int HR1.out x5_1 p204 q204
         cases e204
         replace p204 := eq_true p204;replace q204 := eq_true q204
         go_wp2
         repeat (go_quiet (fail); try go_wp2)
         go_roundg k1
         case measure => have := HK1.out; omega
         case rel => exact ⟨(wrap64 (x5_1 - 1)), S1_, H', ⟨by have := HK1.out; omega⟩, by repeat (first | exact Drawn0.refl _ | apply Drawn0.step)⟩
        ·
         rw [if_neg c8] at H;have c8b0 : ((rd l0 x5_1) == (rd l1 x5_1)) = false := beq_eq_false_iff_ne.mpr c8;have c8b1 : ((rd l0 x5_1) != (rd l1 x5_1)) = true := bne_iff_ne.mpr c8
         by_cases c9 : (rd l0 x5_1) < (rd l1 x5_1)
         ·
          rw [if_pos c9] at H;have c9b0 := decide_eq_true c9;clear c9;obtain rfl := Option.some.inj H;have p203 : 0 ≤ (x5_1 : Int) := DA_;have q203 : x5_1 < (l0.length : Int) := DA_;obtain ⟨ad203, e203, hx203_0⟩ := Kd.at_int HR0.out x5_1 p203 q203
          cases e203
          replace p203 := eq_true p203;replace q203 := eq_true q203;have p204 : 0 ≤ (x5_1 : Int) := DA_;have q204 : x5_1 < (l1.length : Int) := DA_;obtain ⟨ad204, e204, hx204_0⟩ := Kd.at_int HR1.out x5_1 p204 q204
          cases e204
          replace p204 := eq_true p204;replace q204 := eq_true q204;have p205 : 0 ≤ (x5_1 : Int) := DA_;have q205 : x5_1 < (l0.length : Int) := DA_;obtain ⟨ad205, e205, hx205_0⟩ := Kd.at_int HR0.out x5_1 p205 q205;obtain rfl : ad203 = ad205 := (by injection e205);replace p205 := eq_true p205;replace q205 := eq_true q205;have p206 : 0 ≤ (x5_1 : Int) := DA_;have q206 : x5_1 < (l1.length : Int) := DA_;obtain ⟨ad206, e206, hx206_0⟩ := Kd.at_int HR1.out x5_1 p206 q206;obtain rfl : ad204 = ad206 := (by injection e206);replace p206 := eq_true p206;replace q206 := eq_true q206
          go_wp2
          repeat (go_quiet (fail); try go_wp2)
          go_ret
          exact ⟨by first | rfl | (simp; done) | (simp [*]; done), by repeat (first | exact Drawn0.refl _ | apply Drawn0.step)⟩
         ·
          rw [if_neg c9] at H;have c9b0 := decide_eq_false c9;clear c9;obtain rfl := Option.some.inj H;have p203 : 0 ≤ (x5_1 : Int) := DA_;have q203 : x5_1 < (l0.length : Int) := DA_;obtain ⟨ad203, e203, hx203_0⟩ := Kd.at_int HR0.out x5_1 p203 q203
          cases e203
          replace p203 := eq_true p203;replace q203 := eq_true q203;have p204 : 0 ≤ (x5_1 : Int) := DA_;have q204 : x5_1 < (l1.length : Int) := DA_;obtain ⟨ad204, e204, hx204_0⟩ := Kd.at_int HR1.out x5_1 p204 q204
          cases e204
          replace p204 := eq_true p204;replace q204 := eq_true q204;have p205 : 0 ≤ (x5_1 : Int) := DA_;have q205 : x5_1 < (l0.length : Int) := DA_;obtain ⟨ad205, e205, hx205_0⟩ := Kd.at_int HR0.out x5_1 p205 q205;obtain rfl : ad203 = ad205 := (by injection e205);replace p205 := eq_true p205;replace q205 := eq_true q205;have p206 : 0 ≤ (x5_1 : Int) := DA_;have q206 : x5_1 < (l1.length : Int) := DA_;obtain ⟨ad206, e206, hx206_0⟩ := Kd.at_int HR1.out x5_1 p206 q206;obtain rfl : ad204 = ad206 := (by injection e206);replace p206 := eq_true p206;replace q206 := eq_true q206
          go_wp2
          repeat (go_quiet (fail); try go_wp2)
          go_ret
          exact ⟨by first | rfl | (simp; done) | (simp [*]; done), by repeat (first | exact Drawn0.refl _ | apply Drawn0.step)⟩
       ·
        rw [if_neg c7] at H;exact absurd H (by simp)
      ·
       rw [if_neg c6] at H;exact absurd H (by simp)
     ·
      rw [if_neg c5] at H;exact absurd H (by simp)
    ·
     rw [if_neg c4] at H;have c4b0 : decide (0 ≤ x5_1) = false := decide_eq_false c4;clear c4;obtain rfl := Option.some.inj H
     go_wp2
     repeat (go_quiet (fail); try go_wp2)
     go_ret
     exact ⟨by first | rfl | (simp; done) | (simp [*]; done), by repeat (first | exact Drawn0.refl _ | apply Drawn0.step)⟩
 ·
  rw [if_neg c3] at H;have c3b0 : ((l0.length : Int) == (l1.length : Int)) = false := beq_eq_false_iff_ne.mpr c3;have c3b1 : ((l0.length : Int) != (l1.length : Int)) = true := bne_iff_ne.mpr c3
  have c3b2 : (l0.length == l1.length) = false := by first | simpa using c3 | (simp at c3 ⊢; omega)
  by_cases c10 : (l0.length : Int) < (l1.length : Int)
  ·
   rw [if_pos c10] at H;have c10b0 := decide_eq_true c10;have c10b1 : decide (l0.length < l1.length) = true := decide_eq_true (Int.ofNat_lt.mp c10);clear c10;obtain rfl := Option.some.inj H;go_enter Tryz.func137, Tryz.ntmps137
   go_wp2
   repeat (go_quiet (fail); try go_wp2)
   go_ret
   exact ⟨by first | rfl | (simp; done) | (simp [*]; done), by repeat (first | exact Drawn0.refl _ | apply Drawn0.step)⟩
  ·
   rw [if_neg c10] at H;have c10b0 := decide_eq_false c10;have c10b1 : decide (l0.length < l1.length) = false := decide_eq_false (fun h => c10 (Int.ofNat_lt.mpr h));clear c10;obtain rfl := Option.some.inj H;go_enter Tryz.func137, Tryz.ntmps137
   go_wp2
   repeat (go_quiet (fail); try go_wp2)
   go_ret
   exact ⟨by first | rfl | (simp; done) | (simp [*]; done), by repeat (first | exact Drawn0.refl _ | apply Drawn0.step)⟩
/-! ### nat_sub: function 145 -/
def nat_sub.l0 : Nat → List Int → List Int → Int → Int → Int → Option (List Int)
 | 0, _, _, _, _, _ => none
 | k + 1, x1, x5, x6, x12, x13 => if x13 < x12 then (if x13 < (x1.length : Int) then (if 0 ≤ x13 then (if x13 < (x5.length : Int) then (if (IntKind.u64.wrap (rd x5 x13)) < (IntKind.u64.wrap (x6 + (IntKind.u64.wrap (rd x1 x13)))) then (nat_sub.l0 k x1 (x5.set (x13 : Int).toNat ((IntKind.u64.wrap ((IntKind.u64.wrap ((IntKind.u64.wrap (rd x5 x13)) + (1 * 4294967296))) - (IntKind.u64.wrap (x6 + (IntKind.u64.wrap (rd x1 x13)))))) % 4294967296)) 1 x12 (wrap64 (x13 + 1))) else (nat_sub.l0 k x1 (x5.set (x13 : Int).toNat ((IntKind.u64.wrap ((IntKind.u64.wrap ((IntKind.u64.wrap (rd x5 x13)) + (0 * 4294967296))) - (IntKind.u64.wrap (x6 + (IntKind.u64.wrap (rd x1 x13)))))) % 4294967296)) 0 x12 (wrap64 (x13 + 1)))) else (none)) else (none)) else (if 0 ≤ x13 then (if x13 < (x5.length : Int) then (if (IntKind.u64.wrap (rd x5 x13)) < x6 then (nat_sub.l0 k x1 (x5.set (x13 : Int).toNat ((IntKind.u64.wrap ((IntKind.u64.wrap ((IntKind.u64.wrap (rd x5 x13)) + (1 * 4294967296))) - x6)) % 4294967296)) 1 x12 (wrap64 (x13 + 1))) else (nat_sub.l0 k x1 (x5.set (x13 : Int).toNat ((IntKind.u64.wrap ((IntKind.u64.wrap ((IntKind.u64.wrap (rd x5 x13)) + (0 * 4294967296))) - x6)) % 4294967296)) 0 x12 (wrap64 (x13 + 1)))) else (none)) else (none))) else ((nat_trim.f k x5).bind fun t210 => (some t210))
def nat_sub.f (k : Nat) (l0 : List Int) (l1 : List Int) : Option (List Int) := (nat_limbs_uint32.f l0).bind fun t207 => (nat_sub.l0 k l1 t207 0 (t207.length : Int) 0)
theorem nat_sub.calls (k : Nat) (A0 : Option Addr) (c0 : Nat) (l0 : List Int) (A1 : Option Addr) (c1 : Nat) (l1 : List Int) (r : List Int) (w : World) (hr0 : Kd.C (Kd.int .u32) w A0 l0.length l0) (hc0 : l0.length ≤ c0) (hr1 : Kd.C (Kd.int .u32) w A1 l1.length l1) (hc1 : l1.length ≤ c1) (h : nat_sub.f k l0 l1 = some r) :
  Calls Tryz.prog 145 #[.slice A0 l0.length c0, .slice A1 l1.length c1] w fun e w' => ∃ v0_ : Value, e = .returned (v0_) ∧ Kd.R (Kd.int .u32) 115 w' w.heap.size (fun _ => True) v0_ r ∧ Below w.heap.size w w' := by
 have HR0 := A_ hr0;have HC0 := A_ hc0;clear hr0 hc0;have HR1 := A_ hr1;have HC1 := A_ hc1;clear hr1 hc1;have HB := A_ (Below.refl w.heap.size w);unfold nat_sub.f at h;have H := h;clear h;replace H := BE_ H;obtain ⟨t207, A30, H⟩ := H;have A3 := A_ A30;clear A30;have H' := A_ H;clear H;go_enter Tryz.func145, Tryz.ntmps145
 go_wp2_with (first | (refine GL_ 141 10 Tryz.func141 #[.slice A0 l0.length c0] ?_; (with_reducible refine (nat_limbs_uint32.calls _ _ l0 t207 _ (C1_ HR0.out) HC0.out A3.out).mono ?_); rintro e w4 ⟨v208, rfl, ho0, hb⟩; refine ⟨_, rfl, ?_⟩; have HO209 := A_ (Kd.R_lower ho0 (below_size T1_)); replace HB := BS_ hb; clear hb ho0; obtain ⟨Ao5, co5, eo5⟩ := Kd.R_slice HO209.out; subst eo5))
 go_loopg [6, 13] k (fun kq v6 v13 w' => ∃ (x5_1 : List Int) (x6_1 : Int) (x13_1 : Int), v6 = .int .u64 x6_1 ∧ v13 = .int .i64 x13_1 ∧ Aside0 (nat_sub.l0 kq l1 x5_1 x6_1 (t207.length : Int) x13_1 = some r) ∧ Aside0 (kq ≤ k) ∧ Aside0 (Kd.R (Kd.int .u32) 115 w' w.heap.size (fun _ => True) (.slice Ao5 t207.length co5) x5_1) ∧ Aside0 (Below w.heap.size w w'))
 case atStart => exact ⟨(t207), (0), (0), S1_, S1_, H', ⟨Nat.le_refl _⟩, ⟨by (with_reducible repeat (first | apply Kd.R_alloc | apply Kd.R_drewN | apply Kd.R_drew)); exact HO209.out⟩, ⟨T1_⟩⟩
 case round =>
  clear H'
  try clear c1
  obtain ⟨x5_1, x6_1, x13_1, rfl, rfl, HA, HK1, HO_5, HB⟩ := hrel;have hl5_1 := (Kd.R_reads' HO_5.out).1;rw [hl5_1] at HO_5
  (try simp only [hl5_1])
  cases gk with
  | zero => exact absurd HA.out (by simp [nat_sub.l0])
  | succ k1 =>
   have H := HA.out;clear HA;simp only [nat_sub.l0] at H
   by_cases c6 : x13_1 < (t207.length : Int)
   ·
    rw [if_pos c6] at H;have c6b0 := decide_eq_true c6
    (try (have c6b0h := c6b0; simp only [hl5_1] at c6b0h))
    clear c6
    by_cases c7 : x13_1 < (l1.length : Int)
    ·
     rw [if_pos c7] at H;have c7b0 := decide_eq_true c7
     (try (have c7b0h := c7b0; simp only [hl5_1] at c7b0h))
     clear c7
     by_cases c8 : 0 ≤ x13_1
     ·
      rw [if_pos c8] at H;have c8b0 := decide_eq_true c8;clear c8
      by_cases c9 : x13_1 < (x5_1.length : Int)
      ·
       rw [if_pos c9] at H;have c9b0 := decide_eq_true c9
       (try (have c9b0h := c9b0; simp only [hl5_1] at c9b0h))
       clear c9
       by_cases c10 : (IntKind.u64.wrap (rd x5_1 x13_1)) < (IntKind.u64.wrap (x6_1 + (IntKind.u64.wrap (rd l1 x13_1))))
       ·
        rw [if_pos c10] at H;have c10b0 : decide ((IntKind.u64.wrap (rd x5_1 x13_1)) < (IntKind.u64.wrap (x6_1 + (IntKind.u64.wrap (rd l1 x13_1))))) = true := decide_eq_true c10;clear c10;obtain ⟨y216, hy_⟩ : ∃ y_ : List Int, y_ = (x5_1.set (x13_1 : Int).toNat ((IntKind.u64.wrap ((IntKind.u64.wrap ((IntKind.u64.wrap (rd x5_1 x13_1)) + (1 * 4294967296))) - (IntKind.u64.wrap (x6_1 + (IntKind.u64.wrap (rd l1 x13_1)))))) % 4294967296)) := ⟨_, rfl⟩
        replace H : (nat_sub.l0 k1 l1 y216 1 (t207.length : Int) (wrap64 (x13_1 + 1))) = some r := RH_
        have Ny216 := A_ hy_;clear hy_;have H' := A_ H;clear H;have p213 : 0 ≤ (x13_1 : Int) := DA_;have q213 : x13_1 < (l1.length : Int) := DA_;obtain ⟨ad213, e213, hx213_0⟩ := Kd.at_int HR1.out x13_1 p213 q213
        cases e213
        replace hx213_0 := (HB.out.cell (World.block_lt_of_cell? w _ hx213_0)).trans hx213_0;replace p213 := eq_true p213;replace q213 := eq_true q213;have p214 : 0 ≤ (x13_1 : Int) := DA_;have q214 : x13_1 < (x5_1.length : Int) := DA_;obtain ⟨ad214, e214, hx214_0⟩ := Kd.at_int (Kd.R_reads' HO_5.out).2.2 x13_1 p214 q214
        cases e214
        replace p214 := eq_true p214;replace q214 := eq_true q214;have p215 : 0 ≤ (x13_1 : Int) := DA_;have q215 : x13_1 < (x5_1.length : Int) := DA_;obtain ⟨ad215, e215, hx215_0⟩ := Kd.at_int (Kd.R_reads' HO_5.out).2.2 x13_1 p215 q215;obtain rfl : ad214 = ad215 := (by injection e215);replace p215 := eq_true p215;replace q215 := eq_true q215;have p11 : 0 ≤ (x13_1 : Int) := DA_;have q11 : (x13_1 : Int) < ((x5_1.length : Int) : Int) := DA_;obtain ⟨go11, co11, eo11, gb11, gl11, cl11, HG11⟩ := Kd.R_form HO_5.out (by omega)
        (first | cases eo11 | (injection eo11 with ea_ en_ ec_; (first | subst ea_ | (injection ea_ with ea_; subst ea_)); subst ec_; clear en_))
        have GB11 := A_ gb11;have GG11 := A_ HG11;clear gb11 gl11 HG11
        (first | simp only [add_plain] at hx214_0 | skip)
        (first | simp only [add_plain] at hx215_0 | skip)
        obtain ⟨hx11_0, hf11_0⟩ := Kd.R_celln 0 HO_5.out (x13_1 : Int) p11 q11;replace p11 := eq_true p11;replace q11 := eq_true q11;have HP12 := Kd.R_putg HO_5.out (x13_1 : Int) ((IntKind.u64.wrap ((IntKind.u64.wrap ((IntKind.u64.wrap (rd x5_1 x13_1)) + (1 * 4294967296))) - (IntKind.u64.wrap (x6_1 + (IntKind.u64.wrap (rd l1 x13_1)))))) % 4294967296)
        go_wp2_with (first | ((with_reducible refine gate_store (t := 115) (p := 48) rfl ?_); refine store_event (t := 115) (p := 48) (v := ?vo_w13) (w1 := (wr.setCell ⟨go11, (x13_1 : Int).toNat, none⟩ (.int .u32 ((IntKind.u64.wrap ((IntKind.u64.wrap ((IntKind.u64.wrap (rd x5_1 x13_1)) + (1 * 4294967296))) - (IntKind.u64.wrap (x6_1 + (IntKind.u64.wrap (rd l1 x13_1)))))) % 4294967296)))) ?hg ?ho ?hn ?hr ?_; (case ho => rfl); (case hg => rfl); (case hn => rfl); (case hr => exact T3_); intro w13 hw; have hg : wr.grownBy w13 (some go11) := (by rw [hw]; exact HP12.2); have hp_ : Kd.R (Kd.int .u32) 115 w13 w.heap.size (fun _ => True) (.slice (some ⟨go11, 0, none⟩) x5_1.length co5) y216 := (by rw [hw, Ny216.out]; exact HP12.1); clear HP12; replace HO_5 := A_ (hp_); replace HB := A_ ((by rw [hw]; exact below_set (HB.out) GB11.out : Below w.heap.size w w13)); clear hg hw hp_))
        (try simp only [← hl5_1])
        go_roundg k1
        case measure => have := HK1.out; omega
        case rel => exact ⟨(y216), (1), (wrap64 (x13_1 + 1)), S1_, S1_, H', ⟨by have := HK1.out; omega⟩, ⟨by (try simp only [hl5_1]); (with_reducible repeat (first | apply Kd.R_alloc | apply Kd.R_drewN | apply Kd.R_drew)); exact HO_5.out⟩, ⟨T1_⟩⟩
       ·
        rw [if_neg c10] at H;have c10b0 : decide ((IntKind.u64.wrap (rd x5_1 x13_1)) < (IntKind.u64.wrap (x6_1 + (IntKind.u64.wrap (rd l1 x13_1))))) = false := decide_eq_false c10;clear c10;obtain ⟨y218, hy_⟩ : ∃ y_ : List Int, y_ = (x5_1.set (x13_1 : Int).toNat ((IntKind.u64.wrap ((IntKind.u64.wrap ((IntKind.u64.wrap (rd x5_1 x13_1)) + (0 * 4294967296))) - (IntKind.u64.wrap (x6_1 + (IntKind.u64.wrap (rd l1 x13_1)))))) % 4294967296)) := ⟨_, rfl⟩
        replace H : (nat_sub.l0 k1 l1 y218 0 (t207.length : Int) (wrap64 (x13_1 + 1))) = some r := RH_
        have Ny218 := A_ hy_;clear hy_;have H' := A_ H;clear H;have p213 : 0 ≤ (x13_1 : Int) := DA_;have q213 : x13_1 < (l1.length : Int) := DA_;obtain ⟨ad213, e213, hx213_0⟩ := Kd.at_int HR1.out x13_1 p213 q213
        cases e213
        replace hx213_0 := (HB.out.cell (World.block_lt_of_cell? w _ hx213_0)).trans hx213_0;replace p213 := eq_true p213;replace q213 := eq_true q213;have p214 : 0 ≤ (x13_1 : Int) := DA_;have q214 : x13_1 < (x5_1.length : Int) := DA_;obtain ⟨ad214, e214, hx214_0⟩ := Kd.at_int (Kd.R_reads' HO_5.out).2.2 x13_1 p214 q214
        cases e214
        replace p214 := eq_true p214;replace q214 := eq_true q214;have p217 : 0 ≤ (x13_1 : Int) := DA_;have q217 : x13_1 < (x5_1.length : Int) := DA_;obtain ⟨ad217, e217, hx217_0⟩ := Kd.at_int (Kd.R_reads' HO_5.out).2.2 x13_1 p217 q217;obtain rfl : ad214 = ad217 := (by injection e217);replace p217 := eq_true p217;replace q217 := eq_true q217;have p14 : 0 ≤ (x13_1 : Int) := DA_;have q14 : (x13_1 : Int) < ((x5_1.length : Int) : Int) := DA_;obtain ⟨go14, co14, eo14, gb14, gl14, cl14, HG14⟩ := Kd.R_form HO_5.out (by omega)
        (first | cases eo14 | (injection eo14 with ea_ en_ ec_; (first | subst ea_ | (injection ea_ with ea_; subst ea_)); subst ec_; clear en_))
        have GB14 := A_ gb14;have GG14 := A_ HG14;clear gb14 gl14 HG14
        (first | simp only [add_plain] at hx214_0 | skip)
        (first | simp only [add_plain] at hx217_0 | skip)
        obtain ⟨hx14_0, hf14_0⟩ := Kd.R_celln 0 HO_5.out (x13_1 : Int) p14 q14;replace p14 := eq_true p14;replace q14 := eq_true q14;have HP15 := Kd.R_putg HO_5.out (x13_1 : Int) ((IntKind.u64.wrap ((IntKind.u64.wrap ((IntKind.u64.wrap (rd x5_1 x13_1)) + (0 * 4294967296))) - (IntKind.u64.wrap (x6_1 + (IntKind.u64.wrap (rd l1 x13_1)))))) % 4294967296)
        go_wp2_with (first | ((with_reducible refine gate_store (t := 115) (p := 48) rfl ?_); refine store_event (t := 115) (p := 48) (v := ?vo_w16) (w1 := (wr.setCell ⟨go14, (x13_1 : Int).toNat, none⟩ (.int .u32 ((IntKind.u64.wrap ((IntKind.u64.wrap ((IntKind.u64.wrap (rd x5_1 x13_1)) + (0 * 4294967296))) - (IntKind.u64.wrap (x6_1 + (IntKind.u64.wrap (rd l1 x13_1)))))) % 4294967296)))) ?hg ?ho ?hn ?hr ?_; (case ho => rfl); (case hg => rfl); (case hn => rfl); (case hr => exact T3_); intro w16 hw; have hg : wr.grownBy w16 (some go14) := (by rw [hw]; exact HP15.2); have hp_ : Kd.R (Kd.int .u32) 115 w16 w.heap.size (fun _ => True) (.slice (some ⟨go14, 0, none⟩) x5_1.length co5) y218 := (by rw [hw, Ny218.out]; exact HP15.1); clear HP15; replace HO_5 := A_ (hp_); replace HB := A_ ((by rw [hw]; exact below_set (HB.out) GB14.out : Below w.heap.size w w16)); clear hg hw hp_))
        (try simp only [← hl5_1])
        go_roundg k1
        case measure => have := HK1.out; omega
        case rel => exact ⟨(y218), (0), (wrap64 (x13_1 + 1)), S1_, S1_, H', ⟨by have := HK1.out; omega⟩, ⟨by (try simp only [hl5_1]); (with_reducible repeat (first | apply Kd.R_alloc | apply Kd.R_drewN | apply Kd.R_drew)); exact HO_5.out⟩, ⟨T1_⟩⟩
      ·
       rw [if_neg c9] at H;exact absurd H (by simp)
     ·
      rw [if_neg c8] at H;exact absurd H (by simp)
    ·
     rw [if_neg c7] at H;have c7b0 := decide_eq_false c7
     (try (have c7b0h := c7b0; simp only [hl5_1] at c7b0h))
     clear c7
     by_cases c17 : 0 ≤ x13_1
     ·
      rw [if_pos c17] at H;have c17b0 := decide_eq_true c17;clear c17
      by_cases c18 : x13_1 < (x5_1.length : Int)
      ·
       rw [if_pos c18] at H;have c18b0 := decide_eq_true c18
       (try (have c18b0h := c18b0; simp only [hl5_1] at c18b0h))
       clear c18
       by_cases c19 : (IntKind.u64.wrap (rd x5_1 x13_1)) < x6_1
       ·
        rw [if_pos c19] at H;have c19b0 := decide_eq_true c19;clear c19;obtain ⟨y221, hy_⟩ : ∃ y_ : List Int, y_ = (x5_1.set (x13_1 : Int).toNat ((IntKind.u64.wrap ((IntKind.u64.wrap ((IntKind.u64.wrap (rd x5_1 x13_1)) + (1 * 4294967296))) - x6_1)) % 4294967296)) := ⟨_, rfl⟩
        replace H : (nat_sub.l0 k1 l1 y221 1 (t207.length : Int) (wrap64 (x13_1 + 1))) = some r := RH_
        have Ny221 := A_ hy_;clear hy_;have H' := A_ H;clear H;have p219 : 0 ≤ (x13_1 : Int) := DA_;have q219 : x13_1 < (x5_1.length : Int) := DA_;obtain ⟨ad219, e219, hx219_0⟩ := Kd.at_int (Kd.R_reads' HO_5.out).2.2 x13_1 p219 q219
        cases e219
        replace p219 := eq_true p219;replace q219 := eq_true q219;have p220 : 0 ≤ (x13_1 : Int) := DA_;have q220 : x13_1 < (x5_1.length : Int) := DA_;obtain ⟨ad220, e220, hx220_0⟩ := Kd.at_int (Kd.R_reads' HO_5.out).2.2 x13_1 p220 q220;obtain rfl : ad219 = ad220 := (by injection e220);replace p220 := eq_true p220;replace q220 := eq_true q220;have p20 : 0 ≤ (x13_1 : Int) := DA_;have q20 : (x13_1 : Int) < ((x5_1.length : Int) : Int) := DA_;obtain ⟨go20, co20, eo20, gb20, gl20, cl20, HG20⟩ := Kd.R_form HO_5.out (by omega)
        (first | cases eo20 | (injection eo20 with ea_ en_ ec_; (first | subst ea_ | (injection ea_ with ea_; subst ea_)); subst ec_; clear en_))
        have GB20 := A_ gb20;have GG20 := A_ HG20;clear gb20 gl20 HG20
        (first | simp only [add_plain] at hx219_0 | skip)
        (first | simp only [add_plain] at hx220_0 | skip)
        obtain ⟨hx20_0, hf20_0⟩ := Kd.R_celln 0 HO_5.out (x13_1 : Int) p20 q20;replace p20 := eq_true p20;replace q20 := eq_true q20;have HP21 := Kd.R_putg HO_5.out (x13_1 : Int) ((IntKind.u64.wrap ((IntKind.u64.wrap ((IntKind.u64.wrap (rd x5_1 x13_1)) + (1 * 4294967296))) - x6_1)) % 4294967296)
        go_wp2_with (first | ((with_reducible refine gate_store (t := 115) (p := 48) rfl ?_); refine store_event (t := 115) (p := 48) (v := ?vo_w22) (w1 := (wr.setCell ⟨go20, (x13_1 : Int).toNat, none⟩ (.int .u32 ((IntKind.u64.wrap ((IntKind.u64.wrap ((IntKind.u64.wrap (rd x5_1 x13_1)) + (1 * 4294967296))) - x6_1)) % 4294967296)))) ?hg ?ho ?hn ?hr ?_; (case ho => rfl); (case hg => rfl); (case hn => rfl); (case hr => exact T3_); intro w22 hw; have hg : wr.grownBy w22 (some go20) := (by rw [hw]; exact HP21.2); have hp_ : Kd.R (Kd.int .u32) 115 w22 w.heap.size (fun _ => True) (.slice (some ⟨go20, 0, none⟩) x5_1.length co5) y221 := (by rw [hw, Ny221.out]; exact HP21.1); clear HP21; replace HO_5 := A_ (hp_); replace HB := A_ ((by rw [hw]; exact below_set (HB.out) GB20.out : Below w.heap.size w w22)); clear hg hw hp_))
        (try simp only [← hl5_1])
        go_roundg k1
        case measure => have := HK1.out; omega
        case rel => exact ⟨(y221), (1), (wrap64 (x13_1 + 1)), S1_, S1_, H', ⟨by have := HK1.out; omega⟩, ⟨by (try simp only [hl5_1]); (with_reducible repeat (first | apply Kd.R_alloc | apply Kd.R_drewN | apply Kd.R_drew)); exact HO_5.out⟩, ⟨T1_⟩⟩
       ·
        rw [if_neg c19] at H;have c19b0 := decide_eq_false c19;clear c19;obtain ⟨y223, hy_⟩ : ∃ y_ : List Int, y_ = (x5_1.set (x13_1 : Int).toNat ((IntKind.u64.wrap ((IntKind.u64.wrap ((IntKind.u64.wrap (rd x5_1 x13_1)) + (0 * 4294967296))) - x6_1)) % 4294967296)) := ⟨_, rfl⟩
        replace H : (nat_sub.l0 k1 l1 y223 0 (t207.length : Int) (wrap64 (x13_1 + 1))) = some r := RH_
        have Ny223 := A_ hy_;clear hy_;have H' := A_ H;clear H;have p219 : 0 ≤ (x13_1 : Int) := DA_;have q219 : x13_1 < (x5_1.length : Int) := DA_;obtain ⟨ad219, e219, hx219_0⟩ := Kd.at_int (Kd.R_reads' HO_5.out).2.2 x13_1 p219 q219
        cases e219
        replace p219 := eq_true p219;replace q219 := eq_true q219;have p222 : 0 ≤ (x13_1 : Int) := DA_;have q222 : x13_1 < (x5_1.length : Int) := DA_;obtain ⟨ad222, e222, hx222_0⟩ := Kd.at_int (Kd.R_reads' HO_5.out).2.2 x13_1 p222 q222;obtain rfl : ad219 = ad222 := (by injection e222);replace p222 := eq_true p222;replace q222 := eq_true q222;have p23 : 0 ≤ (x13_1 : Int) := DA_;have q23 : (x13_1 : Int) < ((x5_1.length : Int) : Int) := DA_;obtain ⟨go23, co23, eo23, gb23, gl23, cl23, HG23⟩ := Kd.R_form HO_5.out (by omega)
        (first | cases eo23 | (injection eo23 with ea_ en_ ec_; (first | subst ea_ | (injection ea_ with ea_; subst ea_)); subst ec_; clear en_))
        have GB23 := A_ gb23;have GG23 := A_ HG23;clear gb23 gl23 HG23
        (first | simp only [add_plain] at hx219_0 | skip)
        (first | simp only [add_plain] at hx222_0 | skip)
        obtain ⟨hx23_0, hf23_0⟩ := Kd.R_celln 0 HO_5.out (x13_1 : Int) p23 q23;replace p23 := eq_true p23;replace q23 := eq_true q23;have HP24 := Kd.R_putg HO_5.out (x13_1 : Int) ((IntKind.u64.wrap ((IntKind.u64.wrap ((IntKind.u64.wrap (rd x5_1 x13_1)) + (0 * 4294967296))) - x6_1)) % 4294967296)
        go_wp2_with (first | ((with_reducible refine gate_store (t := 115) (p := 48) rfl ?_); refine store_event (t := 115) (p := 48) (v := ?vo_w25) (w1 := (wr.setCell ⟨go23, (x13_1 : Int).toNat, none⟩ (.int .u32 ((IntKind.u64.wrap ((IntKind.u64.wrap ((IntKind.u64.wrap (rd x5_1 x13_1)) + (0 * 4294967296))) - x6_1)) % 4294967296)))) ?hg ?ho ?hn ?hr ?_; (case ho => rfl); (case hg => rfl); (case hn => rfl); (case hr => exact T3_); intro w25 hw; have hg : wr.grownBy w25 (some go23) := (by rw [hw]; exact HP24.2); have hp_ : Kd.R (Kd.int .u32) 115 w25 w.heap.size (fun _ => True) (.slice (some ⟨go23, 0, none⟩) x5_1.length co5) y223 := (by rw [hw, Ny223.out]; exact HP24.1); clear HP24; replace HO_5 := A_ (hp_); replace HB := A_ ((by rw [hw]; exact below_set (HB.out) GB23.out : Below w.heap.size w w25)); clear hg hw hp_))
        (try simp only [← hl5_1])
        go_roundg k1
        case measure => have := HK1.out; omega
        case rel => exact ⟨(y223), (0), (wrap64 (x13_1 + 1)), S1_, S1_, H', ⟨by have := HK1.out; omega⟩, ⟨by (try simp only [hl5_1]); (with_reducible repeat (first | apply Kd.R_alloc | apply Kd.R_drewN | apply Kd.R_drew)); exact HO_5.out⟩, ⟨T1_⟩⟩
      ·
       rw [if_neg c18] at H;exact absurd H (by simp)
     ·
      rw [if_neg c17] at H;exact absurd H (by simp)
   ·
    rw [if_neg c6] at H;have c6b0 := decide_eq_false c6
    (try (have c6b0h := c6b0; simp only [hl5_1] at c6b0h))
    clear c6;replace H := BE_ H;obtain ⟨t210, A260, H⟩ := H;have A26 := A_ A260;clear A260;obtain rfl := Option.some.inj H
    go_wp2_with (first | (refine GL_ 135 51 Tryz.func135 #[.slice Ao5 x5_1.length co5] ?_; (with_reducible refine (nat_trim.calls k1 (fun k_ => some k_ = (.slice Ao5 x5_1.length co5 : Value).ownBlock) (.slice Ao5 x5_1.length co5) x5_1 t210 w _ ?side1 ?side2 A26.out).mono ?_); (case side1 => repeat (first | (with_reducible first | exact HB.out | apply below_alloc | apply pw_below_drewN | apply below_drew1) | exact HB.out)); (case side2 => exact Kd.R_tight rfl HO_5.out); rintro e w27 ⟨v211, rfl, ho0, hb, hkp⟩; refine ⟨_, rfl, ?_⟩; have HO212 := A_ (Kd.R_mono (ok' := fun k_ => True) ho0 (fun k_ hk_ => trivial)); replace HB := A_ (hb); clear HO_5; clear hb hkp ho0))
    go_ret
    exact ⟨_, by first | rfl | (simp [errW_none, errW_some] <;> rfl) | (simp [*, errW_none, errW_some] <;> rfl), by (with_reducible repeat (first | apply Kd.R_alloc | apply Kd.R_drewN | apply Kd.R_drew)); exact HO212.out, T1_⟩
/-! ### nat_Sub: function 118 -/
def nat_Sub.f (k : Nat) (a0 : ByteArray) (a1 : ByteArray) : Option (ByteArray × Int) := (nat_both.f k a0 a1).bind fun bt224 => (if bt224.2.2 = true then ((nat_compare.f k bt224.1 bt224.2.1).bind fun t231 => (if t231 < 0 then (some ((⟨#[]⟩ : ByteArray), 1)) else ((nat_sub.f k bt224.1 bt224.2.1).bind fun t232 => ((nat_text.f k t232).bind fun t235 => (some (t235, 0)))))) else (some ((⟨#[]⟩ : ByteArray), 2)))
theorem nat_Sub.calls (k : Nat) (a0 : ByteArray) (a1 : ByteArray) (r1 : ByteArray) (r2 : Int) (w : World) (h : nat_Sub.f k a0 a1 = some (r1, r2)) :
  Calls Tryz.prog 118 #[.string a0, .string a1] w fun e w' => e = .returned (.tuple #[.string r1, .int .i64 r2]) ∧ Below w.heap.size w w' := by
 have HB := A_ (Below.refl w.heap.size w);unfold nat_Sub.f at h;have H := h;clear h;replace H := BE_ H;obtain ⟨⟨t224, t225, t226⟩, A30, H⟩ := H;have A3 := A_ A30;clear A30
 by_cases c4 : t226 = true
 ·
  subst c4;rw [if_pos rfl] at H;replace H := BE_ H;obtain ⟨t231, A50, H⟩ := H;have A5 := A_ A50;clear A50
  by_cases c6 : t231 < 0
  ·
   rw [if_pos c6] at H;have c6b0 := decide_eq_true c6;clear c6;simp only [Option.some.injEq, Prod.mk.injEq] at H;obtain ⟨rfl, rfl⟩ := H;go_enter Tryz.func118, Tryz.ntmps118
   go_wp2_with (first | (refine GL_ 112 12 Tryz.func112 #[.string a0, .string a1] ?_; (with_reducible refine (nat_both.calls k a0 a1 t224 t225 true _ A3.out).mono ?_); rintro e w7 ⟨v227, v229, rfl, ho0, ho1, hb⟩; refine ⟨_, rfl, ?_⟩; have HO228 := A_ (Kd.R_lower ho0 (below_size T1_)); have HO230 := A_ (Kd.R_lower ho1 (below_size T1_)); replace HB := BS_ hb; clear hb ho0 ho1; obtain ⟨Ao8, co8, eo8⟩ := Kd.R_slice HO228.out; subst eo8; obtain ⟨Ao9, co9, eo9⟩ := Kd.R_slice HO230.out; subst eo9) | (refine GL_ 137 22 Tryz.func137 #[.slice Ao8 t224.length co8, .slice Ao9 t225.length co9] ?_; (with_reducible refine (nat_compare.calls k _ _ t224 _ _ t225 t231 _ (C1_ (Kd.R_reads' HO228.out).2.2) ((Kd.R_reads' HO228.out).2.1) (C1_ (Kd.R_reads' HO230.out).2.2) ((Kd.R_reads' HO230.out).2.1) A5.out).mono ?_); rintro e w' ⟨rfl, ⟨nd, rfl⟩⟩; refine ⟨_, rfl, ?_⟩))
   go_ret2
   exact ⟨T4_, T1_⟩
  ·
   rw [if_neg c6] at H;have c6b0 := decide_eq_false c6;clear c6;replace H := BE_ H;obtain ⟨t232, A100, H⟩ := H;have A10 := A_ A100;clear A100;replace H := BE_ H;obtain ⟨t235, A110, H⟩ := H;have A11 := A_ A110;clear A110;simp only [Option.some.injEq, Prod.mk.injEq] at H;obtain ⟨rfl, rfl⟩ := H;go_enter Tryz.func118, Tryz.ntmps118
   go_wp2_with (first | (refine GL_ 112 12 Tryz.func112 #[.string a0, .string a1] ?_; (with_reducible refine (nat_both.calls k a0 a1 t224 t225 true _ A3.out).mono ?_); rintro e w12 ⟨v227, v229, rfl, ho0, ho1, hb⟩; refine ⟨_, rfl, ?_⟩; have HO228 := A_ (Kd.R_lower ho0 (below_size T1_)); have HO230 := A_ (Kd.R_lower ho1 (below_size T1_)); replace HB := BS_ hb; clear hb ho0 ho1; obtain ⟨Ao13, co13, eo13⟩ := Kd.R_slice HO228.out; subst eo13; obtain ⟨Ao14, co14, eo14⟩ := Kd.R_slice HO230.out; subst eo14) | (refine GL_ 137 22 Tryz.func137 #[.slice Ao13 t224.length co13, .slice Ao14 t225.length co14] ?_; (with_reducible refine (nat_compare.calls k _ _ t224 _ _ t225 t231 _ (C1_ (Kd.R_reads' HO228.out).2.2) ((Kd.R_reads' HO228.out).2.1) (C1_ (Kd.R_reads' HO230.out).2.2) ((Kd.R_reads' HO230.out).2.1) A5.out).mono ?_); rintro e w' ⟨rfl, ⟨nd, rfl⟩⟩; refine ⟨_, rfl, ?_⟩) | (refine GL_ 145 26 Tryz.func145 #[.slice Ao13 t224.length co13, .slice Ao14 t225.length co14] ?_; (with_reducible refine (nat_sub.calls k _ _ t224 _ _ t225 t232 _ (C1_ (Kd.R_reads' HO228.out).2.2) ((Kd.R_reads' HO228.out).2.1) (C1_ (Kd.R_reads' HO230.out).2.2) ((Kd.R_reads' HO230.out).2.1) A10.out).mono ?_); rintro e w15 ⟨v233, rfl, ho0, hb⟩; refine ⟨_, rfl, ?_⟩; have HO234 := A_ (Kd.R_lower (Kd.R_new' (Kd.R_new' ho0 (Kd.R_lt (K1_ HO228))) (Kd.R_lt (K1_ HO230))) (below_size T1_)); replace HO228 := A_ (Kd.R_elder' (K1_ HO228) (Kd.R_base ho0) hb); replace HO230 := A_ (Kd.R_elder' (K1_ HO230) (Kd.R_base ho0) hb); replace HB := BS_ hb; clear hb ho0; obtain ⟨Ao16, co16, eo16⟩ := Kd.R_slice HO234.out; subst eo16) | (refine GL_ 114 27 Tryz.func114 #[.slice Ao16 t232.length co16] ?_; (with_reducible refine (nat_text.calls k (fun k_ => some k_ = (.slice Ao16 t232.length co16 : Value).ownBlock) _ _ t232 t235 _ (Kd.R_V (Kd.R_tight rfl (HO234.out))) A11.out).mono ?_); rintro e w17 ⟨rfl, hb⟩; refine ⟨_, rfl, ?_⟩; replace HO228 := RC_ HO228 hb; replace HO230 := RC_ HO230 hb; replace HO234 := RC_ HO234 hb; replace HB := BS_ hb; clear hb))
   go_ret2
   exact ⟨T4_, T1_⟩
 ·
  replace c4 := Bool.eq_false_iff.mpr c4;subst c4;rw [if_neg (show ¬ (false = true) by decide)] at H;simp only [Option.some.injEq, Prod.mk.injEq] at H;obtain ⟨rfl, rfl⟩ := H;go_enter Tryz.func118, Tryz.ntmps118
  go_wp2_with (first | (refine GL_ 112 12 Tryz.func112 #[.string a0, .string a1] ?_; (with_reducible refine (nat_both.calls k a0 a1 t224 t225 false _ A3.out).mono ?_); rintro e w18 ⟨v227, v229, rfl, ho0, ho1, hb⟩; refine ⟨_, rfl, ?_⟩; have HO228 := A_ (Kd.R_lower ho0 (below_size T1_)); have HO230 := A_ (Kd.R_lower ho1 (below_size T1_)); replace HB := BS_ hb; clear hb ho0 ho1))
  go_ret2
  exact ⟨T4_, T1_⟩
/-! ### nat_mul: function 143 -/
mutual
def nat_mul.l0 : Nat → List Int → List Int → List Int → Int → Int → Option (List Int)
 | 0, _, _, _, _, _ => none
 | k + 1, x1, x5, x17, x18, x19 => if x19 < x18 then (if 0 ≤ x19 then (if x19 < (x17.length : Int) then (nat_mul.l1 k x1 x5 x19 (rd x17 x19) 0 x17 x18 x19 x1 (x1.length : Int) 0) else (none)) else (none)) else ((nat_trim.f k x5).bind fun t239 => (some t239))
def nat_mul.l1 : Nat → List Int → List Int → Int → Int → Int → List Int → Int → Int → List Int → Int → Int → Option (List Int)
 | 0, _, _, _, _, _, _, _, _, _, _, _ => none
 | k + 1, x1, x5, x6, x7, x8, x17, x18, x19, x24, x25, x26 => if x26 < x25 then (if 0 ≤ x26 then (if x26 < (x24.length : Int) then (if 0 ≤ (wrap64 (x6 + x26)) then (if (wrap64 (x6 + x26)) < (x5.length : Int) then (nat_mul.l1 k x1 (x5.set ((wrap64 (x6 + x26)) : Int).toNat ((IntKind.u64.wrap (x8 + (IntKind.u64.wrap ((IntKind.u64.wrap (rd x5 (wrap64 (x6 + x26)))) + (IntKind.u64.wrap ((IntKind.u64.wrap (x7)) * (IntKind.u64.wrap (rd x24 x26)))))))) % 4294967296)) x6 x7 ((IntKind.u64.wrap (x8 + (IntKind.u64.wrap ((IntKind.u64.wrap (rd x5 (wrap64 (x6 + x26)))) + (IntKind.u64.wrap ((IntKind.u64.wrap (x7)) * (IntKind.u64.wrap (rd x24 x26)))))))) / 4294967296) x17 x18 x19 x24 x25 (wrap64 (x26 + 1))) else (none)) else (none)) else (none)) else (none)) else (if 0 ≤ (wrap64 (x6 + (x1.length : Int))) then (if (wrap64 (x6 + (x1.length : Int))) < (x5.length : Int) then (nat_mul.l0 k x1 (x5.set ((wrap64 (x6 + (x1.length : Int))) : Int).toNat ((x8) % 4294967296)) x17 x18 (wrap64 (x19 + 1))) else (none)) else (none))
end
def nat_mul.f (k : Nat) (l0 : List Int) (l1 : List Int) : Option (List Int) := if 0 ≤ (wrap64 ((l0.length : Int) + (l1.length : Int))) then (if (wrap64 ((l0.length : Int) + (l1.length : Int)) : Int).toNat ≤ 70368744177664 then (nat_mul.l0 k l1 (List.replicate (wrap64 ((l0.length : Int) + (l1.length : Int)) : Int).toNat 0) l0 (l0.length : Int) 0) else (none)) else (none)
theorem nat_mul.calls (k : Nat) (A0 : Option Addr) (c0 : Nat) (l0 : List Int) (A1 : Option Addr) (c1 : Nat) (l1 : List Int) (r : List Int) (w : World) (hr0 : Kd.C (Kd.int .u32) w A0 l0.length l0) (hc0 : l0.length ≤ c0) (hr1 : Kd.C (Kd.int .u32) w A1 l1.length l1) (hc1 : l1.length ≤ c1) (h : nat_mul.f k l0 l1 = some r) :
  Calls Tryz.prog 143 #[.slice A0 l0.length c0, .slice A1 l1.length c1] w fun e w' => ∃ v0_ : Value, e = .returned (v0_) ∧ Kd.R (Kd.int .u32) 115 w' w.heap.size (fun _ => True) v0_ r ∧ Below w.heap.size w w' := by
 have HR0 := A_ hr0;have HC0 := A_ hc0;clear hr0 hc0;have HR1 := A_ hr1;have HC1 := A_ hc1;clear hr1 hc1;have HB := A_ (Below.refl w.heap.size w);unfold nat_mul.f at h;have H := h;clear h;obtain ⟨ji3, hji3⟩ : ∃ j_ : Int, (wrap64 ((l0.length : Int) + (l1.length : Int))) = j_ := ⟨_, rfl⟩
 first | rw [hji3] at H | simp only [hji3] at H
 have hji3w : (IntKind.i64.wrap ((l0.length : Int) + (l1.length : Int))) = ji3 := (i64_w _).trans hji3
 by_cases c4 : 0 ≤ (ji3)
 ·
  rw [if_pos c4] at H;have c4b0 := eq_true c4;have c4b1 := decide_eq_true c4;clear c4
  by_cases c5 : (ji3 : Int).toNat ≤ 70368744177664
  ·
   rw [if_pos c5] at H;have c5b0 := eq_true c5;have c5b1 := decide_eq_true c5;clear c5;obtain ⟨y236, hy_⟩ : ∃ y_ : List Int, y_ = (List.replicate (ji3 : Int).toNat 0) := ⟨_, rfl⟩
   replace H : (nat_mul.l0 k l1 y236 l0 (l0.length : Int) 0) = some r := RH_
   have Ny236 := A_ hy_;clear hy_;have H' := A_ H;clear H;go_enter Tryz.func143, Tryz.ntmps143
   go_wp2_with (first | ((with_reducible refine gate_dst (N := 16) rfl ?_); refine Kd.R_make (Kd.int .u32) _ 115 rfl (N := 16) rfl 131 _ _ rfl ji3 rfl rfl Tryz.underlying131 (.int .u32 0) 4 info115 rfl (by decide) (by omega) 0 (ok := fun _ => True) (okp := fun _ => True) rfl (fun _ hk => hk) trivial (DA_) (Nat.le_trans (Nat.mul_le_mul_right _ (DA_ : ji3.toNat ≤ 70368744177664)) (by omega)) (Below.refl _ _) (Nat.le_refl _) ?_; intro v237 w6 ho7 hb hg_ hnew_; clear hg_ hnew_; (first | rw [← Ny236.out] at ho7 | (simp only [Int.reduceToNat] at ho7; rw [← Ny236.out] at ho7)); have HO238 := A_ (Kd.R_lower ho7 (below_size T1_)); replace HB := BS_ hb; clear hb ho7))
   go_loopg [19] k (fun kq v19 w' => ∃ (x5_1 : List Int) (x19_1 : Int), v19 = .int .i64 x19_1 ∧ Aside0 (nat_mul.l0 kq l1 x5_1 l0 (l0.length : Int) x19_1 = some r) ∧ Aside0 (kq ≤ k) ∧ Aside0 (Kd.R (Kd.int .u32) 115 w' w.heap.size (fun _ => True) v237 x5_1) ∧ Aside0 (Below w.heap.size w w'))
   case atStart => exact ⟨(y236), (0), S1_, H', ⟨Nat.le_refl _⟩, ⟨by (with_reducible repeat (first | apply Kd.R_alloc | apply Kd.R_drewN | apply Kd.R_drew)); exact HO238.out⟩, ⟨T1_⟩⟩
   case round =>
    clear H'
    try clear c1
    try clear c4
    try clear c4b0
    try clear c4b1
    try clear c5
    try clear c5b0
    try clear c5b1
    obtain ⟨x5_1, x19_1, rfl, HA, HK1, HO_5, HB⟩ := hrel
    cases gk with
    | zero => exact absurd HA.out (by simp [nat_mul.l0])
    | succ k1 =>
     have H := HA.out;clear HA;simp only [nat_mul.l0] at H
     by_cases c8 : x19_1 < (l0.length : Int)
     ·
      rw [if_pos c8] at H;have c8b0 := decide_eq_true c8;clear c8
      by_cases c9 : 0 ≤ x19_1
      ·
       rw [if_pos c9] at H;have c9b0 := decide_eq_true c9;clear c9
       by_cases c10 : x19_1 < (l0.length : Int)
       ·
        rw [if_pos c10] at H;have c10b0 := decide_eq_true c10;clear c10;have H' := A_ H;clear H;have p242 : 0 ≤ (x19_1 : Int) := DA_;have q242 : x19_1 < (l0.length : Int) := DA_;obtain ⟨ad242, e242, hx242_0⟩ := Kd.at_int HR0.out x19_1 p242 q242
        cases e242
        replace hx242_0 := (HB.out.cell (World.block_lt_of_cell? w _ hx242_0)).trans hx242_0;replace p242 := eq_true p242;replace q242 := eq_true q242
        go_wp2
        go_loopg [8, 26] k1 (fun kq v8 v26 w' => ∃ (x5_2 : List Int) (x8_2 : Int) (x26_2 : Int), v8 = .int .u64 x8_2 ∧ v26 = .int .i64 x26_2 ∧ Aside0 (nat_mul.l1 kq l1 x5_2 x19_1 (rd l0 x19_1) x8_2 l0 (l0.length : Int) x19_1 l1 (l1.length : Int) x26_2 = some r) ∧ Aside0 (kq ≤ k1) ∧ Aside0 (Kd.R (Kd.int .u32) 115 w' w.heap.size (fun _ => True) v237 x5_2) ∧ Aside0 (Below w.heap.size w w'))
        case atStart => exact ⟨(x5_1), (0), (0), S1_, S1_, H', ⟨Nat.le_refl _⟩, ⟨by (with_reducible repeat (first | apply Kd.R_alloc | apply Kd.R_drewN | apply Kd.R_drew)); exact HO_5.out⟩, ⟨T1_⟩⟩
        case round =>
         clear H'
         try clear c1
         try clear c4
         try clear c4b0
         try clear c4b1
         try clear c5
         try clear c5b0
         try clear c5b1
         try clear c8
         try clear c8b0
         try clear c9
         try clear c9b0
         try clear c10
         try clear c10b0
         try clear hx242_0
         try clear p242
         try clear q242
         obtain ⟨x5_2, x8_2, x26_2, rfl, rfl, HA, HK2, HO_5, HB⟩ := hrel
         cases gk with
         | zero => exact absurd HA.out (by simp [nat_mul.l1])
         | succ k2 =>
          have H := HA.out;clear HA;simp only [nat_mul.l1] at H
          by_cases c11 : x26_2 < (l1.length : Int)
          ·
           rw [if_pos c11] at H;have c11b0 := decide_eq_true c11;clear c11
           by_cases c12 : 0 ≤ x26_2
           ·
            rw [if_pos c12] at H;have c12b0 := decide_eq_true c12;clear c12
            by_cases c13 : x26_2 < (l1.length : Int)
            ·
             rw [if_pos c13] at H;have c13b0 := decide_eq_true c13;clear c13;obtain ⟨ji14, hji14⟩ : ∃ j_ : Int, (wrap64 (x19_1 + x26_2)) = j_ := ⟨_, rfl⟩
             first | rw [hji14] at H | simp only [hji14] at H
             have hji14w : (IntKind.i64.wrap (x19_1 + x26_2)) = ji14 := (i64_w _).trans hji14
             by_cases c15 : 0 ≤ (ji14)
             ·
              rw [if_pos c15] at H;have c15b0 := decide_eq_true c15;clear c15
              by_cases c16 : (ji14) < (x5_2.length : Int)
              ·
               rw [if_pos c16] at H;have c16b0 := decide_eq_true c16;clear c16;obtain ⟨y245, hy_⟩ : ∃ y_ : List Int, y_ = (x5_2.set ((ji14) : Int).toNat ((IntKind.u64.wrap (x8_2 + (IntKind.u64.wrap ((IntKind.u64.wrap (rd x5_2 (ji14))) + (IntKind.u64.wrap ((IntKind.u64.wrap ((rd l0 x19_1))) * (IntKind.u64.wrap (rd l1 x26_2)))))))) % 4294967296)) := ⟨_, rfl⟩
               replace H : (nat_mul.l1 k2 l1 y245 x19_1 (rd l0 x19_1) ((IntKind.u64.wrap (x8_2 + (IntKind.u64.wrap ((IntKind.u64.wrap (rd x5_2 (ji14))) + (IntKind.u64.wrap ((IntKind.u64.wrap ((rd l0 x19_1))) * (IntKind.u64.wrap (rd l1 x26_2)))))))) / 4294967296) l0 (l0.length : Int) x19_1 l1 (l1.length : Int) (wrap64 (x26_2 + 1))) = some r := RH_
               have Ny245 := A_ hy_;clear hy_;have H' := A_ H;clear H;have p243 : 0 ≤ (x26_2 : Int) := DA_;have q243 : x26_2 < (l1.length : Int) := DA_;obtain ⟨ad243, e243, hx243_0⟩ := Kd.at_int HR1.out x26_2 p243 q243
               cases e243
               replace hx243_0 := (HB.out.cell (World.block_lt_of_cell? w _ hx243_0)).trans hx243_0;replace p243 := eq_true p243;replace q243 := eq_true q243;obtain ⟨Ao18, co18, eo18⟩ := Kd.R_slice HO_5.out;subst eo18;have p244 : 0 ≤ ((ji14) : Int) := DA_;have q244 : (ji14) < (x5_2.length : Int) := DA_;obtain ⟨ad244, e244, hx244_0⟩ := Kd.at_int (Kd.R_reads' HO_5.out).2.2 (ji14) p244 q244
               cases e244
               replace p244 := eq_true p244;replace q244 := eq_true q244;have p17 : 0 ≤ ((ji14) : Int) := DA_;have q17 : ((ji14) : Int) < ((x5_2.length : Int) : Int) := DA_;obtain ⟨go17, co17, eo17, gb17, gl17, cl17, HG17⟩ := Kd.R_form HO_5.out (by omega)
               (first | cases eo17 | (injection eo17 with ea_ en_ ec_; (first | subst ea_ | (injection ea_ with ea_; subst ea_)); subst ec_; clear en_))
               have GB17 := A_ gb17;have GG17 := A_ HG17;clear gb17 gl17 HG17
               (first | simp only [add_plain] at hx244_0 | skip)
               obtain ⟨hx17_0, hf17_0⟩ := Kd.R_celln 0 HO_5.out ((ji14) : Int) p17 q17;replace p17 := eq_true p17;replace q17 := eq_true q17;have HP19 := Kd.R_putg HO_5.out ((ji14) : Int) ((IntKind.u64.wrap (x8_2 + (IntKind.u64.wrap ((IntKind.u64.wrap (rd x5_2 (ji14))) + (IntKind.u64.wrap ((IntKind.u64.wrap ((rd l0 x19_1))) * (IntKind.u64.wrap (rd l1 x26_2)))))))) % 4294967296)
               go_wp2_with (first | ((with_reducible refine gate_store (t := 115) (p := 52) rfl ?_); refine store_event (t := 115) (p := 52) (v := ?vo_w20) (w1 := (wr.setCell ⟨go17, ((ji14) : Int).toNat, none⟩ (.int .u32 ((IntKind.u64.wrap (x8_2 + (IntKind.u64.wrap ((IntKind.u64.wrap (rd x5_2 (ji14))) + (IntKind.u64.wrap ((IntKind.u64.wrap ((rd l0 x19_1))) * (IntKind.u64.wrap (rd l1 x26_2)))))))) % 4294967296)))) ?hg ?ho ?hn ?hr ?_; (case ho => rfl); (case hg => rfl); (case hn => rfl); (case hr => exact T3_); intro w20 hw; have hg : wr.grownBy w20 (some go17) := (by rw [hw]; exact HP19.2); have hp_ : Kd.R (Kd.int .u32) 115 w20 w.heap.size (fun _ => True) (.slice (some ⟨go17, 0, none⟩) x5_2.length co18) y245 := (by rw [hw, Ny245.out]; exact HP19.1); clear HP19; replace HO_5 := A_ (hp_); replace HB := A_ ((by rw [hw]; exact below_set (HB.out) GB17.out : Below w.heap.size w w20)); clear hg hw hp_))
               go_roundg k2
               case measure => have := HK1.out; have := HK2.out; omega
               case rel => exact ⟨(y245), ((IntKind.u64.wrap (x8_2 + (IntKind.u64.wrap ((IntKind.u64.wrap (rd x5_2 (ji14))) + (IntKind.u64.wrap ((IntKind.u64.wrap ((rd l0 x19_1))) * (IntKind.u64.wrap (rd l1 x26_2)))))))) / 4294967296), (wrap64 (x26_2 + 1)), (by first | rfl | (simp; done) | (simp only [← hji14] <;> (first | rfl | simp)) | (simp [*]; done)), S1_, H', ⟨by have := HK1.out; have := HK2.out; omega⟩, ⟨by (with_reducible repeat (first | apply Kd.R_alloc | apply Kd.R_drewN | apply Kd.R_drew)); exact HO_5.out⟩, ⟨T1_⟩⟩
              ·
               rw [if_neg c16] at H;exact absurd H (by simp)
             ·
              rw [if_neg c15] at H;exact absurd H (by simp)
            ·
             rw [if_neg c13] at H;exact absurd H (by simp)
           ·
            rw [if_neg c12] at H;exact absurd H (by simp)
          ·
           rw [if_neg c11] at H;have c11b0 := decide_eq_false c11;clear c11;obtain ⟨ji21, hji21⟩ : ∃ j_ : Int, (wrap64 (x19_1 + (l1.length : Int))) = j_ := ⟨_, rfl⟩
           first | rw [hji21] at H | simp only [hji21] at H
           have hji21w : (IntKind.i64.wrap (x19_1 + (l1.length : Int))) = ji21 := (i64_w _).trans hji21
           by_cases c22 : 0 ≤ (ji21)
           ·
            rw [if_pos c22] at H;have c22b0 := decide_eq_true c22;clear c22
            by_cases c23 : (ji21) < (x5_2.length : Int)
            ·
             rw [if_pos c23] at H;have c23b0 := decide_eq_true c23;clear c23;obtain ⟨y246, hy_⟩ : ∃ y_ : List Int, y_ = (x5_2.set ((ji21) : Int).toNat ((x8_2) % 4294967296)) := ⟨_, rfl⟩
             replace H : (nat_mul.l0 k2 l1 y246 l0 (l0.length : Int) (wrap64 (x19_1 + 1))) = some r := RH_
             have Ny246 := A_ hy_;clear hy_;have H' := A_ H;clear H;have p24 : 0 ≤ ((ji21) : Int) := DA_;have q24 : ((ji21) : Int) < ((x5_2.length : Int) : Int) := DA_;obtain ⟨go24, co24, eo24, gb24, gl24, cl24, HG24⟩ := Kd.R_form HO_5.out (by omega)
             (first | cases eo24 | (injection eo24 with ea_ en_ ec_; (first | subst ea_ | (injection ea_ with ea_; subst ea_)); subst ec_; clear en_))
             have GB24 := A_ gb24;have GG24 := A_ HG24;clear gb24 gl24 HG24;obtain ⟨hx24_0, hf24_0⟩ := Kd.R_celln 0 HO_5.out ((ji21) : Int) p24 q24;replace p24 := eq_true p24;replace q24 := eq_true q24;have HP25 := Kd.R_putg HO_5.out ((ji21) : Int) ((x8_2) % 4294967296)
             go_wp2_with (first | ((with_reducible refine gate_store (t := 115) (p := 63) rfl ?_); refine store_event (t := 115) (p := 63) (v := ?vo_w26) (w1 := (wr.setCell ⟨go24, ((ji21) : Int).toNat, none⟩ (.int .u32 ((x8_2) % 4294967296)))) ?hg ?ho ?hn ?hr ?_; (case ho => rfl); (case hg => rfl); (case hn => rfl); (case hr => exact T3_); intro w26 hw; have hg : wr.grownBy w26 (some go24) := (by rw [hw]; exact HP25.2); have hp_ : Kd.R (Kd.int .u32) 115 w26 w.heap.size (fun _ => True) (.slice (some ⟨go24, 0, none⟩) x5_2.length co24) y246 := (by rw [hw, Ny246.out]; exact HP25.1); clear HP25; replace HO_5 := A_ (hp_); replace HB := A_ ((by rw [hw]; exact below_set (HB.out) GB24.out : Below w.heap.size w w26)); clear hg hw hp_))
             go_roundg k2
             case measure => have := HK1.out; have := HK2.out; omega
             case rel => exact ⟨(y246), (wrap64 (x19_1 + 1)), S1_, H', ⟨by have := HK1.out; have := HK2.out; omega⟩, ⟨by (with_reducible repeat (first | apply Kd.R_alloc | apply Kd.R_drewN | apply Kd.R_drew)); exact HO_5.out⟩, ⟨T1_⟩⟩
            ·
             rw [if_neg c23] at H;exact absurd H (by simp)
           ·
            rw [if_neg c22] at H;exact absurd H (by simp)
       ·
        rw [if_neg c10] at H;exact absurd H (by simp)
      ·
       rw [if_neg c9] at H;exact absurd H (by simp)
     ·
      rw [if_neg c8] at H;have c8b0 := decide_eq_false c8;clear c8;replace H := BE_ H;obtain ⟨t239, A270, H⟩ := H;have A27 := A_ A270;clear A270;obtain rfl := Option.some.inj H;obtain ⟨Ao28, co28, eo28⟩ := Kd.R_slice HO_5.out;subst eo28
      go_wp2_with (first | (refine GL_ 135 66 Tryz.func135 #[.slice Ao28 x5_1.length co28] ?_; (with_reducible refine (nat_trim.calls k1 (fun k_ => some k_ = (.slice Ao28 x5_1.length co28 : Value).ownBlock) (.slice Ao28 x5_1.length co28) x5_1 t239 w _ ?side1 ?side2 A27.out).mono ?_); (case side1 => repeat (first | (with_reducible first | exact HB.out | apply below_alloc | apply pw_below_drewN | apply below_drew1) | exact HB.out)); (case side2 => exact Kd.R_tight rfl HO_5.out); rintro e w29 ⟨v240, rfl, ho0, hb, hkp⟩; refine ⟨_, rfl, ?_⟩; have HO241 := A_ (Kd.R_mono (ok' := fun k_ => True) ho0 (fun k_ hk_ => trivial)); replace HB := A_ (hb); clear HO_5; clear hb hkp ho0))
      go_ret
      exact ⟨_, by first | rfl | (simp [errW_none, errW_some] <;> rfl) | (simp only [← hji3]; first | rfl | (simp [errW_none, errW_some] <;> rfl)) | (simp [*, errW_none, errW_some] <;> rfl), by (with_reducible repeat (first | apply Kd.R_alloc | apply Kd.R_drewN | apply Kd.R_drew)); exact HO241.out, T1_⟩
  ·
   rw [if_neg c5] at H;exact absurd H (by simp)
 ·
  rw [if_neg c4] at H;exact absurd H (by simp)
end Go.Proofs.YtndkjpkgllmbnaaGreatDoor.PA
