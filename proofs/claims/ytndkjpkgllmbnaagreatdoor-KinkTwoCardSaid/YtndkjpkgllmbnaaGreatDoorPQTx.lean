-- by wip/tool/mine.py of this repo (the kit's printer with given contracts)
import Derived.Test.YtndkjpkgllmbnaaGreatDoorPQTxa
namespace Go.Proofs.YtndkjpkgllmbnaaGreatDoor.PQT
open Go.RowKit Go.ZPWords Go.ZPLast Go.ZPMore
attribute [local go_sem] max2_int min2_int max_two min_two max_three min_three max_four min_four   -- for this text's walks alone
set_option linter.unusedVariables false
set_option linter.unusedSimpArgs false
set_option maxHeartbeats 8000000
set_option maxRecDepth 100000
/-! ### lw7_KinkTwo: function 8 -/
mutual
noncomputable def lw7_KinkTwo.j0 : Nat → Bool → List Int → List ByteArray → List Int → List ByteArray → Option (Bool)
 | 0, _, _, _, _, _ => none
 | k + 1, x17, x151000, x151001, x152000, x152001 => if x17 = true then ((lw7_awake.f).bind fun t154 => (some t154)) else ((kink_Max.f x151000 x151001 x152000 x152001).bind fun bt155 => ((kink_Above.f x151000 x151001 x152000 x152001).bind fun bt163 => ((rf5_Right.f x151000 x151001).bind fun t171 => (if t171 = true then ((rf5_Right.f x152000 x152001).bind fun t172 => (lw7_KinkTwo.j1 k bt155.2.2 bt163.2.2 0 (!t172) x151000 x151001 x152000 x152001 bt155.1 bt155.2.1 bt163.1 bt163.2.1)) else (lw7_KinkTwo.j1 k bt155.2.2 bt163.2.2 0 true x151000 x151001 x152000 x152001 bt155.1 bt155.2.1 bt163.1 bt163.2.1)))))
noncomputable def lw7_KinkTwo.j1 : Nat → Int → Int → Int → Bool → List Int → List ByteArray → List Int → List ByteArray → List Int → List ByteArray → List Int → List ByteArray → Option (Bool)
 | 0, _, _, _, _, _, _, _, _, _, _, _, _ => none
 | k + 1, x6, x8, x9, x38, x151000, x151001, x152000, x152001, x163000, x163001, x171000, x171001 => if x38 = true then (lw7_KinkTwo.j2 k x6 x8 1 x151000 x151001 x152000 x152001 x163000 x163001 x171000 x171001) else ((rf4_Same.f x151000 x152000).bind fun t173 => (if t173 = true then (lw7_KinkTwo.j2 k x6 x8 x9 x151000 x151001 x152000 x152001 x163000 x163001 x171000 x171001) else (lw7_KinkTwo.j2 k x6 x8 4 x151000 x151001 x152000 x152001 x163000 x163001 x171000 x171001)))
noncomputable def lw7_KinkTwo.j2 : Nat → Int → Int → Int → List Int → List ByteArray → List Int → List ByteArray → List Int → List ByteArray → List Int → List ByteArray → Option (Bool)
 | 0, _, _, _, _, _, _, _, _, _, _, _ => none
 | k + 1, x6, x8, x9, x151000, x151001, x152000, x152001, x163000, x163001, x171000, x171001 => if x9 = 0 then ((rf7_Two.f k (⟨#[109, 97, 120]⟩ : ByteArray) x151000 x151001 x152000 x152001).bind fun bt175 => ((rf5_Equal.f x163000 x163001 bt175.1 bt175.2).bind fun t181 => (if t181 = true then ((rf7_Two.f k (⟨#[97, 98, 111, 118, 101]⟩ : ByteArray) x151000 x151001 x152000 x152001).bind fun bt182 => ((rf5_Equal.f x171000 x171001 bt182.1 bt182.2).bind fun t188 => (if t188 = true then (if x6 = x9 then (if x8 = x9 then ((lw7_awake.f).bind fun t189 => (some t189)) else (some false)) else (some false)) else (some false)))) else (some false)))) else (if (wrap64 ((x163001.length : Int) + (x171001.length : Int))) = 0 then (if x6 = x9 then (if x8 = x9 then ((lw7_awake.f).bind fun t174 => (some t174)) else (some false)) else (some false)) else (some false))
end
noncomputable def lw7_KinkTwo.f (k : Nat) (l0_0 : List Int) (l0_1 : List ByteArray) (l1_0 : List Int) (l1_1 : List ByteArray) : Option (Bool) := (rf5_Small.f l0_0 l0_1).bind fun t152 => (if t152 = true then ((rf5_Small.f l1_0 l1_1).bind fun t153 => (lw7_KinkTwo.j0 k (!t153) l0_0 l0_1 l1_0 l1_1)) else (lw7_KinkTwo.j0 k true l0_0 l0_1 l1_0 l1_1))
def lw7_KinkTwo.T12 : Bool × List (List Nat × List Nat) := (true, [([], []), ([], []), ([], []), ([1, 2], [1, 2]), ([0, 3, 3], [0, 3]), ([4, 4], [4]), ([5], [5]), ([5], [5]), ([5], [5]), ([7, 8, 5, 5], [5, 7, 8]), ([6, 9, 9, 5], [5, 6, 9]), ([5, 10], [5, 10]), ([11, 10], [11]), ([12], [12]), ([12], [12]), ([13, 14, 12], [12, 13, 14]), ([12, 15], [12, 15]), ([16, 12], [16]), ([17], [17]), ([17], [17]), ([18, 19, 17], [17, 18, 19]), ([17, 20], [17, 20]), ([21, 17], [21]), ([22, 22], [22]), ([22, 23], [22, 23]), ([24, 23, 0, 1, 2, 3, 4, 5, 6, 7, 8, 9, 10, 11, 12, 13, 14, 15, 16, 17, 18, 19, 20, 21, 22, 23, 24], [24])])
def lw7_KinkTwo.B12 : List Nat := [0, 0, 0, 6, 15, 31, 63, 63, 63, 447, 1023, 2047, 4095, 8191, 8191, 32767, 65535, 131071, 262143, 262143, 1048575, 2097151, 4194303, 8388607, 16777215, 33554431]
theorem lw7_KinkTwo.tab12 : rtab .any (opsOf Tryz.f8 12) = lw7_KinkTwo.T12 := by kernel_rfl
theorem lw7_KinkTwo.bits12 : waitsOk lw7_KinkTwo.T12.2 lw7_KinkTwo.B12 = true := by kernel_rfl
theorem lw7_KinkTwo.calls (k : Nat) (A0_0 : Option Addr) (c0_0 : Nat) (l0_0 : List Int) (A0_1 : Option Addr) (c0_1 : Nat) (l0_1 : List ByteArray) (A1_0 : Option Addr) (c1_0 : Nat) (l1_0 : List Int) (A1_1 : Option Addr) (c1_1 : Nat) (l1_1 : List ByteArray) (r : Bool) (w : World) (hG : Err.Gs w) (hrt : r = true) (hr0_0 : Kd.C (Kd.int .i64) w A0_0 l0_0.length l0_0) (hc0_0 : l0_0.length ≤ c0_0) (hr0_1 : Kd.C Kd.string w A0_1 l0_1.length l0_1) (hc0_1 : l0_1.length ≤ c0_1) (hr1_0 : Kd.C (Kd.int .i64) w A1_0 l1_0.length l1_0) (hc1_0 : l1_0.length ≤ c1_0) (hr1_1 : Kd.C Kd.string w A1_1 l1_1.length l1_1) (hc1_1 : l1_1.length ≤ c1_1) (h : lw7_KinkTwo.f k l0_0 l0_1 l1_0 l1_1 = some r) :
  Calls Tryz.prog 8 #[.agg #[.slice A0_0 l0_0.length c0_0, .slice A0_1 l0_1.length c0_1], .agg #[.slice A1_0 l1_0.length c1_0, .slice A1_1 l1_1.length c1_1]] w fun e w' => e = .returned (.bool r) ∧ Below w.heap.size w w' := by
 have hu25 := Tryz.underlying25;have HR0_0 := A_ hr0_0;have HC0_0 := A_ hc0_0;clear hr0_0 hc0_0;have HR0_1 := A_ hr0_1;have HC0_1 := A_ hc0_1;clear hr0_1 hc0_1;have HR1_0 := A_ hr1_0;have HC1_0 := A_ hc1_0;clear hr1_0 hc1_0;have HR1_1 := A_ hr1_1;have HC1_1 := A_ hc1_1;clear hr1_1 hc1_1;have HB := A_ (Below.refl w.heap.size w);have HGs := A_ hG;clear hG;have HRT := A_ hrt;clear hrt;unfold lw7_KinkTwo.f at h;have H := h;clear h;have HC3 := A_ H;clear H;go_enter Tryz.func8, Tryz.ntmps8
 go_upto_region 1 with (first | (refine BX_ 2 #[.slice A0_0 l0_0.length c0_0, .slice A0_1 l0_1.length c0_1] 25 ?_; intro gb150 hg w4 hbox hb; have BK150 := A_ (hbox); have GW150 := GE_ hg; have GE150 := GE_ hg; replace HB := BS_ hb; clear hb hbox hg) | (refine BX_ 3 #[.slice A1_0 l1_0.length c1_0, .slice A1_1 l1_1.length c1_1] 25 ?_; intro gb151 hg w5 hbox hb; have BK151 := A_ (hbox); have GW151 := GE_ hg; have GE151 := GE_ hg; replace HB := BU_ hb; have NB150_151 := NB_ BK150 hg; have NB151_150 := NC_ BK150 hg; replace BK150 := BF_ BK150 hb; clear hb hbox hg))
 (try simp only [Act.put, List.setIfInBounds_toArray, List.set_cons_zero, List.set_cons_succ])
 go_cut [17] (fun v17 wc => ∃ (kq : Nat) (x17_2 : Bool), v17 = .bool x17_2 ∧ Aside0 (lw7_KinkTwo.j0 kq x17_2 l0_0 l0_1 l1_0 l1_1 = some r) ∧ Aside0 (kq ≤ k) ∧ Aside0 (wc.heap[gb150]? = some (.cells #[(.slice A0_0 l0_0.length c0_0), (.slice A0_1 l0_1.length c0_1)] 25 (0, 0))) ∧ Aside0 (wc.heap[gb151]? = some (.cells #[(.slice A1_0 l1_0.length c1_0), (.slice A1_1 l1_1.length c1_1)] 25 (0, 0))) ∧ Aside0 (Below w.heap.size w wc))
 case first =>
  have H := HC3.out;clear HC3;replace H := BE_ H;obtain ⟨t152, A60, H⟩ := H;have A6 := A_ A60;clear A60
  by_cases c7 : t152 = true
  ·
   subst c7;rw [if_pos rfl] at H;replace H := BE_ H;obtain ⟨t153, A80, H⟩ := H;have A8 := A_ A80;clear A80;have H' := A_ H;clear H;have hnb9 := NB150_151.out;have hnc9 := NB151_150.out;obtain ⟨hcz10_0, hcz10_1, hfz10_0, hfz10_1⟩ := CF_ BK150
   go_wp2_with (first | (refine GL_ 11 11 Tryz.func11 #[.agg #[.slice A0_0 l0_0.length c0_0, .slice A0_1 l0_1.length c0_1]] ?_; (with_reducible refine (rf5_Small.calls _ _ l0_0 _ _ l0_1 true _ (CW_ HR0_0) HC0_0.out (CW_ HR0_1) HC0_1.out A6.out).mono ?_); rintro e w11 ⟨rfl, hb⟩; refine ⟨_, rfl, ?_⟩; replace BK150 := BF_ BK150 hb; replace BK151 := BF_ BK151 hb; replace HB := BU_ hb; clear hb; obtain ⟨hcz12_0, hcz12_1, hfz12_0, hfz12_1⟩ := CF_ BK151) | (go_at_call 11; (with_reducible refine (rf5_Small.calls _ _ l1_0 _ _ l1_1 t153 _ (CW_ HR1_0) HC1_0.out (CW_ HR1_1) HC1_1.out A8.out).mono ?_); rintro e w13 ⟨rfl, hb⟩; replace BK150 := BF_ BK150 hb; replace BK151 := BF_ BK151 hb; replace HB := BU_ hb; clear hb))
   go_meet
   case rel => exact ⟨_, (!t153), S1_, H', ⟨by first | omega | exact Nat.le_refl _⟩, BW_ BK150, BW_ BK151, ⟨T9_⟩⟩
  ·
   replace c7 := Bool.eq_false_iff.mpr c7;subst c7;rw [if_neg (show ¬ (false = true) by decide)] at H;have H' := A_ H;clear H;have hnb14 := NB150_151.out;have hnc14 := NB151_150.out;obtain ⟨hcz15_0, hcz15_1, hfz15_0, hfz15_1⟩ := CF_ BK150
   go_wp2_with (first | (refine GL_ 11 11 Tryz.func11 #[.agg #[.slice A0_0 l0_0.length c0_0, .slice A0_1 l0_1.length c0_1]] ?_; (with_reducible refine (rf5_Small.calls _ _ l0_0 _ _ l0_1 false _ (CW_ HR0_0) HC0_0.out (CW_ HR0_1) HC0_1.out A6.out).mono ?_); rintro e w16 ⟨rfl, hb⟩; refine ⟨_, rfl, ?_⟩; replace BK150 := BF_ BK150 hb; replace BK151 := BF_ BK151 hb; replace HB := BU_ hb; clear hb))
   go_meet
   case rel => exact ⟨_, (true), S1_, H', ⟨by first | omega | exact Nat.le_refl _⟩, BW_ BK150, BW_ BK151, ⟨T9_⟩⟩
 case rest =>
  clear HC3
  obtain ⟨kq, x17_2, rfl, HA, HJ2, BK150, BK151, HB⟩ := hcut
  cases kq with
  | zero => exact absurd HA.out (by simp [lw7_KinkTwo.j0])
  | succ kj2 =>
   have H := HA.out;clear HA;simp only [lw7_KinkTwo.j0] at H
   by_cases c17 : x17_2 = true
   ·
    subst c17;rw [if_pos rfl] at H;replace H := BE_ H;obtain ⟨t154, A180, H⟩ := H;have A18 := A_ A180;clear A180;obtain rfl := Option.some.inj H
    go_wp2_with (first | (refine GL_ 12 18 Tryz.func12 #[] ?_; (with_reducible refine (lw7_awake.calls  t154 _ (Err.Gs.below HGs.out T9_) A18.out).mono ?_); rintro e w19 ⟨rfl, hb⟩; refine ⟨_, rfl, ?_⟩; replace BK150 := BF_ BK150 hb; replace BK151 := BF_ BK151 hb; replace HB := BU_ hb; clear hb))
    go_ret
    exact ⟨T4_, T9_⟩
   ·
    replace c17 := Bool.eq_false_iff.mpr c17;subst c17;rw [if_neg (show ¬ (false = true) by decide)] at H;replace H := BE_ H;obtain ⟨⟨t155, t158, t161⟩, A200, H⟩ := H;have A20 := A_ A200;clear A200;replace H := BE_ H;obtain ⟨⟨t163, t166, t169⟩, A210, H⟩ := H;have A21 := A_ A210;clear A210;have HC22 := A_ H;clear H;have hnb23 := NB150_151.out;have hnc23 := NB151_150.out;obtain ⟨hcz24_0, hcz24_1, hfz24_0, hfz24_1⟩ := CF_ BK150;have hcz25_0 : wc.cell? ⟨gb151, 0, none⟩ = some (.slice A1_0 l1_0.length c1_0) := (blk_cell BK151.out 0).trans rfl;have hcz25_1 : wc.cell? ⟨gb151, 1, none⟩ = some (.slice A1_1 l1_1.length c1_1) := (blk_cell BK151.out 1).trans rfl;have hfz25_0 := blk_frozen BK151.out 0;have hfz25_1 := blk_frozen BK151.out 1
    go_upto_region 6 with (first | (refine GL_ 13 22 Tryz.func13 #[.agg #[.slice A0_0 l0_0.length c0_0, .slice A0_1 l0_1.length c0_1], .agg #[.slice A1_0 l1_0.length c1_0, .slice A1_1 l1_1.length c1_1]] ?_; (with_reducible refine (kink_Max.calls _ _ l0_0 _ _ l0_1 _ _ l1_0 _ _ l1_1 t155 t158 t161 _ (Err.Gs.below HGs.out T9_) (CW_ HR0_0) HC0_0.out (CW_ HR0_1) HC0_1.out (CW_ HR1_0) HC1_0.out (CW_ HR1_1) HC1_1.out A20.out).mono ?_); rintro e w26 ⟨v156, v159, rfl, ho0, ho1, hb⟩; refine ⟨_, rfl, ?_⟩; have HO157 := A_ (Kd.R_lower ho0 (below_size T9_)); have HO160 := A_ (Kd.R_lower ho1 (below_size T9_)); replace BK150 := BF_ BK150 hb; replace BK151 := BF_ BK151 hb; replace HB := BU_ hb; clear hb ho0 ho1) | (refine BX_ 5 #[.slice none 0 0, .slice none 0 0] 25 ?_; intro gb162 hg w27 hbox hb; replace HO157 := RC_ HO157 hb; replace HO160 := RC_ HO160 hb; have BK162 := A_ (hbox); have GW162 := GE_ hg; have GE162 := GE_ hg; replace HB := BU_ hb; have NB150_162 := NB_ BK150 hg; have NB162_150 := NC_ BK150 hg; replace BK150 := BF_ BK150 hb; have NB151_162 := NB_ BK151 hg; have NB162_151 := NC_ BK151 hg; replace BK151 := BF_ BK151 hb; clear hb hbox hg; obtain ⟨Ao28, co28, eo28⟩ := Kd.R_slice HO157.out; subst eo28; have hnb29 := NB162_150.out; have hnc29 := NB150_162.out; have hnb30 := NB162_151.out; have hnc30 := NB151_162.out; obtain ⟨hcz31_0, hcz31_1, hfz31_0, hfz31_1⟩ := CF_ BK162; obtain ⟨Ao32, co32, eo32⟩ := Kd.R_slice HO160.out; subst eo32; obtain ⟨hcz33_0, hcz33_1, hfz33_0, hfz33_1⟩ := CF_ BK150; obtain ⟨hcz34_0, hcz34_1, hfz34_0, hfz34_1⟩ := CF_ BK151) | (refine GL_ 22 28 Tryz.func22 #[.agg #[.slice A0_0 l0_0.length c0_0, .slice A0_1 l0_1.length c0_1], .agg #[.slice A1_0 l1_0.length c1_0, .slice A1_1 l1_1.length c1_1]] ?_; (with_reducible refine (kink_Above.calls _ _ l0_0 _ _ l0_1 _ _ l1_0 _ _ l1_1 t163 t166 t169 _ (Err.Gs.below HGs.out T9_) (Kd.C_below HR0_0.out T9_) HC0_0.out (Kd.C_below HR0_1.out T9_) HC0_1.out (Kd.C_below HR1_0.out T9_) HC1_0.out (Kd.C_below HR1_1.out T9_) HC1_1.out A21.out).mono ?_); rintro e w35 ⟨v164, v167, rfl, ho0, ho1, hb⟩; refine ⟨_, rfl, ?_⟩; have HO165 := A_ (Kd.R_lower ho0 (below_size T9_)); replace HO157 := RC_ HO157 hb; have HO168 := A_ (Kd.R_lower ho1 (below_size T9_)); replace HO160 := RC_ HO160 hb; replace BK150 := BG_ BK150 hb; replace BK151 := BG_ BK151 hb; replace BK162 := BP_ BK162 hb; replace HB := BU_ hb; clear hb ho0 ho1) | (refine BX_ 7 #[.slice none 0 0, .slice none 0 0] 25 ?_; intro gb170 hg w36 hbox hb; replace HO157 := RC_ HO157 hb; replace HO160 := RC_ HO160 hb; replace HO165 := RC_ HO165 hb; replace HO168 := RC_ HO168 hb; have BK170 := A_ (hbox); have GW170 := GE_ hg; have GE170 := GE_ hg; replace HB := BU_ hb; have NB150_170 := NB_ BK150 hg; have NB170_150 := NC_ BK150 hg; replace BK150 := BF_ BK150 hb; have NB151_170 := NB_ BK151 hg; have NB170_151 := NC_ BK151 hg; replace BK151 := BF_ BK151 hb; have NB162_170 := NB_ BK162 hg; have NB170_162 := NC_ BK162 hg; replace BK162 := BF_ BK162 hb; clear hb hbox hg; obtain ⟨Ao37, co37, eo37⟩ := Kd.R_slice HO165.out; subst eo37; have hnb38 := NB170_150.out; have hnc38 := NB150_170.out; have hnb39 := NB170_151.out; have hnc39 := NB151_170.out; have hnb40 := NB170_162.out; have hnc40 := NB162_170.out; obtain ⟨hcz41_0, hcz41_1, hfz41_0, hfz41_1⟩ := CF_ BK170; obtain ⟨Ao42, co42, eo42⟩ := Kd.R_slice HO168.out; subst eo42))
    (try simp only [Act.put, List.setIfInBounds_toArray, List.set_cons_zero, List.set_cons_succ])
    go_cut [38] (fun v38 wc => ∃ (kq : Nat) (x38_21 : Bool), v38 = .bool x38_21 ∧ Aside0 (lw7_KinkTwo.j1 kq t161 t169 0 x38_21 l0_0 l0_1 l1_0 l1_1 t155 t158 t163 t166 = some r) ∧ Aside0 (kq ≤ kj2) ∧ Aside0 (Kd.R (Kd.int .i64) 3 wc w.heap.size (fun _ => True) (.slice Ao28 t155.length co28) t155) ∧ Aside0 (Kd.R Kd.string 9 wc w.heap.size (fun _ => True) (.slice Ao32 t158.length co32) t158) ∧ Aside0 (Kd.R (Kd.int .i64) 3 wc w.heap.size (fun _ => True) (.slice Ao37 t163.length co37) t163) ∧ Aside0 (Kd.R Kd.string 9 wc w.heap.size (fun _ => True) (.slice Ao42 t166.length co42) t166) ∧ Aside0 (wc.heap[gb150]? = some (.cells #[(.slice A0_0 l0_0.length c0_0), (.slice A0_1 l0_1.length c0_1)] 25 (0, 0))) ∧ Aside0 (wc.heap[gb151]? = some (.cells #[(.slice A1_0 l1_0.length c1_0), (.slice A1_1 l1_1.length c1_1)] 25 (0, 0))) ∧ Aside0 (wc.heap[gb162]? = some (.cells #[(.slice Ao28 t155.length co28), (.slice Ao32 t158.length co32)] 25 (0, 0))) ∧ Aside0 (wc.heap[gb170]? = some (.cells #[(.slice Ao37 t163.length co37), (.slice Ao42 t166.length co42)] 25 (0, 0))) ∧ Aside0 (Below w.heap.size w wc))
    case first =>
     have H := HC22.out;clear HC22;replace H := BE_ H;obtain ⟨t171, A430, H⟩ := H;have A43 := A_ A430;clear A430
     by_cases c44 : t171 = true
     ·
      subst c44;rw [if_pos rfl] at H;replace H := BE_ H;obtain ⟨t172, A450, H⟩ := H;have A45 := A_ A450;clear A450;have H' := A_ H;clear H;have hnb46 := NB150_151.out;have hnc46 := NB151_150.out;have hnb47 := NB150_162.out;have hnc47 := NB162_150.out;have hnb48 := NB150_170.out;have hnc48 := NB170_150.out;obtain ⟨hcz49_0, hcz49_1, hfz49_0, hfz49_1⟩ := CF_ BK150
      go_wp2_with (first | (refine GL_ 24 32 Tryz.func24 #[.agg #[.slice A0_0 l0_0.length c0_0, .slice A0_1 l0_1.length c0_1]] ?_; (with_reducible refine (rf5_Right.calls _ _ l0_0 _ _ l0_1 true _ (Kd.C_below HR0_0.out T9_) HC0_0.out (Kd.C_below HR0_1.out T9_) HC0_1.out A43.out).mono ?_); rintro e w50 ⟨rfl, hb⟩; refine ⟨_, rfl, ?_⟩; replace HO157 := RC_ HO157 hb; replace HO160 := RC_ HO160 hb; replace HO165 := RC_ HO165 hb; replace HO168 := RC_ HO168 hb; replace BK150 := BG_ BK150 hb; replace BK151 := BG_ BK151 hb; replace BK162 := BG_ BK162 hb; replace BK170 := BP_ BK170 hb; replace HB := BU_ hb; clear hb; have hnb51 := NB151_162.out; have hnc51 := NB162_151.out; have hnb52 := NB151_170.out; have hnc52 := NB170_151.out; obtain ⟨hcz53_0, hcz53_1, hfz53_0, hfz53_1⟩ := CF_ BK151) | (go_at_call 24; (with_reducible refine (rf5_Right.calls _ _ l1_0 _ _ l1_1 t172 _ (CW_ HR1_0) HC1_0.out (CW_ HR1_1) HC1_1.out A45.out).mono ?_); rintro e w54 ⟨rfl, hb⟩; replace HO157 := RC_ HO157 hb; replace HO160 := RC_ HO160 hb; replace HO165 := RC_ HO165 hb; replace HO168 := RC_ HO168 hb; replace BK150 := BF_ BK150 hb; replace BK151 := BF_ BK151 hb; replace BK162 := BF_ BK162 hb; replace BK170 := BF_ BK170 hb; replace HB := BU_ hb; clear hb))
      go_meet
      case rel => exact ⟨_, (!t172), S1_, H', ⟨by have := HJ2.out; first | omega | exact Nat.le_refl _⟩, RW_ HO157, RW_ HO160, RW_ HO165, RW_ HO168, BW_ BK150, BW_ BK151, BW_ BK162, BW_ BK170, ⟨T9_⟩⟩
     ·
      replace c44 := Bool.eq_false_iff.mpr c44;subst c44;rw [if_neg (show ¬ (false = true) by decide)] at H;have H' := A_ H;clear H;have hnb55 := NB150_151.out;have hnc55 := NB151_150.out;have hnb56 := NB150_162.out;have hnc56 := NB162_150.out;have hnb57 := NB150_170.out;have hnc57 := NB170_150.out;obtain ⟨hcz58_0, hcz58_1, hfz58_0, hfz58_1⟩ := CF_ BK150
      go_wp2_with (first | (refine GL_ 24 32 Tryz.func24 #[.agg #[.slice A0_0 l0_0.length c0_0, .slice A0_1 l0_1.length c0_1]] ?_; (with_reducible refine (rf5_Right.calls _ _ l0_0 _ _ l0_1 false _ (Kd.C_below HR0_0.out T9_) HC0_0.out (Kd.C_below HR0_1.out T9_) HC0_1.out A43.out).mono ?_); rintro e w59 ⟨rfl, hb⟩; refine ⟨_, rfl, ?_⟩; replace HO157 := RC_ HO157 hb; replace HO160 := RC_ HO160 hb; replace HO165 := RC_ HO165 hb; replace HO168 := RC_ HO168 hb; replace BK150 := BG_ BK150 hb; replace BK151 := BG_ BK151 hb; replace BK162 := BG_ BK162 hb; replace BK170 := BP_ BK170 hb; replace HB := BU_ hb; clear hb))
      go_meet
      case rel => exact ⟨_, (true), S1_, H', ⟨by have := HJ2.out; first | omega | exact Nat.le_refl _⟩, RW_ HO157, RW_ HO160, RW_ HO165, RW_ HO168, BW_ BK150, BW_ BK151, BW_ BK162, BW_ BK170, ⟨T9_⟩⟩
    case rest =>
     clear HC22
     try clear c17
     try clear hcz24_0
     try clear hcz24_1
     try clear hcz25_0
     try clear hcz25_1
     try clear hcz31_0
     try clear hcz31_1
     try clear hcz33_0
     try clear hcz33_1
     try clear hcz34_0
     try clear hcz34_1
     try clear hcz41_0
     try clear hcz41_1
     try clear hfz24_0
     try clear hfz24_1
     try clear hfz25_0
     try clear hfz25_1
     try clear hfz31_0
     try clear hfz31_1
     try clear hfz33_0
     try clear hfz33_1
     try clear hfz34_0
     try clear hfz34_1
     try clear hfz41_0
     try clear hfz41_1
     obtain ⟨kq, x38_21, rfl, HA, HJ21, HO_163000, HO_163001, HO_171000, HO_171001, BK150, BK151, BK162, BK170, HB⟩ := hcut
     cases kq with
     | zero => exact absurd HA.out (by simp [lw7_KinkTwo.j1])
     | succ kj21 =>
      have H := HA.out;clear HA;simp only [lw7_KinkTwo.j1] at H;have HC60 := A_ H;clear H
      go_upto_if 38 with (fail)
      go_cut [9] (fun v9 wc => ∃ (kq : Nat) (x9_59 : Int), v9 = .int .i64 x9_59 ∧ Aside0 (lw7_KinkTwo.j2 kq t161 t169 x9_59 l0_0 l0_1 l1_0 l1_1 t155 t158 t163 t166 = some r) ∧ Aside0 (kq ≤ kj21) ∧ Aside0 (Kd.R (Kd.int .i64) 3 wc w.heap.size (fun _ => True) (.slice Ao28 t155.length co28) t155) ∧ Aside0 (Kd.R Kd.string 9 wc w.heap.size (fun _ => True) (.slice Ao32 t158.length co32) t158) ∧ Aside0 (Kd.R (Kd.int .i64) 3 wc w.heap.size (fun _ => True) (.slice Ao37 t163.length co37) t163) ∧ Aside0 (Kd.R Kd.string 9 wc w.heap.size (fun _ => True) (.slice Ao42 t166.length co42) t166) ∧ Aside0 (wc.heap[gb150]? = some (.cells #[(.slice A0_0 l0_0.length c0_0), (.slice A0_1 l0_1.length c0_1)] 25 (0, 0))) ∧ Aside0 (wc.heap[gb151]? = some (.cells #[(.slice A1_0 l1_0.length c1_0), (.slice A1_1 l1_1.length c1_1)] 25 (0, 0))) ∧ Aside0 (wc.heap[gb162]? = some (.cells #[(.slice Ao28 t155.length co28), (.slice Ao32 t158.length co32)] 25 (0, 0))) ∧ Aside0 (wc.heap[gb170]? = some (.cells #[(.slice Ao37 t163.length co37), (.slice Ao42 t166.length co42)] 25 (0, 0))) ∧ Aside0 (Below w.heap.size w wc))
      case first =>
       have H := HC60.out;clear HC60
       by_cases c61 : x38_21 = true
       ·
        subst c61;rw [if_pos rfl] at H;have H' := A_ H;clear H
        go_wp2
        go_meet
        case rel => exact ⟨_, (1), S1_, H', ⟨by have := HJ2.out; have := HJ21.out; first | omega | exact Nat.le_refl _⟩, ⟨by (with_reducible repeat (first | apply Kd.R_alloc | apply Kd.R_drewN | apply Kd.R_drew)); exact HO_163000.out⟩, ⟨by (with_reducible repeat (first | apply Kd.R_alloc | apply Kd.R_drewN | apply Kd.R_drew)); exact HO_163001.out⟩, ⟨by (with_reducible repeat (first | apply Kd.R_alloc | apply Kd.R_drewN | apply Kd.R_drew)); exact HO_171000.out⟩, ⟨by (with_reducible repeat (first | apply Kd.R_alloc | apply Kd.R_drewN | apply Kd.R_drew)); exact HO_171001.out⟩, BW_ BK150, BW_ BK151, BW_ BK162, BW_ BK170, ⟨T9_⟩⟩
       ·
        replace c61 := Bool.eq_false_iff.mpr c61;subst c61;rw [if_neg (show ¬ (false = true) by decide)] at H;replace H := BE_ H;obtain ⟨t173, A620, H⟩ := H;have A62 := A_ A620;clear A620
        by_cases c63 : t173 = true
        ·
         subst c63;rw [if_pos rfl] at H;have H' := A_ H;clear H;have hnb64 := NB150_151.out;have hnc64 := NB151_150.out;have hnb65 := NB150_162.out;have hnc65 := NB162_150.out;have hnb66 := NB150_170.out;have hnc66 := NB170_150.out;obtain ⟨hcz67_0, hcz67_1, hfz67_0, hfz67_1⟩ := CF_ BK150;have hnb68 := NB151_162.out;have hnc68 := NB162_151.out;have hnb69 := NB151_170.out;have hnc69 := NB170_151.out;have hcz70_0 : wc.cell? ⟨gb151, 0, none⟩ = some (.slice A1_0 l1_0.length c1_0) := (blk_cell BK151.out 0).trans rfl;have hcz70_1 : wc.cell? ⟨gb151, 1, none⟩ = some (.slice A1_1 l1_1.length c1_1) := (blk_cell BK151.out 1).trans rfl;have hfz70_0 := blk_frozen BK151.out 0;have hfz70_1 := blk_frozen BK151.out 1
         go_wp2_with (first | (refine GL_ 27 43 Tryz.func27 #[.slice A0_0 l0_0.length c0_0, .slice A1_0 l1_0.length c1_0] ?_; (with_reducible refine (rf4_Same.calls _ _ l0_0 _ _ l1_0 true _ (CW_ HR0_0) HC0_0.out (CW_ HR1_0) HC1_0.out A62.out).mono ?_); rintro e w71 ⟨rfl, hb⟩; refine ⟨_, rfl, ?_⟩; replace HO_163000 := RC_ HO_163000 hb; replace HO_163001 := RC_ HO_163001 hb; replace HO_171000 := RC_ HO_171000 hb; replace HO_171001 := RC_ HO_171001 hb; replace BK150 := BF_ BK150 hb; replace BK151 := BF_ BK151 hb; replace BK162 := BF_ BK162 hb; replace BK170 := BF_ BK170 hb; replace HB := BU_ hb; clear hb))
         go_meet
         case rel => exact ⟨_, (0), S1_, H', ⟨by have := HJ2.out; have := HJ21.out; first | omega | exact Nat.le_refl _⟩, ⟨by (with_reducible repeat (first | apply Kd.R_alloc | apply Kd.R_drewN | apply Kd.R_drew)); exact HO_163000.out⟩, ⟨by (with_reducible repeat (first | apply Kd.R_alloc | apply Kd.R_drewN | apply Kd.R_drew)); exact HO_163001.out⟩, ⟨by (with_reducible repeat (first | apply Kd.R_alloc | apply Kd.R_drewN | apply Kd.R_drew)); exact HO_171000.out⟩, ⟨by (with_reducible repeat (first | apply Kd.R_alloc | apply Kd.R_drewN | apply Kd.R_drew)); exact HO_171001.out⟩, BW_ BK150, BW_ BK151, BW_ BK162, BW_ BK170, ⟨T9_⟩⟩
        ·
         replace c63 := Bool.eq_false_iff.mpr c63;subst c63;rw [if_neg (show ¬ (false = true) by decide)] at H;have H' := A_ H;clear H;have hnb72 := NB150_151.out;have hnc72 := NB151_150.out;have hnb73 := NB150_162.out;have hnc73 := NB162_150.out;have hnb74 := NB150_170.out;have hnc74 := NB170_150.out;obtain ⟨hcz75_0, hcz75_1, hfz75_0, hfz75_1⟩ := CF_ BK150;have hnb76 := NB151_162.out;have hnc76 := NB162_151.out;have hnb77 := NB151_170.out;have hnc77 := NB170_151.out;have hcz78_0 : wc.cell? ⟨gb151, 0, none⟩ = some (.slice A1_0 l1_0.length c1_0) := (blk_cell BK151.out 0).trans rfl;have hcz78_1 : wc.cell? ⟨gb151, 1, none⟩ = some (.slice A1_1 l1_1.length c1_1) := (blk_cell BK151.out 1).trans rfl;have hfz78_0 := blk_frozen BK151.out 0;have hfz78_1 := blk_frozen BK151.out 1
         go_wp2_with (first | (refine GL_ 27 43 Tryz.func27 #[.slice A0_0 l0_0.length c0_0, .slice A1_0 l1_0.length c1_0] ?_; (with_reducible refine (rf4_Same.calls _ _ l0_0 _ _ l1_0 false _ (CW_ HR0_0) HC0_0.out (CW_ HR1_0) HC1_0.out A62.out).mono ?_); rintro e w79 ⟨rfl, hb⟩; refine ⟨_, rfl, ?_⟩; replace HO_163000 := RC_ HO_163000 hb; replace HO_163001 := RC_ HO_163001 hb; replace HO_171000 := RC_ HO_171000 hb; replace HO_171001 := RC_ HO_171001 hb; replace BK150 := BF_ BK150 hb; replace BK151 := BF_ BK151 hb; replace BK162 := BF_ BK162 hb; replace BK170 := BF_ BK170 hb; replace HB := BU_ hb; clear hb))
         go_meet
         case rel => exact ⟨_, (4), S1_, H', ⟨by have := HJ2.out; have := HJ21.out; first | omega | exact Nat.le_refl _⟩, ⟨by (with_reducible repeat (first | apply Kd.R_alloc | apply Kd.R_drewN | apply Kd.R_drew)); exact HO_163000.out⟩, ⟨by (with_reducible repeat (first | apply Kd.R_alloc | apply Kd.R_drewN | apply Kd.R_drew)); exact HO_163001.out⟩, ⟨by (with_reducible repeat (first | apply Kd.R_alloc | apply Kd.R_drewN | apply Kd.R_drew)); exact HO_171000.out⟩, ⟨by (with_reducible repeat (first | apply Kd.R_alloc | apply Kd.R_drewN | apply Kd.R_drew)); exact HO_171001.out⟩, BW_ BK150, BW_ BK151, BW_ BK162, BW_ BK170, ⟨T9_⟩⟩
      case rest =>
       clear HC60
       try clear c17
       try clear hcz24_0
       try clear hcz24_1
       try clear hcz25_0
       try clear hcz25_1
       try clear hcz31_0
       try clear hcz31_1
       try clear hcz33_0
       try clear hcz33_1
       try clear hcz34_0
       try clear hcz34_1
       try clear hcz41_0
       try clear hcz41_1
       try clear hfz24_0
       try clear hfz24_1
       try clear hfz25_0
       try clear hfz25_1
       try clear hfz31_0
       try clear hfz31_1
       try clear hfz33_0
       try clear hfz33_1
       try clear hfz34_0
       try clear hfz34_1
       try clear hfz41_0
       try clear hfz41_1
       obtain ⟨kq, x9_59, rfl, HA, HJ59, HO_163000, HO_163001, HO_171000, HO_171001, BK150, BK151, BK162, BK170, HB⟩ := hcut
       cases kq with
       | zero => exact absurd HA.out (by simp [lw7_KinkTwo.j2])
       | succ kj59 =>
        have H := HA.out;clear HA;simp only [lw7_KinkTwo.j2] at H
        by_cases c80 : x9_59 = 0
        ·
         rw [if_pos c80] at H;have c80b0 : (x9_59 == 0) = true := beq_iff_eq.mpr c80;have c80b1 : (x9_59 != 0) = false := bne_eq_false_iff_eq.mpr c80;clear c80;replace H := BE_ H;obtain ⟨⟨t175, t178⟩, A810, H⟩ := H;have A81 := A_ A810;clear A810;replace H := BE_ H;obtain ⟨t181, A820, H⟩ := H;have A82 := A_ A820;clear A820
         by_cases c83 : t181 = true
         ·
          subst c83;rw [if_pos rfl] at H;replace H := BE_ H;obtain ⟨⟨t182, t185⟩, A840, H⟩ := H;have A84 := A_ A840;clear A840;replace H := BE_ H;obtain ⟨t188, A850, H⟩ := H;have A85 := A_ A850;clear A850
          by_cases c86 : t188 = true
          ·
           subst c86;rw [if_pos rfl] at H
           by_cases c87 : t161 = x9_59
           ·
            rw [if_pos c87] at H;have c87b0 : (t161 == x9_59) = true := beq_iff_eq.mpr c87;have c87b1 : (t161 != x9_59) = false := bne_eq_false_iff_eq.mpr c87;clear c87
            by_cases c88 : t169 = x9_59
            ·
             rw [if_pos c88] at H;have c88b0 : (t169 == x9_59) = true := beq_iff_eq.mpr c88;have c88b1 : (t169 != x9_59) = false := bne_eq_false_iff_eq.mpr c88;clear c88;replace H := BE_ H;obtain ⟨t189, A890, H⟩ := H;have A89 := A_ A890;clear A890;obtain rfl := Option.some.inj H
             try go_wp2
             replace HO_163000 := A_ (Kd.R_drew HO_163000.out);replace HO_163001 := A_ (Kd.R_drew HO_163001.out);replace HO_171000 := A_ (Kd.R_drew HO_171000.out);replace HO_171001 := A_ (Kd.R_drew HO_171001.out);replace BK150 := A_ (blk_drew BK150.out);replace BK151 := A_ (blk_drew BK151.out);replace BK162 := A_ (blk_drew BK162.out);replace BK170 := A_ (blk_drew BK170.out);replace HB := A_ (below_drew1 HB.out);refine start_ (n := 26) (S := fun w' => w'.cell? ⟨gb162, 0, none⟩ = some (.slice Ao28 t155.length co28) ∧ w'.cell? ⟨gb162, 1, none⟩ = some (.slice Ao32 t158.length co32) ∧ w'.cell? ⟨gb150, 0, none⟩ = some (.slice A0_0 l0_0.length c0_0) ∧ w'.cell? ⟨gb150, 1, none⟩ = some (.slice A0_1 l0_1.length c0_1) ∧ w'.cell? ⟨gb151, 0, none⟩ = some (.slice A1_0 l1_0.length c1_0) ∧ w'.cell? ⟨gb151, 1, none⟩ = some (.slice A1_1 l1_1.length c1_1) ∧ w'.cell? ⟨gb170, 0, none⟩ = some (.slice Ao37 t163.length co37) ∧ w'.cell? ⟨gb170, 1, none⟩ = some (.slice Ao42 t166.length co42)) (ds := []) #[false, false, false, false, false, false, false, false, false, false, false, false, false, false, false, false, false, false, false, false, false, false, false, false, false, false] (by kernel_rfl) rfl rfl ⟨(blk_cell BK162.out 0).trans rfl, (blk_cell BK162.out 1).trans rfl, (blk_cell BK150.out 0).trans rfl, (blk_cell BK150.out 1).trans rfl, (blk_cell BK151.out 0).trans rfl, (blk_cell BK151.out 1).trans rfl, (blk_cell BK170.out 0).trans rfl, (blk_cell BK170.out 1).trans rfl⟩ (fun hHeld => ?_); refine with_tabW lw7_KinkTwo.tab12 lw7_KinkTwo.bits12 (fun HT_ HW_ => ?_);generalize wc.drew = w90 at HO_163000 HO_163001 HO_171000 HO_171001 BK150 BK151 BK162 BK170 HB hHeld ⊢;refine TK_ 0 68 rfl (by rfl) (by rintro w' ⟨s0, s1, s2, s3, s4, s5, s6, s7⟩;go_simp;with_reducible rfl) hHeld ?_
             refine TK_ 1 69 rfl (by rfl) (by rintro w' ⟨s0, s1, s2, s3, s4, s5, s6, s7⟩;go_simp;with_reducible rfl) hHeld ?_
             refine TK_ 2 70 rfl (by rfl) (by rintro w' ⟨s0, s1, s2, s3, s4, s5, s6, s7⟩;go_simp;with_reducible rfl) hHeld ?_
             refine one_ (i := 3) (N := some 71) #[true, true, true, true, false, false, false, false, false, false, false, false, false, false, false, false, false, false, false, false, false, false, false, false, false, false] rfl rfl (one_of HT_.out (by kernel_rfl)) (by decide) (fun K hK => ?_);refine goes_ Tryz.func28 (by kernel_rfl) rfl #[.string (⟨#[109, 97, 120]⟩ : ByteArray), .agg #[.slice A0_0 l0_0.length c0_0, .slice A0_1 l0_1.length c0_1], .agg #[.slice A1_0 l1_0.length c1_0, .slice A1_1 l1_1.length c1_1]] (by rfl) rfl rfl T2_ ?_
             with_reducible refine (rf7_Two.calls kj59 (⟨#[109, 97, 120]⟩ : ByteArray) (fun k_ => k_ < w.heap.size) _ _ l0_0 _ _ l0_1 _ _ l1_0 _ _ l1_1 t175 t178 _ (Err.Gs.below HGs.out T9_) ?side1 ?side2 ?side3 ?side4 ?side5 ?side6 ?side7 A81.out).mono ?_
             (case side1 => exact Kd.V_mk HC0_0.out (Kd.F_below (Kd.C_F (Kd.heap_int .i64) HR0_0.out) T9_))
             (case side2 => exact CW_ HR0_1)
             (case side3 => exact HC0_1.out)
             (case side4 => exact CW_ HR1_0)
             (case side5 => exact HC1_0.out)
             (case side6 => exact CW_ HR1_1)
             (case side7 => exact HC1_1.out)
             rintro e w91 ⟨v176, v179, rfl, ho0, ho1, hb⟩;refine ⟨_, rfl, ?_⟩;have HO177 := A_ (Kd.V_lower (Kd.V_mono (ok' := fun k_ => some k_ ≠ (v179 : Value).ownBlock ∧ some k_ ≠ (.slice Ao28 t155.length co28 : Value).ownBlock ∧ some k_ ≠ (.slice Ao32 t158.length co32 : Value).ownBlock ∧ some k_ ≠ (.slice Ao37 t163.length co37 : Value).ownBlock ∧ some k_ ≠ (.slice Ao42 t166.length co42 : Value).ownBlock ∧ k_ ≠ gb150 ∧ k_ ≠ gb151 ∧ k_ ≠ gb162 ∧ k_ ≠ gb170) ho0 (fun k_ hk_ => ⟨hk_.2, Or.elim hk_.1 (fun hs_ => fun e_ => Nat.not_le.2 hs_ (Kd.R_base HO_163000.out k_ e_.symm)) (fun hn_ => (Kd.fresh' (Kd.R_lt (K1_ HO_163000)) k_ hn_)), Or.elim hk_.1 (fun hs_ => fun e_ => Nat.not_le.2 hs_ (Kd.R_base HO_163001.out k_ e_.symm)) (fun hn_ => (Kd.fresh' (Kd.R_lt (K1_ HO_163001)) k_ hn_)), Or.elim hk_.1 (fun hs_ => fun e_ => Nat.not_le.2 hs_ (Kd.R_base HO_171000.out k_ e_.symm)) (fun hn_ => (Kd.fresh' (Kd.R_lt (K1_ HO_171000)) k_ hn_)), Or.elim hk_.1 (fun hs_ => fun e_ => Nat.not_le.2 hs_ (Kd.R_base HO_171001.out k_ e_.symm)) (fun hn_ => (Kd.fresh' (Kd.R_lt (K1_ HO_171001)) k_ hn_)), Or.elim hk_.1 (fun hs_ => fun e_ => Nat.not_le.2 hs_ (by rw [e_]; exact GW150.out)) (fun hn_ => (Kd.freshB (g := gb150) (o := .cells #[.slice A0_0 l0_0.length c0_0, .slice A0_1 l0_1.length c0_1] 25 (0, 0)) (B1_ BK150.out) k_ hn_)), Or.elim hk_.1 (fun hs_ => fun e_ => Nat.not_le.2 hs_ (by rw [e_]; exact GW151.out)) (fun hn_ => (Kd.freshB (g := gb151) (o := .cells #[.slice A1_0 l1_0.length c1_0, .slice A1_1 l1_1.length c1_1] 25 (0, 0)) (B1_ BK151.out) k_ hn_)), Or.elim hk_.1 (fun hs_ => fun e_ => Nat.not_le.2 hs_ (by rw [e_]; exact GW162.out)) (fun hn_ => (Kd.freshB (g := gb162) (o := .cells #[.slice Ao28 t155.length co28, .slice Ao32 t158.length co32] 25 (0, 0)) (B1_ BK162.out) k_ hn_)), Or.elim hk_.1 (fun hs_ => fun e_ => Nat.not_le.2 hs_ (by rw [e_]; exact GW170.out)) (fun hn_ => (Kd.freshB (g := gb170) (o := .cells #[.slice Ao37 t163.length co37, .slice Ao42 t166.length co42] 25 (0, 0)) (B1_ BK170.out) k_ hn_))⟩)) (below_size T9_));replace HO_163000 := RC_ HO_163000 hb;replace HO_171000 := RC_ HO_171000 hb;have HO180 := A_ (Kd.R_lower (Kd.R_new' (Kd.R_new' (Kd.R_mono (ok' := fun k_ => True) ho1 (fun _ hk_ => trivial)) (Kd.R_lt (K1_ HO_163001))) (Kd.R_lt (K1_ HO_171001))) (below_size T9_));replace HO_163001 := A_ (Kd.R_elder' (K1_ HO_163001) (Kd.R_base ho1) hb);replace HO_171001 := A_ (Kd.R_elder' (K1_ HO_171001) (Kd.R_base ho1) hb);replace BK150 := BF_ BK150 hb;replace BK151 := BF_ BK151 hb;replace BK162 := BF_ BK162 hb;replace BK170 := BF_ BK170 hb;replace HB := BU_ hb
             (try clear hb)
             (try clear hb2)
             (try clear hk)
             (try clear hi)
             (try clear ho0)
             (try clear ho1)
             obtain ⟨Ao92, co92, eo92⟩ := Kd.V_slice HO177.out
             (first | subst eo92 | (injection eo92 with f1_ f2_ f3_; have f4_ := f1_.symm; have f5_ := f3_.symm; clear f1_ f2_ f3_; subst f4_; subst f5_))
             obtain ⟨Ao93, co93, eo93⟩ := Kd.R_slice HO180.out
             (first | subst eo93 | (injection eo93 with f1_ f2_ f3_; have f4_ := f1_.symm; have f5_ := f3_.symm; clear f1_ f2_ f3_; subst f4_; subst f5_))
             refine hK.out _ _ ⟨(blk_cell BK162.out 0).trans rfl, (blk_cell BK162.out 1).trans rfl, (blk_cell BK150.out 0).trans rfl, (blk_cell BK150.out 1).trans rfl, (blk_cell BK151.out 0).trans rfl, (blk_cell BK151.out 1).trans rfl, (blk_cell BK170.out 0).trans rfl, (blk_cell BK170.out 1).trans rfl⟩ (fun hHeld => ?_);clear hK K;refine norm_ (a' := ?_) ?_ ?_;rotate_left
             ·
              show Act.put _ (some 71) _ = _
              simp only [Act.put, List.setIfInBounds_toArray, List.set_cons_zero, List.set_cons_succ, i64_w, i32_w];rfl
             refine one_ (i := 4) (N := some 72) #[true, true, true, true, true, false, false, false, false, false, false, false, false, false, false, false, false, false, false, false, false, false, false, false, false, false] rfl rfl (one_of HT_.out (by kernel_rfl)) (by decide) (fun K hK => ?_);refine goes_ Tryz.func19 (by kernel_rfl) rfl #[.agg #[.slice Ao28 t155.length co28, .slice Ao32 t158.length co32], .agg #[.slice Ao92 t175.length co92, .slice Ao93 t178.length co93]] (by rfl) rfl rfl T2_ ?_
             with_reducible refine (rf5_Equal.calls _ _ t155 _ _ t158 _ _ t175 _ _ t178 true _ ?side1 ?side2 ?side3 ?side4 ?side5 ?side6 ?side7 ?side8 A82.out).mono ?_
             (case side1 => exact C2_ HO_163000)
             (case side2 => exact (Kd.R_reads' HO_163000.out).2.1)
             (case side3 => exact C2_ HO_163001)
             (case side4 => exact (Kd.R_reads' HO_163001.out).2.1)
             (case side5 => repeat (first | exact (Kd.V_reads' HO177.out).2.2 | (with_reducible refine Kd.C_alloc ?_ _) | (with_reducible refine Kd.C_drewN ?_ _) | (with_reducible refine Kd.C_drew ?_)))
             (case side6 => exact (Kd.V_reads' HO177.out).2.1)
             (case side7 => exact C2_ HO180)
             (case side8 => exact (Kd.R_reads' HO180.out).2.1)
             rintro e w94 ⟨rfl, hb⟩;refine ⟨_, rfl, ?_⟩;replace HO_163000 := RC_ HO_163000 hb;replace HO_163001 := RC_ HO_163001 hb;replace HO_171000 := RC_ HO_171000 hb;replace HO_171001 := RC_ HO_171001 hb;replace HO177 := A_ (Kd.V_below (by (with_reducible repeat (first | apply Kd.V_alloc | apply Kd.V_drewN | apply Kd.V_drew)); exact HO177.out) hb);replace HO180 := RC_ HO180 hb;replace BK150 := BF_ BK150 hb;replace BK151 := BF_ BK151 hb;replace BK162 := BF_ BK162 hb;replace BK170 := BF_ BK170 hb;replace HB := BU_ hb
             (try clear hb)
             (try clear hb2)
             (try clear hk)
             (try clear hi)
             refine hK.out _ _ ⟨(blk_cell BK162.out 0).trans rfl, (blk_cell BK162.out 1).trans rfl, (blk_cell BK150.out 0).trans rfl, (blk_cell BK150.out 1).trans rfl, (blk_cell BK151.out 0).trans rfl, (blk_cell BK151.out 1).trans rfl, (blk_cell BK170.out 0).trans rfl, (blk_cell BK170.out 1).trans rfl⟩ (fun hHeld => ?_);clear hK K;refine norm_ (a' := ?_) ?_ ?_;rotate_left
             ·
              show Act.put _ (some 72) _ = _
              simp only [Act.put, List.setIfInBounds_toArray, List.set_cons_zero, List.set_cons_succ, i64_w, i32_w];rfl
             refine PU_ 5 73 ?_;refine TK_ 6 74 rfl (by rfl) (by rintro w' ⟨s0, s1, s2, s3, s4, s5, s6, s7⟩;go_simp;with_reducible rfl) hHeld ?_
             refine TK_ 7 75 rfl (by rfl) (by rintro w' ⟨s0, s1, s2, s3, s4, s5, s6, s7⟩;go_simp;with_reducible rfl) hHeld ?_
             refine TK_ 8 76 rfl (by rfl) (by rintro w' ⟨s0, s1, s2, s3, s4, s5, s6, s7⟩;go_simp;with_reducible rfl) hHeld ?_
             refine one_ (i := 9) (N := some 77) #[true, true, true, true, true, true, true, true, true, true, false, false, false, false, false, false, false, false, false, false, false, false, false, false, false, false] rfl rfl (one_of HT_.out (by kernel_rfl)) (by decide) (fun K hK => ?_);refine goes_ Tryz.func28 (by kernel_rfl) rfl #[.string (⟨#[97, 98, 111, 118, 101]⟩ : ByteArray), .agg #[.slice A0_0 l0_0.length c0_0, .slice A0_1 l0_1.length c0_1], .agg #[.slice A1_0 l1_0.length c1_0, .slice A1_1 l1_1.length c1_1]] (by rfl) rfl rfl T2_ ?_
             with_reducible refine (rf7_Two.calls kj59 (⟨#[97, 98, 111, 118, 101]⟩ : ByteArray) (fun k_ => k_ < w.heap.size) _ _ l0_0 _ _ l0_1 _ _ l1_0 _ _ l1_1 t182 t185 _ (Err.Gs.below HGs.out T9_) ?side1 ?side2 ?side3 ?side4 ?side5 ?side6 ?side7 A84.out).mono ?_
             (case side1 => exact Kd.V_mk HC0_0.out (Kd.F_below (Kd.C_F (Kd.heap_int .i64) HR0_0.out) T9_))
             (case side2 => exact CW_ HR0_1)
             (case side3 => exact HC0_1.out)
             (case side4 => exact CW_ HR1_0)
             (case side5 => exact HC1_0.out)
             (case side6 => exact CW_ HR1_1)
             (case side7 => exact HC1_1.out)
             rintro e w95 ⟨v183, v186, rfl, ho0, ho1, hb⟩;refine ⟨_, rfl, ?_⟩;replace HO177 := A_ (Kd.V_elder' (by (with_reducible repeat (first | apply Kd.V_alloc | apply Kd.V_drewN | apply Kd.V_drew)); exact HO177.out) (Kd.R_base ho1) hb);have HO184 := A_ (Kd.V_lower (Kd.V_mono (ok' := fun k_ => some k_ ≠ (v186 : Value).ownBlock ∧ some k_ ≠ (.slice Ao28 t155.length co28 : Value).ownBlock ∧ some k_ ≠ (.slice Ao32 t158.length co32 : Value).ownBlock ∧ some k_ ≠ (.slice Ao37 t163.length co37 : Value).ownBlock ∧ some k_ ≠ (.slice Ao42 t166.length co42 : Value).ownBlock ∧ some k_ ≠ (.slice Ao93 t178.length co93 : Value).ownBlock ∧ k_ ≠ gb150 ∧ k_ ≠ gb151 ∧ k_ ≠ gb162 ∧ k_ ≠ gb170) ho0 (fun k_ hk_ => ⟨hk_.2, Or.elim hk_.1 (fun hs_ => fun e_ => Nat.not_le.2 hs_ (Kd.R_base HO_163000.out k_ e_.symm)) (fun hn_ => (Kd.fresh' (Kd.R_lt (K1_ HO_163000)) k_ hn_)), Or.elim hk_.1 (fun hs_ => fun e_ => Nat.not_le.2 hs_ (Kd.R_base HO_163001.out k_ e_.symm)) (fun hn_ => (Kd.fresh' (Kd.R_lt (K1_ HO_163001)) k_ hn_)), Or.elim hk_.1 (fun hs_ => fun e_ => Nat.not_le.2 hs_ (Kd.R_base HO_171000.out k_ e_.symm)) (fun hn_ => (Kd.fresh' (Kd.R_lt (K1_ HO_171000)) k_ hn_)), Or.elim hk_.1 (fun hs_ => fun e_ => Nat.not_le.2 hs_ (Kd.R_base HO_171001.out k_ e_.symm)) (fun hn_ => (Kd.fresh' (Kd.R_lt (K1_ HO_171001)) k_ hn_)), Or.elim hk_.1 (fun hs_ => fun e_ => Nat.not_le.2 hs_ (Kd.R_base HO180.out k_ e_.symm)) (fun hn_ => (Kd.fresh' (Kd.R_lt (K1_ HO180)) k_ hn_)), Or.elim hk_.1 (fun hs_ => fun e_ => Nat.not_le.2 hs_ (by rw [e_]; exact GW150.out)) (fun hn_ => (Kd.freshB (g := gb150) (o := .cells #[.slice A0_0 l0_0.length c0_0, .slice A0_1 l0_1.length c0_1] 25 (0, 0)) (B1_ BK150.out) k_ hn_)), Or.elim hk_.1 (fun hs_ => fun e_ => Nat.not_le.2 hs_ (by rw [e_]; exact GW151.out)) (fun hn_ => (Kd.freshB (g := gb151) (o := .cells #[.slice A1_0 l1_0.length c1_0, .slice A1_1 l1_1.length c1_1] 25 (0, 0)) (B1_ BK151.out) k_ hn_)), Or.elim hk_.1 (fun hs_ => fun e_ => Nat.not_le.2 hs_ (by rw [e_]; exact GW162.out)) (fun hn_ => (Kd.freshB (g := gb162) (o := .cells #[.slice Ao28 t155.length co28, .slice Ao32 t158.length co32] 25 (0, 0)) (B1_ BK162.out) k_ hn_)), Or.elim hk_.1 (fun hs_ => fun e_ => Nat.not_le.2 hs_ (by rw [e_]; exact GW170.out)) (fun hn_ => (Kd.freshB (g := gb170) (o := .cells #[.slice Ao37 t163.length co37, .slice Ao42 t166.length co42] 25 (0, 0)) (B1_ BK170.out) k_ hn_))⟩)) (below_size T9_));replace HO_163000 := RC_ HO_163000 hb;replace HO_171000 := RC_ HO_171000 hb;have HO187 := A_ (Kd.R_lower (Kd.R_new' (Kd.R_new' (Kd.R_new' (Kd.R_mono (ok' := fun k_ => True) ho1 (fun _ hk_ => trivial)) (Kd.R_lt (K1_ HO_163001))) (Kd.R_lt (K1_ HO_171001))) (Kd.R_lt (K1_ HO180))) (below_size T9_));replace HO_163001 := A_ (Kd.R_elder' (K1_ HO_163001) (Kd.R_base ho1) hb);replace HO_171001 := A_ (Kd.R_elder' (K1_ HO_171001) (Kd.R_base ho1) hb);replace HO180 := A_ (Kd.R_elder' (K1_ HO180) (Kd.R_base ho1) hb);replace BK150 := BF_ BK150 hb;replace BK151 := BF_ BK151 hb;replace BK162 := BF_ BK162 hb;replace BK170 := BF_ BK170 hb;replace HB := BU_ hb
             (try clear hb)
             (try clear hb2)
             (try clear hk)
             (try clear hi)
             (try clear ho0)
             (try clear ho1)
             obtain ⟨Ao96, co96, eo96⟩ := Kd.V_slice HO184.out
             (first | subst eo96 | (injection eo96 with f1_ f2_ f3_; have f4_ := f1_.symm; have f5_ := f3_.symm; clear f1_ f2_ f3_; subst f4_; subst f5_))
             obtain ⟨Ao97, co97, eo97⟩ := Kd.R_slice HO187.out
             (first | subst eo97 | (injection eo97 with f1_ f2_ f3_; have f4_ := f1_.symm; have f5_ := f3_.symm; clear f1_ f2_ f3_; subst f4_; subst f5_))
             refine hK.out _ _ ⟨(blk_cell BK162.out 0).trans rfl, (blk_cell BK162.out 1).trans rfl, (blk_cell BK150.out 0).trans rfl, (blk_cell BK150.out 1).trans rfl, (blk_cell BK151.out 0).trans rfl, (blk_cell BK151.out 1).trans rfl, (blk_cell BK170.out 0).trans rfl, (blk_cell BK170.out 1).trans rfl⟩ (fun hHeld => ?_);clear hK K;refine norm_ (a' := ?_) ?_ ?_;rotate_left
             ·
              show Act.put _ (some 77) _ = _
              simp only [Act.put, List.setIfInBounds_toArray, List.set_cons_zero, List.set_cons_succ, i64_w, i32_w];rfl
             refine one_ (i := 10) (N := some 78) #[true, true, true, true, true, true, true, true, true, true, true, false, false, false, false, false, false, false, false, false, false, false, false, false, false, false] rfl rfl (one_of HT_.out (by kernel_rfl)) (by decide) (fun K hK => ?_);refine goes_ Tryz.func19 (by kernel_rfl) rfl #[.agg #[.slice Ao37 t163.length co37, .slice Ao42 t166.length co42], .agg #[.slice Ao96 t182.length co96, .slice Ao97 t185.length co97]] (by rfl) rfl rfl T2_ ?_
             with_reducible refine (rf5_Equal.calls _ _ t163 _ _ t166 _ _ t182 _ _ t185 true _ ?side1 ?side2 ?side3 ?side4 ?side5 ?side6 ?side7 ?side8 A85.out).mono ?_
             (case side1 => exact C2_ HO_171000)
             (case side2 => exact (Kd.R_reads' HO_171000.out).2.1)
             (case side3 => exact C2_ HO_171001)
             (case side4 => exact (Kd.R_reads' HO_171001.out).2.1)
             (case side5 => repeat (first | exact (Kd.V_reads' HO184.out).2.2 | (with_reducible refine Kd.C_alloc ?_ _) | (with_reducible refine Kd.C_drewN ?_ _) | (with_reducible refine Kd.C_drew ?_)))
             (case side6 => exact (Kd.V_reads' HO184.out).2.1)
             (case side7 => exact C2_ HO187)
             (case side8 => exact (Kd.R_reads' HO187.out).2.1)
             rintro e w98 ⟨rfl, hb⟩;refine ⟨_, rfl, ?_⟩;replace HO_163000 := RC_ HO_163000 hb;replace HO_163001 := RC_ HO_163001 hb;replace HO_171000 := RC_ HO_171000 hb;replace HO_171001 := RC_ HO_171001 hb;replace HO177 := A_ (Kd.V_below (by (with_reducible repeat (first | apply Kd.V_alloc | apply Kd.V_drewN | apply Kd.V_drew)); exact HO177.out) hb);replace HO180 := RC_ HO180 hb;replace HO184 := A_ (Kd.V_below (by (with_reducible repeat (first | apply Kd.V_alloc | apply Kd.V_drewN | apply Kd.V_drew)); exact HO184.out) hb);replace HO187 := RC_ HO187 hb;replace BK150 := BF_ BK150 hb;replace BK151 := BF_ BK151 hb;replace BK162 := BF_ BK162 hb;replace BK170 := BF_ BK170 hb;replace HB := BU_ hb
             (try clear hb)
             (try clear hb2)
             (try clear hk)
             (try clear hi)
             refine hK.out _ _ ⟨(blk_cell BK162.out 0).trans rfl, (blk_cell BK162.out 1).trans rfl, (blk_cell BK150.out 0).trans rfl, (blk_cell BK150.out 1).trans rfl, (blk_cell BK151.out 0).trans rfl, (blk_cell BK151.out 1).trans rfl, (blk_cell BK170.out 0).trans rfl, (blk_cell BK170.out 1).trans rfl⟩ (fun hHeld => ?_);clear hK K;refine norm_ (a' := ?_) ?_ ?_;rotate_left
             ·
              show Act.put _ (some 78) _ = _
              simp only [Act.put, List.setIfInBounds_toArray, List.set_cons_zero, List.set_cons_succ, i64_w, i32_w];rfl
             refine PU_ 11 79 ?_;refine PU_ 12 80 ?_;refine PU_ 13 81 ?_;refine PU_ 14 82 ?_;refine PU_ 15 83 ?_;refine PU_ 16 84 ?_;refine PU_ 17 85 ?_;refine PU_ 18 86 ?_;refine PU_ 19 87 ?_;refine PU_ 20 88 ?_;refine PU_ 21 89 ?_;refine PU_ 22 90 ?_
             refine one_ (i := 23) (N := some 91) #[true, true, true, true, true, true, true, true, true, true, true, true, true, true, true, true, true, true, true, true, true, true, true, true, false, false] rfl rfl (one_of HT_.out (by kernel_rfl)) (by decide) (fun K hK => ?_);refine goes_ Tryz.func12 (by kernel_rfl) rfl #[] (by rfl) rfl rfl T2_ ?_
             with_reducible refine (lw7_awake.calls  t189 _ (Err.Gs.below HGs.out T9_) A89.out).mono ?_
             rintro e w99 ⟨rfl, hb⟩;refine ⟨_, rfl, ?_⟩;replace HO_163000 := RC_ HO_163000 hb;replace HO_163001 := RC_ HO_163001 hb;replace HO_171000 := RC_ HO_171000 hb;replace HO_171001 := RC_ HO_171001 hb;replace HO177 := A_ (Kd.V_below (by (with_reducible repeat (first | apply Kd.V_alloc | apply Kd.V_drewN | apply Kd.V_drew)); exact HO177.out) hb);replace HO180 := RC_ HO180 hb;replace HO184 := A_ (Kd.V_below (by (with_reducible repeat (first | apply Kd.V_alloc | apply Kd.V_drewN | apply Kd.V_drew)); exact HO184.out) hb);replace HO187 := RC_ HO187 hb;replace BK150 := BF_ BK150 hb;replace BK151 := BF_ BK151 hb;replace BK162 := BF_ BK162 hb;replace BK170 := BF_ BK170 hb;replace HB := BU_ hb
             (try clear hb)
             (try clear hb2)
             (try clear hk)
             (try clear hi)
             refine hK.out _ _ ⟨(blk_cell BK162.out 0).trans rfl, (blk_cell BK162.out 1).trans rfl, (blk_cell BK150.out 0).trans rfl, (blk_cell BK150.out 1).trans rfl, (blk_cell BK151.out 0).trans rfl, (blk_cell BK151.out 1).trans rfl, (blk_cell BK170.out 0).trans rfl, (blk_cell BK170.out 1).trans rfl⟩ (fun hHeld => ?_);clear hK K;refine norm_ (a' := ?_) ?_ ?_;rotate_left
             ·
              show Act.put _ (some 91) _ = _
              simp only [Act.put, List.setIfInBounds_toArray, List.set_cons_zero, List.set_cons_succ, i64_w, i32_w];rfl
             refine PU_ 24 92 ?_;refine PU_ 25 4 ?_
             refine done_ (done_of HT_.out (by kernel_rfl)) ?_
             try go_wp2
             go_ret
             exact ⟨T4_, T9_⟩
            ·
             rw [if_neg c88] at H;have c88b0 : (t169 == x9_59) = false := beq_eq_false_iff_ne.mpr c88;have c88b1 : (t169 != x9_59) = true := bne_iff_ne.mpr c88;exact absurd ((Option.some.inj H).trans HRT.out) (by decide)
           ·
            rw [if_neg c87] at H;have c87b0 : (t161 == x9_59) = false := beq_eq_false_iff_ne.mpr c87;have c87b1 : (t161 != x9_59) = true := bne_iff_ne.mpr c87;exact absurd ((Option.some.inj H).trans HRT.out) (by decide)
          ·
           replace c86 := Bool.eq_false_iff.mpr c86;subst c86;rw [if_neg (show ¬ (false = true) by decide)] at H;exact absurd ((Option.some.inj H).trans HRT.out) (by decide)
         ·
          replace c83 := Bool.eq_false_iff.mpr c83;subst c83;rw [if_neg (show ¬ (false = true) by decide)] at H;exact absurd ((Option.some.inj H).trans HRT.out) (by decide)
        ·
         rw [if_neg c80] at H;have c80b0 : (x9_59 == 0) = false := beq_eq_false_iff_ne.mpr c80;have c80b1 : (x9_59 != 0) = true := bne_iff_ne.mpr c80
         by_cases c100 : (wrap64 ((t158.length : Int) + (t166.length : Int))) = 0
         ·
          rw [if_pos c100] at H;have c100b0 : ((wrap64 ((t158.length : Int) + (t166.length : Int))) == 0) = true := beq_iff_eq.mpr c100;have c100b1 : ((wrap64 ((t158.length : Int) + (t166.length : Int))) != 0) = false := bne_eq_false_iff_eq.mpr c100;clear c100
          by_cases c101 : t161 = x9_59
          ·
           rw [if_pos c101] at H;have c101b0 : (t161 == x9_59) = true := beq_iff_eq.mpr c101;have c101b1 : (t161 != x9_59) = false := bne_eq_false_iff_eq.mpr c101;clear c101
           by_cases c102 : t169 = x9_59
           ·
            rw [if_pos c102] at H;have c102b0 : (t169 == x9_59) = true := beq_iff_eq.mpr c102;have c102b1 : (t169 != x9_59) = false := bne_eq_false_iff_eq.mpr c102;clear c102;replace H := BE_ H;obtain ⟨t174, A1030, H⟩ := H;have A103 := A_ A1030;clear A1030;obtain rfl := Option.some.inj H;have hnb104 := NB162_150.out;have hnc104 := NB150_162.out;have hnb105 := NB162_151.out;have hnc105 := NB151_162.out;have hnb106 := NB162_170.out;have hnc106 := NB170_162.out;obtain ⟨hcz107_0, hcz107_1, hfz107_0, hfz107_1⟩ := CF_ BK162;have hnb108 := NB170_150.out;have hnc108 := NB150_170.out;have hnb109 := NB170_151.out;have hnc109 := NB151_170.out;have hcz110_0 : wc.cell? ⟨gb170, 0, none⟩ = some (.slice Ao37 t163.length co37) := (blk_cell BK170.out 0).trans rfl;have hcz110_1 : wc.cell? ⟨gb170, 1, none⟩ = some (.slice Ao42 t166.length co42) := (blk_cell BK170.out 1).trans rfl;have hfz110_0 := blk_frozen BK170.out 0;have hfz110_1 := blk_frozen BK170.out 1
            go_wp2_with (first | (go_at_call 12; (with_reducible refine (lw7_awake.calls  t174 _ (Err.Gs.below HGs.out T9_) A103.out).mono ?_); rintro e w111 ⟨rfl, hb⟩; replace HO_163000 := RC_ HO_163000 hb; replace HO_163001 := RC_ HO_163001 hb; replace HO_171000 := RC_ HO_171000 hb; replace HO_171001 := RC_ HO_171001 hb; replace BK150 := BF_ BK150 hb; replace BK151 := BF_ BK151 hb; replace BK162 := BF_ BK162 hb; replace BK170 := BF_ BK170 hb; replace HB := BU_ hb; clear hb))
            go_ret
            exact ⟨T4_, T9_⟩
           ·
            rw [if_neg c102] at H;have c102b0 : (t169 == x9_59) = false := beq_eq_false_iff_ne.mpr c102;have c102b1 : (t169 != x9_59) = true := bne_iff_ne.mpr c102;exact absurd ((Option.some.inj H).trans HRT.out) (by decide)
          ·
           rw [if_neg c101] at H;have c101b0 : (t161 == x9_59) = false := beq_eq_false_iff_ne.mpr c101;have c101b1 : (t161 != x9_59) = true := bne_iff_ne.mpr c101;exact absurd ((Option.some.inj H).trans HRT.out) (by decide)
         ·
          rw [if_neg c100] at H;have c100b0 : ((wrap64 ((t158.length : Int) + (t166.length : Int))) == 0) = false := beq_eq_false_iff_ne.mpr c100;have c100b1 : ((wrap64 ((t158.length : Int) + (t166.length : Int))) != 0) = true := bne_iff_ne.mpr c100;exact absurd ((Option.some.inj H).trans HRT.out) (by decide)
end Go.Proofs.YtndkjpkgllmbnaaGreatDoor.PQT
