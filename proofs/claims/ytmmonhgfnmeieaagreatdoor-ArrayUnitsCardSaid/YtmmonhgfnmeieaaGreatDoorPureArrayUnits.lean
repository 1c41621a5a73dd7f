/- ArrayUnits: the plain law. -/
import Derived.Test.YtmmonhgfnmeieaaGreatDoorPQUx
-- mini
namespace Go.Proofs.YtmmonhgfnmeieaaGreatDoor.Pure
open Go Go.RowKit Go.ZPWords Go.Proofs.YtmmonhgfnmeieaaGreatDoor.PQU Go.Proofs.YtmmonhgfnmeieaaGreatDoor.Err Go.Proofs.YtmmonhgfnmeieaaGreatDoor.Th Go.Proofs.YtmmonhgfnmeieaaGreatDoor.Ten
set_option linter.unusedVariables false
theorem awake : lw6_awake.f = some true := rfl
theorem eqT {s : List Int} {d e : List ByteArray} {l m : List Rat} {N M : Nat} (h : Ok s l N) (h' : Ok s m M) (hd : d = tx l) (he : e = tx m) (hl : l = m) : rf5_Equal.f s d s e = some true := by
  subst hd he hl;have h1 := h.le64;rw [rf5_Equal.of _ _ _ _ ⟨by omega, by rw [tx_len]; omega⟩, decide_eq_true ⟨rfl, rfl⟩]
def un (i k : Nat) : Rat := if i = k then 1 else 0
theorem sm_un (f : Nat → Rat) (k : Nat) : ∀ n, sm (fun j => f j * un j k) n = if k < n then f k else 0
  | 0 => rfl
  | n + 1 => by
    rw [sm, sm_un f k n];unfold un
    by_cases h : n = k
    · subst h
      rw [if_neg (by omega), if_pos rfl, if_pos (by omega)]
      grind
    · rw [if_neg h]
      by_cases h2 : k < n
      · rw [if_pos h2, if_pos (by omega)]; grind
      · rw [if_neg h2, if_neg (by omega)]; grind
theorem mm_un {r n : Nat} {A : List Rat} (hA : A.length = r * n) : mm r n n A (grid n n un) = A := by
 rw [mm, ← grid_eq hA];conv => rhs; rw [grid_eq hA, ← grid_eq hA]
 refine grid_congr fun i k hi hk => ?_;rw [sm_congr (g := fun j => at_ (grid r n fun i k => A.getD (i * n + k) 0) n i j * un j k) (fun j hj => by rw [show at_ (grid n n un) n j k = un j k from grid_get n un k hk n j hj]), sm_un, if_pos hk];exact grid_get n _ k hk r i hi
theorem tr_un (n : Nat) : tr n n (grid n n un) = grid n n un := by
 rw [tr];refine grid_congr fun i k hi hk => ?_;rw [show at_ (grid n n un) n k i = un k i from grid_get n un i hi n k hk];unfold un;by_cases h : i = k
 · rw [if_pos h, if_pos h.symm]
 rw [if_neg h, if_neg (fun e => h e.symm)]
theorem ok_un {n : Nat} (h1 : 1 ≤ n) (h8 : n ≤ 8) : Ok [(n : Int), (n : Int)] (grid n n un) 40 := by
 refine ⟨?_, by rw [grid_len, sz2], fun x hx => ?_⟩
 · have h : n = 1 ∨ n = 2 ∨ n = 3 ∨ n = 4 ∨ n = 5 ∨ n = 6 ∨ n = 7 ∨ n = 8 := by omega
   rcases h with rfl | rfl | rfl | rfl | rfl | rfl | rfl | rfl <;> decide +kernel
 obtain ⟨i, k, _, _, rfl⟩ := mem_grid hx;unfold un;split <;> decide +kernel
theorem lit (i k : Nat) (hk : k ≤ 64) (hi : i ≤ 64) {α : Type} (F : List ByteArray → Option α) (ud : List ByteArray) (hu : ud.length < 8796093022208) :
    ((some (([(⟨#[48]⟩ : ByteArray), (⟨#[49]⟩ : ByteArray)] : List ByteArray) : List ByteArray)).bind fun y => ((lw6_b2i.f ((i : Int) == (k : Int))).bind fun t => (if 0 ≤ t then (if t < (y.length : Int) then (if ud.length < 8796093022208 then F (ud ++ [rdOf ByteArray.empty y t]) else none) else none) else none))) = F (ud ++ [rt (un i k)]) := by
 rw [Option.bind_some];by_cases h : i = k
 · have e : ((i : Int) == (k : Int)) = true := by rw [beq_iff_eq, h]
   have e2 : lw6_b2i.f true = some 1 := rfl;have e3 : rdOf ByteArray.empty [(⟨#[48]⟩ : ByteArray), (⟨#[49]⟩ : ByteArray)] 1 = rt (un i k) := by rw [un, if_pos h, rt_1]; rfl
   rw [e, e2, Option.bind_some, if_pos (by decide), if_pos (by decide), if_pos hu, e3]
 have e : ((i : Int) == (k : Int)) = false := by rw [beq_eq_false_iff_ne]; omega
 have e2 : lw6_b2i.f false = some 0 := rfl;have e3 : rdOf ByteArray.empty [(⟨#[48]⟩ : ByteArray), (⟨#[49]⟩ : ByteArray)] 0 = rt (un i k) := by rw [un, if_neg h, rt_0]; rfl
 rw [e, e2, Option.bind_some, if_pos (by decide), if_pos (by decide), if_pos hu, e3]
theorem row_ev (n i : Nat) (hn : n ≤ 8) (hi : i < n) (s : List Int) (d : List ByteArray) (us : List Int) (v : Bool)
    (h0 : Ev (fun K => lw6_ArrayUnits.l0 K (n : Int) (n : Int) ((i + 1 : Nat) : Int) s d us (tx (grid (i + 1) n un))) v) :
    ∀ g k : Nat, k + g = n → Ev (fun K => lw6_ArrayUnits.l1 K (n : Int) (i : Int) (n : Int) (i : Int) (n : Int) (k : Int) s d us (tx (grid i n un ++ (List.range k).map (un i)))) v
  | 0, k, hk => by
    obtain rfl : k = n := by omega
    rw [← grid_succ];exact Ev.step (fun K => by rw [lw6_ArrayUnits.l1, if_neg (by omega), w1 (by omega)]) h0
  | g + 1, k, hk => by
    have ih := row_ev n i hn hi s d us v h0 g (k + 1) (by omega);have h1 := Nat.mul_le_mul (show i ≤ 8 by omega) (show n ≤ 8 by omega)
    have hu : (tx (grid i n un ++ (List.range k).map (un i))).length < 8796093022208 := by rw [tx_len, List.length_append, grid_len, List.length_map, List.length_range]; omega
    have e : tx (grid i n un ++ (List.range k).map (un i)) ++ [rt (un i k)] = tx (grid i n un ++ (List.range (k + 1)).map (un i)) := by rw [List.range_succ, List.map_append, ← List.append_assoc, tx_app _ (List.map (un i) [k])]; rfl
    refine Ev.step (fun K => ?_) ih;rw [lw6_ArrayUnits.l1, if_pos (by omega), lit i k (by omega) (by omega) (fun u => lw6_ArrayUnits.l1 K (n : Int) (i : Int) (n : Int) (i : Int) (n : Int) (wrap64 ((k : Int) + 1)) s d us u) _ hu, e, w1 (by omega)]
theorem all_ev (n : Nat) (hn : n ≤ 8) (s : List Int) (d : List ByteArray) (us : List Int) (v : Bool) (h0 : Ev (fun K => lw6_ArrayUnits.l0 K (n : Int) (n : Int) (n : Int) s d us (tx (grid n n un))) v) :
    ∀ g i : Nat, i + g = n → Ev (fun K => lw6_ArrayUnits.l0 K (n : Int) (n : Int) (i : Int) s d us (tx (grid i n un))) v
  | 0, i, hi => by
    obtain rfl : i = n := by omega
    exact h0
  | g + 1, i, hi => by
    have ih := all_ev n hn s d us v h0 g (i + 1) (by omega);have h1 := row_ev n i hn (by omega) s d us v ih n 0 (by omega);rw [List.range_zero, List.map_nil, List.append_nil] at h1;exact Ev.step (fun K => by rw [lw6_ArrayUnits.l0, if_pos (by omega)]; rfl) h1
theorem ArrayUnits (s : List Int) (d : List ByteArray) : ∃ k, lw6_ArrayUnits.f k s d = some true := by
 have hz : lw6_ArrayUnits.j0 (0 + 1) true s d = some true := by rw [lw6_ArrayUnits.j0, if_pos rfl, awake]; rfl
 by_cases h1 : small ⟨s, d⟩ = true
 case neg => exact ⟨0 + 1, by rw [lw6_ArrayUnits.f, rf5_Small.f, Option.bind_some, if_neg h1]; exact hz⟩
 have m1 := (small_parts h1).1;rcases cases_t h1 with r1 | ⟨A, rfl, oA⟩
 · exact ⟨0 + 1, by rw [lw6_ArrayUnits.f, rf5_Small.f, Option.bind_some, if_pos h1, rf5_Right.of _ _ m1, Option.bind_some, r1, if_neg (by decide)]; exact hz⟩
 by_cases h2 : (s.length : Int) = 2
 case neg => exact ⟨0 + 1, by rw [lw6_ArrayUnits.f, rf5_Small.f, Option.bind_some, if_pos h1, rf5_Right.of _ _ m1, Option.bind_some, oA.right, if_pos rfl, if_neg h2]; exact hz⟩
 have st : ∀ k, lw6_ArrayUnits.f k s (tx A) = lw6_ArrayUnits.j0 k (decide ((rd s 1) > 8)) s (tx A) := fun k => by rw [lw6_ArrayUnits.f, rf5_Small.f, Option.bind_some, if_pos h1, rf5_Right.of _ _ m1, Option.bind_some, oA.right, if_pos rfl, if_pos h2, if_pos (by omega)]
 by_cases h3 : (rd s 1) > 8
 · exact ⟨0 + 1, by rw [st, decide_eq_true h3]; exact hz⟩
 obtain ⟨x, y, rfl⟩ := two_of (show s.length = 2 by omega);obtain ⟨r, n, rfl, rfl, hr, hn, r1, n1, la⟩ := two_ok oA;have e1 : rd [(r : Int), (n : Int)] 1 = (n : Int) := rfl;rw [e1] at h3 st;have hn8 : n ≤ 8 := by omega
 have oU := ok_un n1 hn8;have om := ok_mm oA oU (by decide) hn oA.sh
 have fin : Ev (fun K => lw6_ArrayUnits.l0 K (n : Int) (n : Int) (n : Int) [(r : Int), (n : Int)] (tx A) [(n : Int), (n : Int)] (tx (grid n n un))) true := by
  refine Ev.step (f := fun _ => some true) (fun K => ?_) (Ev.now _);rw [lw6_ArrayUnits.l0, if_neg (by omega), array_MatMul.of _ _ _ _ ⟨small_sm1 h1, oU.sm1 (by decide)⟩, Option.bind_some, array_Transpose.of _ _ (oU.sm (by decide)), Option.bind_some, tmat_ok oA oU oA.sh, ttr_ok oU];dsimp only;rw [eqT om oA rfl rfl (mm_un la), Option.bind_some, if_pos rfl, eqT (ok_tr oU (by decide)) oU rfl rfl (tr_un n), Option.bind_some, if_pos rfl, if_pos rfl, awake];rfl
 obtain ⟨K, hK⟩ := (all_ev n hn8 _ _ _ _ fin n 0 (by omega)).rounds;refine ⟨K + 1, ?_⟩;rw [st, decide_eq_false h3, lw6_ArrayUnits.j0, if_neg (by decide), if_pos (by show (1 : Int) < 2; decide), e1];exact hK
end Go.Proofs.YtmmonhgfnmeieaaGreatDoor.Pure
