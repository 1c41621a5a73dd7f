/- rat.Compare, told by rationals. -/
import Derived.Test.YtndkjpkgllmbnaaGreatDoorRatOs
import Derived.Test.YtndkjpkgllmbnaaGreatDoorRatMs
-- mini
namespace Go.Proofs.YtndkjpkgllmbnaaGreatDoor.Err
open Go Go.RowKit Go.Extern.Stop Go.Stop Go.Extern Go.ZPWords Go.ZPMore Go.ZPLast Go.Proofs.YtndkjpkgllmbnaaGreatDoor.PC Go.Proofs.YtndkjpkgllmbnaaGreatDoor.Th Go.Proofs.YtndkjpkgllmbnaaGreatDoor.Th.Wh
set_option maxHeartbeats 4000000
set_option maxRecDepth 1000000
theorem compare_no (a b : ByteArray) (s : ByteArray) (w : World) (h : ∀ w', w' = w → Calls Tryz.prog 38 #[.string a, .string b] w' fun e w'' => e = .returned (.tuple #[.string s, .int .i64 2]) ∧ Below w'.heap.size w' w'') :
    Calls Tryz.prog 54 #[.string a, .string b] w fun e w' => e = .returned (.tuple #[.int .i64 0, .int .i64 2]) ∧ Below w.heap.size w w' := by
  have KB := A_ (h w rfl);clear h;have HB := A_ (Below.refl w.heap.size w);go_enter Tryz.func54, Tryz.ntmps54
  go_wp2_with (first
      | (go_at_call 38; with_reducible refine (KB.out).mono ?_; rintro e w' ⟨rfl, hb⟩; replace HB := BT_ hb; clear hb))
  go_ret2
  exact ⟨rfl, HB.out⟩
theorem compare_ok (a b : ByteArray) (s : ByteArray) (r : Int) (w : World) (h : Calls Tryz.prog 38 #[.string a, .string b] w fun e w'' => e = .returned (.tuple #[.string s, .int .i64 0]) ∧ Below w.heap.size w w'')
    (h2 : ∀ w', Below w.heap.size w w' → Calls Tryz.prog 77 #[.string s] w' fun e w'' => e = .returned (.tuple #[.int .i64 r, .int .i64 0]) ∧ Below w'.heap.size w' w'') :
    Calls Tryz.prog 54 #[.string a, .string b] w fun e w' => e = .returned (.tuple #[.int .i64 r, .int .i64 0]) ∧ Below w.heap.size w w' := by
  have KB := A_ h;have KS := A_ h2;clear h h2;have HB := A_ (Below.refl w.heap.size w);go_enter Tryz.func54, Tryz.ntmps54
  go_wp2_with (first
      | (go_at_call 38; with_reducible refine (KB.out).mono ?_; rintro e w' ⟨rfl, hb⟩; replace HB := BT_ hb; clear hb)
      | (go_at_call 77; with_reducible refine (KS.out _ T6_).mono ?_; rintro e w' ⟨rfl, hb⟩; replace HB := BT_ hb; clear hb))
  go_ret2
  exact ⟨rfl, HB.out⟩
noncomputable def rCompare (a b : ByteArray) : Int × Int := match rv a, rv b with | some x, some y => (sgn (x - y).num, 0) | _, _ => (0, 2)
theorem compare_calls (a b : ByteArray) (ha : a.size ≤ 40000000000) (hb : b.size ≤ 40000000000) (w : World) (hG : Gs w) :
    Calls Tryz.prog 54 #[.string a, .string b] w fun e w' => e = .returned (.tuple #[.int .i64 (rCompare a b).1, .int .i64 (rCompare a b).2]) ∧ Below w.heap.size w w' := by
  have hs := sub_calls a b ha hb w hG;obtain ⟨aF, aZ, hG⟩ := hG
  rcases rv_cases a with h | ⟨x, hx, h⟩
  · rw [rSub, h] at hs
    rw [rCompare, h];exact compare_no a b _ w (fun _ e => e ▸ hs)
  rcases rv_cases b with h' | ⟨y, hy, h'⟩
  · rw [rSub, h, h'] at hs
    rw [rCompare, h, h'];exact compare_no a b _ w (fun _ e => e ▸ hs)
  · rw [rSub, h, h'] at hs
    rw [rCompare, h, h'];subst hx hy;have hx := Nat.le_trans (qm_le x) ha;have hy := Nat.le_trans (qm_le y) hb;have := qm_sub x y;exact compare_ok _ _ _ _ w hs (fun w' hb => sign_rt (x - y) (by omega) w' (hG.below hb))
end Go.Proofs.YtndkjpkgllmbnaaGreatDoor.Err
