/- strings.Cut at a slash. -/
import Derived.Test.YtfjlmiehbikmnaaGreatDoorRatE
import Derived.Test.YtfjlmiehbikmnaaGreatDoorWd
import Derived.Lib.Bytealg
namespace Go.Proofs.YtfjlmiehbikmnaaGreatDoor.Err
open Go Go.RowKit Go.Extern.Stop Go.Stop Go.Extern Go.Proofs.YtfjlmiehbikmnaaGreatDoorW.PrintWords
set_option maxHeartbeats 2000000
set_option maxRecDepth 1000000
theorem index_slash (s sub : ByteArray) (w : World) (hsz : sub.size = 1) (hbt : ∀ h : 0 < sub.size, (sub[0]'h).toNat = 47) (b : Bool) (hb : (sub.toList == s.toList) = b) (h0 : b = true → Lib.indexByte s.data.toList 47 = 0) :
    Calls Tryz.prog 101 #[.string s, .string sub] w fun e w' => e = .returned (.int .i64 (Lib.indexByte s.data.toList 47)) ∧ w' = w := by
  have hx : ∀ w, (callFunc 110 #[.string s, .int .u8 47]).run Tryz.prog w = .ok (.value (.int .i64 (Lib.indexByte s.data.toList 47))) w := fun w => by
    rw [run_callFunc_extern Tryz.func110 (by kernel_rfl) (by kernel_rfl) (by kernel_rfl) (e := Extern.BytealgIndexByte.indexByte) (by kernel_rfl), Lib.run_indexByteString]
    rfl
  cases b with
  | true =>
    rw [h0 rfl] at hx ⊢
    clear h0
    go_enter Tryz.func101, Tryz.ntmps101
    go_wp2
    go_ret
    exact ⟨rfl, rfl⟩
  | false =>
    clear h0
    go_enter Tryz.func101, Tryz.ntmps101
    go_wp2
    go_ret
    exact ⟨rfl, rfl⟩
theorem cut0_miss (s sub : ByteArray) (w : World) (hsz : sub.size = 1) (hbt : ∀ h : 0 < sub.size, (sub[0]'h).toNat = 47) (b : Bool) (hb : (sub.toList == s.toList) = b) (h0 : b = true → Lib.indexByte s.data.toList 47 = 0) (hi : Lib.indexByte s.data.toList 47 = -1) :
    Calls Tryz.prog 79 #[.string s, .string sub] w fun e w' => e = .returned (.tuple #[.string s, .string ⟨#[]⟩, .bool false]) ∧ w' = w := by
  have HI := Aside0.mk (fun w => index_slash s sub w hsz hbt b hb h0)
  clear hb h0 hbt hsz
  rw [hi] at HI
  clear hi
  go_enter Tryz.func79, Tryz.ntmps79
  go_wp2_with (go_at_call 101; with_reducible refine (HI.out _).mono ?_; rintro e w' ⟨rfl, rfl⟩)
  go_ret3
  exact ⟨rfl, rfl⟩
theorem cut0_hit (s sub : ByteArray) (w : World) (hsz : sub.size = 1) (hbt : ∀ h : 0 < sub.size, (sub[0]'h).toNat = 47) (b : Bool) (hb : (sub.toList == s.toList) = b) (h0 : b = true → Lib.indexByte s.data.toList 47 = 0) (i : Nat) (hi : Lib.indexByte s.data.toList 47 = (i : Int)) (hlt : i < s.size) (hmax : s.size ≤ 1000000000000) :
    Calls Tryz.prog 79 #[.string s, .string sub] w fun e w' => e = .returned (.tuple #[.string (s.extract 0 i), .string (s.extract (i + 1) s.size), .bool true]) ∧ Drawn0 w w' := by
  have HI := Aside0.mk (fun w => index_slash s sub w hsz hbt b hb h0)
  clear hb h0 hbt
  rw [hi] at HI
  clear hi
  have c0 : (i : Int) ≥ 0 := by omega
  have c1 : (0 : Int) ≤ (i : Int) := by omega
  have c2 : (i : Int) ≤ (s.size : Int) := by omega
  have c3 : (0 : Int) ≤ (i : Int) + 1 := by omega
  have c4 : (i : Int) + 1 ≤ (s.size : Int) := by omega
  go_enter Tryz.func79, Tryz.ntmps79
  go_wp2_with (go_at_call 101; with_reducible refine (HI.out _).mono ?_; rintro e w' ⟨rfl, rfl⟩)
  go_region
  try go_wp2
  go_ret3
  exact ⟨rfl, ⟨⟨1, rfl⟩⟩⟩
/-- What strings.Cut at a slash gives. -/
theorem slash_pre (s : ByteArray) : ∃ b, (((⟨#[47]⟩ : ByteArray).toList == s.toList) = b) ∧ (b = true → Lib.indexByte s.data.toList 47 = 0) := by
  refine ⟨_, rfl, fun h => ?_⟩
  rw [beq_iff_eq, ByteArray.toList_eq, ByteArray.toList_eq] at h
  rw [← h]
  rfl
theorem cut_miss' (s : ByteArray) (w : World) (hi : Lib.indexByte s.data.toList 47 = -1) :
    Calls Tryz.prog 65 #[.string s, .string ⟨#[47]⟩] w fun e w' => e = .returned (.tuple #[.string s, .string ⟨#[]⟩, .bool false]) ∧ w' = w := by
  obtain ⟨b, hb, h0⟩ := slash_pre s
  have HI := Aside0.mk (fun w => cut0_miss s ⟨#[47]⟩ w rfl (fun _ => rfl) b hb h0 hi)
  clear hb h0 hi
  generalize (⟨#[47]⟩ : ByteArray) = sub at HI ⊢
  go_enter Tryz.func65, Tryz.ntmps65
  go_wp2_with (go_at_call 79; with_reducible refine (HI.out _).mono ?_; rintro e w' ⟨rfl, rfl⟩)
  go_ret3
  exact ⟨rfl, rfl⟩
theorem cut_hit' (s : ByteArray) (w : World) (i : Nat) (hi : Lib.indexByte s.data.toList 47 = (i : Int)) (hlt : i < s.size) (hmax : s.size ≤ 1000000000000) :
    Calls Tryz.prog 65 #[.string s, .string ⟨#[47]⟩] w fun e w' => e = .returned (.tuple #[.string (s.extract 0 i), .string (s.extract (i + 1) s.size), .bool true]) ∧ Drawn0 w w' := by
  obtain ⟨b, hb, h0⟩ := slash_pre s
  have HI := Aside0.mk (fun w => cut0_hit s ⟨#[47]⟩ w rfl (fun _ => rfl) b hb h0 i hi hlt hmax)
  clear hb h0 hi
  generalize (⟨#[47]⟩ : ByteArray) = sub at HI ⊢
  go_enter Tryz.func65, Tryz.ntmps65
  go_wp2_with (go_at_call 79; with_reducible refine (HI.out _).mono ?_; rintro e w' ⟨rfl, ⟨⟨n, rfl⟩⟩⟩)
  go_ret3
  exact ⟨rfl, ⟨⟨n, rfl⟩⟩⟩
end Go.Proofs.YtfjlmiehbikmnaaGreatDoor.Err
