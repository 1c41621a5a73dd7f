/- One more of the printer's words. -/
import Derived.Test.YtmmonhgfnmeieaaGreatDoorWd
namespace Go.Proofs.YtmmonhgfnmeieaaGreatDoorW.PrintWords.Kd
open Go.RowKit
theorem own_blk {n c : Nat} {ad : Addr} {g : Nat} (hne : some g ≠ (Value.slice (some ad) n c).ownBlock) : ad.block ≠ g := by
  rintro rfl
  exact hne (by simp [Value.ownBlock])
end Go.Proofs.YtmmonhgfnmeieaaGreatDoorW.PrintWords.Kd
