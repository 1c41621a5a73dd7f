/- rat.Power, told by rationals. -/
import Derived.Test.YtlglpffoijdgbaaGreatDoorRatOm
import Derived.Test.YtlglpffoijdgbaaGreatDoorRatV
namespace Go.Proofs.YtlglpffoijdgbaaGreatDoor.Err
open Go Go.RowKit Go.Extern.Stop Go.Stop Go.Extern Go.ZPWords Go.ZPMore Go.ZPLast Go.Proofs.YtlglpffoijdgbaaGreatDoor.PC Go.Proofs.YtlglpffoijdgbaaGreatDoor.Th Go.Proofs.YtlglpffoijdgbaaGreatDoor.Th.Wh
set_option maxHeartbeats 4000000
set_option maxRecDepth 1000000
end Go.Proofs.YtlglpffoijdgbaaGreatDoor.Err
