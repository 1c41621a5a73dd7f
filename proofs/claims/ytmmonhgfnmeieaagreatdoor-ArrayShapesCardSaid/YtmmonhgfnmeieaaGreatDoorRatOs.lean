/- rat.Sub, told by rationals. -/
import Derived.Test.YtmmonhgfnmeieaaGreatDoorRatU2
-- mini
namespace Go.Proofs.YtmmonhgfnmeieaaGreatDoor.Err
open Go Go.RowKit Go.Extern.Stop Go.Stop Go.Extern Go.ZPWords Go.ZPMore Go.ZPLast Go.Proofs.YtmmonhgfnmeieaaGreatDoor.PC Go.Proofs.YtmmonhgfnmeieaaGreatDoor.Th Go.Proofs.YtmmonhgfnmeieaaGreatDoor.Th.Wh
set_option maxHeartbeats 4000000
set_option maxRecDepth 1000000
end Go.Proofs.YtmmonhgfnmeieaaGreatDoor.Err
