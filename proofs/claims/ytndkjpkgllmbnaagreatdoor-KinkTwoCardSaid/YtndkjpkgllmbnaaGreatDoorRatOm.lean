/- rat.Mul, told by rationals. -/
import Derived.Test.YtndkjpkgllmbnaaGreatDoorRatU2
-- mini
namespace Go.Proofs.YtndkjpkgllmbnaaGreatDoor.Err
open Go Go.RowKit Go.Extern.Stop Go.Stop Go.Extern Go.ZPWords Go.ZPMore Go.ZPLast Go.Proofs.YtndkjpkgllmbnaaGreatDoor.PC Go.Proofs.YtndkjpkgllmbnaaGreatDoor.Th Go.Proofs.YtndkjpkgllmbnaaGreatDoor.Th.Wh
set_option maxHeartbeats 4000000
set_option maxRecDepth 1000000
end Go.Proofs.YtndkjpkgllmbnaaGreatDoor.Err
