/- Contracts of the reference's Day. -/
import Derived.Test.YtfmjeppajpiekaaGreatDoorCalB
namespace Go.Proofs.YtfmjeppajpiekaaGreatDoor
open Go.RowKit
set_option maxHeartbeats 400000

end Go.Proofs.YtfmjeppajpiekaaGreatDoor
