/- Contracts of the reference's Day. -/
import Derived.Test.YtihbihkmchacnaaGreatDoorCalB
namespace Go.Proofs.YtihbihkmchacnaaGreatDoor
open Go.RowKit
set_option maxHeartbeats 400000

end Go.Proofs.YtihbihkmchacnaaGreatDoor
