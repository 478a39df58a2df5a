/- Catalogs. -/
import Derived.Test.YtnkjliahpeebjaaGreatDoorRuC
import Derived.Test.YtnkjliahpeebjaaGreatDoorSaL
set_option maxRecDepth 8000
set_option maxHeartbeats 8000000
namespace Go.Proofs.YtnkjliahpeebjaaGreatDoor
open Go.RowKit
section
attribute [local go_sem ↓] aZ bf bq fe kF
attribute [local go_sem] bn aS aH aK aT fx ak aI aw az aM ah fp bW aQ aL aP aO aR aY aW ap aq bN cK cC
end
section
attribute [local go_sem ↓] aZ bf bq
attribute [local go_sem] bn aS aH aK aT ak aI aw az aM ah aQ aL aP aO aR aY aW ap aq
end
end Go.Proofs.YtnkjliahpeebjaaGreatDoor
