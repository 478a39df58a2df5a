/- Catalogs. -/
import Derived.Test.YtefcmdmfgdcpmaaGreatDoorRuC
import Derived.Test.YtefcmdmfgdcpmaaGreatDoorSaL
set_option maxRecDepth 8000
set_option maxHeartbeats 8000000
namespace Go.Proofs.YtefcmdmfgdcpmaaGreatDoor
open Go.RowKit
section
attribute [local go_sem ↓] zaV zaW zaz zew zkZ
attribute [local go_sem] zav zap zal zae zaq zbG zai zaw zao zas zan zaa zbU zb1 zaj zaf zaA zax zak zag zar zaC zaE zbg zbs zbl
end
section
attribute [local go_sem ↓] zaV zaW zaz
attribute [local go_sem] zav zap zal zae zaq zai zaw zao zas zan zaa zaj zaf zaA zax zak zag zar zaC zaE
end
end Go.Proofs.YtefcmdmfgdcpmaaGreatDoor
