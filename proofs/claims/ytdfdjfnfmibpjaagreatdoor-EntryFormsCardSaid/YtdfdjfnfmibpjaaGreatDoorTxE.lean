/- Contract of package entry: Text at any valid entry. -/
import Derived.Test.YtdfdjfnfmibpjaaGreatDoorTxE0
import Derived.Test.YtdfdjfnfmibpjaaGreatDoorTxE1
import Derived.Test.YtdfdjfnfmibpjaaGreatDoorTxE4
namespace Go.Proofs.YtdfdjfnfmibpjaaGreatDoor
open Go.RowKit
theorem tx_any (x : Fu) (al gr : Value) (w : World) (hok : okX x = true) (hm : MaxL w) (hT : Tab w) (h1 : IS w al x.2.1) (h2 : GS w gr x.2.2) :
    Calls Tryz.prog 17 #[.agg (x.1.vals al gr)] w fun r w' => ∃ (g n cap : Nat), n = (txX x).length ∧ r = .returned (.slice (some ⟨g, 0, none⟩) n cap) ∧ Strs w' g (txX x) ∧ Below w.heap.size w w' := by
  have hk := okX_kind _ hok
  rcases (by omega : x.1.kind = 0 ∨ x.1.kind = 1 ∨ x.1.kind = 2 ∨ x.1.kind = 3 ∨ x.1.kind = 4) with h | h | h | h | h
  · exact tx_k0 x al gr w hok h hm hT h1 h2
  · exact tx_k1 x al gr w hok h hm hT h1 h2
  · exact tx_k2 x al gr w hok h hm hT h1 h2
  · exact tx_k3 x al gr w hok h hm hT h1 h2
  · exact tx_k4 x al gr w hok h hm hT h1 h2
end Go.Proofs.YtdfdjfnfmibpjaaGreatDoor
