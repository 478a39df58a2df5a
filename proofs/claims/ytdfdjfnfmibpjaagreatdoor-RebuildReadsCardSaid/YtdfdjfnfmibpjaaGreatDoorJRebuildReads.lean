/- What the row of RebuildReads says of the program's form, checked limb by limb. -/
import Derived.Test.YtdfdjfnfmibpjaaGreatDoorCards
import Derived.Test.YtdfdjfnfmibpjaaGreatDoorTie
import Derived.JoinedCond
import Derived.ProofKit
namespace Go.Proofs.YtdfdjfnfmibpjaaGreatDoor
set_option maxHeartbeats 40000000 in
set_option maxRecDepth 100000 in
theorem joined_rebuildReads : joinedFacts Tryz.pinned.checked.prog 7 Tryz.f7 (OpenSpec.ofChange Rows.rebuildReadsSpec).bare Rows.rebuildReadsRow = true := by
  unfold joinedFacts
  simp only [Bool.and_eq_true]
  repeat' apply And.intro
  all_goals (as_aux_lemma => kernel_rfl)
end Go.Proofs.YtdfdjfnfmibpjaaGreatDoor
