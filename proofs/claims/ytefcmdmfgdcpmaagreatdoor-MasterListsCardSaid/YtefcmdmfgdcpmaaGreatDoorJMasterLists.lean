/- What the row of MasterLists says of the program's form, checked limb by limb. -/
import Derived.Test.YtefcmdmfgdcpmaaGreatDoorCards
import Derived.Test.YtefcmdmfgdcpmaaGreatDoorTie
import Derived.JoinedCond
import Derived.ProofKit
namespace Go.Proofs.YtefcmdmfgdcpmaaGreatDoor
set_option maxHeartbeats 40000000 in
set_option maxRecDepth 100000 in
theorem joined_masterLists : joinedFacts Tryz.pinned.checked.prog 5 Tryz.f5 (OpenSpec.ofChange Rows.masterListsSpec).bare Rows.masterListsRow = true := by
  unfold joinedFacts
  simp only [Bool.and_eq_true]
  repeat' apply And.intro
  all_goals (as_aux_lemma => kernel_rfl)
end Go.Proofs.YtefcmdmfgdcpmaaGreatDoor
