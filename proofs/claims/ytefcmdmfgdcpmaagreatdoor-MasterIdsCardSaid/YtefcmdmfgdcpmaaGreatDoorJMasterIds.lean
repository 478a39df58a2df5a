/- What the row of MasterIds says of the program's form, checked limb by limb. -/
import Derived.Test.YtefcmdmfgdcpmaaGreatDoorCards
import Derived.Test.YtefcmdmfgdcpmaaGreatDoorTie
import Derived.JoinedCond
import Derived.ProofKit
namespace Go.Proofs.YtefcmdmfgdcpmaaGreatDoor
set_option maxHeartbeats 40000000 in
set_option maxRecDepth 100000 in
theorem joined_masterIds : joinedFacts Tryz.pinned.checked.prog 4 Tryz.f4 (OpenSpec.ofChange Rows.masterIdsSpec).bare Rows.masterIdsRow = true := by
  unfold joinedFacts
  simp only [Bool.and_eq_true]
  repeat' apply And.intro
  all_goals (as_aux_lemma => kernel_rfl)
end Go.Proofs.YtefcmdmfgdcpmaaGreatDoor
