/- What the row of MasterOwns says of the program's form, checked limb by limb. -/
import Derived.Test.YtefcmdmfgdcpmaaGreatDoorCards
import Derived.Test.YtefcmdmfgdcpmaaGreatDoorTie
import Derived.JoinedCond
import Derived.ProofKit
namespace Go.Proofs.YtefcmdmfgdcpmaaGreatDoor
set_option maxHeartbeats 40000000 in
set_option maxRecDepth 100000 in
theorem joined_masterOwns : joinedFacts Tryz.pinned.checked.prog 3 Tryz.f3 (OpenSpec.ofChange Rows.masterOwnsSpec).bare Rows.masterOwnsRow = true := by
  unfold joinedFacts
  simp only [Bool.and_eq_true]
  repeat' apply And.intro
  all_goals (as_aux_lemma => kernel_rfl)
end Go.Proofs.YtefcmdmfgdcpmaaGreatDoor
