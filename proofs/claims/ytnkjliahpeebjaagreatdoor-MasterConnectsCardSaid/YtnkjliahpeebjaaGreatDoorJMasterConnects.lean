/- What the row of MasterConnects says of the program's form, checked limb by limb. -/
import Derived.Test.YtnkjliahpeebjaaGreatDoorCards
import Derived.Test.YtnkjliahpeebjaaGreatDoorTie
import Derived.JoinedCond
import Derived.ProofKit
namespace Go.Proofs.YtnkjliahpeebjaaGreatDoor
set_option maxHeartbeats 40000000 in
set_option maxRecDepth 100000 in
theorem joined_masterConnects : joinedFacts Tryz.pinned.checked.prog 6 Tryz.f6 (OpenSpec.ofChange Rows.masterConnectsSpec).bare Rows.masterConnectsRow = true := by
  unfold joinedFacts
  simp only [Bool.and_eq_true]
  repeat' apply And.intro
  all_goals (as_aux_lemma => kernel_rfl)
end Go.Proofs.YtnkjliahpeebjaaGreatDoor
