/- What the row of TopAccess says of the program's form, checked limb by limb. -/
import Derived.Test.YtfmjeppajpiekaaGreatDoorCards
import Derived.Test.YtfmjeppajpiekaaGreatDoorTie
import Derived.JoinedCond
import Derived.ProofKit
namespace Go.Proofs.YtfmjeppajpiekaaGreatDoor
set_option maxHeartbeats 40000000 in
set_option maxRecDepth 100000 in
theorem ta_joined : joinedFacts Tryz.pinned.checked.prog 6 Tryz.f6 (OpenSpec.ofChange Rows.topAccessSpec).bare Rows.topAccessRow = true := by
  unfold joinedFacts
  simp only [Bool.and_eq_true]
  repeat' apply And.intro
  all_goals (as_aux_lemma => kernel_rfl)
end Go.Proofs.YtfmjeppajpiekaaGreatDoor
