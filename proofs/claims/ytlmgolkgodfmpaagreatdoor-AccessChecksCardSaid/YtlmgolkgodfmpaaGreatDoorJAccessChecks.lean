/- What the row of AccessChecks says of the program's form, checked limb by limb. -/
import Derived.Test.YtlmgolkgodfmpaaGreatDoorCards
import Derived.Test.YtlmgolkgodfmpaaGreatDoorTie
import Derived.JoinedCond
import Derived.ProofKit
namespace Go.Proofs.YtlmgolkgodfmpaaGreatDoor
set_option maxHeartbeats 40000000 in
set_option maxRecDepth 100000 in
theorem joined_accessChecks : joinedFacts Tryz.pinned.checked.prog 6 Tryz.f6 (OpenSpec.ofChange Rows.accessChecksSpec).bare Rows.accessChecksRow = true := by
  unfold joinedFacts
  simp only [Bool.and_eq_true]
  repeat' apply And.intro
  all_goals (as_aux_lemma => kernel_rfl)
end Go.Proofs.YtlmgolkgodfmpaaGreatDoor
