/- What the row of AccessErrors says of the program's form, checked limb by limb. -/
import Derived.Test.YtlmgolkgodfmpaaGreatDoorCards
import Derived.Test.YtlmgolkgodfmpaaGreatDoorTie
import Derived.JoinedCond
import Derived.ProofKit
namespace Go.Proofs.YtlmgolkgodfmpaaGreatDoor
set_option maxHeartbeats 40000000 in
set_option maxRecDepth 100000 in
theorem joined_accessErrors : joinedFacts Tryz.pinned.checked.prog 7 Tryz.f7 (OpenSpec.ofChange Rows.accessErrorsSpec).bare Rows.accessErrorsRow = true := by
  unfold joinedFacts
  simp only [Bool.and_eq_true]
  repeat' apply And.intro
  all_goals (as_aux_lemma => kernel_rfl)
end Go.Proofs.YtlmgolkgodfmpaaGreatDoor
