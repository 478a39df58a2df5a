/- What the row of AccessSpecific says of the program's form, checked limb by limb. -/
import Derived.Test.YtbdidnjdccpgaaaGreatDoorCards
import Derived.Test.YtbdidnjdccpgaaaGreatDoorTie
import Derived.JoinedCond
import Derived.ProofKit
namespace Go.Proofs.YtbdidnjdccpgaaaGreatDoor
set_option maxHeartbeats 40000000 in
set_option maxRecDepth 100000 in
theorem joined_accessSpecific : joinedFacts Tryz.pinned.checked.prog 8 Tryz.f8 (OpenSpec.ofChange Rows.accessSpecificSpec).bare Rows.accessSpecificRow = true := by
  unfold joinedFacts
  simp only [Bool.and_eq_true]
  repeat' apply And.intro
  all_goals (as_aux_lemma => kernel_rfl)
end Go.Proofs.YtbdidnjdccpgaaaGreatDoor
