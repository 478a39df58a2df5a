/- What the row of AccessPersons says of the program's form, checked limb by limb. -/
import Derived.Test.YtbdidnjdccpgaaaGreatDoorCards
import Derived.Test.YtbdidnjdccpgaaaGreatDoorTie
import Derived.JoinedCond
import Derived.ProofKit
namespace Go.Proofs.YtbdidnjdccpgaaaGreatDoor
set_option maxHeartbeats 40000000 in
set_option maxRecDepth 100000 in
theorem joined_accessPersons : joinedFacts Tryz.pinned.checked.prog 9 Tryz.f9 (OpenSpec.ofChange Rows.accessPersonsSpec).bare Rows.accessPersonsRow = true := by
  unfold joinedFacts
  simp only [Bool.and_eq_true]
  repeat' apply And.intro
  all_goals (as_aux_lemma => kernel_rfl)
end Go.Proofs.YtbdidnjdccpgaaaGreatDoor
