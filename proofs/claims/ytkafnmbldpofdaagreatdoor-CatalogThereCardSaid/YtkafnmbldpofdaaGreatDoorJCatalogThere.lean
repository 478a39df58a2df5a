/- What the row of CatalogThere says of the program's form, checked limb by limb. -/
import Derived.Test.YtkafnmbldpofdaaGreatDoorCards
import Derived.Test.YtkafnmbldpofdaaGreatDoorTie
import Derived.JoinedCond
import Derived.ProofKit
namespace Go.Proofs.YtkafnmbldpofdaaGreatDoor
set_option maxHeartbeats 40000000 in
set_option maxRecDepth 100000 in
theorem joined_catalogThere : joinedFacts Tryz.pinned.checked.prog 3 Tryz.f3 (OpenSpec.ofChange Rows.catalogThereSpec).bare Rows.catalogThereRow = true := by
  unfold joinedFacts
  simp only [Bool.and_eq_true]
  repeat' apply And.intro
  all_goals (as_aux_lemma => kernel_rfl)
end Go.Proofs.YtkafnmbldpofdaaGreatDoor
