/- What the row of CatalogErrors says of the program's form, checked limb by limb. -/
import Derived.Test.YtkafnmbldpofdaaGreatDoorCards
import Derived.Test.YtkafnmbldpofdaaGreatDoorTie
import Derived.JoinedCond
import Derived.ProofKit
namespace Go.Proofs.YtkafnmbldpofdaaGreatDoor
set_option maxHeartbeats 40000000 in
set_option maxRecDepth 100000 in
theorem joined_catalogErrors : joinedFacts Tryz.pinned.checked.prog 5 Tryz.f5 (OpenSpec.ofChange Rows.catalogErrorsSpec).bare Rows.catalogErrorsRow = true := by
  unfold joinedFacts
  simp only [Bool.and_eq_true]
  repeat' apply And.intro
  all_goals (as_aux_lemma => kernel_rfl)
end Go.Proofs.YtkafnmbldpofdaaGreatDoor
