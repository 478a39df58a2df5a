/- What the row of RebuildReturns says of the program's form, checked limb by limb. -/
import Derived.Test.YtkmhegogiadjfaaGreatDoorCards
import Derived.Test.YtkmhegogiadjfaaGreatDoorTie
import Derived.JoinedCond
import Derived.ProofKit
namespace Go.Proofs.YtkmhegogiadjfaaGreatDoor
set_option maxHeartbeats 40000000 in
set_option maxRecDepth 100000 in
theorem joined_rebuildReturns : joinedFacts Tryz.pinned.checked.prog 10 Tryz.f10 (OpenSpec.ofChange Rows.rebuildReturnsSpec).bare Rows.rebuildReturnsRow = true := by
  unfold joinedFacts
  simp only [Bool.and_eq_true]
  repeat' apply And.intro
  all_goals (as_aux_lemma => kernel_rfl)
end Go.Proofs.YtkmhegogiadjfaaGreatDoor
