/- What the row of RebuildNotes says of the program's form, checked limb by limb. -/
import Derived.Test.YtkmhegogiadjfaaGreatDoorCards
import Derived.Test.YtkmhegogiadjfaaGreatDoorTie
import Derived.JoinedCond
import Derived.ProofKit
namespace Go.Proofs.YtkmhegogiadjfaaGreatDoor
set_option maxHeartbeats 40000000 in
set_option maxRecDepth 100000 in
theorem joined_rebuildNotes : joinedFacts Tryz.pinned.checked.prog 9 Tryz.f9 (OpenSpec.ofChange Rows.rebuildNotesSpec).bare Rows.rebuildNotesRow = true := by
  unfold joinedFacts
  simp only [Bool.and_eq_true]
  repeat' apply And.intro
  all_goals (as_aux_lemma => kernel_rfl)
end Go.Proofs.YtkmhegogiadjfaaGreatDoor
