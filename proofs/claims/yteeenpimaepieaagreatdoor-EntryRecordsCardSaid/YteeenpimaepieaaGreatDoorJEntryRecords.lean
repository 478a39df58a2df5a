/- What the row of EntryRecords says of the program's form, checked limb by limb. -/
import Derived.Test.YteeenpimaepieaaGreatDoorCards
import Derived.Test.YteeenpimaepieaaGreatDoorTie
import Derived.JoinedCond
import Derived.ProofKit
namespace Go.Proofs.YteeenpimaepieaaGreatDoor
set_option maxHeartbeats 40000000 in
set_option maxRecDepth 100000 in
theorem joined_entryRecords : joinedFacts Tryz.pinned.checked.prog 4 Tryz.f4 (OpenSpec.ofChange Rows.entryRecordsSpec).bare Rows.entryRecordsRow = true := by
  unfold joinedFacts
  simp only [Bool.and_eq_true]
  repeat' apply And.intro
  all_goals (as_aux_lemma => kernel_rfl)
end Go.Proofs.YteeenpimaepieaaGreatDoor
