/- What the row of CatalogAdds says of the program's form, checked limb by limb. -/
import Derived.Test.YtpldecfgjpmmkaaGreatDoorCards
import Derived.Test.YtpldecfgjpmmkaaGreatDoorTie
import Derived.JoinedCond
import Derived.ProofKit
namespace Go.Proofs.YtpldecfgjpmmkaaGreatDoor
set_option maxHeartbeats 40000000 in
set_option maxRecDepth 100000 in
theorem joined_catalogAdds:joinedFacts Tryz.pinned.checked.prog 3 Tryz.f3 (OpenSpec.ofChange Rows.catalogAddsSpec).bare Rows.catalogAddsRow=true:=by
 unfold joinedFacts
 simp only[Bool.and_eq_true]
 repeat' apply And.intro
 all_goals (as_aux_lemma=>kernel_rfl)
end Go.Proofs.YtpldecfgjpmmkaaGreatDoor
