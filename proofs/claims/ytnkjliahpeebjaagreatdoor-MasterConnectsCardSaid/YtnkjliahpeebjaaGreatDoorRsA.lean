/- Catalogs. -/
import Derived.Test.YtnkjliahpeebjaaGreatDoorSaC
set_option maxRecDepth 8000
set_option maxHeartbeats 16000000
namespace Go.Proofs.YtnkjliahpeebjaaGreatDoor
open Go.RowKit
section
attribute [local go_sem ↓ high] fe mI
attribute [local go_sem] fx aH ak aI aw az aM ah fp ap aq cf cM df dc ef bN cB dv cK cC
theorem GS.at{w:World}{a:Option Addr}{n c:Nat}{l:List Gr}(h:GS w (.slice a n c) l)(H:0<l.length):∃ b o,a=some ⟨b,o,none⟩/\∀ k (h:k<l.length),w.cell? ⟨b,o+k*3,none⟩=some (.string l[k].1)/\w.cell? ⟨b,o+k*3+1,none⟩=some (.bool l[k].2.1)/\w.cell? ⟨b,o+k*3+2,none⟩=some (.int .i64 l[k].2.2):=by
 obtain⟨A,C,e,-,h⟩:=h;obtain⟨rfl,-,rfl⟩:a=A/\n=l.length/\c=C:=by simpa using e
 obtain⟨b,o,d,-,f⟩:=h H;exact⟨b,o,d,f⟩
end
section
attribute [local go_sem ↓ high] fe mI
attribute [local go_sem] fx aH ak aI aw az aM ah fp ap aq cf cM df dc ef bN cB dv cK cC
end
end Go.Proofs.YtnkjliahpeebjaaGreatDoor
