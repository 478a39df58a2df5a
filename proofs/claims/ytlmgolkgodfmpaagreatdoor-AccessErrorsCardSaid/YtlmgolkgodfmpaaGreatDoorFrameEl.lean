/- Slices of entries among the arguments, with all their alternates readable. -/
import Derived.Test.YtlmgolkgodfmpaaGreatDoorFrameEs
import Derived.Test.YtlmgolkgodfmpaaGreatDoorIl
namespace Go.Proofs.YtlmgolkgodfmpaaGreatDoor
open Go.ChangeShapes Go.WideShapes Go.RowKit
set_option maxRecDepth 100000
def EFL (w:World) (b o:Nat) (x:Ef):Prop :=
 ∃ (a1:Option Addr) (c1:Nat) (a2:Option Addr) (c2:Nat) (F:Nat→Int),mid w b o=x.e.vals (.slice a1 x.n1 c1) (.slice a2 x.n2 c2)∧x.n1≤9223372036854775807∧x.n2≤9223372036854775807∧IL w a1 x.n1 F∧(x.n2≤1000→x.gs.length=x.n2∧GS w (.slice a2 x.n2 c2) x.gs)
def ESL (w:World) (a:Option Addr) (n:Nat) (F:Nat→Ef):Prop:=n≤9223372036854775807∧∀ k,k<n→∃ b o,a=some ⟨b,o,none⟩∧b<w.heap.size∧EFL w b (o+k*33) (F k)
theorem EFL.below {w w':World} {b o:Nat} {x:Ef} (h:EFL w b o x) (hb:Below w.heap.size w w'):EFL w' b o x:=by
 obtain⟨a1,c1,a2,c2,F,h1,h2,h3,h4,h5⟩:=h
 exact⟨a1,c1,a2,c2,F,mid_below hb h1 (by rw[vals_size];decide),h2,h3,h4.below hb,fun h=>⟨(h5 h).1,(h5 h).2.below hb⟩⟩
theorem ESL.below {w w':World} {a:Option Addr} {n:Nat} {F:Nat→Ef} (h:ESL w a n F) (hb:Below w.heap.size w w'):ESL w' a n F :=
 ⟨h.1,fun k hk=>by
  obtain⟨b,o,h1,h2,h3⟩:=h.2 k hk
  exact⟨b,o,h1,Nat.lt_of_lt_of_le h2 hb.size,h3.below hb⟩⟩
theorem ESL.es {w:World} {a:Option Addr} {n:Nat} {F:Nat→Ef} (h:ESL w a n F):ES w a n F :=
 ⟨h.1,fun k hk=>by
  obtain⟨b,o,h1,h2,a1,c1,a2,c2,FF,h3,h4,h5,-,h7⟩:=h.2 k hk
  exact⟨b,o,h1,h2,a1,c1,a2,c2,h3,h4,h5,h7⟩⟩
end Go.Proofs.YtlmgolkgodfmpaaGreatDoor
