/- Catalogs. -/
import Derived.Test.YtnkjliahpeebjaaGreatDoorCu
import Derived.Test.YtnkjliahpeebjaaGreatDoorYr
import Derived.Test.YtnkjliahpeebjaaGreatDoorMx
import Derived.Test.YtnkjliahpeebjaaGreatDoorFrameEs
set_option maxRecDepth 100000
set_option maxHeartbeats 16000000
namespace Go.Proofs.YtnkjliahpeebjaaGreatDoor
def nf:ByteArray:=⟨#[80,65,89]⟩
def kaQ:ByteArray:=aC 2 nf
section
open Go.RowKit
set_option linter.unusedSimpArgs false
attribute [local go_sem ↓] aZ bf bq cl
attribute [local go_sem] bn aS aH bE bH aK aT ak aI aw az aM ah aQ aL aP aO aR aY aW bD
end
section
open Go.RowKit
attribute [local go_sem] ap aq pS pT cf bN cB cC
def m9(e:En)(n N:Nat):Prop:=e.name.size<=60/\n<=8/\N<=12
def FewR(e:En)(n N:Nat)(w W:World)(r:Ending):Prop:=∃ b:Bool,r=.returned (.bool b)/\(b=true->m9 e n N)/\Below w.heap.size w W
theorem FewR.no{e:En}{n N:Nat}{w W:World}(h:Below w.heap.size w W):FewR e n N w W (.returned (.bool false)):=⟨false,rfl,(fun h=>by cases h),h⟩
end
section
open Go.ChangeShapes Go.WideShapes Go.RowKit
theorem xP{H:Type}{enc:TypeId × Value->H}{W:World}{f:Nat}{v:Value}{x:DataW H × List MemPlace}(h:DataW.trod enc Tryz.prog W 0 (fun _=>true) true f 26 [v]=some x) :
 ∃ (a:Option Addr) (n c:Nat),v=.slice a n c/\(n<=1000->∃ l:List Int,l.length=n/\IS W v l):=by
 rcases open_ints Tryz.underlying26 Tryz.underlying3 (by kernel_rfl) h with ⟨e,-⟩|⟨a,L,C,z,e,-,t,-,g,-,j,-⟩
 .obtain rfl:v=.slice none 0 0:=by simpa using e
  exact⟨none,0,0,rfl,fun _=>⟨[],rfl,IS.nil W⟩⟩
 .obtain rfl:v=.slice (some a) L C:=by simpa using e
  refine⟨some a,L,C,rfl,fun u=>⟨z.take L,by rw[List.length_take];split at g <;> omega,?_⟩⟩
  have d:(z.take L).length=L:=by rw[List.length_take];split at g <;> omega
  refine⟨some a,C,by rw[d],by omega,fun p=>?_⟩
  rw[d] at p;have r:L<=z.length:=by split at g <;> omega
  have i:=j 0 (by omega)
  have m:a.spot=none:=by
   have:=World.cell?_spot i;simpa [Addr.add] using this
  obtain⟨b,o,s⟩:=a;simp only at m
  subst m;refine⟨b,o,rfl,?_,fun k q=>?_⟩
  .have:=World.block_lt_of_cell? W _ i;simpa [Addr.add] using this
  .rw[d] at q;have:=j k (by omega);rw[Addr.add_mid] at this;rw[this];simp [List.getD_eq_getElem?_getD,List.getElem?_eq_getElem (show k<z.length by omega)]
end
section
open Go.RowKit
attribute [local go_sem ↓] aZ bf bq fb
attribute [local go_sem] bn aS aH bE bH aK aT ak aI aw az aM ah aQ aL aP aO aR aY aW ap aq cf bN cB cC
def K7(F:Nat->Ef)(n:Nat)(m:Int):Prop:=(n:Int)<=m/\∀ k,k<n->(F k).e.name.size<=60/\(F k).e.target.size<=60/\(F k).n2<=12/\(F k).n1<=8
def FewCR(F:Nat->Ef)(n:Nat)(m:Int)(w W:World)(r:Ending):Prop:=∃ b:Bool,r=.returned (.bool b)/\(b=true->K7 F n m)/\Below w.heap.size w W
theorem FewCR.no{F:Nat->Ef}{n:Nat}{m:Int}{w W:World}(h:Below w.heap.size w W):FewCR F n m w W (.returned (.bool false)):=⟨false,rfl,(fun h=>by cases h),h⟩
end
section
open Go.RowKit
set_option linter.unusedSimpArgs false
attribute [local go_sem ↓] aZ bf bq cl
attribute [local go_sem] bn aS aH bE bH aK aT ak aI aw az aM ah aQ aL aP aO aR aY aW bD
end
end Go.Proofs.YtnkjliahpeebjaaGreatDoor
