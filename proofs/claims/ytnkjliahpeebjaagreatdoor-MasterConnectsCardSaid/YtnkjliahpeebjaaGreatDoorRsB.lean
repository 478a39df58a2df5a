/- Catalogs. -/
import Derived.Test.YtnkjliahpeebjaaGreatDoorGeA
import Derived.Test.YtnkjliahpeebjaaGreatDoorRsA
set_option maxRecDepth 8000
set_option maxHeartbeats 800000
namespace Go.Proofs.YtnkjliahpeebjaaGreatDoor
open Go.RowKit
section
theorem gN{P:Program}{f:Func}{p:Tmp}{T:TypeId}{d:TypeDesc}{n:Nat}(h:f.results=#[.cell p T])(u:P.underlying T=some d)(a:(match d with|.struct _|.array _ _=>true|_=>false)=true)(i:(P.info? T).map (·.size)=some (n+1))(t:Array Value)(w:World)(g:Nat)(b:t.getD p undef=.pointer (some ⟨g,0,none⟩))(z:(row w g).size=n+1) :
 (results f t).run P w=.ok (.agg (row w g)) w:=by
 have l:=jV w g n T d u a i z;have H:t[p]?.getD undef=.pointer (some ⟨g,0,none⟩):=by simpa using b
 simp only[results,h]
 simp [H,asAddr,l]
attribute [local go_sem ↓] aZ bf bq
attribute [local go_sem] bn aS aH aK aT ak aI aw az aM ah aQ aL aP aO aR aY aW ap aq df dc ef bN cB dv cK cC
theorem held3b(w:World)(c:Array Value):∀ (z x:Array Value) (t T a:TypeId),z.size=33->Held ((((w.alloc (.cells c t)).alloc (.cells z T)).alloc (.cells x a)).drew) (w.heap.size+1) 33:=fun z x t T a H=>by
 have h:=EB.new (w.alloc (.cells c t)) z T;rw[show (w.alloc (.cells c t)).heap.size=w.heap.size+1 by simp] at h;exact lE (h.of_block (heap_alloc_old _ _ h.2.2) (by simp)) H (by decide)
end
section
attribute [local go_sem ↓] aZ bf bq
attribute [local go_sem] bn aS aH aK aT ak aI aw az aM ah aQ aL aP aO aR aY aW ap aq df dc ef bN
end
end Go.Proofs.YtnkjliahpeebjaaGreatDoor
