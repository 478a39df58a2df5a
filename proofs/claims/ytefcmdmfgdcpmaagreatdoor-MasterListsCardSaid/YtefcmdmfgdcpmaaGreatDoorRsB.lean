/- Catalogs. -/
import Derived.Test.YtefcmdmfgdcpmaaGreatDoorVaG
set_option maxRecDepth 8000
set_option maxHeartbeats 800000
namespace Go.Proofs.YtefcmdmfgdcpmaaGreatDoor
open Go.RowKit
section
theorem zkj{P:Program}{fn:Func}{p:Tmp}{ty:TypeId}{d:TypeDesc}{n:Nat}(h:fn.results=#[.cell p ty])(hu:P.underlying ty=some d)(hd:(match d with|.struct _|.array _ _=>true|_=>false)=true)(hi:(P.info? ty).map (·.size)=some (n+1))(tmps:Array Value)(w:World)(g:Nat)(hp:tmps.getD p undef=.pointer (some ⟨g,0,none⟩))(hz:(row w g).size=n+1) :
  (results fn tmps).run P w=.ok (.agg (row w g)) w:=by
 have hl:=zb8 w g n ty d hu hd hi hz;have hp':tmps[p]?.getD undef=.pointer (some ⟨g,0,none⟩):=by simpa using hp
 simp only[results,h]
 simp [hp',asAddr,hl]
attribute [local go_sem ↓] zaV zaW zaz
attribute [local go_sem] zav zap zal zae zaq zai zaw zao zas zan zaa zaj zaf zaA zax zak zag zar zaC zaE zbX zbK zbL zbg zbb zbM zbs zbl
theorem held3b(w:World)(c:Array Value):∀ (z x:Array Value) (t t1 t2:TypeId),z.size=33->Held ((((w.alloc (.cells c t)).alloc (.cells z t1)).alloc (.cells x t2)).drew) (w.heap.size+1) 33:=fun z x t t1 t2 hz=>by
 have h:=EB.new (w.alloc (.cells c t)) z t1;rw[show (w.alloc (.cells c t)).heap.size=w.heap.size+1 by simp] at h;exact zgJ (h.of_block (heap_alloc_old _ _ h.2.2) (by simp)) hz (by decide)
end
section
attribute [local go_sem ↓] zaV zaW zaz
attribute [local go_sem] zav zap zal zae zaq zai zaw zao zas zan zaa zaj zaf zaA zax zak zag zar zaC zaE zbX zbK zbL zbg
end
end Go.Proofs.YtefcmdmfgdcpmaaGreatDoor
