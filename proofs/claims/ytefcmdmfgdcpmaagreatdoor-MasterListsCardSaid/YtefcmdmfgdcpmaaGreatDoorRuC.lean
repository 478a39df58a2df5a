/- Catalogs. -/
import Derived.Test.YtefcmdmfgdcpmaaGreatDoorRsB
import Derived.Test.YtefcmdmfgdcpmaaGreatDoorAcA
import Derived.Test.YtefcmdmfgdcpmaaGreatDoorVaE
set_option maxRecDepth 8000
set_option maxHeartbeats 4000000
namespace Go.Proofs.YtefcmdmfgdcpmaaGreatDoor
open Go.RowKit
section
attribute [local go_sem ↓] zaV zaW zaz
attribute [local go_sem] zav zap zal zae zaq zai zaw zao zas zan zaa zaj zaf zaA zax zak zag zar zaC zaE zbX zbK zbL zbg zbb zbM zbs zbl
end
section
attribute [local go_sem ↓] zaV zaW zaz
attribute [local go_sem] zav zap zal zae zaq zai zaw zao zas zan zaa zaj zaf zaA zax zak zag zar zaC zaE zbX zbK zbL zbg zbs zbl
end
section
attribute [local go_sem ↓] zaV zaW zaz
attribute [local go_sem] zav zap zal zae zaq zai zaw zao zas zan zaa zaj zaf zaA zax zak zag zar zaC zaE zbX zbK zbL zbg zbb zbM zbs zbl
end
section
set_option linter.unusedSimpArgs false
attribute [local go_sem ↓] zaV zaW zaz
attribute [local go_sem] zav zap zal zae zaq zai zaw zao zas zan zaa zaj zaf zaA zax zak zag zar zaC zaE zbX zbK zbL zbg zbb zbM zbs zbl
end
section
set_option linter.unusedSimpArgs false
theorem zqC(ev:Operand->Value)(w:World)(dst x y t' pos af gd)(h1:zmi (ev x)=true)(h2:Held w (za0 (ev x)) 33)(h3:zbC (ev y)=true)(h4:(zaK (ev y)).size=21)(h5:zaM (zaK (ev y)).toList=true) :
  (execOp ev ⟨dst,.store 37 x y,t',pos,af,gd⟩).run Tryz.prog w=.ok .skip (w.setRow (za0 (ev x)) (over (row w (za0 (ev x))) 2 (zaK (ev y)).toList)):=by
 obtain⟨cs,hc⟩:∃ cs,ev y=.agg cs:=by
  unfold zbC at h3;split at h3
  · rename_i g h;exact⟨g,h⟩
  · cases h3
 obtain⟨g,hg⟩:∃ g,ev x=.pointer (some ⟨g,2,none⟩):=by
  unfold zmi at h1;split at h1
  · rename_i g h;exact⟨g,h⟩
  · cases h1
 rw[hc,zae] at h4 h5;have h5:cs.all (·.oneCell')=true:=by rw[<-Array.all_toList];exact zcH _ h5
 rw[hg,zal] at h2 ⊢;simp only at h2 ⊢
 obtain⟨t,fr,hb⟩:=zbm h2
 have hs:=run_storeVar_mid (P:=Tryz.prog) w g 2 37 cs (fun j hj=>by
  have hlt:2+j<(row w g).size:=by rw[h2.1];omega
  have hx:(row w g)[2+j]?=some (row w g)[2+j]:=Array.getElem?_eq_getElem hlt;exact⟨by rw[cell_of_row w g (2+j) _ t fr hb,hx];rfl,h2.2.2 _⟩) (by rw[h4];kernel_rfl) h5
 rw[zcG g t fr cs.toList 2 w (row w g) hb (by intro e;have:=congrArg List.length e;simp at this;rw[this] at h4;simp at h4)] at hs;unfold execOp;simp only[hg,hc,zae,Instr.storeAt,Instr.sureAddr,Sem.run_bind,Sem.run_pure,Result.andThen_ok,hs]
def U0(w w':World)(cs c:Array Value):Prop:=row w' w.heap.size=cs∧row w' (w.heap.size+1+1)=c∧c.size=33∧(∀ o,w'.frozen? ⟨w.heap.size+1+1,o,none⟩=false)∧Held w' (w.heap.size+1) 33∧Below w.heap.size w w'
theorem U0.held{w w':World}{cs c:Array Value}(h:U0 w w' cs c):Held w' (w.heap.size+1+1) 33:=⟨by rw[h.2.1];exact h.2.2.1,by decide,h.2.2.2.1⟩
theorem znk{w:World}{g n:Nat}(h:Held w g n)(i:Nat)(v:Value):w.setCell ⟨g,i,none⟩ v=w.setRow g ((row w g).setIfInBounds i v):=by
 obtain⟨t,fr,hb⟩:=zbm h;exact setCell_eq_setRow w g i _ t fr v hb
theorem zl9{w:World}{g g' n:Nat}{c:Array Value}(h:Held w g n)(hne:g≠g'):Held (w.setRow g' c) g n :=
 h.of_block (zaX w g' g c hne)
theorem U0.set{w w':World}{cs c c':Array Value}(h:U0 w w' cs c)(hz:c'.size=33):U0 w (w'.setRow (w.heap.size+1+1) c') cs c':=by
 have hH:=h.held;refine⟨?_,zaQ hH _,hz,fun o=>?_,zl9 h.2.2.2.2.1 (by omega),below_setRow h.2.2.2.2.2 (by omega) _⟩
 · have:=h.1;unfold row at *;rw[zaX _ _ _ _ (by omega)];exact this
 · obtain⟨t,fr,hb⟩:=zbm hH;have h1:=hH.2.2 o;unfold World.frozen? at h1 ⊢;rw[hb] at h1;rw[setRow_heap w' _ _ c' t fr hb];exact h1
theorem U0.dat{w w':World}{cs c:Array Value}(h:U0 w w' cs c)(vs:List Value):U0 w (w'.setRow (w.heap.size+1+1) (over (row w' (w.heap.size+1+1)) 2 vs)) cs (over c 2 vs):=by
 rw[h.2.1];exact h.set (by rw[zd6];exact h.2.2.1)
theorem U0.cell{w w':World}{cs c:Array Value}(h:U0 w w' cs c)(i:Nat)(v:Value):U0 w (w'.setCell ⟨w.heap.size+1+1,i,none⟩ v) cs (c.setIfInBounds i v):=by
 rw[znk h.held,h.2.1];exact h.set (by simpa using h.2.2.1)
theorem U0.at{w w':World}{cs c:Array Value}(h:U0 w w' cs c)(i:Nat)(hi:i<33):w'.cell? ⟨w.heap.size+1+1,i,none⟩=some (c[i]'(by rw[h.2.2.1];exact hi)):=zah h.2.1 i _ (Array.getElem?_eq_getElem _)
theorem U0.start(w:World)(cs z x:Array Value)(t t1 t2:TypeId)(hc:0<cs.size)(hz:z.size=33)(hx:x.size=33):U0 w (((w.alloc (.cells cs t)).alloc (.cells z t1)).alloc (.cells x t2)).drew cs x:=by
 have h:=EB.new ((w.alloc (.cells cs t)).alloc (.cells z t1)) x t2;rw[show ((w.alloc (.cells cs t)).alloc (.cells z t1)).heap.size=w.heap.size+1+1 by simp] at h;have r:row ((((w.alloc (.cells cs t)).alloc (.cells z t1)).alloc (.cells x t2))) w.heap.size=cs:=zaB (w:=w.alloc (.cells cs t)) (by exact zbo) (zai w cs t (0,0)) hc;exact⟨r,h.1,hx,h.2.1,held3b w cs z x t t1 t2 hz,by exact zbo⟩
attribute [local go_sem ↓] zaV zaW zaz zew zqC
attribute [local go_sem] zav zap zbG zal zae zaq zai zaw zao zas zan zaa zb1 ziE zaj zaf zaA zax zak zag zar zaC zaE zbk zbW
end
end Go.Proofs.YtefcmdmfgdcpmaaGreatDoor
