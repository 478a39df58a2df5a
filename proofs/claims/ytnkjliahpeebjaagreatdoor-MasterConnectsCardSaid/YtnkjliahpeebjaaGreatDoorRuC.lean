/- Catalogs. -/
import Derived.Test.YtnkjliahpeebjaaGreatDoorRsB
import Derived.Test.YtnkjliahpeebjaaGreatDoorAcA
import Derived.Test.YtnkjliahpeebjaaGreatDoorVaE
set_option maxRecDepth 8000
set_option maxHeartbeats 4000000
namespace Go.Proofs.YtnkjliahpeebjaaGreatDoor
open Go.RowKit
variable{w' w:World}{g g' n:Nat}{cs c a:Array Value}
section
attribute [local go_sem ↓] aZ bf bq
attribute [local go_sem] bn aS aH aK aT ak aI aw az aM ah aQ aL aP aO aR aY aW ap aq df dc ef bN cB dv cK cC
end
section
attribute [local go_sem ↓] aZ bf bq
attribute [local go_sem] bn aS aH aK aT ak aI aw az aM ah aQ aL aP aO aR aY aW ap aq df dc ef bN cK cC
end
section
attribute [local go_sem ↓] aZ bf bq
attribute [local go_sem] bn aS aH aK aT ak aI aw az aM ah aQ aL aP aO aR aY aW ap aq df dc ef bN cB dv cK cC
end
section
set_option linter.unusedSimpArgs false
attribute [local go_sem ↓] aZ bf bq
attribute [local go_sem] bn aS aH aK aT ak aI aw az aM ah aQ aL aP aO aR aY aW ap aq df dc ef bN cB dv cK cC
end
section
set_option linter.unusedSimpArgs false
theorem qz(E:Operand->Value)(w:World)(dst x y t' pos af gd)(f:lP (E x)=true)(H:Held w (bF (E x)) 33)(i:cV (E y)=true)(b:(bA (E y)).size=21)(d:bh (bA (E y)).toList=true) :
 (execOp E ⟨dst,.store 25 x y,t',pos,af,gd⟩).run Tryz.prog w=.ok .skip (w.setRow (bF (E x)) (over (row w (bF (E x))) 2 (bA (E y)).toList)):=by
 obtain⟨cs,m⟩:∃ cs,E y=.agg cs:=by
  unfold cV at i;split at i
  .rename_i g h;exact⟨g,h⟩
  .cases i
 obtain⟨g,o⟩:∃ g,E x=.pointer (some ⟨g,2,none⟩):=by
  unfold lP at f;split at f
  .rename_i g h;exact⟨g,h⟩
  .cases f
 rw[m,aK] at b d;have d:cs.all (·.oneCell')=true:=by rw[<-Array.all_toList];exact l8 _ d
 rw[o,aH] at H |-;simp only at H |-
 obtain⟨t,F,l⟩:=fR H
 have s:=run_storeVar_mid (P:=Tryz.prog) w g 2 25 cs (fun j q=>by
  have k:2+j<(row w g).size:=by rw[H.1];omega
  have p:(row w g)[2+j]?=some (row w g)[2+j]:=Array.getElem?_eq_getElem k;exact⟨by rw[cell_of_row w g (2+j) _ t F l,p];rfl,H.2.2 _⟩) (by rw[b];kernel_rfl) d
 rw[nW g t F cs.toList 2 w (row w g) l (by intro e;have:=congrArg List.length e;simp at this;rw[this] at b;simp at b)] at s;unfold execOp;simp only[o,m,aK,Instr.storeAt,Instr.sureAddr,Sem.run_bind,Sem.run_pure,Result.andThen_ok,s]
def U0(w w':World)(cs c:Array Value):Prop:=row w' w.heap.size=cs/\row w' (w.heap.size+1+1)=c/\c.size=33/\(∀ o,w'.frozen? ⟨w.heap.size+1+1,o,none⟩=false)/\Held w' (w.heap.size+1) 33/\Below w.heap.size w w'
theorem U0.held(h:U0 w w' cs c):Held w' (w.heap.size+1+1) 33:=⟨by rw[h.2.1];exact h.2.2.1,by decide,h.2.2.2.1⟩
theorem AO(h:Held w g n)(i:Nat)(v:Value):w.setCell ⟨g,i,none⟩ v=w.setRow g ((row w g).setIfInBounds i v):=by
 obtain⟨t,f,H⟩:=fR h;exact setCell_eq_setRow w g i _ t f v H
theorem AC(h:Held w g n)(H:g≠g'):Held (w.setRow g' c) g n :=
 h.of_block (cP w g' g c H)
theorem U0.set(h:U0 w w' cs c)(z:a.size=33):U0 w (w'.setRow (w.heap.size+1+1) a) cs a:=by
 have b:=h.held;refine⟨?_,au b _,z,fun o=>?_,AC h.2.2.2.2.1 (by omega),below_setRow h.2.2.2.2.2 (by omega) _⟩
 .have:=h.1;unfold row at *;rw[cP _ _ _ _ (by omega)];exact this
 .obtain⟨t,f,d⟩:=fR b;have H:=b.2.2 o;unfold World.frozen? at H |-;rw[d] at H;rw[setRow_heap w' _ _ a t f d];exact H
theorem U0.dat(h:U0 w w' cs c)(v:List Value):U0 w (w'.setRow (w.heap.size+1+1) (over (row w' (w.heap.size+1+1)) 2 v)) cs (over c 2 v):=by
 rw[h.2.1];exact h.set (by rw[jW];exact h.2.2.1)
theorem U0.cell(h:U0 w w' cs c)(i:Nat)(v:Value):U0 w (w'.setCell ⟨w.heap.size+1+1,i,none⟩ v) cs (c.setIfInBounds i v):=by
 rw[AO h.held,h.2.1];exact h.set (by simpa using h.2.2.1)
theorem U0.at(h:U0 w w' cs c)(i:Nat)(H:i<33):w'.cell? ⟨w.heap.size+1+1,i,none⟩=some (c[i]'(by rw[h.2.2.1];exact H)):=ae h.2.1 i _ (Array.getElem?_eq_getElem _)
theorem U0.start(w:World)(cs z x:Array Value)(t T b:TypeId)(H:0<cs.size)(e:z.size=33)(d:x.size=33):U0 w (((w.alloc (.cells cs t)).alloc (.cells z T)).alloc (.cells x b)).drew cs x:=by
 have h:=EB.new ((w.alloc (.cells cs t)).alloc (.cells z T)) x b;rw[show ((w.alloc (.cells cs t)).alloc (.cells z T)).heap.size=w.heap.size+1+1 by simp] at h;have r:row ((((w.alloc (.cells cs t)).alloc (.cells z T)).alloc (.cells x b))) w.heap.size=cs:=am (w:=w.alloc (.cells cs t)) (by exact aB) (ak w cs t (0,0)) H;exact⟨r,h.1,d,h.2.1,held3b w cs z x t T b e,by exact aB⟩
attribute [local go_sem ↓] aZ bf bq fe qz
attribute [local go_sem] bn aS fx aH aK aT ak aI aw az aM ah bW gO aQ aL aP aO aR aY aW ap aq cf cM
end
end Go.Proofs.YtnkjliahpeebjaaGreatDoor
