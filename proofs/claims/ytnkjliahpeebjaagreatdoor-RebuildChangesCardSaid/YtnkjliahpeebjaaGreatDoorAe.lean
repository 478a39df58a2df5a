/- Catalogs. -/
import Derived.Test.YtnkjliahpeebjaaGreatDoorNo
set_option maxRecDepth 8000
set_option maxHeartbeats 8000000
open Option renaming some->Z9,none->Z7
open Go.World renaming cell?_of_block->ZT
open Nat renaming lt_of_lt_of_le->Zz
namespace Go.Proofs.YtnkjliahpeebjaaGreatDoor
open Go.RowKit
variable(a:Operand->Value)(w:World){bs p:Nat}{sv al:Value}{fl cd c c' id:Int}
section
def cE(e:Int):Int:=if e=0 then 5 else if e=6 then 0 else e
attribute [local go_sem ↓] aZ bf bq cl
attribute [local go_sem] bn aS aH bE bH aK aT ak aI aw az aM ah aQ aL aP aO aR aY aW bD ap aq
end
section
theorem eX(dst x y t' pos af gd)(h:db (a x)=true)(H:Held w (bF (a x)) 5)(b:cV (a y)=true)(d:(bA (a y)).size=5)(e:bh (bA (a y)).toList=true) :
 (execOp a ⟨dst,.store 67 x y,t',pos,af,gd⟩).run Tryz.prog w=.ok .skip (w.setRow (bF (a x)) (bA (a y))) :=
 kN a w _ 4 (by kernel_rfl) dst x y t' pos af gd h H b d e
def fH:Array Value:=#[.int .i64 0,.int .i64 0,.string ⟨#[]⟩,.string ⟨#[]⟩,.string ⟨#[]⟩]
def bJ(id:Int)(x:Fu):Ch:=(1,id,aC x.1.kind x.1.name,⟨#[]⟩,⟨#[]⟩)
def bC(x:Fu):ByteArray:=⟨(if aA x=true then cJ x else []).toArray⟩
def bI(id:Int)(x:Fu):Ch:=(0,id,aC x.1.kind x.1.name,bC x,⟨#[]⟩)
attribute [local go_sem ↓] aZ bf bq cl eX
attribute [local go_sem] bn aS aH bE bH aK aT ak aI aw az aM ah aQ aL aP aO aR aY aW bD ap aq
end
section
attribute [local go_sem ↓] aZ bf bq cl eX
attribute [local go_sem] bn aS aH bE bH aK aT ak aI aw az aM ah aQ aL aP aO aR aY aW bD ap aq
end
section
theorem bu:ChS w (.slice Z7 0 0) []:=⟨Z7,0,rfl,by simp,fun h=>by simp at h⟩
theorem iT(c:Ch):ChS (w.alloc (.cells (ch5 c) 67)) (.slice (Z9 ⟨w.heap.size,0,Z7⟩) 1 1) [c]:=by
 refine⟨_,_,rfl,by simp,fun _=>⟨w.heap.size,0,rfl,by simp,fun k H i u b=>?_⟩⟩
 obtain rfl:k=0:=by simpa using H
 have h:=ae (ak w (ch5 c) 67 (0,0)) i u b;simpa using h
theorem kZ{w w':World}{l:List Int}(h:IS w al l)(j:w.grownBy w' (Z9 p))(r:0<l.length->∀ q,al.ownBlock=Z9 q->q≠p):IS w' al l:=by
 obtain⟨a,c,rfl,z,m⟩:=h;refine⟨a,c,rfl,z,fun f=>?_⟩
 obtain⟨b,o,rfl,g,H⟩:=m f;have d:=r f b rfl;have q:=fun i=>ZT (w:=w) (w':=w') (a:=⟨b,i,Z7⟩) (j.block b g (fun e=>d (Option.some.inj e)))
 exact⟨b,o,rfl,Zz g j.size,fun k n=>(q _).trans (H k n)⟩
theorem kY{w w':World}{l:List Gr}(h:GS w al l)(m:w.grownBy w' (Z9 p))(r:0<l.length->∀ q,al.ownBlock=Z9 q->q≠p):GS w' al l:=by
 obtain⟨a,c,rfl,z,n⟩:=h;refine⟨a,c,rfl,z,fun g=>?_⟩
 obtain⟨b,o,rfl,j,H⟩:=n g;have f:=r g b rfl;have q:=fun i=>ZT (w:=w) (w':=w') (a:=⟨b,i,Z7⟩) (m.block b j (fun e=>f (Option.some.inj e)))
 exact⟨b,o,rfl,Zz j m.size,fun k d=>⟨(q _).trans (H k d).1,(q _).trans (H k d).2.1,(q _).trans (H k d).2.2⟩⟩
attribute [local go_sem ↓] aZ bf bq cl eX
attribute [local go_sem] bn aS aH bE bH aK aT ak aI aw az aM ah aQ aL aP aO aR aY aW bD ap aq
end
section
structure AdI (w0 w wr:World) (p bs:Nat) (sv:Value) (l:List Rw) (fl cd c id:Int) (x:Fu) (al gr:Value):Prop where
 sh:SHs w0 wr p sv l fl cd c
 g:w.grownBy wr (Z9 p)
 e:row wr (w.heap.size+1+1)=x.1.vals al gr
 r:wr.cell? ⟨w.heap.size,0,Z7⟩=Z9 (.iface 56 (.pointer (Z9 ⟨p,0,Z7⟩)))
 i:wr.cell? ⟨w.heap.size+1,0,Z7⟩=Z9 (.int .i64 id)
 f0:wr.cell? ⟨bs,0,Z7⟩=Z9 (.func (.func 204) #[] #[.pointer (Z9 ⟨w.heap.size+1+1,0,Z7⟩),.pointer (Z9 ⟨w.heap.size,0,Z7⟩),.pointer (Z9 ⟨w.heap.size+1,0,Z7⟩)])
 f1:wr.cell? ⟨bs,1,Z7⟩=Z9 (.func (.func 206) #[] #[.pointer (Z9 ⟨w.heap.size+1+1,0,Z7⟩),.pointer (Z9 ⟨w.heap.size,0,Z7⟩),.pointer (Z9 ⟨w.heap.size+1,0,Z7⟩)])
 f2:wr.cell? ⟨bs,2,Z7⟩=Z9 (.func (.func 207) #[] #[.pointer (Z9 ⟨w.heap.size,0,Z7⟩),.pointer (Z9 ⟨w.heap.size+1,0,Z7⟩),.pointer (Z9 ⟨w.heap.size+1+1,0,Z7⟩)])
 lt:bs<wr.heap.size
 l2:w.heap.size+1+1<wr.heap.size
 pl:p<w.heap.size
 bl:w.heap.size<=bs
 I:IS wr al x.2.1
 G:GS wr gr x.2.2
 o1:0<x.2.1.length->∀ q,al.ownBlock=Z9 q->q≠p
 o2:0<x.2.2.length->∀ q,gr.ownBlock=Z9 q->q≠p
theorem AdI.step{m w wr W:World}{l:List Rw}{x:Fu}{n:Value}(h:AdI m w wr p bs sv l fl cd c id x al n)(u:SHs m W p sv l fl cd c')(d:wr.grownBy W (Z9 p)):AdI m w W p bs sv l fl cd c' id x al n:=by
 have k:=h.pl;have f:=h.bl;have H:=h.lt;have j:=h.l2;have q:∀ b o,b<wr.heap.size->b≠p->W.cell? ⟨b,o,Z7⟩=wr.cell? ⟨b,o,Z7⟩:=fun b o s t=>ZT (a:=⟨b,o,Z7⟩) (d.block b s (fun e:(Z9 b:Option Nat)=Z9 p=>t (Option.some.inj e)))
 exact⟨u,aJ h.g d,dP h.e (by rw[ah];decide) d (by omega),(q _ _ (by omega) (by omega)).trans h.r,(q _ _ (by omega) (by omega)).trans h.i,(q _ _ H (by omega)).trans h.f0,(q _ _ H (by omega)).trans h.f1,(q _ _ H (by omega)).trans h.f2,
  Zz H d.size,Zz j d.size,k,f,kZ h.I d h.o1,kY h.G d h.o2,h.o1,h.o2⟩
attribute [local go_sem ↓] aZ bf bq cl eX
attribute [local go_sem] bn aS aH bE bH aK aT ak aI aw az aM ah aQ aL aP aO aR aY aW bD ap aq
end
end Go.Proofs.YtnkjliahpeebjaaGreatDoor
