/- Catalogs. -/
import Derived.RangeFuncNested
import Derived.RangeFuncBound
import Derived.Shelf.RegionOpen
import Derived.OwnWalkIn
import Derived.LoopNIn
import Derived.LoopIn
import Derived.Test.YtnkjliahpeebjaaGreatDoorAe
import Derived.Test.YtnkjliahpeebjaaGreatDoorSrt
set_option maxRecDepth 8000
set_option maxHeartbeats 16000000
open Option renaming some->Z9,none->Z7
open _root_ renaming ByteArray->Z6,List->Z1,Array->Zy,Option->Zp
open Go renaming Value->Z2,World->ZY
open Bool renaming true->ZX,false->ZW
open Nat renaming le_refl->ZV,le_trans->ZC,lt_of_lt_of_le->Zz
open Go.World renaming cell?_of_block->ZT,frozen?_of_block->Y8,cell?_setCell_other->YE,cell?_setCell_same'->WA,putObj_heap_other->Wn
open Option.some renaming inj->ZN
open List renaming setIfInBounds_toArray->Zt,set_cons_zero->Ze,set_cons_succ->Zd
namespace Go.Proofs.YtnkjliahpeebjaaGreatDoor
open Go.RowKit
variable(e:En)(g:Zp Nat){w0 r wq wr w W w' d:ZY}{b h:Nat}{al u sv v:Z2}{bp m i q bt p:Nat}(a:Operand->Z2){l:Z1 Rw}{fl k cd c id c':Int}{pre name:Z6}{s st f:LoopState}{x:Fu}{pd j:Zp Code}
section
structure Rf where
 fn:FuncId
 tmps:Zy Z2
 ps:Zy Tmp
 asg:Code
 body:Code
 D:Nat
def Rf.loop(r:Rf)(s:LoopState)(p:Zp Code):Obj:=.loop { state:=s,pending:=p,fn:=r.fn,tmps:=r.tmps,params:=r.ps,assign:=r.asg,body:=r.body,defers:=r.D }
structure Rup (r:Rf) (s:LoopState) (p:Zp Code) (w:ZY):Prop where
 lp:w.heap[r.D+1]?=Z9 (r.loop s p)
 dfr:w.heap[r.D]?=Z9 (.deferred (Z9 []))
theorem Rup.lt{r:Rf}{p:Zp Code}(h:Rup r s p w):r.D+1<w.heap.size:=(Array.getElem?_eq_some_iff.1 h.lp).1
theorem Rup.put{r:Rf}{S:LoopState}{p o:Zp Code}(h:Rup r s p w):Rup r S o (w.putObj (r.D+1) (r.loop S o)) :=
 ⟨World.putObj_heap_same h.lt,(Wn (by omega)).trans h.dfr⟩
def Rf.busy(r:Rf)(w:ZY):ZY:=w.putObj (r.D+1) (r.loop .busy Z7)
def Rf.on(r:Rf)(w:ZY):ZY:=w.putObj (r.D+1) (r.loop .ready Z7)
def Rf.off(r:Rf)(c:Code)(w:ZY):ZY:=w.putObj (r.D+1) (r.loop .done (Z9 c))
def Rf.gone(r:Rf)(p:Zp Code)(w:ZY):ZY:=w.putObj (r.D+1) (r.loop .exhausted p)
theorem Rup.busy{r:Rf}(h:Rup r .ready Z7 w):Rup r .busy Z7 (r.busy w):=h.put
theorem Rup.on{r:Rf}(h:Rup r .busy Z7 w):Rup r .ready Z7 (r.on w):=h.put
theorem Rup.off{r:Rf}{c:Code}(h:Rup r .busy Z7 w):Rup r .done (Z9 c) (r.off c w):=h.put
theorem Rup.gone{r:Rf}{p:Zp Code}(h:Rup r s p w):(r.gone p w).heap[r.D]?=Z9 (.deferred (Z9 [])):=(Wn (by omega)).trans h.dfr
variable {F:Fence} {n:Nat} {P:Program}
end
section
attribute [local go_sem] Oper.semAt_some
structure RI (w:ZY) (bl br bi bc cb p:Nat) (L:UInt8) (id:Int):Prop where
 l:w.cell? ⟨bl,0,Z7⟩=Z9 (.int .u8 (L.toNat:Nat))
 r:w.cell? ⟨br,0,Z7⟩=Z9 (.iface 56 (.pointer (Z9 ⟨p,0,Z7⟩)))
 i:w.cell? ⟨bi,0,Z7⟩=Z9 (.int .i64 id)
 c:w.cell? ⟨bc,0,Z7⟩=Z9 (.pointer (Z9 ⟨cb,0,Z7⟩))
 v:w.cell? ⟨cb,0,Z7⟩=Z9 (.int .i64 0)
 f:w.frozen? ⟨cb,0,Z7⟩=ZW
theorem yU(P:Program)(o:Oper)(a:Act)(C:ZY->Prop):Oper.askedIn Fence.wide P o a C=True:=eq_true (fun _ _ _ _=>trivial)
attribute [local go_sem] yU
theorem oX(s:Z6)(h:1<=s.size):s[0]'h=(Ds.bl s).headD 0:=by
 unfold Ds.bl;rw[List.headD_eq_head?_getD,List.head?_eq_getElem?]
 have:s.data.toList[0]?=Z9 (s[0]'h):=by
  rw[List.getElem?_eq_getElem (show 0<s.data.toList.length by simpa using Zz Nat.zero_lt_one h)];rfl
 rw[this];rfl
end
section
attribute [local go_sem] Oper.semAt_some
theorem lw{k r:Z6}(h:¬ (bw k r).2≠0):aA (bw k r).1=ZX/\dL (bw k r).1=Ds.bl k:=by
 unfold bw at h |-
 cases H:cF (Ds.bl r) with
 | none=>rw[H] at h;exact absurd (show (11:Int)≠0 by decide) h
 | some y =>
   rw[H] at h;dsimp only at h |-;by_cases o:dL y=Ds.bl k
   .rw[if_pos o];exact⟨(mb _ _ H).1,o⟩
   .rw[if_neg o] at h;exact absurd (show (11:Int)≠0 by decide) h
theorem SHs.other(h:SHs w0 wr p sv l fl cd k)(H:wr.grownBy w' (Z9 q))(y:p≠q)(t:w0.heap.size<=q)(B:∀ b,sv.ownBlock=Z9 b->b≠q):SHs w0 w' p sv l fl cd k :=
 ⟨⟨dP h.f.1 (by simp) H y,fun o=>(Y8 (a:=⟨p,o,Z7⟩) (H.block p h.pl (fun e=>y (ZN e)))).trans (h.f.2 o)⟩,h.r.keep H.size (fun b z A=>H.block b A (fun e=>B b z (ZN e))),h.ne,h.p0,Zz h.pl H.size,h.b.trans (gJ H t h.b.size)⟩
theorem HJ.le{B:Nat}{A:Z2}{H:Z1 Ef}{R:Z1 (Zy Z2)}(h:HJ B w A H R)(z:b<=B):HJ b w A H R:=by
 refine⟨ej h.own z,h.len,h.sz,h.one,fun j r x Q S=>?_⟩
 obtain⟨C,G,D,I,J,K,L,N,O,E⟩:=h.el j r x Q S;exact⟨C,G,D,I,J,K,L,N,O,fun y t o=>⟨(E y t o).1,ZC z (E y t o).2.1,(E y t o).2.2⟩⟩
def Bx(W:ZY)(b:Nat):Prop:=(∃ v,W.cell? ⟨b,0,Z7⟩=Z9 v)/\W.frozen? ⟨b,0,Z7⟩=ZW
theorem Bx.of(h:Bx W b)(e:d.heap[b]?=W.heap[b]?):Bx d b:=by
 obtain⟨⟨v,H⟩,o⟩:=h;exact⟨⟨v,(ZT (a:=⟨b,0,Z7⟩) e).trans H⟩,(Y8 (a:=⟨b,0,Z7⟩) e).trans o⟩
theorem Bx.set{B:Nat}(h:Bx W b):Bx (W.setCell ⟨B,0,Z7⟩ v) b:=by
 obtain⟨⟨u,H⟩,o⟩:=h;by_cases e:b=B
 .subst e;exact⟨⟨v,WA _ _ _ (by rw[H];rfl)⟩,by rw[World.frozen?_setCell];exact o⟩
 .exact⟨⟨u,by rw[YE _ _ _ _ (by intro k;cases k;exact e rfl)];exact H⟩,by rw[World.frozen?_setCell];exact o⟩
structure AlC (w0 w W:ZY) (h p:Nat) (sv:Z2) (l:Z1 Rw) (fl cd c id:Int) (name:Z6) (r:Rf) (st:LoopState) (pd:Zp Code):Prop where
 sh:SHs w0 W p sv l fl cd c
 g:w.grownBy W (Z9 p)
 ri:RI W (h+7) (h+5) (h+6) (h+8) (h+4) p 65 id
 n:W.cell? ⟨h,0,Z7⟩=Z9 (.string name)
 b1:Bx W (h+1)
 b2:Bx W (h+2)
 b3:Bx W (h+3)
 up:Rup r st pd W
 z:h+11<=W.heap.size
theorem AlC.core{r:Rf}(A:AlC w0 w W h p sv l fl cd c id name r st pd)(B:∀ k,k<h+11->k≠q->d.heap[k]?=W.heap[k]?)(G:W.heap.size<=d.heap.size)(C:q≠h/\∀ i,4<=i->i<=8->q≠h+i)(E:SHs w0 d p sv l fl cd c')(D:w.grownBy d (Z9 p))(y:Rup r f j d)(t:Bx d (h+1)/\Bx d (h+2)/\Bx d (h+3)) :
 AlC w0 w d h p sv l fl cd c' id name r f j:=by
 have e:∀ i,4<=i->i<=8->d.heap[h+i]?=W.heap[h+i]?:=fun i H o=>B _ (by omega) (fun e=>C.2 i H o e.symm)
 obtain⟨R,I,J,K,L,N⟩:=A.ri;have q:=fun i (H:4<=i) (o:i<=8)=>ZT (w:=W) (w':=d) (a:=⟨h+i,0,Z7⟩) (e i H o)
 exact⟨E,D,⟨(q 7 (by omega) (by omega)).trans R,(q 5 (by omega) (by omega)).trans I,(q 6 (by omega) (by omega)).trans J,(q 8 (by omega) (by omega)).trans K,(q 4 (by omega) (by omega)).trans L,(Y8 (a:=⟨h+4,0,Z7⟩) (e 4 (by omega) (by omega))).trans N⟩,
  (ZT (a:=⟨h,0,Z7⟩) (B h (by omega) (fun e=>C.1 e.symm))).trans A.n,t.1,t.2.1,t.2.2,y,ZC A.z G⟩
theorem AlC.tick{r:Rf}(H:AlC w0 w W h p sv l fl cd c id name r st pd)(C:p<h)(A:r.D=h+9)(o:W.grownBy d (Z9 p))(y:SHs w0 d p sv l fl cd c') :
 AlC w0 w d h p sv l fl cd c' id name r st pd:=by
 have E:=H.z;have e:∀ k,k<h+11->k≠p->d.heap[k]?=W.heap[k]?:=fun k B t=>o.block k (by omega) (fun e=>t (ZN e))
 refine H.core (q:=p) e o.size ⟨by omega,fun i _ _=>by omega⟩ y (aJ H.g o) ⟨?_,?_⟩ ⟨H.b1.of (e _ (by omega) (by omega)),H.b2.of (e _ (by omega) (by omega)),H.b3.of (e _ (by omega) (by omega))⟩
 .rw[e _ (by omega) (by omega)];exact H.up.lp
 .rw[e _ (by omega) (by omega)];exact H.up.dfr
theorem AlC.bel{r:Rf}(H:AlC w0 w W h p sv l fl cd c id name r st pd)(C:p<h)(B:w.heap.size=h)(A:r.D=h+9)(y:∀ b,sv.ownBlock=Z9 b->b<h)(o:Below (h+11) W d) :
 AlC w0 w d h p sv l fl cd c id name r st pd:=by
 have e:=fun k t=>o.block k t
 refine H.core (q:=h+11) (fun k t _=>e k t) o.size ⟨by omega,fun i _ _=>by omega⟩ (H.sh.belowB o (by omega) (fun _ b z=>by have:=y b z;omega)) (bx H.g (o.mono (by omega))) ⟨?_,?_⟩ ⟨H.b1.of (e _ (by omega)),H.b2.of (e _ (by omega)),H.b3.of (e _ (by omega))⟩
 .rw[e _ (by omega)];exact H.up.lp
 .rw[e _ (by omega)];exact H.up.dfr
theorem AlC.turn{r:Rf}(H:AlC w0 w W h p sv l fl cd c id name r st pd)(I:p<h)(D:w0.heap.size<=h)(E:w.heap.size=h)(A:∀ b,sv.ownBlock=Z9 b->b<h)(o:W.grownBy d (Z9 q))(J:h<=q)(y:q≠h/\∀ i,4<=i->i<=8->q≠h+i)(B:Rup r f j d)(t:Bx d (h+1)/\Bx d (h+2)/\Bx d (h+3)) :
 AlC w0 w d h p sv l fl cd c id name r f j:=by
 have K:=H.z;exact H.core (q:=q) (fun k G C=>o.block k (by omega) (fun e=>C (ZN e))) o.size y (H.sh.other o (by omega) (by omega) (fun b t=>by have:=A b t;omega)) (bx H.g (gJ o (by omega) (by omega))) B t
theorem AlC.put{r:Rf}(H:AlC w0 w W h p sv l fl cd c id name r st pd)(B:p<h)(y:w0.heap.size<=h)(A:w.heap.size=h)(C:r.D=h+9)(o:∀ b,sv.ownBlock=Z9 b->b<h) :
 AlC w0 w (W.putObj (r.D+1) (r.loop f j)) h p sv l fl cd c id name r f j:=by
 have G:=H.z;have t:=grownBy_putObj' W (r.D+1) (r.loop f j);have e:∀ k,k<h+10->(W.putObj (r.D+1) (r.loop f j)).heap[k]?=W.heap[k]?:=fun k E=>t.block k (by omega) (fun e=>by have:=ZN e;omega)
 exact H.turn B y A o t (by omega) ⟨by omega,fun i _ _=>by omega⟩ H.up.put ⟨H.b1.of (e _ (by omega)),H.b2.of (e _ (by omega)),H.b3.of (e _ (by omega))⟩
theorem AlC.set{r:Rf}(H:AlC w0 w W h p sv l fl cd c id name r st pd)(E:p<h)(y:w0.heap.size<=h)(A:w.heap.size=h)(G:r.D=h+9)(o:∀ b,sv.ownBlock=Z9 b->b<h)(I:i=1\/i=2\/i=3) :
 AlC w0 w (W.setCell ⟨h+i,0,Z7⟩ v) h p sv l fl cd c id name r st pd:=by
 have J:=H.z;have t:=de W ⟨h+i,0,Z7⟩ v;have e:∀ k,k<W.heap.size->k≠h+i->(W.setCell ⟨h+i,0,Z7⟩ v).heap[k]?=W.heap[k]?:=fun k B C=>t.block k B (fun e=>C (ZN e))
 refine H.turn E y A o t (by show h<=h+i;omega) ⟨by show h+i≠h;omega,fun j _ _=>by show h+i≠h+j;omega⟩ ⟨?_,?_⟩ ⟨H.b1.set,H.b2.set,H.b3.set⟩
 .rw[e _ (by omega) (by omega)];exact H.up.lp
 .rw[e _ (by omega) (by omega)];exact H.up.dfr
end
section
attribute [local go_sem] Oper.semAt_some
theorem Gf(w:ZY)(dst x t pos af gd)(H:db (a x)=ZX)(o:(row w (bF (a x))).size=33) :
 (Oper.semAt g a ⟨dst,.load 29 x,t,pos,af,gd⟩).run Tryz.prog w=.ok (.value (.agg (row w (bF (a x))))) w:=by
 rw[Oper.semAt_eq g _ _ (by intro c h;cases h)];exact aZ a w dst x t pos af gd H o
theorem Ii(w:ZY)(z:Zy Z2)(t:TypeId)(dst x y t' pos af gd)(H:z.size=33)(o:db (a x)=ZX)(A:bF (a x)=w.heap.size)(B:cV (a y)=ZX)(C:(bA (a y)).size=33)(D:bh (bA (a y)).toList=ZX) :
 (Oper.semAt g a ⟨dst,.store 29 x y,t',pos,af,gd⟩).run Tryz.prog (w.alloc (.cells z t))=.ok .skip (w.alloc (.cells (bA (a y)) t)):=by
 rw[Oper.semAt_eq g _ _ (by intro c h;cases h)];exact bf a w z t dst x y t' pos af gd H o A B C D
theorem Dx(w:ZY)(dst x t pos af gd)(H:cV (a x)=ZX)(o:(bA (a x)).size=33) :
 (Oper.semAt g a ⟨dst,.buildSlice 33 1 #[(0,x)],t,pos,af,gd⟩).run Tryz.prog w=.ok (.value (.slice (Z9 ⟨w.heap.size,0,Z7⟩) 1 1)) (w.alloc (.cells (bA (a x)) 29)):=by
 rw[Oper.semAt_eq g _ _ (by intro c h;cases h)];exact cl a w dst x t pos af gd H o
attribute [local go_sem ↓] aZ bf bq cl Gf Ii Dx
attribute [local go_sem] bn aS aH bE bH aK aT ak aI aw az aM ah aQ aL aP aO aR aY aW bD ap aq
def AlJ(w0 w:ZY)(h p:Nat)(sv:Z2)(l:Z1 Rw)(fl cd id:Int)(name:Z6)(r:Rf)(st:LoopState)(c:Int)(s:Z1 Fu)(W:ZY):Prop :=
 AlC w0 w W h p sv l fl cd c id name r st Z7/\∃ o R,W.cell? ⟨h+3,0,Z7⟩=Z9 o/\HJ (h+11) W o (s.map cY) R
def AlX(w0 w:ZY)(h p:Nat)(sv:Z2)(l:Z1 Rw)(fl cd id:Int)(name:Z6)(r:Rf)(st:LoopState)(pd:Zp Code)(c e:Int)(W:ZY):Prop :=
 AlC w0 w W h p sv l fl cd c id name r st pd/\W.cell? ⟨h+1,0,Z7⟩=Z9 (.slice Z7 0 0)/\W.cell? ⟨h+2,0,Z7⟩=Z9 (.int .i64 e)
theorem putc{D j:Nat}{o:Obj}(H:j≠D):(W.putObj D o).cell? ⟨j,0,Z7⟩=W.cell? ⟨j,0,Z7⟩:=ZT (a:=⟨j,0,Z7⟩) (Wn H)
theorem AlJ.put{r:Rf}{s:Z1 Fu}(A:AlJ w0 w h p sv l fl cd id name r st c s W)(E:p<h)(o:w0.heap.size<=h)(C:w.heap.size=h)(B:r.D=h+9)(H:∀ b,sv.ownBlock=Z9 b->b<h) :
 AlJ w0 w h p sv l fl cd id name r f c s (W.putObj (r.D+1) (r.loop f Z7)):=by
 obtain⟨t,O,R,y,z⟩:=A;refine⟨t.put E o C B H,O,R,(putc (by omega)).trans y,z.keep (grownBy_putObj' W _ _).size (fun k G _=>Wn (by omega))⟩
theorem AlX.put{e:Int}{r:Rf}(A:AlX w0 w h p sv l fl cd id name r st pd c e W)(E:p<h)(o:w0.heap.size<=h)(C:w.heap.size=h)(B:r.D=h+9)(H:∀ b,sv.ownBlock=Z9 b->b<h) :
 AlX w0 w h p sv l fl cd id name r f j c e (W.putObj (r.D+1) (r.loop f j)):=by
 obtain⟨t,y,z⟩:=A;exact⟨t.put E o C B H,(putc (by omega)).trans y,(putc (by omega)).trans z⟩
end
def dz(x:Fu)(s:Z6):Fu:=({ x.1 with name:=s },x.2)
def bT(x:Fu)(s:Z6):Fu:=({ x.1 with target:=s },x.2)
theorem sR(al G:Z2)(s:Z6):(e.vals al G).setIfInBounds 1 (.string s)=({ e with name:=s }:En).vals al G:=by
 unfold En.vals;simp only[Zt,Zd,Ze]
theorem sS(al G:Z2)(s:Z6):(e.vals al G).setIfInBounds 29 (.string s)=({ e with target:=s }:En).vals al G:=by
 unfold En.vals;simp only[Zt,Zd,Ze]
def jO(id:Int)(x:Fu)(t:Z6)(s:Z1 Fu):Z1 Ch:=bJ id x::bI id (dz x t)::s.map fun a=>bI id (bT a t)
section
theorem uD{l:Z1 Int}(B:IS r al l)(E:r.heap.size<=m)(h:IS w al l):IS (w.setCell ⟨m,i,Z7⟩ v) al l:=by
 obtain⟨a,c,rfl,G,C⟩:=B;obtain⟨I,c',e,-,z⟩:=h;cases e
 refine⟨_,_,rfl,G,fun A=>?_⟩
 obtain⟨b,o,ha,K,-⟩:=C A;obtain⟨J,O,t,y,H⟩:=z A;subst ha;cases t
 exact⟨_,_,rfl,by simpa using y,fun k D=>by rw[YE _ _ _ _ (by intro h;cases h;omega)];exact H k D⟩
theorem uQ{l:Z1 Gr}(D:GS r al l)(G:r.heap.size<=m)(h:GS w al l):GS (w.setCell ⟨m,i,Z7⟩ v) al l:=by
 obtain⟨a,c,rfl,I,E⟩:=D;obtain⟨J,c',e,-,A⟩:=h;cases e
 refine⟨_,_,rfl,I,fun C=>?_⟩
 obtain⟨b,o,ha,L,-⟩:=E C;obtain⟨K,O,y,z,H⟩:=A C;subst ha;cases y
 have t:∀ j,(w.setCell ⟨m,i,Z7⟩ v).cell? ⟨b,j,Z7⟩=w.cell? ⟨b,j,Z7⟩:=fun j=>YE _ _ _ _ (by intro h;cases h;omega)
 exact⟨_,_,rfl,by simpa using z,fun k B=>⟨(t _).trans (H k B).1,(t _).trans (H k B).2.1,(t _).trans (H k B).2.2⟩⟩
theorem uC(W:ZY)(a:Zp Addr)(c:Nat):IS W (.slice a 0 c) []:=⟨a,c,rfl,by simp,fun h=>by simp at h⟩
theorem uP(W:ZY)(a:Zp Addr)(c:Nat):GS W (.slice a 0 c) []:=⟨a,c,rfl,by simp,fun h=>by simp at h⟩
theorem vg(W:ZY)(x:Ch)(t:TypeId):(W.alloc (.cells (ch5 x) t)).ownsRow W.heap.size t 5 (.slice (Z9 ⟨W.heap.size,0,Z7⟩) 1 1) 1 (cv [x]):=by
 refine⟨?_,.inr ⟨W.heap.size,1,ch5 x,rfl,ZV _,heap_alloc_new W _,ZV _,by unfold maxLen;omega,rfl,?_⟩⟩
 .rw[vF];rfl
 .exact (show List.take (1*5) (ch5 x).toList=(ch5 x).toList from rfl).trans (List.append_nil _).symm
attribute [local go_sem ↓] aZ fb bf bq cl eX
attribute [local go_sem] bn aS aH bE bH aK aT ak aI aw az aM ah aQ aL aP aO aR aY aW bD ap aq
end
section
attribute [local go_sem] Oper.semAt_some
def aN(k:Z6):Z6:=⟨(Ek.trim ((Ds.bl k).drop 1)).toArray⟩
structure GnC (w0 w W:ZY) (h p:Nat) (sv:Z2) (l:Z1 Rw) (fl cd c id:Int) (name:Z6) (r:Rf) (st:LoopState) (pd:Zp Code):Prop where
 sh:SHs w0 W p sv l fl cd c
 g:w.grownBy W (Z9 p)
 ri:RI W (h+5) (h+3) (h+4) (h+6) (h+2) p 68 id
 n:W.cell? ⟨h,0,Z7⟩=Z9 (.string name)
 b3:Bx W (h+1)
 up:Rup r st pd W
 z:h+9<=W.heap.size
theorem GnC.core{r:Rf}(A:GnC w0 w W h p sv l fl cd c id name r st pd)(y:∀ k,k<h+9->k≠q->d.heap[k]?=W.heap[k]?)(G:W.heap.size<=d.heap.size)(B:q≠h/\∀ i,2<=i->i<=6->q≠h+i)(E:SHs w0 d p sv l fl cd c')(D:w.grownBy d (Z9 p))(t:Rup r f j d)(C:Bx d (h+1)) :
 GnC w0 w d h p sv l fl cd c' id name r f j:=by
 have e:∀ i,2<=i->i<=6->d.heap[h+i]?=W.heap[h+i]?:=fun i H o=>y _ (by omega) (fun e=>B.2 i H o e.symm)
 obtain⟨R,I,J,K,L,N⟩:=A.ri;have q:=fun i (H:2<=i) (o:i<=6)=>ZT (w:=W) (w':=d) (a:=⟨h+i,0,Z7⟩) (e i H o)
 exact⟨E,D,⟨(q 5 (by omega) (by omega)).trans R,(q 3 (by omega) (by omega)).trans I,(q 4 (by omega) (by omega)).trans J,(q 6 (by omega) (by omega)).trans K,(q 2 (by omega) (by omega)).trans L,(Y8 (a:=⟨h+2,0,Z7⟩) (e 2 (by omega) (by omega))).trans N⟩,
  (ZT (a:=⟨h,0,Z7⟩) (y h (by omega) (fun e=>B.1 e.symm))).trans A.n,C,t,ZC A.z G⟩
theorem GnC.tick{r:Rf}(H:GnC w0 w W h p sv l fl cd c id name r st pd)(C:p<h)(A:r.D=h+7)(o:W.grownBy d (Z9 p))(y:SHs w0 d p sv l fl cd c') :
 GnC w0 w d h p sv l fl cd c' id name r st pd:=by
 have E:=H.z;have e:∀ k,k<h+9->k≠p->d.heap[k]?=W.heap[k]?:=fun k B t=>o.block k (by omega) (fun e=>t (ZN e))
 refine H.core (q:=p) e o.size ⟨by omega,fun i _ _=>by omega⟩ y (aJ H.g o) ⟨?_,?_⟩ (H.b3.of (e _ (by omega) (by omega)))
 .rw[e _ (by omega) (by omega)];exact H.up.lp
 .rw[e _ (by omega) (by omega)];exact H.up.dfr
theorem GnC.bel{r:Rf}(H:GnC w0 w W h p sv l fl cd c id name r st pd)(C:p<h)(B:w.heap.size=h)(A:r.D=h+7)(y:∀ b,sv.ownBlock=Z9 b->b<h)(o:Below (h+9) W d) :
 GnC w0 w d h p sv l fl cd c id name r st pd:=by
 have e:=fun k t=>o.block k t
 refine H.core (q:=h+9) (fun k t _=>e k t) o.size ⟨by omega,fun i _ _=>by omega⟩ (H.sh.belowB o (by omega) (fun _ b z=>by have:=y b z;omega)) (bx H.g (o.mono (by omega))) ⟨?_,?_⟩ (H.b3.of (e _ (by omega)))
 .rw[e _ (by omega)];exact H.up.lp
 .rw[e _ (by omega)];exact H.up.dfr
theorem GnC.turn{r:Rf}(H:GnC w0 w W h p sv l fl cd c id name r st pd)(I:p<h)(D:w0.heap.size<=h)(E:w.heap.size=h)(A:∀ b,sv.ownBlock=Z9 b->b<h)(o:W.grownBy d (Z9 q))(J:h<=q)(y:q≠h/\∀ i,2<=i->i<=6->q≠h+i)(B:Rup r f j d)(t:Bx d (h+1)) :
 GnC w0 w d h p sv l fl cd c id name r f j:=by
 have K:=H.z;exact H.core (q:=q) (fun k G C=>o.block k (by omega) (fun e=>C (ZN e))) o.size y (H.sh.other o (by omega) (by omega) (fun b t=>by have:=A b t;omega)) (bx H.g (gJ o (by omega) (by omega))) B t
theorem GnC.put{r:Rf}(H:GnC w0 w W h p sv l fl cd c id name r st pd)(B:p<h)(y:w0.heap.size<=h)(A:w.heap.size=h)(C:r.D=h+7)(o:∀ b,sv.ownBlock=Z9 b->b<h) :
 GnC w0 w (W.putObj (r.D+1) (r.loop f j)) h p sv l fl cd c id name r f j:=by
 have G:=H.z;have t:=grownBy_putObj' W (r.D+1) (r.loop f j);have e:∀ k,k<h+8->(W.putObj (r.D+1) (r.loop f j)).heap[k]?=W.heap[k]?:=fun k E=>t.block k (by omega) (fun e=>by have:=ZN e;omega)
 exact H.turn B y A o t (by omega) ⟨by omega,fun i _ _=>by omega⟩ H.up.put (H.b3.of (e _ (by omega)))
theorem GnC.set{r:Rf}(H:GnC w0 w W h p sv l fl cd c id name r st pd)(E:p<h)(y:w0.heap.size<=h)(A:w.heap.size=h)(G:r.D=h+7)(o:∀ b,sv.ownBlock=Z9 b->b<h)(I:i=1) :
 GnC w0 w (W.setCell ⟨h+i,0,Z7⟩ v) h p sv l fl cd c id name r st pd:=by
 have J:=H.z;have t:=de W ⟨h+i,0,Z7⟩ v;have e:∀ k,k<W.heap.size->k≠h+i->(W.setCell ⟨h+i,0,Z7⟩ v).heap[k]?=W.heap[k]?:=fun k B C=>t.block k B (fun e=>C (ZN e))
 refine H.turn E y A o t (by show h<=h+i;omega) ⟨by show h+i≠h;omega,fun j _ _=>by show h+i≠h+j;omega⟩ ⟨?_,?_⟩ H.b3.set
 .rw[e _ (by omega) (by omega)];exact H.up.lp
 .rw[e _ (by omega) (by omega)];exact H.up.dfr
end
section
attribute [local go_sem] Oper.semAt_some
def GnJ(w0 w:ZY)(h p:Nat)(sv:Z2)(l:Z1 Rw)(fl cd id:Int)(name:Z6)(r:Rf)(st:LoopState)(c:Int)(s:Z1 Int)(W:ZY):Prop :=
 GnC w0 w W h p sv l fl cd c id name r st Z7/\∃ o,W.cell? ⟨h+1,0,Z7⟩=Z9 o/\W.ownsRow (h+9) 3 1 o s.length (iv s)
theorem GnJ.put{r:Rf}{s:Z1 Int}(A:GnJ w0 w h p sv l fl cd id name r st c s W)(E:p<h)(t:w0.heap.size<=h)(C:w.heap.size=h)(B:r.D=h+7)(H:∀ b,sv.ownBlock=Z9 b->b<h) :
 GnJ w0 w h p sv l fl cd id name r f c s (W.putObj (r.D+1) (r.loop f Z7)):=by
 obtain⟨y,O,z,o⟩:=A;exact⟨y.put E t C B H,O,(putc (by omega)).trans z,aV o (fun x G=>Wn (by have:=(ax o x G).1;omega))⟩
theorem uy(w:ZY)(n:Int)(k:Nat)(H:k=w.heap.size):CS (w.alloc (.cells #[.int .i64 n] 3)) 1 (.slice (Z9 ⟨k,0,Z7⟩) 1 1) 1 (iv [n]):=by
 subst H;exact⟨_,_,rfl,rfl,fun _=>⟨_,rfl,cell_one_new _ _ _⟩⟩
end
section
attribute [local go_sem ↓] aZ fb bf bq cl eX
attribute [local go_sem] bn aS aH bE bH aK aT ak aI aw az aM ah aQ aL aP aO aR aY aW bD ap aq
end
section
set_option linter.unusedSimpArgs false
end
section
set_option linter.unusedSimpArgs false
attribute [local go_sem ↓] aZ bf bq cl eX
attribute [local go_sem] bn aS aH bE bH aK aT ak aI aw az aM ah aQ aL aP aO aR aY aW bD ap aq
structure MdB (w0 W:ZY) (h p:Nat) (x:Fu) (al gr:Z2):Prop where
 r:W.cell? ⟨h,0,Z7⟩=Z9 (.iface 56 (.pointer (Z9 ⟨p,0,Z7⟩)))
 e:row W (h+1)=x.1.vals al gr
 z:h+2<=W.heap.size
 I:IS W al x.2.1
 G:GS W gr x.2.2
theorem MdB.grown{t:Z2}(H:MdB w0 W h p x al t)(A:p<h)(o:W.grownBy d (Z9 p))(O:0<x.2.1.length->∀ q,al.ownBlock=Z9 q->q≠p)(y:0<x.2.2.length->∀ q,t.ownBlock=Z9 q->q≠p):MdB w0 d h p x al t:=by
 have z:=H.z;exact⟨(ZT (a:=⟨h,0,Z7⟩) (o.block h (by omega) (fun e=>by have:=ZN e;omega))).trans H.r,dP H.e (by rw[ah];decide) o (by omega),ZC z o.size,kZ H.I o O,kY H.G o y⟩
theorem MdB.below{t:Z2}(H:MdB w0 W h p x al t)(o:Below W.heap.size W d):MdB w0 d h p x al t:=by
 have z:=H.z;exact⟨(ZT (a:=⟨h,0,Z7⟩) (o.block h (by omega))).trans H.r,am o H.e (by rw[ah];decide),ZC z o.size,H.I.below o,H.G.below o⟩
structure MrB (W:ZY) (h p:Nat) (u v:Z2):Prop where
 r:W.cell? ⟨h,0,Z7⟩=Z9 (.iface 56 (.pointer (Z9 ⟨p,0,Z7⟩)))
 u:W.cell? ⟨h+1,0,Z7⟩=Z9 u
 v:W.cell? ⟨h+2,0,Z7⟩=Z9 v
 z:h+3<=W.heap.size
theorem MrB.grown(H:MrB W h p u v)(y:p<h)(o:W.grownBy d (Z9 p)):MrB d h p u v:=by
 have z:=H.z;have e:=fun k (t:k<W.heap.size) (A:p<k)=>o.block k t (fun e=>by have:=ZN e;omega)
 exact⟨(ZT (a:=⟨h,0,Z7⟩) (e h (by omega) y)).trans H.r,(ZT (a:=⟨h+1,0,Z7⟩) (e (h+1) (by omega) (by omega))).trans H.u,(ZT (a:=⟨h+2,0,Z7⟩) (e (h+2) (by omega) (by omega))).trans H.v,ZC z o.size⟩
theorem MrB.below(H:MrB W h p u v)(o:Below W.heap.size W d):MrB d h p u v:=by
 have z:=H.z;exact⟨(ZT (a:=⟨h,0,Z7⟩) (o.block h (by omega))).trans H.r,(ZT (a:=⟨h+1,0,Z7⟩) (o.block (h+1) (by omega))).trans H.u,(ZT (a:=⟨h+2,0,Z7⟩) (o.block (h+2) (by omega))).trans H.v,ZC z o.size⟩
end
section
set_option linter.unusedSimpArgs false
def dy(s:Z6):Bool:=Ds.name (Ds.bl s)&&decide ((Lib.countByte s.data.toList 46:Int)<2)
theorem eM{o:Nat}{s:Zp Nat}(h:w.cell? ⟨b,o,s⟩=Z9 v):b<w.heap.size:=block_lt_of_cell h
end
section
set_option linter.unusedSimpArgs false
structure UnJ (w0 wq W:ZY) (p bp bt:Nat) (pre:Z6) (sv:Z2) (l:Z1 Rw) (fl cd c:Int) (s:Bool):Prop where
 sh:SHs w0 W p sv l fl cd c
 g:wq.grownBy W (Z9 p)
 cp:W.cell? ⟨bp,0,Z7⟩=Z9 (.string pre)
 ct:W.cell? ⟨bt,0,Z7⟩=Z9 (.bool s)
 ft:W.frozen? ⟨bt,0,Z7⟩=ZW
 pb:bp≠p
 lt:p<wq.heap.size
 zb:wq.heap.size<=bt
 ne:bp≠bt
 z0:w0.heap.size<=wq.heap.size
 so:∀ b,sv.ownBlock=Z9 b->b<wq.heap.size
theorem UnJ.tick{s:Bool}(h:UnJ w0 wq W p bp bt pre sv l fl cd c s)(H:W.grownBy d (Z9 p))(y:SHs w0 d p sv l fl cd c'):UnJ w0 wq d p bp bt pre sv l fl cd c' s:=by
 have e:∀ k,k≠p->k<W.heap.size->d.heap[k]?=W.heap[k]?:=fun k o t=>H.block k t (fun e=>o (ZN e))
 have q:=h.lt;have z:=h.zb;exact⟨y,aJ h.g H,(ZT (a:=⟨bp,0,Z7⟩) (e bp h.pb (eM h.cp))).trans h.cp,(ZT (a:=⟨bt,0,Z7⟩) (e bt (by omega) (eM h.ct))).trans h.ct,(Y8 (a:=⟨bt,0,Z7⟩) (e bt (by omega) (eM h.ct))).trans h.ft,h.pb,h.lt,h.zb,h.ne,h.z0,h.so⟩
theorem UnJ.below{s:Bool}(h:UnJ w0 wq W p bp bt pre sv l fl cd c s)(H:Below W.heap.size W d):UnJ w0 wq d p bp bt pre sv l fl cd c s :=
 ⟨h.sh.below H,bx h.g (H.mono h.g.size),(H.cell (p:=⟨bp,0,Z7⟩) (eM h.cp)).trans h.cp,(H.cell (p:=⟨bt,0,Z7⟩) (eM h.ct)).trans h.ct,(H.frozen (p:=⟨bt,0,Z7⟩) (eM h.ct)).trans h.ft,h.pb,h.lt,h.zb,h.ne,h.z0,h.so⟩
theorem UnJ.set{s:Bool}(h:UnJ w0 wq W p bp bt pre sv l fl cd c s):UnJ w0 wq (W.setCell ⟨bt,0,Z7⟩ (.bool ZX)) p bp bt pre sv l fl cd c ZX:=by
 have H:=de W ⟨bt,0,Z7⟩ (.bool ZX);have L:=h.lt;have Z:=h.zb;have z:=h.z0;have N:=h.ne;refine⟨h.sh.other H (by show p≠bt;omega) (by show _<=bt;omega) (fun b o=>by have:=h.so b o;show b≠bt;omega),bx h.g (gJ H (by show _<=bt;omega) h.g.size),?_,WA _ _ _ (by rw[h.ct];rfl),by rw[World.frozen?_setCell];exact h.ft,h.pb,h.lt,h.zb,h.ne,h.z0,h.so⟩
 rw[YE _ _ _ _ (by intro e;exact N (congrArg Addr.block e).symm)];exact h.cp
end
section
set_option linter.unusedSimpArgs false
structure UuJ (w0 w W:ZY) (p h:Nat) (pre:Z6) (sv:Z2) (l:Z1 Rw) (fl cd c:Int):Prop where
 sh:SHs w0 W p sv l fl cd c
 g:w.grownBy W (Z9 p)
 cp:W.cell? ⟨h,0,Z7⟩=Z9 (.string pre)
 kL:W.heap[h+1]?=Z9 (.cells #[.int .u8 68,.int .u8 71,.int .u8 65] 5 (3,4))
 z:h+2<=W.heap.size
theorem UuJ.next{s:Bool}(H:UuJ w0 w W p h pre sv l fl cd c)(o:p<h)(J:UnJ w0 W d p h bt pre sv l fl cd c' s):UuJ w0 w d p h pre sv l fl cd c':=by
 have z:=H.z;exact⟨J.sh,aJ H.g J.g,J.cp,(J.g.block (h+1) (by omega) (fun e=>by have:=ZN e;omega)).trans H.kL,by have:=J.g.size;omega⟩
theorem UuJ.start(H:UuJ w0 w W p h pre sv l fl cd c)(y:p<h)(A:w0.heap.size<=h)(o:∀ b,sv.ownBlock=Z9 b->b<h):UnJ w0 W (W.alloc (.cells #[.bool ZW] 4)) p h W.heap.size pre sv l fl cd c ZW:=by
 have b:=aj W (.cells #[.bool ZW] 4);have z:=H.z;exact⟨H.sh.below b,bo _ b,(ZT (a:=⟨h,0,Z7⟩) (b.block h (by omega))).trans H.cp,by simp [go_sem],by simp [go_sem],by omega,by omega,ZV _,by omega,by omega,fun q t=>by have:=o q t;omega⟩
end
section
set_option linter.unusedSimpArgs false
attribute [local go_sem ↓] aZ bf bq cl eX
attribute [local go_sem] bn aS aH bE bH aK aT ak aI aw az aM ah aQ aL aP aO aR aY aW bD ap aq
def di(pre:Z6)(id:Int):Fu:=({ En.zero with kind:=3,name:=pre,cat:=id },[],[])
def fk(pre:Z6)(id:Int):Zy Z2:=#[.int .i64 3,.string pre,.int .i64 0,.int .i64 0,.int .i64 0,.int .i64 0,.int .i64 0,.int .i64 0,.int .i64 0,.int .i64 0,.int .i64 0,.int .i64 0,.int .i64 0,.int .i64 0,.int .i64 0,.int .i64 0,.bool ZW,.int .i64 0,.string ⟨#[]⟩,.string ⟨#[]⟩,.int .i64 0,.int .i64 0,.bool ZW,.slice Z7 0 0,.int .i64 0,.int .i64 0,.int .i64 0,.bool ZW,.string ⟨#[]⟩,.string ⟨#[]⟩,.int .i64 id,.int .i64 0,.slice Z7 0 0]
theorem uv(pre:Z6)(id:Int):(di pre id).1.vals (.slice Z7 0 0) (.slice Z7 0 0)=fk pre id:=by unfold di fk En.vals En.zero;rfl
end
end Go.Proofs.YtnkjliahpeebjaaGreatDoor
