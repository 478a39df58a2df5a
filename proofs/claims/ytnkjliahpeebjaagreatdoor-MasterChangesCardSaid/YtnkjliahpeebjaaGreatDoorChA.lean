/- Catalogs. -/
import Derived.Test.YtnkjliahpeebjaaGreatDoorSh
import Derived.Test.YtnkjliahpeebjaaGreatDoorDcA
set_option maxRecDepth 8000
set_option maxHeartbeats 40000000
open Option renaming some->Z9,none->Z7
open _root_ renaming ByteArray->Z6,List->Z3,if_neg->ZX,decide_eq_true_eq->ZW,Array->Zz,Option->Zm
open Go.RowKit renaming Below->Z4
open Go renaming Value->Z1,World->ZY,Addr->XE
open Bool renaming true->ZZ,and_eq_true->ZQ
open Go.World renaming cell?_of_block->ZU,ownsRow_nil->Wl
open Option.some renaming inj->ZL
open Nat renaming lt_of_lt_of_le->ZH,le_trans->ZE,zero_add->Yj
open List renaming getElem?_eq_getElem->ZF,length_map->Zt,getD_eq_getElem?_getD->Zn,getElem?_append_right->YG,mem_append->YF,append_nil->Yu,mem_singleton->Yq,getElem?_eq_some_iff->Yh,getElem?_map->Yg,getElem?_eq_none->XZ,getElem?_append_left->XN,getElem?_range->WE
open Go.Value renaming slice->XS
namespace Go.Proofs.YtnkjliahpeebjaaGreatDoor
open Go.RowKit
variable{W0 X:ZY}{d:Z3 UInt8}(s:Z6){a:Zm XE}{w0 w wr w' c:ZY}{f:Zm Nat}{e n base p k q size:Nat}{hv sv b v:Z1}{l:Z3 Rw}{H:Z3 Ef}{xs:Z3 Z1}{rows:Z3 (Zz Z1)}(y:Fu){r cs:Zz Z1}{x:Ef}{cd ca fl:Int}{F:Nat->Ef}
section
attribute [local go_sem ↓] aZ bf bq fb
attribute [local go_sem] bn aS aH bE bH aK aT ak aI aw az aM ah aQ aL aP aO aR aY aW ap aq cC
def BI2(d:Z3 UInt8)(F:Nat->Ef)(k:Nat)(j:Int):Prop:=(best d (lst F k)=Z7/\j=-1)\/∃ i:Nat,j=i/\i<k/\best d (lst F k)=Z9 (F i)
theorem BI2.keep{j:Int}(h:BI2 d F k j)(o:hits d (F k)=false\/ahead (F k) (best d (lst F k))=false):BI2 d F (k+1) j:=by
 have e:best d (lst F (k+1))=best d (lst F k):=by
  rw[oI,r8];unfold bstep;rw[ZX (by rcases o with h|h <;> simp [h])]
 unfold BI2;rw[e];rcases h with h|⟨i,g,t,m⟩
 .exact Or.inl h
 .exact Or.inr ⟨i,g,by omega,m⟩
theorem BI2.take(h:hits d (F k)=ZZ)(g:ahead (F k) (best d (lst F k))=ZZ):BI2 d F (k+1) (k:Int):=by
 refine Or.inr ⟨k,rfl,by omega,?_⟩
 rw[oI,r8];unfold bstep;rw[if_pos ⟨h,g⟩]
def zE:Zz Z1:=zlit 0 ⟨#[]⟩
def BW(w wr:ZY):Prop:=EB wr w.heap.size zE/\Z4 w.heap.size w wr
theorem BW.below(h:BW w wr)(g:Z4 wr.heap.size wr w'):BW w w' :=
 ⟨h.1.of_block (g.block _ h.1.2.2) g.size,bt h.2 g⟩
theorem BW.after{o:Obj}(h:BW w wr)(g:Z4 (wr.alloc o).heap.size (wr.alloc o) w'):BW w w':=h.below (below1 g)
theorem CO{g:Nat}(h:Held w g n)(i:Nat)(v:Z1):w.setCell ⟨g,i,Z7⟩ v=w.setRow g ((row w g).setIfInBounds i v):=by
 obtain⟨t,j,m⟩:=fR h;exact setCell_eq_setRow w g i _ t j v m
end
section
attribute [local go_sem ↓] aZ
attribute [local go_sem] bn aS aH aK aT az aM ah ap aq bN cK cC
end
section
theorem yF(w:ZY)(z cs:Zz Z1)(t:TypeId)(o:Obj):((w.alloc (.cells z t)).alloc o).setRow w.heap.size cs=(w.alloc (.cells cs t)).alloc o:=by
 unfold World.setRow World.alloc;congr 1
 apply Array.ext_getElem?
 intro i;simp only[Array.getElem?_modify,Array.getElem?_push,Array.size_push]
 by_cases h:w.heap.size=i
 .subst h;simp
 .rw[ZX h];by_cases g:i=w.heap.size+1
  .rw[if_pos g,if_pos g]
  .rw[ZX g,ZX g,ZX (fun e=>h e.symm),ZX (fun e=>h e.symm)]
theorem qA(E:Operand->Z1)(w:ZY)(z:Zz Z1)(t:TypeId)(o:Obj)(dst x y t' pos af gd)(g:z.size=33)(i:db (E x)=ZZ)(h:bF (E x)=w.heap.size)(j:cV (E y)=ZZ)(m:(bA (E y)).size=33)(u:bh (bA (E y)).toList=ZZ) :
 (execOp E ⟨dst,.store 29 x y,t',pos,af,gd⟩).run Tryz.prog ((w.alloc (.cells z t)).alloc o)=.ok .skip ((w.alloc (.cells (bA (E y)) t)).alloc o):=by
 have A:Held ((w.alloc (.cells z t)).alloc o) w.heap.size 33:=⟨by rw[aI];exact g,by decide,fun q=>by simp⟩;rw[<-yF w z (bA (E y)) t o,<-h];exact bq E _ dst x y t' pos af gd i (by rw[h];exact A) j m u
attribute [local go_sem ↓] aZ bf qA
attribute [local go_sem] aS aH aK aT ak aI aw az aM ah aQ aL aP aO aR aY aW bD
end
def BS(w:ZY)(a:Zm XE)(n:Nat):Prop:=n<=9223372036854775807/\∀ k,k<n->∃ (b o:Nat) (v:UInt8),a=Z9 ⟨b,o,Z7⟩/\b<w.heap.size/\w.cell? ⟨b,o+k,Z7⟩=Z9 (.int .u8 (v.toNat:Nat))
theorem BS.below(h:BS w a n)(g:Z4 w.heap.size w w'):BS w' a n :=
 ⟨h.1,fun k t=>by
  obtain⟨b,o,v,i,j,m⟩:=h.2 k t;exact⟨b,o,v,i,ZH j g.size,ai g m⟩⟩
def GE(wr:ZY)(f:Zm Nat)(r:Zz Z1)(x:Ef):Prop :=
 ∃ (g:Zm XE) (h:Nat) (A:Zm XE) (C:Nat),r=x.e.vals (.slice g x.n1 h) (.slice A x.n2 C)/\x.n1<=9223372036854775807/\x.n2<=12/\x.gs.length=x.n2/\GS wr (.slice A x.n2 C) x.gs/\(0<x.n2->∀ b,(XS A x.n2 C).ownBlock=Z9 b->f≠Z9 b/\b<wr.heap.size)
theorem GE.keep(h:GE w f r x)(R:w.heap.size<=w'.heap.size)(N:∀ k,k<w.heap.size->Z9 k≠f->w'.heap[k]?=w.heap[k]?)(O:Zm Nat)(P:O=f\/O=Z9 w.heap.size):GE w' O r x:=by
 obtain⟨A,C,z,B,E,G,I,J,K,u⟩:=h;refine⟨A,C,z,B,E,G,I,J,?_,fun Q b m=>?_⟩
 .obtain⟨a,c,e,S,L⟩:=K;refine⟨a,c,e,S,fun D=>?_⟩
  obtain⟨b,o,ha,t,g⟩:=L D;subst ha;have m:=u (by omega) b (by rw[e];rfl);have q:=fun i=>ZU (w:=w) (w':=w') (a:=⟨b,i,Z7⟩) (N b t (fun e=>m.1 e.symm))
  exact⟨b,o,rfl,ZH t R,fun k j=>⟨(q _).trans (g k j).1,(q _).trans (g k j).2.1,(q _).trans (g k j).2.2⟩⟩
 .have:=u Q b m;refine⟨?_,by omega⟩
  rcases P with rfl|rfl
  .exact this.1
  .intro e;cases e;omega
structure HI (W0 wr:ZY) (F:Nat->Ef) (k:Nat) (hv:Z1) (H:Z3 Ef) (rows:Z3 (Zz Z1)):Prop where
 own:wr.ownsRow W0.heap.size 29 33 hv k (ec rows)
 len:rows.length=k
 sz:∀ r∈rows,r.size=33
 one:∀ r∈rows,bh r.toList=ZZ
 up:All2 Rise (lst F k) H
 el:∀ (j:Nat) (r:Zz Z1) (x:Ef),rows[j]?=Z9 r->H[j]?=Z9 x->GE wr hv.ownBlock r x
 bel:Z4 W0.heap.size W0 wr
theorem HI.start(W0:ZY)(F:Nat->Ef):HI W0 W0 F 0 (.slice Z7 0 0) [] [] :=
 ⟨Wl W0 _ _ 33,rfl,(fun _ h=>by cases h),(fun _ h=>by cases h),All2.nil,(fun _ _ _ h=>by simp at h),Below.refl _ _⟩
theorem HI.below(h:HI W0 wr F k hv H rows)(g:Z4 wr.heap.size wr w'):HI W0 w' F k hv H rows:=by
 refine⟨aV h.own (fun x t=>g.block x (ax h.own x t).2),h.len,h.sz,h.one,h.up,fun j r x i m=>(h.el j r x i m).keep g.size (fun k o _=>g.block k o) _ (.inl rfl),h.bel.trans (g.mono h.bel.size)⟩
theorem HI.snoc(h:HI W0 wr F k hv H rows)(z:w'.ownsRow W0.heap.size 29 33 b (k+1) (ec rows++r.toList))(u:wr.grownBy w' hv.ownBlock)(t:b.ownBlock=hv.ownBlock\/b.ownBlock=Z9 wr.heap.size)(K:Rise (F k) x)(L:r.size=33)(I:bh r.toList=ZZ)(B:GE wr hv.ownBlock r x):HI W0 w' F (k+1) b (H++[x]) (rows++[r]):=by
 refine⟨?_,by simp [h.len],fun q g=>?_,fun q g=>?_,?_,fun j q y o A=>?_,?_⟩
 .rw[pX,show ec [r]=r.toList from Yu _];exact z
 .rcases YF.1 g with g|g
  .exact h.sz q g
  .rw[Yq] at g;subst g;exact L
 .rcases YF.1 g with g|g
  .exact h.one q g
  .rw[Yq] at g;subst g;exact I
 .rw[oI];exact h.up.snoc K
 .have G:=h.up.length;rw[uH] at G;have E:=h.len;by_cases J:j<k
  .rw[XN (by omega)] at o A;exact (h.el j q y o A).keep u.size (fun i C m=>u.block i C m) _ t
  .have D:=(Yh.1 o).1;simp at D
   obtain rfl:j=k:=by omega
   rw[YG (by omega),E,Nat.sub_self] at o;rw[YG (by omega),<-G,Nat.sub_self] at A;simp at o A
   subst o A;exact B.keep u.size (fun i C m=>u.block i C m) _ t
 .exact h.bel.grown u h.bel.size (fun q g=>(ax h.own q g).1)
theorem HI.es(h:HI W0 wr F k hv H rows)(O:k<=1000) :
 ∃ (a:Zm XE) (c:Nat) (G:Nat->Ef),hv=.slice a k c/\ES wr a k G/\lst G k=H/\(∀ j,j<k->(G j).n2<=12):=by
 have K:=h.up.length;rw[uH] at K;obtain⟨a,c,rfl⟩:=bX h.own
 have jm:∀ j (i:j<k),∃ r,rows[j]?=Z9 r/\GE wr (XS a k c).ownBlock r (H.getD j ⟨En.zero,0,0,[]⟩):=fun j i=>by
  have m:rows[j]?=Z9 (rows[j]'(by have:=h.len;omega)):=ZF _;have o:H[j]?=Z9 (H[j]'(by omega)):=ZF _;refine⟨_,m,?_⟩
  rw[Zn,o];exact h.el j _ _ m o
 refine⟨a,c,fun j=>H.getD j ⟨En.zero,0,0,[]⟩,rfl,⟨by omega,fun j i=>?_⟩,?_,fun j i=>?_⟩
 .obtain⟨r,m,A,C,z,B,o,D,t,E,I,-⟩:=jm j i;obtain⟨g,N,e,-,u,L⟩:=own_mid h.sz h.own j r m;injection e with J
  refine⟨g,0,J,u,A,C,z,B,?_,D,ZE t (by decide),fun _=>⟨E,I⟩⟩
  rw[Yj,L,o]
 .apply List.ext_getElem?
  intro j;unfold lst;rw[Yg];by_cases i:j<k
  .rw[WE i,Option.map_some,Zn,ZF (by omega)];rfl
  .rw[XZ (by simp;omega),XZ (by omega)];rfl
 .obtain⟨r,m,A,C,z,B,o,D,t,E,I,-⟩:=jm j i;exact t
theorem vE{t:TypeId}(h:X.heap.size=q)(z:cs.size=33):CS (X.alloc (.cells cs t)) 33 (.slice (Z9 ⟨q,0,Z7⟩) 1 1) 1 cs.toList:=by
 subst h;refine⟨_,_,rfl,by simp [z],fun _=>⟨_,rfl,fun j u g=>?_⟩⟩
 rw[Addr.add_lit,Yj,cell_of_row _ X.heap.size j cs t (0,0) (heap_alloc_new X _)];simpa using g
theorem all1(h:bh cs.toList=ZZ):∀ u∈cs.toList,u.oneCell'=ZZ:=fun u g=>List.all_eq_true.1 (l8 _ h) u g
theorem ES.all{c:Nat}(h:ES w a n F) :
 ∃ rows:Z3 (Zz Z1),CS w 33 (.slice a n c) n (ec rows)/\rows.length=n/\(∀ r∈rows,r.size=33)/\(∀ r∈rows,bh r.toList=ZZ)/\∀ (k:Nat) (r:Zz Z1),rows[k]?=Z9 r->∃ b o,a=Z9 ⟨b,o,Z7⟩/\mid w b (o+k*33)=r/\k<n:=by
 rcases Nat.eq_zero_or_pos n with j|j
 .subst j;exact⟨[],⟨a,c,rfl,rfl,fun h=>absurd h (by decide)⟩,rfl,(fun _ h=>by cases h),(fun _ h=>by cases h),fun k r h=>by simp at h⟩
 .obtain⟨b,o,rfl,-⟩:=h.2 0 j;refine⟨im w b o n,h.cells,by unfold im;simp,h.size b o rfl,h.ones b o rfl,fun k r i=>?_⟩
  have g:=(Yh.1 i).1;unfold im at g i;simp at g
  refine⟨b,o,rfl,?_,g⟩
  rw[Yg,WE g,Option.map_some] at i;exact ZL i
section
def GJ(base:Nat)(wr:ZY)(f:Zm Nat)(r:Zz Z1)(x:Ef):Prop :=
 ∃ (g:Zm XE) (h:Nat) (A:Zm XE) (C:Nat),r=x.e.vals (.slice g x.n1 h) (.slice A x.n2 C)/\x.n1<=9223372036854775807/\x.n2<=1000/\x.gs.length=x.n2/\GS wr (.slice A x.n2 C) x.gs/\(0<x.n2->∀ b,(XS A x.n2 C).ownBlock=Z9 b->f≠Z9 b/\base<=b/\b<wr.heap.size)
theorem GJ.keep(h:GJ base w f r x)(R:w.heap.size<=w'.heap.size)(N:∀ k,base<=k->k<w.heap.size->Z9 k≠f->w'.heap[k]?=w.heap[k]?)(O:Zm Nat)(P:O=f\/O=Z9 w.heap.size):GJ base w' O r x:=by
 obtain⟨A,C,z,B,E,G,I,J,K,u⟩:=h;refine⟨A,C,z,B,E,G,I,J,?_,fun Q b m=>?_⟩
 .obtain⟨a,c,e,S,L⟩:=K;refine⟨a,c,e,S,fun D=>?_⟩
  obtain⟨b,o,ha,t,g⟩:=L D;subst ha;have m:=u (by omega) b (by rw[e];rfl);have q:=fun i=>ZU (w:=w) (w':=w') (a:=⟨b,i,Z7⟩) (N b m.2.1 t (fun e=>m.1 e.symm))
  exact⟨b,o,rfl,ZH t R,fun k j=>⟨(q _).trans (g k j).1,(q _).trans (g k j).2.1,(q _).trans (g k j).2.2⟩⟩
 .have:=u Q b m;refine⟨?_,this.2.1,by omega⟩
  rcases P with rfl|rfl
  .exact this.1
  .intro e;cases e;omega
structure HJ (base:Nat) (wr:ZY) (hv:Z1) (H:Z3 Ef) (rows:Z3 (Zz Z1)):Prop where
 own:wr.ownsRow base 29 33 hv H.length (ec rows)
 len:rows.length=H.length
 sz:∀ r∈rows,r.size=33
 one:∀ r∈rows,bh r.toList=ZZ
 el:∀ (j:Nat) (r:Zz Z1) (x:Ef),rows[j]?=Z9 r->H[j]?=Z9 x->GJ base wr hv.ownBlock r x
theorem HJ.start(base:Nat)(wr:ZY):HJ base wr (.slice Z7 0 0) [] [] :=
 ⟨Wl wr _ _ 33,rfl,(fun _ h=>by cases h),(fun _ h=>by cases h),(fun _ _ _ h=>by simp at h)⟩
theorem HJ.keep(h:HJ base w hv H rows)(t:w.heap.size<=w'.heap.size)(m:∀ k,base<=k->k<w.heap.size->w'.heap[k]?=w.heap[k]?):HJ base w' hv H rows :=
 ⟨aV h.own (fun x o=>m x (ax h.own x o).1 (ax h.own x o).2),h.len,h.sz,h.one,fun j r x g i=>(h.el j r x g i).keep t (fun k g i _=>m k g i) _ (.inl rfl)⟩
theorem HJ.snoc(h:HJ base wr hv H rows)(u:w'.ownsRow base 29 33 b (H.length+1) (ec rows++r.toList))(A:wr.grownBy w' hv.ownBlock)(t:b.ownBlock=hv.ownBlock\/b.ownBlock=Z9 wr.heap.size)(J:r.size=33)(G:bh r.toList=ZZ)(B:GJ base wr hv.ownBlock r x):HJ base w' b (H++[x]) (rows++[r]):=by
 refine⟨?_,by simp [h.len],fun q g=>?_,fun q g=>?_,fun j q y o z=>?_⟩
 .rw[pX,show ec [r]=r.toList from Yu _,List.length_append];exact u
 .rcases YF.1 g with g|g
  .exact h.sz q g
  .rw[Yq] at g;subst g;exact J
 .rcases YF.1 g with g|g
  .exact h.one q g
  .rw[Yq] at g;subst g;exact G
 .have E:=h.len;by_cases I:j<H.length
  .rw[XN (by omega)] at o z;exact (h.el j q y o z).keep A.size (fun i _ C m=>A.block i C m) _ t
  .have D:=(Yh.1 o).1;simp at D
   obtain rfl:j=H.length:=by omega
   rw[YG (by omega),E,Nat.sub_self] at o;rw[YG (by omega),Nat.sub_self] at z;simp at o z
   subst o z;exact B.keep A.size (fun i _ C m=>A.block i C m) _ t
theorem HJ.es(h:HJ base wr hv H rows)(N:H.length<=1000000) :
 ∃ (a:Zm XE) (c:Nat) (G:Nat->Ef),hv=.slice a H.length c/\ES wr a H.length G/\lst G H.length=H/\(∀ j,j<H.length->(G j).n2<=1000):=by
 obtain⟨a,c,rfl⟩:=bX h.own
 have jm:∀ j (i:j<H.length),∃ r,rows[j]?=Z9 r/\GJ base wr (XS a H.length c).ownBlock r (H.getD j ⟨En.zero,0,0,[]⟩):=fun j i=>by
  have m:rows[j]?=Z9 (rows[j]'(by have:=h.len;omega)):=ZF _;have o:H[j]?=Z9 (H[j]'(by omega)):=ZF _;refine⟨_,m,?_⟩
  rw[Zn,o];exact h.el j _ _ m o
 refine⟨a,c,fun j=>H.getD j ⟨En.zero,0,0,[]⟩,rfl,⟨by omega,fun j i=>?_⟩,?_,fun j i=>?_⟩
 .obtain⟨r,m,A,C,z,B,o,D,t,E,I,-⟩:=jm j i;obtain⟨g,L,e,-,u,K⟩:=own_mid h.sz h.own j r m;injection e with J
  refine⟨g,0,J,u,A,C,z,B,?_,D,ZE t (by decide),fun _=>⟨E,I⟩⟩
  rw[Yj,K,o]
 .apply List.ext_getElem?
  intro j;unfold lst;rw[Yg];by_cases i:j<H.length
  .rw[WE i,Option.map_some,Zn,ZF (by omega)];rfl
  .rw[XZ (by simp;omega),XZ (by omega)];rfl
 .obtain⟨r,m,A,C,z,B,o,D,t,E,I,-⟩:=jm j i;exact t
def cY(y:Fu):Ef:=⟨y.1,y.2.1.length,y.2.2.length,y.2.2⟩
structure SHs (w0 wr:ZY) (p:Nat) (sv:Z1) (l:Z3 Rw) (fl cd ca:Int):Prop where
 f:SHf wr p sv fl cd ca
 r:RwS wr sv l
 ne:∀ b,sv.ownBlock=Z9 b->b≠p
 p0:w0.heap.size<=p
 pl:p<wr.heap.size
 b:Z4 w0.heap.size w0 wr
theorem SHs.below(h:SHs w0 wr p sv l fl cd ca)(g:Z4 wr.heap.size wr w'):SHs w0 w' p sv l fl cd ca :=
 ⟨⟨am g h.f.1 (by simp),fun o=>(g.frozen (p:=⟨p,o,Z7⟩) h.pl).trans (h.f.2 o)⟩,h.r.below g,h.ne,h.p0,ZH h.pl g.size,bt h.b g⟩
theorem SHs.tick(h:SHs w0 wr p sv l fl cd ca)(c:Int)(q:Nat):SHs w0 ((wr.setCell ⟨p,3,Z7⟩ (.int .i64 c)).drewN q) p sv l fl cd c/\wr.grownBy ((wr.setCell ⟨p,3,Z7⟩ (.int .i64 c)).drewN q) (Z9 p):=by
 have g:wr.grownBy ((wr.setCell ⟨p,3,Z7⟩ (.int .i64 c)).drewN q) (Z9 p):=by
  have:=de wr ⟨p,3,Z7⟩ (.int .i64 c);exact⟨this.os,this.tape,this.output,this.size,this.block⟩
 have i:Held wr p 4:=⟨by rw[h.f.1];rfl,by decide,h.f.2⟩;refine⟨⟨⟨?_,fun o=>?_⟩,h.r.keep g.size (fun b j m=>g.block b m (fun e=>h.ne b j (ZL e))),h.ne,h.p0,?_,?_⟩,g⟩
 .rw[aM,CO i,au i,h.f.1];rfl
 .have:=h.f.2 o;simpa using this
 .have:=h.pl;simpa using this
 .exact h.b.trans (gJ g h.p0 h.b.size)
theorem aJ{a b:ZY}{p:Zm Nat}(h:a.grownBy b p)(k:b.grownBy c p):a.grownBy c p:=World.grownBy.trans h k
theorem bo{a b:ZY}(p:Zm Nat)(h:Z4 a.heap.size a b):a.grownBy b p:=⟨h.os,h.tape,h.output,h.size,fun k g _=>h.block k g⟩
def xq:Z1->Z6|.string s=>s|_=>⟨#[]⟩
theorem HJ.tick(h:HJ base w hv H rows)(g:w.grownBy w' (Z9 p))(m:p<base):HJ base w' hv H rows :=
 h.keep g.size fun k j i=>g.block k i (fun e=>by have:=ZL e;omega)
theorem sC(a:XE)(n:Nat)(w:ZY) : (method (n + 1) 56 (.pointer (Z9 a)) "Next").run Tryz.prog w = .ok (371, .pointer (Z9 a)) w := by kernel_rfl
theorem HJ.below(h:HJ base w hv H rows)(g:Z4 w.heap.size w w'):HJ base w' hv H rows :=
 h.keep g.size fun k _ i=>g.block k i
theorem tK(p:Nat)(sv:Z1)(l:Z3 Rw)(fl cd ca id:Int)(key:Z6)(w0 w:ZY)(h:SHs w0 w p sv l fl cd ca)(g:0<=ca)(i:ca<1000000000) :
 Calls Tryz.prog 371 #[.pointer (Z9 ⟨p,0,Z7⟩),.int .i64 id,.string key] w fun r w'=>r=.returned (jn fl cd ca (nx id (Ds.bl key) l))/\SHs w0 w' p sv l fl cd (ca+1)/\w.grownBy w' (Z9 p):=by
 refine (FO p sv fl cd ca id key l w h.f h.r h.ne g i).mono ?_
 rintro _ w' ⟨rfl,q,rfl⟩;exact⟨rfl,(h.tick (ca+1) q).1,(h.tick (ca+1) q).2⟩
theorem Cd(w:ZY)(B:MaxL w)(T:Tab w)(h:cF (Ds.bl s)=Z9 y) :
 Calls Tryz.prog 30 #[.string s] w fun r w'=>∃ (A:Zm XE) (C:Nat) (g:Zm XE) (i:Nat),r=.returned (.tuple #[.agg (y.1.vals (.slice A y.2.1.length C) (.slice g y.2.2.length i)),.int .i64 0])/\IS w' (.slice A y.2.1.length C) y.2.1/\GS w' (.slice g y.2.2.length i) y.2.2/\Z4 w.heap.size w w'/\(∀ q,(XS A y.2.1.length C).ownBlock=Z9 q->w.heap.size<=q)/\(∀ q,(XS g y.2.2.length i).ownBlock=Z9 q->w.heap.size<=q):=by
 refine (rM s w B T).mono ?_
 rintro _ w' ⟨x,D,E,t,rfl,I,G,u,z,m,o⟩;rcases z with ⟨j,rfl⟩|⟨j,-,-⟩
 .obtain rfl:x=y:=ZL (j.symm.trans h);obtain⟨A,C,rfl,-⟩:=id I;obtain⟨g,i,rfl,-⟩:=id G;exact⟨A,C,g,i,rfl,I,G,u,m,o⟩
 .rw[h] at j;cases j
theorem Cc(w:ZY)(B:MaxL w)(T:Tab w)(h:cF (Ds.bl s)=Z7) :
 Calls Tryz.prog 30 #[.string s] w fun r w'=>∃ (A:Zm XE) (C:Nat) (g:Zm XE) (i:Nat),r=.returned (.tuple #[.agg (En.zero.vals (.slice A 0 C) (.slice g 0 i)),.int .i64 11])/\IS w' (.slice A 0 C) []/\GS w' (.slice g 0 i) []/\Z4 w.heap.size w w':=by
 refine (rM s w B T).mono ?_
 rintro _ w' ⟨x,D,E,j,rfl,I,G,o,t,u,z⟩;rcases t with ⟨m,rfl⟩|⟨-,rfl,rfl⟩
 .rw[h] at m;cases m
 .obtain⟨A,C,rfl,-⟩:=id I;obtain⟨g,i,rfl,-⟩:=id G;exact⟨A,C,g,i,rfl,I,G,o⟩
def aC(k:Int)(s:Z6):Z6:=⟨(Ek.key k (Ds.bl s)).toArray⟩
theorem iU(k:Int)(s:Z6):Ds.bl (aC k s)=Ek.key k (Ds.bl s):=Ds.bl_mk _
theorem jI(k:Int)(s:Z6)(w:ZY):Calls Tryz.prog 88 #[.int .i64 k,.string s] w fun r w'=>r=.returned (.string (aC k s))/\Z4 w.heap.size w w':=by
 refine (vP k s w).mono ?_
 rintro _ w' ⟨t,rfl,g,h⟩;exact⟨iD (Ds.bl_inj (g.trans (iU k s).symm)),h⟩
theorem uF(k:Z6):((aC y.1.kind y.1.name).toList==k.toList)=decide (dL y=Ds.bl k):=by
 rw[fd,Bool.eq_iff_iff,ZW,ZW];constructor
 .intro h;rw[<-h,iU];rfl
 .intro h;exact Ds.bl_inj ((iU _ _).trans h)
theorem wg(h:aA y=ZZ):y.2.2.length<=8:=by
 have z:∀ (L:Z3 Int) (g:Z3 Gr) (e f:En),dh e f L y.2.1 [] y.2.2=ZZ->y.2.2.length<=8:=fun L g e f h=>by
  have:=((dV _ _ _ _ _ _).1 h).2.2;rw[<-this];decide
 unfold aA at h;split at h
 .unfold fL at h;simp only[ZQ] at h;exact z _ [] _ _ h.2
 split at h
 .unfold fm at h;simp only[ZQ] at h;exact z _ [] _ _ h.2
 split at h
 .unfold eY at h;simp only[ZQ] at h;exact z _ [] _ _ h.2
 split at h
 .unfold fK at h;simp only[ZQ] at h;exact z _ [] _ _ h.2
 split at h
 .unfold gD Vp.prof at h;simp only[ZQ,ZW] at h;exact h.1.2.2.2.2
 .cases h
theorem sx{c:Nat}{l:Z3 Gr}(h:GS w (.slice a n c) l)(t:0<n)(b:Nat)(g:(XS a n c).ownBlock=Z9 b):b<w.heap.size:=by
 obtain⟨A,C,e,z,i⟩:=h;injection e with E m o
 obtain⟨B,O,ha,j,-⟩:=i (by omega);rw[E,ha] at g;cases g;exact j
theorem jw(h:RwS w v l)(i:l≠[])(b:Nat)(g:v.ownBlock=Z9 b):b<w.heap.size:=by
 obtain⟨A,C,rfl,z,j⟩:=h;obtain⟨B,o,ha,m,-⟩:=j (by rcases l with _|⟨_,_⟩;exact absurd rfl i;simp);rw[ha] at g;cases g;exact m
theorem SHs.belowB{B:Nat}(h:SHs w0 wr p sv l fl cd ca)(g:Z4 B wr w')(m:p<B)(j:l≠[]->∀ b,sv.ownBlock=Z9 b->b<B):SHs w0 w' p sv l fl cd ca:=by
 refine⟨⟨?_,fun o=>(g.frozen (p:=⟨p,o,Z7⟩) m).trans (h.f.2 o)⟩,?_,h.ne,h.p0,ZH h.pl g.size,h.b.trans (g.mono (by have:=h.p0;omega))⟩
 .have:=h.f.1;unfold row at *;rw[g.block p m];exact this
 .rcases l with _|⟨x,l⟩
  .obtain⟨a,c,t,u,-⟩:=h.r;exact⟨a,c,t,u,fun h=>by simp at h⟩
  .exact h.r.keep g.size fun b i _=>g.block b (j (by simp) b i)
theorem bx{a b:ZY}{p:Zm Nat}(h:a.grownBy b p)(k:Z4 a.heap.size b c):a.grownBy c p :=
 ⟨k.os.trans h.os,k.tape.trans h.tape,k.output.trans h.output,ZE h.size k.size,fun i j g=>(k.block i j).trans (h.block i j g)⟩
theorem jC{l:Z3 Fu}(h:w.ownsRow base e size v (l.map cY).length xs):w.ownsRow base e size v l.length xs:=by rwa [Zt] at h
theorem tP{l:Z3 Fu}(h:w.ownsRow base e size v (l.length+1) xs):w.ownsRow base e size v ((l.map cY).length+1) xs:=by rwa [Zt]
attribute [local go_sem ↓] aZ bf bq cl
attribute [local go_sem] bn aS aH bE bH aK aT ak aI aw az aM ah aQ aL aP aO aR aY aW bD ap aq
end
theorem SS.keep{l:Z3 Z6}(h:SS w v l)(B:w.heap.size<=w'.heap.size)(g:l≠[]->∀ b,v.ownBlock=Z9 b->b<w.heap.size->w'.heap[b]?=w.heap[b]?):SS w' v l:=by
 obtain⟨a,c,m,u,z⟩:=h;refine⟨a,c,m,u,fun j=>?_⟩
 obtain⟨b,o,ha,t,A⟩:=z j;subst ha;have q:=fun i=>ZU (w:=w) (w':=w') (a:=⟨b,i,Z7⟩) (g (List.ne_nil_of_length_pos j) b (by rw[m];rfl) t)
 exact⟨b,o,rfl,ZH t B,fun k g=>(q _).trans (A k g)⟩
theorem SHs.sub(h:SHs w0 w p sv l fl cd ca):Z4 w0.heap.size w0 w:=h.b
end Go.Proofs.YtnkjliahpeebjaaGreatDoor
