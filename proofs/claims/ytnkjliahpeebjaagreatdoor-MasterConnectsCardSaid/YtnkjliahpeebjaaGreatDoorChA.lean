/- Catalogs. -/
import Derived.Test.YtnkjliahpeebjaaGreatDoorSh
import Derived.Test.YtnkjliahpeebjaaGreatDoorDcA
set_option maxRecDepth 8000
set_option maxHeartbeats 40000000
open Option renaming some->Z9,none->Z8
open _root_ renaming ByteArray->Z7,List->Z5,if_neg->Z0,decide_eq_true_eq->ZU,Array->ZE,Option->Zy
open Go renaming Value->Z3,World->Z2,Addr->XW
open Go.World renaming cell?_of_block->Z1,ownsRow_nil->WJ
open Bool renaming true->ZZ,and_eq_true->ZT
open Nat renaming lt_of_lt_of_le->ZY,le_trans->ZD,zero_add->YE
open Go.RowKit renaming Below->ZV
open Option.some renaming inj->ZR
open List renaming getElem?_eq_getElem->ZN,getD_eq_getElem?_getD->Zx,length_map->Zq,mem_singleton->Zn,getElem?_append_right->Y5,getElem?_eq_some_iff->Y0,mem_append->YP,append_nil->YL,getElem?_append_left->Yx,getElem?_map->Yv,getElem?_eq_none->XX,getElem?_range->Xd
open Go.Value renaming slice->XF
namespace Go.Proofs.YtnkjliahpeebjaaGreatDoor
open Go.RowKit
variable{W0 X:Z2}{f:Z5 UInt8}(s:Z7){a:Zy XW}{w0 w wr w' c:Z2}{g:Zy Nat}{e n base p k q d:Nat}{hv sv b v:Z3}{l:Z5 Rw}{H:Z5 Ef}{xs:Z5 Z3}{rows:Z5 (ZE Z3)}(y:Fu){r cs:ZE Z3}{x:Ef}{cd ca fl:Int}{F:Nat->Ef}
section
attribute [local go_sem ↓] aZ bf bq fb
attribute [local go_sem] bn aS aH bE bH aK aT ak aI aw az aM ah aQ aL aP aO aR aY aW ap aq cC
def BI2(f:Z5 UInt8)(F:Nat->Ef)(k:Nat)(j:Int):Prop:=(best f (lst F k)=Z8/\j=-1)\/∃ i:Nat,j=i/\i<k/\best f (lst F k)=Z9 (F i)
theorem BI2.keep{j:Int}(h:BI2 f F k j)(t:hits f (F k)=false\/ahead (F k) (best f (lst F k))=false):BI2 f F (k+1) j:=by
 have e:best f (lst F (k+1))=best f (lst F k):=by
  rw[oI,r8];unfold bstep;rw[Z0 (by rcases t with h|h <;> simp [h])]
 unfold BI2;rw[e];rcases h with h|⟨i,m,u,o⟩
 .exact Or.inl h
 .exact Or.inr ⟨i,m,by omega,o⟩
theorem BI2.take(h:hits f (F k)=ZZ)(i:ahead (F k) (best f (lst F k))=ZZ):BI2 f F (k+1) (k:Int):=by
 refine Or.inr ⟨k,rfl,by omega,?_⟩
 rw[oI,r8];unfold bstep;rw[if_pos ⟨h,i⟩]
def zE:ZE Z3:=zlit 0 ⟨#[]⟩
def BW(w wr:Z2):Prop:=EB wr w.heap.size zE/\ZV w.heap.size w wr
theorem BW.below(h:BW w wr)(i:ZV wr.heap.size wr w'):BW w w' :=
 ⟨h.1.of_block (i.block _ h.1.2.2) i.size,bt h.2 i⟩
theorem BW.after{o:Obj}(h:BW w wr)(i:ZV (wr.alloc o).heap.size (wr.alloc o) w'):BW w w':=h.below (below1 i)
theorem CO{g:Nat}(h:Held w g n)(i:Nat)(v:Z3):w.setCell ⟨g,i,Z8⟩ v=w.setRow g ((row w g).setIfInBounds i v):=by
 obtain⟨t,j,m⟩:=fR h;exact setCell_eq_setRow w g i _ t j v m
end
section
attribute [local go_sem ↓] aZ
attribute [local go_sem] bn aS aH aK aT az aM ah ap aq bN cK cC
end
section
theorem yF(w:Z2)(z cs:ZE Z3)(t:TypeId)(o:Obj):((w.alloc (.cells z t)).alloc o).setRow w.heap.size cs=(w.alloc (.cells cs t)).alloc o:=by
 unfold World.setRow World.alloc;congr 1
 apply Array.ext_getElem?
 intro i;simp only[Array.getElem?_modify,Array.getElem?_push,Array.size_push]
 by_cases h:w.heap.size=i
 .subst h;simp
 .rw[Z0 h];by_cases j:i=w.heap.size+1
  .rw[if_pos j,if_pos j]
  .rw[Z0 j,Z0 j,Z0 (fun e=>h e.symm),Z0 (fun e=>h e.symm)]
theorem qA(E:Operand->Z3)(w:Z2)(z:ZE Z3)(t:TypeId)(o:Obj)(dst x y t' pos af gd)(i:z.size=33)(j:db (E x)=ZZ)(h:bF (E x)=w.heap.size)(m:cV (E y)=ZZ)(u:(bA (E y)).size=33)(A:bh (bA (E y)).toList=ZZ) :
 (execOp E ⟨dst,.store 29 x y,t',pos,af,gd⟩).run Tryz.prog ((w.alloc (.cells z t)).alloc o)=.ok .skip ((w.alloc (.cells (bA (E y)) t)).alloc o):=by
 have B:Held ((w.alloc (.cells z t)).alloc o) w.heap.size 33:=⟨by rw[aI];exact i,by decide,fun q=>by simp⟩;rw[<-yF w z (bA (E y)) t o,<-h];exact bq E _ dst x y t' pos af gd j (by rw[h];exact B) m u A
attribute [local go_sem ↓] aZ bf qA
attribute [local go_sem] aS aH aK aT ak aI aw az aM ah aQ aL aP aO aR aY aW bD
end
def BS(w:Z2)(a:Zy XW)(n:Nat):Prop:=n<=9223372036854775807/\∀ k,k<n->∃ (b o:Nat) (v:UInt8),a=Z9 ⟨b,o,Z8⟩/\b<w.heap.size/\w.cell? ⟨b,o+k,Z8⟩=Z9 (.int .u8 (v.toNat:Nat))
theorem BS.below(h:BS w a n)(i:ZV w.heap.size w w'):BS w' a n :=
 ⟨h.1,fun k u=>by
  obtain⟨b,o,v,j,m,t⟩:=h.2 k u;exact⟨b,o,v,j,ZY m i.size,ai i t⟩⟩
def GE(wr:Z2)(g:Zy Nat)(r:ZE Z3)(x:Ef):Prop :=
 ∃ (h:Zy XW) (i:Nat) (A:Zy XW) (C:Nat),r=x.e.vals (.slice h x.n1 i) (.slice A x.n2 C)/\x.n1<=9223372036854775807/\x.n2<=12/\x.gs.length=x.n2/\GS wr (.slice A x.n2 C) x.gs/\(0<x.n2->∀ b,(XF A x.n2 C).ownBlock=Z9 b->g≠Z9 b/\b<wr.heap.size)
theorem GE.keep(h:GE w g r x)(S:w.heap.size<=w'.heap.size)(P:∀ k,k<w.heap.size->Z9 k≠g->w'.heap[k]?=w.heap[k]?)(O:Zy Nat)(Q:O=g\/O=Z9 w.heap.size):GE w' O r x:=by
 obtain⟨A,C,B,D,G,I,J,K,L,z⟩:=h;refine⟨A,C,B,D,G,I,J,K,?_,fun R b u=>?_⟩
 .obtain⟨a,c,e,T,N⟩:=L;refine⟨a,c,e,T,fun E=>?_⟩
  obtain⟨b,o,ha,t,j⟩:=N E;subst ha;have u:=z (by omega) b (by rw[e];rfl);have q:=fun i=>Z1 (w:=w) (w':=w') (a:=⟨b,i,Z8⟩) (P b t (fun e=>u.1 e.symm))
  exact⟨b,o,rfl,ZY t S,fun k m=>⟨(q _).trans (j k m).1,(q _).trans (j k m).2.1,(q _).trans (j k m).2.2⟩⟩
 .have:=z R b u;refine⟨?_,by omega⟩
  rcases Q with rfl|rfl
  .exact this.1
  .intro e;cases e;omega
structure HI (W0 wr:Z2) (F:Nat->Ef) (k:Nat) (hv:Z3) (H:Z5 Ef) (rows:Z5 (ZE Z3)):Prop where
 own:wr.ownsRow W0.heap.size 29 33 hv k (ec rows)
 len:rows.length=k
 sz:∀ r∈rows,r.size=33
 one:∀ r∈rows,bh r.toList=ZZ
 up:All2 Rise (lst F k) H
 el:∀ (j:Nat) (r:ZE Z3) (x:Ef),rows[j]?=Z9 r->H[j]?=Z9 x->GE wr hv.ownBlock r x
 bel:ZV W0.heap.size W0 wr
theorem HI.start(W0:Z2)(F:Nat->Ef):HI W0 W0 F 0 (.slice Z8 0 0) [] [] :=
 ⟨WJ W0 _ _ 33,rfl,(fun _ h=>by cases h),(fun _ h=>by cases h),All2.nil,(fun _ _ _ h=>by simp at h),Below.refl _ _⟩
theorem HI.below(h:HI W0 wr F k hv H rows)(i:ZV wr.heap.size wr w'):HI W0 w' F k hv H rows:=by
 refine⟨aV h.own (fun x u=>i.block x (ax h.own x u).2),h.len,h.sz,h.one,h.up,fun j r x m o=>(h.el j r x m o).keep i.size (fun k t _=>i.block k t) _ (.inl rfl),h.bel.trans (i.mono h.bel.size)⟩
theorem HI.snoc(h:HI W0 wr F k hv H rows)(A:w'.ownsRow W0.heap.size 29 33 b (k+1) (ec rows++r.toList))(z:wr.grownBy w' hv.ownBlock)(u:b.ownBlock=hv.ownBlock\/b.ownBlock=Z9 wr.heap.size)(L:Rise (F k) x)(N:r.size=33)(J:bh r.toList=ZZ)(C:GE wr hv.ownBlock r x):HI W0 w' F (k+1) b (H++[x]) (rows++[r]):=by
 refine⟨?_,by simp [h.len],fun q m=>?_,fun q m=>?_,?_,fun j q y t B=>?_,?_⟩
 .rw[pX,show ec [r]=r.toList from YL _];exact A
 .rcases YP.1 m with m|m
  .exact h.sz q m
  .rw[Zn] at m;subst m;exact N
 .rcases YP.1 m with m|m
  .exact h.one q m
  .rw[Zn] at m;subst m;exact J
 .rw[oI];exact h.up.snoc L
 .have I:=h.up.length;rw[uH] at I;have G:=h.len;by_cases K:j<k
  .rw[Yx (by omega)] at t B;exact (h.el j q y t B).keep z.size (fun i D o=>z.block i D o) _ u
  .have E:=(Y0.1 t).1;simp at E
   obtain rfl:j=k:=by omega
   rw[Y5 (by omega),G,Nat.sub_self] at t;rw[Y5 (by omega),<-I,Nat.sub_self] at B;simp at t B
   subst t B;exact C.keep z.size (fun i D o=>z.block i D o) _ u
 .exact h.bel.grown z h.bel.size (fun q m=>(ax h.own q m).1)
theorem HI.es(h:HI W0 wr F k hv H rows)(O:k<=1000) :
 ∃ (a:Zy XW) (c:Nat) (G:Nat->Ef),hv=.slice a k c/\ES wr a k G/\lst G k=H/\(∀ j,j<k->(G j).n2<=12):=by
 have K:=h.up.length;rw[uH] at K;obtain⟨a,c,rfl⟩:=bX h.own
 have jm:∀ j (i:j<k),∃ r,rows[j]?=Z9 r/\GE wr (XF a k c).ownBlock r (H.getD j ⟨En.zero,0,0,[]⟩):=fun j i=>by
  have m:rows[j]?=Z9 (rows[j]'(by have:=h.len;omega)):=ZN _;have o:H[j]?=Z9 (H[j]'(by omega)):=ZN _;refine⟨_,m,?_⟩
  rw[Zx,o];exact h.el j _ _ m o
 refine⟨a,c,fun j=>H.getD j ⟨En.zero,0,0,[]⟩,rfl,⟨by omega,fun j i=>?_⟩,?_,fun j i=>?_⟩
 .obtain⟨r,m,A,C,z,B,o,D,t,E,I,-⟩:=jm j i;obtain⟨g,N,e,-,u,L⟩:=own_mid h.sz h.own j r m;injection e with J
  refine⟨g,0,J,u,A,C,z,B,?_,D,ZD t (by decide),fun _=>⟨E,I⟩⟩
  rw[YE,L,o]
 .apply List.ext_getElem?
  intro j;unfold lst;rw[Yv];by_cases i:j<k
  .rw[Xd i,Option.map_some,Zx,ZN (by omega)];rfl
  .rw[XX (by simp;omega),XX (by omega)];rfl
 .obtain⟨r,m,A,C,z,B,o,D,t,E,I,-⟩:=jm j i;exact t
theorem vE{t:TypeId}(h:X.heap.size=q)(z:cs.size=33):CS (X.alloc (.cells cs t)) 33 (.slice (Z9 ⟨q,0,Z8⟩) 1 1) 1 cs.toList:=by
 subst h;refine⟨_,_,rfl,by simp [z],fun _=>⟨_,rfl,fun j u i=>?_⟩⟩
 rw[Addr.add_lit,YE,cell_of_row _ X.heap.size j cs t (0,0) (heap_alloc_new X _)];simpa using i
theorem all1(h:bh cs.toList=ZZ):∀ u∈cs.toList,u.oneCell'=ZZ:=fun u i=>List.all_eq_true.1 (l8 _ h) u i
theorem ES.all{c:Nat}(h:ES w a n F) :
 ∃ rows:Z5 (ZE Z3),CS w 33 (.slice a n c) n (ec rows)/\rows.length=n/\(∀ r∈rows,r.size=33)/\(∀ r∈rows,bh r.toList=ZZ)/\∀ (k:Nat) (r:ZE Z3),rows[k]?=Z9 r->∃ b o,a=Z9 ⟨b,o,Z8⟩/\mid w b (o+k*33)=r/\k<n:=by
 rcases Nat.eq_zero_or_pos n with m|m
 .subst m;exact⟨[],⟨a,c,rfl,rfl,fun h=>absurd h (by decide)⟩,rfl,(fun _ h=>by cases h),(fun _ h=>by cases h),fun k r h=>by simp at h⟩
 .obtain⟨b,o,rfl,-⟩:=h.2 0 m;refine⟨im w b o n,h.cells,by unfold im;simp,h.size b o rfl,h.ones b o rfl,fun k r j=>?_⟩
  have i:=(Y0.1 j).1;unfold im at i j;simp at i
  refine⟨b,o,rfl,?_,i⟩
  rw[Yv,Xd i,Option.map_some] at j;exact ZR j
section
def GJ(base:Nat)(wr:Z2)(g:Zy Nat)(r:ZE Z3)(x:Ef):Prop :=
 ∃ (h:Zy XW) (i:Nat) (A:Zy XW) (C:Nat),r=x.e.vals (.slice h x.n1 i) (.slice A x.n2 C)/\x.n1<=9223372036854775807/\x.n2<=1000/\x.gs.length=x.n2/\GS wr (.slice A x.n2 C) x.gs/\(0<x.n2->∀ b,(XF A x.n2 C).ownBlock=Z9 b->g≠Z9 b/\base<=b/\b<wr.heap.size)
theorem GJ.keep(h:GJ base w g r x)(S:w.heap.size<=w'.heap.size)(P:∀ k,base<=k->k<w.heap.size->Z9 k≠g->w'.heap[k]?=w.heap[k]?)(O:Zy Nat)(Q:O=g\/O=Z9 w.heap.size):GJ base w' O r x:=by
 obtain⟨A,C,B,D,G,I,J,K,L,z⟩:=h;refine⟨A,C,B,D,G,I,J,K,?_,fun R b u=>?_⟩
 .obtain⟨a,c,e,T,N⟩:=L;refine⟨a,c,e,T,fun E=>?_⟩
  obtain⟨b,o,ha,t,j⟩:=N E;subst ha;have u:=z (by omega) b (by rw[e];rfl);have q:=fun i=>Z1 (w:=w) (w':=w') (a:=⟨b,i,Z8⟩) (P b u.2.1 t (fun e=>u.1 e.symm))
  exact⟨b,o,rfl,ZY t S,fun k m=>⟨(q _).trans (j k m).1,(q _).trans (j k m).2.1,(q _).trans (j k m).2.2⟩⟩
 .have:=z R b u;refine⟨?_,this.2.1,by omega⟩
  rcases Q with rfl|rfl
  .exact this.1
  .intro e;cases e;omega
structure HJ (base:Nat) (wr:Z2) (hv:Z3) (H:Z5 Ef) (rows:Z5 (ZE Z3)):Prop where
 own:wr.ownsRow base 29 33 hv H.length (ec rows)
 len:rows.length=H.length
 sz:∀ r∈rows,r.size=33
 one:∀ r∈rows,bh r.toList=ZZ
 el:∀ (j:Nat) (r:ZE Z3) (x:Ef),rows[j]?=Z9 r->H[j]?=Z9 x->GJ base wr hv.ownBlock r x
theorem HJ.start(base:Nat)(wr:Z2):HJ base wr (.slice Z8 0 0) [] [] :=
 ⟨WJ wr _ _ 33,rfl,(fun _ h=>by cases h),(fun _ h=>by cases h),(fun _ _ _ h=>by simp at h)⟩
theorem HJ.keep(h:HJ base w hv H rows)(u:w.heap.size<=w'.heap.size)(o:∀ k,base<=k->k<w.heap.size->w'.heap[k]?=w.heap[k]?):HJ base w' hv H rows :=
 ⟨aV h.own (fun x t=>o x (ax h.own x t).1 (ax h.own x t).2),h.len,h.sz,h.one,fun j r x i m=>(h.el j r x i m).keep u (fun k i m _=>o k i m) _ (.inl rfl)⟩
theorem HJ.snoc(h:HJ base wr hv H rows)(z:w'.ownsRow base 29 33 b (H.length+1) (ec rows++r.toList))(B:wr.grownBy w' hv.ownBlock)(u:b.ownBlock=hv.ownBlock\/b.ownBlock=Z9 wr.heap.size)(K:r.size=33)(I:bh r.toList=ZZ)(C:GJ base wr hv.ownBlock r x):HJ base w' b (H++[x]) (rows++[r]):=by
 refine⟨?_,by simp [h.len],fun q m=>?_,fun q m=>?_,fun j q y t A=>?_⟩
 .rw[pX,show ec [r]=r.toList from YL _,List.length_append];exact z
 .rcases YP.1 m with m|m
  .exact h.sz q m
  .rw[Zn] at m;subst m;exact K
 .rcases YP.1 m with m|m
  .exact h.one q m
  .rw[Zn] at m;subst m;exact I
 .have G:=h.len;by_cases J:j<H.length
  .rw[Yx (by omega)] at t A;exact (h.el j q y t A).keep B.size (fun i _ D o=>B.block i D o) _ u
  .have E:=(Y0.1 t).1;simp at E
   obtain rfl:j=H.length:=by omega
   rw[Y5 (by omega),G,Nat.sub_self] at t;rw[Y5 (by omega),Nat.sub_self] at A;simp at t A
   subst t A;exact C.keep B.size (fun i _ D o=>B.block i D o) _ u
theorem HJ.es(h:HJ base wr hv H rows)(N:H.length<=1000000) :
 ∃ (a:Zy XW) (c:Nat) (G:Nat->Ef),hv=.slice a H.length c/\ES wr a H.length G/\lst G H.length=H/\(∀ j,j<H.length->(G j).n2<=1000):=by
 obtain⟨a,c,rfl⟩:=bX h.own
 have jm:∀ j (i:j<H.length),∃ r,rows[j]?=Z9 r/\GJ base wr (XF a H.length c).ownBlock r (H.getD j ⟨En.zero,0,0,[]⟩):=fun j i=>by
  have m:rows[j]?=Z9 (rows[j]'(by have:=h.len;omega)):=ZN _;have o:H[j]?=Z9 (H[j]'(by omega)):=ZN _;refine⟨_,m,?_⟩
  rw[Zx,o];exact h.el j _ _ m o
 refine⟨a,c,fun j=>H.getD j ⟨En.zero,0,0,[]⟩,rfl,⟨by omega,fun j i=>?_⟩,?_,fun j i=>?_⟩
 .obtain⟨r,m,A,C,z,B,o,D,t,E,I,-⟩:=jm j i;obtain⟨g,L,e,-,u,K⟩:=own_mid h.sz h.own j r m;injection e with J
  refine⟨g,0,J,u,A,C,z,B,?_,D,ZD t (by decide),fun _=>⟨E,I⟩⟩
  rw[YE,K,o]
 .apply List.ext_getElem?
  intro j;unfold lst;rw[Yv];by_cases i:j<H.length
  .rw[Xd i,Option.map_some,Zx,ZN (by omega)];rfl
  .rw[XX (by simp;omega),XX (by omega)];rfl
 .obtain⟨r,m,A,C,z,B,o,D,t,E,I,-⟩:=jm j i;exact t
def cY(y:Fu):Ef:=⟨y.1,y.2.1.length,y.2.2.length,y.2.2⟩
structure SHs (w0 wr:Z2) (p:Nat) (sv:Z3) (l:Z5 Rw) (fl cd ca:Int):Prop where
 f:SHf wr p sv fl cd ca
 r:RwS wr sv l
 ne:∀ b,sv.ownBlock=Z9 b->b≠p
 p0:w0.heap.size<=p
 pl:p<wr.heap.size
 b:ZV w0.heap.size w0 wr
theorem SHs.below(h:SHs w0 wr p sv l fl cd ca)(i:ZV wr.heap.size wr w'):SHs w0 w' p sv l fl cd ca :=
 ⟨⟨am i h.f.1 (by simp),fun o=>(i.frozen (p:=⟨p,o,Z8⟩) h.pl).trans (h.f.2 o)⟩,h.r.below i,h.ne,h.p0,ZY h.pl i.size,bt h.b i⟩
theorem SHs.tick(h:SHs w0 wr p sv l fl cd ca)(c:Int)(q:Nat):SHs w0 ((wr.setCell ⟨p,3,Z8⟩ (.int .i64 c)).drewN q) p sv l fl cd c/\wr.grownBy ((wr.setCell ⟨p,3,Z8⟩ (.int .i64 c)).drewN q) (Z9 p):=by
 have i:wr.grownBy ((wr.setCell ⟨p,3,Z8⟩ (.int .i64 c)).drewN q) (Z9 p):=by
  have:=de wr ⟨p,3,Z8⟩ (.int .i64 c);exact⟨this.os,this.tape,this.output,this.size,this.block⟩
 have j:Held wr p 4:=⟨by rw[h.f.1];rfl,by decide,h.f.2⟩;refine⟨⟨⟨?_,fun o=>?_⟩,h.r.keep i.size (fun b m t=>i.block b t (fun e=>h.ne b m (ZR e))),h.ne,h.p0,?_,?_⟩,i⟩
 .rw[aM,CO j,au j,h.f.1];rfl
 .have:=h.f.2 o;simpa using this
 .have:=h.pl;simpa using this
 .exact h.b.trans (gJ i h.p0 h.b.size)
theorem aJ{a b:Z2}{p:Zy Nat}(h:a.grownBy b p)(k:b.grownBy c p):a.grownBy c p:=World.grownBy.trans h k
theorem bo{a b:Z2}(p:Zy Nat)(h:ZV a.heap.size a b):a.grownBy b p:=⟨h.os,h.tape,h.output,h.size,fun k i _=>h.block k i⟩
def zy:Z3->Z7|.string s=>s|_=>⟨#[]⟩
theorem HJ.tick(h:HJ base w hv H rows)(i:w.grownBy w' (Z9 p))(o:p<base):HJ base w' hv H rows :=
 h.keep i.size fun k m j=>i.block k j (fun e=>by have:=ZR e;omega)
theorem tc(a:XW)(n:Nat)(w:Z2) : (method (n + 1) 56 (.pointer (Z9 a)) "Next").run Tryz.prog w = .ok (371, .pointer (Z9 a)) w := by kernel_rfl
theorem HJ.below(h:HJ base w hv H rows)(i:ZV w.heap.size w w'):HJ base w' hv H rows :=
 h.keep i.size fun k _ j=>i.block k j
theorem vO(p:Nat)(sv:Z3)(l:Z5 Rw)(fl cd ca id:Int)(key:Z7)(w0 w:Z2)(h:SHs w0 w p sv l fl cd ca)(i:0<=ca)(j:ca<1000000000) :
 Calls Tryz.prog 371 #[.pointer (Z9 ⟨p,0,Z8⟩),.int .i64 id,.string key] w fun r w'=>r=.returned (iM fl cd ca (nx id (Ds.bl key) l))/\SHs w0 w' p sv l fl cd (ca+1)/\w.grownBy w' (Z9 p):=by
 refine (Mn p sv fl cd ca id key l w h.f h.r h.ne i j).mono ?_
 rintro _ w' ⟨rfl,q,rfl⟩;exact⟨rfl,(h.tick (ca+1) q).1,(h.tick (ca+1) q).2⟩
theorem Cd(w:Z2)(D:MaxL w)(T:Tab w)(h:cF (Ds.bl s)=Z9 y) :
 Calls Tryz.prog 30 #[.string s] w fun r w'=>∃ (A:Zy XW) (C:Nat) (i:Zy XW) (j:Nat),r=.returned (.tuple #[.agg (y.1.vals (.slice A y.2.1.length C) (.slice i y.2.2.length j)),.int .i64 0])/\IS w' (.slice A y.2.1.length C) y.2.1/\GS w' (.slice i y.2.2.length j) y.2.2/\ZV w.heap.size w w'/\(∀ q,(XF A y.2.1.length C).ownBlock=Z9 q->w.heap.size<=q)/\(∀ q,(XF i y.2.2.length j).ownBlock=Z9 q->w.heap.size<=q):=by
 refine (rM s w D T).mono ?_
 rintro _ w' ⟨x,E,J,u,rfl,I,G,z,B,o,t⟩;rcases B with ⟨m,rfl⟩|⟨m,-,-⟩
 .obtain rfl:x=y:=ZR (m.symm.trans h);obtain⟨A,C,rfl,-⟩:=id I;obtain⟨i,j,rfl,-⟩:=id G;exact⟨A,C,i,j,rfl,I,G,z,o,t⟩
 .rw[h] at m;cases m
theorem Cc(w:Z2)(D:MaxL w)(T:Tab w)(h:cF (Ds.bl s)=Z8) :
 Calls Tryz.prog 30 #[.string s] w fun r w'=>∃ (A:Zy XW) (C:Nat) (i:Zy XW) (j:Nat),r=.returned (.tuple #[.agg (En.zero.vals (.slice A 0 C) (.slice i 0 j)),.int .i64 11])/\IS w' (.slice A 0 C) []/\GS w' (.slice i 0 j) []/\ZV w.heap.size w w':=by
 refine (rM s w D T).mono ?_
 rintro _ w' ⟨x,E,J,m,rfl,I,G,t,u,z,B⟩;rcases u with ⟨o,rfl⟩|⟨-,rfl,rfl⟩
 .rw[h] at o;cases o
 .obtain⟨A,C,rfl,-⟩:=id I;obtain⟨i,j,rfl,-⟩:=id G;exact⟨A,C,i,j,rfl,I,G,t⟩
def aC(k:Int)(s:Z7):Z7:=⟨(Ek.key k (Ds.bl s)).toArray⟩
theorem iU(k:Int)(s:Z7):Ds.bl (aC k s)=Ek.key k (Ds.bl s):=Ds.bl_mk _
theorem jI(k:Int)(s:Z7)(w:Z2):Calls Tryz.prog 88 #[.int .i64 k,.string s] w fun r w'=>r=.returned (.string (aC k s))/\ZV w.heap.size w w':=by
 refine (vP k s w).mono ?_
 rintro _ w' ⟨t,rfl,i,h⟩;exact⟨iD (Ds.bl_inj (i.trans (iU k s).symm)),h⟩
theorem uF(k:Z7):((aC y.1.kind y.1.name).toList==k.toList)=decide (dL y=Ds.bl k):=by
 rw[fd,Bool.eq_iff_iff,ZU,ZU];constructor
 .intro h;rw[<-h,iU];rfl
 .intro h;exact Ds.bl_inj ((iU _ _).trans h)
theorem wg(h:aA y=ZZ):y.2.2.length<=8:=by
 have z:∀ (L:Z5 Int) (g:Z5 Gr) (e f:En),dh e f L y.2.1 [] y.2.2=ZZ->y.2.2.length<=8:=fun L g e f h=>by
  have:=((dV _ _ _ _ _ _).1 h).2.2;rw[<-this];decide
 unfold aA at h;split at h
 .unfold fL at h;simp only[ZT] at h;exact z _ [] _ _ h.2
 split at h
 .unfold fm at h;simp only[ZT] at h;exact z _ [] _ _ h.2
 split at h
 .unfold eY at h;simp only[ZT] at h;exact z _ [] _ _ h.2
 split at h
 .unfold fK at h;simp only[ZT] at h;exact z _ [] _ _ h.2
 split at h
 .unfold gD Vp.prof at h;simp only[ZT,ZU] at h;exact h.1.2.2.2.2
 .cases h
theorem sx{c:Nat}{l:Z5 Gr}(h:GS w (.slice a n c) l)(u:0<n)(b:Nat)(i:(XF a n c).ownBlock=Z9 b):b<w.heap.size:=by
 obtain⟨A,C,e,z,j⟩:=h;injection e with E o t
 obtain⟨B,O,ha,m,-⟩:=j (by omega);rw[E,ha] at i;cases i;exact m
theorem jw(h:RwS w v l)(j:l≠[])(b:Nat)(i:v.ownBlock=Z9 b):b<w.heap.size:=by
 obtain⟨A,C,rfl,z,m⟩:=h;obtain⟨B,O,ha,o,-⟩:=m (by rcases l with _|⟨_,_⟩;exact absurd rfl j;simp);rw[ha] at i;cases i;exact o
theorem SHs.belowB{B:Nat}(h:SHs w0 wr p sv l fl cd ca)(i:ZV B wr w')(t:p<B)(m:l≠[]->∀ b,sv.ownBlock=Z9 b->b<B):SHs w0 w' p sv l fl cd ca:=by
 refine⟨⟨?_,fun o=>(i.frozen (p:=⟨p,o,Z8⟩) t).trans (h.f.2 o)⟩,?_,h.ne,h.p0,ZY h.pl i.size,h.b.trans (i.mono (by have:=h.p0;omega))⟩
 .have:=h.f.1;unfold row at *;rw[i.block p t];exact this
 .rcases l with _|⟨x,l⟩
  .obtain⟨a,c,u,z,-⟩:=h.r;exact⟨a,c,u,z,fun h=>by simp at h⟩
  .exact h.r.keep i.size fun b j _=>i.block b (m (by simp) b j)
theorem bx{a b:Z2}{p:Zy Nat}(h:a.grownBy b p)(k:ZV a.heap.size b c):a.grownBy c p :=
 ⟨k.os.trans h.os,k.tape.trans h.tape,k.output.trans h.output,ZD h.size k.size,fun i m j=>(k.block i m).trans (h.block i m j)⟩
theorem jC{l:Z5 Fu}(h:w.ownsRow base e d v (l.map cY).length xs):w.ownsRow base e d v l.length xs:=by rwa [Zq] at h
theorem tP{l:Z5 Fu}(h:w.ownsRow base e d v (l.length+1) xs):w.ownsRow base e d v ((l.map cY).length+1) xs:=by rwa [Zq]
attribute [local go_sem ↓] aZ bf bq cl
attribute [local go_sem] bn aS aH bE bH aK aT ak aI aw az aM ah aQ aL aP aO aR aY aW bD ap aq
end
theorem SS.keep{l:Z5 Z7}(h:SS w v l)(C:w.heap.size<=w'.heap.size)(j:l≠[]->∀ b,v.ownBlock=Z9 b->b<w.heap.size->w'.heap[b]?=w.heap[b]?):SS w' v l:=by
 obtain⟨a,c,u,z,A⟩:=h;refine⟨a,c,u,z,fun m=>?_⟩
 obtain⟨b,o,ha,t,B⟩:=A m;subst ha;have q:=fun i=>Z1 (w:=w) (w':=w') (a:=⟨b,i,Z8⟩) (j (List.ne_nil_of_length_pos m) b (by rw[u];rfl) t)
 exact⟨b,o,rfl,ZY t C,fun k j=>(q _).trans (B k j)⟩
theorem SHs.sub(h:SHs w0 w p sv l fl cd ca):ZV w0.heap.size w0 w:=h.b
end Go.Proofs.YtnkjliahpeebjaaGreatDoor
