/- Catalogs. -/
import Derived.Test.YtnkjliahpeebjaaGreatDoorMi
import Derived.Test.YtnkjliahpeebjaaGreatDoorAw7
import Derived.Test.YtnkjliahpeebjaaGreatDoorJRebuildChanges
set_option maxRecDepth 100000
set_option maxHeartbeats 16000000
open Option renaming some->Z9,none->Z7
open Go.Proofs.Tryz renaming prog->Z8,underlying3->Zh,underlying22->Vi
open _root_ renaming ByteArray->Z6,List->Z1,decide_eq_false->ZG,Array->Zy,Option->Zp,bne_iff_ne->YQ,id->VW
open Go.RowKit renaming Below->Z4,intOf->Zq
open Go renaming Value->Z2,World->ZY,Calls->ZH,TypeId->Y2,block_lt_of_cell->YF,maxLen->YB,Addr->XV,MemPlace->Vw
open Bool renaming true->ZX,false->ZW
open Nat renaming le_refl->ZV,lt_of_lt_of_le->Zz,zero_le->Y6,lt_or_ge->YG,zero_add->Yw
open Go.RowKit.Below renaming refl->ZR
open List renaming length_append->ZO,take_succ_eq_append_getElem->ZK,getElem?_eq_getElem->ZE,head_eq_of_cons_eq->Zx,length_cons->Zw,take_of_length_le->Zv,getElem?_eq_some_iff->YR,range->YK,length_take->Yj,length_drop->XZ,getElem?_map->Xz,mem_map->Xv,take_append_drop->Wz,mem_range->Wt
open Option.some renaming inj->ZN
open Go.Act renaming put->ZL
open Array renaming getElem?_eq_some_iff->Zf,length_toList->YJ,getElem?_toList->WY
open Go.DataW renaming trod_int->YI,trod->VT
open Go.Addr renaming add_lit->Yl,add->Wj,add_mid->VV
namespace Go.Proofs.YtnkjliahpeebjaaGreatDoor
variable{H:Type}{R:Z1 Rw}(m:Zp XV)(l:Z1 (Zy Z2)){W w:ZY}{cs:Z1 Ch}(d f:Nat){k q n c base g:Nat}{r:Reach}{y:Fu}{F:Nat->Oz}{v:Z2}{p:Z1 Vw}{a u t:Zp XV}
section
open Go.ChangeShapes Go.WideShapes Go.RowKit
theorem xP{enc:Y2 × Z2->H}{x:DataW H × Z1 Vw}(h:VT enc Z8 W 0 (fun _=>ZX) ZX g 26 [v]=Z9 x) :
 ∃ (a:Zp XV) (n c:Nat),v=.slice a n c/\(n<=1000->∃ l:Z1 Int,l.length=n/\IS W v l):=by
 rcases open_ints Tryz.underlying26 Zh (by kernel_rfl) h with ⟨i,-⟩|⟨a,L,C,z,i,-,I,-,j,-,A,-⟩
 .obtain rfl:v=.slice Z7 0 0:=by simpa using i
  exact⟨Z7,0,0,rfl,fun _=>⟨[],rfl,IS.nil W⟩⟩
 .obtain rfl:v=.slice (Z9 a) L C:=by simpa using i
  refine⟨Z9 a,L,C,rfl,fun J=>⟨z.take L,by rw[Yj];split at j <;> omega,?_⟩⟩
  have e:(z.take L).length=L:=by rw[Yj];split at j <;> omega
  refine⟨Z9 a,C,by rw[e],by omega,fun D=>?_⟩
  rw[e] at D;have G:L<=z.length:=by split at j <;> omega
  have f:=A 0 (by omega)
  have B:a.spot=Z7:=by
   have:=World.cell?_spot f;simpa [Wj] using this
  obtain⟨b,o,s⟩:=a;simp only at B
  subst B;refine⟨b,o,rfl,?_,fun k E=>?_⟩
  .have:=World.block_lt_of_cell? W _ f;simpa [Wj] using this
  .rw[e] at E;have:=A k (by omega);rw[VV] at this;rw[this];simp [List.getD_eq_getElem?_getD,ZE (show k<z.length by omega)]
def EFT(w:ZY)(b o:Nat)(x:Ef):Prop :=
 ∃ (A:Zp XV) (C:Nat) (h:Zp XV) (i:Nat),mid w b o=x.e.vals (.slice A x.n1 C) (.slice h x.n2 i)/\x.n1<=9223372036854775807/\x.n2<=9223372036854775807/\(x.n1<=1000->∃ l:Z1 Int,l.length=x.n1/\IS w (.slice A x.n1 C) l)/\(x.n2<=1000->x.gs.length=x.n2/\GS w (.slice h x.n2 i) x.gs)
def EST(w:ZY)(a:Zp XV)(n:Nat)(F:Nat->Ef):Prop:=n<=9223372036854775807/\∀ k,k<n->∃ b o,a=Z9 ⟨b,o,Z7⟩/\b<w.heap.size/\EFT w b (o+k*33) (F k)
theorem EST.es{F:Nat->Ef}(h:EST w a n F):ES w a n F :=
 ⟨h.1,fun k E=>by
  obtain⟨b,o,j,s,A,C,e,i,x,z,B,-,D⟩:=h.2 k E;exact⟨b,o,j,s,A,C,e,i,x,z,B,D⟩⟩
theorem vz{enc:Y2 × Z2->H}{x:DataW H × Z1 Vw}(h:VT enc Z8 W 0 (fun _=>ZX) ZX g 26 [.slice a n c]=Z9 x):n<=1000->∃ l:Z1 Int,l.length=n/\IS W (.slice a n c) l:=by
 obtain⟨A,N,C,e,b⟩:=xP h;cases e
 exact b
theorem zuN{enc:Y2 × Z2->H}{d:DataW H}(J:Value.okWide Z8 W r base 33 v)(h:DataW.Trod enc Z8 W 0 (fun _=>ZX) ZX 33 v d p) :
 ∃ (a:Zp XV) (n c:Nat) (F:Nat->Ef),v=.slice a n c/\EST W a n F:=by
 obtain⟨a,n,c,rfl⟩:=okWide_slice Tryz.underlying33 J;obtain⟨g,hf⟩:=h;rcases Go.Deep.open_slice Tryz.underlying33 hf with ⟨X,-⟩|⟨K,a9,a8,m,f,D,Pl,X,-,hl,C,hm,-,hi⟩
 .have:=Zx X;injection this with T U V
  subst T U V;exact⟨Z7,0,0,fun _=>⟨En.zero,0,0,[]⟩,rfl,by omega,fun k I=>by omega⟩
 .have:=Zx X;injection this with T U V
  subst T U V;have z:Tryz.prog.cellsOf 29=33:=by kernel_rfl
  have E:∀ k,k<n->∃ (x:Ef) (b o:Nat),K=⟨b,o,Z7⟩/\b<W.heap.size/\EFT W b (o+k*33) x:=fun k I=>by
   obtain⟨cs,hc,ht⟩:=hi k (by rw[hm];split <;> omega);rw[z] at hc;obtain⟨_,a0,Z⟩:=World.cells?_some hc;obtain⟨e,L,n1,P,O,N,Q,a3,l1,l2,hg,fl,zz,a5⟩:=uA a0 ht;have Y:=vz a5;obtain⟨S,B,-⟩:=hi 0 (by rw[hm];split <;> omega);rw[z] at B;obtain⟨_,a6,A⟩:=World.cells?_some B;have z0:=(A 0 (by omega)).trans (ZE (by omega:0<S.length));obtain⟨b,o,s⟩:=K
   obtain rfl:s=Z7:=by
    have:=World.cell?_spot z0;simpa [Wj] using this
   have j:∀ (i:Nat) (v:Z2),(e.vals (.slice L n1 P) (.slice O N Q))[i]?=Z9 v->W.cell? ⟨b,o+k*33+i,Z7⟩=Z9 v:=fun i v J=>by
    have a7:i<33:=by have:=(Zf.1 J).1;rw[ah] at this;exact this
    have:=Z i (by omega);rw[VV,VV] at this;rw[this,a3,WY];exact J
   have G:=wd (w:=W) (b:=b) (o:=o+k*33) (ah e (.slice L n1 P) (.slice O N Q)) j;refine⟨⟨e,n1,N,if h:N<=1000 then Classical.choose (hg h) else []⟩,b,o,rfl,YF (j 0 _ (ap _ _ _)),L,P,O,Q,G,l1,l2,Y,fun h=>?_⟩
   have:=Classical.choose_spec (hg h);simp only[dif_pos (show N<=1000 from h)]
   exact this
  refine⟨Z9 K,n,c,fun k=>if h:k<n then Classical.choose (E k h) else ⟨En.zero,0,0,[]⟩,rfl,by simp only[YB] at C;omega,fun k I=>?_⟩
  obtain⟨b,o,ha,a4,hE⟩:=Classical.choose_spec (E k I);refine⟨b,o,by rw[ha],a4,?_⟩
  simp only[dif_pos I]
  exact hE
end
section
open Go.RowKit
theorem IV:∀ (l:Z1 (Zy Z2)) (_:∀ r∈l,r.size=36),(ec l).length=l.length*36
 | [],_=>rfl
 | r::l,h=>by
   rw[ec,ZO,IV l (fun x b=>h x (by simp [b])),Zw,YJ,h r (by simp)];omega
theorem Jg:∀ (l:Z1 (Zy Z2)) (_:∀ r∈l,r.size=36) (k i:Nat) (_:i<36) (r:Zy Z2),l[k]?=Z9 r->(ec l)[k*36+i]?=r[i]?
 | [],_,k,i,_,r,h=>by simp at h
 | x::l,z,0,i,b,r,h=>by
   simp at h;subst h
   rw[ec,List.getElem?_append_left (by rw[YJ,z x (by simp)];omega)];simp
 | x::l,z,k+1,i,b,r,h=>by
   have:=Jg l (fun x e=>z x (by simp [e])) k i b r (by simpa using h);rw[ec,List.getElem?_append_right (by rw[YJ,z x (by simp)];omega),YJ,z x (by simp),<-this];congr 1;omega
theorem LU(z:∀ r∈l,r.size=36)(P:Nat->Z2->Prop)(h:∀ (k i:Nat) (r:Zy Z2) (v:Z2),l[k]?=Z9 r->r[i]?=Z9 v->P (k*36+i) v):∀ j u,(ec l)[j]?=Z9 u->P j u:=by
 intro j u b;have s:=(YR.1 b).1;rw[IV l z] at s;have o:j / 36<l.length:=by omega
 have e:j=j / 36*36+j % 36:=by omega
 rw[e] at b |-;rw[Jg l z (j / 36) (j % 36) (by omega) l[j / 36] (ZE o)] at b;exact h _ _ _ _ (ZE o) b
theorem Ka(z:∀ r∈l,r.size=36)(h:∀ r∈l,bh r.toList=ZX):∀ u∈ec l,u.oneCell'=ZX:=by
 intro u b
 induction l with
 | nil=>cases b
 | cons r l i =>
   rw[ec,List.mem_append] at b;rcases b with b|b
   .have:=l8 _ (h r (by simp));exact List.all_eq_true.1 this u b
   .exact i (fun x e=>z x (by simp [e])) (fun x e=>h x (by simp [e])) b
theorem JA{l:Z1 (Zy Z2)}(z:∀ r∈l,r.size=36)(h:w.ownsRow base 31 36 v n (ec l))(k:Nat)(r:Zy Z2)(j:l[k]?=Z9 r):∃ g c,v=.slice (Z9 ⟨g,0,Z7⟩) n c/\base<=g/\g<w.heap.size/\eI w g (k*36)=r:=by
 have K:=(YR.1 j).1;have A:r.size=36:=z r (List.mem_of_getElem? j);have x:l.length=n:=by have:=h.1;rw[IV l z] at this;omega
 have s:=dU h;rcases h.2 with ⟨rfl,P⟩|⟨g,C,D,rfl,I,o,N⟩
 .omega
 .obtain⟨a,c,e,-,L⟩:=s;obtain⟨O,G,p⟩:=L (by omega);injection e with E
  rw[G] at E;cases E
  refine⟨g,C,rfl,I,?_,JF A fun i v B=>?_⟩
  .rcases YG g w.heap.size with b|b
   .exact b
   .rw[Array.getElem?_eq_none b] at o;cases o
  .have J:i<36:=by rw[<-A];exact (Zf.1 B).1
   have:=p (k*36+i) v (by rw[Jg l z k i J r j];exact B);rw[Yl,Yw] at this;exact this
def ql(w:ZY)(b o n:Nat):Z1 (Zy Z2):=(YK n).map fun k=>eI w b (o+k*36)
theorem OS.size(h:OS w a n F)(b o:Nat)(ha:a=Z9 ⟨b,o,Z7⟩):∀ r∈ql w b o n,r.size=36:=by
 intro r i;unfold ql at i;obtain⟨k,s,rfl⟩:=Xv.1 i;obtain⟨B,O,e,-,A,C,x,z,j,-⟩:=h.2 k (Wt.1 s);rw[ha] at e;cases e;rw[j];exact eO _ _ _ _ _ _
theorem OS.ones(h:OS w a n F)(b o:Nat)(ha:a=Z9 ⟨b,o,Z7⟩):∀ r∈ql w b o n,bh r.toList=ZX:=by
 intro r i;unfold ql at i;obtain⟨k,s,rfl⟩:=Xv.1 i;obtain⟨B,O,e,-,A,C,x,z,j,-⟩:=h.2 k (Wt.1 s);rw[ha] at e;cases e;rw[j];exact kl (ay _ _ _ rfl rfl)
theorem OS.cells{b o:Nat}(h:OS w (Z9 ⟨b,o,Z7⟩) n F):CS w 36 (.slice (Z9 ⟨b,o,Z7⟩) n c) n (ec (ql w b o n)):=by
 have z:=h.size b o rfl;refine⟨_,_,rfl,by rw[IV _ z];unfold ql;simp,fun _=>⟨_,rfl,LU _ z (fun j u=>w.cell? ((⟨b,o,Z7⟩:XV).add j)=Z9 u) fun k i r v s A=>?_⟩⟩
 unfold ql at s;rw[Xz] at s
 cases e:(YK n)[k]? with
 | none=>rw[e] at s;cases s
 | some K =>
   rw[e] at s
   have x:K=k:=by
    have:=(YR.1 e).2;simpa using this.symm
   subst x;cases s
   have:=zL rfl i v A;rw[Yl,<-Nat.add_assoc];exact this
theorem OS.all(h:OS w a n F) :
 ∃ s:Z1 (Zy Z2),CS w 36 (.slice a n c) n (ec s)/\s.length=n/\(∀ r∈s,r.size=36)/\(∀ r∈s,bh r.toList=ZX)/\∀ (k:Nat) (r:Zy Z2),s[k]?=Z9 r->∃ b o,a=Z9 ⟨b,o,Z7⟩/\eI w b (o+k*36)=r/\k<n:=by
 rcases Nat.eq_zero_or_pos n with j|j
 .subst j;exact⟨[],⟨a,c,rfl,rfl,fun h=>absurd h (by decide)⟩,rfl,(fun _ h=>by cases h),(fun _ h=>by cases h),fun k r h=>by simp at h⟩
 .obtain⟨b,o,rfl,-⟩:=h.2 0 j;refine⟨ql w b o n,h.cells,by unfold ql;simp,h.size b o rfl,h.ones b o rfl,fun k r i=>?_⟩
  have e:=(YR.1 i).1;unfold ql at e i;simp at e
  refine⟨b,o,rfl,?_,e⟩
  rw[Xz,List.getElem?_range e,Option.map_some] at i;exact ZN i
theorem JB{cs:Zy Z2}(b:w.heap.size=q)(h:cs.size=36):(w.alloc (.cells cs 31)).ownsRow q 31 36 (.slice (Z9 ⟨q,0,Z7⟩) 1 1) 1 cs.toList:=by
 subst b;exact⟨by simp [h],.inr ⟨w.heap.size,1,cs,rfl,ZV _,heap_alloc_new w _,ZV _,by unfold YB;omega,by simp [h],by rw[Zv (by simp [h])]⟩⟩
def qf(x:Oz)(F:Nat->Oz):Nat->Oz:=fun j=>match j with|0=>x|j+1=>F j
theorem Jz{B:ZY}{V:Nat}{J:Zp XV}{x:Oz}{C D:Nat}{z:Z1 (Zy Z2)}(h:B.ownsRow base 31 36 (.slice J (1+n) V) (1+n) ((opv x.k x.i x.x.e (.slice u x.x.n1 C) (.slice t x.x.n2 D) x.s).toList++ec z))(hl:z.length=n)(hz:∀ r∈z,r.size=36)(T:x.x.n1<=9223372036854775807)(U:x.x.n2<=9223372036854775807)(hx:(x.x.n1<=1000->∃ l:Z1 Int,l.length=x.x.n1/\IS B (.slice u x.x.n1 C) l)/\(x.x.n2<=1000->x.x.gs.length=x.x.n2/\GS B (.slice t x.x.n2 D) x.x.gs))(hn:1+n<=9223372036854775807)(S:OS w a n F)(Z:Z4 w.heap.size w B)(G:∀ (k:Nat) (r:Zy Z2),z[k]?=Z9 r->∃ b o,a=Z9 ⟨b,o,Z7⟩/\eI w b (o+k*36)=r/\k<n):OS B J (1+n) (qf x F):=by
 have I:∀ r∈(opv x.k x.i x.x.e (.slice u x.x.n1 C) (.slice t x.x.n2 D) x.s)::z,r.size=36:=fun r G=>by
  rcases List.mem_cons.1 G with rfl|G
  .exact eO _ _ _ _ _ _
  .exact hz r G
 have X:B.ownsRow base 31 36 (.slice J (1+n) V) (1+n) (ec ((opv x.k x.i x.x.e (.slice u x.x.n1 C) (.slice t x.x.n2 D) x.s)::z)):=h;refine⟨hn,fun k hk=>?_⟩
 cases k with
 | zero =>
   obtain⟨g,cc,e,-,A,P⟩:=JA I X 0 _ rfl;injection e with K
   exact⟨g,0,K,A,u,C,t,D,by rw[Yw];exact P,T,U,hx.1,hx.2⟩
 | succ j =>
   have hj:z[j]?=Z9 (z[j]'(by omega)):=ZE _;obtain⟨g,cc,e,-,A,P⟩:=JA I X (j+1) (z[j]'(by omega)) (by rw[List.getElem?_cons_succ];exact hj);injection e with K
   obtain⟨b,o,ha,Q,O⟩:=G j _ hj;obtain⟨b',o',E,a0,d1,L,d2,N,h1,h2,h3,h5,Y⟩:=S.2 j O;rw[ha] at E;cases E
   refine⟨g,0,K,A,d1,L,d2,N,?_,h2,h3,fun h=>?_,fun h=>⟨(Y h).1,(Y h).2.below Z⟩⟩
   rotate_left
   .obtain⟨l,q1,q2⟩:=h5 h;exact⟨l,q1,q2.below Z⟩
   dsimp only[qf];rw[Yw,P,<-Q,h1]
theorem GB:Tryz.prog.info? 31=Z9 ((Tryz.prog.info? 31).getD default):=by kernel_rfl
theorem Kk:((Tryz.prog.info? 31).getD default).zero=Z9 (.agg (opv 0 0 En.zero (.slice Z7 0 0) (.slice Z7 0 0) ⟨#[]⟩)):=by kernel_rfl
theorem Kl:((Tryz.prog.info? 31).getD default).size=36:=by kernel_rfl
theorem Km:((Tryz.prog.info? 31).getD default).bytes=368:=by kernel_rfl
end
section
open Go.ChangeShapes Go.WideShapes Go.RowKit
theorem yI{l:Z1 Z2}(h:l.length=36):l=((l.drop 0).take 1++(l.drop 1).take 1)++((l.drop 2).take 33++(l.drop 35).take 1):=by
 rw[List.drop_zero];have e:l=l.take 1++l.drop 1:=(Wz 1 l).symm
 have E:l.drop 1=(l.drop 1).take 1++l.drop 2:=by
  have:=(Wz 1 (l.drop 1)).symm;rwa [List.drop_drop] at this
 have b:l.drop 2=(l.drop 2).take 33++l.drop 35:=by
  have:=(Wz 33 (l.drop 2)).symm;rwa [List.drop_drop] at this
 have i:(l.drop 35).take 1=l.drop 35:=Zv (by rw[XZ];omega);rw[i,<-b,List.append_assoc,<-E];exact e
theorem Ej{enc:Y2 × Z2->H}{l:Z1 Z2}{x:DataW H × Z1 Vw}(L:l.length=36)(h:VT enc Z8 W 0 (fun _=>ZX) ZX g 31 l=Z9 x) :
 ∃ (k i:Int) (e:En) (s:Z6) (A:Zp XV) (N C:Nat) (j:Zp XV) (b o:Nat),l=(opv k i e (.slice A N C) (.slice j b o) s).toList/\N<=9223372036854775807/\b<=9223372036854775807/\(N<=1000->∃ l:Z1 Int,l.length=N/\IS W (.slice A N C) l)/\(b<=1000->∃ l:Z1 Gr,l.length=b/\GS W (.slice j b o) l):=by
 obtain⟨n,G⟩:=nk Tryz.underlying31 h;have Z:Tryz.prog.cellsOf 29=33:=by kernel_rfl
 have S:Tryz.prog.cellsOf 3=1:=by kernel_rfl
 have U:Tryz.prog.cellsOf 9=1:=by kernel_rfl
 obtain⟨_,O⟩:=G 0 _ rfl;obtain⟨_,P⟩:=G 1 _ rfl;obtain⟨_,T⟩:=G 2 _ rfl;obtain⟨_,Q⟩:=G 3 _ rfl;obtain⟨k,E,-⟩:=YI Zh O;obtain⟨i,B,-⟩:=YI Zh P;obtain⟨s,D,-⟩:=DataW.trod_string Tryz.underlying9 Q;have E:(l.drop 0).take (Tryz.prog.cellsOf 3)=[.int .i64 k]:=E;have B:(l.drop 1).take (Tryz.prog.cellsOf 3)=[.int .i64 i]:=B;have D:(l.drop 35).take (Tryz.prog.cellsOf 9)=[.string s]:=D;have T:VT enc Z8 W 0 (fun _=>ZX) ZX n 29 ((l.drop 2).take (Tryz.prog.cellsOf 29))=Z9 _:=T;rw[S] at E B;rw[U] at D;rw[Z] at T;obtain⟨e,A,N,C,j,b,o,K,u1,u2,I,V,z,J⟩:=uA (by rw[Yj,XZ];omega) T;refine⟨k,i,e,s,A,N,C,j,b,o,?_,u1,u2,vz J,I⟩
 rw[yI L,E,B,K,D];unfold opv opc;simp
theorem Eo{enc:Y2 × Z2->H}{d:DataW H}(K:Value.okWide Z8 W r base 31 v)(h:DataW.Trod enc Z8 W 0 (fun _=>ZX) ZX 31 v d p) :
 ∃ (k i:Int) (e:En) (s:Z6) (A:Zp XV) (N C:Nat) (j:Zp XV) (b o:Nat),v=.agg (opv k i e (.slice A N C) (.slice j b o) s)/\N<=9223372036854775807/\b<=9223372036854775807/\(N<=1000->∃ l:Z1 Int,l.length=N/\IS W (.slice A N C) l)/\(b<=1000->∃ l:Z1 Gr,l.length=b/\GS W (.slice j b o) l):=by
 obtain⟨⟨l⟩,rfl,z,-⟩:=zu Tryz.underlying31 K;have e:Tryz.prog.cellsOf 31=36:=by kernel_rfl
 rw[e] at z;obtain⟨g,I⟩:=h;obtain⟨k,i,E,s,A,N,C,j,b,o,J,x,B,D,G⟩:=Ej (l:=l) (by simpa using z) I;refine⟨k,i,E,s,A,N,C,j,b,o,?_,x,B,D,G⟩
 congr 1
 exact Array.toList_inj.1 J
end
section
open Go.ChangeShapes Go.WideShapes Go.RowKit
theorem LG{enc:Y2 × Z2->H}{d:DataW H}(K:Value.okWide Z8 W r base 22 v)(h:DataW.Trod enc Z8 W 0 (fun _=>ZX) ZX 22 v d p) :
 ∃ (a:Zp XV) (n c:Nat) (F:Nat->Oz),v=.slice a n c/\OS W a n F:=by
 obtain⟨a,n,c,rfl⟩:=okWide_slice Vi K;obtain⟨g,hf⟩:=h;rcases Go.Deep.open_slice Vi hf with ⟨Y,-⟩|⟨L,a8,a7,m,f,D,Pl,Y,-,hl,G,hm,-,hi⟩
 .have:=Zx Y;injection this with U V X
  subst U V X;exact⟨Z7,0,0,fun _=>⟨0,0,⟨En.zero,0,0,[]⟩,⟨#[]⟩⟩,rfl,by omega,fun k J=>by omega⟩
 .have:=Zx Y;injection this with U V X
  subst U V X;have A:Tryz.prog.cellsOf 31=36:=by kernel_rfl
  have E:∀ k,k<n->∃ (x:Oz) (b o:Nat),L=⟨b,o,Z7⟩/\b<W.heap.size/\OF W b (o+k*36) x:=fun k J=>by
   obtain⟨cs,hc,ht⟩:=hi k (by rw[hm];split <;> omega);rw[A] at hc;obtain⟨_,a3,a0⟩:=World.cells?_some hc;obtain⟨kk,i,e,s,O,n1,Q,P,N,S,a4,l1,l2,Z,hg⟩:=Ej a3 ht;obtain⟨T,C,-⟩:=hi 0 (by rw[hm];split <;> omega);rw[A] at C;obtain⟨_,a6,B⟩:=World.cells?_some C;have z0:=(B 0 (by omega)).trans (ZE (by omega:0<T.length));obtain⟨b,o,sp⟩:=L
   obtain rfl:sp=Z7:=by
    have:=World.cell?_spot z0;simpa [Wj] using this
   have z:∀ (j:Nat) (v:Z2),(opv kk i e (.slice O n1 Q) (.slice P N S) s)[j]?=Z9 v->W.cell? ⟨b,o+k*36+j,Z7⟩=Z9 v:=fun j v K=>by
    have hj:j<36:=by have:=(Zf.1 K).1;rw[eO] at this;exact this
    have:=a0 j (by omega);rw[VV,VV] at this;rw[this,a4,WY];exact K
   have I:=JF (w:=W) (b:=b) (o:=o+k*36) (eO kk i e (.slice O n1 Q) (.slice P N S) s) z;refine⟨⟨kk,i,⟨e,n1,N,if h:N<=1000 then Classical.choose (hg h) else []⟩,s⟩,b,o,rfl,YF (z 0 _ wT),O,Q,P,S,I,l1,l2,Z,fun h=>?_⟩
   have:=Classical.choose_spec (hg h);simp only[dif_pos (show N<=1000 from h)]
   exact this
  refine⟨Z9 L,n,c,fun k=>if h:k<n then Classical.choose (E k h) else ⟨0,0,⟨En.zero,0,0,[]⟩,⟨#[]⟩⟩,rfl,by simp only[YB] at G;omega,fun k J=>?_⟩
  obtain⟨b,o,ha,a5,hE⟩:=Classical.choose_spec (E k J);refine⟨b,o,by rw[ha],a5,?_⟩
  simp only[dif_pos J]
  exact hE
theorem OS.ol(h:OS w a n F)(K:∀ k,k<n->(F k).x.n1<=1000/\(F k).x.n2<=1000/\(F k).x.e.name.size<=60/\(F k).s.size<=60):∃ Z:Nat->Zo,OL w a n Z:=by
 have E:∀ k,k<n->∃ z:Zo,∃ b o A G,a=Z9 ⟨b,o,Z7⟩/\b<w.heap.size/\eI w b (o+k*36)=opv z.1 z.2.1 z.2.2.1.1 A G z.2.2.2/\IS w A z.2.2.1.2.1/\GS w G z.2.2.1.2.2/\z.2.2.1.1.name.size<=60/\z.2.2.2.size<=60:=fun k j=>by
  obtain⟨b,o,B,C,S,U,T,V,D,-,-,I,J⟩:=h.2 k j;obtain⟨Q,N,O,P⟩:=K k j;obtain⟨l,-,L⟩:=I Q;exact⟨((F k).k,(F k).i,((F k).x.e,l,(F k).x.gs),(F k).s),b,o,_,_,B,C,D,L,(J N).2,O,P⟩
 refine⟨fun k=>if h:k<n then Classical.choose (E k h) else (0,0,(En.zero,[],[]),⟨#[]⟩),fun k j=>?_⟩
 simp only[dif_pos j]
 exact Classical.choose_spec (E k j)
end
section
open Go.RowKit
set_option linter.unusedSimpArgs false
theorem Jq(s:Z2)(l:Z1 Rw)(w:ZY)(j:RwS w s l)(i:∀ b,s.ownBlock=Z9 b->b<w.heap.size):SHs w (w.alloc (.cells #[s,.int .i64 0,.int .i64 0,.int .i64 0] 119)) w.heap.size s l 0 0 0:=by
 refine⟨⟨ak _ _ _ _,fun o=>by simp⟩,j.below ((ZR _ _).alloc (ZV _) _),fun b h e=>?_,ZV _,by simp,(ZR _ _).alloc (ZV _) _⟩
 have:=i b h;omega
theorem SHs.grown_x{B j:ZY}{p:Nat}{s:Z2}{l:Z1 Rw}{x o C:Int}(h:SHs B w p s l x o C)(i:w.grownBy j (Z9 p)):RwS j s l :=
 h.r.keep i.size (fun b z A=>i.block b A (fun e=>h.ne b z (ZN e)))
theorem sh7x(a:Zp XV)(n c:Nat)(w:ZY):ZH Z8 28 #[.slice a n c] w fun r b=>r=.returned (.pointer (Z9 ⟨w.heap.size,0,Z7⟩))/\w.alloc (.cells #[.slice a n c,.int .i64 0,.int .i64 0,.int .i64 0] 119)=b:=by
 go_enter Tryz.func28,Tryz.ntmps28
 go_wp2_with fail
 go_ret
 exact⟨rfl,rfl⟩
/-! the notes so far -/
theorem Ks(h:k<cs.length)(b:bg cs[k]=Z7):bj R (cs.take (k+1))=bj R (cs.take k):=by
 unfold bj;rw[ZK h,List.filterMap_append,List.filterMap_cons,b];simp
theorem Kr(h:k<cs.length)(b:bg cs[k]=Z9 y):bj R (cs.take (k+1))=bj R (cs.take k)++[zS R y]:=by
 unfold bj;rw[ZK h,List.filterMap_append,List.filterMap_cons,b];simp
theorem Kq(h:k<cs.length)(b:bg cs[k]=Z9 y):∃ r,bj R cs=bj R (cs.take k)++zS R y::r:=by
 refine⟨bj R (cs.drop (k+1)),?_⟩
 conv=>lhs;rw[<-Wz k cs,List.drop_eq_getElem_cons h]
 unfold bj;rw[List.filterMap_append,List.filterMap_cons,b];rfl
theorem LA(R:Z1 Rw)(cs:Z1 Ch):(bj R cs).length<=cs.length:=by
 unfold bj;exact List.length_filterMap_le _ _
theorem Lu{c:Ch}(h:c.1≠0):bg c=Z7:=by unfold bg;rw[if_neg h]
theorem Lv{c:Ch}(h:cF (Ds.bl c.2.2.2.1)=Z7):bg c=Z7:=by unfold bg;rw[h];split <;> rfl
theorem Lw{c:Ch}{y:Fu}(h:cF (Ds.bl c.2.2.2.1)=Z9 y)(b:y.1.kind≠0):bg c=Z7:=by
 unfold bg;rw[h];split
 .dsimp only;rw[if_neg b]
 .rfl
theorem Lx{c:Ch}{y:Fu}(b:c.1=0)(h:cF (Ds.bl c.2.2.2.1)=Z9 y)(e:y.1.kind=0):bg c=Z9 y:=by
 unfold bg;rw[if_pos b,h];dsimp only;rw[if_pos e]
/-! few -/
def few7O(z:Oz):Prop:=(z.x.e.name.size<=60/\z.x.n2<=12/\z.x.n1<=8)/\z.s.size<=60
theorem JQ(x:Ef)(i:Zp XV)(o:Nat)(A:Zp XV)(C:Nat)(W:ZY)(q:Nat)(I:W.heap.size=q)(u1:x.n1<=9223372036854775807)(u2:x.n2<=9223372036854775807)(h:x.n2<=1000->x.gs.length=x.n2/\GS W (.slice A x.n2 C) x.gs) :
 ZH Z8 11 #[.slice (Z9 ⟨q,0,Z7⟩) 1 1,.int .i64 1] (W.alloc (.cells (x.e.vals (.slice i x.n1 o) (.slice A x.n2 C)) 29)) fun r D=>∃ b:Bool,r=.returned (.bool b)/\(b=ZX->x.e.name.size<=60/\x.n2<=12/\x.n1<=8)/\Z4 W.heap.size W D:=by
 subst I;have B:=aj W (.cells (x.e.vals (.slice i x.n1 o) (.slice A x.n2 C)) 29)
 have z:ES (W.alloc (.cells (x.e.vals (.slice i x.n1 o) (.slice A x.n2 C)) 29)) (Z9 ⟨W.heap.size,0,Z7⟩) 1 (fun _=>x):=by
  refine⟨by omega,fun j K=>⟨W.heap.size,0,rfl,by simp,i,o,A,C,?_,u1,u2,fun q=>⟨(h q).1,(h q).2.below B⟩⟩⟩
  obtain rfl:j=0:=by omega
  unfold mid;rw[ak];have J:(x.e.vals (.slice i x.n1 o) (.slice A x.n2 C)).size=33:=ah _ _ _;show (x.e.vals (.slice i x.n1 o) (.slice A x.n2 C)).extract 0 33=_
  rw[<-J];simp
 refine (few37 _ 1 1 _ 1 _ z).mono ?_
 rintro r D ⟨E,rfl,G,s⟩;exact⟨E,rfl,fun q=>(G q).2 0 (by omega),bt B s⟩
attribute [local go_sem ↓] fb lT wQ nJ Hh cl bf
attribute [local go_sem] bn aS aH bE bH aK aT ak aI aw az aM ah eO aQ aL aP aO aR aY aW bD
theorem KQ(F:Nat->Oz)(x:Oz)(L N:Zp XV)(O P:Nat)(w:ZY)(hm:MaxL w)(hT:Tab w)(hL:OS w m d F)(hx:(x.x.n1<=1000->∃ l:Z1 Int,l.length=x.x.n1/\IS w (.slice L x.x.n1 O) l)/\(x.x.n2<=1000->x.x.gs.length=x.x.n2/\GS w (.slice N x.x.n2 P) x.x.gs))(u1:x.x.n1<=9223372036854775807)(u2:x.x.n2<=9223372036854775807)(h:¬ (d<=12/\∀ j,j<1+d->few7O (qf x F j))) :
 ZH Z8 5 #[.slice m d f,.agg (opv x.k x.i x.x.e (.slice L x.x.n1 O) (.slice N x.x.n2 P) x.s)] w fun r w'=>r=.returned (.bool ZX)/\Z4 w.heap.size w w':=by
 have a5:=kl (k:=x.k) (i:=x.i) (s:=x.s) (ay x.x.e (.slice L x.x.n1 O) (.slice N x.x.n2 P) rfl rfl);have J:=eO x.k x.i x.x.e (.slice L x.x.n1 O) (.slice N x.x.n2 P) x.s;have X:=lh (fun W (b:Z4 w.heap.size w W)=>aw37 W (hm.below b) (hT.below b));have a9:=lh h;have HL:=lh hL;obtain⟨D,rc,rl,rz,ro,rr⟩:=hL.all (c:=f);have Z:=lh (fun W (b:Z4 w.heap.size w W) base a' c' (ho:W.ownsRow base 31 36 (.slice a' (1+d) c') (1+d) ((opv x.k x.i x.x.e (.slice L x.x.n1 O) (.slice N x.x.n2 P) x.s).toList++ec D)) (hn:1+d<=9223372036854775807)=>Jz (x:=x) ho rl rz u1 u2 ⟨fun q=>by obtain⟨l,q1,q2⟩:=hx.1 q;exact⟨l,q1,q2.below b⟩,fun q=>⟨(hx.2 q).1,(hx.2 q).2.below b⟩⟩ hn hL b rr);generalize ab:opv x.k x.i x.x.e (.slice L x.x.n1 O) (.slice N x.x.n2 P) x.s=cv at a5 J Z |-;have E:=lh (aj w (.cells cv 31));have R0:=ak w cv 31 (0,0);clear ab hm hT hL hx u1 u2 h;by_cases hn:d<=12
 rotate_left
 .have t1:decide (12<(d:Int))=ZX:=decide_eq_true (by omega);go_enter Tryz.func5,Tryz.ntmps5
  go_wp2_with (go_at_call 10;(with_reducible refine (X.o _ E.o).mono ?_);rintro _ w1 ⟨rfl,I⟩;have B:=lh (bt E.o I);clear I)
  go_ret
  exact⟨rfl,B.o⟩
 have t1:decide (12<(d:Int))=ZW:=ZG (by omega);go_enter Tryz.func5,Tryz.ntmps5
 go_wp2_with first|go_at_call 10;(with_reducible refine (X.o _ E.o).mono ?_);rintro _ w1 ⟨rfl,I⟩;have R:=am I R0 (by rw[J];decide);have B:=lh (bt E.o I);clear I|at_builtin;refine dQ _ rfl (.tmp 26) (.tmp 27) 22 31 _ _ 36 368 rfl Vi GB Kk Kl Km (eO _ _ _ _ _ _) (by decide) w1.heap.size (.slice (Z9 ⟨w1.heap.size,0,Z7⟩) 1 1) (.slice m d f) 1 d cv.toList (ec D) rfl (JB rfl J) rfl (rc.below (B.o.alloc B.o.size _)) (Ka D rz ro) (by unfold YB;omega) (by omega) (by simp) ?_;intro al ao w8 C a3 _;have B8:=lh (bt B.o (((ZR _ _).alloc (ZV _) _).grown a3 (by simp) (fun q hq=>by cases hq;exact ZV _)));have aa:=lh (Z.o w8 B8.o _ _ _ C (by omega));clear C a3
 go_loopw [30] (fun i wr=>∃ k:Nat,k<=1+d/\i=.int .i64 k/\(∀ j,j<k->few7O (qf x F j))/\Z4 w8.heap.size w8 wr) (fun i _=>1+d - (Zq i).toNat)
 case atStart=>exact⟨0,Y6 _,rfl,(fun j hj=>absurd hj (by omega)),ZR _ _⟩
 case round =>
  obtain⟨k,hk,rfl,a4,V⟩:=hrel;have Y:=lh a4;clear a4 R0 R;by_cases ac:k<1+d
  .obtain⟨b,o,rfl,I,Q,T,S,U,G,h1,h2,-,h4⟩:=(aa.o.below V).2 k ac
   have a0:Hid (few7O (qf x F k)->∀ j,j<k+1->few7O (qf x F j)):=lh (fun hz j hj=>by
    rcases YG j k with q|q
    .exact Y.o j q
    .obtain rfl:j=k:=by omega
     exact hz)
   generalize qf x F k=z at G h1 h2 h4 a0;have hz:(eI wr b (o+k*36)).size=36:=by rw[G];exact eO _ _ _ _ _ _
   have ad:=kl (k:=z.k) (i:=z.i) (s:=z.s) (ay z.x.e (.slice Q z.x.n1 T) (.slice S z.x.n2 U) rfl rfl);have R1:=ak wr (opv z.k z.i z.x.e (.slice Q z.x.n1 T) (.slice S z.x.n2 U) z.s) 31 (0,0);have K:=oD R1;have af:(mid (wr.alloc (.cells (opv z.k z.i z.x.e (.slice Q z.x.n1 T) (.slice S z.x.n2 U) z.s) 31)) wr.heap.size 2).size=33:=by rw[K];exact ah _ _ _
   have a6:=ae R1 35 _ qE;have BA:=aj wr (.cells (opv z.k z.i z.x.e (.slice Q z.x.n1 T) (.slice S z.x.n2 U) z.s) 31);have HF:=lh (JQ z.x Q T S U (wr.alloc (.cells (opv z.k z.i z.x.e (.slice Q z.x.n1 T) (.slice S z.x.n2 U) z.s) 31)) (wr.heap.size+1) (by simp) h1 h2 (fun q=>⟨(h4 q).1,(h4 q).2.below BA⟩));have j1:(0:Int)<=(k:Int):=by omega
   have j2:(k:Int)<((1+d:Nat):Int):=by omega
   obtain⟨q4,e4⟩:∃ b,decide (60<(z.s.size:Int))=b:=⟨_,rfl⟩;have HQ:Hid (q4=ZW->z.s.size<=60):=lh (by rintro rfl;rw[decide_eq_false_iff_not] at e4;omega);have zr:=V.size;clear h4 R1;cases q4
   .go_wp2_with (go_at_call 11;(with_reducible refine HF.o.mono ?_);rintro _ w3 ⟨bb,rfl,hf,A⟩;have a7:=(A.cell (p:=⟨wr.heap.size,35,Z7⟩) (by simp)).trans a6;have a8:=lh hf;have B3:=lh (bt BA A);clear hf A;cases bb)
    .go_ret
     exact⟨rfl,bt (bt B8.o V) B3.o⟩
    .go_roundw
     case rel=>exact⟨k+1,by omega,by go_num,a0.o ⟨a8.o (by simp),HQ.o (by simp)⟩,bt V B3.o⟩
     case measure=>simp [Zq];omega
   .go_wp2_with (go_at_call 11;(with_reducible refine HF.o.mono ?_);rintro _ w3 ⟨bb,rfl,hf,A⟩;have a7:=(A.cell (p:=⟨wr.heap.size,35,Z7⟩) (by simp)).trans a6;have B3:=lh (bt BA A);clear hf A;cases bb)
    all_goals
     go_ret
     exact⟨rfl,bt (bt B8.o V) B3.o⟩
  .obtain rfl:k=1+d:=by omega
   exact absurd ⟨hn,Y.o⟩ a9.o
theorem KA(F:Nat->Oz)(Z:Nat->Zo)(x:Oz)(l1:Z1 Int)(a1 a2:Zp XV)(c1 c2:Nat)(w:ZY)(hm:MaxL w)(hT:Tab w)(hn:d<=12)(hL:OS w m d F)(hO:OL w m d Z)(dm:x.x.e.name.size<=60)(dl:x.s.size<=60)(u1:x.x.n1<=9223372036854775807)(u2:x.x.n2<=9223372036854775807)(g3:l1.length=x.x.n1)(hI:IS w (.slice a1 x.x.n1 c1) l1)(g4:x.x.gs.length=x.x.n2)(hG:GS w (.slice a2 x.x.n2 c2) x.x.gs) :
 ZH Z8 5 #[.slice m d f,.agg (opv x.k x.i x.x.e (.slice a1 x.x.n1 c1) (.slice a2 x.x.n2 c2) x.s)] w fun r w'=>r=.returned (.bool ZX)/\Z4 w.heap.size w w':=by
 have d9:=kl (k:=x.k) (i:=x.i) (s:=x.s) (ay x.x.e (.slice a1 x.x.n1 c1) (.slice a2 x.x.n2 c2) rfl rfl);have L:=eO x.k x.i x.x.e (.slice a1 x.x.n1 c1) (.slice a2 x.x.n2 c2) x.s;have e3:=lh (fun W (b:Z4 w.heap.size w W)=>aw37 W (hm.below b) (hT.below b));have HM:=lh (fun W (b:Z4 w.heap.size w W)=>And.intro (hm.below b) (hT.below b));obtain⟨ad,rc,rl,rz,ro,rr⟩:=hL.all (c:=f);have cr:=lh (fun W (b:Z4 w.heap.size w W) base a' c' (ho:W.ownsRow base 31 36 (.slice a' (1+d) c') (1+d) ((opv x.k x.i x.x.e (.slice a1 x.x.n1 c1) (.slice a2 x.x.n2 c2) x.s).toList++ec ad)) (hn:1+d<=9223372036854775807)=>Jz (x:=x) ho rl rz u1 u2 ⟨fun _=>⟨l1,g3,hI.below b⟩,fun _=>⟨g4,hG.below b⟩⟩ hn hL b rr);have ao:=lh (fun W (b:Z4 w.heap.size w W)=>mk36 m d f Z W (by omega) (hO.below b));have ev:=Jf Z d;obtain⟨c0,c3⟩:=uV Z d;generalize dd Z d=D at ao ev c0 c3;have cb:=fun sv W (b:Z4 w.heap.size w W) (hr:RwS W sv D)=>Gt sv D x.k x.i (x.x.e,l1,x.x.gs) x.s (.slice a1 x.x.n1 c1) (.slice a2 x.x.n2 c2) W hr (by omega) c3 dm dl (hI.below b) (hG.below b)
 have c5:=Ma c0 x.k x.i (x.x.e,l1,x.x.gs) x.s;have j:=uz D x.k x.i (x.x.e,l1,x.x.gs) x.s;unfold Lz at j;generalize eL D x.k x.i (x.x.e,l1,x.x.gs) x.s=g at cb c5 j;obtain⟨cs,U⟩:=g;dsimp only at j;have ar:=lh cb;generalize g1:opv x.k x.i x.x.e (.slice a1 x.x.n1 c1) (.slice a2 x.x.n2 c2) x.s=cv at d9 L cr ar |-;have cg:=lh (aj w (.cells cv 31));have R0:=ak w cv 31 (0,0);have t1:decide (12<(d:Int))=ZW:=ZG (by omega);have HK:Hid (U=0->(ch D [] cs []=(bj (apl D cs) cs,0)/\∀ c∈cs,∀ y,bg c=Z9 y->(kc (apl D cs) y.1.name).2=0)):=lh c5;have ex:=pt D cs;have cw:=LA (apl D cs) cs;have X:=lh (fun sv W (hm:MaxL W) (hT:Tab W) (hr:RwS W sv D) (ho:∀ b,sv.ownBlock=Z9 b->b<W.heap.size) v (hC:ChS W v cs)=>LI W.heap.size sv D 0 0 0 v cs W _ hm hT (Jq sv D W hr ho) (by decide) (by decide) (by decide) (by omega) hC);clear g1 cb c5 hm hT hL hO u1 u2 hI hG dm dl c0 c3;go_enter Tryz.func5,Tryz.ntmps5
 go_wp2_with first|go_at_call 10;(with_reducible refine (e3.o _ cg.o).mono ?_);rintro _ w1 ⟨rfl,h⟩;have R:=am h R0 (by rw[L];decide);have B:=lh (bt cg.o h);clear h|at_builtin;refine dQ _ rfl (.tmp 26) (.tmp 27) 22 31 _ _ 36 368 rfl Vi GB Kk Kl Km (eO _ _ _ _ _ _) (by decide) w1.heap.size (.slice (Z9 ⟨w1.heap.size,0,Z7⟩) 1 1) (.slice m d f) 1 d cv.toList (ec ad) rfl (JB rfl L) rfl (rc.below (B.o.alloc B.o.size _)) (Ka ad rz ro) (by unfold YB;omega) (by omega) (by simp) ?_;intro gd gf w8 a7 d3 _;have ba:Z4 w1.heap.size w1 w8:=(((ZR _ _).alloc (ZV _) _).grown d3 (by simp) (fun q hq=>by cases hq;exact ZV _));have R8:=am ba R (by rw[L];decide);have B8:=lh (bt B.o ba);have el:=lh (cr.o w8 B8.o _ _ _ a7 (by omega));clear a7 d3 ba
 clear R0 R;go_loopw [30] (fun i wr=>∃ k:Nat,k<=1+d/\i=.int .i64 k/\Z4 w8.heap.size w8 wr) (fun i _=>1+d - (Zq i).toNat)
 case atStart=>exact⟨0,Y6 _,rfl,ZR _ _⟩
 case round =>
  obtain⟨k,hk,rfl,A⟩:=hrel;have zr:=A.size;by_cases E:k<1+d
  .obtain⟨b,o,rfl,h,d1,e1,d2,e2,b8,h1,h2,-,h4⟩:=(el.o.below A).2 k E;generalize qf x F k=z at b8 h1 h2 h4;have hz:(eI wr b (o+k*36)).size=36:=by rw[b8];exact eO _ _ _ _ _ _
   have g6:=kl (k:=z.k) (i:=z.i) (s:=z.s) (ay z.x.e (.slice d1 z.x.n1 e1) (.slice d2 z.x.n2 e2) rfl rfl);have R1:=ak wr (opv z.k z.i z.x.e (.slice d1 z.x.n1 e1) (.slice d2 z.x.n2 e2) z.s) 31 (0,0);have c6:=oD R1;have g8:(mid (wr.alloc (.cells (opv z.k z.i z.x.e (.slice d1 z.x.n1 e1) (.slice d2 z.x.n2 e2) z.s) 31)) wr.heap.size 2).size=33:=by rw[c6];exact ah _ _ _
   have dq:=ae R1 35 _ qE;have BA:=aj wr (.cells (opv z.k z.i z.x.e (.slice d1 z.x.n1 e1) (.slice d2 z.x.n2 e2) z.s) 31);have HF:=lh (JQ z.x d1 e1 d2 e2 (wr.alloc (.cells (opv z.k z.i z.x.e (.slice d1 z.x.n1 e1) (.slice d2 z.x.n2 e2) z.s) 31)) (wr.heap.size+1) (by simp) h1 h2 (fun q=>⟨(h4 q).1,(h4 q).2.below BA⟩));have j1:(0:Int)<=(k:Int):=by omega
   have j2:(k:Int)<((1+d:Nat):Int):=by omega
   obtain⟨q4,e4⟩:∃ b,decide (60<(z.s.size:Int))=b:=⟨_,rfl⟩;clear h4 R1;cases q4
   .go_wp2_with (go_at_call 11;(with_reducible refine HF.o.mono ?_);rintro _ w3 ⟨bb,rfl,-,J⟩;have ds:=(J.cell (p:=⟨wr.heap.size,35,Z7⟩) (by simp)).trans dq;have B3:=lh (bt BA J);clear J;cases bb)
    .go_ret
     exact⟨rfl,bt (bt B8.o A) B3.o⟩
    .go_roundw
     case rel=>exact⟨k+1,by omega,by go_num,bt A B3.o⟩
     case measure=>simp [Zq];omega
   .go_wp2_with (go_at_call 11;(with_reducible refine HF.o.mono ?_);rintro _ w3 ⟨bb,rfl,-,J⟩;have ds:=(J.cell (p:=⟨wr.heap.size,35,Z7⟩) (by simp)).trans dq;have B3:=lh (bt BA J);clear J;cases bb)
    all_goals
     go_ret
     exact⟨rfl,bt (bt B8.o A) B3.o⟩
  obtain rfl:k=1+d:=by omega
  have RR:=am A R8 (by rw[L];decide);have BB:=lh (bt B8.o A);clear E zr R8 A;by_cases h0:U=0
  rotate_left
  .have t2:(U != 0)=ZX:=YQ.2 h0;clear h0
   go_wp2_with first|go_at_call 26;(refine (ao.o _ BB.o).mono ?_);rintro _ w2 ⟨v2,rfl,a0,b3,h⟩;have R2:=am h RR (by rw[L];decide);have B2:=lh (bt BB.o h);have S2:=lh a0;clear a0 b3 h|go_at_call 22;(refine (ar.o _ _ B2.o S2.o).mono ?_);rintro _ w3 ⟨ov,rfl,-,h⟩;have B3:=lh (bt B2.o h);clear h
   go_ret
   exact⟨rfl,B3.o⟩
  have t2:(U != 0)=ZW:=by rw[h0];rfl
  obtain⟨d4,d5⟩:=HK.o h0;have b2:=X.o;rw[d4] at b2;dsimp only at b2;have X:=lh b2;have cq:=lh d5;have bc:=lh (fun rv cv W (hr:RwS W rv D) (hc:ChS W cv cs)=>AY rv D cv cs W hr hc (by omega) (by omega));clear HK h0 d4 d5 b2;generalize hR:apl D cs=R at ex cw X cq bc;generalize ct:bj R cs=N at cw X
  go_wp2_with first|go_at_call 26;(refine (ao.o _ BB.o).mono ?_);rintro _ w2 ⟨v2,rfl,a0,b3,h⟩;obtain⟨va,vc,rfl,-⟩:=VW a0;have R2:=am h RR (by rw[L];decide);have B2:=lh (bt BB.o h);have S2:=lh a0;have O2:=lh b3;clear a0 b3 h|go_at_call 22;(refine (ar.o _ _ B2.o S2.o).mono ?_);rintro _ w3 ⟨ov,rfl,hc,h⟩;obtain⟨ca,cc,rfl,-⟩:=VW hc;have B3:=lh (bt B2.o h);have S3:=lh (S2.o.below h);have O3:=lh (fun q hq=>Zz (O2.o q hq) h.size);have C3:=lh hc;clear hc h|(go_at_call 28;(with_reducible refine (sh7x _ _ _ _).mono ?_);rintro _ _ ⟨rfl,rfl⟩)|go_at_call 27;(refine (X.o _ w3 (HM.o _ B3.o).1 (HM.o _ B3.o).2 S3.o O3.o _ C3.o).mono ?_);rintro _ w4 ⟨nv,rfl,a6,hg⟩;obtain⟨na,nc,rfl⟩:=bX a6;have b4:Z4 w3.heap.size w3 w4:=((aj w3 _).trans (gJ hg (ZV w3.heap.size) (by simp)));have B4:=lh (bt B3.o b4);have N4:=lh (jp (by omega) (dU a6));have S4:=lh (S3.o.below b4);have C4:=lh (C3.o.below b4);clear a6 hg b4|go_at_call 29;(refine (bc.o _ _ w4 S4.o C4.o).mono ?_);rintro _ w5 ⟨v5,rfl,c9,d8,h⟩;obtain⟨ra,gw,rfl,-⟩:=VW c9;have B5:=lh (bt B4.o h);have N5:=lh (N4.o.below h);have C5:=lh (C4.o.below h);have S5:=lh c9;have O5:=lh (fun q hq=>(d8 q hq).2);clear c9 d8 h
  clear RR ao ar X bc;go_loopw [13,69] (fun nv i wr=>∃ k:Nat,k<=cs.length/\i=.int .i64 k/\nv=.int .i64 ((bj R (cs.take k)).length:Nat)/\Hid (Z4 w5.heap.size w5 wr)) (fun _ i _=>cs.length - (Zq i).toNat)
  case atStart=>exact⟨0,Y6 _,rfl,rfl,lh (ZR _ _)⟩
  case round =>
   obtain⟨k,hk,rfl,rfl,A⟩:=hrel;by_cases E:k<cs.length
   rotate_left
   .obtain rfl:k=cs.length:=by omega
    have e1:bj R (cs.take cs.length)=N:=by rw[List.take_length];exact ct
    have t3:((N.length:Int)==(N.length:Int))=ZX:=by simp
    rw[e1];go_wp2_with fail
    go_ret
    exact⟨rfl,bt B5.o A.o⟩
   obtain⟨g9,ga,em,-,cz⟩:=C5.o;injection em with en gb ep
   subst en ep;obtain⟨b,o,rfl,h,a4⟩:=cz (by omega);have j:=fun i u hu=>(A.o.cell (p:=⟨b,o+k*5+i,Z7⟩) h).trans (a4 k E i u hu)
   have Q:=Ks (R:=R) E;have P:=fun y=>Kr (R:=R) (y:=y) E
   have O:=fun y=>Kq (R:=R) (y:=y) E
   have a5:=List.getElem_mem E;have br:=cq.o cs[k] a5;generalize cs[k]=ck at j Q P O a5 br;have be:=@Lu ck;have bi:=@Lv ck;have bk:=fun y=>@Lw ck y
   have bp:=fun y=>@Lx ck y
   obtain⟨r0,r1,r2,r3,r4⟩:=ck;dsimp only at be bi bk bp;have p0:wr.cell? ⟨b,o+k*5,Z7⟩=Z9 (.int .i64 r0):=j 0 _ rfl;have p1:wr.cell? ⟨b,o+k*5+1,Z7⟩=Z9 (.int .i64 r1):=j 1 _ rfl;have p2:wr.cell? ⟨b,o+k*5+2,Z7⟩=Z9 (.string r2):=j 2 _ rfl;have p3:wr.cell? ⟨b,o+k*5+3,Z7⟩=Z9 (.string r3):=j 3 _ rfl;have p4:wr.cell? ⟨b,o+k*5+4,Z7⟩=Z9 (.string r4):=j 4 _ rfl;have j1:(0:Int)<=(k:Int):=by omega
   have j2:(k:Int)<(cs.length:Int):=by omega
   have BW:=lh (bt B5.o A.o);have cm:=lh (fun W (b:Z4 w.heap.size w W)=>KN r3 W (HM.o W b).1 (HM.o W b).2);have e5:=lh be;have cn:=lh bi;have e6:=lh bk;have e7:=lh bp;have av:=lh Q;have e9:=lh P;have e8:=lh O;have ei:=lh br;clear j a4 cz be bi bk bp Q P O a5 br;by_cases h0:r0=0
   rotate_left
   .have t3:(r0 != 0)=ZX:=YQ.2 h0;have Y:=av.o (e5.o h0);clear h0;go_wp2_with (go_at_call 30;(refine (cm.o _ (bt BW.o (aj wr _))).mono ?_);rintro _ w7 ⟨y,al,gr,cd,rfl,hI,a3,C,-⟩;have c8:=ay y.1 al gr (aD hI) (aE a3);have ac:=(C.cell (p:=⟨wr.heap.size,0,Z7⟩) (by simp)).trans (show (wr.alloc (.cells #[.int .i64 r0,.int .i64 r1,.string r2,.string r3,.string r4] 67)).cell? ⟨wr.heap.size,0,Z7⟩=Z9 (.int .i64 r0) by simp [go_sem]);have B7:=lh (bt (aj wr _) C);have du:=(aj w7 (.cells (y.1.vals al gr) 29)).cell (p:=⟨wr.heap.size,0,Z7⟩) (by have:=C.size;simp at this |-;omega) |>.trans ac;clear hI a3 C ac)
    go_roundw
    case rel=>exact⟨k+1,by omega,by go_num,by rw[Y],lh (bt A.o (B7.o.alloc B7.o.size _))⟩
    case measure=>simp [Zq];omega
   have t3:(r0 != 0)=ZW:=by rw[h0];rfl
   have H0:=lh h0;clear h0;have b5:=lh (fun (nm:Z6) sv W (hm:MaxL W) (hT:Tab W) (hr:RwS W sv R) (ho:∀ b,sv.ownBlock=Z9 b->b<W.heap.size)=>Mc W.heap.size sv R 0 0 0 nm W _ hm hT (Jq sv R W hr ho) (by decide) (by decide) (Or.inr (by decide)));go_upto_region 23 with (go_at_call 30;(refine (cm.o _ (bt BW.o (aj wr _))).mono ?_);rintro _ w7 ⟨y,al,gr,cd,rfl,hI,a3,C,Y⟩;have c8:=ay y.1 al gr (aD hI) (aE a3);have ac:=(C.cell (p:=⟨wr.heap.size,0,Z7⟩) (by simp)).trans (show (wr.alloc (.cells #[.int .i64 r0,.int .i64 r1,.string r2,.string r3,.string r4] 67)).cell? ⟨wr.heap.size,0,Z7⟩=Z9 (.int .i64 r0) by simp [go_sem]);have B7:=lh (bt (aj wr _) C);have R7:=ak w7 (y.1.vals al gr) 29 (0,0);have du:=(aj w7 (.cells (y.1.vals al gr) 29)).cell (p:=⟨wr.heap.size,0,Z7⟩) (by have:=C.size;simp at this |-;omega) |>.trans ac;have g7:=ae R7 0 _ (ap _ _ _);have g2:(y.1.kind != 0)=ZX/\y.1.kind≠0\/(y.1.kind != 0)=ZW/\y.1.kind=0:=(by by_cases q:y.1.kind=0;exact .inr ⟨by rw[q];rfl,q⟩;exact .inl ⟨YQ.2 q,q⟩);clear hI a3 C ac;rcases Y with ⟨Y,rfl⟩|⟨Y,-,rfl⟩ <;> rcases g2 with ⟨t4,c4⟩|⟨t4,c4⟩ <;> (have cp:=lh c4;have af:=lh Y;clear c4 Y))
   .have Y:=av.o (e6.o y af.o cp.o);go_roundw
    case rel=>exact⟨k+1,by omega,by go_num,by rw[Y],lh (bt A.o (B7.o.alloc B7.o.size _))⟩
    case measure=>simp [Zq];omega
   rotate_left
   .have Y:=av.o (cn.o af.o);go_roundw
    case rel=>exact⟨k+1,by omega,by go_num,by rw[Y],lh (bt A.o (B7.o.alloc B7.o.size _))⟩
    case measure=>simp [Zq];omega
   .have Y:=av.o (cn.o af.o);go_roundw
    case rel=>exact⟨k+1,by omega,by go_num,by rw[Y],lh (bt A.o (B7.o.alloc B7.o.size _))⟩
    case measure=>simp [Zq];omega
   have V:=e7.o y H0.o af.o cp.o;have d7:=ei.o y V;have G:=b5.o y.1.name;rw[KE R 0 0 0 y.1.name (by decide) (by decide)] at G;obtain⟨s,hs⟩:∃ s,(kc R y.1.name).1=s:=⟨_,rfl⟩;have dj:kc R y.1.name=(s,0):=by rw[<-hs,<-d7]
   rw[dj] at G;dsimp only at G;have ee:=lh G;obtain⟨rr,a8⟩:=e8.o y V;have c7:=e9.o y V;have g0:zS R y=(7,y.1.d0,⟨#[]⟩,s,y.1.vol):=by unfold zS;rw[hs]
   rw[g0] at a8 c7;have ab:=ae R7 1 _ (aq _ _ _);have ce:=ae R7 2 _ (vU _ _ _);have aa:=ae R7 18 _ (pS _ _ _);have B8:=lh (B7.o.alloc B7.o.size (.cells (y.1.vals al gr) 29));have a9:w7.heap.size<(w7.alloc (.cells (y.1.vals al gr) 29)).heap.size:=by simp
   generalize w7.alloc (.cells (y.1.vals al gr) 29)=W8 at ab ce aa B8 a9 |-;have gg:y.1.name=y.1.name:=rfl;clear b5 d7 hs dj G V g7 du R7;refine wp_region_held_drew (S:=fun w'=>w'.cell? ⟨w7.heap.size,1,Z7⟩=Z9 (.string y.1.name)) (by kernel_rfl) ab (fun hHeld=>?_)
   (refine rgy (i:=0) (Z9 92) ?_;(try simp only[ZL,pz]))
   (refine rgy (i:=3) (Z9 95) ?_;(try simp only[ZL,pz]))
   (refine rgy (i:=4) (Z9 96) ?_;(try simp only[ZL,pz]))
   refine rgb (i:=1) (by kernel_rfl) rfl (fun K hK=>?_)
   go_simp
   go_at_call 28
   refine (sh7x _ _ _ _).mono ?_
   rintro _ _ ⟨rfl,rfl⟩;refine hK.out _ _ (((aj W8.drew _).cell (p:=⟨w7.heap.size,1,Z7⟩) a9).trans ab) (fun hHeld=>?_)
   (clear hK K;(try simp only[ZL,pz]))
   (refine rgy (i:=2) (Z9 94) ?_;(try simp only[ZL,pz]))
   refine rgb (i:=5) (by kernel_rfl) rfl (fun K hK=>?_)
   go_simp
   go_at_call 31
   refine (ee.o _ W8.drew (HM.o _ (bt BW.o B8.o.drew)).1 (HM.o _ (bt BW.o B8.o.drew)).2 (S5.o.below (bt A.o B8.o.drew)) (fun q hq=>Zz (O5.o q hq) (Nat.le_trans A.o.size B8.o.size))).mono ?_
   rintro _ T ⟨rfl,-,b6⟩;have b0:Z4 W8.heap.size W8 T:=(ZR W8.heap.size W8).drew.trans ((aj W8.drew _).trans (gJ b6 (ZV W8.heap.size) (by simp)));refine hK.out _ _ ((b0.cell (p:=⟨w7.heap.size,1,Z7⟩) a9).trans ab) (fun hHeld=>?_)
   (clear hK K;(try simp only[ZL,pz]))
   (refine rgy (i:=6) (Z9 91) ?_;(try simp only[ZL,pz]))
   (refine rgy (i:=7) (Z9 98) ?_;(try simp only[ZL,pz]))
   (refine rgy (i:=8) (Z9 99) ?_;(try simp only[ZL,pz]))
   (refine rgy (i:=9) (Z9 18) ?_;(try simp only[ZL,pz]))
   (refine rgy (i:=10) (Z9 19) ?_;(try simp only[ZL,pz]))
   refine wpAnyH_done (by kernel_rfl) ?_ _
   have m2:=(b0.cell (p:=⟨w7.heap.size,2,Z7⟩) a9).trans ce;have gl:=(b0.cell (p:=⟨w7.heap.size,18,Z7⟩) a9).trans aa;have e0:=lh (bt B8.o b0);obtain⟨gn,go,er,gh,b1⟩:=N5.o;injection er with es gc et
   subst es et;rw[ct] at a8;have d6:(bj R (cs.take k)).length<N.length:=by rw[a8,ZO,Zw];omega
   obtain⟨nb,no,rfl,g5,b1⟩:=b1 (by omega);have bs:=b1 _ d6
   have b7:N[(bj R (cs.take k)).length]=(7,y.1.d0,⟨#[]⟩,s,y.1.vol):=by
    have:N[(bj R (cs.take k)).length]?=Z9 (7,y.1.d0,⟨#[]⟩,s,y.1.vol):=by rw[a8];simp
    exact (YR.1 this).2
   rw[b7] at bs;have b9:((bj R (cs.take (k+1))).length:Int)=(bj R (cs.take k)).length+1:=by rw[c7];simp
   have BT:=lh (bt A.o e0.o);have I:nE T nb (no+(bj R (cs.take k)).length*5) (7,y.1.d0,⟨#[]⟩,s,y.1.vol):=fun i u hu=>(BT.o.cell g5).trans (bs i u hu)
   generalize (bj R (cs.take k)).length=nn at d6 b9 I |-;have j3:(0:Int)<=(nn:Int):=by omega
   have j4:(nn:Int)<(N.length:Int):=by omega
   have t5:decide ((N.length:Int)<=(nn:Int))=ZW:=ZG (by omega);clear bs b1 b7 a8 c7 ab ce aa hHeld b6;go_upto_region 24 with fail
   have q0:T.cell? ⟨nb,no+nn*5,Z7⟩=Z9 (.int .i64 7):=I 0 _ rfl;have q1:T.cell? ⟨nb,no+nn*5+1,Z7⟩=Z9 (.int .i64 y.1.d0):=I 1 _ rfl;have q2:T.cell? ⟨nb,no+nn*5+2,Z7⟩=Z9 (.string ⟨#[]⟩):=I 2 _ rfl;have q3:T.cell? ⟨nb,no+nn*5+3,Z7⟩=Z9 (.string s):=I 3 _ rfl;have q4:T.cell? ⟨nb,no+nn*5+4,Z7⟩=Z9 (.string y.1.vol):=I 4 _ rfl;clear I;go_quiet (fail)
   go_wp2_with fail
   go_roundw
   case rel=>exact⟨k+1,by omega,by go_num,by rw[b9],lh (by first|exact BT.o|exact BT.o.drew|exact below_drewN BT.o _)⟩
   case measure=>simp [Zq];omega
theorem KU(F:Nat->Oz)(k i:Int)(e:En)(s:Z6)(x A:Zp XV)(o z N C:Nat)(w:ZY)(K:MaxL w)(T:Tab w)(L:OS w m d F)(O:o<=1000->∃ l:Z1 Int,l.length=o/\IS w (.slice x o z) l)(o2:N<=1000->∃ l:Z1 Gr,l.length=N/\GS w (.slice A N C) l)(u1:o<=9223372036854775807)(u2:N<=9223372036854775807) :
 ZH Z8 5 #[.slice m d f,.agg (opv k i e (.slice x o z) (.slice A N C) s)] w fun r w'=>r=.returned (.bool ZX)/\Z4 w.heap.size w w':=by
 have b:∃ G:Z1 Gr,N<=1000->G.length=N/\GS w (.slice A N C) G:=by
  by_cases h:N<=1000
  .obtain⟨g,V,X⟩:=o2 h;exact⟨g,fun _=>⟨V,X⟩⟩
  .exact⟨[],fun k=>absurd k h⟩
 obtain⟨G,b⟩:=b;by_cases h:d<=12/\∀ j,j<1+d->few7O (qf ⟨k,i,⟨e,o,N,G⟩,s⟩ F j)
 .obtain⟨hn,J⟩:=h;obtain⟨⟨B,P,Q⟩,D⟩:=J 0 (by omega);dsimp only[qf] at B P Q D;obtain⟨l1,z1,i1⟩:=O (by omega);obtain⟨z2,i2⟩:=b (by omega)
  obtain⟨Z,Y⟩:=L.ol fun j hj=>by
   obtain⟨⟨E,S,U⟩,I⟩:=J (j+1) (by omega);dsimp only[qf] at E S U I;exact⟨by omega,by omega,E,I⟩
  exact KA m d f F Z ⟨k,i,⟨e,o,N,G⟩,s⟩ l1 x A z C w K T hn L Y B D u1 u2 z1 i1 z2 i2
 .exact KQ m d f F ⟨k,i,⟨e,o,N,G⟩,s⟩ x A z C w K T L ⟨O,b⟩ u1 u2 h
end
end Go.Proofs.YtnkjliahpeebjaaGreatDoor
section
namespace Go.Proofs.YtnkjliahpeebjaaGreatDoor.rebuildChanges
open Go.ChangeShapes Go.WideShapes Go.ChangeAt Go.RowKit Go.Proofs.YtnkjliahpeebjaaGreatDoor
open Go.ChangeMaps (open_string)
set_option maxRecDepth 100000 in
theorem contract(H:Type)(enc:Y2 × Z2->H)(W:ZY)(base:Nat)(A:Zy Z2)(G X:Z1 (DataW H))(b:Z1 Vw)(i:∀ (j:Nat) t v,Tryz.f5.params[j]?=Z9 t->A[j]?=Z9 v->Value.okWide Z8 W .any base t v)(I:DataW.Whole enc Z8 Tryz.f5.params.toList Rows.rebuildChangesSpec.vars ZW W A.toList G X b)(L:laidMetH Z8 Rows.rebuildChangesRow.laid W)(hS:W.ShapedOpen Z8) :
 ZH Z8 5 A W fun e E=>∃ v,e=.returned v/\Rows.rebuildChangesSpec.post enc Z8 Tryz.f5 ZW ZX ZW ZW W A v E:=by
 have o:=I;have C:∀ x∈b,x.block<W.heap.size:=fun x D=>by simpa using o.lt x D
 obtain⟨p,q,z,hV,rfl,a0,a2⟩:=I;have s:DataW.TrodAll enc Z8 W 0 (fun _=>ZX) ZX Tryz.f5.params.toList A.toList G p:=z;have hK:=s;rw[Tryz.params5] at s i;obtain⟨K,a3,d0,S,p0,q0,B,rfl,rfl,Y,r0⟩:=trodAll_cons s;obtain⟨N,a4,d1,T,p1,Q,rfl,rfl,rfl,Z,r1⟩:=trodAll_cons r0;obtain⟨rfl,rfl,rfl⟩:=trodAll_nil r1;obtain rfl:A=#[K,N]:=by cases A;simp_all
 obtain⟨rfl,rfl⟩:=trodVars_none hV;obtain⟨m,d,f,F0,rfl,o0⟩:=LG (i 0 22 K rfl rfl) Y;obtain⟨k1,i1,U,s1,O,n1,P,x1,m1,y1,rfl,u1,V,o1,Q⟩:=Eo (i 1 31 N rfl rfl) Z;rw[MakeChecks.laidMetH_plain _ _ _ (by kernel_rfl)] at L;refine (KU m d f F0 _ _ U _ O x1 n1 P m1 y1 W (Gi hS) (Ik L) o0 o1 Q u1 V).mono fun e E ⟨he,J⟩=>?_
 subst he;exact⟨_,rfl,_,_,_,[],_,[],o,trodAll_cons_mk (shut_bool Tryz.underlying4 _) trodAll_mk0,yT J (by rw[Tryz.params5];kernel_rfl) hK (fun x D=>C x (by simpa using D)),rfl,J.frame _,fun h=>by cases h⟩
def lY:Z2:=.agg #[.int .i64 0,.int .i64 0,.int .i64 0,.string ⟨#[]⟩,.int .i64 0,.int .i64 0,.int .i64 0,.int .i64 0,.int .i64 0,.int .i64 0,.int .i64 0,.int .i64 0,.int .i64 0,.int .i64 0,.int .i64 0,.int .i64 0,.int .i64 0,.int .i64 0,.bool ZW,.int .i64 0,.string ⟨#[]⟩,.string ⟨#[]⟩,.int .i64 0,.int .i64 0,.bool ZW,.slice Z7 0 0,.int .i64 0,.int .i64 0,.int .i64 0,.bool ZW,.string ⟨#[]⟩,.string ⟨#[]⟩,.int .i64 0,.int .i64 0,.slice Z7 0 0,.string ⟨#[]⟩]
def xB{H:Type}:DataW H:=.agg [.lit (.int .i64 0),.lit (.int .i64 0),.agg [.lit (.int .i64 0),.lit (.string []),.agg [.lit (.int .i64 0),.lit (.int .i64 0),.lit (.int .i64 0),.lit (.int .i64 0),.lit (.int .i64 0),.lit (.int .i64 0),.lit (.int .i64 0),.lit (.int .i64 0),.lit (.int .i64 0),.lit (.int .i64 0),.lit (.int .i64 0),.lit (.int .i64 0),.lit (.int .i64 0),.lit (.int .i64 0),.lit (.bool ZW),.lit (.int .i64 0),.lit (.string []),.lit (.string []),.lit (.int .i64 0),.lit (.int .i64 0),.lit (.bool ZW)],.nil,.lit (.int .i64 0),.lit (.int .i64 0),.lit (.int .i64 0),.lit (.bool ZW),.lit (.string []),.lit (.string []),.lit (.int .i64 0),.lit (.int .i64 0),.nil],.lit (.string [])]
theorem laid_met(o:Os):laidMetH Z8 Rows.rebuildChangesRow.laid ((World.laidAll Z8 o Rows.rebuildChangesRow.laid).forCall (fun _ _=>0) ⟨#[],#[(.slice Z7 0 0:Z2),(lY:Z2)],[]⟩).memory:=by
 rw[MakeChecks.laidMetH_plain _ _ _ (by kernel_rfl)];exact laidMet_laidAll _ (by kernel_rfl) (by kernel_rfl)
theorem reads(o:Os){H:Type}(enc:Y2 × Z2->H):∃ P,DataW.whole enc Z8 ((World.laidAll Z8 o Rows.rebuildChangesRow.laid).forCall (fun _ _=>0) ⟨#[],#[(.slice Z7 0 0:Z2),(lY:Z2)],[]⟩).memory Tryz.f5.params.toList Rows.rebuildChangesSpec.vars ZW #[(.slice Z7 0 0:Z2),(lY:Z2)].toList 8=Z9 ([.nil,xB],[],P) :=
 ⟨[],by kernel_rfl⟩
set_option maxRecDepth 100000 in
theorem lifted(o:Os)(S:o.Started)(H:Type)(enc:Y2 × Z2->H)(F:Stop.Interp) :
 ReturnsInHanded {} Tryz.checked o 5 .any ((OpenSpec.ofChange Rows.rebuildChangesSpec).preRow enc Z8 Tryz.f5 Rows.rebuildChangesRow.domain ZW Rows.rebuildChangesRow.laid) (((OpenSpec.ofChange Rows.rebuildChangesSpec).at F).post enc Z8 Tryz.f5 ZW ZX ZW ZW):=by
 obtain⟨P,x⟩:=reads o enc
 refine returnsInHanded_of_row (C:=Tryz.checked) (s:=OpenSpec.ofChange Rows.rebuildChangesSpec) ownk S (by kernel_rfl) Tryz.func5
  (yH (enc:=enc) (C:=Tryz.checked) ZW #[(.slice Z7 0 0:Z2),(lY:Z2)] (World.shaped_of_ZipB (by kernel_rfl) (by kernel_rfl)) (by kernel_rfl)
    (OpenSpec.preRow_of_cond 8 x (by kernel_rfl) (fun k j=>by cases j) (by kernel_rfl) (laid_met o))) ?_
 intro W base A D G b h i _ _ _ L e _;exact contract H enc W base A D G b h i L e
theorem said:Rows.RebuildChangesSaid :=
 OpenClaim.holds_of_cond 5 Tryz.f5 rfl rfl rfl rfl rfl rfl rfl ⟨rfl,rfl,rfl,rfl,rfl⟩ rfl rfl rfl rfl rfl (by kernel_rfl) Tryz.func5 joined_rebuildChanges
  (of_decide_eq_true (by kernel_rfl)) (by unfold Func.isWrapper;first|(rw[if_pos (by decide +kernel)];kernel_rfl)|(rw[if_neg (by decide +kernel)];exact⟨rfl,rfl⟩))
  (fun o s H enc _ F=>by rw[OpenClaim.pre_eq_preRow];exact lifted o s H enc F)
theorem plain(f:FuncId)(b:Func)(i:Tryz.pinned.checked.prog.funcNamed Rows.rebuildChangesRow.func=Z9 f)(h:Tryz.pinned.checked.prog.funcs[f]?=Z9 b) :
 ZW=Tryz.pinned.checked.prog.looks []/\∀ (j:Nat) t,b.params[j]?=Z9 t->Tryz.pinned.checked.prog.wantsStandIn t=ZW:=by
 obtain rfl:f=5:=ZN ((show Tryz.prog.funcNamed Rows.rebuildChangesRow.func=Z9 5 by kernel_rfl).symm.trans i) |>.symm
 obtain rfl:b=Tryz.f5:=(ZN (Tryz.func5.symm.trans h)).symm;refine⟨by kernel_rfl,fun j t e=>?_⟩
 rw[Tryz.params5] at e;have o:=Array.mem_of_getElem? e;have ha:(#[22,31]:Zy Y2).all (fun t=>!Tryz.prog.wantsStandIn t)=ZX:=by kernel_rfl
 have:=(Array.all_eq_true_iff_forall_mem.1 ha) t o;exact (show Tryz.prog.wantsStandIn t=ZW by simpa using this)
theorem card:Rows.RebuildChangesCardSaid :=
 Claim7.holds_tied_plain_at .later [] _ _ _ _ said (fun _ h=>by cases h) (by kernel_rfl) (fun _ h=>by cases h) rebuildChanges_row_tie rfl ⟨rfl,rfl⟩ (by kernel_rfl) rfl plain (by kernel_rfl)
end Go.Proofs.YtnkjliahpeebjaaGreatDoor.rebuildChanges
end
