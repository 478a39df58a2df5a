/- Catalogs. -/
import Derived.Test.YtnkjliahpeebjaaGreatDoorSh
set_option maxRecDepth 8000
set_option maxHeartbeats 8000000
open Option renaming some->Z9,none->Z7
open Go.RowKit renaming Below->Z4,intOf->Zq
open _root_ renaming List->Z1,if_neg->ZS,if_pos->ZP,UInt8->ZM,decide_eq_true->ZI,decide_eq_false->ZG,Bool->Zj
open Go renaming World->ZY,maxLen->YB,run_underlying->Yk,wpAnyH_done->XJ,wp_region_held_drew->XB,wpAnyH_ready->Wf
open Bool renaming true->ZX,false->ZW,true_and->Zc,false_eq_true->Xi
open Nat renaming le_refl->ZV,zero_le->Y6,zero_add->Yw
open Go.RowKit.Below renaming refl->ZR,drew->Y3
open Go.Act renaming put->ZL,eval->Za
open List renaming take_succ_eq_append_getElem->ZK,take_of_length_le->Zv,setIfInBounds_toArray->Zt,set_cons_zero->Ze,set_cons_succ->Zd,mem_cons->YX,mem_singleton->YM,range->YK,mem_append->Yg,takeWhile_append_dropWhile->XE,drop_zero->VG
open Go.Result renaming andThen_ok->YA
open Go.Value renaming ownBlock->Yd
open Go.AllReadyH renaming cons->Ya,nil->Wu
open Int renaming toNat_natCast->WF
namespace Go.Proofs.YtnkjliahpeebjaaGreatDoor
variable(x:Rw)(d:Z1 Rw){w' w:ZY}{F:Nat->Rw}{a:Option Addr}{e b n g size q o c base k:Nat}{l:Z1 Rw}{f xs:Z1 Value}
abbrev aU(x:Rw):Z1 ZM:=Ds.bl x.2.1
def ed(x y:Rw):Zj:=decide (x.1=y.1)&&decide (aU x=aU y)
def agn(l:Z1 Rw)(k:Nat)(x:Rw):Zj:=(l.take k).any fun y=>ed y x
def dst(l:Z1 Rw):Nat->Z1 Rw
 | 0=>[]
 | k+1=>match l[k]? with|none=>dst l k|some x=>if agn l k x=ZX then dst l k else dst l k++[x]
def DstL(l:Z1 Rw):Prop:=l.Pairwise fun x y=>ed x y=ZW
theorem DstL.inj(h:DstL l){x y:Rw}(r:x∈l)(t:y∈l)(m:x.1=y.1)(p:aU x=aU y):x=y:=by
 induction l with
 | nil=>cases r
 | cons z l I =>
   unfold DstL at h;rw[List.pairwise_cons] at h
   have key:∀ u v:Rw,ed u v=ZW->¬ (u.1=v.1/\aU u=aU v):=fun u v s ⟨Q,A⟩=>by
    unfold ed at s;rw[ZI Q,ZI A] at s;cases s
   rcases YX.1 r with j|i
   .rcases YX.1 t with E|H
    .exact j.trans E.symm
    .subst j;exact absurd ⟨m,p⟩ (key _ _ (h.1 y H))
   .rcases YX.1 t with E|H
    .subst E;exact absurd ⟨m.symm,p.symm⟩ (key _ _ (h.1 x i))
    .exact I h.2 i H
def cQ(x y:Rw):Zj:=bB (aU y) (aU x)
def dk(x:Rw)(d:Z1 Rw):Z1 Rw:=d.takeWhile (cQ x)++x::d.dropWhile (cQ x)
def cH(id:Int)(c:ZM)(x:Rw):Zj:=decide (x.1=id)&&decide ((aU x).head?=Z9 c)
def jl(id:Int)(c:ZM)(d:Z1 Rw)(x:Rw):Z1 Rw:=if cH id c x=ZX then dk x d else d
def srt(id:Int)(c:ZM)(l:Z1 Rw):Z1 Rw:=l.foldl (jl id c) []
theorem mE(id:Int)(c:ZM)(l:Z1 Rw)(x:Rw):srt id c (l++[x])=jl id c (srt id c l) x:=by
 unfold srt;rw[List.foldl_append];rfl
theorem sW(y:Rw):y∈dk x d↔y=x\/y∈d:=by
 unfold dk;have e:d.takeWhile (cQ x)++d.dropWhile (cQ x)=d:=XE
 have h:y∈d↔y∈d.takeWhile (cQ x)\/y∈d.dropWhile (cQ x):=by
  rw[<-Yg,e]
 rw[Yg,YX,h];constructor
 .rintro (h|h|h)
  .exact .inr (.inl h)
  .exact .inl h
  .exact .inr (.inr h)
 .rintro (h|h|h)
  .exact .inr (.inl h)
  .exact .inl h
  .exact .inr (.inr h)
theorem fu:(dk x d).length=d.length+1:=by
 have e:(d.takeWhile (cQ x)++d.dropWhile (cQ x)).length=d.length:=by rw[XE]
 unfold dk;rw[List.length_append] at e |-;rw[List.length_cons];omega
theorem iV(id:Int)(c:ZM)(l:Z1 Rw):∀ k,∀ x,x∈srt id c (l.take k)↔x∈l.take k/\cH id c x=ZX
 | 0,x=>by simp [srt]
 | k+1,x=>by
   by_cases j:k<l.length
   .rw[ZK j,mE];unfold jl;split
    .rename_i i;rw[sW,iV id c l k x,Yg,YM];constructor
     .rintro (rfl|h)
      .exact⟨.inr rfl,i⟩
      .exact⟨.inl h.1,h.2⟩
     .rintro ⟨h|rfl,H⟩
      .exact .inr ⟨h,H⟩
      .exact .inl rfl
    .rename_i i;rw[iV id c l k x,Yg,YM];constructor
     .rintro h;exact⟨.inl h.1,h.2⟩
     .rintro ⟨h|rfl,H⟩
      .exact⟨h,H⟩
      .exact absurd H i
   .have:=iV id c l k x;rw[Zv (by omega)] at this |-;exact this
theorem pN(id:Int)(c:ZM)(l:Z1 Rw):∀ k,(srt id c (l.take k)).length<=k
 | 0=>by simp [srt]
 | k+1=>by
   have i:=pN id c l k;by_cases h:k<l.length
   .rw[ZK h,mE];unfold jl;split
    .rw[fu];omega
    .omega
   .rw[Zv (by omega)] at i |-;omega
section
open Go.RowKit
def RwAt(w:ZY)(b o:Nat)(x:Rw):Prop:=w.cell? ⟨b,o,Z7⟩=Z9 (.int .i64 x.1)/\w.cell? ⟨b,o+1,Z7⟩=Z9 (.string x.2.1)/\w.cell? ⟨b,o+2,Z7⟩=Z9 (.string x.2.2)
theorem RwAt.below{x:Rw}(h:RwAt w b o x)(H:Z4 w.heap.size w w'):RwAt w' b o x:=⟨ai H h.1,ai H h.2.1,ai H h.2.2⟩
def RwL(w:ZY)(a:Option Addr)(n:Nat)(F:Nat->Rw):Prop:=n<=9223372036854775807/\∀ k,k<n->∃ b o,a=Z9 ⟨b,o,Z7⟩/\b<w.heap.size/\RwAt w b (o+k*3) (F k)
theorem RwL.below(h:RwL w a n F)(H:Z4 w.heap.size w w'):RwL w' a n F :=
 ⟨h.1,fun k m=>by
  obtain⟨b,o,i,p,j⟩:=h.2 k m;exact⟨b,o,i,by have:=H.size;omega,j.below H⟩⟩
def rlst(F:Nat->Rw)(n:Nat):Z1 Rw:=(YK n).map F
theorem lj(F:Nat->Rw)(n:Nat):(rlst F n).length=n:=by unfold rlst;simp
theorem CA(F:Nat->Rw)(n k:Nat)(h:k<(rlst F n).length):(rlst F n)[k]=F k:=by
 have:∀ (h:k<((YK n).map F).length),((YK n).map F)[k]=F k:=fun h=>by simp
 exact this h
theorem RwL.rws(h:RwL w a n F)(c:Nat)(r:n<=1000000):RwS w (.slice a n c) (rlst F n):=by
 refine⟨a,c,by rw[lj],by rw[lj];exact r,fun i=>?_⟩
 rw[lj] at i;obtain⟨b,o,ha,p,-⟩:=h.2 0 i;refine⟨b,o,ha,p,fun k j=>?_⟩
 rw[lj] at j;obtain⟨B,O,H,-,m⟩:=h.2 k j;rw[ha] at H;cases H
 rw[CA];exact m
def qS(F:Nat->Rw)(n:Nat)(m:Int):Prop:=(n:Int)<=m/\∀ k,k<n->(F k).2.1.size<=60/\(F k).2.2.size<=300
def FewRR(F:Nat->Rw)(n:Nat)(m:Int)(w w':ZY)(r:Ending):Prop:=∃ b:Zj,r=.returned (.bool b)/\(b=ZX->qS F n m)/\w'=w
theorem FewRR.no{m:Int}:FewRR F n m w w (.returned (.bool ZW)):=⟨ZW,rfl,(fun h=>by cases h),rfl⟩
theorem bdr(B:Nat)(w:ZY)(n:Nat):Z4 B w (w.drewN n):=⟨rfl,rfl,rfl,ZV _,fun _ _=>rfl⟩
end
section
open Go.RowKit
set_option linter.unusedSimpArgs false
theorem eP{e:TypeId}(H:w.heap.size=q)(h:base<=q):(w.alloc (.cells #[] e)).ownsRow base e size (.slice (Z9 ⟨q,0,Z7⟩) 0 0) 0 []:=by
 subst H;exact⟨by simp,.inr ⟨w.heap.size,0,#[],rfl,h,heap_alloc_new w _,ZV _,by unfold YB;omega,by simp,by simp⟩⟩
theorem CS.grown{m:Nat}{row:Option Nat}(h:CS w size (.slice (Z9 ⟨b,o,Z7⟩) m c) m f)(v:w.grownBy w' row)(i:Z9 b≠row)(H:b<w.heap.size):CS w' size (.slice (Z9 ⟨b,o,Z7⟩) m c) m f:=by
 obtain⟨a,C,e,s,t⟩:=h;cases e
 refine⟨_,_,rfl,s,fun r=>?_⟩
 obtain⟨A,e,p⟩:=t r;cases e
 exact⟨_,rfl,fun j u y=>by
  have:=p j u y;rw[Addr.add_lit] at this |-;exact (World.cell?_of_block (a:=(⟨b,o+j,Z7⟩:Addr)) (v.block b H i)).trans this⟩
theorem ej{v:Value}(h:w.ownsRow base e size v n xs)(j:b<=base):w.ownsRow b e size v n xs:=by
 refine⟨h.1,?_⟩
 rcases h.2 with H|⟨g,C,r,rfl,i,m⟩
 .exact .inl H
 .exact .inr ⟨g,C,r,rfl,Nat.le_trans j i,m⟩
theorem fa(h:w.ownsRow base e size (.slice a n c) n xs)(p:0<n):∃ g,a=Z9 ⟨g,0,Z7⟩/\n<=c/\c<=YB:=by
 rcases h.2 with ⟨H,m⟩|⟨g,C,r,H,_,_,i,j,_⟩
 .cases H;omega
 .cases H;exact⟨g,rfl,i,j⟩
theorem tU(h:w.ownsRow base e size (.slice (Z9 ⟨g,0,Z7⟩) n c) n xs):n<=c/\c<=YB:=by
 rcases h.2 with ⟨H,m⟩|⟨G,C,r,H,_,_,i,j,_⟩
 .cases H
 .cases H;exact⟨i,j⟩
theorem uW:∀ (l:Z1 Rw) (k:Nat),rv (l.drop k)=(rv l).drop (k*3)
 | _,0=>by rw[VG,Nat.zero_mul,VG]
 | [],k+1=>by rw[List.drop_nil];exact List.drop_nil.symm
 | x::l,k+1=>by
   rw[List.drop_succ_cons,uW l k,rv,show (k+1)*3=3+k*3 by omega,<-List.drop_drop];rfl
def dN(c k:Nat):Nat:=if c=k then 0 else k*3
theorem gt(h:w.ownsRow base 89 3 (.slice (Z9 ⟨g,0,Z7⟩) n c) n (rv l))(r:l.length=n)(t:n<=c):CS w 3 (.slice (Z9 ⟨g,dN c k,Z7⟩) (n - k) (c - k)) (n - k) (rv (l.drop k)):=by
 refine⟨_,_,rfl,by rw[lK,List.length_drop,r],fun s=>⟨_,rfl,fun j u H=>?_⟩⟩
 have m:dN c k=k*3:=ZS (by omega);obtain⟨a,C,e,-,p⟩:=dU h;obtain⟨A,i,q⟩:=p (by omega);injection e with E
 rw[i] at E;cases E
 rw[uW,List.getElem?_drop] at H;have:=q _ u H;rw[Addr.add_lit] at this |-;rw[Yw] at this;rw[m];exact this
theorem gp(h:w.ownsRow base 89 3 (.slice (Z9 ⟨g,0,Z7⟩) n c) n (rv l))(r:l.length=n)(m:k<=n):CS w 3 (.slice (Z9 ⟨g,0,Z7⟩) k c) k (rv (l.take k)):=by
 refine⟨_,_,rfl,by rw[lK,List.length_take,r,Nat.min_eq_left m],fun s=>⟨_,rfl,fun j u H=>?_⟩⟩
 obtain⟨a,C,e,-,p⟩:=dU h;obtain⟨A,i,q⟩:=p (by omega);injection e with E
 rw[i] at E;cases E
 refine q j u ?_
 rw[<-List.take_append_drop k l,fB,List.getElem?_append_left (List.getElem?_eq_some_iff.1 H).1];exact H
theorem ni(j:k<=n):(Instr.slice 49 (.slice (Z9 ⟨g,0,Z7⟩) n c) (Z9 (.int .i64 (k:Int))) Z7 Z7).run Tryz.prog w=.ok (.slice (Z9 ⟨g,dN c k,Z7⟩) (n - k) (c - k)) w:=by
 have H:(0:Int)<=k:=by omega
 have i:(k:Int)<=n:=by omega
 simp only[Instr.slice,Instr.sliceBounds,Sem.run_bind,Sem.run_pure,Yk Tryz.underlying49,YA,run_sliceBound _ _ _ _ _ H i,Option.isSome,Xi,if_false]
 rw[Tryz.sizeOf89];unfold dN;by_cases h:c=k
 .simp only[YA,WF,ZP h]
 .simp only[YA,WF,ZS h,Option.map,Addr.add_lit,Yw]
theorem nh(m:k<=n)(j:n<=c):(Instr.slice 49 (.slice (Z9 ⟨g,0,Z7⟩) n c) Z7 (Z9 (.int .i64 (k:Int))) Z7).run Tryz.prog w=.ok (.slice (Z9 ⟨g,0,Z7⟩) k c) w:=by
 have H:(0:Int)<=k:=by omega
 have i:(k:Int)<=c:=by omega
 simp only[Instr.slice,Instr.sliceBounds,Sem.run_bind,Sem.run_pure,Yk Tryz.underlying49,YA,run_sliceBound _ _ _ _ _ H i,Option.isSome,Xi,if_false,if_true]
 rw[Tryz.sizeOf89];by_cases h:c=0
 .simp only[YA,WF,ZP h,Nat.sub_zero]
 .simp only[YA,WF,ZS h,Option.map,Addr.add_lit,Nat.zero_mul,Nat.sub_zero,Yw]
theorem qP(p:Rw->Zj):∀ (l:Z1 Rw) (j:Nat) (h:j<l.length),(j<(l.takeWhile p).length->p l[j]=ZX)/\(j=(l.takeWhile p).length->p l[j]=ZW)
 | x::l,0,_=>by
   rw[List.takeWhile_cons];by_cases c:p x=ZX
   .rw[ZP c];exact⟨fun _=>c,fun h=>by simp at h⟩
   .rw[ZS c];exact⟨fun h=>by simp at h,fun _=>by simpa using c⟩
 | x::l,j+1,h=>by
   have:=qP p l j (by simpa using h);rw[List.takeWhile_cons];by_cases c:p x=ZX
   .rw[ZP c];exact⟨fun q=>this.1 (by simpa using q),fun q=>this.2 (by simpa using q)⟩
   .rw[ZS c];exact⟨fun q=>by simp at q,fun q=>by simp at q⟩
theorem xt(p:Rw->Zj)(l:Z1 Rw):(l.takeWhile p).length<=l.length:=(List.takeWhile_prefix p).length_le
theorem uB:dk x d=(d.take (d.takeWhile (cQ x)).length++[x])++d.drop (d.takeWhile (cQ x)).length:=by
 unfold dk;have e:d.takeWhile (cQ x)++d.dropWhile (cQ x)=d:=XE
 have h:d.take (d.takeWhile (cQ x)).length=d.takeWhile (cQ x):=by
  conv=>lhs;rw[<-e]
  rw[List.take_left'];rw[e]
 have H:d.drop (d.takeWhile (cQ x)).length=d.dropWhile (cQ x):=by
  conv=>lhs;rw[<-e]
  rw[List.drop_left'];rw[e]
 rw[h,H,List.append_assoc];rfl
theorem DA(s:ByteArray)(h:0<s.size):(Ds.bl s).head?=Z9 s[0]:=by
 unfold Ds.bl;rw[List.head?_eq_getElem?,List.getElem?_eq_getElem (by simpa using h)];rfl
theorem rsort(v:Value)(l:Z1 Rw)(id:Int)(c:ZM)(cz:Int)(b1:cz=(c.toNat:Int))(w:ZY)(hn:l.length<=1000)(hS:RwS w v l) :
 Calls Tryz.prog 277 #[v,.int .i64 id,.int .u8 cz] w fun r w'=>∃ v',r=.returned v'/\RwS w' v' (srt id c l)/\(∀ q,v'.ownBlock=Z9 q->w.heap.size<=q)/\Z4 w.heap.size w w':=by
 obtain⟨a,cc,rfl,-,hc⟩:=hS;have HC:=lh hc;have ab:=lh b1;clear hc b1;have be:cz<256:=by have:=c.toNat_lt;rw[ab.o];omega
 have bc:0<=cz:=by rw[ab.o];omega
 go_enter Tryz.func277,Tryz.ntmps277
 go_wp2_with fail
 go_loopw [7,8] (fun v i wr=>∃ (k g V:Nat),k<=l.length/\i=.int .i64 k/\v=.slice (Z9 ⟨g,0,Z7⟩) (srt id c (l.take k)).length V/\wr.ownsRow w.heap.size 89 3 (.slice (Z9 ⟨g,0,Z7⟩) (srt id c (l.take k)).length V) (srt id c (l.take k)).length (rv (srt id c (l.take k)))/\Z4 w.heap.size w wr) (fun _ i _=>l.length - (Zq i).toNat)
 case atStart=>exact⟨0,w.heap.size,0,Y6 _,rfl,rfl,World.ownsRow_made w #[] 0 (ZV _) (Y6 _) rfl,by exact aB⟩
 case round =>
  obtain⟨k,g,V,hk,rfl,rfl,a9,B⟩:=hrel;have z0:=B.size;have HO:=lh a9;have HB:=lh B;have hL:=pN id c l k;have T:=tU a9;clear a9 B;by_cases b3:k<l.length
  .obtain⟨b,o,rfl,hb,a4⟩:=HC.o (by omega);obtain⟨q0,q1,q2⟩:=a4 k b3;have p0:=(HB.o.cell hb).trans q0;have p1:=(HB.o.cell hb).trans q1;have p2:=(HB.o.cell hb).trans q2;clear a4 q0 q1 q2;have j1:(0:Int)<=(k:Int):=by omega
   have j2:(k:Int)<(l.length:Int):=by omega
   have ar:srt id c (l.take (k+1))=jl id c (srt id c (l.take k)) l[k]:=by rw[ZK b3,mE]
   have N0:(wr.alloc (.cells #[.int .i64 l[k].1,.string l[k].2.1,.string l[k].2.2] 89)).cell? ⟨wr.heap.size,0,Z7⟩=Z9 (.int .i64 l[k].1):=ae (ak wr _ 89 (0,0)) 0 _ rfl;have N1:(wr.alloc (.cells #[.int .i64 l[k].1,.string l[k].2.1,.string l[k].2.2] 89)).cell? ⟨wr.heap.size,1,Z7⟩=Z9 (.string l[k].2.1):=ae (ak wr _ 89 (0,0)) 1 _ rfl;have N2:(wr.alloc (.cells #[.int .i64 l[k].1,.string l[k].2.1,.string l[k].2.2] 89)).cell? ⟨wr.heap.size,2,Z7⟩=Z9 (.string l[k].2.2):=ae (ak wr _ 89 (0,0)) 2 _ rfl;have b4:cH id c l[k]=ZW->srt id c (l.take (k+1))=srt id c (l.take k):=fun h=>by rw[ar];unfold jl;rw[ZS (by rw[h];simp)]
   have b6:cH id c l[k]=ZX->srt id c (l.take (k+1))=dk l[k] (srt id c (l.take k)):=fun h=>by rw[ar];unfold jl;rw[ZP h]
   have af:=lh b4;have b9:=lh b6;clear ar b4 b6;by_cases e1:l[k].1=id
   rotate_left
   .have t1:(l[k].1 != id)=ZX:=by rw[bne_iff_ne];exact e1
    have HQ:=lh (af.o (by unfold cH;rw[ZG e1];rfl));clear e1;go_wp2_with fail
    go_roundw
    case rel=>exact⟨k+1,g,V,by omega,by go_num,by rw[HQ.o],by rw[HQ.o];exact aV HO.o (fun x hx=>(aj wr _).block x (ax HO.o x hx).2),HB.o.alloc z0 _⟩
    case measure=>simp [Zq];omega
   have t1:(l[k].1 != id)=ZW:=by rw[e1];simp
   by_cases e2:l[k].2.1.size=0
   .have t2:((l[k].2.1.size:Int)==0)=ZX:=by rw[beq_iff_eq];omega
    have HQ:=lh (af.o (by unfold cH;rw[show aU l[k]=[] from List.eq_nil_of_length_eq_zero (by rw[Ds.bl_length];exact e2)];simp));clear e1 e2;go_wp2_with fail
    go_roundw
    case rel=>exact⟨k+1,g,V,by omega,by go_num,by rw[HQ.o],by rw[HQ.o];exact aV HO.o (fun x hx=>(aj wr _).block x (ax HO.o x hx).2),HB.o.alloc z0 _⟩
    case measure=>simp [Zq];omega
   have t2:((l[k].2.1.size:Int)==0)=ZW:=by rw[beq_eq_false_iff_ne];omega
   have b5:0<l[k].2.1.size:=by omega
   have ba:(0:Int)<(l[k].2.1.size:Int):=by omega
   have hh:=DA l[k].2.1 b5;by_cases e3:l[k].2.1[0]=c
   rotate_left
   .have t3:(((l[k].2.1[0]).toNat:Int) != cz)=ZX:=by rw[bne_iff_ne,ab.o];intro h;exact e3 (UInt8.toNat_inj.1 (by omega))
    have HQ:=lh (af.o (by unfold cH;rw[show (aU l[k]).head?=Z9 l[k].2.1[0] from hh,ZI e1,Zc];exact ZG (fun h=>e3 (Option.some.inj h))));clear e1 e2 e3 hh;go_wp2_with fail
    go_roundw
    case rel=>exact⟨k+1,g,V,by omega,by go_num,by rw[HQ.o],by rw[HQ.o];exact aV HO.o (fun x hx=>(aj wr _).block x (ax HO.o x hx).2),HB.o.alloc z0 _⟩
    case measure=>simp [Zq];omega
   have t3:(((l[k].2.1[0]).toNat:Int) != cz)=ZW:=by rw[e3,ab.o];simp
   have HQ:=lh (b9.o (by unfold cH;rw[show (aU l[k]).head?=Z9 l[k].2.1[0] from hh,ZI e1,Zc,e3];exact ZI rfl));clear e1 e2 e3 hh;generalize hT:srt id c (l.take k)=D at *;clear hT;have al:(wr.alloc (.cells #[.int .i64 l[k].1,.string l[k].2.1,.string l[k].2.2] 89)).ownsRow w.heap.size 89 3 (.slice (Z9 ⟨g,0,Z7⟩) D.length V) D.length (rv D):=aV HO.o (fun x hx=>(aj wr _).block x (ax HO.o x hx).2);have a2:=lh al;have aa:=lh (HB.o.alloc z0 (.cells #[.int .i64 l[k].1,.string l[k].2.1,.string l[k].2.2] 89));have z1:w.heap.size<=(wr.alloc (.cells #[.int .i64 l[k].1,.string l[k].2.1,.string l[k].2.2] 89)).heap.size:=by simp;omega
   have b0:∀ j (h:j<D.length),(wr.alloc (.cells #[.int .i64 l[k].1,.string l[k].2.1,.string l[k].2.2] 89)).cell? ⟨g,j*3+1,Z7⟩=Z9 (.string D[j].2.1):=fun j h=>by
    have:=((jX (by omega) (dU al)):RwS _ _ D);obtain⟨a',c',e,-,hp⟩:=this;obtain⟨b',o',rfl,-,C⟩:=hp (by omega);cases e
    have:=(C j h).2.1;rwa [Yw] at this
   have b8:=lh b0;clear al b0 HO HB
   have bi:g<wr.heap.size+1:=by
    have:=(ax a2.o g rfl).2;simpa using this
   go_wp2_with fail
   generalize hW:wr.alloc (.cells #[.int .i64 l[k].1,.string l[k].2.1,.string l[k].2.2] 89)=W1 at *;clear hW;go_loopw [10] (fun j bb=>∃ (i q:Nat),i<=(D.takeWhile (cQ l[k])).length/\j=.int .i64 i/\bb=W1.drewN q) (fun j _=>D.length - (Zq j).toNat)
   case atStart=>exact⟨0,0,Y6 _,rfl,rfl⟩
   case round =>
    obtain⟨i,q,hi,rfl,rfl⟩:=hrel;have bk:=xt (cQ l[k]) D;have i1:(0:Int)<=(i:Int):=by omega
    by_cases b2:i<D.length
    .have i2:(i:Int)<(D.length:Int):=by omega
     have c1:=b8.o i b2;have ac:=qP (cQ l[k]) D i b2;have t4:=mN D[i].2.1 l[k].2.1;by_cases ad:i<(D.takeWhile (cQ l[k])).length
     .have e4:=ac.1 ad;unfold cQ at e4;rw[e4] at t4;have b7:=lh ad;clear ac e4 ad;go_wp2_with fail
      go_quiet (fail)
      go_wp2_with fail
      go_roundw
      case rel=>exact⟨i+1,_,b7.o,by go_num,rfl⟩
      case measure=>simp [Zq];omega
     have HI:Hid (i=(D.takeWhile (cQ l[k])).length):=lh (by omega);have e4:=ac.2 HI.o;unfold cQ at e4;rw[e4] at t4;clear ac e4 ad;have i3:i<=D.length:=by omega
     go_wp2_with fail
     go_quiet (fail)
     go_upto_region 10 with fail
     generalize R:World.drewN (World.drewN W1 _) _=W;have a6:W.heap=W1.heap:=by rw[<-R];rfl
     have J:W.cell? ⟨wr.heap.size,0,Z7⟩=Z9 (.int .i64 l[k].1):=by rw[<-R];exact N0
     have N:W.cell? ⟨wr.heap.size,1,Z7⟩=Z9 (.string l[k].2.1):=by rw[<-R];exact N1
     have O:W.cell? ⟨wr.heap.size,2,Z7⟩=Z9 (.string l[k].2.2):=by rw[<-R];exact N2
     have I:=lh (aV a2.o (fun x _=>by rw[a6]):W.ownsRow _ _ _ _ _ _);have B2:Z4 w.heap.size w W:=by rw[<-R];exact (aa.o.trans (bdr _ _ _)).trans (bdr _ _ _)
     have z2:g<W.heap.size:=(ax I.o g rfl).2;have X:Hid ([]++rv (D.take i)++rv [(l[k].1,l[k].2.1,l[k].2.2)]++rv (D.drop i)=rv (dk l[k] D)):=lh (by rw[uB,<-HI.o,fB,fB];simp);have a1:=lh B2;have zB:=B2.size;clear R a6 N0 N1 N2 a2 aa B2;refine XB (S:=fun w'=>Z4 W.heap.size W w'/\w'.cell? ⟨wr.heap.size,0,Z7⟩=Z9 (.int .i64 l[k].1)/\w'.cell? ⟨wr.heap.size,1,Z7⟩=Z9 (.string l[k].2.1)/\w'.cell? ⟨wr.heap.size,2,Z7⟩=Z9 (.string l[k].2.2)) (by kernel_rfl) ?_ (fun hHeld=>?_)
     .exact⟨Y3 (ZR _ _),J,N,O⟩
     (refine rgy (i:=1) (Z9 56) ?_;(try simp only[ZL,pz]))
     (refine rgy (i:=2) (Z9 57) ?_;(try simp only[ZL,pz]))
     refine eq (i:=3) (Z9 58) (v:=.slice (Z9 ⟨g,0,Z7⟩) i V) rfl rfl (by kernel_rfl) (by kernel_rfl) (by kernel_rfl) (fun _ _ _ h=>h) (by kernel_rfl) (fun w ao=>?_) (by assumption) ?_
     .have sl:=nh (w:=w) (g:=g) i3 T.1;go_simp
     (try simp only[ZL,Zt,Ze,Zd])
     (refine rgy (i:=5) (Z9 60) ?_;(try simp only[ZL,pz]))
     (refine rgy (i:=8) (Z9 63) ?_;(try simp only[ZL,pz]))
     (refine rgy (i:=9) (Z9 64) ?_;(try simp only[ZL,pz]))
     refine eq (i:=10) (Z9 65) (v:=.slice (Z9 ⟨g,dN V i,Z7⟩) (D.length - i) (V - i)) rfl rfl (by kernel_rfl) (by kernel_rfl) (by kernel_rfl) (fun _ _ _ h=>h) (by kernel_rfl) (fun w ao=>?_) (by assumption) ?_
     .have sl:=ni (w:=w) (g:=g) (c:=V) i3;go_simp
     (try simp only[ZL,Zt,Ze,Zd])
     refine Wf (rs:=[0,6]) (by kernel_rfl) (by simp) ?_
     refine Ya (o:=_) rfl (fun K t=>?_) (Ya (o:=_) rfl (fun K t=>?_) Wu)
     .go_simp
      have A:Z4 W.heap.size W (W.drew.alloc (.cells #[] 89)):=(Y3 (ZR _ _)).alloc (by simp) _;refine t.out _ _ ⟨A,ai A J,ai A N,ai A O⟩ (fun hHeld=>?_)
      (clear t K;(try simp only[ZL,pz]))
      refine Wf (rs:=[4,6]) (by kernel_rfl) (by simp) ?_
      refine Ya (o:=_) rfl (fun K t=>?_) (Ya (o:=_) rfl (fun K t=>?_) Wu)
      .refine bU _ rfl (.tmp 55) (.tmp 58) 49 89 _ _ 3 40 (by rfl) Tryz.underlying49 bR bO bP bQ rfl (by decide) W.heap.size (.slice (Z9 ⟨W.heap.size,0,Z7⟩) 0 0) (.slice (Z9 ⟨g,0,Z7⟩) i V) 0 i [] (rv (D.take i)) (by simp [Za]) (eP (w:=W.drew) rfl (ZV _)) (by simp [Za]) ((gp I.o rfl i3).below A) (bM _) (by unfold YB;omega) (by omega) (by first|(simp;done)|(simp;omega)) ?_
       intro a5 c5 w5 y Q _;have s:Z4 W.heap.size W w5:=A.grown Q (by first|(simp;done)|(simp;omega)) (fun q C=>by have h2:W.heap.size=q:=(by simpa [Yd] using C);omega);refine t.out _ _ ⟨s,ai s J,ai s N,ai s O⟩ (fun hHeld=>?_)
       (clear t K;(try simp only[ZL,pz]))
       refine rgb (i:=6) (by kernel_rfl) rfl (fun K t=>?_)
       go_simp
       have P:Z4 W.heap.size W (w5.alloc (.cells #[.int .i64 l[k].1,.string l[k].2.1,.string l[k].2.2] 89)):=s.alloc s.size _;refine t.out _ _ ⟨P,ai P J,ai P N,ai P O⟩ (fun hHeld=>?_)
       (clear t K;(try simp only[ZL,pz]))
       have a0:(w5.alloc (.cells #[.int .i64 l[k].1,.string l[k].2.1,.string l[k].2.2] 89)).ownsRow _ _ _ _ _ _:=aV y (fun x hx=>(aj w5 _).block x (ax y x hx).2);have Z:=eN w5 (l[k].1,l[k].2.1,l[k].2.2) 89 _ rfl;refine rgb (i:=7) (by kernel_rfl) rfl (fun K t=>?_)
       refine bU _ rfl (.tmp 59) (.tmp 61) 49 89 _ _ 3 40 (by rfl) Tryz.underlying49 bR bO bP bQ rfl (by decide) W.heap.size (.slice a5 (0+i) c5) (.slice (Z9 ⟨w5.heap.size,0,Z7⟩) 1 1) (0+i) 1 _ (rv [(l[k].1,l[k].2.1,l[k].2.2)]) (by simp [Za]) a0 (by simp [Za]) Z (bM _) (by unfold YB;omega) (by omega) P.size ?_
       intro a7 c7 w7 p E _;have m:Z4 W.heap.size W w7:=P.grown E P.size (fun q C=>(ax a0 q C).1);refine t.out _ _ ⟨m,ai m J,ai m N,ai m O⟩ (fun hHeld=>?_)
       (clear t K;(try simp only[ZL,pz]))
       refine rgb (i:=11) (by kernel_rfl) rfl (fun K t=>?_)
       refine bU _ rfl (.tmp 62) (.tmp 65) 49 89 _ _ 3 40 (by rfl) Tryz.underlying49 bR bO bP bQ rfl (by decide) W.heap.size (.slice a7 (0+i+1) c7) (.slice (Z9 ⟨g,dN V i,Z7⟩) (D.length - i) (V - i)) (0+i+1) (D.length - i) _ (rv (D.drop i)) (by simp [Za]) p (by simp [Za]) ((gt I.o rfl T.1).below m) (bM _) (by unfold YB;omega) (by omega) m.size ?_
       intro a8 c8 w8 H G _;have u:Z4 W.heap.size W w8:=m.grown G m.size (fun q C=>(ax p q C).1);rw[X.o] at H;generalize a3:0+i+1+(D.length - i)=L at H |-;obtain rfl:L=(dk l[k] D).length:=by rw[fu];omega
       obtain⟨g8,rfl,-,-⟩:=fa H (by rw[fu];omega);refine t.out _ _ ⟨u,ai u J,ai u N,ai u O⟩ (fun hHeld=>?_)
       (clear t K;(try simp only[ZL,pz]))
       (refine rgy (i:=12) (Z9 7) ?_;(try simp only[ZL,pz]))
       refine XJ (by kernel_rfl) ?_ _
       have Y:=lh H;have U:=lh u;clear p H E G hHeld m u;go_wp2_with fail
       go_roundw
       case rel=>exact⟨k+1,g8,c8,by omega,by go_num,by rw[HQ.o],by rw[HQ.o];exact ej Y.o zB,a1.o.trans (U.o.mono zB)⟩
       case measure=>simp [Zq];omega
      .go_simp
       have z:Z4 W.heap.size W ((W.drew.alloc (.cells #[] 89)).alloc (.cells #[.int .i64 l[k].1,.string l[k].2.1,.string l[k].2.2] 89)):=A.alloc (by simp) _;refine t.out _ _ ⟨z,ai z J,ai z N,ai z O⟩ (fun hHeld=>?_)
       (clear t K;(try simp only[ZL,pz]))
       refine rgb (i:=4) (by kernel_rfl) rfl (fun K t=>?_)
       refine bU _ rfl (.tmp 55) (.tmp 58) 49 89 _ _ 3 40 (by rfl) Tryz.underlying49 bR bO bP bQ rfl (by decide) W.heap.size (.slice (Z9 ⟨W.heap.size,0,Z7⟩) 0 0) (.slice (Z9 ⟨g,0,Z7⟩) i V) 0 i [] (rv (D.take i)) (by simp [Za]) (aV (eP (w:=W.drew) rfl (ZV _)) (fun x hx=>(aj (W.drew.alloc (.cells #[] 89)) _).block x (by have av:W.heap.size=x:=(by simpa [Yd] using hx);simp [<-av]))) (by simp [Za]) ((gp I.o rfl i3).below z) (bM _) (by unfold YB;omega) (by omega) (by first|(simp;done)|(simp;omega)) ?_
       intro a5 c5 w5 y Q _;have s:Z4 W.heap.size W w5:=z.grown Q (by first|(simp;done)|(simp;omega)) (fun q C=>by have h2:W.heap.size=q:=(by simpa [Yd] using C);omega);have Z:=(eN (W.drew.alloc (.cells #[] 89)) (l[k].1,l[k].2.1,l[k].2.2) 89 (W.heap.size+1) (by simp)).grown Q (by intro e;have e2:W.heap.size+1=W.heap.size:=Option.some.inj e;omega) (by first|(simp;done)|(simp;omega));refine t.out _ _ ⟨s,ai s J,ai s N,ai s O⟩ (fun hHeld=>?_)
       (clear t K;(try simp only[ZL,pz]))
       refine rgb (i:=7) (by kernel_rfl) rfl (fun K t=>?_)
       refine bU _ rfl (.tmp 59) (.tmp 61) 49 89 _ _ 3 40 (by rfl) Tryz.underlying49 bR bO bP bQ rfl (by decide) W.heap.size (.slice a5 (0+i) c5) (.slice (Z9 ⟨W.heap.size+1,0,Z7⟩) 1 1) (0+i) 1 _ (rv [(l[k].1,l[k].2.1,l[k].2.2)]) (by simp [Za]) y (by simp [Za]) Z (bM _) (by unfold YB;omega) (by omega) s.size ?_
       intro a7 c7 w7 p E _;have m:Z4 W.heap.size W w7:=s.grown E s.size (fun q C=>(ax y q C).1);refine t.out _ _ ⟨m,ai m J,ai m N,ai m O⟩ (fun hHeld=>?_)
       (clear t K;(try simp only[ZL,pz]))
       refine rgb (i:=11) (by kernel_rfl) rfl (fun K t=>?_)
       refine bU _ rfl (.tmp 62) (.tmp 65) 49 89 _ _ 3 40 (by rfl) Tryz.underlying49 bR bO bP bQ rfl (by decide) W.heap.size (.slice a7 (0+i+1) c7) (.slice (Z9 ⟨g,dN V i,Z7⟩) (D.length - i) (V - i)) (0+i+1) (D.length - i) _ (rv (D.drop i)) (by simp [Za]) p (by simp [Za]) ((gt I.o rfl T.1).below m) (bM _) (by unfold YB;omega) (by omega) m.size ?_
       intro a8 c8 w8 H G _;have u:Z4 W.heap.size W w8:=m.grown G m.size (fun q C=>(ax p q C).1);rw[X.o] at H;generalize a3:0+i+1+(D.length - i)=L at H |-;obtain rfl:L=(dk l[k] D).length:=by rw[fu];omega
       obtain⟨g8,rfl,-,-⟩:=fa H (by rw[fu];omega);refine t.out _ _ ⟨u,ai u J,ai u N,ai u O⟩ (fun hHeld=>?_)
       (clear t K;(try simp only[ZL,pz]))
       (refine rgy (i:=12) (Z9 7) ?_;(try simp only[ZL,pz]))
       refine XJ (by kernel_rfl) ?_ _
       have Y:=lh H;have U:=lh u;clear p H E G hHeld m u;go_wp2_with fail
       go_roundw
       case rel=>exact⟨k+1,g8,c8,by omega,by go_num,by rw[HQ.o],by rw[HQ.o];exact ej Y.o zB,a1.o.trans (U.o.mono zB)⟩
       case measure=>simp [Zq];omega
     .go_simp
      have A:Z4 W.heap.size W (W.drew.alloc (.cells #[.int .i64 l[k].1,.string l[k].2.1,.string l[k].2.2] 89)):=(Y3 (ZR _ _)).alloc (by simp) _;refine t.out _ _ ⟨A,ai A J,ai A N,ai A O⟩ (fun hHeld=>?_)
      (clear t K;(try simp only[ZL,pz]))
      refine rgb (i:=0) (by kernel_rfl) rfl (fun K t=>?_)
      go_simp
      have z:Z4 W.heap.size W ((W.drew.alloc (.cells #[.int .i64 l[k].1,.string l[k].2.1,.string l[k].2.2] 89)).alloc (.cells #[] 89)):=A.alloc (by simp) _;refine t.out _ _ ⟨z,ai z J,ai z N,ai z O⟩ (fun hHeld=>?_)
      (clear t K;(try simp only[ZL,pz]))
      refine rgb (i:=4) (by kernel_rfl) rfl (fun K t=>?_)
      refine bU _ rfl (.tmp 55) (.tmp 58) 49 89 _ _ 3 40 (by rfl) Tryz.underlying49 bR bO bP bQ rfl (by decide) W.heap.size (.slice (Z9 ⟨W.heap.size+1,0,Z7⟩) 0 0) (.slice (Z9 ⟨g,0,Z7⟩) i V) 0 i [] (rv (D.take i)) (by simp [Za]) (eP (w:=(W.drew.alloc (.cells #[.int .i64 l[k].1,.string l[k].2.1,.string l[k].2.2] 89))) (by simp) (by omega)) (by simp [Za]) ((gp I.o rfl i3).below z) (bM _) (by unfold YB;omega) (by omega) (by first|(simp;done)|(simp;omega)) ?_
      intro a5 c5 w5 y Q _;have s:Z4 W.heap.size W w5:=z.grown Q (by first|(simp;done)|(simp;omega)) (fun q C=>by have h2:W.heap.size+1=q:=(by simpa [Yd] using C);omega);have Z:=((eN W.drew (l[k].1,l[k].2.1,l[k].2.2) 89 W.heap.size rfl).below (aj _ (.cells #[] 89))).grown Q (by intro e;have e2:W.heap.size=W.heap.size+1:=Option.some.inj e;omega) (by first|(simp;done)|(simp;omega));refine t.out _ _ ⟨s,ai s J,ai s N,ai s O⟩ (fun hHeld=>?_)
      (clear t K;(try simp only[ZL,pz]))
      refine rgb (i:=7) (by kernel_rfl) rfl (fun K t=>?_)
      refine bU _ rfl (.tmp 59) (.tmp 61) 49 89 _ _ 3 40 (by rfl) Tryz.underlying49 bR bO bP bQ rfl (by decide) W.heap.size (.slice a5 (0+i) c5) (.slice (Z9 ⟨W.heap.size,0,Z7⟩) 1 1) (0+i) 1 _ (rv [(l[k].1,l[k].2.1,l[k].2.2)]) (by simp [Za]) y (by simp [Za]) Z (bM _) (by unfold YB;omega) (by omega) s.size ?_
      intro a7 c7 w7 p E _;have m:Z4 W.heap.size W w7:=s.grown E s.size (fun q C=>(ax y q C).1);refine t.out _ _ ⟨m,ai m J,ai m N,ai m O⟩ (fun hHeld=>?_)
      (clear t K;(try simp only[ZL,pz]))
      refine rgb (i:=11) (by kernel_rfl) rfl (fun K t=>?_)
      refine bU _ rfl (.tmp 62) (.tmp 65) 49 89 _ _ 3 40 (by rfl) Tryz.underlying49 bR bO bP bQ rfl (by decide) W.heap.size (.slice a7 (0+i+1) c7) (.slice (Z9 ⟨g,dN V i,Z7⟩) (D.length - i) (V - i)) (0+i+1) (D.length - i) _ (rv (D.drop i)) (by simp [Za]) p (by simp [Za]) ((gt I.o rfl T.1).below m) (bM _) (by unfold YB;omega) (by omega) m.size ?_
      intro a8 c8 w8 H G _;have u:Z4 W.heap.size W w8:=m.grown G m.size (fun q C=>(ax p q C).1);rw[X.o] at H;generalize a3:0+i+1+(D.length - i)=L at H |-;obtain rfl:L=(dk l[k] D).length:=by rw[fu];omega
      obtain⟨g8,rfl,-,-⟩:=fa H (by rw[fu];omega);refine t.out _ _ ⟨u,ai u J,ai u N,ai u O⟩ (fun hHeld=>?_)
      (clear t K;(try simp only[ZL,pz]))
      (refine rgy (i:=12) (Z9 7) ?_;(try simp only[ZL,pz]))
      refine XJ (by kernel_rfl) ?_ _
      have Y:=lh H;have U:=lh u;clear p H E G hHeld m u;go_wp2_with fail
      go_roundw
      case rel=>exact⟨k+1,g8,c8,by omega,by go_num,by rw[HQ.o],by rw[HQ.o];exact ej Y.o zB,a1.o.trans (U.o.mono zB)⟩
      case measure=>simp [Zq];omega
    .have HI:Hid (i=(D.takeWhile (cQ l[k])).length):=lh (by omega);have i3:i<=D.length:=by omega
     have i2:decide ((i:Int)<(D.length:Int))=ZW:=by rw[decide_eq_false_iff_not];omega
     go_wp2_with fail
     go_quiet (fail)
     go_upto_region 10 with fail
     generalize R:World.drewN (World.drewN W1 _) _=W;have a6:W.heap=W1.heap:=by rw[<-R];rfl
     have J:W.cell? ⟨wr.heap.size,0,Z7⟩=Z9 (.int .i64 l[k].1):=by rw[<-R];exact N0
     have N:W.cell? ⟨wr.heap.size,1,Z7⟩=Z9 (.string l[k].2.1):=by rw[<-R];exact N1
     have O:W.cell? ⟨wr.heap.size,2,Z7⟩=Z9 (.string l[k].2.2):=by rw[<-R];exact N2
     have I:=lh (aV a2.o (fun x _=>by rw[a6]):W.ownsRow _ _ _ _ _ _);have B2:Z4 w.heap.size w W:=by rw[<-R];exact (aa.o.trans (bdr _ _ _)).trans (bdr _ _ _)
     have z2:g<W.heap.size:=(ax I.o g rfl).2;have X:Hid ([]++rv (D.take i)++rv [(l[k].1,l[k].2.1,l[k].2.2)]++rv (D.drop i)=rv (dk l[k] D)):=lh (by rw[uB,<-HI.o,fB,fB];simp);have a1:=lh B2;have zB:=B2.size;clear R a6 N0 N1 N2 a2 aa B2;refine XB (S:=fun w'=>Z4 W.heap.size W w'/\w'.cell? ⟨wr.heap.size,0,Z7⟩=Z9 (.int .i64 l[k].1)/\w'.cell? ⟨wr.heap.size,1,Z7⟩=Z9 (.string l[k].2.1)/\w'.cell? ⟨wr.heap.size,2,Z7⟩=Z9 (.string l[k].2.2)) (by kernel_rfl) ?_ (fun hHeld=>?_)
     .exact⟨Y3 (ZR _ _),J,N,O⟩
     (refine rgy (i:=1) (Z9 56) ?_;(try simp only[ZL,pz]))
     (refine rgy (i:=2) (Z9 57) ?_;(try simp only[ZL,pz]))
     refine eq (i:=3) (Z9 58) (v:=.slice (Z9 ⟨g,0,Z7⟩) i V) rfl rfl (by kernel_rfl) (by kernel_rfl) (by kernel_rfl) (fun _ _ _ h=>h) (by kernel_rfl) (fun w ao=>?_) (by assumption) ?_
     .have sl:=nh (w:=w) (g:=g) i3 T.1;go_simp
     (try simp only[ZL,Zt,Ze,Zd])
     (refine rgy (i:=5) (Z9 60) ?_;(try simp only[ZL,pz]))
     (refine rgy (i:=8) (Z9 63) ?_;(try simp only[ZL,pz]))
     (refine rgy (i:=9) (Z9 64) ?_;(try simp only[ZL,pz]))
     refine eq (i:=10) (Z9 65) (v:=.slice (Z9 ⟨g,dN V i,Z7⟩) (D.length - i) (V - i)) rfl rfl (by kernel_rfl) (by kernel_rfl) (by kernel_rfl) (fun _ _ _ h=>h) (by kernel_rfl) (fun w ao=>?_) (by assumption) ?_
     .have sl:=ni (w:=w) (g:=g) (c:=V) i3;go_simp
     (try simp only[ZL,Zt,Ze,Zd])
     refine Wf (rs:=[0,6]) (by kernel_rfl) (by simp) ?_
     refine Ya (o:=_) rfl (fun K t=>?_) (Ya (o:=_) rfl (fun K t=>?_) Wu)
     .go_simp
      have A:Z4 W.heap.size W (W.drew.alloc (.cells #[] 89)):=(Y3 (ZR _ _)).alloc (by simp) _;refine t.out _ _ ⟨A,ai A J,ai A N,ai A O⟩ (fun hHeld=>?_)
      (clear t K;(try simp only[ZL,pz]))
      refine Wf (rs:=[4,6]) (by kernel_rfl) (by simp) ?_
      refine Ya (o:=_) rfl (fun K t=>?_) (Ya (o:=_) rfl (fun K t=>?_) Wu)
      .refine bU _ rfl (.tmp 55) (.tmp 58) 49 89 _ _ 3 40 (by rfl) Tryz.underlying49 bR bO bP bQ rfl (by decide) W.heap.size (.slice (Z9 ⟨W.heap.size,0,Z7⟩) 0 0) (.slice (Z9 ⟨g,0,Z7⟩) i V) 0 i [] (rv (D.take i)) (by simp [Za]) (eP (w:=W.drew) rfl (ZV _)) (by simp [Za]) ((gp I.o rfl i3).below A) (bM _) (by unfold YB;omega) (by omega) (by first|(simp;done)|(simp;omega)) ?_
       intro a5 c5 w5 y Q _;have s:Z4 W.heap.size W w5:=A.grown Q (by first|(simp;done)|(simp;omega)) (fun q C=>by have h2:W.heap.size=q:=(by simpa [Yd] using C);omega);refine t.out _ _ ⟨s,ai s J,ai s N,ai s O⟩ (fun hHeld=>?_)
       (clear t K;(try simp only[ZL,pz]))
       refine rgb (i:=6) (by kernel_rfl) rfl (fun K t=>?_)
       go_simp
       have P:Z4 W.heap.size W (w5.alloc (.cells #[.int .i64 l[k].1,.string l[k].2.1,.string l[k].2.2] 89)):=s.alloc s.size _;refine t.out _ _ ⟨P,ai P J,ai P N,ai P O⟩ (fun hHeld=>?_)
       (clear t K;(try simp only[ZL,pz]))
       have a0:(w5.alloc (.cells #[.int .i64 l[k].1,.string l[k].2.1,.string l[k].2.2] 89)).ownsRow _ _ _ _ _ _:=aV y (fun x hx=>(aj w5 _).block x (ax y x hx).2);have Z:=eN w5 (l[k].1,l[k].2.1,l[k].2.2) 89 _ rfl;refine rgb (i:=7) (by kernel_rfl) rfl (fun K t=>?_)
       refine bU _ rfl (.tmp 59) (.tmp 61) 49 89 _ _ 3 40 (by rfl) Tryz.underlying49 bR bO bP bQ rfl (by decide) W.heap.size (.slice a5 (0+i) c5) (.slice (Z9 ⟨w5.heap.size,0,Z7⟩) 1 1) (0+i) 1 _ (rv [(l[k].1,l[k].2.1,l[k].2.2)]) (by simp [Za]) a0 (by simp [Za]) Z (bM _) (by unfold YB;omega) (by omega) P.size ?_
       intro a7 c7 w7 p E _;have m:Z4 W.heap.size W w7:=P.grown E P.size (fun q C=>(ax a0 q C).1);refine t.out _ _ ⟨m,ai m J,ai m N,ai m O⟩ (fun hHeld=>?_)
       (clear t K;(try simp only[ZL,pz]))
       refine rgb (i:=11) (by kernel_rfl) rfl (fun K t=>?_)
       refine bU _ rfl (.tmp 62) (.tmp 65) 49 89 _ _ 3 40 (by rfl) Tryz.underlying49 bR bO bP bQ rfl (by decide) W.heap.size (.slice a7 (0+i+1) c7) (.slice (Z9 ⟨g,dN V i,Z7⟩) (D.length - i) (V - i)) (0+i+1) (D.length - i) _ (rv (D.drop i)) (by simp [Za]) p (by simp [Za]) ((gt I.o rfl T.1).below m) (bM _) (by unfold YB;omega) (by omega) m.size ?_
       intro a8 c8 w8 H G _;have u:Z4 W.heap.size W w8:=m.grown G m.size (fun q C=>(ax p q C).1);rw[X.o] at H;generalize a3:0+i+1+(D.length - i)=L at H |-;obtain rfl:L=(dk l[k] D).length:=by rw[fu];omega
       obtain⟨g8,rfl,-,-⟩:=fa H (by rw[fu];omega);refine t.out _ _ ⟨u,ai u J,ai u N,ai u O⟩ (fun hHeld=>?_)
       (clear t K;(try simp only[ZL,pz]))
       (refine rgy (i:=12) (Z9 7) ?_;(try simp only[ZL,pz]))
       refine XJ (by kernel_rfl) ?_ _
       have Y:=lh H;have U:=lh u;clear p H E G hHeld m u;go_wp2_with fail
       go_roundw
       case rel=>exact⟨k+1,g8,c8,by omega,by go_num,by rw[HQ.o],by rw[HQ.o];exact ej Y.o zB,a1.o.trans (U.o.mono zB)⟩
       case measure=>simp [Zq];omega
      .go_simp
       have z:Z4 W.heap.size W ((W.drew.alloc (.cells #[] 89)).alloc (.cells #[.int .i64 l[k].1,.string l[k].2.1,.string l[k].2.2] 89)):=A.alloc (by simp) _;refine t.out _ _ ⟨z,ai z J,ai z N,ai z O⟩ (fun hHeld=>?_)
       (clear t K;(try simp only[ZL,pz]))
       refine rgb (i:=4) (by kernel_rfl) rfl (fun K t=>?_)
       refine bU _ rfl (.tmp 55) (.tmp 58) 49 89 _ _ 3 40 (by rfl) Tryz.underlying49 bR bO bP bQ rfl (by decide) W.heap.size (.slice (Z9 ⟨W.heap.size,0,Z7⟩) 0 0) (.slice (Z9 ⟨g,0,Z7⟩) i V) 0 i [] (rv (D.take i)) (by simp [Za]) (aV (eP (w:=W.drew) rfl (ZV _)) (fun x hx=>(aj (W.drew.alloc (.cells #[] 89)) _).block x (by have av:W.heap.size=x:=(by simpa [Yd] using hx);simp [<-av]))) (by simp [Za]) ((gp I.o rfl i3).below z) (bM _) (by unfold YB;omega) (by omega) (by first|(simp;done)|(simp;omega)) ?_
       intro a5 c5 w5 y Q _;have s:Z4 W.heap.size W w5:=z.grown Q (by first|(simp;done)|(simp;omega)) (fun q C=>by have h2:W.heap.size=q:=(by simpa [Yd] using C);omega);have Z:=(eN (W.drew.alloc (.cells #[] 89)) (l[k].1,l[k].2.1,l[k].2.2) 89 (W.heap.size+1) (by simp)).grown Q (by intro e;have e2:W.heap.size+1=W.heap.size:=Option.some.inj e;omega) (by first|(simp;done)|(simp;omega));refine t.out _ _ ⟨s,ai s J,ai s N,ai s O⟩ (fun hHeld=>?_)
       (clear t K;(try simp only[ZL,pz]))
       refine rgb (i:=7) (by kernel_rfl) rfl (fun K t=>?_)
       refine bU _ rfl (.tmp 59) (.tmp 61) 49 89 _ _ 3 40 (by rfl) Tryz.underlying49 bR bO bP bQ rfl (by decide) W.heap.size (.slice a5 (0+i) c5) (.slice (Z9 ⟨W.heap.size+1,0,Z7⟩) 1 1) (0+i) 1 _ (rv [(l[k].1,l[k].2.1,l[k].2.2)]) (by simp [Za]) y (by simp [Za]) Z (bM _) (by unfold YB;omega) (by omega) s.size ?_
       intro a7 c7 w7 p E _;have m:Z4 W.heap.size W w7:=s.grown E s.size (fun q C=>(ax y q C).1);refine t.out _ _ ⟨m,ai m J,ai m N,ai m O⟩ (fun hHeld=>?_)
       (clear t K;(try simp only[ZL,pz]))
       refine rgb (i:=11) (by kernel_rfl) rfl (fun K t=>?_)
       refine bU _ rfl (.tmp 62) (.tmp 65) 49 89 _ _ 3 40 (by rfl) Tryz.underlying49 bR bO bP bQ rfl (by decide) W.heap.size (.slice a7 (0+i+1) c7) (.slice (Z9 ⟨g,dN V i,Z7⟩) (D.length - i) (V - i)) (0+i+1) (D.length - i) _ (rv (D.drop i)) (by simp [Za]) p (by simp [Za]) ((gt I.o rfl T.1).below m) (bM _) (by unfold YB;omega) (by omega) m.size ?_
       intro a8 c8 w8 H G _;have u:Z4 W.heap.size W w8:=m.grown G m.size (fun q C=>(ax p q C).1);rw[X.o] at H;generalize a3:0+i+1+(D.length - i)=L at H |-;obtain rfl:L=(dk l[k] D).length:=by rw[fu];omega
       obtain⟨g8,rfl,-,-⟩:=fa H (by rw[fu];omega);refine t.out _ _ ⟨u,ai u J,ai u N,ai u O⟩ (fun hHeld=>?_)
       (clear t K;(try simp only[ZL,pz]))
       (refine rgy (i:=12) (Z9 7) ?_;(try simp only[ZL,pz]))
       refine XJ (by kernel_rfl) ?_ _
       have Y:=lh H;have U:=lh u;clear p H E G hHeld m u;go_wp2_with fail
       go_roundw
       case rel=>exact⟨k+1,g8,c8,by omega,by go_num,by rw[HQ.o],by rw[HQ.o];exact ej Y.o zB,a1.o.trans (U.o.mono zB)⟩
       case measure=>simp [Zq];omega
     .go_simp
      have A:Z4 W.heap.size W (W.drew.alloc (.cells #[.int .i64 l[k].1,.string l[k].2.1,.string l[k].2.2] 89)):=(Y3 (ZR _ _)).alloc (by simp) _;refine t.out _ _ ⟨A,ai A J,ai A N,ai A O⟩ (fun hHeld=>?_)
      (clear t K;(try simp only[ZL,pz]))
      refine rgb (i:=0) (by kernel_rfl) rfl (fun K t=>?_)
      go_simp
      have z:Z4 W.heap.size W ((W.drew.alloc (.cells #[.int .i64 l[k].1,.string l[k].2.1,.string l[k].2.2] 89)).alloc (.cells #[] 89)):=A.alloc (by simp) _;refine t.out _ _ ⟨z,ai z J,ai z N,ai z O⟩ (fun hHeld=>?_)
      (clear t K;(try simp only[ZL,pz]))
      refine rgb (i:=4) (by kernel_rfl) rfl (fun K t=>?_)
      refine bU _ rfl (.tmp 55) (.tmp 58) 49 89 _ _ 3 40 (by rfl) Tryz.underlying49 bR bO bP bQ rfl (by decide) W.heap.size (.slice (Z9 ⟨W.heap.size+1,0,Z7⟩) 0 0) (.slice (Z9 ⟨g,0,Z7⟩) i V) 0 i [] (rv (D.take i)) (by simp [Za]) (eP (w:=(W.drew.alloc (.cells #[.int .i64 l[k].1,.string l[k].2.1,.string l[k].2.2] 89))) (by simp) (by omega)) (by simp [Za]) ((gp I.o rfl i3).below z) (bM _) (by unfold YB;omega) (by omega) (by first|(simp;done)|(simp;omega)) ?_
      intro a5 c5 w5 y Q _;have s:Z4 W.heap.size W w5:=z.grown Q (by first|(simp;done)|(simp;omega)) (fun q C=>by have h2:W.heap.size+1=q:=(by simpa [Yd] using C);omega);have Z:=((eN W.drew (l[k].1,l[k].2.1,l[k].2.2) 89 W.heap.size rfl).below (aj _ (.cells #[] 89))).grown Q (by intro e;have e2:W.heap.size=W.heap.size+1:=Option.some.inj e;omega) (by first|(simp;done)|(simp;omega));refine t.out _ _ ⟨s,ai s J,ai s N,ai s O⟩ (fun hHeld=>?_)
      (clear t K;(try simp only[ZL,pz]))
      refine rgb (i:=7) (by kernel_rfl) rfl (fun K t=>?_)
      refine bU _ rfl (.tmp 59) (.tmp 61) 49 89 _ _ 3 40 (by rfl) Tryz.underlying49 bR bO bP bQ rfl (by decide) W.heap.size (.slice a5 (0+i) c5) (.slice (Z9 ⟨W.heap.size,0,Z7⟩) 1 1) (0+i) 1 _ (rv [(l[k].1,l[k].2.1,l[k].2.2)]) (by simp [Za]) y (by simp [Za]) Z (bM _) (by unfold YB;omega) (by omega) s.size ?_
      intro a7 c7 w7 p E _;have m:Z4 W.heap.size W w7:=s.grown E s.size (fun q C=>(ax y q C).1);refine t.out _ _ ⟨m,ai m J,ai m N,ai m O⟩ (fun hHeld=>?_)
      (clear t K;(try simp only[ZL,pz]))
      refine rgb (i:=11) (by kernel_rfl) rfl (fun K t=>?_)
      refine bU _ rfl (.tmp 62) (.tmp 65) 49 89 _ _ 3 40 (by rfl) Tryz.underlying49 bR bO bP bQ rfl (by decide) W.heap.size (.slice a7 (0+i+1) c7) (.slice (Z9 ⟨g,dN V i,Z7⟩) (D.length - i) (V - i)) (0+i+1) (D.length - i) _ (rv (D.drop i)) (by simp [Za]) p (by simp [Za]) ((gt I.o rfl T.1).below m) (bM _) (by unfold YB;omega) (by omega) m.size ?_
      intro a8 c8 w8 H G _;have u:Z4 W.heap.size W w8:=m.grown G m.size (fun q C=>(ax p q C).1);rw[X.o] at H;generalize a3:0+i+1+(D.length - i)=L at H |-;obtain rfl:L=(dk l[k] D).length:=by rw[fu];omega
      obtain⟨g8,rfl,-,-⟩:=fa H (by rw[fu];omega);refine t.out _ _ ⟨u,ai u J,ai u N,ai u O⟩ (fun hHeld=>?_)
      (clear t K;(try simp only[ZL,pz]))
      (refine rgy (i:=12) (Z9 7) ?_;(try simp only[ZL,pz]))
      refine XJ (by kernel_rfl) ?_ _
      have Y:=lh H;have U:=lh u;clear p H E G hHeld m u;go_wp2_with fail
      go_roundw
      case rel=>exact⟨k+1,g8,c8,by omega,by go_num,by rw[HQ.o],by rw[HQ.o];exact ej Y.o zB,a1.o.trans (U.o.mono zB)⟩
      case measure=>simp [Zq];omega
  .obtain rfl:k=l.length:=by omega
   go_wp2_with fail
   go_ret
   refine⟨_,rfl,?_,fun q C=>(ax HO.o q C).1,HB.o⟩
   rw[show srt id c l=srt id c (l.take l.length) by rw[List.take_length]];exact jX (by omega) (dU HO.o)
end
end Go.Proofs.YtnkjliahpeebjaaGreatDoor
