/- Catalogs. -/
import Derived.Test.YtnkjliahpeebjaaGreatDoorSh
set_option maxRecDepth 8000
set_option maxHeartbeats 8000000
open Option renaming some->Z9,none->Z7
open Go.RowKit renaming Below->Z4,intOf->Zq
open _root_ renaming List->Z3,if_neg->ZX,decide_eq_true_eq->ZW,if_pos->ZT,beq_eq_false_iff_ne->ZS,UInt8->ZP,decide_eq_true->ZO,decide_eq_false->ZN,decide_eq_false_iff_not->ZI,Option->Zm,Bool->Zk
open Bool renaming false->Z2,true->ZZ,and_eq_true->ZQ,true_and->Zf,false_or->XC,false_eq_true->VW
open Go renaming World->ZY,maxLen->YQ,wp_region_held_drew->XY,wpAnyH_done->XH,run_underlying->Xm,wpAnyH_ready->Wd
open Nat renaming le_refl->ZV,zero_le->Zc,zero_add->Yj
open Go.RowKit.Below renaming refl->ZR,drew->YZ
open List renaming length_append->ZM,take_succ_eq_append_getElem->ZK,getElem?_eq_getElem->ZF,take_of_length_le->ZD,setIfInBounds_toArray->Zw,set_cons_zero->Za,set_cons_succ->Y9,range->YR,mem_cons->YN,mem_append->YF,length_take->YD,mem_singleton->Yq,getElem?_eq_none->XZ,takeWhile_append_dropWhile->Xz,pairwise_cons->Wu,drop_zero->Vv
open Go.Act renaming put->ZG,eval->Y6
open Go.Result renaming andThen_ok->YK
open Go.Value renaming ownBlock->X7
open Go.AllReadyH renaming cons->X3,nil->Wq
open Go.World renaming drewN->Xi,ownsRow_made->Vn
open Int renaming toNat_natCast->WH
namespace Go.Proofs.YtnkjliahpeebjaaGreatDoor
variable(v:Value)(x:Rw){a:Zm Addr}(d:Z3 Rw){w' w:ZY}{l:Z3 Rw}{F:Nat->Rw}{e b n g size q k base o c:Nat}{f xs:Z3 Value}
abbrev aU(x:Rw):Z3 ZP:=Ds.bl x.2.1
def ed(x y:Rw):Zk:=decide (x.1=y.1)&&decide (aU x=aU y)
def agn(l:Z3 Rw)(k:Nat)(x:Rw):Zk:=(l.take k).any fun y=>ed y x
def dst(l:Z3 Rw):Nat->Z3 Rw
 | 0=>[]
 | k+1=>match l[k]? with|none=>dst l k|some x=>if agn l k x=ZZ then dst l k else dst l k++[x]
theorem pv(l:Z3 Rw):∀ k,(dst l k).length<=k
 | 0=>ZV _
 | k+1=>by
   have:=pv l k;rw[dst];split
   .omega
   .split
    .omega
    .rw[ZM];simp;omega
theorem pW(h:k<l.length)(ha:agn l k l[k]=ZZ):dst l (k+1)=dst l k:=by
 rw[dst,ZF h];simp only;rw[ZT ha]
theorem px(h:k<l.length)(ha:agn l k l[k]=Z2):dst l (k+1)=dst l k++[l[k]]:=by
 rw[dst,ZF h];simp only;rw[ZX (by rw[ha];simp)]
theorem lC(l:Z3 Rw):∀ k,∀ x∈dst l k,x∈l.take k
 | 0,_,h=>by cases h
 | k+1,x,h=>by
   by_cases H:k<l.length
   .rw[ZK H];by_cases ha:agn l k l[k]=ZZ
    .rw[pW H ha] at h;exact YF.2 (.inl (lC l k x h))
    .rw[px H (by simpa using ha)] at h;rcases YF.1 h with h|h
     .exact YF.2 (.inl (lC l k x h))
     .exact YF.2 (.inr h)
   .have e:dst l (k+1)=dst l k:=by rw[dst,XZ (by omega)]
    rw[e] at h;have:=lC l k x h;rw[ZD (by omega)] at this |-;exact this
def DstL(l:Z3 Rw):Prop:=l.Pairwise fun x y=>ed x y=Z2
theorem zv{x:Rw}(h:DstL l)(H:∀ y∈l,ed y x=Z2):DstL (l++[x]):=by
 unfold DstL;rw[List.pairwise_append];exact⟨h,List.pairwise_singleton _ _,fun y i z j=>by rw[Yq.1 j];exact H y i⟩
theorem mJ(l:Z3 Rw):∀ k,DstL (dst l k)
 | 0=>List.Pairwise.nil
 | k+1=>by
   by_cases h:k<l.length
   .by_cases ha:agn l k l[k]=ZZ
    .rw[pW h ha];exact mJ l k
    .rw[px h (by simpa using ha)];refine zv (mJ l k) fun y i=>?_
     have H:=lC l k y i;by_cases c:ed y l[k]=ZZ
     .exact absurd (List.any_eq_true.2 ⟨y,H,c⟩) ha
     .simpa using c
   .have e:dst l (k+1)=dst l k:=by rw[dst,XZ (by omega)]
    rw[e];exact mJ l k
theorem DstL.inj(h:DstL l){x y:Rw}(r:x∈l)(t:y∈l)(m:x.1=y.1)(p:aU x=aU y):x=y:=by
 induction l with
 | nil=>cases r
 | cons z l I =>
   unfold DstL at h;rw[Wu] at h
   have key:∀ u v:Rw,ed u v=Z2->¬ (u.1=v.1/\aU u=aU v):=fun u v s ⟨Q,A⟩=>by
    unfold ed at s;rw[ZO Q,ZO A] at s;cases s
   rcases YN.1 r with j|i
   .rcases YN.1 t with E|H
    .exact j.trans E.symm
    .subst j;exact absurd ⟨m,p⟩ (key _ _ (h.1 y H))
   .rcases YN.1 t with E|H
    .subst E;exact absurd ⟨m.symm,p.symm⟩ (key _ _ (h.1 x i))
    .exact I h.2 i H
def cQ(x y:Rw):Zk:=bB (aU y) (aU x)
def dk(x:Rw)(d:Z3 Rw):Z3 Rw:=d.takeWhile (cQ x)++x::d.dropWhile (cQ x)
def cH(id:Int)(c:ZP)(x:Rw):Zk:=decide (x.1=id)&&decide ((aU x).head?=Z9 c)
def jl(id:Int)(c:ZP)(d:Z3 Rw)(x:Rw):Z3 Rw:=if cH id c x=ZZ then dk x d else d
def srt(id:Int)(c:ZP)(l:Z3 Rw):Z3 Rw:=l.foldl (jl id c) []
theorem mE(id:Int)(c:ZP)(l:Z3 Rw)(x:Rw):srt id c (l++[x])=jl id c (srt id c l) x:=by
 unfold srt;rw[List.foldl_append];rfl
theorem sW(y:Rw):y∈dk x d↔y=x\/y∈d:=by
 unfold dk;have e:d.takeWhile (cQ x)++d.dropWhile (cQ x)=d:=Xz
 have h:y∈d↔y∈d.takeWhile (cQ x)\/y∈d.dropWhile (cQ x):=by
  rw[<-YF,e]
 rw[YF,YN,h];constructor
 .rintro (h|h|h)
  .exact .inr (.inl h)
  .exact .inl h
  .exact .inr (.inr h)
 .rintro (h|h|h)
  .exact .inr (.inl h)
  .exact .inl h
  .exact .inr (.inr h)
theorem fu:(dk x d).length=d.length+1:=by
 have e:(d.takeWhile (cQ x)++d.dropWhile (cQ x)).length=d.length:=by rw[Xz]
 unfold dk;rw[ZM] at e |-;rw[List.length_cons];omega
def ip(l:Z3 Rw):Prop:=l.Pairwise fun x y=>bB (aU x) (aU y)=ZZ
theorem sX(x:Rw):∀ (d:Z3 Rw),ip d->(∀ y∈d,aU y≠aU x)->ip (dk x d)
 | [],_,_=>List.pairwise_singleton _ _
 | y::d,h,i=>by
   unfold ip at h;rw[Wu] at h;by_cases c:cQ x y=ZZ
   .have e:dk x (y::d)=y::dk x d:=by unfold dk;rw[List.takeWhile_cons,List.dropWhile_cons,ZT c,ZT c];rfl
    unfold ip;rw[e,Wu];refine⟨fun z H=>?_,sX x d h.2 fun z H=>i z (by simp [H])⟩
    rcases (sW x d z).1 H with rfl|H
    .exact c
    .exact h.1 z H
   .have e:dk x (y::d)=x::y::d:=by unfold dk;rw[List.takeWhile_cons,List.dropWhile_cons,ZX c,ZX c];rfl
    have j:bB (aU x) (aU y)=ZZ:=qk (by simpa [cQ] using c) (i y (by simp));unfold ip;rw[e,Wu];refine⟨fun z H=>?_,Wu.2 h⟩
    rcases YN.1 H with rfl|H
    .exact j
    .exact la j (h.1 z H)
theorem iV(id:Int)(c:ZP)(l:Z3 Rw):∀ k,∀ x,x∈srt id c (l.take k)↔x∈l.take k/\cH id c x=ZZ
 | 0,x=>by simp [srt]
 | k+1,x=>by
   by_cases j:k<l.length
   .rw[ZK j,mE];unfold jl;split
    .rename_i i;rw[sW,iV id c l k x,YF,Yq];constructor
     .rintro (rfl|h)
      .exact⟨.inr rfl,i⟩
      .exact⟨.inl h.1,h.2⟩
     .rintro ⟨h|rfl,H⟩
      .exact .inr ⟨h,H⟩
      .exact .inl rfl
    .rename_i i;rw[iV id c l k x,YF,Yq];constructor
     .rintro h;exact⟨.inl h.1,h.2⟩
     .rintro ⟨h|rfl,H⟩
      .exact⟨h,H⟩
      .exact absurd H i
   .have:=iV id c l k x;rw[ZD (by omega)] at this |-;exact this
theorem mR(id:Int)(c:ZP)(l:Z3 Rw)(h:DstL l):∀ k,ip (srt id c (l.take k))
 | 0=>by simp [srt,ip]
 | k+1=>by
   by_cases t:k<l.length
   .rw[ZK t,mE];unfold jl;split
    .rename_i r;refine sX _ _ (mR id c l h k) fun y z e=>?_
     have j:=(iV id c l k y).1 z;obtain⟨i,u,m⟩:=List.getElem_of_mem j.1;rw[List.getElem_take] at m;have s:i<k:=by rw[YD] at u;omega
     have p:=(List.pairwise_iff_getElem.1 h) i k (by omega) t s;unfold cH at r;have H:=j.2;unfold cH at H;simp only[ZQ,ZW] at r H
     rw[m] at p;unfold ed at p;rw[ZO (H.1.trans r.1.symm),ZO e] at p;cases p
    .exact mR id c l h k
   .have:=mR id c l h k;rw[ZD (by omega)] at this |-;exact this
theorem pN(id:Int)(c:ZP)(l:Z3 Rw):∀ k,(srt id c (l.take k)).length<=k
 | 0=>by simp [srt]
 | k+1=>by
   have i:=pN id c l k;by_cases h:k<l.length
   .rw[ZK h,mE];unfold jl;split
    .rw[fu];omega
    .omega
   .rw[ZD (by omega)] at i |-;omega
def aft(k:Z3 ZP)(S:Z3 Rw):Z3 Rw:=S.filter fun x=>bB k (aU x)
theorem tG{k:Z3 ZP}{x:Rw}:∀ {S:Z3 Rw},ip S->x∈S->bB k (aU x)=ZZ->(∀ y∈S,bB k (aU y)=ZZ->bB (aU y) (aU x)=Z2)->aft k S=x::aft (aU x) S
 | [],_,h,_,_=>by cases h
 | z::S,H,j,p,s=>by
   unfold ip at H;rw[Wu] at H;unfold aft;rw[List.filter_cons,List.filter_cons];rcases YN.1 j with rfl|j
   .rw[ZT p,ZX (by rw[lF];simp)];congr 1
    refine List.filter_congr fun y m=>?_
    rw[H.1 y m,la p (H.1 y m)]
   .have i:=H.1 x j
    have r:bB k (aU z)=Z2:=by
     by_cases c:bB k (aU z)=ZZ
     .have:=s z (by simp) c;rw[i] at this;cases this
     .simpa using c
    rw[ZX (by rw[r];simp),ZX (by rw[oC i];simp)];exact tG (S:=S) H.2 j p fun y m=>s y (by simp [m])
theorem wf(id:Int)(k:Z3 ZP):∀ (n:Nat) (l:Z3 Rw),l.length=n->match nx id k l with
  | none=>∀ y∈l,y.1=id->bB k (aU y)=Z2
  | some x=>∀ y∈l,y.1=id->bB k (aU y)=ZZ->bB (aU y) (aU x)=Z2
 | 0,l,h=>by
   rw[List.length_eq_zero_iff.1 h];simp [nx]
 | n+1,l,h=>by
   obtain⟨m,x,rfl⟩:∃ m x,l=m++[x]:=⟨l.dropLast,l.getLast (by intro e;rw[e] at h;cases h),(List.dropLast_concat_getLast _).symm⟩;have I:=wf id k n m (by simpa using h);rw[po];unfold nxs;by_cases j:nxq id k (nx id k m) x=ZZ
   .rw[ZT j];simp only
    intro y i H p;unfold nxq at j;simp only[ZQ,ZW] at j
    rcases YF.1 i with i|i
    .cases r:nx id k m with
     | none=>rw[r] at I;simp only at I;rw[I y i H] at p;cases p
     | some z =>
       rw[r] at I j;simp only at I j;have s:=I y i H p;by_cases c:bB (aU y) (aU x)=ZZ
       .rw[la c j.2.2] at s;cases s
       .simpa using c
    .rw[Yq.1 i];exact lF _
   .rw[ZX j];unfold nxq at j
    cases r:nx id k m with
    | none =>
      rw[r] at I j;simp only at I j |-;intro y i H;rcases YF.1 i with i|i
      .exact I y i H
      .rw[Yq.1 i] at H |-;rw[ZO H] at j;simpa using j
    | some z =>
      rw[r] at I j;simp only at I j |-;intro y i H p;rcases YF.1 i with i|i
      .exact I y i H p
      .rw[Yq.1 i] at H p |-;rw[ZO H,p] at j;simpa using j
theorem uR{l:Z3 ZP}{k:Z3 ZP}(h:bB k l=ZZ):l.head?=Z9 (l.headD 0):=by
 cases l with
 | nil=>rw[lG] at h;cases h
 | cons a r=>rfl
theorem Hp{a b:Z3 ZP}(h:bB a b=ZZ)(ha:a≠[]):a.headD 0<=b.headD 0:=by
 cases b with
 | nil=>rw[lG] at h;cases h
 | cons y s =>
   cases a with
   | nil=>exact absurd rfl ha
   | cons x r =>
     simp only[List.headD_cons]
     have j:Lib.compareBytes (x::r) (y::s)<0:=of_decide_eq_true h;by_cases c:x<=y
     .exact c
     .exfalso
      have H:y<x:=by simpa using c
      have i:¬ x<y:=fun q=>absurd (UInt8.lt_trans q H) (UInt8.lt_irrefl _)
      simp [Lib.compareBytes,i,H] at j
section
open Go.RowKit
def RwAt(w:ZY)(b o:Nat)(x:Rw):Prop:=w.cell? ⟨b,o,Z7⟩=Z9 (.int .i64 x.1)/\w.cell? ⟨b,o+1,Z7⟩=Z9 (.string x.2.1)/\w.cell? ⟨b,o+2,Z7⟩=Z9 (.string x.2.2)
theorem RwAt.below{x:Rw}(h:RwAt w b o x)(H:Z4 w.heap.size w w'):RwAt w' b o x:=⟨ai H h.1,ai H h.2.1,ai H h.2.2⟩
def RwL(w:ZY)(a:Zm Addr)(n:Nat)(F:Nat->Rw):Prop:=n<=9223372036854775807/\∀ k,k<n->∃ b o,a=Z9 ⟨b,o,Z7⟩/\b<w.heap.size/\RwAt w b (o+k*3) (F k)
theorem RwL.below(h:RwL w a n F)(H:Z4 w.heap.size w w'):RwL w' a n F :=
 ⟨h.1,fun k m=>by
  obtain⟨b,o,i,p,j⟩:=h.2 k m;exact⟨b,o,i,by have:=H.size;omega,j.below H⟩⟩
def rlst(F:Nat->Rw)(n:Nat):Z3 Rw:=(YR n).map F
theorem lj(F:Nat->Rw)(n:Nat):(rlst F n).length=n:=by unfold rlst;simp
theorem CA(F:Nat->Rw)(n k:Nat)(h:k<(rlst F n).length):(rlst F n)[k]=F k:=by
 have:∀ (h:k<((YR n).map F).length),((YR n).map F)[k]=F k:=fun h=>by simp
 exact this h
theorem RwL.rws(h:RwL w a n F)(c:Nat)(r:n<=1000000):RwS w (.slice a n c) (rlst F n):=by
 refine⟨a,c,by rw[lj],by rw[lj];exact r,fun i=>?_⟩
 rw[lj] at i;obtain⟨b,o,ha,p,-⟩:=h.2 0 i;refine⟨b,o,ha,p,fun k j=>?_⟩
 rw[lj] at j;obtain⟨B,O,H,-,m⟩:=h.2 k j;rw[ha] at H;cases H
 rw[CA];exact m
def qS(F:Nat->Rw)(n:Nat)(m:Int):Prop:=(n:Int)<=m/\∀ k,k<n->(F k).2.1.size<=60/\(F k).2.2.size<=300
def FewRR(F:Nat->Rw)(n:Nat)(m:Int)(w w':ZY)(r:Ending):Prop:=∃ b:Zk,r=.returned (.bool b)/\(b=ZZ->qS F n m)/\w'=w
theorem FewRR.no{m:Int}:FewRR F n m w w (.returned (.bool Z2)):=⟨Z2,rfl,(fun h=>by cases h),rfl⟩
theorem rfew34(a:Zm Addr)(n c:Nat)(F:Nat->Rw)(m:Int)(w:ZY)(L:RwL w a n F) :
 Calls Tryz.prog 17 #[.slice a n c,.int .i64 m] w fun r w'=>FewRR F n m w w' r:=by
 have B:=lh L;have z:=L.1;clear L;go_enter Tryz.func17,Tryz.ntmps17
 go_wp2_with fail
 go_loopw [5] (fun i wr=>∃ k:Nat,k<=n/\i=.int .i64 k/\(∀ j,j<k->(F j).2.1.size<=60/\(F j).2.2.size<=300)/\wr=w) (fun i _=>n - (Zq i).toNat)
 case atStart=>exact⟨0,Zc _,rfl,(fun j y=>absurd y (by omega)),rfl⟩
 case round =>
  obtain⟨k,J,rfl,p,rfl⟩:=hrel;have H:=lh p;clear p;by_cases u:k<n
  .obtain⟨b,o,rfl,I,D,E,G⟩:=B.o.2 k u;by_cases s:(F k).2.1.size<=60
   rotate_left
   .have t:decide (60<((F k).2.1.size:Int))=ZZ:=by rw[ZW];omega
    go_wp2_with fail
    go_ret
    exact FewRR.no
   have t:decide (60<((F k).2.1.size:Int))=Z2:=by rw[ZI];omega
   by_cases A:(F k).2.2.size<=300
   rotate_left
   .have C:decide (300<((F k).2.2.size:Int))=ZZ:=by rw[ZW];omega
    go_wp2_with fail
    go_ret
    exact FewRR.no
   have C:decide (300<((F k).2.2.size:Int))=Z2:=by rw[ZI];omega
   have S:Hid ((F k).2.1.size<=60/\(F k).2.2.size<=300):=lh ⟨s,A⟩;clear s A;go_wp2_with fail
   go_roundw
   case rel =>
    refine⟨k+1,by omega,by go_num,fun j y=>?_,trivial⟩
    rcases Nat.lt_or_ge j k with h|h
    .exact H.o j h
    .obtain rfl:j=k:=by omega
     exact S.o
   case measure=>simp [Zq];omega
  .obtain rfl:k=n:=by omega
   by_cases s:(k:Int)<=m
   rotate_left
   .have t:decide ((k:Int)<=m)=Z2:=by rw[ZI];omega
    go_wp2_with fail
    go_ret
    exact FewRR.no
   have t:decide ((k:Int)<=m)=ZZ:=by rw[ZW];omega
   have S:Hid ((k:Int)<=m):=lh s;clear s;go_wp2_with fail
   go_ret
   exact⟨_,rfl,fun _=>⟨S.o,H.o⟩,rfl⟩
theorem bdr(B:Nat)(w:ZY)(n:Nat):Z4 B w (w.drewN n):=⟨rfl,rfl,rfl,ZV _,fun _ _=>rfl⟩
theorem zF(l:Z3 Rw)(j:Nat)(h:j<l.length)(p:Rw->Zk):(l.take (j+1)).any p=((l.take j).any p || p l[j]):=by
 rw[ZK h,List.any_append];simp
theorem rdist(l:Z3 Rw)(w:ZY)(hn:l.length<=1000)(S:RwS w v l) :
 Calls Tryz.prog 19 #[v] w fun r w'=>∃ V,r=.returned V/\RwS w' V (dst l l.length)/\(∀ q,V.ownBlock=Z9 q->w.heap.size<=q/\q<w'.heap.size)/\Z4 w.heap.size w w':=by
 obtain⟨a,c,rfl,-,N⟩:=S;have R:=lh N;clear N;go_enter Tryz.func19,Tryz.ntmps19
 go_wp2_with fail
 go_loopw [3,4] (fun v i wr=>∃ (k:Nat),k<=l.length/\i=.int .i64 k/\wr.ownsRow w.heap.size 89 3 v (dst l k).length (rv (dst l k))/\Z4 w.heap.size w wr) (fun _ i _=>l.length - (Zq i).toNat)
 case atStart=>exact⟨0,Zc _,rfl,Vn w #[] 0 (ZV _) (Zc _) rfl,by exact aB⟩
 case round =>
  obtain⟨k,hk,rfl,H,B⟩:=hrel;obtain⟨va,vc,rfl⟩:=bX H;have z0:=B.size;have O:=lh H;have u:=lh B;have HL:=pv l k;clear H B;by_cases t:k<l.length
  .obtain⟨b,o,rfl,I,p⟩:=R.o (by omega)
   have m:∀ j (h:j<l.length),wr.cell? ⟨b,o+j*3,Z7⟩=Z9 (.int .i64 l[j].1)/\wr.cell? ⟨b,o+j*3+1,Z7⟩=Z9 (.string l[j].2.1)/\wr.cell? ⟨b,o+j*3+2,Z7⟩=Z9 (.string l[j].2.2):=fun j h=>by
    obtain⟨Y,Z,q2⟩:=p j h;exact⟨(u.o.cell I).trans Y,(u.o.cell I).trans Z,(u.o.cell I).trans q2⟩
   have L:=lh m;obtain⟨p0,p1,p2⟩:=m k t;clear p m;have j1:(0:Int)<=(k:Int):=by omega
   have j2:(k:Int)<(l.length:Int):=by omega
   obtain⟨W,K⟩:∃ W,W=wr:=⟨_,rfl⟩;subst K;go_wp2_with fail
   go_loopw [5,6] (fun C j wr=>∃ (i:Nat),i<=k/\j=.int .i64 i/\C=.bool (agn l i l[k])/\∃ q,wr=W.drewN q) (fun _ j _=>k - (Zq j).toNat)
   case atStart=>exact⟨0,Zc _,rfl,rfl,0,rfl⟩
   case round =>
    obtain⟨i,U,rfl,rfl,q,rfl⟩:=hrel;by_cases hi:i<k
    .obtain⟨r0,r1,r2⟩:=L.o i (by omega);have i1:(0:Int)<=(i:Int):=by omega
     have i2:(i:Int)<(l.length:Int):=by omega
     have A:agn l (i+1) l[k]=(agn l i l[k] || ed l[i] l[k]):=zF l i (by omega) _;generalize agn l i l[k]=C at A |-;cases C
     .by_cases E:l[i].1=l[k].1
      .have t1:(l[i].1==l[k].1)=ZZ:=by rw[beq_iff_eq];exact E
       have T:=fd l[i].2.1 l[k].2.1;by_cases y:l[i].2.1=l[k].2.1
       .rw[ZO y] at T;have s:Hid (agn l (i+1) l[k]=ZZ):=lh (by rw[A,XC];unfold ed;rw[ZO E,ZO (congrArg Ds.bl y)];rfl);clear A E y;go_wp2_with fail
        go_quiet (fail)
        go_wp2_with fail
        go_roundw
        case rel=>exact⟨i+1,by omega,by go_num,by rw[s.o],_,rfl⟩
        case measure=>simp [Zq];omega
       .rw[ZN y] at T;have s:Hid (agn l (i+1) l[k]=Z2):=lh (by rw[A,XC];unfold ed;rw[ZO E,ZN (fun e=>y (Ds.bl_inj e))];rfl);clear A E y;go_wp2_with fail
        go_quiet (fail)
        go_wp2_with fail
        go_roundw
        case rel=>exact⟨i+1,by omega,by go_num,by rw[s.o],_,rfl⟩
        case measure=>simp [Zq];omega
      .have t1:(l[i].1==l[k].1)=Z2:=by rw[ZS];exact E
       have s:Hid (agn l (i+1) l[k]=Z2):=lh (by rw[A,XC];unfold ed;rw[ZN E];rfl);clear A E;go_wp2_with fail
       go_quiet (fail)
       go_wp2_with fail
       go_roundw
       case rel=>exact⟨i+1,by omega,by go_num,by rw[s.o],_,rfl⟩
       case measure=>simp [Zq];omega
     .have s:Hid (agn l (i+1) l[k]=ZZ):=lh (by rw[A];rfl);clear A;go_wp2_with fail
      go_quiet (fail)
      go_wp2_with fail
      go_roundw
      case rel=>exact⟨i+1,by omega,by go_num,by rw[s.o],_,rfl⟩
      case measure=>simp [Zq];omega
    .obtain rfl:i=k:=by omega
     cases A:agn l i l[i]
     .have D:=lh (px t A);clear A;go_wp2_with (at_builtin;refine dQ _ rfl (.tmp 48) (.tmp 53) 49 89 _ _ 3 40 rfl Tryz.underlying49 bR bO bP bQ rfl (by decide) w.heap.size (.slice va (dst l i).length vc) (.slice (Z9 ⟨W.heap.size,0,Z7⟩) 1 1) (dst l i).length 1 (rv (dst l i)) (rv [(l[i].1,l[i].2.1,l[i].2.2)]) rfl (aV O.o (fun x X=>(aj (W.drewN q) _).block x (ax O.o x X).2)) rfl (eN (W.drewN q) (l[i].1,l[i].2.1,l[i].2.2) _ _ rfl) (bM _) (by unfold YQ;omega) (by omega) (by simp;omega) ?_;intro a5 c5 w5 H P G;have Q:=lh ((((u.o.trans (bdr _ _ q)).alloc z0 _).grown P (by simp;omega) (fun q J=>(ax O.o q J).1)):Z4 w.heap.size w w5);have z:=lh H;clear H P G)
      go_roundw
      case rel=>exact⟨i+1,by omega,by go_num,by rw[D.o,ZM,fB];exact z.o,Q.o⟩
      case measure=>simp [Zq];omega
     .have D:=lh (pW t A);clear A;go_wp2_with fail
      go_roundw
      case rel=>exact⟨i+1,by omega,by go_num,by rw[D.o];exact O.o,u.o.trans (bdr _ _ q)⟩
      case measure=>simp [Zq];omega
  .obtain rfl:k=l.length:=by omega
   go_wp2_with fail
   go_ret
   exact⟨_,rfl,jX (by omega) (dU O.o),fun q J=>ax O.o q J,u.o⟩
end
section
open Go.RowKit
set_option linter.unusedSimpArgs false
theorem eP{e:TypeId}(H:w.heap.size=q)(h:base<=q):(w.alloc (.cells #[] e)).ownsRow base e size (.slice (Z9 ⟨q,0,Z7⟩) 0 0) 0 []:=by
 subst H;exact⟨by simp,.inr ⟨w.heap.size,0,#[],rfl,h,heap_alloc_new w _,ZV _,by unfold YQ;omega,by simp,by simp⟩⟩
theorem CS.grown{m:Nat}{row:Zm Nat}(h:CS w size (.slice (Z9 ⟨b,o,Z7⟩) m c) m f)(y:w.grownBy w' row)(i:Z9 b≠row)(H:b<w.heap.size):CS w' size (.slice (Z9 ⟨b,o,Z7⟩) m c) m f:=by
 obtain⟨a,C,e,s,t⟩:=h;cases e
 refine⟨_,_,rfl,s,fun r=>?_⟩
 obtain⟨A,e,p⟩:=t r;cases e
 exact⟨_,rfl,fun j u z=>by
  have:=p j u z;rw[Addr.add_lit] at this |-;exact (World.cell?_of_block (a:=(⟨b,o+j,Z7⟩:Addr)) (y.block b H i)).trans this⟩
theorem ej{v:Value}(h:w.ownsRow base e size v n xs)(j:b<=base):w.ownsRow b e size v n xs:=by
 refine⟨h.1,?_⟩
 rcases h.2 with H|⟨g,C,r,rfl,i,m⟩
 .exact .inl H
 .exact .inr ⟨g,C,r,rfl,Nat.le_trans j i,m⟩
theorem fa(h:w.ownsRow base e size (.slice a n c) n xs)(p:0<n):∃ g,a=Z9 ⟨g,0,Z7⟩/\n<=c/\c<=YQ:=by
 rcases h.2 with ⟨H,m⟩|⟨g,C,r,H,_,_,i,j,_⟩
 .cases H;omega
 .cases H;exact⟨g,rfl,i,j⟩
theorem tU(h:w.ownsRow base e size (.slice (Z9 ⟨g,0,Z7⟩) n c) n xs):n<=c/\c<=YQ:=by
 rcases h.2 with ⟨H,m⟩|⟨G,C,r,H,_,_,i,j,_⟩
 .cases H
 .cases H;exact⟨i,j⟩
theorem uW:∀ (l:Z3 Rw) (k:Nat),rv (l.drop k)=(rv l).drop (k*3)
 | _,0=>by rw[Vv,Nat.zero_mul,Vv]
 | [],k+1=>by rw[List.drop_nil];exact List.drop_nil.symm
 | x::l,k+1=>by
   rw[List.drop_succ_cons,uW l k,rv,show (k+1)*3=3+k*3 by omega,<-List.drop_drop];rfl
def dN(c k:Nat):Nat:=if c=k then 0 else k*3
theorem gt(h:w.ownsRow base 89 3 (.slice (Z9 ⟨g,0,Z7⟩) n c) n (rv l))(r:l.length=n)(t:n<=c):CS w 3 (.slice (Z9 ⟨g,dN c k,Z7⟩) (n - k) (c - k)) (n - k) (rv (l.drop k)):=by
 refine⟨_,_,rfl,by rw[lK,List.length_drop,r],fun s=>⟨_,rfl,fun j u H=>?_⟩⟩
 have m:dN c k=k*3:=ZX (by omega);obtain⟨a,C,e,-,p⟩:=dU h;obtain⟨A,i,q⟩:=p (by omega);injection e with E
 rw[i] at E;cases E
 rw[uW,List.getElem?_drop] at H;have:=q _ u H;rw[Addr.add_lit] at this |-;rw[Yj] at this;rw[m];exact this
theorem gp(h:w.ownsRow base 89 3 (.slice (Z9 ⟨g,0,Z7⟩) n c) n (rv l))(r:l.length=n)(m:k<=n):CS w 3 (.slice (Z9 ⟨g,0,Z7⟩) k c) k (rv (l.take k)):=by
 refine⟨_,_,rfl,by rw[lK,YD,r,Nat.min_eq_left m],fun s=>⟨_,rfl,fun j u H=>?_⟩⟩
 obtain⟨a,C,e,-,p⟩:=dU h;obtain⟨A,i,q⟩:=p (by omega);injection e with E
 rw[i] at E;cases E
 refine q j u ?_
 rw[<-List.take_append_drop k l,fB,List.getElem?_append_left (List.getElem?_eq_some_iff.1 H).1];exact H
theorem ni(j:k<=n):(Instr.slice 49 (.slice (Z9 ⟨g,0,Z7⟩) n c) (Z9 (.int .i64 (k:Int))) Z7 Z7).run Tryz.prog w=.ok (.slice (Z9 ⟨g,dN c k,Z7⟩) (n - k) (c - k)) w:=by
 have H:(0:Int)<=k:=by omega
 have i:(k:Int)<=n:=by omega
 simp only[Instr.slice,Instr.sliceBounds,Sem.run_bind,Sem.run_pure,Xm Tryz.underlying49,YK,run_sliceBound _ _ _ _ _ H i,Option.isSome,VW,if_false]
 rw[Tryz.sizeOf89];unfold dN;by_cases h:c=k
 .simp only[YK,WH,ZT h]
 .simp only[YK,WH,ZX h,Option.map,Addr.add_lit,Yj]
theorem nh(m:k<=n)(j:n<=c):(Instr.slice 49 (.slice (Z9 ⟨g,0,Z7⟩) n c) Z7 (Z9 (.int .i64 (k:Int))) Z7).run Tryz.prog w=.ok (.slice (Z9 ⟨g,0,Z7⟩) k c) w:=by
 have H:(0:Int)<=k:=by omega
 have i:(k:Int)<=c:=by omega
 simp only[Instr.slice,Instr.sliceBounds,Sem.run_bind,Sem.run_pure,Xm Tryz.underlying49,YK,run_sliceBound _ _ _ _ _ H i,Option.isSome,VW,if_false,if_true]
 rw[Tryz.sizeOf89];by_cases h:c=0
 .simp only[YK,WH,ZT h,Nat.sub_zero]
 .simp only[YK,WH,ZX h,Option.map,Addr.add_lit,Nat.zero_mul,Nat.sub_zero,Yj]
theorem qP(p:Rw->Zk):∀ (l:Z3 Rw) (j:Nat) (h:j<l.length),(j<(l.takeWhile p).length->p l[j]=ZZ)/\(j=(l.takeWhile p).length->p l[j]=Z2)
 | x::l,0,_=>by
   rw[List.takeWhile_cons];by_cases c:p x=ZZ
   .rw[ZT c];exact⟨fun _=>c,fun h=>by simp at h⟩
   .rw[ZX c];exact⟨fun h=>by simp at h,fun _=>by simpa using c⟩
 | x::l,j+1,h=>by
   have:=qP p l j (by simpa using h);rw[List.takeWhile_cons];by_cases c:p x=ZZ
   .rw[ZT c];exact⟨fun q=>this.1 (by simpa using q),fun q=>this.2 (by simpa using q)⟩
   .rw[ZX c];exact⟨fun q=>by simp at q,fun q=>by simp at q⟩
theorem xt(p:Rw->Zk)(l:Z3 Rw):(l.takeWhile p).length<=l.length:=(List.takeWhile_prefix p).length_le
theorem uB:dk x d=(d.take (d.takeWhile (cQ x)).length++[x])++d.drop (d.takeWhile (cQ x)).length:=by
 unfold dk;have e:d.takeWhile (cQ x)++d.dropWhile (cQ x)=d:=Xz
 have h:d.take (d.takeWhile (cQ x)).length=d.takeWhile (cQ x):=by
  conv=>lhs;rw[<-e]
  rw[List.take_left'];rw[e]
 have H:d.drop (d.takeWhile (cQ x)).length=d.dropWhile (cQ x):=by
  conv=>lhs;rw[<-e]
  rw[List.drop_left'];rw[e]
 rw[h,H,List.append_assoc];rfl
theorem DA(s:ByteArray)(h:0<s.size):(Ds.bl s).head?=Z9 s[0]:=by
 unfold Ds.bl;rw[List.head?_eq_getElem?,ZF (by simpa using h)];rfl
theorem rsort(l:Z3 Rw)(id:Int)(c:ZP)(cz:Int)(b0:cz=(c.toNat:Int))(w:ZY)(hn:l.length<=1000)(hS:RwS w v l) :
 Calls Tryz.prog 277 #[v,.int .i64 id,.int .u8 cz] w fun r w'=>∃ v',r=.returned v'/\RwS w' v' (srt id c l)/\(∀ q,v'.ownBlock=Z9 q->w.heap.size<=q)/\Z4 w.heap.size w w':=by
 obtain⟨a,cc,rfl,-,hc⟩:=hS;have HC:=lh hc;have ab:=lh b0;clear hc b0;have bc:cz<256:=by have:=c.toNat_lt;rw[ab.o];omega
 have bb:0<=cz:=by rw[ab.o];omega
 go_enter Tryz.func277,Tryz.ntmps277
 go_wp2_with fail
 go_loopw [7,8] (fun v i wr=>∃ (k g V:Nat),k<=l.length/\i=.int .i64 k/\v=.slice (Z9 ⟨g,0,Z7⟩) (srt id c (l.take k)).length V/\wr.ownsRow w.heap.size 89 3 (.slice (Z9 ⟨g,0,Z7⟩) (srt id c (l.take k)).length V) (srt id c (l.take k)).length (rv (srt id c (l.take k)))/\Z4 w.heap.size w wr) (fun _ i _=>l.length - (Zq i).toNat)
 case atStart=>exact⟨0,w.heap.size,0,Zc _,rfl,rfl,Vn w #[] 0 (ZV _) (Zc _) rfl,by exact aB⟩
 case round =>
  obtain⟨k,g,V,hk,rfl,rfl,a9,B⟩:=hrel;have z0:=B.size;have HO:=lh a9;have HB:=lh B;have hL:=pN id c l k;have T:=tU a9;clear a9 B;by_cases b2:k<l.length
  .obtain⟨b,o,rfl,hb,a4⟩:=HC.o (by omega);obtain⟨q0,q1,q2⟩:=a4 k b2;have p0:=(HB.o.cell hb).trans q0;have p1:=(HB.o.cell hb).trans q1;have p2:=(HB.o.cell hb).trans q2;clear a4 q0 q1 q2;have j1:(0:Int)<=(k:Int):=by omega
   have j2:(k:Int)<(l.length:Int):=by omega
   have ao:srt id c (l.take (k+1))=jl id c (srt id c (l.take k)) l[k]:=by rw[ZK b2,mE]
   have N0:(wr.alloc (.cells #[.int .i64 l[k].1,.string l[k].2.1,.string l[k].2.2] 89)).cell? ⟨wr.heap.size,0,Z7⟩=Z9 (.int .i64 l[k].1):=ae (ak wr _ 89 (0,0)) 0 _ rfl;have N1:(wr.alloc (.cells #[.int .i64 l[k].1,.string l[k].2.1,.string l[k].2.2] 89)).cell? ⟨wr.heap.size,1,Z7⟩=Z9 (.string l[k].2.1):=ae (ak wr _ 89 (0,0)) 1 _ rfl;have N2:(wr.alloc (.cells #[.int .i64 l[k].1,.string l[k].2.1,.string l[k].2.2] 89)).cell? ⟨wr.heap.size,2,Z7⟩=Z9 (.string l[k].2.2):=ae (ak wr _ 89 (0,0)) 2 _ rfl;have b3:cH id c l[k]=Z2->srt id c (l.take (k+1))=srt id c (l.take k):=fun h=>by rw[ao];unfold jl;rw[ZX (by rw[h];simp)]
   have b5:cH id c l[k]=ZZ->srt id c (l.take (k+1))=dk l[k] (srt id c (l.take k)):=fun h=>by rw[ao];unfold jl;rw[ZT h]
   have af:=lh b3;have b8:=lh b5;clear ao b3 b5;by_cases e1:l[k].1=id
   rotate_left
   .have t1:(l[k].1 != id)=ZZ:=by rw[bne_iff_ne];exact e1
    have HQ:=lh (af.o (by unfold cH;rw[ZN e1];rfl));clear e1;go_wp2_with fail
    go_roundw
    case rel=>exact⟨k+1,g,V,by omega,by go_num,by rw[HQ.o],by rw[HQ.o];exact aV HO.o (fun x hx=>(aj wr _).block x (ax HO.o x hx).2),HB.o.alloc z0 _⟩
    case measure=>simp [Zq];omega
   have t1:(l[k].1 != id)=Z2:=by rw[e1];simp
   by_cases e2:l[k].2.1.size=0
   .have t2:((l[k].2.1.size:Int)==0)=ZZ:=by rw[beq_iff_eq];omega
    have HQ:=lh (af.o (by unfold cH;rw[show aU l[k]=[] from List.eq_nil_of_length_eq_zero (by rw[Ds.bl_length];exact e2)];simp));clear e1 e2;go_wp2_with fail
    go_roundw
    case rel=>exact⟨k+1,g,V,by omega,by go_num,by rw[HQ.o],by rw[HQ.o];exact aV HO.o (fun x hx=>(aj wr _).block x (ax HO.o x hx).2),HB.o.alloc z0 _⟩
    case measure=>simp [Zq];omega
   have t2:((l[k].2.1.size:Int)==0)=Z2:=by rw[ZS];omega
   have b4:0<l[k].2.1.size:=by omega
   have b9:(0:Int)<(l[k].2.1.size:Int):=by omega
   have hh:=DA l[k].2.1 b4;by_cases e3:l[k].2.1[0]=c
   rotate_left
   .have t3:(((l[k].2.1[0]).toNat:Int) != cz)=ZZ:=by rw[bne_iff_ne,ab.o];intro h;exact e3 (UInt8.toNat_inj.1 (by omega))
    have HQ:=lh (af.o (by unfold cH;rw[show (aU l[k]).head?=Z9 l[k].2.1[0] from hh,ZO e1,Zf];exact ZN (fun h=>e3 (Option.some.inj h))));clear e1 e2 e3 hh;go_wp2_with fail
    go_roundw
    case rel=>exact⟨k+1,g,V,by omega,by go_num,by rw[HQ.o],by rw[HQ.o];exact aV HO.o (fun x hx=>(aj wr _).block x (ax HO.o x hx).2),HB.o.alloc z0 _⟩
    case measure=>simp [Zq];omega
   have t3:(((l[k].2.1[0]).toNat:Int) != cz)=Z2:=by rw[e3,ab.o];simp
   have HQ:=lh (b8.o (by unfold cH;rw[show (aU l[k]).head?=Z9 l[k].2.1[0] from hh,ZO e1,Zf,e3];exact ZO rfl));clear e1 e2 e3 hh;generalize hT:srt id c (l.take k)=D at *;clear hT;have ag:(wr.alloc (.cells #[.int .i64 l[k].1,.string l[k].2.1,.string l[k].2.2] 89)).ownsRow w.heap.size 89 3 (.slice (Z9 ⟨g,0,Z7⟩) D.length V) D.length (rv D):=aV HO.o (fun x hx=>(aj wr _).block x (ax HO.o x hx).2);have a2:=lh ag;have aa:=lh (HB.o.alloc z0 (.cells #[.int .i64 l[k].1,.string l[k].2.1,.string l[k].2.2] 89));have z1:w.heap.size<=(wr.alloc (.cells #[.int .i64 l[k].1,.string l[k].2.1,.string l[k].2.2] 89)).heap.size:=by simp;omega
   have av:∀ j (h:j<D.length),(wr.alloc (.cells #[.int .i64 l[k].1,.string l[k].2.1,.string l[k].2.2] 89)).cell? ⟨g,j*3+1,Z7⟩=Z9 (.string D[j].2.1):=fun j h=>by
    have:=((jX (by omega) (dU ag)):RwS _ _ D);obtain⟨a',c',e,-,hp⟩:=this;obtain⟨b',o',rfl,-,C⟩:=hp (by omega);cases e
    have:=(C j h).2.1;rwa [Yj] at this
   have b7:=lh av;clear ag av HO HB
   have bd:g<wr.heap.size+1:=by
    have:=(ax a2.o g rfl).2;simpa using this
   go_wp2_with fail
   generalize hW:wr.alloc (.cells #[.int .i64 l[k].1,.string l[k].2.1,.string l[k].2.2] 89)=W1 at *;clear hW;go_loopw [10] (fun j ba=>∃ (i q:Nat),i<=(D.takeWhile (cQ l[k])).length/\j=.int .i64 i/\ba=W1.drewN q) (fun j _=>D.length - (Zq j).toNat)
   case atStart=>exact⟨0,0,Zc _,rfl,rfl⟩
   case round =>
    obtain⟨i,q,hi,rfl,rfl⟩:=hrel;have be:=xt (cQ l[k]) D;have i1:(0:Int)<=(i:Int):=by omega
    by_cases b1:i<D.length
    .have i2:(i:Int)<(D.length:Int):=by omega
     have c1:=b7.o i b1;have ac:=qP (cQ l[k]) D i b1;have t4:=mN D[i].2.1 l[k].2.1;by_cases ad:i<(D.takeWhile (cQ l[k])).length
     .have e4:=ac.1 ad;unfold cQ at e4;rw[e4] at t4;have b6:=lh ad;clear ac e4 ad;go_wp2_with fail
      go_quiet (fail)
      go_wp2_with fail
      go_roundw
      case rel=>exact⟨i+1,_,b6.o,by go_num,rfl⟩
      case measure=>simp [Zq];omega
     have HI:Hid (i=(D.takeWhile (cQ l[k])).length):=lh (by omega);have e4:=ac.2 HI.o;unfold cQ at e4;rw[e4] at t4;clear ac e4 ad;have i3:i<=D.length:=by omega
     go_wp2_with fail
     go_quiet (fail)
     go_upto_region 10 with fail
     generalize R:Xi (Xi W1 _) _=W;have a6:W.heap=W1.heap:=by rw[<-R];rfl
     have J:W.cell? ⟨wr.heap.size,0,Z7⟩=Z9 (.int .i64 l[k].1):=by rw[<-R];exact N0
     have N:W.cell? ⟨wr.heap.size,1,Z7⟩=Z9 (.string l[k].2.1):=by rw[<-R];exact N1
     have O:W.cell? ⟨wr.heap.size,2,Z7⟩=Z9 (.string l[k].2.2):=by rw[<-R];exact N2
     have I:=lh (aV a2.o (fun x _=>by rw[a6]):W.ownsRow _ _ _ _ _ _);have B2:Z4 w.heap.size w W:=by rw[<-R];exact (aa.o.trans (bdr _ _ _)).trans (bdr _ _ _)
     have z2:g<W.heap.size:=(ax I.o g rfl).2;have X:Hid ([]++rv (D.take i)++rv [(l[k].1,l[k].2.1,l[k].2.2)]++rv (D.drop i)=rv (dk l[k] D)):=lh (by rw[uB,<-HI.o,fB,fB];simp);have a1:=lh B2;have zB:=B2.size;clear R a6 N0 N1 N2 a2 aa B2;refine XY (S:=fun w'=>Z4 W.heap.size W w'/\w'.cell? ⟨wr.heap.size,0,Z7⟩=Z9 (.int .i64 l[k].1)/\w'.cell? ⟨wr.heap.size,1,Z7⟩=Z9 (.string l[k].2.1)/\w'.cell? ⟨wr.heap.size,2,Z7⟩=Z9 (.string l[k].2.2)) (by kernel_rfl) ?_ (fun hHeld=>?_)
     .exact⟨YZ (ZR _ _),J,N,O⟩
     (refine rgy (i:=1) (Z9 56) ?_;(try simp only[ZG,pz]))
     (refine rgy (i:=2) (Z9 57) ?_;(try simp only[ZG,pz]))
     refine eq (i:=3) (Z9 58) (v:=.slice (Z9 ⟨g,0,Z7⟩) i V) rfl rfl (by kernel_rfl) (by kernel_rfl) (by kernel_rfl) (fun _ _ _ h=>h) (by kernel_rfl) (fun w al=>?_) (by assumption) ?_
     .have sl:=nh (w:=w) (g:=g) i3 T.1;go_simp
     (try simp only[ZG,Zw,Za,Y9])
     (refine rgy (i:=5) (Z9 60) ?_;(try simp only[ZG,pz]))
     (refine rgy (i:=8) (Z9 63) ?_;(try simp only[ZG,pz]))
     (refine rgy (i:=9) (Z9 64) ?_;(try simp only[ZG,pz]))
     refine eq (i:=10) (Z9 65) (v:=.slice (Z9 ⟨g,dN V i,Z7⟩) (D.length - i) (V - i)) rfl rfl (by kernel_rfl) (by kernel_rfl) (by kernel_rfl) (fun _ _ _ h=>h) (by kernel_rfl) (fun w al=>?_) (by assumption) ?_
     .have sl:=ni (w:=w) (g:=g) (c:=V) i3;go_simp
     (try simp only[ZG,Zw,Za,Y9])
     refine Wd (rs:=[0,6]) (by kernel_rfl) (by simp) ?_
     refine X3 (o:=_) rfl (fun K t=>?_) (X3 (o:=_) rfl (fun K t=>?_) Wq)
     .go_simp
      have A:Z4 W.heap.size W (W.drew.alloc (.cells #[] 89)):=(YZ (ZR _ _)).alloc (by simp) _;refine t.out _ _ ⟨A,ai A J,ai A N,ai A O⟩ (fun hHeld=>?_)
      (clear t K;(try simp only[ZG,pz]))
      refine Wd (rs:=[4,6]) (by kernel_rfl) (by simp) ?_
      refine X3 (o:=_) rfl (fun K t=>?_) (X3 (o:=_) rfl (fun K t=>?_) Wq)
      .refine bU _ rfl (.tmp 55) (.tmp 58) 49 89 _ _ 3 40 (by rfl) Tryz.underlying49 bR bO bP bQ rfl (by decide) W.heap.size (.slice (Z9 ⟨W.heap.size,0,Z7⟩) 0 0) (.slice (Z9 ⟨g,0,Z7⟩) i V) 0 i [] (rv (D.take i)) (by simp [Y6]) (eP (w:=W.drew) rfl (ZV _)) (by simp [Y6]) ((gp I.o rfl i3).below A) (bM _) (by unfold YQ;omega) (by omega) (by first|(simp;done)|(simp;omega)) ?_
       intro a5 c5 w5 y Q _;have s:Z4 W.heap.size W w5:=A.grown Q (by first|(simp;done)|(simp;omega)) (fun q C=>by have h2:W.heap.size=q:=(by simpa [X7] using C);omega);refine t.out _ _ ⟨s,ai s J,ai s N,ai s O⟩ (fun hHeld=>?_)
       (clear t K;(try simp only[ZG,pz]))
       refine rgb (i:=6) (by kernel_rfl) rfl (fun K t=>?_)
       go_simp
       have P:Z4 W.heap.size W (w5.alloc (.cells #[.int .i64 l[k].1,.string l[k].2.1,.string l[k].2.2] 89)):=s.alloc s.size _;refine t.out _ _ ⟨P,ai P J,ai P N,ai P O⟩ (fun hHeld=>?_)
       (clear t K;(try simp only[ZG,pz]))
       have a0:(w5.alloc (.cells #[.int .i64 l[k].1,.string l[k].2.1,.string l[k].2.2] 89)).ownsRow _ _ _ _ _ _:=aV y (fun x hx=>(aj w5 _).block x (ax y x hx).2);have Z:=eN w5 (l[k].1,l[k].2.1,l[k].2.2) 89 _ rfl;refine rgb (i:=7) (by kernel_rfl) rfl (fun K t=>?_)
       refine bU _ rfl (.tmp 59) (.tmp 61) 49 89 _ _ 3 40 (by rfl) Tryz.underlying49 bR bO bP bQ rfl (by decide) W.heap.size (.slice a5 (0+i) c5) (.slice (Z9 ⟨w5.heap.size,0,Z7⟩) 1 1) (0+i) 1 _ (rv [(l[k].1,l[k].2.1,l[k].2.2)]) (by simp [Y6]) a0 (by simp [Y6]) Z (bM _) (by unfold YQ;omega) (by omega) P.size ?_
       intro a7 c7 w7 p E _;have m:Z4 W.heap.size W w7:=P.grown E P.size (fun q C=>(ax a0 q C).1);refine t.out _ _ ⟨m,ai m J,ai m N,ai m O⟩ (fun hHeld=>?_)
       (clear t K;(try simp only[ZG,pz]))
       refine rgb (i:=11) (by kernel_rfl) rfl (fun K t=>?_)
       refine bU _ rfl (.tmp 62) (.tmp 65) 49 89 _ _ 3 40 (by rfl) Tryz.underlying49 bR bO bP bQ rfl (by decide) W.heap.size (.slice a7 (0+i+1) c7) (.slice (Z9 ⟨g,dN V i,Z7⟩) (D.length - i) (V - i)) (0+i+1) (D.length - i) _ (rv (D.drop i)) (by simp [Y6]) p (by simp [Y6]) ((gt I.o rfl T.1).below m) (bM _) (by unfold YQ;omega) (by omega) m.size ?_
       intro a8 c8 w8 H G _;have u:Z4 W.heap.size W w8:=m.grown G m.size (fun q C=>(ax p q C).1);rw[X.o] at H;generalize a3:0+i+1+(D.length - i)=L at H |-;obtain rfl:L=(dk l[k] D).length:=by rw[fu];omega
       obtain⟨g8,rfl,-,-⟩:=fa H (by rw[fu];omega);refine t.out _ _ ⟨u,ai u J,ai u N,ai u O⟩ (fun hHeld=>?_)
       (clear t K;(try simp only[ZG,pz]))
       (refine rgy (i:=12) (Z9 7) ?_;(try simp only[ZG,pz]))
       refine XH (by kernel_rfl) ?_ _
       have Y:=lh H;have U:=lh u;clear p H E G hHeld m u;go_wp2_with fail
       go_roundw
       case rel=>exact⟨k+1,g8,c8,by omega,by go_num,by rw[HQ.o],by rw[HQ.o];exact ej Y.o zB,a1.o.trans (U.o.mono zB)⟩
       case measure=>simp [Zq];omega
      .go_simp
       have z:Z4 W.heap.size W ((W.drew.alloc (.cells #[] 89)).alloc (.cells #[.int .i64 l[k].1,.string l[k].2.1,.string l[k].2.2] 89)):=A.alloc (by simp) _;refine t.out _ _ ⟨z,ai z J,ai z N,ai z O⟩ (fun hHeld=>?_)
       (clear t K;(try simp only[ZG,pz]))
       refine rgb (i:=4) (by kernel_rfl) rfl (fun K t=>?_)
       refine bU _ rfl (.tmp 55) (.tmp 58) 49 89 _ _ 3 40 (by rfl) Tryz.underlying49 bR bO bP bQ rfl (by decide) W.heap.size (.slice (Z9 ⟨W.heap.size,0,Z7⟩) 0 0) (.slice (Z9 ⟨g,0,Z7⟩) i V) 0 i [] (rv (D.take i)) (by simp [Y6]) (aV (eP (w:=W.drew) rfl (ZV _)) (fun x hx=>(aj (W.drew.alloc (.cells #[] 89)) _).block x (by have ar:W.heap.size=x:=(by simpa [X7] using hx);simp [<-ar]))) (by simp [Y6]) ((gp I.o rfl i3).below z) (bM _) (by unfold YQ;omega) (by omega) (by first|(simp;done)|(simp;omega)) ?_
       intro a5 c5 w5 y Q _;have s:Z4 W.heap.size W w5:=z.grown Q (by first|(simp;done)|(simp;omega)) (fun q C=>by have h2:W.heap.size=q:=(by simpa [X7] using C);omega);have Z:=(eN (W.drew.alloc (.cells #[] 89)) (l[k].1,l[k].2.1,l[k].2.2) 89 (W.heap.size+1) (by simp)).grown Q (by intro e;have e2:W.heap.size+1=W.heap.size:=Option.some.inj e;omega) (by first|(simp;done)|(simp;omega));refine t.out _ _ ⟨s,ai s J,ai s N,ai s O⟩ (fun hHeld=>?_)
       (clear t K;(try simp only[ZG,pz]))
       refine rgb (i:=7) (by kernel_rfl) rfl (fun K t=>?_)
       refine bU _ rfl (.tmp 59) (.tmp 61) 49 89 _ _ 3 40 (by rfl) Tryz.underlying49 bR bO bP bQ rfl (by decide) W.heap.size (.slice a5 (0+i) c5) (.slice (Z9 ⟨W.heap.size+1,0,Z7⟩) 1 1) (0+i) 1 _ (rv [(l[k].1,l[k].2.1,l[k].2.2)]) (by simp [Y6]) y (by simp [Y6]) Z (bM _) (by unfold YQ;omega) (by omega) s.size ?_
       intro a7 c7 w7 p E _;have m:Z4 W.heap.size W w7:=s.grown E s.size (fun q C=>(ax y q C).1);refine t.out _ _ ⟨m,ai m J,ai m N,ai m O⟩ (fun hHeld=>?_)
       (clear t K;(try simp only[ZG,pz]))
       refine rgb (i:=11) (by kernel_rfl) rfl (fun K t=>?_)
       refine bU _ rfl (.tmp 62) (.tmp 65) 49 89 _ _ 3 40 (by rfl) Tryz.underlying49 bR bO bP bQ rfl (by decide) W.heap.size (.slice a7 (0+i+1) c7) (.slice (Z9 ⟨g,dN V i,Z7⟩) (D.length - i) (V - i)) (0+i+1) (D.length - i) _ (rv (D.drop i)) (by simp [Y6]) p (by simp [Y6]) ((gt I.o rfl T.1).below m) (bM _) (by unfold YQ;omega) (by omega) m.size ?_
       intro a8 c8 w8 H G _;have u:Z4 W.heap.size W w8:=m.grown G m.size (fun q C=>(ax p q C).1);rw[X.o] at H;generalize a3:0+i+1+(D.length - i)=L at H |-;obtain rfl:L=(dk l[k] D).length:=by rw[fu];omega
       obtain⟨g8,rfl,-,-⟩:=fa H (by rw[fu];omega);refine t.out _ _ ⟨u,ai u J,ai u N,ai u O⟩ (fun hHeld=>?_)
       (clear t K;(try simp only[ZG,pz]))
       (refine rgy (i:=12) (Z9 7) ?_;(try simp only[ZG,pz]))
       refine XH (by kernel_rfl) ?_ _
       have Y:=lh H;have U:=lh u;clear p H E G hHeld m u;go_wp2_with fail
       go_roundw
       case rel=>exact⟨k+1,g8,c8,by omega,by go_num,by rw[HQ.o],by rw[HQ.o];exact ej Y.o zB,a1.o.trans (U.o.mono zB)⟩
       case measure=>simp [Zq];omega
     .go_simp
      have A:Z4 W.heap.size W (W.drew.alloc (.cells #[.int .i64 l[k].1,.string l[k].2.1,.string l[k].2.2] 89)):=(YZ (ZR _ _)).alloc (by simp) _;refine t.out _ _ ⟨A,ai A J,ai A N,ai A O⟩ (fun hHeld=>?_)
      (clear t K;(try simp only[ZG,pz]))
      refine rgb (i:=0) (by kernel_rfl) rfl (fun K t=>?_)
      go_simp
      have z:Z4 W.heap.size W ((W.drew.alloc (.cells #[.int .i64 l[k].1,.string l[k].2.1,.string l[k].2.2] 89)).alloc (.cells #[] 89)):=A.alloc (by simp) _;refine t.out _ _ ⟨z,ai z J,ai z N,ai z O⟩ (fun hHeld=>?_)
      (clear t K;(try simp only[ZG,pz]))
      refine rgb (i:=4) (by kernel_rfl) rfl (fun K t=>?_)
      refine bU _ rfl (.tmp 55) (.tmp 58) 49 89 _ _ 3 40 (by rfl) Tryz.underlying49 bR bO bP bQ rfl (by decide) W.heap.size (.slice (Z9 ⟨W.heap.size+1,0,Z7⟩) 0 0) (.slice (Z9 ⟨g,0,Z7⟩) i V) 0 i [] (rv (D.take i)) (by simp [Y6]) (eP (w:=(W.drew.alloc (.cells #[.int .i64 l[k].1,.string l[k].2.1,.string l[k].2.2] 89))) (by simp) (by omega)) (by simp [Y6]) ((gp I.o rfl i3).below z) (bM _) (by unfold YQ;omega) (by omega) (by first|(simp;done)|(simp;omega)) ?_
      intro a5 c5 w5 y Q _;have s:Z4 W.heap.size W w5:=z.grown Q (by first|(simp;done)|(simp;omega)) (fun q C=>by have h2:W.heap.size+1=q:=(by simpa [X7] using C);omega);have Z:=((eN W.drew (l[k].1,l[k].2.1,l[k].2.2) 89 W.heap.size rfl).below (aj _ (.cells #[] 89))).grown Q (by intro e;have e2:W.heap.size=W.heap.size+1:=Option.some.inj e;omega) (by first|(simp;done)|(simp;omega));refine t.out _ _ ⟨s,ai s J,ai s N,ai s O⟩ (fun hHeld=>?_)
      (clear t K;(try simp only[ZG,pz]))
      refine rgb (i:=7) (by kernel_rfl) rfl (fun K t=>?_)
      refine bU _ rfl (.tmp 59) (.tmp 61) 49 89 _ _ 3 40 (by rfl) Tryz.underlying49 bR bO bP bQ rfl (by decide) W.heap.size (.slice a5 (0+i) c5) (.slice (Z9 ⟨W.heap.size,0,Z7⟩) 1 1) (0+i) 1 _ (rv [(l[k].1,l[k].2.1,l[k].2.2)]) (by simp [Y6]) y (by simp [Y6]) Z (bM _) (by unfold YQ;omega) (by omega) s.size ?_
      intro a7 c7 w7 p E _;have m:Z4 W.heap.size W w7:=s.grown E s.size (fun q C=>(ax y q C).1);refine t.out _ _ ⟨m,ai m J,ai m N,ai m O⟩ (fun hHeld=>?_)
      (clear t K;(try simp only[ZG,pz]))
      refine rgb (i:=11) (by kernel_rfl) rfl (fun K t=>?_)
      refine bU _ rfl (.tmp 62) (.tmp 65) 49 89 _ _ 3 40 (by rfl) Tryz.underlying49 bR bO bP bQ rfl (by decide) W.heap.size (.slice a7 (0+i+1) c7) (.slice (Z9 ⟨g,dN V i,Z7⟩) (D.length - i) (V - i)) (0+i+1) (D.length - i) _ (rv (D.drop i)) (by simp [Y6]) p (by simp [Y6]) ((gt I.o rfl T.1).below m) (bM _) (by unfold YQ;omega) (by omega) m.size ?_
      intro a8 c8 w8 H G _;have u:Z4 W.heap.size W w8:=m.grown G m.size (fun q C=>(ax p q C).1);rw[X.o] at H;generalize a3:0+i+1+(D.length - i)=L at H |-;obtain rfl:L=(dk l[k] D).length:=by rw[fu];omega
      obtain⟨g8,rfl,-,-⟩:=fa H (by rw[fu];omega);refine t.out _ _ ⟨u,ai u J,ai u N,ai u O⟩ (fun hHeld=>?_)
      (clear t K;(try simp only[ZG,pz]))
      (refine rgy (i:=12) (Z9 7) ?_;(try simp only[ZG,pz]))
      refine XH (by kernel_rfl) ?_ _
      have Y:=lh H;have U:=lh u;clear p H E G hHeld m u;go_wp2_with fail
      go_roundw
      case rel=>exact⟨k+1,g8,c8,by omega,by go_num,by rw[HQ.o],by rw[HQ.o];exact ej Y.o zB,a1.o.trans (U.o.mono zB)⟩
      case measure=>simp [Zq];omega
    .have HI:Hid (i=(D.takeWhile (cQ l[k])).length):=lh (by omega);have i3:i<=D.length:=by omega
     have i2:decide ((i:Int)<(D.length:Int))=Z2:=by rw[ZI];omega
     go_wp2_with fail
     go_quiet (fail)
     go_upto_region 10 with fail
     generalize R:Xi (Xi W1 _) _=W;have a6:W.heap=W1.heap:=by rw[<-R];rfl
     have J:W.cell? ⟨wr.heap.size,0,Z7⟩=Z9 (.int .i64 l[k].1):=by rw[<-R];exact N0
     have N:W.cell? ⟨wr.heap.size,1,Z7⟩=Z9 (.string l[k].2.1):=by rw[<-R];exact N1
     have O:W.cell? ⟨wr.heap.size,2,Z7⟩=Z9 (.string l[k].2.2):=by rw[<-R];exact N2
     have I:=lh (aV a2.o (fun x _=>by rw[a6]):W.ownsRow _ _ _ _ _ _);have B2:Z4 w.heap.size w W:=by rw[<-R];exact (aa.o.trans (bdr _ _ _)).trans (bdr _ _ _)
     have z2:g<W.heap.size:=(ax I.o g rfl).2;have X:Hid ([]++rv (D.take i)++rv [(l[k].1,l[k].2.1,l[k].2.2)]++rv (D.drop i)=rv (dk l[k] D)):=lh (by rw[uB,<-HI.o,fB,fB];simp);have a1:=lh B2;have zB:=B2.size;clear R a6 N0 N1 N2 a2 aa B2;refine XY (S:=fun w'=>Z4 W.heap.size W w'/\w'.cell? ⟨wr.heap.size,0,Z7⟩=Z9 (.int .i64 l[k].1)/\w'.cell? ⟨wr.heap.size,1,Z7⟩=Z9 (.string l[k].2.1)/\w'.cell? ⟨wr.heap.size,2,Z7⟩=Z9 (.string l[k].2.2)) (by kernel_rfl) ?_ (fun hHeld=>?_)
     .exact⟨YZ (ZR _ _),J,N,O⟩
     (refine rgy (i:=1) (Z9 56) ?_;(try simp only[ZG,pz]))
     (refine rgy (i:=2) (Z9 57) ?_;(try simp only[ZG,pz]))
     refine eq (i:=3) (Z9 58) (v:=.slice (Z9 ⟨g,0,Z7⟩) i V) rfl rfl (by kernel_rfl) (by kernel_rfl) (by kernel_rfl) (fun _ _ _ h=>h) (by kernel_rfl) (fun w al=>?_) (by assumption) ?_
     .have sl:=nh (w:=w) (g:=g) i3 T.1;go_simp
     (try simp only[ZG,Zw,Za,Y9])
     (refine rgy (i:=5) (Z9 60) ?_;(try simp only[ZG,pz]))
     (refine rgy (i:=8) (Z9 63) ?_;(try simp only[ZG,pz]))
     (refine rgy (i:=9) (Z9 64) ?_;(try simp only[ZG,pz]))
     refine eq (i:=10) (Z9 65) (v:=.slice (Z9 ⟨g,dN V i,Z7⟩) (D.length - i) (V - i)) rfl rfl (by kernel_rfl) (by kernel_rfl) (by kernel_rfl) (fun _ _ _ h=>h) (by kernel_rfl) (fun w al=>?_) (by assumption) ?_
     .have sl:=ni (w:=w) (g:=g) (c:=V) i3;go_simp
     (try simp only[ZG,Zw,Za,Y9])
     refine Wd (rs:=[0,6]) (by kernel_rfl) (by simp) ?_
     refine X3 (o:=_) rfl (fun K t=>?_) (X3 (o:=_) rfl (fun K t=>?_) Wq)
     .go_simp
      have A:Z4 W.heap.size W (W.drew.alloc (.cells #[] 89)):=(YZ (ZR _ _)).alloc (by simp) _;refine t.out _ _ ⟨A,ai A J,ai A N,ai A O⟩ (fun hHeld=>?_)
      (clear t K;(try simp only[ZG,pz]))
      refine Wd (rs:=[4,6]) (by kernel_rfl) (by simp) ?_
      refine X3 (o:=_) rfl (fun K t=>?_) (X3 (o:=_) rfl (fun K t=>?_) Wq)
      .refine bU _ rfl (.tmp 55) (.tmp 58) 49 89 _ _ 3 40 (by rfl) Tryz.underlying49 bR bO bP bQ rfl (by decide) W.heap.size (.slice (Z9 ⟨W.heap.size,0,Z7⟩) 0 0) (.slice (Z9 ⟨g,0,Z7⟩) i V) 0 i [] (rv (D.take i)) (by simp [Y6]) (eP (w:=W.drew) rfl (ZV _)) (by simp [Y6]) ((gp I.o rfl i3).below A) (bM _) (by unfold YQ;omega) (by omega) (by first|(simp;done)|(simp;omega)) ?_
       intro a5 c5 w5 y Q _;have s:Z4 W.heap.size W w5:=A.grown Q (by first|(simp;done)|(simp;omega)) (fun q C=>by have h2:W.heap.size=q:=(by simpa [X7] using C);omega);refine t.out _ _ ⟨s,ai s J,ai s N,ai s O⟩ (fun hHeld=>?_)
       (clear t K;(try simp only[ZG,pz]))
       refine rgb (i:=6) (by kernel_rfl) rfl (fun K t=>?_)
       go_simp
       have P:Z4 W.heap.size W (w5.alloc (.cells #[.int .i64 l[k].1,.string l[k].2.1,.string l[k].2.2] 89)):=s.alloc s.size _;refine t.out _ _ ⟨P,ai P J,ai P N,ai P O⟩ (fun hHeld=>?_)
       (clear t K;(try simp only[ZG,pz]))
       have a0:(w5.alloc (.cells #[.int .i64 l[k].1,.string l[k].2.1,.string l[k].2.2] 89)).ownsRow _ _ _ _ _ _:=aV y (fun x hx=>(aj w5 _).block x (ax y x hx).2);have Z:=eN w5 (l[k].1,l[k].2.1,l[k].2.2) 89 _ rfl;refine rgb (i:=7) (by kernel_rfl) rfl (fun K t=>?_)
       refine bU _ rfl (.tmp 59) (.tmp 61) 49 89 _ _ 3 40 (by rfl) Tryz.underlying49 bR bO bP bQ rfl (by decide) W.heap.size (.slice a5 (0+i) c5) (.slice (Z9 ⟨w5.heap.size,0,Z7⟩) 1 1) (0+i) 1 _ (rv [(l[k].1,l[k].2.1,l[k].2.2)]) (by simp [Y6]) a0 (by simp [Y6]) Z (bM _) (by unfold YQ;omega) (by omega) P.size ?_
       intro a7 c7 w7 p E _;have m:Z4 W.heap.size W w7:=P.grown E P.size (fun q C=>(ax a0 q C).1);refine t.out _ _ ⟨m,ai m J,ai m N,ai m O⟩ (fun hHeld=>?_)
       (clear t K;(try simp only[ZG,pz]))
       refine rgb (i:=11) (by kernel_rfl) rfl (fun K t=>?_)
       refine bU _ rfl (.tmp 62) (.tmp 65) 49 89 _ _ 3 40 (by rfl) Tryz.underlying49 bR bO bP bQ rfl (by decide) W.heap.size (.slice a7 (0+i+1) c7) (.slice (Z9 ⟨g,dN V i,Z7⟩) (D.length - i) (V - i)) (0+i+1) (D.length - i) _ (rv (D.drop i)) (by simp [Y6]) p (by simp [Y6]) ((gt I.o rfl T.1).below m) (bM _) (by unfold YQ;omega) (by omega) m.size ?_
       intro a8 c8 w8 H G _;have u:Z4 W.heap.size W w8:=m.grown G m.size (fun q C=>(ax p q C).1);rw[X.o] at H;generalize a3:0+i+1+(D.length - i)=L at H |-;obtain rfl:L=(dk l[k] D).length:=by rw[fu];omega
       obtain⟨g8,rfl,-,-⟩:=fa H (by rw[fu];omega);refine t.out _ _ ⟨u,ai u J,ai u N,ai u O⟩ (fun hHeld=>?_)
       (clear t K;(try simp only[ZG,pz]))
       (refine rgy (i:=12) (Z9 7) ?_;(try simp only[ZG,pz]))
       refine XH (by kernel_rfl) ?_ _
       have Y:=lh H;have U:=lh u;clear p H E G hHeld m u;go_wp2_with fail
       go_roundw
       case rel=>exact⟨k+1,g8,c8,by omega,by go_num,by rw[HQ.o],by rw[HQ.o];exact ej Y.o zB,a1.o.trans (U.o.mono zB)⟩
       case measure=>simp [Zq];omega
      .go_simp
       have z:Z4 W.heap.size W ((W.drew.alloc (.cells #[] 89)).alloc (.cells #[.int .i64 l[k].1,.string l[k].2.1,.string l[k].2.2] 89)):=A.alloc (by simp) _;refine t.out _ _ ⟨z,ai z J,ai z N,ai z O⟩ (fun hHeld=>?_)
       (clear t K;(try simp only[ZG,pz]))
       refine rgb (i:=4) (by kernel_rfl) rfl (fun K t=>?_)
       refine bU _ rfl (.tmp 55) (.tmp 58) 49 89 _ _ 3 40 (by rfl) Tryz.underlying49 bR bO bP bQ rfl (by decide) W.heap.size (.slice (Z9 ⟨W.heap.size,0,Z7⟩) 0 0) (.slice (Z9 ⟨g,0,Z7⟩) i V) 0 i [] (rv (D.take i)) (by simp [Y6]) (aV (eP (w:=W.drew) rfl (ZV _)) (fun x hx=>(aj (W.drew.alloc (.cells #[] 89)) _).block x (by have ar:W.heap.size=x:=(by simpa [X7] using hx);simp [<-ar]))) (by simp [Y6]) ((gp I.o rfl i3).below z) (bM _) (by unfold YQ;omega) (by omega) (by first|(simp;done)|(simp;omega)) ?_
       intro a5 c5 w5 y Q _;have s:Z4 W.heap.size W w5:=z.grown Q (by first|(simp;done)|(simp;omega)) (fun q C=>by have h2:W.heap.size=q:=(by simpa [X7] using C);omega);have Z:=(eN (W.drew.alloc (.cells #[] 89)) (l[k].1,l[k].2.1,l[k].2.2) 89 (W.heap.size+1) (by simp)).grown Q (by intro e;have e2:W.heap.size+1=W.heap.size:=Option.some.inj e;omega) (by first|(simp;done)|(simp;omega));refine t.out _ _ ⟨s,ai s J,ai s N,ai s O⟩ (fun hHeld=>?_)
       (clear t K;(try simp only[ZG,pz]))
       refine rgb (i:=7) (by kernel_rfl) rfl (fun K t=>?_)
       refine bU _ rfl (.tmp 59) (.tmp 61) 49 89 _ _ 3 40 (by rfl) Tryz.underlying49 bR bO bP bQ rfl (by decide) W.heap.size (.slice a5 (0+i) c5) (.slice (Z9 ⟨W.heap.size+1,0,Z7⟩) 1 1) (0+i) 1 _ (rv [(l[k].1,l[k].2.1,l[k].2.2)]) (by simp [Y6]) y (by simp [Y6]) Z (bM _) (by unfold YQ;omega) (by omega) s.size ?_
       intro a7 c7 w7 p E _;have m:Z4 W.heap.size W w7:=s.grown E s.size (fun q C=>(ax y q C).1);refine t.out _ _ ⟨m,ai m J,ai m N,ai m O⟩ (fun hHeld=>?_)
       (clear t K;(try simp only[ZG,pz]))
       refine rgb (i:=11) (by kernel_rfl) rfl (fun K t=>?_)
       refine bU _ rfl (.tmp 62) (.tmp 65) 49 89 _ _ 3 40 (by rfl) Tryz.underlying49 bR bO bP bQ rfl (by decide) W.heap.size (.slice a7 (0+i+1) c7) (.slice (Z9 ⟨g,dN V i,Z7⟩) (D.length - i) (V - i)) (0+i+1) (D.length - i) _ (rv (D.drop i)) (by simp [Y6]) p (by simp [Y6]) ((gt I.o rfl T.1).below m) (bM _) (by unfold YQ;omega) (by omega) m.size ?_
       intro a8 c8 w8 H G _;have u:Z4 W.heap.size W w8:=m.grown G m.size (fun q C=>(ax p q C).1);rw[X.o] at H;generalize a3:0+i+1+(D.length - i)=L at H |-;obtain rfl:L=(dk l[k] D).length:=by rw[fu];omega
       obtain⟨g8,rfl,-,-⟩:=fa H (by rw[fu];omega);refine t.out _ _ ⟨u,ai u J,ai u N,ai u O⟩ (fun hHeld=>?_)
       (clear t K;(try simp only[ZG,pz]))
       (refine rgy (i:=12) (Z9 7) ?_;(try simp only[ZG,pz]))
       refine XH (by kernel_rfl) ?_ _
       have Y:=lh H;have U:=lh u;clear p H E G hHeld m u;go_wp2_with fail
       go_roundw
       case rel=>exact⟨k+1,g8,c8,by omega,by go_num,by rw[HQ.o],by rw[HQ.o];exact ej Y.o zB,a1.o.trans (U.o.mono zB)⟩
       case measure=>simp [Zq];omega
     .go_simp
      have A:Z4 W.heap.size W (W.drew.alloc (.cells #[.int .i64 l[k].1,.string l[k].2.1,.string l[k].2.2] 89)):=(YZ (ZR _ _)).alloc (by simp) _;refine t.out _ _ ⟨A,ai A J,ai A N,ai A O⟩ (fun hHeld=>?_)
      (clear t K;(try simp only[ZG,pz]))
      refine rgb (i:=0) (by kernel_rfl) rfl (fun K t=>?_)
      go_simp
      have z:Z4 W.heap.size W ((W.drew.alloc (.cells #[.int .i64 l[k].1,.string l[k].2.1,.string l[k].2.2] 89)).alloc (.cells #[] 89)):=A.alloc (by simp) _;refine t.out _ _ ⟨z,ai z J,ai z N,ai z O⟩ (fun hHeld=>?_)
      (clear t K;(try simp only[ZG,pz]))
      refine rgb (i:=4) (by kernel_rfl) rfl (fun K t=>?_)
      refine bU _ rfl (.tmp 55) (.tmp 58) 49 89 _ _ 3 40 (by rfl) Tryz.underlying49 bR bO bP bQ rfl (by decide) W.heap.size (.slice (Z9 ⟨W.heap.size+1,0,Z7⟩) 0 0) (.slice (Z9 ⟨g,0,Z7⟩) i V) 0 i [] (rv (D.take i)) (by simp [Y6]) (eP (w:=(W.drew.alloc (.cells #[.int .i64 l[k].1,.string l[k].2.1,.string l[k].2.2] 89))) (by simp) (by omega)) (by simp [Y6]) ((gp I.o rfl i3).below z) (bM _) (by unfold YQ;omega) (by omega) (by first|(simp;done)|(simp;omega)) ?_
      intro a5 c5 w5 y Q _;have s:Z4 W.heap.size W w5:=z.grown Q (by first|(simp;done)|(simp;omega)) (fun q C=>by have h2:W.heap.size+1=q:=(by simpa [X7] using C);omega);have Z:=((eN W.drew (l[k].1,l[k].2.1,l[k].2.2) 89 W.heap.size rfl).below (aj _ (.cells #[] 89))).grown Q (by intro e;have e2:W.heap.size=W.heap.size+1:=Option.some.inj e;omega) (by first|(simp;done)|(simp;omega));refine t.out _ _ ⟨s,ai s J,ai s N,ai s O⟩ (fun hHeld=>?_)
      (clear t K;(try simp only[ZG,pz]))
      refine rgb (i:=7) (by kernel_rfl) rfl (fun K t=>?_)
      refine bU _ rfl (.tmp 59) (.tmp 61) 49 89 _ _ 3 40 (by rfl) Tryz.underlying49 bR bO bP bQ rfl (by decide) W.heap.size (.slice a5 (0+i) c5) (.slice (Z9 ⟨W.heap.size,0,Z7⟩) 1 1) (0+i) 1 _ (rv [(l[k].1,l[k].2.1,l[k].2.2)]) (by simp [Y6]) y (by simp [Y6]) Z (bM _) (by unfold YQ;omega) (by omega) s.size ?_
      intro a7 c7 w7 p E _;have m:Z4 W.heap.size W w7:=s.grown E s.size (fun q C=>(ax y q C).1);refine t.out _ _ ⟨m,ai m J,ai m N,ai m O⟩ (fun hHeld=>?_)
      (clear t K;(try simp only[ZG,pz]))
      refine rgb (i:=11) (by kernel_rfl) rfl (fun K t=>?_)
      refine bU _ rfl (.tmp 62) (.tmp 65) 49 89 _ _ 3 40 (by rfl) Tryz.underlying49 bR bO bP bQ rfl (by decide) W.heap.size (.slice a7 (0+i+1) c7) (.slice (Z9 ⟨g,dN V i,Z7⟩) (D.length - i) (V - i)) (0+i+1) (D.length - i) _ (rv (D.drop i)) (by simp [Y6]) p (by simp [Y6]) ((gt I.o rfl T.1).below m) (bM _) (by unfold YQ;omega) (by omega) m.size ?_
      intro a8 c8 w8 H G _;have u:Z4 W.heap.size W w8:=m.grown G m.size (fun q C=>(ax p q C).1);rw[X.o] at H;generalize a3:0+i+1+(D.length - i)=L at H |-;obtain rfl:L=(dk l[k] D).length:=by rw[fu];omega
      obtain⟨g8,rfl,-,-⟩:=fa H (by rw[fu];omega);refine t.out _ _ ⟨u,ai u J,ai u N,ai u O⟩ (fun hHeld=>?_)
      (clear t K;(try simp only[ZG,pz]))
      (refine rgy (i:=12) (Z9 7) ?_;(try simp only[ZG,pz]))
      refine XH (by kernel_rfl) ?_ _
      have Y:=lh H;have U:=lh u;clear p H E G hHeld m u;go_wp2_with fail
      go_roundw
      case rel=>exact⟨k+1,g8,c8,by omega,by go_num,by rw[HQ.o],by rw[HQ.o];exact ej Y.o zB,a1.o.trans (U.o.mono zB)⟩
      case measure=>simp [Zq];omega
  .obtain rfl:k=l.length:=by omega
   go_wp2_with fail
   go_ret
   refine⟨_,rfl,?_,fun q C=>(ax HO.o q C).1,HB.o⟩
   rw[show srt id c l=srt id c (l.take l.length) by rw[List.take_length]];exact jX (by omega) (dU HO.o)
end
end Go.Proofs.YtnkjliahpeebjaaGreatDoor
