/- Catalogs. -/
import Derived.Test.YtnkjliahpeebjaaGreatDoorSh
set_option maxRecDepth 8000
set_option maxHeartbeats 8000000
open Option renaming some->Z9,none->Z8
open _root_ renaming List->Z5,if_neg->Z0,if_pos->ZX,decide_eq_true_eq->ZU,UInt8->ZP,decide_eq_true->ZL,Bool->Zi
open Bool renaming true->ZZ,false->ZW,and_eq_true->ZT,false_eq_true->W7
open List renaming take_of_length_le->ZC,take_succ_eq_append_getElem->ZB,mem_cons->Zw,mem_singleton->Zn,mem_append->YP,length_take->YH,pairwise_cons->Ym,range->X3,takeWhile_append_dropWhile->X0,drop_zero->V1
open Go.Result renaming andThen_ok->YU
open Int renaming toNat_natCast->Xw
namespace Go.Proofs.YtnkjliahpeebjaaGreatDoor
variable{w w':World}(x:Rw){F:Nat->Rw}{e b n g d q o c k base:Nat}{l:Z5 Rw}{f xs:Z5 Value}{a:Option Addr}
abbrev aU(x:Rw):Z5 ZP:=Ds.bl x.2.1
def ed(x y:Rw):Zi:=decide (x.1=y.1)&&decide (aU x=aU y)
def agn(l:Z5 Rw)(k:Nat)(x:Rw):Zi:=(l.take k).any fun y=>ed y x
def dst(l:Z5 Rw):Nat->Z5 Rw
 | 0=>[]
 | k+1=>match l[k]? with|none=>dst l k|some x=>if agn l k x=ZZ then dst l k else dst l k++[x]
def DstL(l:Z5 Rw):Prop:=l.Pairwise fun x y=>ed x y=ZW
theorem DstL.inj(h:DstL l){x y:Rw}(r:x∈l)(t:y∈l)(m:x.1=y.1)(p:aU x=aU y):x=y:=by
 induction l with
 | nil=>cases r
 | cons z l I =>
   unfold DstL at h;rw[Ym] at h
   have key:∀ u v:Rw,ed u v=ZW->¬ (u.1=v.1/\aU u=aU v):=fun u v s ⟨Q,A⟩=>by
    unfold ed at s;rw[ZL Q,ZL A] at s;cases s
   rcases Zw.1 r with j|i
   .rcases Zw.1 t with E|H
    .exact j.trans E.symm
    .subst j;exact absurd ⟨m,p⟩ (key _ _ (h.1 y H))
   .rcases Zw.1 t with E|H
    .subst E;exact absurd ⟨m.symm,p.symm⟩ (key _ _ (h.1 x i))
    .exact I h.2 i H
def cQ(x y:Rw):Zi:=bB (aU y) (aU x)
def dk(x:Rw)(O:Z5 Rw):Z5 Rw:=O.takeWhile (cQ x)++x::O.dropWhile (cQ x)
def cH(id:Int)(c:ZP)(x:Rw):Zi:=decide (x.1=id)&&decide ((aU x).head?=Z9 c)
def jl(id:Int)(c:ZP)(O:Z5 Rw)(x:Rw):Z5 Rw:=if cH id c x=ZZ then dk x O else O
def srt(id:Int)(c:ZP)(l:Z5 Rw):Z5 Rw:=l.foldl (jl id c) []
theorem mE(id:Int)(c:ZP)(l:Z5 Rw)(x:Rw):srt id c (l++[x])=jl id c (srt id c l) x:=by
 unfold srt;rw[List.foldl_append];rfl
theorem sW(O:Z5 Rw)(y:Rw):y∈dk x O↔y=x\/y∈O:=by
 unfold dk;have e:O.takeWhile (cQ x)++O.dropWhile (cQ x)=O:=X0
 have h:y∈O↔y∈O.takeWhile (cQ x)\/y∈O.dropWhile (cQ x):=by
  rw[<-YP,e]
 rw[YP,Zw,h];constructor
 .rintro (h|h|h)
  .exact .inr (.inl h)
  .exact .inl h
  .exact .inr (.inr h)
 .rintro (h|h|h)
  .exact .inr (.inl h)
  .exact .inl h
  .exact .inr (.inr h)
theorem fu(O:Z5 Rw):(dk x O).length=O.length+1:=by
 have e:(O.takeWhile (cQ x)++O.dropWhile (cQ x)).length=O.length:=by rw[X0]
 unfold dk;rw[List.length_append] at e |-;rw[List.length_cons];omega
def ia(l:Z5 Rw):Prop:=l.Pairwise fun x y=>bB (aU x) (aU y)=ZZ
theorem vd(x:Rw):∀ (O:Z5 Rw),ia O->(∀ y∈O,aU y≠aU x)->ia (dk x O)
 | [],_,_=>List.pairwise_singleton _ _
 | y::O,h,i=>by
   unfold ia at h;rw[Ym] at h;by_cases c:cQ x y=ZZ
   .have e:dk x (y::O)=y::dk x O:=by unfold dk;rw[List.takeWhile_cons,List.dropWhile_cons,ZX c,ZX c];rfl
    unfold ia;rw[e,Ym];refine⟨fun z H=>?_,vd x O h.2 fun z H=>i z (by simp [H])⟩
    rcases (sW x O z).1 H with rfl|H
    .exact c
    .exact h.1 z H
   .have e:dk x (y::O)=x::y::O:=by unfold dk;rw[List.takeWhile_cons,List.dropWhile_cons,Z0 c,Z0 c];rfl
    have j:bB (aU x) (aU y)=ZZ:=mV (by simpa [cQ] using c) (i y (by simp));unfold ia;rw[e,Ym];refine⟨fun z H=>?_,Ym.2 h⟩
    rcases Zw.1 H with rfl|H
    .exact j
    .exact ir j (h.1 z H)
theorem iV(id:Int)(c:ZP)(l:Z5 Rw):∀ k,∀ x,x∈srt id c (l.take k)↔x∈l.take k/\cH id c x=ZZ
 | 0,x=>by simp [srt]
 | k+1,x=>by
   by_cases j:k<l.length
   .rw[ZB j,mE];unfold jl;split
    .rename_i i;rw[sW,iV id c l k x,YP,Zn];constructor
     .rintro (rfl|h)
      .exact⟨.inr rfl,i⟩
      .exact⟨.inl h.1,h.2⟩
     .rintro ⟨h|rfl,H⟩
      .exact .inr ⟨h,H⟩
      .exact .inl rfl
    .rename_i i;rw[iV id c l k x,YP,Zn];constructor
     .rintro h;exact⟨.inl h.1,h.2⟩
     .rintro ⟨h|rfl,H⟩
      .exact⟨h,H⟩
      .exact absurd H i
   .have:=iV id c l k x;rw[ZC (by omega)] at this |-;exact this
theorem mp(id:Int)(c:ZP)(l:Z5 Rw)(h:DstL l):∀ k,ia (srt id c (l.take k))
 | 0=>by simp [srt,ia]
 | k+1=>by
   by_cases t:k<l.length
   .rw[ZB t,mE];unfold jl;split
    .rename_i r;refine vd _ _ (mp id c l h k) fun y v e=>?_
     have j:=(iV id c l k y).1 v;obtain⟨i,u,m⟩:=List.getElem_of_mem j.1;rw[List.getElem_take] at m;have s:i<k:=by rw[YH] at u;omega
     have p:=(List.pairwise_iff_getElem.1 h) i k (by omega) t s;unfold cH at r;have H:=j.2;unfold cH at H;simp only[ZT,ZU] at r H
     rw[m] at p;unfold ed at p;rw[ZL (H.1.trans r.1.symm),ZL e] at p;cases p
    .exact mp id c l h k
   .have:=mp id c l h k;rw[ZC (by omega)] at this |-;exact this
theorem pN(id:Int)(c:ZP)(l:Z5 Rw):∀ k,(srt id c (l.take k)).length<=k
 | 0=>by simp [srt]
 | k+1=>by
   have i:=pN id c l k;by_cases h:k<l.length
   .rw[ZB h,mE];unfold jl;split
    .rw[fu];omega
    .omega
   .rw[ZC (by omega)] at i |-;omega
def aft(k:Z5 ZP)(S:Z5 Rw):Z5 Rw:=S.filter fun x=>bB k (aU x)
theorem tq0{k:Z5 ZP}{x:Rw}:∀ {S:Z5 Rw},ia S->x∈S->bB k (aU x)=ZZ->(∀ y∈S,bB k (aU y)=ZZ->bB (aU y) (aU x)=ZW)->aft k S=x::aft (aU x) S
 | [],_,h,_,_=>by cases h
 | z::S,H,j,p,s=>by
   unfold ia at H;rw[Ym] at H;unfold aft;rw[List.filter_cons,List.filter_cons];rcases Zw.1 j with rfl|j
   .rw[ZX p,Z0 (by rw[iO];simp)];congr 1
    refine List.filter_congr fun y m=>?_
    rw[H.1 y m,ir p (H.1 y m)]
   .have i:=H.1 x j
    have r:bB k (aU z)=ZW:=by
     by_cases c:bB k (aU z)=ZZ
     .have:=s z (by simp) c;rw[i] at this;cases this
     .simpa using c
    rw[Z0 (by rw[r];simp),Z0 (by rw[oR i];simp)];exact tq0 (S:=S) H.2 j p fun y m=>s y (by simp [m])
theorem zd(id:Int)(k:Z5 ZP):∀ (n:Nat) (l:Z5 Rw),l.length=n->match nx id k l with
  | none=>∀ y∈l,y.1=id->bB k (aU y)=ZW
  | some x=>∀ y∈l,y.1=id->bB k (aU y)=ZZ->bB (aU y) (aU x)=ZW
 | 0,l,h=>by
   rw[List.length_eq_zero_iff.1 h];simp [nx]
 | n+1,l,h=>by
   obtain⟨m,x,rfl⟩:∃ m x,l=m++[x]:=⟨l.dropLast,l.getLast (by intro e;rw[e] at h;cases h),(List.dropLast_concat_getLast _).symm⟩;have I:=zd id k n m (by simpa using h);rw[po];unfold nxs;by_cases j:nxq id k (nx id k m) x=ZZ
   .rw[ZX j];simp only
    intro y i H p;unfold nxq at j;simp only[ZT,ZU] at j
    rcases YP.1 i with i|i
    .cases r:nx id k m with
     | none=>rw[r] at I;simp only at I;rw[I y i H] at p;cases p
     | some z =>
       rw[r] at I j;simp only at I j;have s:=I y i H p;by_cases c:bB (aU y) (aU x)=ZZ
       .rw[ir c j.2.2] at s;cases s
       .simpa using c
    .rw[Zn.1 i];exact iO _
   .rw[Z0 j];unfold nxq at j
    cases r:nx id k m with
    | none =>
      rw[r] at I j;simp only at I j |-;intro y i H;rcases YP.1 i with i|i
      .exact I y i H
      .rw[Zn.1 i] at H |-;rw[ZL H] at j;simpa using j
    | some z =>
      rw[r] at I j;simp only at I j |-;intro y i H p;rcases YP.1 i with i|i
      .exact I y i H p
      .rw[Zn.1 i] at H p |-;rw[ZL H,p] at j;simpa using j
theorem xb{l:Z5 ZP}{k:Z5 ZP}(h:bB k l=ZZ):l.head?=Z9 (l.headD 0):=by
 cases l with
 | nil=>rw[lF] at h;cases h
 | cons a r=>rfl
theorem K8{a b:Z5 ZP}(h:bB a b=ZZ)(ha:a≠[]):a.headD 0<=b.headD 0:=by
 cases b with
 | nil=>rw[lF] at h;cases h
 | cons y s =>
   cases a with
   | nil=>exact absurd rfl ha
   | cons x r =>
     simp only[List.headD_cons]
     have j:Lib.compareBytes (x::r) (y::s)<0:=of_decide_eq_true h;by_cases c:x<=y
     .exact c
     .exfalso
      have H:y<x:=by simpa using c
      have i:¬ x<y:=fun q=>absurd (UInt8.lt_trans q H) (UInt8.lt_irrefl _)
      simp [Lib.compareBytes,i,H] at j
section
open Go.RowKit
def RwAt(w:World)(b o:Nat)(x:Rw):Prop:=w.cell? ⟨b,o,Z8⟩=Z9 (.int .i64 x.1)/\w.cell? ⟨b,o+1,Z8⟩=Z9 (.string x.2.1)/\w.cell? ⟨b,o+2,Z8⟩=Z9 (.string x.2.2)
theorem RwAt.below{x:Rw}(h:RwAt w b o x)(H:Below w.heap.size w w'):RwAt w' b o x:=⟨ai H h.1,ai H h.2.1,ai H h.2.2⟩
def RwL(w:World)(a:Option Addr)(n:Nat)(F:Nat->Rw):Prop:=n<=9223372036854775807/\∀ k,k<n->∃ b o,a=Z9 ⟨b,o,Z8⟩/\b<w.heap.size/\RwAt w b (o+k*3) (F k)
theorem RwL.below(h:RwL w a n F)(H:Below w.heap.size w w'):RwL w' a n F :=
 ⟨h.1,fun k m=>by
  obtain⟨b,o,i,p,j⟩:=h.2 k m;exact⟨b,o,i,by have:=H.size;omega,j.below H⟩⟩
def rlst(F:Nat->Rw)(n:Nat):Z5 Rw:=(X3 n).map F
theorem lj(F:Nat->Rw)(n:Nat):(rlst F n).length=n:=by unfold rlst;simp
theorem CA(F:Nat->Rw)(n k:Nat)(h:k<(rlst F n).length):(rlst F n)[k]=F k:=by
 have:∀ (h:k<((X3 n).map F).length),((X3 n).map F)[k]=F k:=fun h=>by simp
 exact this h
theorem RwL.rws(h:RwL w a n F)(c:Nat)(r:n<=1000000):RwS w (.slice a n c) (rlst F n):=by
 refine⟨a,c,by rw[lj],by rw[lj];exact r,fun i=>?_⟩
 rw[lj] at i;obtain⟨b,o,ha,p,-⟩:=h.2 0 i;refine⟨b,o,ha,p,fun k j=>?_⟩
 rw[lj] at j;obtain⟨B,O,H,-,m⟩:=h.2 k j;rw[ha] at H;cases H
 rw[CA];exact m
def qS(F:Nat->Rw)(n:Nat)(m:Int):Prop:=(n:Int)<=m/\∀ k,k<n->(F k).2.1.size<=60/\(F k).2.2.size<=300
def FewRR(F:Nat->Rw)(n:Nat)(m:Int)(w w':World)(r:Ending):Prop:=∃ b:Zi,r=.returned (.bool b)/\(b=ZZ->qS F n m)/\w'=w
theorem FewRR.no{m:Int}:FewRR F n m w w (.returned (.bool ZW)):=⟨ZW,rfl,(fun h=>by cases h),rfl⟩
theorem bdr(B:Nat)(w:World)(n:Nat):Below B w (w.drewN n):=⟨rfl,rfl,rfl,Nat.le_refl _,fun _ _=>rfl⟩
end
section
open Go.RowKit
set_option linter.unusedSimpArgs false
theorem eP{e:TypeId}(H:w.heap.size=q)(h:base<=q):(w.alloc (.cells #[] e)).ownsRow base e d (.slice (Z9 ⟨q,0,Z8⟩) 0 0) 0 []:=by
 subst H;exact⟨by simp,.inr ⟨w.heap.size,0,#[],rfl,h,heap_alloc_new w _,Nat.le_refl _,by unfold maxLen;omega,by simp,by simp⟩⟩
theorem CS.grown{m:Nat}{row:Option Nat}(h:CS w d (.slice (Z9 ⟨b,o,Z8⟩) m c) m f)(v:w.grownBy w' row)(i:Z9 b≠row)(H:b<w.heap.size):CS w' d (.slice (Z9 ⟨b,o,Z8⟩) m c) m f:=by
 obtain⟨a,C,e,s,t⟩:=h;cases e
 refine⟨_,_,rfl,s,fun r=>?_⟩
 obtain⟨A,e,p⟩:=t r;cases e
 exact⟨_,rfl,fun j u y=>by
  have:=p j u y;rw[Addr.add_lit] at this |-;exact (World.cell?_of_block (a:=(⟨b,o+j,Z8⟩:Addr)) (v.block b H i)).trans this⟩
theorem ej{v:Value}(h:w.ownsRow base e d v n xs)(j:b<=base):w.ownsRow b e d v n xs:=by
 refine⟨h.1,?_⟩
 rcases h.2 with H|⟨g,C,r,rfl,i,m⟩
 .exact .inl H
 .exact .inr ⟨g,C,r,rfl,Nat.le_trans j i,m⟩
theorem fa(h:w.ownsRow base e d (.slice a n c) n xs)(p:0<n):∃ g,a=Z9 ⟨g,0,Z8⟩/\n<=c/\c<=maxLen:=by
 rcases h.2 with ⟨H,m⟩|⟨g,C,r,H,_,_,i,j,_⟩
 .cases H;omega
 .cases H;exact⟨g,rfl,i,j⟩
theorem tU(h:w.ownsRow base e d (.slice (Z9 ⟨g,0,Z8⟩) n c) n xs):n<=c/\c<=maxLen:=by
 rcases h.2 with ⟨H,m⟩|⟨G,C,r,H,_,_,i,j,_⟩
 .cases H
 .cases H;exact⟨i,j⟩
theorem uW:∀ (l:Z5 Rw) (k:Nat),rv (l.drop k)=(rv l).drop (k*3)
 | _,0=>by rw[V1,Nat.zero_mul,V1]
 | [],k+1=>by rw[List.drop_nil];exact List.drop_nil.symm
 | x::l,k+1=>by
   rw[List.drop_succ_cons,uW l k,rv,show (k+1)*3=3+k*3 by omega,<-List.drop_drop];rfl
def dN(c k:Nat):Nat:=if c=k then 0 else k*3
theorem gt(h:w.ownsRow base 89 3 (.slice (Z9 ⟨g,0,Z8⟩) n c) n (rv l))(r:l.length=n)(t:n<=c):CS w 3 (.slice (Z9 ⟨g,dN c k,Z8⟩) (n - k) (c - k)) (n - k) (rv (l.drop k)):=by
 refine⟨_,_,rfl,by rw[lK,List.length_drop,r],fun s=>⟨_,rfl,fun j u H=>?_⟩⟩
 have m:dN c k=k*3:=Z0 (by omega);obtain⟨a,C,e,-,p⟩:=dU h;obtain⟨A,i,q⟩:=p (by omega);injection e with E
 rw[i] at E;cases E
 rw[uW,List.getElem?_drop] at H;have:=q _ u H;rw[Addr.add_lit] at this |-;rw[Nat.zero_add] at this;rw[m];exact this
theorem gp(h:w.ownsRow base 89 3 (.slice (Z9 ⟨g,0,Z8⟩) n c) n (rv l))(r:l.length=n)(m:k<=n):CS w 3 (.slice (Z9 ⟨g,0,Z8⟩) k c) k (rv (l.take k)):=by
 refine⟨_,_,rfl,by rw[lK,YH,r,Nat.min_eq_left m],fun s=>⟨_,rfl,fun j u H=>?_⟩⟩
 obtain⟨a,C,e,-,p⟩:=dU h;obtain⟨A,i,q⟩:=p (by omega);injection e with E
 rw[i] at E;cases E
 refine q j u ?_
 rw[<-List.take_append_drop k l,fB,List.getElem?_append_left (List.getElem?_eq_some_iff.1 H).1];exact H
theorem ni(j:k<=n):(Instr.slice 49 (.slice (Z9 ⟨g,0,Z8⟩) n c) (Z9 (.int .i64 (k:Int))) Z8 Z8).run Tryz.prog w=.ok (.slice (Z9 ⟨g,dN c k,Z8⟩) (n - k) (c - k)) w:=by
 have H:(0:Int)<=k:=by omega
 have i:(k:Int)<=n:=by omega
 simp only[Instr.slice,Instr.sliceBounds,Sem.run_bind,Sem.run_pure,run_underlying Tryz.underlying49,YU,run_sliceBound _ _ _ _ _ H i,Option.isSome,W7,if_false]
 rw[Tryz.sizeOf89];unfold dN;by_cases h:c=k
 .simp only[YU,Xw,ZX h]
 .simp only[YU,Xw,Z0 h,Option.map,Addr.add_lit,Nat.zero_add]
theorem nh(m:k<=n)(j:n<=c):(Instr.slice 49 (.slice (Z9 ⟨g,0,Z8⟩) n c) Z8 (Z9 (.int .i64 (k:Int))) Z8).run Tryz.prog w=.ok (.slice (Z9 ⟨g,0,Z8⟩) k c) w:=by
 have H:(0:Int)<=k:=by omega
 have i:(k:Int)<=c:=by omega
 simp only[Instr.slice,Instr.sliceBounds,Sem.run_bind,Sem.run_pure,run_underlying Tryz.underlying49,YU,run_sliceBound _ _ _ _ _ H i,Option.isSome,W7,if_false,if_true]
 rw[Tryz.sizeOf89];by_cases h:c=0
 .simp only[YU,Xw,ZX h,Nat.sub_zero]
 .simp only[YU,Xw,Z0 h,Option.map,Addr.add_lit,Nat.zero_mul,Nat.sub_zero,Nat.zero_add]
theorem qP(p:Rw->Zi):∀ (l:Z5 Rw) (j:Nat) (h:j<l.length),(j<(l.takeWhile p).length->p l[j]=ZZ)/\(j=(l.takeWhile p).length->p l[j]=ZW)
 | x::l,0,_=>by
   rw[List.takeWhile_cons];by_cases c:p x=ZZ
   .rw[ZX c];exact⟨fun _=>c,fun h=>by simp at h⟩
   .rw[Z0 c];exact⟨fun h=>by simp at h,fun _=>by simpa using c⟩
 | x::l,j+1,h=>by
   have:=qP p l j (by simpa using h);rw[List.takeWhile_cons];by_cases c:p x=ZZ
   .rw[ZX c];exact⟨fun q=>this.1 (by simpa using q),fun q=>this.2 (by simpa using q)⟩
   .rw[Z0 c];exact⟨fun q=>by simp at q,fun q=>by simp at q⟩
theorem xt(p:Rw->Zi)(l:Z5 Rw):(l.takeWhile p).length<=l.length:=(List.takeWhile_prefix p).length_le
end
end Go.Proofs.YtnkjliahpeebjaaGreatDoor
