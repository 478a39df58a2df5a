/- Catalogs. -/
import Derived.Test.YtnkjliahpeebjaaGreatDoorMz
set_option maxRecDepth 8000
set_option maxHeartbeats 16000000
open _root_ renaming ByteArray->Z7,List->Z5,if_neg->Z0,if_pos->ZX,decide_eq_true_eq->ZU,UInt8->ZP
open Go.Proofs.YtnkjliahpeebjaaGreatDoor.Ds renaming bl->Z4,name->Zj,pieces->Y1,gen->XZ,join_pieces->WU
open Bool renaming true->ZZ,false->ZW,and_eq_true->ZT,eq_iff_iff->Zf,true_and->Yj,or_eq_true->Yh
open Nat renaming le_refl->ZS
open List renaming length_append->ZQ,length_cons->ZK,take_of_length_le->ZC,cons_append->Zm,length_singleton->Yw,mem_range->Ww
open Classical renaming byContradiction->Zk
open Go.Lib renaming join->XQ,countByte->WY
namespace Go.Proofs.YtnkjliahpeebjaaGreatDoor
variable{x:Fu}(l:Z5 Rw)(fl cd d id a:Int)(b name g f:Z7)(D:Int->Int->(Z5 Ch × Int) × Int)(R:Int->Z5 Ch × Int)
def eW{σ ρ:Type}(S:σ->Z7->Z7->Except ρ σ):Z5 Rw->σ->Except ρ σ
 | [],s=>.ok s
 | x::r,s=>match S s x.2.1 x.2.2 with
   | .ok c=>eW S r c
   | .error e=>.error e
def nP{σ ρ:Type}:Except ρ σ->Except ρ (σ × Int)
 | .ok s=>.ok (s,0)
 | .error e=>.error e
theorem pG{σ ρ:Type}{S:σ->Z7->Z7->Except ρ σ}(l:Z5 Rw)(id fl cd:Int)(L:ZP)(z:fl<=0)(F:DstL l):∀ (f:Nat) (d:Int) (k:Z5 ZP) (s:σ),0<=d->cnt id k l<f->k≠[] ->
 (bS l id fl cd L S f d k s).1=nP (eW S (aft k (srt id L l)) s)
 | 0,_,_,_,_,h,_=>by omega
 | f+1,d,k,s,Q,X,U=>by
   have q:∀ x,x∈srt id L l↔x∈l/\cH id L x=ZZ:=fun x=>by
    have:=iV id L l l.length x;rwa [ZC (ZS _)] at this
   have J:ia (srt id L l):=by
    have:=mp id L l F l.length;rwa [ZC (ZS _)] at this
   have o:∀ x,cH id L x=ZZ↔x.1=id/\(aU x).head?=some L:=fun x=>by unfold cH;simp
   have H:=zd id k _ l rfl;rw[bS,Z0 (by omega)]
   cases G:nx id k l with
   | none =>
     rw[G] at H;simp only at H |-
     have e:aft k (srt id L l)=[]:=by
      unfold aft;rw[List.filter_eq_nil_iff];intro y t;have i:=(q y).1 t;rw[H y i.1 ((o y).1 i.2).1];simp
     rw[e];rfl
   | some x =>
     obtain⟨B,C,r⟩:=jP G;rw[G] at H;simp only at H |-
     have w:aU x≠[]:=by intro e;rw[show Z4 x.2.1=[] from e,lF] at r;cases r
     have v:(aU x).head?=some ((aU x).headD 0):=xb r
     have p:∀ y∈srt id L l,bB k (aU y)=ZZ->y=x\/bB (aU x) (aU y)=ZZ:=by
      intro y t m;have i:=(q y).1 t;have A:=((o y).1 i.2).1;have u:=H y i.1 A m;by_cases c:aU y=aU x
      .exact .inl (F.inj i.1 B (A.trans C.symm) c)
      .exact .inr (mV u c)
     by_cases j:L<(Z4 x.2.1).headD 0
     .rw[ZX j]
      have e:aft k (srt id L l)=[]:=by
       unfold aft;rw[List.filter_eq_nil_iff];intro y t m;have i:=((o y).1 ((q y).1 t).2).2;rcases p y t m with rfl|u
       .rw[v] at i;have:(aU y).headD 0=L:=by simpa using i
        rw[show Z4 y.2.1=aU y from rfl,this] at j;exact absurd j (UInt8.lt_irrefl _)
       .have O:=K8 u w;rw[xb m] at i;have P:(aU y).headD 0=L:=by simpa using i
        rw[P] at O;exact absurd j (by simpa using O)
      rw[e];rfl
     .rw[Z0 j];have T:cnt id (aU x) l<cnt id k l:=rI G;by_cases n:(Z4 x.2.1).headD 0<L
      .rw[ZX n]
       have e:aft k (srt id L l)=aft (aU x) (srt id L l):=by
        unfold aft;refine List.filter_congr fun y t=>?_
        have i:=((o y).1 ((q y).1 t).2).2;by_cases c:bB k (aU y)=ZZ
        .rw[c];rcases p y t c with rfl|u
         .rw[v] at i;have:(aU y).headD 0=L:=by simpa using i
          rw[show Z4 y.2.1=aU y from rfl,this] at n;exact absurd n (UInt8.lt_irrefl _)
         .exact u.symm
        .have I:bB k (aU y)=ZW:=by simpa using c
         rw[I];by_cases N:bB (aU x) (aU y)=ZZ
         .rw[ir r N] at I;cases I
         .exact (by simpa using N:bB (aU x) (aU y)=ZW).symm
       rw[e];exact pG l id fl cd L z F f (d+1) (aU x) s (by omega) (by omega) w
      .rw[Z0 n]
       have E:(aU x).headD 0=L:=by
        have i:¬ L<(aU x).headD 0:=j;have u:¬ (aU x).headD 0<L:=n;exact UInt8.le_antisymm (UInt8.not_lt.1 i) (UInt8.not_lt.1 u)
       have K:x∈srt id L l:=(q x).2 ⟨B,(o x).2 ⟨C,by rw[v,E]⟩⟩
       have e:=tq0 J K r fun y t m=>by
        rcases p y t m with rfl|u
        .exact iO _
        .exact oR u
       rw[e,eW]
       cases V:S s x.2.1 x.2.2 with
       | error e=>rfl
       | ok W=>exact pG l id fl cd L z F f (d+1) (aU x) W (by omega) (by omega) w
theorem Cg(l:Z5 Rw)(L:ZP)(c:L - 1<L):aft [L - 1,255] (srt id L l)=srt id L l:=by
 unfold aft;rw[List.filter_eq_self];intro y e;have h:=(iV id L l l.length y).1 (by rw[ZC (ZS _)];exact e);have H:=h.2;unfold cH at H;simp only[ZT,ZU] at H
 cases k:aU y with
 | nil=>rw[k] at H;simp at H
 | cons a r =>
   rw[k] at H;have:a=L:=by simpa using H.2
   subst this;exact decide_eq_true (by rw[Lib.compareBytes,ZX c];decide)
theorem l9{σ ρ:Type}{step:σ->Z7->Z7->Except ρ σ}(fl cd d:Int)(L:ZP)(c:L - 1<L)(h:fl<=0)(e:DstL l)(H:0<=d)(s:σ) :
 (bS l id fl cd L step (l.length+1) d [L - 1,255] s).1=nP (eW step (srt id L l) s):=by
 rw[pG l id fl cd L h e (l.length+1) d [L - 1,255] s H (by have:=cnt_le id [L - 1,255] l;omega) (by simp),Cg id l L c]
/-! aliases -/
theorem o9(name:Z7):∀ (S:Z5 Rw) (o:Z5 Fu),eH name S o=match eW (dC name) S o with
  | .ok s=>(s,0)
  | .error e=>([],e)
 | [],o=>rfl
 | x::S,o=>by
   rw[eH,eW];unfold dC;by_cases h:(bw x.2.1 x.2.2).2≠0
   .rw[ZX h,ZX h]
   .rw[Z0 h,Z0 h];by_cases H:(bw x.2.1 x.2.2).1.1.target=name
    .rw[ZX H,ZX H];exact o9 name S _
    .rw[Z0 H,Z0 H];exact o9 name S _
theorem v7(j:fl<=0)(H:0<=d)(i:DstL l):(cU l fl cd d id name).1=cW l id name:=by
 have h:=l9 (step:=dC name) l id fl cd d 65 (by decide) j i H [];unfold cU cW;rw[o9]
 cases r:bS l id fl cd 65 (dC name) (l.length+1) d [(65:ZP) - 1,255] [] with
 | mk a c =>
   rw[r] at h;dsimp only at h;subst h
   cases eW (dC name) (srt id 65 l) [] with
   | ok s=>rfl
   | error e=>rfl
/-! generations -/
theorem pP(g:Z7):∀ (S:Z5 Rw) (o:Z5 Int),eW (fw g) S o=.ok (gW g S o)
 | [],o=>rfl
 | x::S,o=>by
   rw[gW,eW];unfold fw;by_cases h:(XZ (Z4 (aN x.2.1))=ZZ/\dK (aN x.2.1)=g)/\x.2.1=aC 0 (aN x.2.1)
   .rw[ZX h,ZX h];exact pP g S _
   .rw[Z0 h,Z0 h];exact pP g S _
theorem EU(i:fl<=0)(H:0<=d)(e:DstL l):(ff l fl cd d id g).1=(jj l id g,0):=by
 have h:=l9 (step:=fw g) l id fl cd d 68 (by decide) i e H [];rw[pP] at h;unfold ff jj
 cases r:bS l id fl cd 68 (fw g) (l.length+1) d [(68:ZP) - 1,255] [] with
 | mk a c =>
   rw[r] at h;dsimp only at h;subst h;rfl
/-! names below a prefix -/
theorem xI(p:Z7):∀ (S:Z5 Rw) (s:Bool),eW (fO p) S s=.ok (s || S.any (fun x=>dm p (aN x.2.1)))
 | [],s=>by rw[eW,List.any_nil,Bool.or_false]
 | x::S,s=>by
   rw[eW];unfold fO;dsimp only;rw[List.any_cons,<-Bool.or_assoc];exact xI p S _
theorem qB(d:Int)(p:Z7)(L:ZP)(e:L - 1<L)(j:fl<=0)(H:0<=d)(i:DstL l):(dZ l fl cd id p L d).1=((srt id L l).any (fun x=>dm p (aN x.2.1)),0):=by
 have h:=l9 (step:=fO p) l id fl cd d L e j i H ZW;rw[xI,Bool.false_or] at h;unfold dZ
 cases r:bS l id fl cd L (fO p) (l.length+1) d [L - 1,255] ZW with
 | mk a c =>
   rw[r] at h;dsimp only at h;subst h;rfl
theorem xW(d:Int)(p:Z7)(L:ZP)(i:0<=d):0<=(dZ l fl cd id p L d).2:=by
 have h:=ja (step:=fO p) (l:=l) (id:=id) (fl:=fl) (cd:=cd) (L:=L) (l.length+1) d [L - 1,255] ZW;unfold dZ
 cases H:bS l id fl cd L (fO p) (l.length+1) d [L - 1,255] ZW with
 | mk a c =>
   rw[H] at h
   cases a with
   | error e=>unfold ji;dsimp only at h |-;omega
   | ok q=>unfold ji;dsimp only at h |-;omega
theorem qb(L:ZP)(l:Z5 Rw)(f:Rw->Bool):(srt id L l).any f=l.any (fun x=>cH id L x&&f x):=by
 rw[Zf,List.any_eq_true,List.any_eq_true]
 have H:∀ x,x∈srt id L l↔x∈l/\cH id L x=ZZ:=fun x=>by
  have:=iV id L l l.length x;rwa [ZC (ZS _)] at this
 constructor
 .rintro ⟨x,c,h⟩;exact⟨x,((H x).1 c).1,by rw[((H x).1 c).2,h];rfl⟩
 .rintro ⟨x,c,h⟩;rw[ZT] at h;exact⟨x,(H x).2 ⟨c,h.1⟩,h.2⟩
theorem jn1(a:Z5 ZP):XQ [a] [46]=a:=by simp [XQ,List.intercalate]
theorem EJ(p n:Z7)(z:dy p=ZZ):Ds.match_ (Z4 (p++⟨#[46,42,42]⟩)) (Z4 n)=dm p n:=by
 have K:Z4 (p++⟨#[46,42,42]⟩)=Z4 p++[46,42,42]:=by unfold Z4;simp
 rw[K];unfold dy at z;rw[ZT,ZU] at z;obtain⟨o,N⟩:=z;have C:=(Ds.name_parts _).1 o
 have i:(Z4 p).length<=28:=by
  have hc:(Z4 p).count 46<2:=by unfold WY at N;unfold Z4;omega
  have j:=Ds.pieces_len (Z4 p);have m:=WU (Z4 p);rw[<-m];have Q:∀ q∈Y1 (Z4 p),q.length<=8:=fun q G=>Ds.qual_le _ _ _ (C.2 q G)
  generalize Y1 (Z4 p)=P at j Q;rcases P with _|⟨a,_|⟨b,_|⟨c,r⟩⟩⟩
  .simp [XQ]
  .have:=Q a (by simp);rw[jn1];omega
  .have Y:=Q a (by simp);have Z:=Q b (by simp);rw[Ds.join_cons2];rw[jn1];simp only[ZQ,Yw];omega
  .simp only[ZK] at j;omega
 unfold dm;cases H:Zj (Z4 n)
 .rw[Bool.false_and];rw[Bool.eq_false_iff];intro h;have:=((Ds.match_parts _ _).1 h).2.1;rw[H] at this;cases this
 rw[Yj,Ds.match_below _ _ (Ds.name_pat _ o) i H,Zf,List.any_eq_true,Yh,ZU];have U:=(Ds.name_parts _).1 H;have w:=WU (Z4 n);constructor
 .rintro ⟨k,T,h⟩;rw[Ww] at T;obtain⟨s,F⟩:=Ds.first_take (Z4 n) (k+1) H (by omega);have L:((k:Int)+1)=((k+1:Nat):Int):=by omega
  rw[L,Ds.match_self _ _ o s,ZU] at h;rw[<-h] at F;by_cases G:k+1=(Y1 (Z4 n)).length
  .refine .inl (Ds.bl_inj ?_)
   rw[G,Ds.first_all _ H] at h;exact h.symm
  .refine .inr ?_
   have E:Z4 n=Z4 p++46::XQ ((Y1 (Z4 n)).drop (k+1)) [46]:=by
    conv=>lhs;rw[<-w,<-List.take_append_drop (k+1) (Y1 (Z4 n)),<-F]
    have y:(Y1 (Z4 n)).drop (k+1)≠[]:=by
     intro e;rw[List.drop_eq_nil_iff] at e;omega
    have v:∀ (A B:Z5 (Z5 ZP)),A≠[]->B≠[]->XQ (A++B) [46]=XQ A [46]++46::XQ B [46]:=by
     intro A B O S
     induction A with
     | nil=>exact absurd rfl O
     | cons a A W =>
       cases A with
       | nil =>
         cases B with
         | nil=>exact absurd rfl S
         | cons b B=>rw[List.singleton_append,Ds.join_cons2,jn1];simp
       | cons X A =>
         rw[Zm,Zm,Ds.join_cons2,<-Zm,W (by simp),Ds.join_cons2];simp
    rw[v _ _ (Ds.pieces_ne _) y,WU]
   show Lib.hasPrefix (Z4 n) (Z4 p++[46])=ZZ
   rw[E];unfold Lib.hasPrefix;rw[List.isPrefixOf_iff_prefix];exact⟨XQ ((Y1 (Z4 n)).drop (k+1)) [46],by simp⟩
 .rintro (h|h)
  .subst h;have J:0<(Y1 (Z4 n)).length:=List.length_pos_iff.2 (Ds.pieces_ne _);refine⟨(Y1 (Z4 n)).length - 1,by simp;omega,?_⟩
   rw[show (((Y1 (Z4 n)).length - 1:Nat):Int)+1=((Y1 (Z4 n)).length:Int) by omega,Ds.first_all _ H,Ds.match_self _ _ H H];simp
  .have u:Lib.hasPrefix (Z4 n) (Z4 p++[46])=ZZ:=h;unfold Lib.hasPrefix at u;rw[List.isPrefixOf_iff_prefix] at u;obtain⟨t,V⟩:=u;have E:Z4 n=Z4 p++46::t:=by rw[<-V];simp
   have I:Y1 (Z4 n)=Y1 (Z4 p)++Y1 t:=by rw[E,Ds.pieces_dot]
   have J:0<(Y1 (Z4 p)).length:=List.length_pos_iff.2 (Ds.pieces_ne _);refine⟨(Y1 (Z4 p)).length - 1,?_,?_⟩
   .rw[Ww,I,ZQ];omega
   .obtain⟨s,F⟩:=Ds.first_take (Z4 n) (Y1 (Z4 p)).length H J;rw[show (((Y1 (Z4 p)).length - 1:Nat):Int)+1=((Y1 (Z4 p)).length:Int) by omega,Ds.match_self _ _ o s,ZU];rw[I,List.take_left' rfl] at F;have m:=WU (Ds.first ((Y1 (Z4 p)).length:Int) (Z4 n));rw[F,WU] at m;exact m
theorem xL(p:Z7)(k:fl<=0)(m:0<=d)(j:DstL l)(s:dy p=ZZ):(ep l fl cd d id p).1=if fI l id p=ZZ then 9 else 0:=by
 have Q:=qB l fl cd id d p 68 (by decide) k m j;have C:=xW l fl cd id d p 68 m;have t:=qB l fl cd id _ p 71 (by decide) k C j;have o:=xW l fl cd id _ p 71 C;have u:=qB l fl cd id _ p 65 (by decide) k o j;unfold ep;rw[iL,iL,iL,iL,Q,t,u];dsimp only;rw[qb,qb,qb]
 have e:fI l id p=(l.any (fun x=>cH id 68 x&&dm p (aN x.2.1)) || (l.any (fun x=>cH id 71 x&&dm p (aN x.2.1)) || l.any (fun x=>cH id 65 x&&dm p (aN x.2.1)))):=by
  unfold fI;rw[Zf,Yh,Yh,List.any_eq_true,List.any_eq_true,List.any_eq_true,List.any_eq_true]
  have i:∀ x:Rw,iw id p x=((cH id 68 x&&dm p (aN x.2.1)) || ((cH id 71 x&&dm p (aN x.2.1)) || (cH id 65 x&&dm p (aN x.2.1)))):=fun x=>by
   unfold iw cH aU;rw[EJ p _ s]
   have e:∀ c:ZP,c≠0->decide ((Z4 x.2.1).headD 0=c)=decide ((Z4 x.2.1).head?=some c):=fun c q=>by
    cases Z4 x.2.1 with
    | nil=>simp [Ne.symm q]
    | cons a r=>simp
   rw[e 68 (by decide),e 71 (by decide),e 65 (by decide)];cases decide (x.1=id) <;> cases decide ((Z4 x.2.1).head?=some 68) <;> cases decide ((Z4 x.2.1).head?=some 71) <;> cases decide ((Z4 x.2.1).head?=some 65) <;> cases dm p (aN x.2.1) <;> rfl
  constructor
  .rintro ⟨x,H,n⟩;rw[i x,Yh,Yh] at n;rcases n with h|h|h
   .exact .inl ⟨x,H,h⟩
   .exact .inr (.inl ⟨x,H,h⟩)
   .exact .inr (.inr ⟨x,H,h⟩)
  .rintro (⟨x,H,h⟩|⟨x,H,h⟩|⟨x,H,h⟩)
   .exact⟨x,H,by rw[i x,h];simp⟩
   .exact⟨x,H,by rw[i x,h];simp⟩
   .exact⟨x,H,by rw[i x,h];simp⟩
 rw[e];cases l.any (fun x=>cH id 68 x&&dm p (aN x.2.1)) <;> cases l.any (fun x=>cH id 71 x&&dm p (aN x.2.1)) <;> cases l.any (fun x=>cH id 65 x&&dm p (aN x.2.1)) <;> rfl
theorem pD{l:Z5 Rw}{id a:Int}{name:Z7}(h:(bz l id a name).2=0):(0<=a/\a<=4)/\aA (bz l id a name).1=ZZ/\aC (bz l id a name).1.1.kind (bz l id a name).1.1.name=aC a name:=by
 unfold bz aG at h |-;by_cases c:aC a name=⟨#[]⟩
 .rw[ZX c] at h;exact absurd (show (1:Int)=0 from h) (by decide)
 rw[Z0 c,Z0 (by decide)] at h |-;refine⟨?_,?_⟩
 .by_cases H:Ek.isKind a=ZZ
  .unfold Ek.isKind at H;simpa using H
  .exfalso
   refine c ?_
   unfold aC Ek.key;rw[Z0 (fun q=>H q.1)]
 .cases i:bZ id (aC a name) l with
  | none=>rw[i] at h;exact absurd (show (6:Int)=0 from h) (by decide)
  | some s =>
    rw[i] at h;dsimp only at h |-;obtain⟨j,H⟩:=lw (k:=aC a name) (r:=s) (fun q=>q h);refine⟨j,?_⟩
    have e:aC (bw (aC a name) s).1.1.kind (bw (aC a name) s).1.1.name=⟨(dL (bw (aC a name) s).1).toArray⟩:=rfl;rw[e,H,Ds.mk_bl]
theorem oP(name:Z7):∀ (S:Z5 Rw) (o:Z5 Fu),(eH name S o).1.length<=o.length+S.length
 | [],o=>ZS _
 | x::S,o=>by
   rw[eH,ZK];split
   .exact Nat.zero_le _
   .split
    .have:=oP name S (o++[(bw x.2.1 x.2.2).1]);rw[ZQ,Yw] at this;omega
    .have:=oP name S o;omega
theorem mv:(cW l id name).1.length<=l.length:=by
 have h:=oP name (srt id 65 l) [];have H:=qy id 65 l;unfold cW;rw[List.length_nil] at h;omega
def gX(l:Z5 Rw)(id a:Int)(name:Z7):Z5 Ch × Int :=
 if (bz l id a name).2≠0 then ([],(bz l id a name).2)
 else if a=1/\jj l id name≠[] then ([],9)
 else if a<=1 then (if (cW l id name).2≠0 then ([],(cW l id name).2) else ((cW l id name).1.map (bJ id)++[bJ id (bz l id a name).1],0))
 else ([bJ id (bz l id a name).1],0)
theorem Mk(i:fl<=0)(o:0<=d)(m:DstL l):(ip l fl cd d id a name).1=gX l id a name:=by
 have e:=iz l fl cd d id a name i o;have c:=(dS l fl cd d id a name).1;have r:=@pD l id a name;unfold ip gX;rw[e];have C:0<=(aG l fl cd d id a name).2:=by omega
 generalize (aG l fl cd d id a name).2=j at C |-;by_cases h:(bz l id a name).2≠0
 .rw[ZX h,ZX h]
 rw[Z0 h,Z0 h];obtain⟨⟨s,-⟩,-⟩:=r (Zk fun q=>h q)
 have T:∀ x c,0<=c->(je l fl cd id a name x c).1=if a<=1 then (if (cW l id name).2≠0 then ([],(cW l id name).2) else ((cW l id name).1.map (bJ id)++[bJ id x],0)) else ([bJ id x],0):=fun x c p=>by
  have E:=v7 l fl cd c id name i p m;unfold je;rw[E];by_cases k:a<=1
  .rw[ZX k,ZX (by omega)];by_cases H:(cW l id name).2≠0
   .rw[ZX H,ZX H]
   .rw[Z0 H,Z0 H]
  .rw[Z0 k,Z0 (by omega)]
 by_cases k1:a=1
 .have eg:=EU l fl cd j id name i C m;have t:=(wP l fl cd j id name).1;rw[ZX k1,eg,Z0 (fun q=>q rfl)];by_cases n:jj l id name≠[]
  .rw[ZX n,ZX ⟨k1,n⟩]
  .rw[Z0 n,Z0 (fun q=>n q.2),T _ _ (by omega)]
 .rw[Z0 k1,Z0 (fun q=>k1 q.1),T _ _ C]
def gu(l:Z5 Rw)(id:Int)(name f:Z7):Z5 Ch × Int :=
 if Zj (Z4 f)=ZW then ([],1)
 else if (bz l id 0 name).2≠0 then ([],(bz l id 0 name).2)
 else if XZ (Z4 name)=ZZ\/XZ (Z4 f)=ZZ then ([],7)
 else if cE (dx l id f).2≠0 then ([],cE (dx l id f).2)
 else if (cW l id name).2≠0 then ([],(cW l id name).2)
 else (jO id (bz l id 0 name).1 f (cW l id name).1,0)
theorem Ml(m:fl<=0)(r:0<=d)(s:DstL l):(gz l fl cd d id name f).1=gu l id name f:=by
 have e:=iz l fl cd d id 0 name m r;have c:=(dS l fl cd d id 0 name).1;unfold gz gu;rw[e];have n:0<=(aG l fl cd d id 0 name).2:=by omega
 generalize (aG l fl cd d id 0 name).2=C at n |-;have E:=kh l fl cd C id f m n;have o:0<=(bY l fl cd C id f).2:=by have:=(jq l fl cd C id f).1;omega
 rw[E];generalize (bY l fl cd C id f).2=p at o |-;have q:=v7 l fl cd p id name m o s;rw[q];by_cases h:Zj (Z4 f)=ZW
 .rw[ZX h,ZX h]
 rw[Z0 h,Z0 h];by_cases H:(bz l id 0 name).2≠0
 .rw[ZX H,ZX H]
 rw[Z0 H,Z0 H];by_cases i:XZ (Z4 name)=ZZ\/XZ (Z4 f)=ZZ
 .rw[ZX i,ZX i]
 rw[Z0 i,Z0 i];by_cases j:cE (dx l id f).2≠0
 .rw[ZX j,ZX j]
 rw[Z0 j,Z0 j];by_cases k:(cW l id name).2≠0
 .rw[ZX k,ZX k]
 rw[Z0 k,Z0 k]
/-! chapter 36 -/
theorem mR(j:fl<=0)(H:0<=d)(i:∀ id c,0<=c->(D id c).1=R id) :
 (eF l fl cd d name D).1=if (cj l name).2≠0 then ([],(cj l name).2) else R (cj l name).1:=by
 obtain⟨e,c⟩:=ox l fl cd d name j H;unfold eF;rw[e];by_cases h:(cj l name).2≠0
 .rw[ZX h,ZX h]
 .rw[Z0 h,Z0 h,i _ _ c]
theorem we(i:fl<=0)(H:0<=d)(k:¬ (a<0\/4<a\/a=3))(e:∀ id c,0<=c->(D id c).1=R id) :
 (iJ l fl cd d a name D).1=if (dp l a name).2≠0 then ([],(dp l a name).2) else R (dp l a name).1:=by
 unfold iJ dp;rw[Z0 k];by_cases h:a=4
 .rw[ZX h,ZX h,Z0 (by decide),e _ _ H]
 .rw[Z0 h,Z0 h,mR l fl cd d name D R i H e]
theorem xq{l:Z5 Rw}{a:Int}{name:Z7}(h:a<0\/4<a\/a=3):dp l a name=(0,1):=by unfold dp;rw[ZX h]
theorem pH(h:aA x=ZZ):0<=x.1.kind/\x.1.kind<=4:=by
 unfold aA at h;by_cases k0:x.1.kind=0
 .omega
 by_cases k1:x.1.kind=1
 .omega
 by_cases k:x.1.kind=2
 .omega
 by_cases K:x.1.kind=3
 .omega
 by_cases c:x.1.kind=4
 .omega
 rw[Z0 k0,Z0 k1,Z0 k,Z0 K,Z0 c] at h;cases h
theorem Eq(x:Fu)(e:fl<=0)(i:0<=d):(jS l fl cd d x).1=jg l x:=by
 unfold jS jg;by_cases h:aA x=ZZ
 rotate_left
 .rw[Z0 (fun q=>h q.1),Z0 h]
 have r:=pH h;rw[ZX h];by_cases H:x.1.kind=3
 .rw[Z0 (fun q=>q.2 H),xq (.inr (.inr H)),ZX (by decide)]
 .rw[ZX ⟨h,H⟩];exact we l fl cd d _ _ _ (fun id=>iK l id x) e i (by omega) (fun id c j=>FO l fl cd c id x e j)
def jb(l:Z5 Rw)(a:Int)(name:Z7):Z5 Ch × Int :=
 if (dp l a name).2≠0 then ([],(dp l a name).2) else gX l (dp l a name).1 a name
theorem EH(H:fl<=0)(e:0<=d)(j:DstL l):(jT l fl cd d a name).1=jb l a name:=by
 unfold jT jb;by_cases h:a<0\/4<a\/a=3
 .rw[ZX h,xq h,ZX (by decide)]
 .rw[Z0 h];exact we l fl cd d _ _ _ (fun id=>gX l id a name) H e h (fun id c i=>Mk l fl cd c id a name H i j)
def jd(l:Z5 Rw)(name f:Z7):Z5 Ch × Int :=
 if Zj (Z4 name)=ZW\/Zj (Z4 f)=ZW then ([],1)
 else if (cj l name).2≠0 then ([],(cj l name).2)
 else if (cj l f).2≠0 then ([],(cj l f).2)
 else if (cj l name).1≠(cj l f).1 then ([],9)
 else gu l (cj l name).1 name f
theorem EI(j:fl<=0)(k:0<=d)(n:DstL l):(kB l fl cd d name f).1=jd l name f:=by
 unfold kB jd;by_cases H:Zj (Z4 name)=ZW\/Zj (Z4 f)=ZW
 .rw[ZX H,ZX H]
 rw[Z0 H,Z0 H];refine mR l fl cd d name _ (fun id=>if (cj l f).2≠0 then ([],(cj l f).2) else if id≠(cj l f).1 then ([],9) else gu l id name f) j k fun id c m=>?_
 refine mR l fl cd c f _ (fun i=>if id≠i then ([],9) else gu l id name f) j m fun i C e=>?_
 by_cases h:id≠i
 .rw[ZX h,ZX h]
 .rw[Z0 h,Z0 h,Ml l fl cd C id name f j e n]
theorem vD{b:Z7}{id:Int}(h:dy b=ZZ)(e:2<=id)(i:id<=15):aA (di b id)=ZZ:=by
 unfold dy at h;rw[ZT,ZU] at h;obtain⟨n,H⟩:=h;have c:(Z4 b).count 46<2:=by unfold WY at H;unfold Z4;omega
 have j:=Ds.pieces_len (Z4 b);unfold aA di;rw[Z0 (show ¬ ((3:Int)=0) by decide),Z0 (show ¬ ((3:Int)=1) by decide),Z0 (show ¬ ((3:Int)=2) by decide),ZX (show (3:Int)=3 from rfl)];unfold fK;rw[ZT,ZT];refine⟨⟨?_,?_⟩,(dV _ _ _ _ _ _).2 ⟨rfl,rfl,rfl⟩⟩
 .unfold Vp.nameC;simp only[n,Yj,ZU]
  omega
 .unfold Vp.cat Vp.rng;simp
  omega
def jf(l:Z5 Rw)(b:Z7)(id:Int):Z5 Ch × Int :=
 if dy b=ZW\/id<2\/15<id then ([],1)
 else if (bz l 1 3 b).2=0 then ([],5)
 else if (bz l 1 3 b).2≠6 then ([],(bz l 1 3 b).2)
 else if (cj l b).2≠0 then ([],(cj l b).2)
 else if fI l (cj l b).1 b=ZZ then ([],9)
 else ([bI 1 (di b id)],0)
theorem wf(id:Int)(j:fl<=0)(n:0<=d)(r:DstL l):(kE l fl cd d b id).1=jf l b id:=by
 have e:=iz l fl cd d 1 3 b j n;have c:=(dS l fl cd d 1 3 b).1;unfold kE jf;rw[e];have C:0<=(aG l fl cd d 1 3 b).2:=by omega
 generalize (aG l fl cd d 1 3 b).2=m at C |-;by_cases h:dy b=ZW\/id<2\/15<id
 .rw[ZX h,ZX h]
 rw[Z0 h,Z0 h]
 have p:dy b=ZZ:=by
  cases s:dy b
  .exact absurd (.inl s) h
  .rfl
 have k:=vD (id:=id) p (by omega) (by omega);by_cases H:(bz l 1 3 b).2=0
 .rw[ZX H,ZX H]
 rw[Z0 H,Z0 H];by_cases i:(bz l 1 3 b).2≠6
 .rw[ZX i,ZX i]
 rw[Z0 i,Z0 i];refine mR l fl cd m b _ (fun o=>if fI l o b=ZZ then ([],9) else ([bI 1 (di b id)],0)) j C fun o c q=>?_
 have E:=xL l fl cd c o b j q r p;unfold con1F;rw[E,k];cases fI l o b
 .rfl
 .rfl
def jh(l:Z5 Rw)(b:Z7):Z5 Ch × Int :=
 if dy b=ZW then ([],1)
 else if (bz l 1 3 b).2≠0 then ([],(bz l 1 3 b).2)
 else if fI l (bz l 1 3 b).1.1.cat b=ZZ then ([],9)
 else ([(1,1,aC 3 b,⟨#[]⟩,⟨#[]⟩)],0)
theorem wi(H:fl<=0)(j:0<=d)(k:DstL l):(kG l fl cd d b).1=jh l b:=by
 have e:=iz l fl cd d 1 3 b H j;have c:=(dS l fl cd d 1 3 b).1;unfold kG jh;rw[e];have C:0<=(aG l fl cd d 1 3 b).2:=by omega
 generalize (aG l fl cd d 1 3 b).2=i at C |-;cases p:dy b
 .rw[ZX rfl,ZX rfl]
 rw[Z0 (show ¬ (ZZ=ZW) by decide),Z0 (show ¬ (ZZ=ZW) by decide)];by_cases h:(bz l 1 3 b).2≠0
 .rw[ZX h,ZX h]
 rw[Z0 h,Z0 h];have m:=(pD (Zk fun q=>h q)).2.2;have E:=xL l fl cd i (bz l 1 3 b).1.1.cat b H C k p;rw[E];cases fI l (bz l 1 3 b).1.1.cat b
 .unfold bJ;rw[m];rfl
 .rfl
theorem Eg{f:Z7}(h:aA x=ZZ)(k:x.1.kind=0)(n:Zj (Z4 f)=ZZ):aA (dz x f)=ZZ:=by
 obtain⟨e,L,G⟩:=x;unfold aA dz at *;dsimp only at *;rw[ZX k] at h |-;unfold fL at *;dsimp only;rw[ZT,ZT] at h |-;obtain⟨⟨-,H⟩,i⟩:=h;refine⟨⟨n,H⟩,?_⟩
 obtain⟨E,j,c⟩:=(dV _ _ _ _ _ _).1 i;refine (dV _ _ _ _ _ _).2 ⟨?_,rfl,c⟩
 have:=congrArg (fun z:En=>{ z with name:=f }) E;exact this
theorem Eh{f:Z7}(h:aA x=ZZ)(m:x.1.kind=2)(n:Zj (Z4 f)=ZZ)(H:f≠x.1.name):aA (bT x f)=ZZ:=by
 obtain⟨e,L,G⟩:=x;unfold aA bT at *;dsimp only at *;rw[Z0 (by omega),Z0 (by omega),ZX m] at h |-;unfold eY at *;dsimp only;rw[ZT,ZT] at h |-;obtain⟨⟨j,-⟩,k⟩:=h;obtain⟨E,c,i⟩:=(dV _ _ _ _ _ _).1 k;refine⟨⟨j,?_⟩,(dV _ _ _ _ _ _).2 ⟨?_,c,i⟩⟩
 .unfold Vp.ali;dsimp only;rw[n,fd,decide_eq_false H];rfl
 .have:=congrArg (fun z:En=>{ z with target:=f }) E;exact this
theorem oO(name:Z7)(P:Fu->Prop):∀ (S:Z5 Rw) (o:Z5 Fu),(∀ a∈o,P a)->(∀ x∈S,(bw x.2.1 x.2.2).2=0->P (bw x.2.1 x.2.2).1)->∀ a∈(eH name S o).1,P a
 | [],o,h,_=>h
 | x::S,o,h,c=>by
   rw[eH];by_cases H:(bw x.2.1 x.2.2).2≠0
   .rw[ZX H];intro a ha;cases ha
   .rw[Z0 H];have j:=c x (by simp) (Zk fun q=>H q);by_cases i:(bw x.2.1 x.2.2).1.1.target=name
    .rw[ZX i];refine oO name P S _ (fun a ha=>?_) (fun y e=>c y (by simp [e]))
     rcases List.mem_append.1 ha with ha|ha
     .exact h a ha
     .rw[List.mem_singleton] at ha;rw[ha];exact j
    .rw[Z0 i];exact oO name P S _ h (fun y e=>c y (by simp [e]))
theorem Ar{k:Int}(h:Ek.letter k=65):k=2:=by
 unfold Ek.letter at h
 (repeat' split at h) <;> first|assumption|(exact absurd h (by decide))
theorem uo:∀ a∈(cW l id name).1,aA a=ZZ/\a.1.kind=2/\∃ x∈l,x.1=id/\x.2.1=aC 2 a.1.name:=by
 unfold cW;refine oO name (fun a=>aA a=ZZ/\a.1.kind=2/\∃ x∈l,x.1=id/\x.2.1=aC 2 a.1.name) (srt id 65 l) [] (fun a ha=>by cases ha) fun x n j=>?_
 obtain⟨m,H⟩:=uX n;obtain⟨i,Q⟩:=lw (k:=x.2.1) (r:=x.2.2) (fun q=>q j);generalize (bw x.2.1 x.2.2).1=y at i Q |-;unfold cH at H;simp only[ZT,ZU] at H
 have c:y.1.kind=2:=by
  have h:=H.2;rw[show aU x=Z4 x.2.1 from rfl,<-Q] at h;unfold dL Ek.key at h;split at h
  .exact Ar (by simpa using h)
  .simp at h
 refine⟨i,c,x,m,H.1,?_⟩
 have e:aC 2 y.1.name=⟨(dL y).toArray⟩:=by unfold aC dL;rw[c]
 rw[e,Q,Ds.mk_bl]
theorem sL{id:Int}{key:Z7}:∀ {l:Z5 Rw},bZ id key l=none->∀ x∈l,¬ (x.1=id/\x.2.1=key)
 | [],_,x,H=>by cases H
 | y::l,h,x,H=>by
   rw[bZ] at h;split at h
   .cases h
   .rename_i c;rcases List.mem_cons.1 H with rfl|H
    .exact c
    .exact sL h x H
theorem sU{l:Z5 Rw}{id a:Int}{name:Z7}(h:(bz l id a name).2=6):bZ id (aC a name) l=none:=by
 unfold bz aG at h;by_cases H:aC a name=⟨#[]⟩
 .rw[ZX H] at h;exact absurd (show (1:Int)=6 from h) (by decide)
 rw[Z0 H,Z0 (by decide)] at h
 cases r:bZ id (aC a name) l with
 | none=>rfl
 | some s =>
   rw[r] at h;exfalso
   dsimp only at h;unfold bw at h;split at h
   .exact absurd (show (11:Int)=6 from h) (by decide)
   .split at h
    .exact absurd (show (0:Int)=6 from h) (by decide)
    .exact absurd (show (11:Int)=6 from h) (by decide)
section
open Go.RowKit
set_option linter.unusedSimpArgs false
attribute [local go_sem ↓] aZ fb bf bq cl eX
attribute [local go_sem] bn aS aH bE bH aK aT ak aI aw az aM ah aQ aL aP aO aR aY aW bD ap aq
end
end Go.Proofs.YtnkjliahpeebjaaGreatDoor
