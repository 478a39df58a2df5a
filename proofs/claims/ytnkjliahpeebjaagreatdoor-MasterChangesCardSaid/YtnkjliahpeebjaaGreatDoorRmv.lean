/- Catalogs. -/
import Derived.Test.YtnkjliahpeebjaaGreatDoorMz
set_option maxRecDepth 8000
set_option maxHeartbeats 16000000
open Option renaming some->Z9,none->Z7
open _root_ renaming ByteArray->Z6,List->Z3,if_neg->ZX,decide_eq_true_eq->ZW,if_pos->ZT,beq_eq_false_iff_ne->ZS,UInt8->ZP,decide_eq_true->ZO,decide_eq_false->ZN,beq_iff_eq->Zb,congrArg->Y8
open Go.Proofs.YtnkjliahpeebjaaGreatDoor.Ds renaming bl->Z5,name->Y3,pieces->YM,gen->Xp,join_pieces->VZ
open Bool renaming false->Z2,true->ZZ,and_eq_true->ZQ,eq_iff_iff->Zr,true_and->Zf,or_eq_true->Ye
open Nat renaming le_refl->ZV,zero_le->Zc
open List renaming length_append->ZM,take_of_length_le->ZD,length_cons->Zx,length_map->Zt,cons_append->Zp,length_singleton->YE,getElem?_map->Yg,mem_range->Wp
open Go.Lib renaming join->Ys,countByte->Wr
open Classical renaming byContradiction->XM
namespace Go.Proofs.YtnkjliahpeebjaaGreatDoor
variable(W:World){x:Fu}(l:Z3 Rw)(fl cd d id a:Int)(g name f b:Z6)(D:Int->Int->(Z3 Ch × Int) × Int)(R:Int->Z3 Ch × Int)
def gy{σ ρ:Type}(S:σ->Z6->Z6->Except ρ σ):Z3 Rw->σ->Except ρ σ
 | [],s=>.ok s
 | x::r,s=>match S s x.2.1 x.2.2 with
   | .ok c=>gy S r c
   | .error e=>.error e
def kM{σ ρ:Type}:Except ρ σ->Except ρ (σ × Int)
 | .ok s=>.ok (s,0)
 | .error e=>.error e
theorem o9{σ ρ:Type}{S:σ->Z6->Z6->Except ρ σ}(l:Z3 Rw)(id fl cd:Int)(L:ZP)(z:fl<=0)(F:DstL l):∀ (f:Nat) (d:Int) (k:Z3 ZP) (s:σ),0<=d->cnt id k l<f->k≠[] ->
 (bS l id fl cd L S f d k s).1=kM (gy S (aft k (srt id L l)) s)
 | 0,_,_,_,_,h,_=>by omega
 | f+1,d,k,s,Q,Y,U=>by
   have q:∀ x,x∈srt id L l↔x∈l/\cH id L x=ZZ:=fun x=>by
    have:=iV id L l l.length x;rwa [ZD (ZV _)] at this
   have J:ip (srt id L l):=by
    have:=mR id L l F l.length;rwa [ZD (ZV _)] at this
   have o:∀ x,cH id L x=ZZ↔x.1=id/\(aU x).head?=Z9 L:=fun x=>by unfold cH;simp
   have H:=wf id k _ l rfl;rw[bS,ZX (by omega)]
   cases G:nx id k l with
   | none =>
     rw[G] at H;simp only at H |-
     have e:aft k (srt id L l)=[]:=by
      unfold aft;rw[List.filter_eq_nil_iff];intro y t;have i:=(q y).1 t;rw[H y i.1 ((o y).1 i.2).1];simp
     rw[e];rfl
   | some x =>
     obtain⟨B,C,r⟩:=mF G;rw[G] at H;simp only at H |-
     have w:aU x≠[]:=by intro e;rw[show Z5 x.2.1=[] from e,lG] at r;cases r
     have v:(aU x).head?=Z9 ((aU x).headD 0):=uR r
     have p:∀ y∈srt id L l,bB k (aU y)=ZZ->y=x\/bB (aU x) (aU y)=ZZ:=by
      intro y t m;have i:=(q y).1 t;have A:=((o y).1 i.2).1;have u:=H y i.1 A m;by_cases c:aU y=aU x
      .exact .inl (F.inj i.1 B (A.trans C.symm) c)
      .exact .inr (qk u c)
     by_cases j:L<(Z5 x.2.1).headD 0
     .rw[ZT j]
      have e:aft k (srt id L l)=[]:=by
       unfold aft;rw[List.filter_eq_nil_iff];intro y t m;have i:=((o y).1 ((q y).1 t).2).2;rcases p y t m with rfl|u
       .rw[v] at i;have:(aU y).headD 0=L:=by simpa using i
        rw[show Z5 y.2.1=aU y from rfl,this] at j;exact absurd j (UInt8.lt_irrefl _)
       .have O:=Hp u w;rw[uR m] at i;have P:(aU y).headD 0=L:=by simpa using i
        rw[P] at O;exact absurd j (by simpa using O)
      rw[e];rfl
     .rw[ZX j];have T:cnt id (aU x) l<cnt id k l:=p6 G;by_cases n:(Z5 x.2.1).headD 0<L
      .rw[ZT n]
       have e:aft k (srt id L l)=aft (aU x) (srt id L l):=by
        unfold aft;refine List.filter_congr fun y t=>?_
        have i:=((o y).1 ((q y).1 t).2).2;by_cases c:bB k (aU y)=ZZ
        .rw[c];rcases p y t c with rfl|u
         .rw[v] at i;have:(aU y).headD 0=L:=by simpa using i
          rw[show Z5 y.2.1=aU y from rfl,this] at n;exact absurd n (UInt8.lt_irrefl _)
         .exact u.symm
        .have I:bB k (aU y)=Z2:=by simpa using c
         rw[I];by_cases N:bB (aU x) (aU y)=ZZ
         .rw[la r N] at I;cases I
         .exact (by simpa using N:bB (aU x) (aU y)=Z2).symm
       rw[e];exact o9 l id fl cd L z F f (d+1) (aU x) s (by omega) (by omega) w
      .rw[ZX n]
       have E:(aU x).headD 0=L:=by
        have i:¬ L<(aU x).headD 0:=j;have u:¬ (aU x).headD 0<L:=n;exact UInt8.le_antisymm (UInt8.not_lt.1 i) (UInt8.not_lt.1 u)
       have K:x∈srt id L l:=(q x).2 ⟨B,(o x).2 ⟨C,by rw[v,E]⟩⟩
       have e:=tG J K r fun y t m=>by
        rcases p y t m with rfl|u
        .exact lF _
        .exact oC u
       rw[e,gy]
       cases V:S s x.2.1 x.2.2 with
       | error e=>rfl
       | ok X=>exact o9 l id fl cd L z F f (d+1) (aU x) X (by omega) (by omega) w
theorem AE(l:Z3 Rw)(L:ZP)(c:L - 1<L):aft [L - 1,255] (srt id L l)=srt id L l:=by
 unfold aft;rw[List.filter_eq_self];intro y e;have h:=(iV id L l l.length y).1 (by rw[ZD (ZV _)];exact e);have H:=h.2;unfold cH at H;simp only[ZQ,ZW] at H
 cases k:aU y with
 | nil=>rw[k] at H;simp at H
 | cons a r =>
   rw[k] at H;have:a=L:=by simpa using H.2
   subst this;exact ZO (by rw[Lib.compareBytes,ZT c];decide)
theorem o6{σ ρ:Type}{step:σ->Z6->Z6->Except ρ σ}(fl cd d:Int)(L:ZP)(c:L - 1<L)(h:fl<=0)(e:DstL l)(H:0<=d)(s:σ) :
 (bS l id fl cd L step (l.length+1) d [L - 1,255] s).1=kM (gy step (srt id L l) s):=by
 rw[o9 l id fl cd L h e (l.length+1) d [L - 1,255] s H (by have:=cnt_le id [L - 1,255] l;omega) (by simp),AE id l L c]
/-! aliases -/
theorem oQ(name:Z6):∀ (S:Z3 Rw) (o:Z3 Fu),eH name S o=match gy (dZ name) S o with
  | .ok s=>(s,0)
  | .error e=>([],e)
 | [],o=>rfl
 | x::S,o=>by
   rw[eH,gy];unfold dZ;by_cases h:(bw x.2.1 x.2.2).2≠0
   .rw[ZT h,ZT h]
   .rw[ZX h,ZX h];by_cases H:(bw x.2.1 x.2.2).1.1.target=name
    .rw[ZT H,ZT H];exact oQ name S _
    .rw[ZX H,ZX H];exact oQ name S _
theorem um(j:fl<=0)(H:0<=d)(i:DstL l):(dj l fl cd d id name).1=cW l id name:=by
 have h:=o6 (step:=dZ name) l id fl cd d 65 (by decide) j i H [];unfold dj cW;rw[oQ]
 cases r:bS l id fl cd 65 (dZ name) (l.length+1) d [(65:ZP) - 1,255] [] with
 | mk a c =>
   rw[r] at h;dsimp only at h;subst h
   cases gy (dZ name) (srt id 65 l) [] with
   | ok s=>rfl
   | error e=>rfl
/-! generations -/
theorem oL(g:Z6):∀ (S:Z3 Rw) (o:Z3 Int),gy (fh g) S o=.ok (gW g S o)
 | [],o=>rfl
 | x::S,o=>by
   rw[gW,gy];unfold fh;by_cases h:(Xp (Z5 (aN x.2.1))=ZZ/\dK (aN x.2.1)=g)/\x.2.1=aC 0 (aN x.2.1)
   .rw[ZT h,ZT h];exact oL g S _
   .rw[ZX h,ZX h];exact oL g S _
theorem EK(i:fl<=0)(H:0<=d)(e:DstL l):(eW l fl cd d id g).1=(jj l id g,0):=by
 have h:=o6 (step:=fh g) l id fl cd d 68 (by decide) i e H [];rw[oL] at h;unfold eW jj
 cases r:bS l id fl cd 68 (fh g) (l.length+1) d [(68:ZP) - 1,255] [] with
 | mk a c =>
   rw[r] at h;dsimp only at h;subst h;rfl
/-! names below a prefix -/
theorem uY(p:Z6):∀ (S:Z3 Rw) (s:Bool),gy (fO p) S s=.ok (s || S.any (fun x=>dC p (aN x.2.1)))
 | [],s=>by rw[gy,List.any_nil,Bool.or_false]
 | x::S,s=>by
   rw[gy];unfold fO;dsimp only;rw[List.any_cons,<-Bool.or_assoc];exact uY p S _
theorem pP(d:Int)(p:Z6)(L:ZP)(e:L - 1<L)(j:fl<=0)(H:0<=d)(i:DstL l):(ee l fl cd id p L d).1=((srt id L l).any (fun x=>dC p (aN x.2.1)),0):=by
 have h:=o6 (step:=fO p) l id fl cd d L e j i H Z2;rw[uY,Bool.false_or] at h;unfold ee
 cases r:bS l id fl cd L (fO p) (l.length+1) d [L - 1,255] Z2 with
 | mk a c =>
   rw[r] at h;dsimp only at h;subst h;rfl
theorem vd(d:Int)(p:Z6)(L:ZP)(i:0<=d):0<=(ee l fl cd id p L d).2:=by
 have h:=lI (step:=fO p) (l:=l) (id:=id) (fl:=fl) (cd:=cd) (L:=L) (l.length+1) d [L - 1,255] Z2;unfold ee
 cases H:bS l id fl cd L (fO p) (l.length+1) d [L - 1,255] Z2 with
 | mk a c =>
   rw[H] at h
   cases a with
   | error e=>unfold jT;dsimp only at h |-;omega
   | ok q=>unfold jT;dsimp only at h |-;omega
theorem pM(L:ZP)(l:Z3 Rw)(f:Rw->Bool):(srt id L l).any f=l.any (fun x=>cH id L x&&f x):=by
 rw[Zr,List.any_eq_true,List.any_eq_true]
 have H:∀ x,x∈srt id L l↔x∈l/\cH id L x=ZZ:=fun x=>by
  have:=iV id L l l.length x;rwa [ZD (ZV _)] at this
 constructor
 .rintro ⟨x,c,h⟩;exact⟨x,((H x).1 c).1,by rw[((H x).1 c).2,h];rfl⟩
 .rintro ⟨x,c,h⟩;rw[ZQ] at h;exact⟨x,(H x).2 ⟨c,h.1⟩,h.2⟩
theorem jn1(a:Z3 ZP):Ys [a] [46]=a:=by simp [Ys,List.intercalate]
theorem CT(p n:Z6)(z:dy p=ZZ):Ds.match_ (Z5 (p++⟨#[46,42,42]⟩)) (Z5 n)=dC p n:=by
 have K:Z5 (p++⟨#[46,42,42]⟩)=Z5 p++[46,42,42]:=by unfold Z5;simp
 rw[K];unfold dy at z;rw[ZQ,ZW] at z;obtain⟨o,N⟩:=z;have C:=(Ds.name_parts _).1 o
 have i:(Z5 p).length<=28:=by
  have hc:(Z5 p).count 46<2:=by unfold Wr at N;unfold Z5;omega
  have j:=Ds.pieces_len (Z5 p);have m:=VZ (Z5 p);rw[<-m];have Q:∀ q∈YM (Z5 p),q.length<=8:=fun q G=>Ds.qual_le _ _ _ (C.2 q G)
  generalize YM (Z5 p)=P at j Q;rcases P with _|⟨a,_|⟨b,_|⟨c,r⟩⟩⟩
  .simp [Ys]
  .have:=Q a (by simp);rw[jn1];omega
  .have Z:=Q a (by simp);have h3:=Q b (by simp);rw[Ds.join_cons2];rw[jn1];simp only[ZM,YE];omega
  .simp only[Zx] at j;omega
 unfold dC;cases H:Y3 (Z5 n)
 .rw[Bool.false_and];rw[Bool.eq_false_iff];intro h;have:=((Ds.match_parts _ _).1 h).2.1;rw[H] at this;cases this
 rw[Zf,Ds.match_below _ _ (Ds.name_pat _ o) i H,Zr,List.any_eq_true,Ye,ZW];have U:=(Ds.name_parts _).1 H;have w:=VZ (Z5 n);constructor
 .rintro ⟨k,T,h⟩;rw[Wp] at T;obtain⟨s,F⟩:=Ds.first_take (Z5 n) (k+1) H (by omega);have L:((k:Int)+1)=((k+1:Nat):Int):=by omega
  rw[L,Ds.match_self _ _ o s,ZW] at h;rw[<-h] at F;by_cases G:k+1=(YM (Z5 n)).length
  .refine .inl (Ds.bl_inj ?_)
   rw[G,Ds.first_all _ H] at h;exact h.symm
  .refine .inr ?_
   have E:Z5 n=Z5 p++46::Ys ((YM (Z5 n)).drop (k+1)) [46]:=by
    conv=>lhs;rw[<-w,<-List.take_append_drop (k+1) (YM (Z5 n)),<-F]
    have y:(YM (Z5 n)).drop (k+1)≠[]:=by
     intro e;rw[List.drop_eq_nil_iff] at e;omega
    have v:∀ (A B:Z3 (Z3 ZP)),A≠[]->B≠[]->Ys (A++B) [46]=Ys A [46]++46::Ys B [46]:=by
     intro A B O S
     induction A with
     | nil=>exact absurd rfl O
     | cons a A X =>
       cases A with
       | nil =>
         cases B with
         | nil=>exact absurd rfl S
         | cons b B=>rw[List.singleton_append,Ds.join_cons2,jn1];simp
       | cons Y A =>
         rw[Zp,Zp,Ds.join_cons2,<-Zp,X (by simp),Ds.join_cons2];simp
    rw[v _ _ (Ds.pieces_ne _) y,VZ]
   show Lib.hasPrefix (Z5 n) (Z5 p++[46])=ZZ
   rw[E];unfold Lib.hasPrefix;rw[List.isPrefixOf_iff_prefix];exact⟨Ys ((YM (Z5 n)).drop (k+1)) [46],by simp⟩
 .rintro (h|h)
  .subst h;have J:0<(YM (Z5 n)).length:=List.length_pos_iff.2 (Ds.pieces_ne _);refine⟨(YM (Z5 n)).length - 1,by simp;omega,?_⟩
   rw[show (((YM (Z5 n)).length - 1:Nat):Int)+1=((YM (Z5 n)).length:Int) by omega,Ds.first_all _ H,Ds.match_self _ _ H H];simp
  .have u:Lib.hasPrefix (Z5 n) (Z5 p++[46])=ZZ:=h;unfold Lib.hasPrefix at u;rw[List.isPrefixOf_iff_prefix] at u;obtain⟨t,V⟩:=u;have E:Z5 n=Z5 p++46::t:=by rw[<-V];simp
   have I:YM (Z5 n)=YM (Z5 p)++YM t:=by rw[E,Ds.pieces_dot]
   have J:0<(YM (Z5 p)).length:=List.length_pos_iff.2 (Ds.pieces_ne _);refine⟨(YM (Z5 p)).length - 1,?_,?_⟩
   .rw[Wp,I,ZM];omega
   .obtain⟨s,F⟩:=Ds.first_take (Z5 n) (YM (Z5 p)).length H J;rw[show (((YM (Z5 p)).length - 1:Nat):Int)+1=((YM (Z5 p)).length:Int) by omega,Ds.match_self _ _ o s,ZW];rw[I,List.take_left' rfl] at F;have m:=VZ (Ds.first ((YM (Z5 p)).length:Int) (Z5 n));rw[F,VZ] at m;exact m
theorem uZ(p:Z6)(k:fl<=0)(m:0<=d)(j:DstL l)(s:dy p=ZZ):(et l fl cd d id p).1=if fI l id p=ZZ then 9 else 0:=by
 have Q:=pP l fl cd id d p 68 (by decide) k m j;have C:=vd l fl cd id d p 68 m;have t:=pP l fl cd id _ p 71 (by decide) k C j;have o:=vd l fl cd id _ p 71 C;have u:=pP l fl cd id _ p 65 (by decide) k o j;unfold et;rw[ji,ji,ji,ji,Q,t,u];dsimp only;rw[pM,pM,pM]
 have e:fI l id p=(l.any (fun x=>cH id 68 x&&dC p (aN x.2.1)) || (l.any (fun x=>cH id 71 x&&dC p (aN x.2.1)) || l.any (fun x=>cH id 65 x&&dC p (aN x.2.1)))):=by
  unfold fI;rw[Zr,Ye,Ye,List.any_eq_true,List.any_eq_true,List.any_eq_true,List.any_eq_true]
  have i:∀ x:Rw,iw id p x=((cH id 68 x&&dC p (aN x.2.1)) || ((cH id 71 x&&dC p (aN x.2.1)) || (cH id 65 x&&dC p (aN x.2.1)))):=fun x=>by
   unfold iw cH aU;rw[CT p _ s]
   have e:∀ c:ZP,c≠0->decide ((Z5 x.2.1).headD 0=c)=decide ((Z5 x.2.1).head?=Z9 c):=fun c q=>by
    cases Z5 x.2.1 with
    | nil=>simp [Ne.symm q]
    | cons a r=>simp
   rw[e 68 (by decide),e 71 (by decide),e 65 (by decide)];cases decide (x.1=id) <;> cases decide ((Z5 x.2.1).head?=Z9 68) <;> cases decide ((Z5 x.2.1).head?=Z9 71) <;> cases decide ((Z5 x.2.1).head?=Z9 65) <;> cases dC p (aN x.2.1) <;> rfl
  constructor
  .rintro ⟨x,H,n⟩;rw[i x,Ye,Ye] at n;rcases n with h|h|h
   .exact .inl ⟨x,H,h⟩
   .exact .inr (.inl ⟨x,H,h⟩)
   .exact .inr (.inr ⟨x,H,h⟩)
  .rintro (⟨x,H,h⟩|⟨x,H,h⟩|⟨x,H,h⟩)
   .exact⟨x,H,by rw[i x,h];simp⟩
   .exact⟨x,H,by rw[i x,h];simp⟩
   .exact⟨x,H,by rw[i x,h];simp⟩
 rw[e];cases l.any (fun x=>cH id 68 x&&dC p (aN x.2.1)) <;> cases l.any (fun x=>cH id 71 x&&dC p (aN x.2.1)) <;> cases l.any (fun x=>cH id 65 x&&dC p (aN x.2.1)) <;> rfl
theorem pD{l:Z3 Rw}{id a:Int}{name:Z6}(h:(bz l id a name).2=0):(0<=a/\a<=4)/\aA (bz l id a name).1=ZZ/\aC (bz l id a name).1.1.kind (bz l id a name).1.1.name=aC a name:=by
 unfold bz aG at h |-;by_cases c:aC a name=⟨#[]⟩
 .rw[ZT c] at h;exact absurd (show (1:Int)=0 from h) (by decide)
 rw[ZX c,ZX (by decide)] at h |-;refine⟨?_,?_⟩
 .by_cases H:Ek.isKind a=ZZ
  .unfold Ek.isKind at H;simpa using H
  .exfalso
   refine c ?_
   unfold aC Ek.key;rw[ZX (fun q=>H q.1)]
 .cases i:bZ id (aC a name) l with
  | none=>rw[i] at h;exact absurd (show (6:Int)=0 from h) (by decide)
  | some s =>
    rw[i] at h;dsimp only at h |-;obtain⟨j,H⟩:=lw (k:=aC a name) (r:=s) (fun q=>q h);refine⟨j,?_⟩
    have e:aC (bw (aC a name) s).1.1.kind (bw (aC a name) s).1.1.name=⟨(dL (bw (aC a name) s).1).toArray⟩:=rfl;rw[e,H,Ds.mk_bl]
theorem oP(name:Z6):∀ (S:Z3 Rw) (o:Z3 Fu),(eH name S o).1.length<=o.length+S.length
 | [],o=>ZV _
 | x::S,o=>by
   rw[eH,Zx];split
   .exact Zc _
   .split
    .have:=oP name S (o++[(bw x.2.1 x.2.2).1]);rw[ZM,YE] at this;omega
    .have:=oP name S o;omega
theorem mv:(cW l id name).1.length<=l.length:=by
 have h:=oP name (srt id 65 l) [];have H:=qy id 65 l;unfold cW;rw[List.length_nil] at h;omega
def gX(l:Z3 Rw)(id a:Int)(name:Z6):Z3 Ch × Int :=
 if (bz l id a name).2≠0 then ([],(bz l id a name).2)
 else if a=1/\jj l id name≠[] then ([],9)
 else if a<=1 then (if (cW l id name).2≠0 then ([],(cW l id name).2) else ((cW l id name).1.map (bJ id)++[bJ id (bz l id a name).1],0))
 else ([bJ id (bz l id a name).1],0)
theorem DU(i:fl<=0)(p:0<=d)(m:DstL l):(iL l fl cd d id a name).1=gX l id a name:=by
 have e:=iz l fl cd d id a name i p;have c:=(dS l fl cd d id a name).1;have s:=@pD l id a name;unfold iL gX;rw[e];have C:0<=(aG l fl cd d id a name).2:=by omega
 generalize (aG l fl cd d id a name).2=j at C |-;by_cases h:(bz l id a name).2≠0
 .rw[ZT h,ZT h]
 rw[ZX h,ZX h];obtain⟨⟨t,-⟩,-⟩:=s (XM fun q=>h q)
 have T:∀ x c,0<=c->(jN l fl cd id a name x c).1=if a<=1 then (if (cW l id name).2≠0 then ([],(cW l id name).2) else ((cW l id name).1.map (bJ id)++[bJ id x],0)) else ([bJ id x],0):=fun x c r=>by
  have E:=um l fl cd c id name i r m;unfold jN;rw[E];by_cases k:a<=1
  .rw[ZT k,ZT (by omega)];by_cases H:(cW l id name).2≠0
   .rw[ZT H,ZT H]
   .rw[ZX H,ZX H]
  .rw[ZX k,ZX (by omega)]
 by_cases k1:a=1
 .have o:=EK l fl cd j id name i C m;have u:=(uO l fl cd j id name).1;rw[ZT k1,o,ZX (fun q=>q rfl)];by_cases n:jj l id name≠[]
  .rw[ZT n,ZT ⟨k1,n⟩]
  .rw[ZX n,ZX (fun q=>n q.2),T _ _ (by omega)]
 .rw[ZX k1,ZX (fun q=>k1 q.1),T _ _ C]
def gu(l:Z3 Rw)(id:Int)(name f:Z6):Z3 Ch × Int :=
 if Y3 (Z5 f)=Z2 then ([],1)
 else if (bz l id 0 name).2≠0 then ([],(bz l id 0 name).2)
 else if Xp (Z5 name)=ZZ\/Xp (Z5 f)=ZZ then ([],7)
 else if cE (dx l id f).2≠0 then ([],cE (dx l id f).2)
 else if (cW l id name).2≠0 then ([],(cW l id name).2)
 else (jO id (bz l id 0 name).1 f (cW l id name).1,0)
theorem FF(m:fl<=0)(r:0<=d)(s:DstL l):(gC l fl cd d id name f).1=gu l id name f:=by
 have e:=iz l fl cd d id 0 name m r;have c:=(dS l fl cd d id 0 name).1;unfold gC gu;rw[e];have n:0<=(aG l fl cd d id 0 name).2:=by omega
 generalize (aG l fl cd d id 0 name).2=C at n |-;have E:=kh l fl cd C id f m n;have o:0<=(bY l fl cd C id f).2:=by have:=(jq l fl cd C id f).1;omega
 rw[E];generalize (bY l fl cd C id f).2=p at o |-;have q:=um l fl cd p id name m o s;rw[q];by_cases h:Y3 (Z5 f)=Z2
 .rw[ZT h,ZT h]
 rw[ZX h,ZX h];by_cases H:(bz l id 0 name).2≠0
 .rw[ZT H,ZT H]
 rw[ZX H,ZX H];by_cases i:Xp (Z5 name)=ZZ\/Xp (Z5 f)=ZZ
 .rw[ZT i,ZT i]
 rw[ZX i,ZX i];by_cases j:cE (dx l id f).2≠0
 .rw[ZT j,ZT j]
 rw[ZX j,ZX j];by_cases k:(cW l id name).2≠0
 .rw[ZT k,ZT k]
 rw[ZX k,ZX k]
/-! chapter 36 -/
theorem mU(j:fl<=0)(H:0<=d)(i:∀ id c,0<=c->(D id c).1=R id) :
 (eK l fl cd d name D).1=if (cj l name).2≠0 then ([],(cj l name).2) else R (cj l name).1:=by
 obtain⟨e,c⟩:=ox l fl cd d name j H;unfold eK;rw[e];by_cases h:(cj l name).2≠0
 .rw[ZT h,ZT h]
 .rw[ZX h,ZX h,i _ _ c]
theorem pG(i:fl<=0)(H:0<=d)(k:¬ (a<0\/4<a\/a=3))(e:∀ id c,0<=c->(D id c).1=R id) :
 (iq l fl cd d a name D).1=if (dp l a name).2≠0 then ([],(dp l a name).2) else R (dp l a name).1:=by
 unfold iq dp;rw[ZX k];by_cases h:a=4
 .rw[ZT h,ZT h,ZX (by decide),e _ _ H]
 .rw[ZX h,ZX h,mU l fl cd d name D R i H e]
theorem pq{l:Z3 Rw}{a:Int}{name:Z6}(h:a<0\/4<a\/a=3):dp l a name=(0,1):=by unfold dp;rw[ZT h]
theorem pH(h:aA x=ZZ):0<=x.1.kind/\x.1.kind<=4:=by
 unfold aA at h;by_cases k0:x.1.kind=0
 .omega
 by_cases k1:x.1.kind=1
 .omega
 by_cases k:x.1.kind=2
 .omega
 by_cases K:x.1.kind=3
 .omega
 by_cases c:x.1.kind=4
 .omega
 rw[ZX k0,ZX k1,ZX k,ZX K,ZX c] at h;cases h
theorem Bt(x:Fu)(e:fl<=0)(i:0<=d):(kB l fl cd d x).1=jg l x:=by
 unfold kB jg;by_cases h:aA x=ZZ
 rotate_left
 .rw[ZX (fun q=>h q.1),ZX h]
 have r:=pH h;rw[ZT h];by_cases H:x.1.kind=3
 .rw[ZX (fun q=>q.2 H),pq (.inr (.inr H)),ZT (by decide)]
 .rw[ZT ⟨h,H⟩];exact pG l fl cd d _ _ _ (fun id=>iK l id x) e i (by omega) (fun id c j=>Dl l fl cd c id x e j)
theorem Bz(x:Fu)(e:fl<=0)(i:0<=d):(nA l fl cd d x).1=jS l x:=by
 unfold nA jS;by_cases h:aA x=ZZ
 rotate_left
 .rw[ZX (fun q=>h q.1),ZX h]
 have r:=pH h;rw[ZT h];by_cases H:x.1.kind=3
 .rw[ZX (fun q=>q.2 H),pq (.inr (.inr H)),ZT (by decide)]
 .rw[ZT ⟨h,H⟩];exact pG l fl cd d _ _ _ (fun id=>jP l id x) e i (by omega) (fun id c j=>FG l fl cd c id x e j)
def jb(l:Z3 Rw)(a:Int)(name:Z6):Z3 Ch × Int :=
 if (dp l a name).2≠0 then ([],(dp l a name).2) else gX l (dp l a name).1 a name
theorem Bw(H:fl<=0)(e:0<=d)(j:DstL l):(kD l fl cd d a name).1=jb l a name:=by
 unfold kD jb;by_cases h:a<0\/4<a\/a=3
 .rw[ZT h,pq h,ZT (by decide)]
 .rw[ZX h];exact pG l fl cd d _ _ _ (fun id=>gX l id a name) H e h (fun id c i=>DU l fl cd c id a name H i j)
def jd(l:Z3 Rw)(name f:Z6):Z3 Ch × Int :=
 if Y3 (Z5 name)=Z2\/Y3 (Z5 f)=Z2 then ([],1)
 else if (cj l name).2≠0 then ([],(cj l name).2)
 else if (cj l f).2≠0 then ([],(cj l f).2)
 else if (cj l name).1≠(cj l f).1 then ([],9)
 else gu l (cj l name).1 name f
theorem By(j:fl<=0)(k:0<=d)(n:DstL l):(kE l fl cd d name f).1=jd l name f:=by
 unfold kE jd;by_cases H:Y3 (Z5 name)=Z2\/Y3 (Z5 f)=Z2
 .rw[ZT H,ZT H]
 rw[ZX H,ZX H];refine mU l fl cd d name _ (fun id=>if (cj l f).2≠0 then ([],(cj l f).2) else if id≠(cj l f).1 then ([],9) else gu l id name f) j k fun id c m=>?_
 refine mU l fl cd c f _ (fun i=>if id≠i then ([],9) else gu l id name f) j m fun i C e=>?_
 by_cases h:id≠i
 .rw[ZT h,ZT h]
 .rw[ZX h,ZX h,FF l fl cd C id name f j e n]
theorem vD{b:Z6}{id:Int}(h:dy b=ZZ)(e:2<=id)(i:id<=15):aA (di b id)=ZZ:=by
 unfold dy at h;rw[ZQ,ZW] at h;obtain⟨n,H⟩:=h;have c:(Z5 b).count 46<2:=by unfold Wr at H;unfold Z5;omega
 have j:=Ds.pieces_len (Z5 b);unfold aA di;rw[ZX (show ¬ ((3:Int)=0) by decide),ZX (show ¬ ((3:Int)=1) by decide),ZX (show ¬ ((3:Int)=2) by decide),ZT (show (3:Int)=3 from rfl)];unfold fK;rw[ZQ,ZQ];refine⟨⟨?_,?_⟩,(dV _ _ _ _ _ _).2 ⟨rfl,rfl,rfl⟩⟩
 .unfold Vp.nameC;simp only[n,Zf,ZW]
  omega
 .unfold Vp.cat Vp.rng;simp
  omega
def jf(l:Z3 Rw)(b:Z6)(id:Int):Z3 Ch × Int :=
 if dy b=Z2\/id<2\/15<id then ([],1)
 else if (bz l 1 3 b).2=0 then ([],5)
 else if (bz l 1 3 b).2≠6 then ([],(bz l 1 3 b).2)
 else if (cj l b).2≠0 then ([],(cj l b).2)
 else if fI l (cj l b).1 b=ZZ then ([],9)
 else ([bI 1 (di b id)],0)
theorem DI(id:Int)(j:fl<=0)(n:0<=d)(r:DstL l):(kG l fl cd d b id).1=jf l b id:=by
 have e:=iz l fl cd d 1 3 b j n;have c:=(dS l fl cd d 1 3 b).1;unfold kG jf;rw[e];have C:0<=(aG l fl cd d 1 3 b).2:=by omega
 generalize (aG l fl cd d 1 3 b).2=m at C |-;by_cases h:dy b=Z2\/id<2\/15<id
 .rw[ZT h,ZT h]
 rw[ZX h,ZX h]
 have p:dy b=ZZ:=by
  cases s:dy b
  .exact absurd (.inl s) h
  .rfl
 have k:=vD (id:=id) p (by omega) (by omega);by_cases H:(bz l 1 3 b).2=0
 .rw[ZT H,ZT H]
 rw[ZX H,ZX H];by_cases i:(bz l 1 3 b).2≠6
 .rw[ZT i,ZT i]
 rw[ZX i,ZX i];refine mU l fl cd m b _ (fun o=>if fI l o b=ZZ then ([],9) else ([bI 1 (di b id)],0)) j C fun o c q=>?_
 have E:=uZ l fl cd c o b j q r p;unfold con1F;rw[E,k];cases fI l o b
 .rfl
 .rfl
def jh(l:Z3 Rw)(b:Z6):Z3 Ch × Int :=
 if dy b=Z2 then ([],1)
 else if (bz l 1 3 b).2≠0 then ([],(bz l 1 3 b).2)
 else if fI l (bz l 1 3 b).1.1.cat b=ZZ then ([],9)
 else ([(1,1,aC 3 b,⟨#[]⟩,⟨#[]⟩)],0)
theorem Dk(H:fl<=0)(j:0<=d)(k:DstL l):(kH l fl cd d b).1=jh l b:=by
 have e:=iz l fl cd d 1 3 b H j;have c:=(dS l fl cd d 1 3 b).1;unfold kH jh;rw[e];have C:0<=(aG l fl cd d 1 3 b).2:=by omega
 generalize (aG l fl cd d 1 3 b).2=i at C |-;cases p:dy b
 .rw[ZT rfl,ZT rfl]
 rw[ZX (show ¬ (ZZ=Z2) by decide),ZX (show ¬ (ZZ=Z2) by decide)];by_cases h:(bz l 1 3 b).2≠0
 .rw[ZT h,ZT h]
 rw[ZX h,ZX h];have m:=(pD (XM fun q=>h q)).2.2;have E:=uZ l fl cd i (bz l 1 3 b).1.1.cat b H C k p;rw[E];cases fI l (bz l 1 3 b).1.1.cat b
 .unfold bJ;rw[m];rfl
 .rfl
theorem Eg{f:Z6}(h:aA x=ZZ)(k:x.1.kind=0)(n:Y3 (Z5 f)=ZZ):aA (dz x f)=ZZ:=by
 obtain⟨e,L,G⟩:=x;unfold aA dz at *;dsimp only at *;rw[ZT k] at h |-;unfold fL at *;dsimp only;rw[ZQ,ZQ] at h |-;obtain⟨⟨-,H⟩,i⟩:=h;refine⟨⟨n,H⟩,?_⟩
 obtain⟨E,j,c⟩:=(dV _ _ _ _ _ _).1 i;refine (dV _ _ _ _ _ _).2 ⟨?_,rfl,c⟩
 have:=Y8 (fun z:En=>{ z with name:=f }) E;exact this
theorem Eh{f:Z6}(h:aA x=ZZ)(m:x.1.kind=2)(n:Y3 (Z5 f)=ZZ)(H:f≠x.1.name):aA (bT x f)=ZZ:=by
 obtain⟨e,L,G⟩:=x;unfold aA bT at *;dsimp only at *;rw[ZX (by omega),ZX (by omega),ZT m] at h |-;unfold eY at *;dsimp only;rw[ZQ,ZQ] at h |-;obtain⟨⟨j,-⟩,k⟩:=h;obtain⟨E,c,i⟩:=(dV _ _ _ _ _ _).1 k;refine⟨⟨j,?_⟩,(dV _ _ _ _ _ _).2 ⟨?_,c,i⟩⟩
 .unfold Vp.ali;dsimp only;rw[n,fd,ZN H];rfl
 .have:=Y8 (fun z:En=>{ z with target:=f }) E;exact this
theorem pr(h:aA x=ZZ)(k:x.1.kind=2):x.2.1=[]/\x.2.2=[]/\x.1.name.size<=31:=by
 have H:=(iR x h).1;rw[Ds.bl_length] at H;obtain⟨e,L,G⟩:=x;unfold aA at h;dsimp only at *;rw[ZX (by omega),ZX (by omega),ZT k] at h;unfold eY at h;rw[ZQ] at h;obtain⟨i,E,c⟩:=(dV _ _ _ _ _ _).1 h.2;exact⟨E.symm,c.symm,H⟩
theorem oO(name:Z6)(P:Fu->Prop):∀ (S:Z3 Rw) (o:Z3 Fu),(∀ a∈o,P a)->(∀ x∈S,(bw x.2.1 x.2.2).2=0->P (bw x.2.1 x.2.2).1)->∀ a∈(eH name S o).1,P a
 | [],o,h,_=>h
 | x::S,o,h,c=>by
   rw[eH];by_cases H:(bw x.2.1 x.2.2).2≠0
   .rw[ZT H];intro a ha;cases ha
   .rw[ZX H];have j:=c x (by simp) (XM fun q=>H q);by_cases i:(bw x.2.1 x.2.2).1.1.target=name
    .rw[ZT i];refine oO name P S _ (fun a ha=>?_) (fun y e=>c y (by simp [e]))
     rcases List.mem_append.1 ha with ha|ha
     .exact h a ha
     .rw[List.mem_singleton] at ha;rw[ha];exact j
    .rw[ZX i];exact oO name P S _ h (fun y e=>c y (by simp [e]))
theorem Ar{k:Int}(h:Ek.letter k=65):k=2:=by
 unfold Ek.letter at h
 (repeat' split at h) <;> first|assumption|(exact absurd h (by decide))
theorem uo:∀ a∈(cW l id name).1,aA a=ZZ/\a.1.kind=2/\∃ x∈l,x.1=id/\x.2.1=aC 2 a.1.name:=by
 unfold cW;refine oO name (fun a=>aA a=ZZ/\a.1.kind=2/\∃ x∈l,x.1=id/\x.2.1=aC 2 a.1.name) (srt id 65 l) [] (fun a ha=>by cases ha) fun x n j=>?_
 obtain⟨m,H⟩:=uX n;obtain⟨i,Q⟩:=lw (k:=x.2.1) (r:=x.2.2) (fun q=>q j);generalize (bw x.2.1 x.2.2).1=y at i Q |-;unfold cH at H;simp only[ZQ,ZW] at H
 have c:y.1.kind=2:=by
  have h:=H.2;rw[show aU x=Z5 x.2.1 from rfl,<-Q] at h;unfold dL Ek.key at h;split at h
  .exact Ar (by simpa using h)
  .simp at h
 refine⟨i,c,x,m,H.1,?_⟩
 have e:aC 2 y.1.name=⟨(dL y).toArray⟩:=by unfold aC dL;rw[c]
 rw[e,Q,Ds.mk_bl]
theorem sL{id:Int}{key:Z6}:∀ {l:Z3 Rw},bZ id key l=Z7->∀ x∈l,¬ (x.1=id/\x.2.1=key)
 | [],_,x,H=>by cases H
 | y::l,h,x,H=>by
   rw[bZ] at h;split at h
   .cases h
   .rename_i c;rcases List.mem_cons.1 H with rfl|H
    .exact c
    .exact sL h x H
theorem sU{l:Z3 Rw}{id a:Int}{name:Z6}(h:(bz l id a name).2=6):bZ id (aC a name) l=Z7:=by
 unfold bz aG at h;by_cases H:aC a name=⟨#[]⟩
 .rw[ZT H] at h;exact absurd (show (1:Int)=6 from h) (by decide)
 rw[ZX H,ZX (by decide)] at h
 cases r:bZ id (aC a name) l with
 | none=>rfl
 | some s =>
   rw[r] at h;exfalso
   dsimp only at h;unfold bw at h;split at h
   .exact absurd (show (11:Int)=6 from h) (by decide)
   .split at h
    .exact absurd (show (0:Int)=6 from h) (by decide)
    .exact absurd (show (11:Int)=6 from h) (by decide)
theorem Ax{l:Z3 Rw}{id:Int}{name:Z6}(h:cE (dx l id name).2=0):bZ id (aC 2 name) l=Z7:=by
 have H:(dx l id name).2=6:=by
  unfold cE at h;split at h
  .exact absurd h (by decide)
  .split at h
   .assumption
   .rename_i q _;exact absurd h q
 unfold dx at H;split at H
 .exact absurd (show (1:Int)=6 from H) (by decide)
 rw[ij,ij,ij,ij] at H;split at H
 .split at H
  .split at H
   .rename_i q;exact sU q
   .exact sU H
  .rename_i q;exact absurd H q
 .rename_i q;exact absurd H q
theorem Fw{l:Z3 Rw}{id:Int}{name f:Z6}(h:cE (dx l id f).2=0):∀ a∈(cW l id name).1,f≠a.1.name:=by
 intro a ha e;obtain⟨-,-,x,c,i,H⟩:=uo l id name a ha;rw[<-e] at H;exact sL (Ax h) x c ⟨i,H⟩
theorem Cp{l:Z3 Rw}{id:Int}{name:Z6}(h:(bz l id 0 name).2=0):aA (bz l id 0 name).1=ZZ/\(bz l id 0 name).1.1.kind=0:=by
 obtain⟨-,c,i⟩:=pD h;refine⟨c,?_⟩
 have e:=Y8 Z5 i;rw[iU,iU] at e;have j:=pH c;have z:=(iR _ c).1;have H:=ki _ c;unfold dL at H;rw[e] at H;unfold Ek.key at e H;rw[ZT ⟨by unfold Ek.isKind;simp;omega,by omega⟩] at e;split at e
 .injection e with E m
  generalize (bz l id 0 name).1.1.kind=k at E j;unfold Ek.letter at E;rw[ZT (show (0:Int)=0 from rfl)] at E
  (repeat' split at E) <;> first|assumption|(exact absurd E (by decide))
 .cases e
section
open Go.RowKit
set_option linter.unusedSimpArgs false
attribute [local go_sem ↓] aZ fb bf bq cl eX
attribute [local go_sem] bn aS aH bE bH aK aT ak aI aw az aM ah aQ aL aP aO aR aY aW bD ap aq
theorem gH{w c:World}{B e s m:Nat}{v:Value}{X:Z3 Value}(h:w.ownsRow B e s v m X)(H:Below w.heap.size w c):c.ownsRow B e s v m X:=aV h (fun x i=>H.block x (ax h x i).2)
theorem pB(k:Z6):CS (W.alloc (.cells #[.int .i64 1,.int .i64 id,.string k,.string ⟨#[]⟩,.string ⟨#[]⟩] 67)) 5 (.slice (Z9 ⟨W.heap.size,0,Z7⟩) 1 1) 1 (cv [((1,id,k,⟨#[]⟩,⟨#[]⟩):Ch)]):=iE W (1,id,k,⟨#[]⟩,⟨#[]⟩) _ _ rfl
theorem zP(v:Value)(l:Z3 Rw)(id a:Int)(name:Z6)(w:World)(hl:RwS w v l)(hn:l.length<=1000)(b9:∀ x∈l,x.2.1.size<=60) :
 Calls Tryz.prog 129 #[v,.int .i64 id,.int .i64 a,.string name] w fun r w'=>Ch2 w w' (gX l id a name) r:=by
 have X:=lh (iA v l id a name w hl);have t:=lh (fun W (b:Below w.heap.size w W)=>yz v l id name W hn (hl.below b) b9);have B:=fun W (b:Below w.heap.size w W)=>rA v l id name W hn (hl.below b)
 have L:=mv l id name;obtain⟨a0,c0,rfl,-⟩:=_root_.id hl;unfold gX;generalize bz l id a name=gg at X |-;obtain⟨y,a6⟩:=gg;dsimp only at X |-;clear hl b9;by_cases h0:a6=0
 rotate_left
 .rw[ZT h0];have t1:(a6 != 0)=ZZ:=bne_iff_ne.2 h0;clear h0 t B;go_enter Tryz.func129,Tryz.ntmps129
  go_wp2_with (go_at_call 134;(refine X.o.mono ?_);rintro _ p ⟨⟨A,G,rfl,I,c,e,j⟩,H⟩;have m:=ay y.1 A G (aD I) (aE c);have V:=lh (bt H (aj p (.cells (y.1.vals A G) 29)));clear I c e j H)
  go_ret2
  exact⟨_,rfl,bu _,V.o⟩
 subst h0;rw[ZX (fun h=>h rfl)];generalize jj l id name=Y at t |-;by_cases O:a=1/\Y≠[]
 .rw[ZT O];have t2:(a==1)=ZZ:=Zb.2 O.1;have hp:0<Y.length:=List.length_pos_iff.2 O.2;have t3:decide ((0:Int)<(Y.length:Int))=ZZ:=ZO (by omega);have t6:decide (0<Y.length)=ZZ:=ZO hp;clear O B;go_enter Tryz.func129,Tryz.ntmps129
  go_wp2_with first|go_at_call 134;(refine X.o.mono ?_);rintro _ p ⟨⟨A,G,rfl,I,c,e,j⟩,H⟩;have m:=ay y.1 A G (aD I) (aE c);have V:=lh (bt H (aj p (.cells (y.1.vals A G) 29)));clear I c e j H|go_at_call 214;(refine (t.o _ V.o).mono ?_);rintro _ w3 ⟨ov,rfl,u,H⟩;obtain⟨na,nc,rfl⟩:=bX u;have B3:=lh (bt V.o H);clear u H
  all_goals try (exfalso;omega)
  go_ret2
  exact⟨_,rfl,bu _,B3.o⟩
 rw[ZX O];have av:∀ W (x:Fu) A G,bh (x.1.vals A G).toList=ZZ->Calls Tryz.prog 216 #[.int .i64 id,.agg (x.1.vals A G)] W fun r w'=>r=.returned (.agg #[.int .i64 1,.int .i64 id,.string (aC x.1.kind x.1.name),.string ⟨#[]⟩,.string ⟨#[]⟩])/\Below W.heap.size W w':=fun W x A G h=>rX id x A G W h
 have b3:=lh av;have ao:=fun W A G h=>av W y A G h
 have b7:bJ id y=(1,id,aC y.1.kind y.1.name,⟨#[]⟩,⟨#[]⟩):=rfl;rw[b7];generalize aC y.1.kind y.1.name=ky at ao |-;have ad:=lh ao;clear av ao b7;by_cases F:a<=1
 rotate_left
 .rw[ZX F];have t2:(a==1)=Z2:=ZS.2 (by omega);have t4:decide (a<=1)=Z2:=ZN F;clear O F B t;go_enter Tryz.func129,Tryz.ntmps129
  go_upto_region 6 with (go_at_call 134;(refine X.o.mono ?_);rintro _ p ⟨⟨A,G,rfl,I,c,e,j⟩,H⟩;have m:=ay y.1 A G (aD I) (aE c);have P:=ak p (y.1.vals A G) 29 (0,0);have Z:=bt H (aj p (.cells (y.1.vals A G) 29));clear I c e j H)
  generalize p.alloc (.cells (y.1.vals A G) 29)=z at P Z |-;generalize p.heap.size=q at P |-;have a3:=lh (show (z.alloc (.cells #[] 67)).ownsRow w.heap.size 67 5 (.slice (Z9 ⟨z.heap.size,0,Z7⟩) 0 0) 0 [] from eP rfl Z.size);have B6:=lh (bt Z (aj z (.cells #[] 67)));have R6:=am (aj z (.cells #[] 67)) P (by rw[ah];decide);clear P
  go_wp2_with first|go_at_call 216;(refine (ad.o _ _ _ m).mono ?_);rintro _ w7 ⟨rfl,H⟩;have O7:=lh (gH a3.o H);have B7:=lh (bt B6.o H);clear H|at_builtin;refine dQ _ rfl (.tmp 65) (.tmp 69) 53 67 _ _ 5 64 rfl Tryz.underlying53 gA fZ ge gi rfl (by decide) w.heap.size _ (.slice (Z9 ⟨w7.heap.size,0,Z7⟩) 1 1) 0 1 [] (cv [((1,id,ky,⟨#[]⟩,⟨#[]⟩):Ch)]) rfl (gH O7.o (aj w7 _)) rfl (pB w7 id ky) (fC _) (by unfold maxLen;omega) (by omega) (by simp;have:=B7.o.size;omega) ?_;intro a8 c8 w8 n S _;have O8:=lh n;have B8:=lh ((bt B7.o (aj w7 _)).trans (fy S (fun q K=>(ax O7.o q K).1) (bt B7.o (aj w7 _)).size));clear n S
  go_ret2
  exact⟨.slice a8 (0+1) c8,rfl,jp (l:=[(1,id,ky,⟨#[]⟩,⟨#[]⟩)]) (by simp) (dU O8.o),B8.o⟩
 rw[ZT F];have t4:decide (a<=1)=ZZ:=ZO F;have L:(cW l id name).1.length<=1000:=by have:=L;omega
 generalize cW l id name=aa at B L |-;obtain⟨s,ac⟩:=aa;dsimp only at B L |-;have a9:=lh B;clear B;by_cases a4:ac=0
 rotate_left
 .rw[ZT a4];have t5:(ac != 0)=ZZ:=bne_iff_ne.2 a4
  have E:(a=1/\Y=[])\/a≠1:=by
   by_cases h:a=1
   .exact .inl ⟨h,XM fun q=>O ⟨h,q⟩⟩
   .exact .inr h
  clear O F a4 b3 ad;rcases E with ⟨K,J⟩|K
  .have t2:(a==1)=ZZ:=Zb.2 K;have t3:decide ((0:Int)<(Y.length:Int))=Z2:=by rw[J];rfl
   have t6:decide (0<Y.length)=Z2:=by rw[J];rfl
   clear K J;go_enter Tryz.func129,Tryz.ntmps129
   go_wp2_with first|go_at_call 134;(refine X.o.mono ?_);rintro _ p ⟨⟨A,G,rfl,I,c,e,j⟩,H⟩;have m:=ay y.1 A G (aD I) (aE c);have V:=lh (bt H (aj p (.cells (y.1.vals A G) 29)));clear I c e j H|go_at_call 214;(refine (t.o _ V.o).mono ?_);rintro _ w3 ⟨ov,rfl,u,H⟩;obtain⟨na,nc,rfl⟩:=bX u;have B3:=lh (bt (bt V.o H) (aj w3 (.cells #[] 67)));clear u H|go_at_call 215;(refine (a9.o _ B3.o).mono ?_);rintro _ w4 ⟨hv,a7,rfl,hJ,H⟩;obtain⟨ja,jc,rfl⟩:=bX (jC hJ.own);have B4:=lh (bt B3.o H);clear H hJ
   all_goals try (exfalso;omega)
   go_ret2
   exact⟨_,rfl,bu _,B4.o⟩
  .have t2:(a==1)=Z2:=ZS.2 K;clear K t;go_enter Tryz.func129,Tryz.ntmps129
   go_wp2_with first|go_at_call 134;(refine X.o.mono ?_);rintro _ p ⟨⟨A,G,rfl,I,c,e,j⟩,H⟩;have m:=ay y.1 A G (aD I) (aE c);have B3:=lh (bt (bt H (aj p (.cells (y.1.vals A G) 29))) (aj _ (.cells #[] 67)));clear I c e j H|go_at_call 215;(refine (a9.o _ B3.o).mono ?_);rintro _ w4 ⟨hv,a7,rfl,hJ,H⟩;obtain⟨ja,jc,rfl⟩:=bX (jC hJ.own);have B4:=lh (bt B3.o H);clear H hJ
   go_ret2
   exact⟨_,rfl,bu _,B4.o⟩
 subst a4;rw[ZX (fun h=>h rfl)]
 have E:(a=1/\Y=[])\/a≠1:=by
  by_cases h:a=1
  .exact .inl ⟨h,XM fun q=>O ⟨h,q⟩⟩
  .exact .inr h
 clear O F;rcases E with ⟨K,J⟩|K
 have t2:(a==1)=ZZ:=Zb.2 K;have t3:decide ((0:Int)<(Y.length:Int))=Z2:=by rw[J];rfl
 have t6:decide (0<Y.length)=Z2:=by rw[J];rfl
 clear K J
 focus
  go_enter Tryz.func129,Tryz.ntmps129
  go_upto_region 6 with (first
   | (go_at_call 134;(refine X.o.mono ?_);rintro _ p ⟨⟨A,G,rfl,I,c,e,j⟩,H⟩;have m:=ay y.1 A G (aD I) (aE c);have R:=ak p (y.1.vals A G) 29 (0,0);have V:=lh (bt H (aj p (.cells (y.1.vals A G) 29)));clear I c e j H)
   | (go_at_call 214;(refine (t.o _ V.o).mono ?_);rintro _ z ⟨ov,rfl,u,H⟩;obtain⟨na,nc,rfl⟩:=bX u;have P:=am H R (by rw[ah];decide);have Z:=bt V.o H;clear u H R))
  all_goals try (exfalso;omega)
  generalize p.heap.size=q at P |-
 rotate_left;have t2:(a==1)=Z2:=ZS.2 K;clear K
 focus
  go_enter Tryz.func129,Tryz.ntmps129
  go_upto_region 6 with (go_at_call 134;(refine X.o.mono ?_);rintro _ p ⟨⟨A,G,rfl,I,c,e,j⟩,H⟩;have m:=ay y.1 A G (aD I) (aE c);have P:=ak p (y.1.vals A G) 29 (0,0);have Z:=bt H (aj p (.cells (y.1.vals A G) 29));clear I c e j H)
  generalize p.alloc (.cells (y.1.vals A G) 29)=z at P Z |-;generalize p.heap.size=q at P |-
 all_goals
  clear t X;have a3:=lh (show (z.alloc (.cells #[] 67)).ownsRow z.heap.size 67 5 (.slice (Z9 ⟨z.heap.size,0,Z7⟩) 0 0) 0 [] from eP rfl (ZV _));have B6:=lh (bt Z (aj z (.cells #[] 67)));have bi:=lh P;have bc:=lh Z;clear P Z;go_wp2_with (go_at_call 215;(refine (a9.o _ B6.o).mono ?_);rintro _ w7 ⟨hv,a7,rfl,hJ,H⟩;obtain⟨ja,jc,rfl⟩:=bX (jC hJ.own);have be:=lh hJ;have ab:=lh H;clear H hJ)
  have b4:=lh (show KW z w7 w7 (.slice (Z9 ⟨z.heap.size,0,Z7⟩) 0 0) from ⟨kd ab.o,ZV _,fun _ _ _=>rfl,fun b K=>.inl (by cases K;rfl),(kd ab.o).size⟩);have b5:=lh (gH a3.o ab.o);clear a3;go_loopw [12,15] (fun v i wr=>∃ (k:Nat),k<=s.length/\i=.int .i64 k/\Hid (wr.ownsRow z.heap.size 67 5 v k (cv ((s.take k).map (bJ id))))/\Hid (KW z w7 wr v)) (fun _ i _=>s.length - (intOf i).toNat)
  case atStart=>exact⟨0,Zc _,rfl,b5,b4⟩
  case round =>
   clear b4 b5;obtain⟨k,hk,rfl,HO,HK⟩:=hrel;obtain⟨ra,rc,rfl⟩:=bX HO.o;have zK:=HK.o.s;have zB:=HK.o.b.size;by_cases a5:k<s.length
   .obtain⟨bk,bp,GG,bb,ag,T,-⟩:=(be.o.keep HK.o.s (fun y O h2=>HK.o.k y (Nat.lt_of_lt_of_le (by simp) O) h2)).es (by rw[Zt];omega);rw[Zt] at bb ag T;injection bb with v1 v2 v3
    subst v1 v3;clear v2;obtain⟨b,o,rfl,H,a1,c1,a2,af,N,-,-,-⟩:=ag.2 k a5
    have b6:GG k=cY s[k]:=by
     have e1:(lst GG s.length)[k]?=(s.map cY)[k]?:=by rw[T]
     unfold lst at e1;rw[Yg,List.getElem?_range a5,Yg,List.getElem?_eq_getElem a5] at e1;exact Option.some.inj e1
    rw[b6] at N;have b2:s.take (k+1)=s.take k++[s[k]]:=List.take_succ_eq_append_getElem a5;generalize s[k]=x at N b2;have b0:mid wr b (o+k*33)=x.1.vals (.slice a1 x.2.1.length c1) (.slice a2 x.2.2.length af):=N;have b1:=ay x.1 (.slice a1 x.2.1.length c1) (.slice a2 x.2.2.length af) rfl rfl;have bj:(mid wr b (o+k*33)).size=33:=by rw[b0];exact ah _ _ _
    have j1:(0:Int)<=(k:Int):=by omega
    have j2:(k:Int)<(s.length:Int):=by omega
    have U:((s.take (k+1)).map (bJ id))=((s.take k).map (bJ id))++[(1,id,aC x.1.kind x.1.name,⟨#[]⟩,⟨#[]⟩)]:=by rw[b2,List.map_append];rfl
    have ar:=fun W=>b3.o W x (.slice a1 x.2.1.length c1) (.slice a2 x.2.2.length af) b1
    generalize aC x.1.kind x.1.name=k3 at U ar;have bd:=lh ar;have bg:=lh U;clear ar U b2 N b6 ag T
    go_wp2_with first|go_at_call 216;(refine (bd.o _).mono ?_);rintro _ w9 ⟨rfl,C⟩;have O9:=lh (gH HO.o C);have K9:=lh (HK.o.below C);clear C|at_builtin;refine dQ _ rfl (.tmp 56) (.tmp 63) 53 67 _ _ 5 64 rfl Tryz.underlying53 gA fZ ge gi rfl (by decide) z.heap.size (.slice ra k rc) (.slice (Z9 ⟨w9.heap.size,0,Z7⟩) 1 1) k 1 _ (cv [((1,id,k3,⟨#[]⟩,⟨#[]⟩):Ch)]) rfl (gH O9.o (aj w9 _)) rfl (pB w9 id k3) (fC _) (by unfold maxLen;omega) (by omega) (by simp;have:=K9.o.b.size;omega) ?_;intro aX cX wX n b8 Q;have OX:=lh n;have KX:=lh ((K9.o.below (aj w9 _)).grown b8 Q);clear n b8 Q
    go_roundw
    case rel=>exact⟨k+1,by omega,by go_num,lh (by rw[bg.o,gP];exact OX.o),KX⟩
    case measure=>simp [intOf];omega
   .obtain rfl:k=s.length:=by omega
    rw[ZD (ZV _)] at HO;have RE:=am HK.o.b bi.o (by rw[ah];decide)
    go_wp2_with first|go_at_call 216;(refine (ad.o _ _ _ m).mono ?_);rintro _ w9 ⟨rfl,C⟩;have O9:=lh (gH HO.o C);have K9:=lh (HK.o.below C);clear C|at_builtin;refine dQ _ rfl (.tmp 65) (.tmp 69) 53 67 _ _ 5 64 rfl Tryz.underlying53 gA fZ ge gi rfl (by decide) z.heap.size (.slice ra s.length rc) (.slice (Z9 ⟨w9.heap.size,0,Z7⟩) 1 1) s.length 1 (cv (s.map (bJ id))) (cv [((1,id,ky,⟨#[]⟩,⟨#[]⟩):Ch)]) rfl (gH O9.o (aj w9 _)) rfl (pB w9 id ky) (fC _) (by unfold maxLen;omega) (by omega) (by simp;have:=K9.o.b.size;omega) ?_;intro a8 c8 w8 n S Q;have O8:=lh n;have K8:=lh ((K9.o.below (aj w9 _)).grown S Q);clear n S Q
    go_ret2
    refine⟨.slice a8 (s.length+1) c8,rfl,?_,bt bc.o K8.o.b⟩
    have ba:((s.map (bJ id))++[((1,id,ky,⟨#[]⟩,⟨#[]⟩):Ch)]).length=s.length+1:=by rw[ZM,Zt];rfl
    exact jp (w:=w8) (v:=.slice a8 (s.length+1) c8) (l:=(s.map (bJ id))++[((1,id,ky,⟨#[]⟩,⟨#[]⟩):Ch)]) (by rw[ba];omega) (by rw[ba,gP];exact dU O8.o)
end
end Go.Proofs.YtnkjliahpeebjaaGreatDoor
