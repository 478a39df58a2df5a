/- Catalogs. -/
import Derived.Test.YtnkjliahpeebjaaGreatDoorAu
import Derived.Test.YtnkjliahpeebjaaGreatDoorLiC
set_option maxRecDepth 8000
set_option maxHeartbeats 8000000
open _root_ renaming ByteArray->Z7,List->Z5,if_neg->Z0,if_pos->ZX,decide_eq_true_eq->ZU,decide_eq_true->ZL,decide_eq_false->ZF,congrArg->YX
open Go.Proofs.YtnkjliahpeebjaaGreatDoor.Ds renaming bl->Z4,pieces->Y1,gen->XZ,bl_inj->XI,first->Xj,join_pieces->WU
open Bool renaming true->ZZ,false->ZW,and_eq_true->ZT,eq_false_iff->YJ
open Nat renaming le_refl->ZS,zero_le->Y7
open List renaming length_append->ZQ,length_cons->ZK,take_of_length_le->ZC,mem_cons->Zw,append_assoc->Zp,mem_singleton->Zn,foldl_cons->YS,length_nil->YQ,mem_append->YP,length_singleton->Yw,pairwise_cons->Ym,mem_map->X7,mem_range->Ww
open Classical renaming byContradiction->Zk
namespace Go.Proofs.YtnkjliahpeebjaaGreatDoor
variable(s:Z5 UInt8){x:Rw}{f R D:Z5 Rw}{d key p r:Z7}{j k id c e:Int}{y z:Fu}{cs:Z5 Ch}(n:Nat){b a:Z7}
def cw(id:Int)(y:Fu):Rw:=(id,aC y.1.kind y.1.name,bC y)
def InD(D:Z5 Rw)(id:Int)(y:Fu):Prop:=aA y=ZZ/\cw id y∈D
theorem jN(H:aA y=ZZ)(g:aA z=ZZ)(h:bC y=bC z):y=z:=by
 have e:=FQ y H;rw[h,FQ z g] at e;cases e;rfl
theorem xD(i:aA y=ZZ)(l:0<=k/\k<=4)(m:(Z4 d).length<=31)(H:32 ∉ Z4 d)(h:aC y.1.kind y.1.name=aC k d):y.1.kind=k/\y.1.name=d:=by
 have g:=Jm (pH i) l (Jl y i) h;refine⟨g,XI ?_⟩
 have e:=YX Z4 h;obtain⟨k1,K⟩:=Ao y i;rw[iU,iU,Ek.key_yes k _ l m] at e;unfold dL at k1;rw[k1] at e;injection e with _ E
 rw[<-K,E,Ek.trim_pad _ H]
theorem ls(h:Ds.name (Z4 d)=ZZ):(Z4 d).length<=31/\32 ∉ Z4 d:=⟨((Ds.name_parts _).1 h).1.2,Ek.name_no32 _ h⟩
theorem la(g:aA y=ZZ)(H:aA z=ZZ)(h:aC y.1.kind y.1.name=aC z.1.kind z.1.name):y.1.kind=z.1.kind/\y.1.name=z.1.name :=
 xD g (pH H) (iR z H).1 (iR z H).2 h
theorem kM(i:aA y=ZZ)(g:0<=k/\k<=4)(H:Ds.name (Z4 d)=ZZ)(h:aC y.1.kind y.1.name=aC k d):y.1.kind=k/\y.1.name=d :=
 xD i g (ls H).1 (ls H).2 h
theorem InD.rec(H:DstL D)(h:InD D id y):bZ id (aC y.1.kind y.1.name) D=some (bC y):=Jo H h.2
theorem InD.get(H:DstL D)(h:InD D id y):bz D id y.1.kind y.1.name=(y,0):=JR h.1 (h.rec H)
theorem InD.same(g:DstL D)(h:InD D id y)(H:InD D id z)(i:aC y.1.kind y.1.name=aC z.1.kind z.1.name):y=z:=by
 have e:=h.rec g;rw[i,H.rec g] at e;injection e with e
 exact (jN H.1 h.1 e).symm
theorem InD.of_rec(H:aA y=ZZ)(h:bZ id (aC y.1.kind y.1.name) D=some (bC y)):InD D id y:=⟨H,Jj h⟩
theorem mJ(h:(bz D id c d).2=0):InD D id (bz D id c d).1/\aC (bz D id c d).1.1.kind (bz D id c d).1.1.name=aC c d:=by
 obtain⟨-,H,m⟩:=pD h;refine⟨⟨H,?_⟩,m⟩
 unfold cw;rw[m];unfold bz aG at h H |-;by_cases o:aC c d=⟨#[]⟩
 .rw[ZX o] at h;exact absurd (show (1:Int)=0 from h) (by decide)
 rw[Z0 o,Z0 (by decide)] at h H |-
 cases l:bZ id (aC c d) D with
 | none=>rw[l] at h;exact absurd (show (6:Int)=0 from h) (by decide)
 | some s =>
   have q:=Jj l;rw[l] at h H;dsimp only at h H |-
   have e:bC (bw (aC c d) s).1=s:=by
    unfold bC;rw[ZX H];unfold bw at h |-
    cases i:cF (Z4 s) with
    | none=>rw[i] at h;exact absurd (show (11:Int)=0 from h) (by decide)
    | some y =>
      rw[i] at h;dsimp only at h |-;by_cases g:dL y=Z4 (aC c d)
      .rw[ZX g];dsimp only;rw[(mb _ _ i).2,Ds.mk_bl]
      .rw[Z0 g] at h;exact absurd (show (11:Int)=0 from h) (by decide)
   rw[e];exact q
theorem qR(H:DstL D)(h:(bz D id c d).2=6)(g:InD D id y):aC y.1.kind y.1.name≠aC c d:=fun e=>by
 have:=sU h;rw[<-e,g.rec H] at this;cases this
/-! rows behind changes -/
theorem xw{i:Int}{x:Fu}(g:DstL D)(o:aA x=ZZ):InD (apl D [bI i x]) j y↔(j=i/\y=x)\/InD D j y/\¬ (i=j/\aC x.1.kind x.1.name=aC y.1.kind y.1.name):=by
 have m:=Dw [bI i x] g;constructor
 .intro h;have e:=h.rec m;by_cases l:i=j/\aC x.1.kind x.1.name=aC y.1.kind y.1.name
  .obtain⟨rfl,q⟩:=l;rw[<-q] at e;rw[show bZ i (aC x.1.kind x.1.name) (apl D [bI i x])=some (bC x) from JC (a:=[]) g (fun c H=>by cases H)] at e;injection e with e
   exact .inl ⟨rfl,(jN o h.1 e).symm⟩
  .rw[LL g (fun c H=>by rw[Zn.1 H];exact l)] at e;exact .inr ⟨InD.of_rec h.1 e,l⟩
 .rintro (⟨rfl,rfl⟩|⟨h,l⟩)
  .exact InD.of_rec o (JC (a:=[]) g (fun c H=>by cases H))
  .refine InD.of_rec h.1 ?_
   rw[LL g (fun c H=>by rw[Zn.1 H];exact l)];exact h.rec g
theorem tq(H:DstL D)(t:∀ c∈cs,c.2.1=id/\c.2.2.1=key->c.1≠0)(h:∃ c∈cs,c.2.1=id/\c.2.2.1=key):bZ id key (apl D cs)=none:=by
 have:∀ (l:Z5 Ch) (o:Z5 Rw),DstL o->(∀ c∈l,c.2.1=id/\c.2.2.1=key->c.1≠0)->(bZ id key o=none\/∃ c∈l,c.2.1=id/\c.2.2.1=key)->bZ id key (l.foldl eJ o)=none:=by
  intro l
  induction l with
  | nil =>
    rintro o _ _ (h|⟨c,g,-⟩)
    .exact h
    .cases g
  | cons c l I =>
    intro o q m i;rw[YS];refine I _ (Dn c q) (fun d H=>m d (List.mem_cons_of_mem _ H)) ?_
    rw[Ji q];by_cases g:c.2.1=id/\c.2.2.1=key
    .rw[ZX g,Z0 (m c List.mem_cons_self g)];exact .inl rfl
    .rw[Z0 g];rcases i with i|⟨d,H,i⟩
     .exact .inl i
     .rcases Zw.1 H with rfl|H
      .exact absurd i g
      .exact .inr ⟨d,H,i⟩
 exact this cs _ (tB (rD D) H) t (.inr h)
theorem xu(g:DstL D)(m:∀ c∈cs,c.1≠0):InD (apl D cs) j y↔InD D j y/\∀ c∈cs,¬ (c.2.1=j/\c.2.2.1=aC y.1.kind y.1.name):=by
 have l:=Dw cs g;constructor
 .intro h;have e:=h.rec l
  have H:∀ c∈cs,¬ (c.2.1=j/\c.2.2.1=aC y.1.kind y.1.name):=fun c i q=>by
   rw[tq g (fun c i _=>m c i) ⟨c,i,q⟩] at e;cases e
  rw[LL g H] at e;exact⟨InD.of_rec h.1 e,H⟩
 .rintro ⟨h,H⟩;refine InD.of_rec h.1 ?_
  rw[LL g H];exact h.rec g
theorem um(H:DstL D)(t:∀ c∈cs,c.2.1=id/\c.2.2.1=key->c.1=0/\c.2.2.2.1=r)(h:∃ c∈cs,c.2.1=id/\c.2.2.1=key):bZ id key (apl D cs)=some r:=by
 have:∀ (l:Z5 Ch) (o:Z5 Rw),DstL o->(∀ c∈l,c.2.1=id/\c.2.2.1=key->c.1=0/\c.2.2.2.1=r)->(bZ id key o=some r\/∃ c∈l,c.2.1=id/\c.2.2.1=key)->bZ id key (l.foldl eJ o)=some r:=by
  intro l
  induction l with
  | nil =>
    rintro o _ _ (h|⟨c,g,-⟩)
    .exact h
    .cases g
  | cons c l I =>
    intro o q m i;rw[YS];refine I _ (Dn c q) (fun d H=>m d (List.mem_cons_of_mem _ H)) ?_
    rw[Ji q];by_cases g:c.2.1=id/\c.2.2.1=key
    .obtain⟨Q,u⟩:=m c List.mem_cons_self g;rw[ZX g,ZX Q,u];exact .inl rfl
    .rw[Z0 g];rcases i with i|⟨d,H,i⟩
     .exact .inl i
     .rcases Zw.1 H with rfl|H
      .exact absurd i g
      .exact .inr ⟨d,H,i⟩
 exact this cs _ (tB (rD D) H) t (.inr h)
theorem Ei{P:Rw->Prop}(h:∀ x∈D,P x)(t:∀ c∈cs,c.1=0->P (c.2.1,c.2.2.1,c.2.2.2.1)):∀ x∈apl D cs,P x:=by
 have:∀ (l:Z5 Ch) (o:Z5 Rw),(∀ c∈l,c.1=0->P (c.2.1,c.2.2.1,c.2.2.2.1))->(∀ x∈o,P x)->∀ x∈l.foldl eJ o,P x:=by
  intro l
  induction l with
  | nil=>intro o _ g;exact g
  | cons c l I =>
    intro o i g;rw[YS];refine I _ (fun C m=>i C (List.mem_cons_of_mem _ m)) fun x H=>?_
    unfold eJ at H;split at H
    .rename_i q;rcases Zw.1 ((oB _ _).subset H) with rfl|H
     .exact i c List.mem_cons_self q
     .exact g x (List.mem_filter.1 H).1
    .exact g x (List.mem_filter.1 H).1
 exact this cs _ t (fun x H=>h x ((rD D).subset H))
/-! the invariant -/
structure Inv (D:Z5 Rw):Prop where
 dst:DstL D
 row:∀ x∈D,∃ y,aA y=ZZ/\x=cw x.1 y
 loc:∀ id y,InD D id y->(y.1.kind<=2->cj D y.1.name=(id,0))/\(3<=y.1.kind->id=1)
 one:∀ id y z,InD D id y->InD D id z->y.1.kind<=2->z.1.kind<=2->y.1.name=z.1.name->y=z
 ali:∀ id y,InD D id y->y.1.kind=2->∃ z,InD D id z/\z.1.kind<=1/\z.1.name=y.1.target/\XZ (Z4 z.1.name)=ZW
 grp:∀ id y,InD D id y->y.1.kind=0->XZ (Z4 y.1.name)=ZZ->∃ g,InD D id g/\g.1.kind=1/\g.1.name=dK y.1.name
theorem Inv.nil:Inv []:=⟨List.Pairwise.nil,(fun _ h=>by cases h),(fun _ _ h=>by cases h.2),(fun _ _ _ h=>by cases h.2),(fun _ _ h=>by cases h.2),(fun _ _ h=>by cases h.2)⟩
theorem Inv.mem(h:Inv D)(g:x∈D):∃ y,InD D x.1 y/\x=cw x.1 y:=by
 obtain⟨y,i,H⟩:=h.row x g;exact⟨y,⟨i,H ▸ g⟩,H⟩
theorem Inv.get(h:Inv D)(id c:Int)(d:Z7)(H:0<=c/\c<=4)(m:(Z4 d).length<=31):(bz D id c d).2=0\/bz D id c d=(bL,6):=by
 have t:aC c d≠⟨#[]⟩:=fun e=>by
  have E:=YX Z4 e;rw[iU,Ek.key_yes _ _ H m] at E;cases E
 unfold bz aG;rw[Z0 t,Z0 (by decide)]
 cases o:bZ id (aC c d) D with
 | none=>exact .inr rfl
 | some s =>
   obtain⟨y,q,e⟩:=h.mem (Jj o);have E:(id,aC c d,s)=(id,aC y.1.kind y.1.name,bC y):=e;injection E with _ g
   injection g with i l
   dsimp only;rw[i,l,Kw y q.1];exact .inl rfl
theorem Inv.name{D:Z5 Rw}(h:Inv D){id:Int}{y:Fu}(g:InD D id y)(H:y.1.kind<=2):Ds.name (Z4 y.1.name)=ZZ:=by
 have:=(h.loc id y g).1 H;exact (Jr (l:=D) (name:=y.1.name) (by rw[this])).2
theorem Inv.rng(h:Inv D)(H:InD D id y):1<=id/\id<=15:=by
 by_cases g:y.1.kind<=2
 .have e:=(h.loc id y H).1 g;have:=(Jr (l:=D) (name:=y.1.name) (by rw[e])).1;rw[e] at this;exact this
 .rw[(h.loc id y H).2 (by omega)];decide
theorem tJ{D:Z5 Rw}{id:Int}{d:Z7}(l:Ds.name (Z4 d)=ZZ):∀ K:Z5 Int,(∀ k∈K,0<=k/\k<=2)->(ij D id d K).2=0->InD D id (ij D id d K).1/\(ij D id d K).1.1.kind<=2/\(ij D id d K).1.1.name=d
 | [],_,h=>absurd (show (6:Int)=0 from h) (by decide)
 | k::K,i,h=>by
   rw[ij] at h |-;split
   .rename_i H;rw[ZX H] at h;exact tJ l K (fun j o=>i j (List.mem_cons_of_mem _ o)) h
   .rename_i H;rw[Z0 H] at h;obtain⟨m,g⟩:=mJ h;have t:=i k List.mem_cons_self;obtain⟨Q,q⟩:=kM m.1 (by omega) l g;exact⟨m,by omega,q⟩
theorem Gn{D:Z5 Rw}{id:Int}{d:Z7}(h:(dx D id d).2=0):InD D id (dx D id d).1/\(dx D id d).1.1.kind<=2/\(dx D id d).1.1.name=d/\Ds.name (Z4 d)=ZZ:=by
 unfold dx at h |-;cases H:Ds.name (Z4 d)
 .rw[H,ZX rfl] at h;exact absurd (show (1:Int)=0 from h) (by decide)
 .rw[H,Z0 (by simp)] at h;rw[Z0 (by simp)];obtain⟨g,i,l⟩:=tJ H [0,1,2] (by decide) h;exact⟨g,i,l,rfl⟩
theorem tK(m:DstL D)(h:(dx D id d).2=6)(i:InD D id y)(g:y.1.kind<=2):y.1.name≠d:=fun e=>by
 have l:∀ K:Z5 Int,(ij D id d K).2=6->∀ k∈K,(bz D id k d).2=6:=by
  intro K
  induction K with
  | nil=>intro _ k g;cases g
  | cons j K I =>
    intro H k g;rw[ij] at H;split at H
    .rename_i q;rcases Zw.1 g with rfl|g
     .exact q
     .exact I H k g
    .rename_i q;exact absurd H q
 unfold dx at h;split at h
 .exact absurd (show (1:Int)=6 from h) (by decide)
 have o:=pH i.1;have H:=l _ h y.1.kind (by rcases (by omega:y.1.kind=0\/y.1.kind=1\/y.1.kind=2) with q|q|q <;> rw[q] <;> decide);exact qR m H i (by rw[e])
theorem vB(h:cE e=0):e=6:=by
 unfold cE at h;split at h
 .exact absurd h (by decide)
 .split at h
  .assumption
  .rename_i q _;exact absurd h q
/-! the operations keep it -/
theorem lC(h:Inv D)(l:∀ c∈cs,c.1=0->∃ i x,aA x=ZZ/\c=bI i x):∀ x∈apl D cs,∃ y,aA y=ZZ/\x=cw x.1 y :=
 Ei h.row fun c H g=>by
  obtain⟨i,x,m,rfl⟩:=l c H g;exact⟨x,m,rfl⟩
theorem Inv.put(h:Inv D){i:Int}{x:Fu}(J:aA x=ZZ)(G:x.1.kind≠3)(E:∀ y,InD D i y->aC y.1.kind y.1.name≠aC x.1.kind x.1.name)(B:(x.1.kind<=2->cj D x.1.name=(i,0))/\(3<=x.1.kind->i=1))(m:x.1.kind<=2->∀ y,InD D i y->y.1.kind<=2->y.1.name≠x.1.name)(v:x.1.kind=2->∃ z,InD D i z/\z.1.kind<=1/\z.1.name=x.1.target/\XZ (Z4 z.1.name)=ZW)(w:x.1.kind=0->XZ (Z4 x.1.name)=ZZ->∃ g,InD D i g/\g.1.kind=1/\g.1.name=dK x.1.name):Inv (apl D [bI i x]):=by
 have I:I0 3 [bI i x]:=fun c F=>by
  rw[Zn.1 F];exact⟨x.1.kind,x.1.name,pH J,G,rfl⟩
 have T:∀ d,cj (apl D [bI i x]) d=cj D d:=fun d=>JO fun n=>I6 h.dst (by decide) I
 have H:∀ {j y},InD (apl D [bI i x]) j y↔(j=i/\y=x)\/InD D j y:=fun {j y}=>by
  rw[xw h.dst J];constructor
  .rintro (q|⟨q,-⟩)
   .exact .inl q
   .exact .inr q
  .rintro (q|q)
   .exact .inl q
   .refine .inr ⟨q,?_⟩
    rintro ⟨rfl,e⟩;exact E y q e.symm
 refine⟨Dw _ h.dst,lC h (fun c F _=>⟨i,x,J,Zn.1 F⟩),fun id y l=>?_,fun id y z l U K C e=>?_,fun id y l A=>?_,fun id y l A O=>?_⟩
 .rw[T];rcases H.1 l with ⟨rfl,rfl⟩|l
  .exact B
  .exact h.loc id y l
 .rcases H.1 l with ⟨S,L⟩|o <;> rcases H.1 U with ⟨P,N⟩|t
  .rw[L,N]
  .rw[S] at t;rw[L] at e K;exact absurd e.symm (m K z t C)
  .rw[P] at o;rw[N] at e C;exact absurd e (m C y o K)
  .exact h.one id y z o t K C e
 .rcases H.1 l with ⟨rfl,rfl⟩|l
  .obtain⟨z,Q,u⟩:=v A;exact⟨z,H.2 (.inr Q),u⟩
  .obtain⟨z,Q,u⟩:=h.ali id y l A;exact⟨z,H.2 (.inr Q),u⟩
 .rcases H.1 l with ⟨rfl,rfl⟩|l
  .obtain⟨z,Q,u⟩:=w A O;exact⟨z,H.2 (.inr Q),u⟩
  .obtain⟨z,Q,u⟩:=h.grp id y l A O;exact⟨z,H.2 (.inr Q),u⟩
def KpI(D:Z5 Rw)(g:Z5 Ch × Int):Prop:=g.2=0->Inv (apl D g.1)
theorem KpI.bad(h:e≠0):KpI D ([],e):=fun q=>absurd q h
theorem KpI.ite{p:Prop}[Decidable p]{a b:Z5 Ch × Int}(h:p->KpI D a)(H:¬ p->KpI D b):KpI D (if p then a else b):=by
 split
 .exact h ‹_›
 .exact H ‹_›
theorem xg(h:(dp D k d).2=0):k≠3/\(0<=k/\k<=4)/\(k<=2->cj D d=((dp D k d).1,0))/\(3<=k->(dp D k d).1=1):=by
 unfold dp at h |-;by_cases H:k<0\/4<k\/k=3
 .rw[ZX H] at h;exact absurd (show (1:Int)=0 from h) (by decide)
 rw[Z0 H] at h |-;by_cases g:k=4
 .rw[ZX g] at h |-;exact⟨by omega,by omega,fun q=>by omega,fun _=>rfl⟩
 .rw[Z0 g] at h |-;exact⟨by omega,by omega,fun _=>by rw[<-h],fun q=>by omega⟩
theorem EX(h:Inv D)(x:Fu):KpI D (jg D x):=by
 unfold jg;refine KpI.ite (fun o=>?_) (fun _=>KpI.bad (by decide))
 refine KpI.ite (fun q=>KpI.bad q) (fun L=>?_)
 obtain⟨E,-,l⟩:=xg (Zk L);generalize (dp D x.1.kind x.1.name).1=id at l |-;unfold iK;rw[ZX o];refine KpI.ite (fun q=>KpI.bad q) (fun ha=>KpI.ite (fun q=>KpI.bad q.2) (fun O=>KpI.ite (fun q=>KpI.bad q) (fun P _=>?_)))
 have i:lR D id x=6:=vB (Zk ha);have H:fV D id x=0:=Zk P
 have m:x.1.kind<=2->∀ y,InD D id y->y.1.kind<=2->y.1.name≠x.1.name:=fun t y v S=>by
  unfold lR at i;rw[Z0 (by omega)] at i;exact tK h.dst i v S
 refine h.put o E (fun y v e=>?_) l m (fun t=>?_) (fun t u=>?_)
 .by_cases t:x.1.kind<=2
  .obtain⟨J,Q⟩:=la v.1 o e;exact m t y v (by omega) Q
  .unfold lR at i;rw[ZX (by omega)] at i;exact qR h.dst i v e
 .unfold fV at H;rw[Z0 (fun q=>q t)] at H;have A:=@Gn D id x.1.target;generalize dx D id x.1.target=g at H A;obtain⟨z,c⟩:=g;dsimp only at H A;by_cases w:c=0
  .rw[Z0 (fun q=>q w)] at H;split at H
   .exact absurd H (by decide)
   .rename_i I;obtain⟨F,G,K,-⟩:=A w;refine⟨z,F,?_,K,?_⟩
    .have:¬ z.1.kind=2:=fun q=>I (.inr q)
     omega
    .exact YJ.2 fun q=>I (.inl q)
  .rw[ZX w] at H;exact absurd H w
 .have B:(bz D id 1 (dK x.1.name)).2=0:=Zk fun q=>O ⟨⟨u,t⟩,q⟩
  obtain⟨F,G⟩:=mJ B;have C:=KO _ u;obtain⟨N,-,-⟩:=(Ds.group_parts _).1 C;rw[<-Ki] at N;obtain⟨J,Q⟩:=kM F.1 (by decide) N G;exact⟨_,F,J,Q⟩
theorem jc(h:aA y=ZZ):(Z4 (aC y.1.kind y.1.name)).head?=some (Ek.letter y.1.kind)/\aN (aC y.1.kind y.1.name)=y.1.name:=by
 have H:=iR y h;rw[iU,Ek.key_yes _ _ (pH h) H.1];refine⟨rfl,XI ?_⟩
 unfold aN;rw[Ds.bl_mk,iU,Ek.key_yes _ _ (pH h) H.1];exact Ek.trim_pad _ H.2
theorem nQ(h:Inv D)(q:0<=k/\k<=4):x∈srt id (Ek.letter k) D↔∃ y,InD D id y/\y.1.kind=k/\x=cw id y:=by
 have o:=iV id (Ek.letter k) D D.length x;rw[ZC (ZS _)] at o;rw[o];constructor
 .rintro ⟨t,i⟩;obtain⟨y,H,e⟩:=h.mem t;unfold cH at i;rw[ZT,ZU,ZU] at i;obtain⟨rfl,m⟩:=i;refine⟨y,H,?_,e⟩
  rw[e] at m;have g:(Z4 (aC y.1.kind y.1.name)).head?=some (Ek.letter k):=m;rw[(jc H.1).1] at g;injection g with g
  exact Ek.letter_inj _ _ (pH H.1) q g
 .rintro ⟨y,H,l,rfl⟩;refine⟨H.2,?_⟩
  unfold cH;rw[ZT,ZU,ZU];refine⟨rfl,?_⟩
  show (Z4 (aC y.1.kind y.1.name)).head?=_
  rw[(jc H.1).1,l]
theorem qL(name:Z7):∀ (S:Z5 Rw) (o:Z5 Fu),(∀ x∈S,∃ y,aA y=ZZ/\x=cw x.1 y)->(eH name S o).2=0/\∀ a,a∈(eH name S o).1↔a∈o\/∃ x∈S,aA a=ZZ/\x=cw x.1 a/\a.1.target=name
 | [],o,_=>⟨rfl,fun a=>by rw[eH];constructor;exact .inl;rintro (q|⟨x,C,-⟩);exact q;cases C⟩
 | x::S,o,h=>by
   obtain⟨y,m,e⟩:=h x List.mem_cons_self;have v:=fun z H=>h z (List.mem_cons_of_mem _ H)
   have B:bw x.2.1 x.2.2=(y,0):=by rw[e];exact Kw y m
   have g:∀ a,(∃ z∈x::S,aA a=ZZ/\z=cw z.1 a/\a.1.target=name)↔(a=y/\y.1.target=name)\/∃ z∈S,aA a=ZZ/\z=cw z.1 a/\a.1.target=name:=fun a=>by
    constructor
    .rintro ⟨z,H,w,u,A⟩;rcases Zw.1 H with rfl|H
     .rw[e] at u;have Q:cw z.1 y=cw z.1 a:=u;unfold cw at Q;injection Q with _ Q
      injection Q with _ Q
      have:=jN m w Q;subst this;exact .inl ⟨rfl,A⟩
     .exact .inr ⟨z,H,w,u,A⟩
    .rintro (⟨rfl,q⟩|⟨z,H,q⟩)
     .exact⟨x,List.mem_cons_self,m,e,q⟩
     .exact⟨z,List.mem_cons_of_mem _ H,q⟩
   rw[eH,B,Z0 (by simp)];by_cases t:y.1.target=name
   .rw[ZX t];obtain⟨i,l⟩:=qL name S (o++[y]) v;refine⟨i,fun a=>?_⟩
    rw[l,g,YP,Zn,or_assoc];constructor
    .rintro (q|q|q)
     .exact .inl q
     .exact .inr (.inl ⟨q,t⟩)
     .exact .inr (.inr q)
    .rintro (q|⟨q,-⟩|q)
     .exact .inl q
     .exact .inr (.inl q)
     .exact .inr (.inr q)
   .rw[Z0 t];obtain⟨i,l⟩:=qL name S o v;refine⟨i,fun a=>?_⟩
    rw[l,g];constructor
    .rintro (q|q)
     .exact .inl q
     .exact .inr (.inr q)
    .rintro (q|⟨-,q⟩|q)
     .exact .inl q
     .exact absurd q t
     .exact .inr q
theorem Inv.alis(h:Inv D)(id:Int)(name:Z7):(cW D id name).2=0/\∀ a,a∈(cW D id name).1↔InD D id a/\a.1.kind=2/\a.1.target=name:=by
 have l:∀ x,x∈srt id 65 D↔∃ y,InD D id y/\y.1.kind=2/\x=cw id y:=fun x=>nQ h (k:=2) (by decide)
 obtain⟨t,u⟩:=qL name (srt id 65 D) [] fun x m=>by
  obtain⟨y,H,-,e⟩:=(l x).1 m;exact⟨y,H.1,by rw[e];rfl⟩
 refine⟨t,fun a=>?_⟩
 show a∈(eH name (srt id 65 D) []).1↔_
 rw[u];constructor
 .rintro (q|⟨x,m,g,i,o⟩)
  .cases q
  .obtain⟨y,H,v,e⟩:=(l x).1 m;rw[e] at i;have Q:cw id y=cw id a:=i;unfold cw at Q;injection Q with _ Q
   injection Q with _ Q
   have:=jN H.1 g Q;subst this;exact⟨H,v,o⟩
 .rintro ⟨g,i,o⟩;exact .inr ⟨cw id a,(l _).2 ⟨a,g,i,rfl⟩,g.1,rfl,o⟩
theorem uY(g:Z7):∀ (S:Z5 Rw) (o:Z5 Int),gW g S o=[]->o=[]/\∀ x∈S,¬ ((XZ (Z4 (aN x.2.1))=ZZ/\dK (aN x.2.1)=g)/\x.2.1=aC 0 (aN x.2.1))
 | [],o,h=>⟨h,fun _ q=>by cases q⟩
 | x::S,o,h=>by
   rw[gW] at h;obtain⟨H,m⟩:=uY g S _ h;by_cases i:(XZ (Z4 (aN x.2.1))=ZZ/\dK (aN x.2.1)=g)/\x.2.1=aC 0 (aN x.2.1)
   .rw[ZX i] at H;simp at H
   .rw[Z0 i] at H;refine⟨H,fun z l=>?_⟩
    rcases Zw.1 l with rfl|l
    .exact i
    .exact m z l
theorem Inv.nums(h:Inv D){g:Z7}(m:jj D id g=[])(i:InD D id y)(H:y.1.kind=0)(l:XZ (Z4 y.1.name)=ZZ):dK y.1.name≠g:=fun e=>by
 have o:cw id y∈srt id 68 D:=(nQ h (k:=0) (by decide)).2 ⟨y,i,H,rfl⟩;obtain⟨Q,q⟩:=jc i.1;refine (uY g (srt id 68 D) [] m).2 _ o ?_
 show (XZ (Z4 (aN (aC y.1.kind y.1.name)))=ZZ/\dK (aN (aC y.1.kind y.1.name))=g)/\aC y.1.kind y.1.name=aC 0 (aN (aC y.1.kind y.1.name))
 rw[q];exact⟨⟨l,e⟩,by rw[H]⟩
/-! removing -/
theorem Inv.del(h:Inv D){E:Z5 Fu}(F:∀ e∈E,InD D id e/\e.1.kind≠3)(t:∀ y,InD D id y->y.1.kind=2->y ∉ E->∀ z,InD D id z->z.1.kind<=1->z.1.name=y.1.target->z ∉ E)(v:∀ y,InD D id y->y.1.kind=0->XZ (Z4 y.1.name)=ZZ->y ∉ E->∀ g,InD D id g->g.1.kind=1->g.1.name=dK y.1.name->g ∉ E):Inv (apl D (E.map (bJ id))):=by
 have J:∀ c∈E.map (bJ id),c.1≠0:=fun c l=>by
  obtain⟨e,-,rfl⟩:=X7.1 l;exact (show (1:Int)≠0 by decide)
 have G:I0 3 (E.map (bJ id)):=fun c l=>by
  obtain⟨e,u,rfl⟩:=X7.1 l;exact⟨e.1.kind,e.1.name,pH (F e u).1.1,(F e u).2,rfl⟩
 have O:∀ d,cj (apl D (E.map (bJ id))) d=cj D d:=fun d=>JO fun n=>I6 h.dst (by decide) G
 have H:∀ {j y},InD (apl D (E.map (bJ id))) j y↔InD D j y/\¬ (j=id/\y∈E):=fun {j y}=>by
  rw[xu h.dst J];constructor
  .rintro ⟨Q,o⟩;refine⟨Q,?_⟩
   rintro ⟨rfl,q⟩;exact o _ (X7.2 ⟨y,q,rfl⟩) ⟨rfl,rfl⟩
  .rintro ⟨Q,o⟩;refine⟨Q,fun c l=>?_⟩
   obtain⟨e,u,rfl⟩:=X7.1 l;rintro ⟨L,N⟩;have C:id=j:=L;subst C;have:=(F e u).1.same h.dst Q N;subst this;exact o ⟨rfl,u⟩
 refine⟨Dw _ h.dst,lC h (fun c l q=>absurd q (J c l)),fun i y m=>?_,fun i y z m P=>?_,fun i y m w=>?_,fun i y m w K=>?_⟩
 .rw[O];exact h.loc i y (H.1 m).1
 .exact h.one i y z (H.1 m).1 (H.1 P).1
 .obtain⟨Q,o⟩:=H.1 m;obtain⟨z,Z,A,B,S⟩:=h.ali i y Q w;refine⟨z,H.2 ⟨Z,?_⟩,A,B,S⟩
  rintro ⟨rfl,q⟩;exact t y Q w (fun I=>o ⟨rfl,I⟩) z Z A B q
 .obtain⟨Q,o⟩:=H.1 m;obtain⟨z,Z,A,B⟩:=h.grp i y Q w K;refine⟨z,H.2 ⟨Z,?_⟩,A,B⟩
  rintro ⟨rfl,q⟩;exact v y Q w K (fun I=>o ⟨rfl,I⟩) z Z A B q
theorem Fx(h:Inv D)(c:Int)(name:Z7):KpI D (jb D c name):=by
 unfold jb;refine KpI.ite (fun q=>KpI.bad q) (fun U=>?_)
 obtain⟨V,C,i,-⟩:=xg (Zk U);generalize (dp D c name).1=id at i |-;unfold gX;refine KpI.ite (fun q=>KpI.bad q) (fun O=>?_)
 obtain⟨v,w⟩:=mJ (Zk O);have S:(bz D id c name).1.1.kind=c:=Jm (pH v.1) C (Jl _ v.1) w
 have o:c<=2->(bz D id c name).1.1.name=name:=fun P=>by
  have W:=(Jr (l:=D) (name:=name) (by rw[i P])).2;exact (kM v.1 C W w).2
 generalize (bz D id c name).1=e at v S o |-;refine KpI.ite (fun _=>KpI.bad (by decide)) (fun F=>KpI.ite (fun Q=>KpI.ite (fun q=>KpI.bad q) (fun _ _=>?_)) (fun Q _=>?_))
 .obtain⟨-,ha⟩:=h.alis id name;generalize (cW D id name).1=A at ha |-;dsimp only;have N:A.map (bJ id)++[bJ id e]=(A++[e]).map (bJ id):=by rw[List.map_append];rfl
  rw[N];have H:∀ z,z∈A++[e]↔z∈A\/z=e:=fun z=>by rw[YP,Zn]
  refine h.del (fun z t=>?_) (fun y G J E z t L u=>?_) (fun y G I K E g O B m=>?_)
  .rcases (H z).1 t with t|rfl
   .obtain⟨X,Y,-⟩:=(ha z).1 t;exact⟨X,by omega⟩
   .exact⟨v,by omega⟩
  .rw[H];rintro (q|rfl)
   .have:=((ha z).1 q).2.1;omega
   .rw[o (by omega)] at u;exact E ((H y).2 (.inl ((ha y).2 ⟨G,J,u.symm⟩)))
  .rw[H];rintro (q|rfl)
   .have:=((ha g).1 q).2.1;omega
   .rw[o (by omega)] at m;have P:c=1:=by omega
    have T:jj D id name=[]:=Zk fun q=>F ⟨P,q⟩
    exact h.nums T G I K m.symm
 .dsimp only;have N:[bJ id e]=[e].map (bJ id):=rfl;rw[N];refine h.del (fun z t=>?_) (fun y G J E z t L u q=>?_) (fun y G I K E g O B m q=>?_)
  .rw[Zn.1 t];exact⟨v,by omega⟩
  .rw[Zn.1 q] at L;omega
  .rw[Zn.1 q] at B;omega
/-! renaming -/
theorem Fy(h:Inv D)(name T:Z7):KpI D (jd D name T):=by
 unfold jd;refine KpI.ite (fun _=>KpI.bad (by decide)) (fun ad=>KpI.ite (fun q=>KpI.bad q) (fun h1=>KpI.ite (fun q=>KpI.bad q) (fun h2=>KpI.ite (fun _=>KpI.bad (by decide)) (fun h3=>?_))))
 have w1:(cj D name).2=0:=Zk h1;have w2:(cj D T).2=0:=Zk h2;have w3:(cj D name).1=(cj D T).1:=Zk h3;unfold gu;refine KpI.ite (fun _=>KpI.bad (by decide)) (fun _=>KpI.ite (fun q=>KpI.bad q) (fun hg=>KpI.ite (fun _=>KpI.bad (by decide)) (fun Z=>KpI.ite (fun q=>KpI.bad q) (fun N=>KpI.ite (fun q=>KpI.bad q) (fun _ _=>?_)))))
 obtain⟨-,hn⟩:=Jr w2;obtain⟨-,a9⟩:=Jr w1;rw[w3] at hg N |-;generalize a7:(cj D T).1=id at hg N |-;have hw:cj D T=(id,0):=by rw[<-a7,<-w2]
 have a5:(bz D id 0 name).2=0:=Zk hg;have V:cE (dx D id T).2=0:=Zk N;have o:∀ y,InD D id y->y.1.kind<=2->y.1.name≠T:=fun y hy S=>tK h.dst (vB V) hy S
 obtain⟨K,a4⟩:=mJ a5;obtain⟨S,a2⟩:=kM K.1 (by decide) a9 a4;obtain⟨-,ha⟩:=h.alis id name;generalize (cW D id name).1=A at ha |-;generalize (bz D id 0 name).1=e at K S a2 |-;have L:XZ (Z4 T)=ZW:=YJ.2 fun q=>Z (Or.inr q)
 have a6:XZ (Z4 name)=ZW:=YJ.2 fun q=>Z (Or.inl q)
 have B:=Eg K.1 S hn;have a1:(dz e T).1.kind=0:=S;have l:(dz e T).1.name=T:=rfl
 have hA:∀ a∈A,aA (bT a T)=ZZ:=fun a H=>by
  obtain⟨Q,P,-⟩:=(ha a).1 H;exact Eh Q.1 P hn (fun q=>o a Q (by omega) q.symm)
 dsimp only;unfold jO;generalize hY:dz e T=y at B a1 l |-;generalize G:bJ id e::bI id y::A.map (fun a=>bI id (bT a T))=cs
 have m:∀ c∈cs,c=bJ id e\/c=bI id y\/∃ a∈A,c=bI id (bT a T):=fun c v=>by
  rw[<-G] at v;rcases Zw.1 v with rfl|v
  .exact .inl rfl
  rcases Zw.1 v with rfl|v
  .exact .inr (.inl rfl)
  obtain⟨a,ha,rfl⟩:=X7.1 v;exact .inr (.inr ⟨a,ha,rfl⟩)
 have m1:bJ id e∈cs:=by rw[<-G];exact List.mem_cons_self
 have m2:bI id y∈cs:=by rw[<-G];exact List.mem_cons_of_mem _ List.mem_cons_self
 have m3:∀ a∈A,bI id (bT a T)∈cs:=fun a H=>by rw[<-G];exact List.mem_cons_of_mem _ (List.mem_cons_of_mem _ (X7.2 ⟨a,H,rfl⟩))
 have aa:I0 3 cs:=fun c v=>by
  rcases m c v with rfl|rfl|⟨a,H,rfl⟩
  .exact⟨e.1.kind,e.1.name,pH K.1,by rw[S];decide,rfl⟩
  .exact⟨y.1.kind,y.1.name,pH B,by rw[a1];decide,rfl⟩
  .exact⟨(bT a T).1.kind,(bT a T).1.name,pH (hA a H),by rw[show (bT a T).1.kind=2 from ((ha a).1 H).2.1];decide,rfl⟩
 have ac:∀ d,cj (apl D cs) d=cj D d:=fun d=>JO fun n=>I6 h.dst (by decide) aa
 have kA:∀ a∈A,aC (bT a T).1.kind (bT a T).1.name=aC a.1.kind a.1.name:=fun a _=>rfl
 have Y:aC e.1.kind e.1.name≠aC y.1.kind y.1.name:=fun q=>by
  obtain⟨-,P⟩:=la K.1 B q;rw[l] at P;exact o e K (by omega) P
 have X:∀ a∈A,aC e.1.kind e.1.name≠aC a.1.kind a.1.name:=fun a H q=>by
  obtain⟨Q,P,-⟩:=(ha a).1 H;have:=(la K.1 Q.1 q).1;omega
 have a3:∀ a∈A,aC y.1.kind y.1.name≠aC a.1.kind a.1.name:=fun a H q=>by
  obtain⟨Q,P,-⟩:=(ha a).1 H;have:=(la B Q.1 q).1;omega
 have r1:bZ id (aC y.1.kind y.1.name) (apl D cs)=some (bC y):=um h.dst (fun c v q=>by
  rcases m c v with rfl|rfl|⟨a,H,rfl⟩
  .exact absurd q.2 Y
  .exact⟨rfl,rfl⟩
  .exact absurd q.2.symm (a3 a H)) ⟨_,m2,rfl,rfl⟩
 have r2:∀ a∈A,bZ id (aC a.1.kind a.1.name) (apl D cs)=some (bC (bT a T)):=fun a H=>um h.dst (fun c v q=>by
  rcases m c v with rfl|rfl|⟨b,F,rfl⟩
  .exact absurd q.2 (X a H)
  .exact absurd q.2 (a3 a H)
  .have:=((ha b).1 F).1.same h.dst ((ha a).1 H).1 q.2;subst this;exact⟨rfl,rfl⟩) ⟨_,m3 a H,rfl,rfl⟩
 have r3:bZ id (aC e.1.kind e.1.name) (apl D cs)=none:=tq h.dst (fun c v q=>by
  rcases m c v with rfl|rfl|⟨a,H,rfl⟩
  .exact (show (1:Int)≠0 by decide)
  .exact absurd q.2.symm Y
  .exact absurd q.2.symm (X a H)) ⟨_,m1,rfl,rfl⟩
 have W:=Dw cs h.dst
 have w:∀ {j z},InD (apl D cs) j z↔(j=id/\(z=y\/∃ a∈A,z=bT a T))\/InD D j z/\¬ (j=id/\(z=e\/z∈A)):=fun {j z}=>by
  constructor
  .intro g;have E:=g.rec W;by_cases hj:j=id
   .subst hj;by_cases c1:aC z.1.kind z.1.name=aC y.1.kind y.1.name
    .rw[c1,r1] at E;injection E with E
     exact .inl ⟨rfl,.inl (jN B g.1 E).symm⟩
    by_cases U:∃ a∈A,aC z.1.kind z.1.name=aC a.1.kind a.1.name
    .obtain⟨a,H,U⟩:=U;rw[U,r2 a H] at E;injection E with E
     exact .inl ⟨rfl,.inr ⟨a,H,(jN (hA a H) g.1 E).symm⟩⟩
    by_cases c3:aC z.1.kind z.1.name=aC e.1.kind e.1.name
    .rw[c3,r3] at E;cases E
    rw[LL h.dst (fun c v q=>by
     rcases m c v with rfl|rfl|⟨a,H,rfl⟩
     .exact c3 q.2.symm
     .exact c1 q.2.symm
     .exact U ⟨a,H,q.2.symm⟩)] at E
    refine .inr ⟨InD.of_rec g.1 E,?_⟩
    rintro ⟨-,rfl|q⟩
    .exact c3 rfl
    .exact U ⟨z,q,rfl⟩
   .rw[LL h.dst (fun c v q=>by
     rcases m c v with rfl|rfl|⟨a,H,rfl⟩
     .exact hj q.1.symm
     .exact hj q.1.symm
     .exact hj q.1.symm)] at E
    exact .inr ⟨InD.of_rec g.1 E,fun q=>hj q.1⟩
  .rintro (⟨rfl,rfl|⟨a,H,rfl⟩⟩|⟨g,hq⟩)
   .exact InD.of_rec B r1
   .exact InD.of_rec (hA a H) (r2 a H)
   .refine InD.of_rec g.1 ?_
    rw[LL h.dst (fun c v q=>?_)]
    .exact g.rec h.dst
    .rcases m c v with rfl|rfl|⟨a,H,rfl⟩
     .have Q:id=j:=q.1;subst Q;exact hq ⟨rfl,.inl (K.same h.dst g q.2).symm⟩
     .have Q:id=j:=q.1;subst Q;obtain⟨P,q3⟩:=la B g.1 q.2;rw[l] at q3;exact o z g (by omega) q3.symm
     .have Q:id=j:=q.1;subst Q;have:=((ha a).1 H).1.same h.dst g q.2;subst this;exact hq ⟨rfl,.inr H⟩
 have C:∀ a∈A,(bT a T).1.kind=2/\(bT a T).1.name=a.1.name/\(bT a T).1.target=T:=fun a H=>⟨((ha a).1 H).2.1,rfl,rfl⟩
 refine⟨W,lC h (fun c v h0=>?_),fun i z g=>?_,fun i z u g I kz ku eq=>?_,fun i z g a0=>?_,fun i z g a8 O=>?_⟩
 .rcases m c v with rfl|rfl|⟨a,H,rfl⟩
  .exact absurd (show (1:Int)=0 from h0) (by decide)
  .exact⟨id,y,B,rfl⟩
  .exact⟨id,_,hA a H,rfl⟩
 .rw[ac];rcases w.1 g with ⟨rfl,rfl|⟨a,H,rfl⟩⟩|⟨g,-⟩
  .rw[l];exact⟨fun _=>hw,fun q=>by omega⟩
  .obtain⟨t1,t2,-⟩:=C a H;rw[t2];exact⟨fun _=>(h.loc _ a ((ha a).1 H).1).1 (by have:=((ha a).1 H).2.1;omega),fun q=>by omega⟩
  .exact h.loc i z g
 .rcases w.1 g with ⟨rfl,rfl|⟨a,H,rfl⟩⟩|⟨g,J⟩
  .rcases w.1 I with ⟨-,rfl|⟨b,F,rfl⟩⟩|⟨I,-⟩
   .rfl
   .rw[l,(C b F).2.1] at eq;exact absurd eq.symm (o b ((ha b).1 F).1 (by have:=((ha b).1 F).2.1;omega))
   .rw[l] at eq;exact absurd eq.symm (o u I ku)
  .rw[(C a H).2.1] at eq;have ka:=((ha a).1 H).2.1;rcases w.1 I with ⟨-,rfl|⟨b,F,rfl⟩⟩|⟨I,ab⟩
   .rw[l] at eq;exact absurd eq (o a ((ha a).1 H).1 (by omega))
   .rw[(C b F).2.1] at eq;have kb:=((ha b).1 F).2.1;have:=h.one _ a b ((ha a).1 H).1 ((ha b).1 F).1 (by omega) (by omega) eq;rw[this]
   .have:=h.one _ a u ((ha a).1 H).1 I (by omega) ku eq;subst this;exact absurd ⟨rfl,.inr H⟩ ab
  .rcases w.1 I with ⟨rfl,rfl|⟨b,F,rfl⟩⟩|⟨I,-⟩
   .rw[l] at eq;exact absurd eq (o z g kz)
   .rw[(C b F).2.1] at eq;have kb:=((ha b).1 F).2.1;have:=h.one _ z b g ((ha b).1 F).1 kz (by omega) eq;subst this;exact absurd ⟨rfl,.inr F⟩ J
   .exact h.one i z u g I kz ku eq
 .rcases w.1 g with ⟨rfl,rfl|⟨a,H,rfl⟩⟩|⟨g,J⟩
  .omega
  .refine⟨y,w.2 (.inl ⟨rfl,.inl rfl⟩),by omega,?_,?_⟩
   .rw[l,(C a H).2.2]
   .rw[l];exact L
  .obtain⟨t,t1,t2,t3,t4⟩:=h.ali i z g a0;refine⟨t,w.2 (.inr ⟨t1,?_⟩),t2,t3,t4⟩
   rintro ⟨rfl,rfl|q⟩
   .rw[a2] at t3;exact J ⟨rfl,.inr ((ha z).2 ⟨g,a0,t3.symm⟩)⟩
   .have:=((ha t).1 q).2.1;omega
 .rcases w.1 g with ⟨rfl,rfl|⟨a,H,rfl⟩⟩|⟨g,J⟩
  .rw[l,L] at O;cases O
  .have:=(C a H).1;omega
  .obtain⟨t,t1,t2,t3⟩:=h.grp i z g a8 O;refine⟨t,w.2 (.inr ⟨t1,?_⟩),t2,t3⟩
   rintro ⟨rfl,rfl|q⟩
   .omega
   .have:=((ha t).1 q).2.1;omega
theorem jn(H:Ds.name s=ZZ)(h:(Y1 s).length<=n):Xj n s=s:=by
 unfold Xj;rw[ZX H,Int.toNat_natCast,ZC h,WU]
theorem BZ(H:Ds.name s=ZZ)(h:0<n):(Y1 (Xj n s)).length<=n:=by
 rw[(Ds.first_take s n H h).2];exact List.length_take_le _ _
theorem Bs(h:Ds.name s=ZZ):Xj 1 (Xj 2 s)=Xj 1 s:=by
 obtain⟨i,l⟩:=Ds.first_take s 2 h (by decide)
 have e:∀ t:Z5 UInt8,Ds.name t=ZZ->Xj 1 t=Lib.join ((Y1 t).take 1) [46]:=fun t H=>by
  unfold Xj;rw[ZX H];rfl
 have F:Ds.name (Xj 2 s)=ZZ:=i;have g:Y1 (Xj 2 s)=(Y1 s).take 2:=l;rw[e _ F,e _ h,g,List.take_take];rfl
theorem g5(n:Int)(s:Z7):Z4 (iF n s)=Xj n (Z4 s):=Ds.bl_mk _
theorem oa{s:Z7}(h:0<n)(H:Ds.name (Z4 s)=ZZ):Ds.name (Z4 (iF n s))=ZZ:=by
 rw[g5];exact (Ds.first_take _ n H h).1
theorem mh(g:dy p=ZZ)(o:Ds.name (Z4 d)=ZZ)(n:Nat)(F:0<n)(h:iF n d=p):Ds.match_ (Z4 (p++⟨#[46,42,42]⟩)) (Z4 d)=ZZ:=by
 have u:Z4 (p++⟨#[46,42,42]⟩)=Z4 p++[46,42,42]:=by unfold Z4;simp
 rw[u]
 have H:Ds.name (Z4 p)=ZZ:=by
  unfold dy at g;rw[ZT] at g;exact g.1
 have i:(Z4 p).length<=28:=by
  unfold dy at g;rw[ZT,ZU] at g;have v:=g.2;have t:=(Ds.name_parts _).1 H;have J:(Z4 p).count 46<2:=by unfold Lib.countByte at v;unfold Z4;omega
  have l:=Ds.pieces_len (Z4 p);have w:=WU (Z4 p);rw[<-w];have Q:∀ q∈Y1 (Z4 p),q.length<=8:=fun q C=>Ds.qual_le _ _ _ (t.2 q C)
  generalize Y1 (Z4 p)=P at l Q;rcases P with _|⟨a,_|⟨b,_|⟨c,r⟩⟩⟩
  .simp [Lib.join]
  .have:=Q a (by simp);rw[jn1];omega
  .have G:=Q a (by simp);have I:=Q b (by simp);rw[Ds.join_cons2];rw[jn1];simp only[ZQ,Yw];omega
  .simp only[ZK] at l;omega
 rw[Ds.match_below _ _ (Ds.name_pat _ H) i o,List.any_eq_true];have m:Xj n (Z4 d)=Z4 p:=by rw[<-h,g5]
 have B:0<(Y1 (Z4 d)).length:=List.length_pos_iff.2 (Ds.pieces_ne _);by_cases A:n<=(Y1 (Z4 d)).length
 .refine⟨n - 1,by rw[Ww];omega,?_⟩
  have E:((n - 1:Nat):Int)+1=(n:Int):=by omega
  rw[E,m,Ds.match_self _ _ H H,ZL rfl]
 .refine⟨(Y1 (Z4 d)).length - 1,by rw[Ww];omega,?_⟩
  have E:(((Y1 (Z4 d)).length - 1:Nat):Int)+1=((Y1 (Z4 d)).length:Int):=by omega
  rw[jn _ n o (by omega)] at m;rw[E,jn _ _ o (ZS _),m,Ds.match_self _ _ H H,ZL rfl]
theorem yN(m:dy p=ZZ)(H:InD D id y)(t:y.1.kind<=2)(l:Ds.name (Z4 y.1.name)=ZZ)(n:Nat)(g:0<n)(h:iF n y.1.name=p):fI D id p=ZZ:=by
 unfold fI;rw[List.any_eq_true];refine⟨cw id y,H.2,?_⟩
 obtain⟨q,Q⟩:=jc H.1
 have i:(Z4 (aC y.1.kind y.1.name)).headD 0=Ek.letter y.1.kind:=by
  rw[List.headD_eq_head?_getD,q];rfl
 unfold iw;show (decide (id=id)&&((decide ((Z4 (aC y.1.kind y.1.name)).headD 0=68) || decide ((Z4 (aC y.1.kind y.1.name)).headD 0=71) || decide ((Z4 (aC y.1.kind y.1.name)).headD 0=65))&&Ds.match_ (Z4 (p++⟨#[46,42,42]⟩)) (Z4 (aN (aC y.1.kind y.1.name)))))=ZZ
 rw[i,Q,mh m l n g h];have o:=(pH H.1).1;rcases (by omega:y.1.kind=0\/y.1.kind=1\/y.1.kind=2) with e|e|e <;> rw[e] <;> simp [Ek.letter]
theorem g7(l:Z5 Rw)(h:Ds.name (Z4 d)=ZZ):cj l d=(if (bz l 1 3 (iF 2 d)).2=0 then ((bz l 1 3 (iF 2 d)).1.1.cat,0) else if (bz l 1 3 (iF 2 d)).2=6 then (if (bz l 1 3 (iF 1 d)).2=0 then ((bz l 1 3 (iF 1 d)).1.1.cat,0) else if (bz l 1 3 (iF 1 d)).2=6 then (1,0) else (0,(bz l 1 3 (iF 1 d)).2)) else (0,(bz l 1 3 (iF 2 d)).2)):=by
 have E:((1+1:Nat):Int)=2:=rfl;have g:((0+1:Nat):Int)=1:=rfl;unfold cj;rw[h,Z0 (by simp),dn,dn,dn,kp,kp,kp,E,g]
theorem uO(H:0<=k/\k<=4)(ha:Ds.name (Z4 a)=ZZ)(l:Ds.name (Z4 b)=ZZ)(h:aC k a=aC k b):a=b:=by
 have e:=YX Z4 h;have S:=ls ha;have g:=ls l;rw[iU,iU,Ek.key_yes k _ H S.1,Ek.key_yes k _ H g.1] at e;injection e with _ i
 have E:=YX Ek.trim i;rw[Ek.trim_pad _ S.2,Ek.trim_pad _ g.2] at E;exact XI E
theorem oy(l:Ds.name (Z4 p)=ZZ)(H:Ds.name (Z4 d)=ZZ)(i:∀ q,aC 3 q≠aC 3 p->bz f 1 3 q=bz D 1 3 q)(t:iF 2 d≠p)(o:iF 1 d=p->(bz D 1 3 (iF 2 d)).2≠6):cj f d=cj D d:=by
 have N:=oa 1 (by decide) H;have u:=oa 2 (by decide) H;have m:=i (iF 2 d) (fun e=>t (uO (by decide) u l e));rw[g7 f H,g7 D H,m];by_cases g:(bz D 1 3 (iF 2 d)).2=6
 .have G:=i (iF 1 d) (fun e=>o (uO (by decide) N l e) g);rw[G]
 .by_cases h:(bz D 1 3 (iF 2 d)).2=0
  .rw[ZX h,ZX h]
  .rw[Z0 h,Z0 h,Z0 g,Z0 g]
theorem Inv.cat(h:Inv D)(B:DstL f)(w:∀ x∈f,∃ y,aA y=ZZ/\x=cw x.1 y)(o:∀ j z,InD f j z->InD D j z\/j=1/\z.1.kind=3)(g:∀ j z,InD D j z->z.1.kind≠3->InD f j z)(E:∀ j y,InD D j y->y.1.kind<=2->cj f y.1.name=cj D y.1.name):Inv f:=by
 have m:∀ j z,InD f j z->z.1.kind<=2->InD D j z:=fun j z u H=>by
  rcases o j z u with q|⟨-,q⟩
  .exact q
  .omega
 refine⟨B,w,fun i y l=>⟨fun H=>?_,fun H=>?_⟩,fun i y z l u H t=>h.one i y z (m i y l H) (m i z u t) H t,fun i y l H=>?_,fun i y l H C=>?_⟩
 .have q:=m i y l H;rw[E i y q H];exact (h.loc i y q).1 H
 .rcases o i y l with q|⟨q,-⟩
  .exact (h.loc i y q).2 H
  .exact q
 .obtain⟨z,Z,v,A⟩:=h.ali i y (m i y l (by omega)) H;exact⟨z,g i z Z (by omega),v,A⟩
 .obtain⟨z,Z,v,A⟩:=h.grp i y (m i y l (by omega)) H C;exact⟨z,g i z Z (by omega),v,A⟩
theorem pW(h:dy p=ZZ):Ds.name (Z4 p)=ZZ/\(Y1 (Z4 p)).length<=2:=by
 unfold dy at h;rw[ZT,ZU] at h;refine⟨h.1,?_⟩
 have H:=h.2;have g:(Z4 p).count 46<2:=by unfold Lib.countByte at H;unfold Z4;omega
 have l:=Ds.pieces_len (Z4 p);omega
theorem xx(h:Inv D)(p:Z7)(i:Int):KpI D (jf D p i):=by
 unfold jf;refine KpI.ite (fun _=>KpI.bad (by decide)) (fun X=>KpI.ite (fun _=>KpI.bad (by decide)) (fun w=>KpI.ite (fun _=>KpI.bad w) (fun V=>KpI.ite (fun q=>KpI.bad q) (fun N=>KpI.ite (fun _=>KpI.bad (by decide)) (fun F _=>?_)))))
 have I:dy p=ZZ:=by
  cases L:dy p
  .exact absurd (.inl L) X
  .rfl
 obtain⟨H,K⟩:=pW I;have G:(bz D 1 3 p).2=6:=Zk V;have w0:(cj D p).2=0:=Zk N;have t:=vD (id:=i) I (by omega) (by omega);have Y:(di p i).1.kind=3:=rfl;have a0:(di p i).1.name=p:=rfl;have m:∀ y,InD D 1 y->aC y.1.kind y.1.name≠aC 3 p:=fun y u=>qR h.dst G u
 have o:∀ {j y},InD (apl D [bI 1 (di p i)]) j y↔(j=1/\y=di p i)\/InD D j y:=fun {j y}=>by
  rw[xw h.dst t];constructor
  .rintro (q|⟨q,-⟩)
   .exact .inl q
   .exact .inr q
  .rintro (q|q)
   .exact .inl q
   .refine .inr ⟨q,?_⟩
    rintro ⟨rfl,e⟩;exact m y q e.symm
 refine h.cat (Dw _ h.dst) (lC h (fun c A _=>⟨1,_,t,Zn.1 A⟩)) (fun j z O=>?_) (fun j z O _=>o.2 (.inr O)) (fun j y u B=>?_)
 .rcases o.1 O with ⟨q,rfl⟩|q
  .exact .inr ⟨q,rfl⟩
  .exact .inl q
 .have l:=h.name u B;have Q:=(h.loc j y u).1 B
  have W:∀ q,aC 3 q≠aC 3 p->bz (apl D [bI 1 (di p i)]) 1 3 q=bz D 1 3 q:=fun q L=>Lh (LL h.dst fun c A=>by
   rw[Zn.1 A];exact fun e=>L e.2.symm)
  have g:∀ n:Nat,0<n->iF n y.1.name=p->j=(cj D p).1->False:=fun n U e ej=>by
   have:=yN I u B l n U e;rw[ej] at this;exact F this
  have S:iF 2 p=p:=XI (by rw[g5];exact jn _ 2 H K);by_cases C:iF 2 y.1.name=p
  .exfalso
   refine g 2 (by decide) C ?_
   have E:iF 1 p=iF 1 y.1.name:=by
    refine XI ?_
    rw[g5,g5,<-C,g5];exact Bs _ l
   have ew:cj D p=cj D y.1.name:=by
    rw[g7 D H,g7 D l,S,C,E]
   rw[ew,Q]
  .refine oy H l W C fun v T=>?_
   refine g 1 (by decide) v ?_
   have J:(Y1 (Z4 p)).length<=1:=by
    rw[<-v,g5];exact BZ _ 1 l (by decide)
   have p1:iF 1 p=p:=XI (by rw[g5];exact jn _ 1 H J);have Z:¬ (6:Int)=0:=by decide
   have E:cj D p=(1,0):=by rw[g7 D H,S,p1,G,Z0 Z,ZX rfl,Z0 Z,ZX rfl]
   have P:cj D y.1.name=(1,0):=by rw[g7 D l,T,v,G,Z0 Z,ZX rfl,Z0 Z,ZX rfl]
   rw[E];rw[Q] at P;exact YX Prod.fst P
theorem Fd(h:Inv D)(p:Z7):KpI D (jh D p):=by
 unfold jh;refine KpI.ite (fun _=>KpI.bad (by decide)) (fun O=>KpI.ite (fun q=>KpI.bad q) (fun v=>KpI.ite (fun _=>KpI.bad (by decide)) (fun w _=>?_)))
 have K:dy p=ZZ:=by
  cases A:dy p
  .exact absurd A O
  .rfl
 obtain⟨o,P⟩:=pW K;have I:(bz D 1 3 p).2=0:=Zk v;dsimp only;have i:∀ c∈[((1:Int),(1:Int),aC 3 p,(⟨#[]⟩:Z7),(⟨#[]⟩:Z7))],c.1≠0:=fun c g=>by rw[Zn.1 g];exact (show (1:Int)≠0 by decide)
 have l:∀ {j y},InD (apl D [((1:Int),(1:Int),aC 3 p,(⟨#[]⟩:Z7),(⟨#[]⟩:Z7))]) j y↔InD D j y/\¬ (1=j/\aC 3 p=aC y.1.kind y.1.name):=fun {j y}=>by
  rw[xu h.dst i];constructor
  .rintro ⟨Q,F⟩;exact⟨Q,F _ List.mem_cons_self⟩
  .rintro ⟨Q,F⟩;exact⟨Q,fun c g=>by rw[Zn.1 g];exact F⟩
 refine h.cat (Dw _ h.dst) (lC h (fun c g q=>absurd q (i c g))) (fun j z u=>.inl (l.1 u).1) (fun j z u m=>l.2 ⟨u,fun q=>m (kM u.1 (by decide) o q.2.symm).1⟩) (fun j y B m=>?_)
 have t:=h.name B m;have J:=(h.loc j y B).1 m
 have N:∀ q,aC 3 q≠aC 3 p->bz (apl D [((1:Int),(1:Int),aC 3 p,(⟨#[]⟩:Z7),(⟨#[]⟩:Z7))]) 1 3 q=bz D 1 3 q:=fun q A=>Lh (LL h.dst fun c g=>by
  rw[Zn.1 g];exact fun e=>A e.2.symm)
 have H:∀ n:Nat,0<n->iF n y.1.name=p->j=(bz D 1 3 p).1.1.cat->False:=fun n v e ej=>by
  have:=yN K B m t n v e;rw[ej] at this;exact w this
 by_cases C:iF 2 y.1.name=p
 .exfalso
  refine H 2 (by decide) C ?_
  have E:cj D y.1.name=((bz D 1 3 p).1.1.cat,0):=by rw[g7 D t,C,ZX I]
  rw[J] at E;exact YX Prod.fst E
 .refine oy o t N C fun G L=>?_
  refine H 1 (by decide) G ?_
  have Z:¬ (6:Int)=0:=by decide
  have E:cj D y.1.name=((bz D 1 3 p).1.1.cat,0):=by rw[g7 D t,L,Z0 Z,ZX rfl,G,ZX I]
  rw[J] at E;exact YX Prod.fst E
theorem Im(h:Inv D)(k i:Int)(x:Fu)(s:Z7):KpI D (eL D k i x s):=by
 unfold eL;exact KpI.ite (fun _=>EX h x) (fun _=>KpI.ite (fun _=>Fx h _ _) (fun _=>KpI.ite (fun _=>Fy h _ _) (fun _=>KpI.ite (fun _=>xx h _ _) (fun _=>Fd h _))))
theorem xH(Z:Nat->Zo):∀ n,Inv (dd Z n)
 | 0=>Inv.nil
 | k+1=>by
   have h:=xH Z k;rw[dd];unfold iN;split
   .rename_i q;exact Im h _ _ _ _ q
   .exact h
def SrtA(l:Z5 Rw):Prop:=l.Pairwise fun x y=>cy y x=ZZ
theorem o6{y:Rw}:cy y x=ZZ↔x.1<y.1\/x.1=y.1/\bB (aU x) (aU y)=ZZ:=by
 unfold cy;rw[Bool.or_eq_true,ZT,ZU,ZU]
theorem A9{y z:Rw}(h:cy y x=ZZ)(H:cy z y=ZZ):cy z x=ZZ:=by
 rw[o6] at h H |-;rcases h with h|⟨h,k⟩ <;> rcases H with H|⟨H,K⟩
 .exact .inl (by omega)
 .exact .inl (by omega)
 .exact .inl (by omega)
 .exact .inr ⟨by omega,ir k K⟩
theorem DU{y:Rw}(h:ed x y=ZW)(H:¬ cy x y=ZZ):cy y x=ZZ:=by
 rw[o6] at H |-
 have g:¬ (x.1=y.1/\aU x=aU y):=fun q=>by
  unfold ed at h;rw[ZL q.1,ZL q.2] at h;cases h
 by_cases e:x.1=y.1
 .refine .inr ⟨e,?_⟩
  refine mV (YJ.2 fun q=>H (.inr ⟨e.symm,q⟩)) fun q=>g ⟨e,q.symm⟩
 .have:¬ y.1<x.1:=fun q=>H (.inl q)
  exact .inl (by omega)
theorem EV{y:Rw}(h:cy y x=ZZ):ed x y=ZW:=by
 rw[o6] at h;unfold ed;rcases h with h|⟨-,h⟩
 .rw[ZF (by omega),Bool.false_and]
 .have e:decide (aU x=aU y)=ZW:=ZF fun e=>by rw[e,iO] at h;cases h
  rw[e,Bool.and_false]
theorem SrtA.dst{l:Z5 Rw}(h:SrtA l):DstL l:=List.Pairwise.imp (fun h=>EV h) h
theorem DT(x:Rw):cO x []=[x]:=rfl
theorem oN(x y:Rw)(R:Z5 Rw):cO x (y::R)=if cy x y=ZZ then y::cO x R else x::y::R:=by
 unfold cO;cases h:cy x y
 .rw[List.takeWhile_cons,List.dropWhile_cons,h];simp
 .rw[List.takeWhile_cons,List.dropWhile_cons,h];simp
theorem DI{z:Rw}(h:z∈cO x R):z=x\/z∈R:=Zw.1 ((oB x R).subset h)
theorem oQ{x:Rw}:∀ {R:Z5 Rw},SrtA R->(∀ y∈R,ed x y=ZW)->SrtA (cO x R)
 | [],_,_=>List.pairwise_singleton _ _
 | y::R,h,l=>by
   obtain⟨i,m⟩:=Ym.1 h;rw[oN];by_cases q:cy x y=ZZ
   .rw[ZX q];refine Ym.2 ⟨fun z H=>?_,oQ m fun z H=>l z (List.mem_cons_of_mem _ H)⟩
    rcases DI H with rfl|H
    .exact q
    .exact i z H
   .rw[Z0 q];have g:=DU (l y List.mem_cons_self) q;refine Ym.2 ⟨fun z H=>?_,h⟩
    rcases Zw.1 H with rfl|H
    .exact g
    .exact A9 g (i z H)
theorem sV:∀ (l o:Z5 Rw),SrtA o->DstL (l++o)->SrtA (l.foldl (fun o x=>cO x o) o)
 | [],o,h,_=>h
 | x::l,o,h,H=>by
   rw[YS];rw[List.cons_append] at H;obtain⟨g,m⟩:=Ym.1 H;refine sV l _ (oQ h fun y i=>g y (List.mem_append_right _ i)) ?_
   have p:(l++cO x o).Perm (x::(l++o)):=((oB x o).append_left l).trans List.perm_middle;exact tB p H
theorem Co(h:SrtA R)(c:Ch):SrtA (eJ R c):=by
 have g:SrtA (cD c R):=List.Pairwise.filter _ h;unfold eJ;split
 .refine oQ g fun y m=>?_
  have i:=(List.mem_filter.1 m).2;unfold ed;rw[YJ];intro H;rw[ZT,ZU,ZU] at H
  have l:jL c y=ZZ:=by
   unfold jL;rw[ZT,ZU,ZU];exact⟨H.1.symm,(XI H.2).symm⟩
  rw[l] at i;cases i
 .exact g
theorem tO(H:DstL D)(cs:Z5 Ch):SrtA (apl D cs):=by
 have:∀ (l:Z5 Ch) (o:Z5 Rw),SrtA o->SrtA (l.foldl eJ o):=by
  intro l
  induction l with
  | nil=>intro o h;exact h
  | cons c l i=>intro o h;rw[YS];exact i _ (Co h c)
 exact this cs _ (sV D [] List.Pairwise.nil (by rw[List.append_nil];exact H))
theorem tt{x:Rw}:∀ {R:Z5 Rw},(∀ y∈R,cy x y=ZZ)->cO x R=R++[x]
 | [],_=>rfl
 | y::R,h=>by rw[oN,ZX (h y List.mem_cons_self),tt fun z H=>h z (List.mem_cons_of_mem _ H)];rfl
theorem th(h:SrtA D):eA D=D:=by
 have:∀ (l o:Z5 Rw),SrtA (o++l)->l.foldl (fun o x=>cO x o) o=o++l:=by
  intro l
  induction l with
  | nil=>intro o _;simp
  | cons x l i =>
    intro o H;have e:cO x o=o++[x]:=tt fun y g=>(List.pairwise_append.1 H).2.2 y g x List.mem_cons_self
    rw[YS,e,i (o++[x]) (by rw[Zp];exact H),Zp];rfl
 exact this D [] h
theorem vL(Z:Nat->Zo):∀ n,SrtA (dd Z n)
 | 0=>List.Pairwise.nil
 | k+1=>by
   have h:=vL Z k;rw[dd];unfold iN;split
   .exact tO h.dst _
   .exact h
theorem Cr(h:SrtA D){i:Int}{k v:Z7}(o:∀ x∈D,¬ (x.1=i/\x.2.1=k)):apl (apl D [(0,i,k,r,v)]) [(1,i,k,a,b)]=D:=by
 have l:∀ c:Ch,c.2.1=i->c.2.2.1=k->cD c D=D:=fun c E g=>by
  unfold cD;refine List.filter_eq_self.2 fun x w=>?_
  have:jL c x=ZW:=by
   unfold jL;rw[YJ];intro q;rw[ZT,ZU,ZU,E,g] at q;exact o x w q
  rw[this];rfl
 have E:apl D [(0,i,k,r,v)]=cO (i,k,r) D:=by
  unfold apl;rw[th h,YS,List.foldl_nil];unfold eJ;rw[ZX rfl,l _ rfl rfl]
 have m:=tO h.dst [(0,i,k,r,v)];rw[E] at m
 have g:apl (cO (i,k,r) D) [(1,i,k,a,b)]=cD (1,i,k,a,b) (cO (i,k,r) D):=by
  unfold apl;rw[th m,YS,List.foldl_nil];unfold eJ;rw[Z0 (show ¬ (1:Int)=0 by decide)]
 rw[E,g];have u:=l (1,i,k,a,b) rfl rfl
 have t:∀ R:Z5 Rw,cD (1,i,k,a,b) (cO (i,k,r) R)=cD (1,i,k,a,b) R:=by
  intro R;have H:jL (1,i,k,a,b) (i,k,r)=ZZ:=by unfold jL;simp
  induction R with
  | nil =>
    rw[DT];unfold cD;rw[List.filter_cons,Z0 (by rw[H];simp)]
  | cons y R I =>
    rw[oN];unfold cD at I |-;split
    .rw[List.filter_cons,List.filter_cons,I]
    .rw[List.filter_cons,Z0 (by rw[H];simp)]
 rw[t,u]
/-! Z5 -/
theorem mj(id:Int)(c:UInt8):∀ (l o:Z5 Rw),(l.foldl (jl id c) o).length=o.length+(l.filter (cH id c)).length
 | [],o=>by simp
 | x::l,o=>by
   rw[YS,mj id c l,List.filter_cons];unfold jl;cases h:cH id c x
   .rfl
   .have e:(dk x o).length=o.length+1:=by
     unfold dk;have:=YX List.length (List.takeWhile_append_dropWhile (p:=cQ x) (l:=o));rw[ZQ] at this;rw[ZQ,ZK];omega
    rw[ZX rfl,ZX rfl,e,ZK];omega
theorem DC(id:Int)(l:Z5 Rw):(srt id 68 l).length+(srt id 71 l).length+(srt id 65 l).length<=l.length:=by
 unfold srt;rw[mj,mj,mj];simp only[YQ,Nat.zero_add]
 induction l with
 | nil=>simp
 | cons x l i =>
   rw[List.filter_cons,List.filter_cons,List.filter_cons,ZK];unfold cH at i |-;by_cases h:(aU x).head?=some 68
   .rw[h];cases decide (x.1=id) <;> simp <;> omega
   .by_cases H:(aU x).head?=some 71
    .rw[H];cases decide (x.1=id) <;> simp <;> omega
    .by_cases g:(aU x).head?=some 65
     .rw[g];cases decide (x.1=id) <;> simp <;> omega
     .rw[ZF h,ZF H,ZF g];simp only[Bool.and_false,Z0 Bool.false_ne_true]
      omega
theorem pO(pt:Z7):∀ (S:Z5 Rw) (o:Z5 Fu),(∀ x∈S,∃ y,aA y=ZZ/\x=cw x.1 y)->∃ t,eW (cq pt) S o=.ok (o++t)/\t.length<=S.length/\∀ x∈S,Ds.match_ (Z4 pt) (Z4 (aN x.2.1))=ZZ->0<t.length
 | [],o,_=>⟨[],by rw[eW];simp,ZS _,fun _ h=>by cases h⟩
 | x::S,o,h=>by
   obtain⟨y,u,e⟩:=h x List.mem_cons_self;have l:bw x.2.1 x.2.2=(y,0):=by rw[e];exact Kw y u
   have g:=fun z H=>h z (List.mem_cons_of_mem _ H)
   rw[eW];unfold cq;by_cases m:Ds.match_ (Z4 pt) (Z4 (aN x.2.1))=ZW
   .obtain⟨t,T,v,i⟩:=pO pt S o g;unfold cq at T;rw[ZX m];refine⟨t,T,by rw[ZK];omega,fun z H q=>?_⟩
    rcases Zw.1 H with rfl|H
    .rw[m] at q;cases q
    .exact i z H q
   .obtain⟨t,T,v,i⟩:=pO pt S (o++[y]) g;unfold cq at T;rw[Z0 m,l,Z0 (by simp)];refine⟨y::t,by rw[Zp] at T;exact T,by rw[ZK,ZK];omega,fun _ _ _=>by rw[ZK];omega⟩
theorem o7(h:Inv D)(id:Int)(pt:Z7)(L:UInt8)(m:L - 1<L)(c:Int)(o:0<=c)(s:Z5 Fu):∃ t C,du D 0 0 id pt L c s=((s++t,0),C)/\0<=C/\t.length<=(srt id L D).length/\∀ x∈srt id L D,Ds.match_ (Z4 pt) (Z4 (aN x.2.1))=ZZ->0<t.length:=by
 have i:=l9 (step:=cq pt) D id 0 0 c L m (Int.le_refl _) h.dst o s;obtain⟨t,T,u,v⟩:=pO pt (srt id L D) s fun x q=>h.row x (uX q).1
 rw[T] at i;have H:=(ja (step:=cq pt) (l:=D) (id:=id) (fl:=0) (cd:=0) (L:=L) (D.length+1) c [L - 1,255] s).1;unfold du;generalize bS D id 0 0 L (cq pt) (D.length+1) c [L - 1,255] s=g at i H |-;obtain⟨w,G⟩:=g;dsimp only at i H;subst i;exact⟨t,G,by unfold nP;simp,by omega,u,v⟩
theorem DZ(h:Inv D)(id m:Int)(pt:Z7)(F:Ds.pat (Z4 pt)=ZZ)(Q:(D.length:Int)<=m):(eK D 0 0 0 id m pt).1.2=0/\∀ y,InD D id y->y.1.kind<=2->Ds.match_ (Z4 pt) (Z4 y.1.name)=ZZ->0<(eK D 0 0 0 id m pt).1.1.length:=by
 obtain⟨t,u,E,P,U,I⟩:=o7 h id pt 68 (by decide) 0 (by decide) [];obtain⟨T,v,w,L,V,J⟩:=o7 h id pt 71 (by decide) u P ([]++t);obtain⟨l,C,A,X,W,K⟩:=o7 h id pt 65 (by decide) v L ([]++t++T);have N:=DC id D
 have eL:ee D 0 0 id pt [68,71,65] 0 []=(([]++t++T++l,0),C):=by
  have z:¬ (0:Int)≠0:=fun q=>q rfl
  rw[ee,E,Z0 z,ee,w,Z0 z,ee,A,Z0 z,ee]
 have o:(([]++t++T++l:Z5 Fu).length:Int)<=m:=by
  simp only[ZQ,YQ]
  omega
 have e:eK D 0 0 0 id m pt=(([]++t++T++l,0),C):=by
  unfold eK;rw[Z0 (by rintro (q|q);rw[F] at q;cases q;omega),eL,Z0 (fun q=>q rfl),Z0 (by dsimp only;omega)]
 rw[e];refine⟨rfl,fun y g O G=>?_⟩
 dsimp only;simp only[ZQ,YQ]
 have S:=(pH g.1).1;have H:∀ k,(0<=k/\k<=4)->y.1.kind=k->cw id y∈srt id (Ek.letter k) D:=fun k B e=>(nQ h B).2 ⟨y,g,e,rfl⟩
 have i:Ds.match_ (Z4 pt) (Z4 (aN (cw id y).2.1))=ZZ:=by
  show Ds.match_ (Z4 pt) (Z4 (aN (aC y.1.kind y.1.name)))=ZZ
  rw[(jc g.1).2];exact G
 rcases (by omega:y.1.kind=0\/y.1.kind=1\/y.1.kind=2) with e|e|e
 .have:=I _ (H 0 (by decide) e) i;omega
 .have:=J _ (H 1 (by decide) e) i;omega
 .have:=K _ (H 2 (by decide) e) i;omega
theorem IX(D:Z5 Rw)(id:Int)(pt:Z7):(eK D 0 0 0 id 0 pt).1.1.length=0:=by
 unfold eK;split
 .rfl
 split
 .rfl
 split
 .rfl
 .omega
/-! the law -/
theorem Inv.where0(h:Inv D)(H:Ds.name (Z4 d)=ZZ):(cj D d).2=0:=by
 have g:∀ n:Nat,0<n->(bz D 1 3 (iF n d)).2=0\/(bz D 1 3 (iF n d)).2=6:=fun n l=>by
  rcases h.get 1 3 (iF n d) (by decide) (ls (oa n l H)).1 with q|q
  .exact .inl q
  .exact .inr (by rw[q])
 rw[g7 D H];have Z:¬ (6:Int)=0:=by decide
 rcases g 2 (by decide) with q|q
 .have Q:(bz D 1 3 (iF 2 d)).2=0:=q;rw[ZX Q]
 .have Q:(bz D 1 3 (iF 2 d)).2=6:=q;rw[Q,Z0 Z,ZX rfl];rcases g 1 (by decide) with r|r
  .have i:(bz D 1 3 (iF 1 d)).2=0:=r;rw[ZX i]
  .have i:(bz D 1 3 (iF 1 d)).2=6:=r;rw[i,Z0 Z,ZX rfl]
theorem Gl(D:Z5 Rw)(p:Z7)(i:Int)(h:(jf D p i).2≠0):(jf D p i).1=[]:=by
 unfold jf at h |-;split
 .rfl
 rename_i H;split
 .rfl
 rename_i g;split
 .rfl
 rename_i l;split
 .rfl
 rename_i m;split
 .rfl
 rename_i o;rw[Z0 H,Z0 g,Z0 l,Z0 m,Z0 o] at h;exact absurd rfl h
structure ConL (D R:Z5 Rw) (p:Z7) (i:Int) (name:Z7):Prop where
 ok:(cj R name).2=0
 oth:Ds.match_ (Z4 (p++⟨#[46,42,42]⟩)) (Z4 name)=ZW->cj R name=cj D name
 own:cj R p=(i,0)
 back:(jh R p).2=0->apl R (jh R p).1=D
 bad:(jh R p).2≠0->(jh R p).2=9/\(eK R 0 0 0 i 50 (p++⟨#[46,42,42]⟩)).1.2=0/\0<(eK R 0 0 0 i 50 (p++⟨#[46,42,42]⟩)).1.1.length
theorem Gj(h:Inv D)(hs:SrtA D)(hl:D.length<=49)(p:Z7)(i:Int){name:Z7}(G:Ds.name (Z4 name)=ZZ)(H:(jf D p i).2=0):ConL D (apl D (jf D p i).1) p i name:=by
 have hinv:=xx h p i H
 have T:(jf D p i).1.length<=1:=by
  unfold jf;split
  .exact Y7 _
  split
  .exact Y7 _
  split
  .exact Y7 _
  split
  .exact Y7 _
  split
  .exact Y7 _
  .exact ZS _
 have o:=pt D (jf D p i).1;by_cases N:dy p=ZW\/i<2\/15<i
 .unfold jf at H;rw[ZX N] at H;exact absurd (show (1:Int)=0 from H) (by decide)
 have A:dy p=ZZ:=by
  cases W:dy p
  .exact absurd (.inl W) N
  .rfl
 have e:(jf D p i).1=[bI 1 (di p i)]/\(bz D 1 3 p).2=6:=by
  unfold jf at H |-;rw[Z0 N] at H |-;by_cases J:(bz D 1 3 p).2=0
  .rw[ZX J] at H;exact absurd (show (5:Int)=0 from H) (by decide)
  rw[Z0 J] at H |-;by_cases K:(bz D 1 3 p).2≠6
  .rw[ZX K] at H;exact absurd H J
  rw[Z0 K] at H |-;by_cases L:(cj D p).2≠0
  .rw[ZX L] at H;exact absurd H L
  rw[Z0 L] at H |-;by_cases X:fI D (cj D p).1 p=ZZ
  .rw[ZX X] at H;exact absurd (show (9:Int)=0 from H) (by decide)
  rw[Z0 X];exact⟨rfl,Zk K⟩
 obtain⟨e,g6⟩:=e;rw[e] at hinv o |-;rw[Yw] at o;obtain⟨u,E⟩:=pW A;have V:=vD (id:=i) A (by omega) (by omega)
 have Y:∀ q,aC 3 q≠aC 3 p->bz (apl D [bI 1 (di p i)]) 1 3 q=bz D 1 3 q:=fun q W=>Lh (LL h.dst fun c O=>by
  rw[Zn.1 O];exact fun e=>W e.2.symm)
 have t:bz (apl D [bI 1 (di p i)]) 1 3 p=(di p i,0):=JR (l:=apl D [bI 1 (di p i)]) (id:=1) (x:=di p i) V (JC (a:=[]) h.dst (fun c O=>by cases O));have U:∀ x∈D,¬ (x.1=1/\x.2.1=aC 3 p):=sL (sU g6);have g:apl (apl D [bI 1 (di p i)]) [(1,1,aC 3 p,⟨#[]⟩,⟨#[]⟩)]=D:=Cr hs U;generalize apl D [bI 1 (di p i)]=R at hinv o Y t g |-;have z0:¬ (0:Int)≠0:=fun q=>q rfl
 have C:Ds.match_ (Z4 (p++⟨#[46,42,42]⟩)) (Z4 p)=ZZ:=mh A u 2 (by decide) (XI (by rw[g5];exact jn _ 2 u E));refine⟨hinv.where0 G,fun w=>?_,?_,fun v=>?_,fun v=>?_⟩
 .have h2:iF 2 name≠p:=fun q=>by rw[mh A G 2 (by decide) q] at w;cases w
  have h1:iF 1 name≠p:=fun q=>by rw[mh A G 1 (by decide) q] at w;cases w
  exact oy u G Y h2 fun q=>absurd q h1
 .have p2:iF 2 p=p:=XI (by rw[g5];exact jn _ 2 u E);rw[g7 R u,p2,t,ZX rfl];rfl
 .unfold jh at v |-;rw[A,Z0 (by simp),t,Z0 z0] at v |-;by_cases c:fI R (di p i).1.cat p=ZZ
  .rw[ZX c] at v;exact absurd (show (9:Int)=0 from v) (by decide)
  .rw[Z0 c];exact g
 .unfold jh at v |-;rw[A,Z0 (by simp),t,Z0 z0] at v |-;by_cases c:fI R (di p i).1.cat p=ZZ
  .rw[ZX c];refine⟨rfl,?_⟩
   have I:fI R i p=ZZ:=c;obtain⟨f1,f2⟩:=DZ hinv i 50 (p++⟨#[46,42,42]⟩) (Ds.match_parts _ _ |>.1 C).1 (by omega);refine⟨f1,?_⟩
   unfold fI at I;rw[List.any_eq_true] at I;obtain⟨x,hx,Q⟩:=I;obtain⟨y,F,ex⟩:=hinv.mem hx;unfold iw at Q;rw[ZT,ZT,ZU] at Q;obtain⟨hi,Z,w⟩:=Q;rw[ex] at Z w;have m:((decide ((Z4 (aC y.1.kind y.1.name)).headD 0=68) || decide ((Z4 (aC y.1.kind y.1.name)).headD 0=71)) || decide ((Z4 (aC y.1.kind y.1.name)).headD 0=65))=ZZ:=Z;have B:Ds.match_ (Z4 (p++⟨#[46,42,42]⟩)) (Z4 (aN (aC y.1.kind y.1.name)))=ZZ:=w;rw[(jc F.1).2] at B
   have P:(Z4 (aC y.1.kind y.1.name)).headD 0=Ek.letter y.1.kind:=by
    rw[List.headD_eq_head?_getD,(jc F.1).1];rfl
   rw[P] at m
   have S:y.1.kind<=2:=by
    have hr:=pH F.1;rcases (by omega:y.1.kind<=2\/y.1.kind=3\/y.1.kind=4) with q|q|q
    .exact q
    .rw[q] at m;exact absurd m (by decide)
    .rw[q] at m;exact absurd m (by decide)
   rw[hi] at F;exact f2 y F S B
  .rw[Z0 c] at v;exact absurd rfl v
end Go.Proofs.YtnkjliahpeebjaaGreatDoor
