/- Catalogs. -/
import Derived.Test.YtefcmdmfgdcpmaaGreatDoorAu
import Derived.Test.YtefcmdmfgdcpmaaGreatDoorLiC
import Derived.Test.YtefcmdmfgdcpmaaGreatDoorCx
set_option maxRecDepth 8000
set_option maxHeartbeats 8000000
namespace Go.Proofs.YtefcmdmfgdcpmaaGreatDoor
def zcA(id:Int)(y:Fu):Rw:=(id,zaT y.1.kind y.1.name,zcF y)
def InD(D:List Rw)(id:Int)(y:Fu):Prop:=okX y=true∧zcA id y∈D
theorem zdt{y z:Fu}(hy:okX y=true)(hz:okX z=true)(h:zcF y=zcF z):y=z:=by
 have e:=ztr y hy;rw[h,ztr z hz] at e;cases e;rfl
theorem zmm{y:Fu}{k:Int}{nm:ByteArray}(hy:okX y=true)(hk:0<=k∧k<=4)(hl:(Ds.bl nm).length<=31)(h32:32 ∉ Ds.bl nm)(h:zaT y.1.kind y.1.name=zaT k nm):y.1.kind=k∧y.1.name=nm:=by
 have hkd:=zev (zbp hy) hk (zdG y hy) h;refine⟨hkd,Ds.bl_inj ?_⟩
 have e:=congrArg Ds.bl h;obtain⟨k1,k2⟩:=zhJ y hy;rw[zbD,zbD,Ek.key_yes k _ hk hl] at e;unfold zfr at k1;rw[k1] at e;injection e with _ e2
 rw[<-k2,e2,Ek.trim_pad _ h32]
theorem zd4{nm:ByteArray}(h:Ds.name (Ds.bl nm)=true):(Ds.bl nm).length<=31∧32 ∉ Ds.bl nm:=⟨((Ds.name_parts _).1 h).1.2,Ek.name_no32 _ h⟩
theorem zd1{y z:Fu}(hy:okX y=true)(hz:okX z=true)(h:zaT y.1.kind y.1.name=zaT z.1.kind z.1.name):y.1.kind=z.1.kind∧y.1.name=z.1.name :=
 zmm hy (zbp hz) (zcc z hz).1 (zcc z hz).2 h
theorem zcO{y:Fu}{k:Int}{nm:ByteArray}(hy:okX y=true)(hk:0<=k∧k<=4)(hn:Ds.name (Ds.bl nm)=true)(h:zaT y.1.kind y.1.name=zaT k nm):y.1.kind=k∧y.1.name=nm :=
 zmm hy hk (zd4 hn).1 (zd4 hn).2 h
theorem InD.rec{D:List Rw}{id:Int}{y:Fu}(hd:DstL D)(h:InD D id y):zbS id (zaT y.1.kind y.1.name) D=some (zcF y):=zg1 hd h.2
theorem InD.get{D:List Rw}{id:Int}{y:Fu}(hd:DstL D)(h:InD D id y):zbd D id y.1.kind y.1.name=(y,0):=zol h.1 (h.rec hd)
theorem InD.same{D:List Rw}{id:Int}{y z:Fu}(hd:DstL D)(h:InD D id y)(h2:InD D id z)(hk:zaT y.1.kind y.1.name=zaT z.1.kind z.1.name):y=z:=by
 have e:=h.rec hd;rw[hk,h2.rec hd] at e;injection e with e
 exact (zdt h2.1 h.1 e).symm
theorem InD.of_rec{D:List Rw}{id:Int}{y:Fu}(ho:okX y=true)(h:zbS id (zaT y.1.kind y.1.name) D=some (zcF y)):InD D id y:=⟨ho,zds h⟩
theorem zfo{D:List Rw}{id kind:Int}{nm:ByteArray}(h:(zbd D id kind nm).2=0):InD D id (zbd D id kind nm).1∧zaT (zbd D id kind nm).1.1.kind (zbd D id kind nm).1.1.name=zaT kind nm:=by
 obtain⟨-,ho,hk⟩:=zgG h;refine⟨⟨ho,?_⟩,hk⟩
 unfold zcA;rw[hk];unfold zbd zbn at h ho ⊢;by_cases hz:zaT kind nm=⟨#[]⟩
 · rw[if_pos hz] at h;exact absurd (show (1:Int)=0 from h) (by decide)
 rw[if_neg hz,if_neg (by decide)] at h ho ⊢
 cases hr:zbS id (zaT kind nm) D with
 | none=>rw[hr] at h;exact absurd (show (6:Int)=0 from h) (by decide)
 | some s =>
   have hm:=zds hr;rw[hr] at h ho;dsimp only at h ho ⊢
   have e:zcF (zaS (zaT kind nm) s).1=s:=by
    unfold zcF;rw[if_pos ho];unfold zaS at h ⊢
    cases hd:zc6 (Ds.bl s) with
    | none=>rw[hd] at h;exact absurd (show (11:Int)=0 from h) (by decide)
    | some y =>
      rw[hd] at h;dsimp only at h ⊢;by_cases hk2:zfr y=Ds.bl (zaT kind nm)
      · rw[if_pos hk2];dsimp only;rw[(zcI _ _ hd).2,Ds.mk_bl]
      · rw[if_neg hk2] at h;exact absurd (show (11:Int)=0 from h) (by decide)
   rw[e];exact hm
theorem ziN{D:List Rw}{id kind:Int}{nm:ByteArray}(hd:DstL D)(h:(zbd D id kind nm).2=6){y:Fu}(hy:InD D id y):zaT y.1.kind y.1.name≠zaT kind nm:=fun e=>by
 have:=zom h;rw[<-e,hy.rec hd] at this;cases this
/-! rows behind changes -/
theorem zmf{D:List Rw}{i j:Int}{x y:Fu}(hd:DstL D)(hx:okX x=true):InD (apl D [zby i x]) j y↔(j=i∧y=x)∨InD D j y∧¬ (i=j∧zaT x.1.kind x.1.name=zaT y.1.kind y.1.name):=by
 have hd2:=zcE [zby i x] hd;constructor
 · intro h;have e:=h.rec hd2;by_cases hp:i=j∧zaT x.1.kind x.1.name=zaT y.1.kind y.1.name
   · obtain⟨rfl,hk⟩:=hp;rw[<-hk] at e;rw[show zbS i (zaT x.1.kind x.1.name) (apl D [zby i x])=some (zcF x) from zki (a:=[]) hd (fun c hc=>by cases hc)] at e;injection e with e
     exact .inl ⟨rfl,(zdt hx h.1 e).symm⟩
   · rw[zcd hd (fun c hc=>by rw[List.mem_singleton.1 hc];exact hp)] at e;exact .inr ⟨InD.of_rec h.1 e,hp⟩
 · rintro (⟨rfl,rfl⟩|⟨h,hp⟩)
   · exact InD.of_rec hx (zki (a:=[]) hd (fun c hc=>by cases hc))
   · refine InD.of_rec h.1 ?_
     rw[zcd hd (fun c hc=>by rw[List.mem_singleton.1 hc];exact hp)];exact h.rec hd
theorem zh5{id:Int}{key:ByteArray}{D:List Rw}(hd:DstL D){cs:List Ch}(h0:∀ c∈cs,c.2.1=id∧c.2.2.1=key->c.1≠0)(h:∃ c∈cs,c.2.1=id∧c.2.2.1=key):zbS id key (apl D cs)=none:=by
 have:∀ (l:List Ch) (o:List Rw),DstL o->(∀ c∈l,c.2.1=id∧c.2.2.1=key->c.1≠0)->(zbS id key o=none∨∃ c∈l,c.2.1=id∧c.2.2.1=key)->zbS id key (l.foldl apS o)=none:=by
  intro l
  induction l with
  | nil =>
    rintro o _ _ (h|⟨c,hc,-⟩)
    · exact h
    · cases hc
  | cons c l ih =>
    intro o ho hl hh;rw[List.foldl_cons];refine ih _ (zdD c ho) (fun d hd=>hl d (List.mem_cons_of_mem _ hd)) ?_
    rw[zeb ho];by_cases hc:c.2.1=id∧c.2.2.1=key
    · rw[if_pos hc,if_neg (hl c List.mem_cons_self hc)];exact .inl rfl
    · rw[if_neg hc];rcases hh with hh|⟨d,hd,hh⟩
      · exact .inl hh
      · rcases List.mem_cons.1 hd with rfl|hd
        · exact absurd hh hc
        · exact .inr ⟨d,hd,hh⟩
 exact this cs _ (zcX (zbB D) hd) h0 (.inr h)
theorem zme{D:List Rw}{cs:List Ch}{j:Int}{y:Fu}(hd:DstL D)(h0:∀ c∈cs,c.1≠0):InD (apl D cs) j y↔InD D j y∧∀ c∈cs,¬ (c.2.1=j∧c.2.2.1=zaT y.1.kind y.1.name):=by
 have hd2:=zcE cs hd;constructor
 · intro h;have e:=h.rec hd2
   have hno:∀ c∈cs,¬ (c.2.1=j∧c.2.2.1=zaT y.1.kind y.1.name):=fun c hc q=>by
    rw[zh5 hd (fun c hc _=>h0 c hc) ⟨c,hc,q⟩] at e;cases e
   rw[zcd hd hno] at e;exact⟨InD.of_rec h.1 e,hno⟩
 · rintro ⟨h,hno⟩;refine InD.of_rec h.1 ?_
   rw[zcd hd hno];exact h.rec hd
theorem zkh{id:Int}{key r:ByteArray}{D:List Rw}(hd:DstL D){cs:List Ch}(h0:∀ c∈cs,c.2.1=id∧c.2.2.1=key->c.1=0∧c.2.2.2.1=r)(h:∃ c∈cs,c.2.1=id∧c.2.2.1=key):zbS id key (apl D cs)=some r:=by
 have:∀ (l:List Ch) (o:List Rw),DstL o->(∀ c∈l,c.2.1=id∧c.2.2.1=key->c.1=0∧c.2.2.2.1=r)->(zbS id key o=some r∨∃ c∈l,c.2.1=id∧c.2.2.1=key)->zbS id key (l.foldl apS o)=some r:=by
  intro l
  induction l with
  | nil =>
    rintro o _ _ (h|⟨c,hc,-⟩)
    · exact h
    · cases hc
  | cons c l ih =>
    intro o ho hl hh;rw[List.foldl_cons];refine ih _ (zdD c ho) (fun d hd=>hl d (List.mem_cons_of_mem _ hd)) ?_
    rw[zeb ho];by_cases hc:c.2.1=id∧c.2.2.1=key
    · obtain⟨q1,q2⟩:=hl c List.mem_cons_self hc;rw[if_pos hc,if_pos q1,q2];exact .inl rfl
    · rw[if_neg hc];rcases hh with hh|⟨d,hd,hh⟩
      · exact .inl hh
      · rcases List.mem_cons.1 hd with rfl|hd
        · exact absurd hh hc
        · exact .inr ⟨d,hd,hh⟩
 exact this cs _ (zcX (zbB D) hd) h0 (.inr h)
theorem zpb{P:Rw->Prop}{D:List Rw}{cs:List Ch}(h:∀ x∈D,P x)(hc:∀ c∈cs,c.1=0->P (c.2.1,c.2.2.1,c.2.2.2.1)):∀ x∈apl D cs,P x:=by
 have:∀ (l:List Ch) (o:List Rw),(∀ c∈l,c.1=0->P (c.2.1,c.2.2.1,c.2.2.2.1))->(∀ x∈o,P x)->∀ x∈l.foldl apS o,P x:=by
  intro l
  induction l with
  | nil=>intro o _ ho;exact ho
  | cons c l ih =>
    intro o hl ho;rw[List.foldl_cons];refine ih _ (fun c' h'=>hl c' (List.mem_cons_of_mem _ h')) fun x hx=>?_
    unfold apS at hx;split at hx
    · rename_i h0;rcases List.mem_cons.1 ((zcM _ _).subset hx) with rfl|hx
      · exact hl c List.mem_cons_self h0
      · exact ho x (List.mem_filter.1 hx).1
    · exact ho x (List.mem_filter.1 hx).1
 exact this cs _ hc (fun x hx=>h x ((zbB D).subset hx))
/-! the invariant -/
structure Inv (D:List Rw):Prop where
 dst:DstL D
 row:∀ x∈D,∃ y,okX y=true∧x=zcA x.1 y
 loc:∀ id y,InD D id y->(y.1.kind<=2->zaN D y.1.name=(id,0))∧(3<=y.1.kind->id=1)
 one:∀ id y z,InD D id y->InD D id z->y.1.kind<=2->z.1.kind<=2->y.1.name=z.1.name->y=z
 ali:∀ id y,InD D id y->y.1.kind=2->∃ z,InD D id z∧z.1.kind<=1∧z.1.name=y.1.target∧Ds.gen (Ds.bl z.1.name)=false
 grp:∀ id y,InD D id y->y.1.kind=0->Ds.gen (Ds.bl y.1.name)=true->∃ g,InD D id g∧g.1.kind=1∧g.1.name=zeV y.1.name
theorem Inv.nil:Inv []:=⟨List.Pairwise.nil,(fun _ h=>by cases h),(fun _ _ h=>by cases h.2),(fun _ _ _ h=>by cases h.2),(fun _ _ h=>by cases h.2),(fun _ _ h=>by cases h.2)⟩
theorem Inv.mem{D:List Rw}(h:Inv D){x:Rw}(hx:x∈D):∃ y,InD D x.1 y∧x=zcA x.1 y:=by
 obtain⟨y,h1,h2⟩:=h.row x hx;exact⟨y,⟨h1,h2 ▸ hx⟩,h2⟩
theorem Inv.get{D:List Rw}(h:Inv D)(id kind:Int)(nm:ByteArray)(hk:0<=kind∧kind<=4)(hl:(Ds.bl nm).length<=31):(zbd D id kind nm).2=0∨zbd D id kind nm=(zF0,6):=by
 have hz:zaT kind nm≠⟨#[]⟩:=fun e=>by
  have e2:=congrArg Ds.bl e;rw[zbD,Ek.key_yes _ _ hk hl] at e2;cases e2
 unfold zbd zbn;rw[if_neg hz,if_neg (by decide)]
 cases hr:zbS id (zaT kind nm) D with
 | none=>exact .inr rfl
 | some s =>
   obtain⟨y,hy,e⟩:=h.mem (zds hr);have e2:(id,zaT kind nm,s)=(id,zaT y.1.kind y.1.name,zcF y):=e;injection e2 with _ e3
   injection e3 with e4 e5
   dsimp only;rw[e4,e5,za3 y hy.1];exact .inl rfl
theorem Inv.name{D:List Rw}(h:Inv D){id:Int}{y:Fu}(hy:InD D id y)(hk:y.1.kind<=2):Ds.name (Ds.bl y.1.name)=true:=by
 have:=(h.loc id y hy).1 hk;exact (zcq (l:=D) (name:=y.1.name) (by rw[this])).2
theorem Inv.rng{D:List Rw}(h:Inv D){id:Int}{y:Fu}(hy:InD D id y):1<=id∧id<=15:=by
 by_cases hk:y.1.kind<=2
 · have e:=(h.loc id y hy).1 hk;have:=(zcq (l:=D) (name:=y.1.name) (by rw[e])).1;rw[e] at this;exact this
 · rw[(h.loc id y hy).2 (by omega)];decide
theorem Inv.find{D:List Rw}(h:Inv D){id:Int}{y:Fu}(hy:InD D id y)(hk:y.1.kind<=2):zcJ D id y.1.name=(y,0):=by
 have hn:=h.name hy hk;have hs:=zd4 hn;have hk0:=(zbp hy.1).1;have hg:=hy.get h.dst
 have hlow:∀ k,0<=k->k<y.1.kind->zbd D id k y.1.name=(zF0,6):=fun k h0 h1=>by
  rcases h.get id k y.1.name (by omega) hs.1 with h2|h2
  · exfalso
    obtain⟨hz,hkz⟩:=zfo h2;obtain⟨q1,q2⟩:=zcO hz.1 (by omega) hn hkz;have:=h.one id _ y hz hy (by omega) hk q2;rw[this] at q1;omega
  · exact h2
 unfold zcJ;rw[hn,if_neg (by simp)];rcases (by omega:y.1.kind=0∨y.1.kind=1∨y.1.kind=2) with e|e|e
 · rw[e] at hg;rw[zcg,hg,if_neg (show ¬ (0:Int)=6 by decide)]
 · rw[e] at hg hlow;rw[zcg,hlow 0 (by decide) (by decide),if_pos rfl,zcg,hg,if_neg (show ¬ (0:Int)=6 by decide)]
 · rw[e] at hg hlow;rw[zcg,hlow 0 (by decide) (by decide),if_pos rfl,zcg,hlow 1 (by decide) (by decide),if_pos rfl,zcg,hg,if_neg (show ¬ (0:Int)=6 by decide)]
theorem zjF{D:List Rw}{id:Int}{nm:ByteArray}(hn:Ds.name (Ds.bl nm)=true):∀ ks:List Int,(∀ k∈ks,0<=k∧k<=2)->(zcg D id nm ks).2=0->InD D id (zcg D id nm ks).1∧(zcg D id nm ks).1.1.kind<=2∧(zcg D id nm ks).1.1.name=nm
 | [],_,h=>absurd (show (6:Int)=0 from h) (by decide)
 | k::ks,hk,h=>by
   rw[zcg] at h ⊢;split
   · rename_i h6;rw[if_pos h6] at h;exact zjF hn ks (fun j hj=>hk j (List.mem_cons_of_mem _ hj)) h
   · rename_i h6;rw[if_neg h6] at h;obtain⟨hz,hkz⟩:=zfo h;have hr:=hk k List.mem_cons_self;obtain⟨q1,q2⟩:=zcO hz.1 (by omega) hn hkz;exact⟨hz,by omega,q2⟩
theorem zrw{D:List Rw}{id:Int}{nm:ByteArray}(h:(zcJ D id nm).2=0):InD D id (zcJ D id nm).1∧(zcJ D id nm).1.1.kind<=2∧(zcJ D id nm).1.1.name=nm∧Ds.name (Ds.bl nm)=true:=by
 unfold zcJ at h ⊢;cases hn:Ds.name (Ds.bl nm)
 · rw[hn,if_pos rfl] at h;exact absurd (show (1:Int)=0 from h) (by decide)
 · rw[hn,if_neg (by simp)] at h;rw[if_neg (by simp)];obtain⟨h1,h2,h3⟩:=zjF hn [0,1,2] (by decide) h;exact⟨h1,h2,h3,rfl⟩
theorem zjH{D:List Rw}(hd:DstL D){id:Int}{nm:ByteArray}(h:(zcJ D id nm).2=6){y:Fu}(hy:InD D id y)(hk:y.1.kind<=2):y.1.name≠nm:=fun e=>by
 have hall:∀ ks:List Int,(zcg D id nm ks).2=6->∀ k∈ks,(zbd D id k nm).2=6:=by
  intro ks
  induction ks with
  | nil=>intro _ k hk;cases hk
  | cons j ks ih =>
    intro h6 k hk;rw[zcg] at h6;split at h6
    · rename_i q;rcases List.mem_cons.1 hk with rfl|hk
      · exact q
      · exact ih h6 k hk
    · rename_i q;exact absurd h6 q
 unfold zcJ at h;split at h
 · exact absurd (show (1:Int)=6 from h) (by decide)
 have hr:=zbp hy.1;have h6:=hall _ h y.1.kind (by rcases (by omega:y.1.kind=0∨y.1.kind=1∨y.1.kind=2) with q|q|q <;> rw[q] <;> decide);exact ziN hd h6 hy (by rw[e])
theorem zlb{e:Int}(h:zhh e=0):e=6:=by
 unfold zhh at h;split at h
 · exact absurd h (by decide)
 · split at h
   · assumption
   · rename_i q _;exact absurd h q
/-! the operations keep it -/
theorem zfq{D:List Rw}{cs:List Ch}(h:Inv D)(hc:∀ c∈cs,c.1=0->∃ i x,okX x=true∧c=zby i x):∀ x∈apl D cs,∃ y,okX y=true∧x=zcA x.1 y :=
 zpb h.row fun c hcm h0=>by
  obtain⟨i,x,hx,rfl⟩:=hc c hcm h0;exact⟨x,hx,rfl⟩
theorem Inv.put{D:List Rw}(h:Inv D){i:Int}{x:Fu}(hx:okX x=true)(hk3:x.1.kind≠3)(hab:∀ y,InD D i y->zaT y.1.kind y.1.name≠zaT x.1.kind x.1.name)(hloc:(x.1.kind<=2->zaN D x.1.name=(i,0))∧(3<=x.1.kind->i=1))(hone:x.1.kind<=2->∀ y,InD D i y->y.1.kind<=2->y.1.name≠x.1.name)(hali:x.1.kind=2->∃ z,InD D i z∧z.1.kind<=1∧z.1.name=x.1.target∧Ds.gen (Ds.bl z.1.name)=false)(hgrp:x.1.kind=0->Ds.gen (Ds.bl x.1.name)=true->∃ g,InD D i g∧g.1.kind=1∧g.1.name=zeV x.1.name):Inv (apl D [zby i x]):=by
 have hno:NoK 3 [zby i x]:=fun c hc=>by
  rw[List.mem_singleton.1 hc];exact⟨x.1.kind,x.1.name,zbp hx,hk3,rfl⟩
 have hw:∀ nm,zaN (apl D [zby i x]) nm=zaN D nm:=fun nm=>zfL fun n=>zgH h.dst (by decide) hno
 have hin:∀ {j y},InD (apl D [zby i x]) j y↔(j=i∧y=x)∨InD D j y:=fun {j y}=>by
  rw[zmf h.dst hx];constructor
  · rintro (q|⟨q,-⟩)
    · exact .inl q
    · exact .inr q
  · rintro (q|q)
    · exact .inl q
    · refine .inr ⟨q,?_⟩
      rintro ⟨rfl,e⟩;exact hab y q e.symm
 refine⟨zcE _ h.dst,zfq h (fun c hc _=>⟨i,x,hx,List.mem_singleton.1 hc⟩),fun id y hy=>?_,fun id y z hy hz ky kz e=>?_,fun id y hy hk=>?_,fun id y hy hk hg=>?_⟩
 · rw[hw];rcases hin.1 hy with ⟨rfl,rfl⟩|hy
   · exact hloc
   · exact h.loc id y hy
 · rcases hin.1 hy with ⟨h2,h3⟩|hy0 <;> rcases hin.1 hz with ⟨h1,h4⟩|hz0
   · rw[h3,h4]
   · rw[h2] at hz0;rw[h3] at e ky;exact absurd e.symm (hone ky z hz0 kz)
   · rw[h1] at hy0;rw[h4] at e kz;exact absurd e (hone kz y hy0 ky)
   · exact h.one id y z hy0 hz0 ky kz e
 · rcases hin.1 hy with ⟨rfl,rfl⟩|hy
   · obtain⟨z,q1,q2⟩:=hali hk;exact⟨z,hin.2 (.inr q1),q2⟩
   · obtain⟨z,q1,q2⟩:=h.ali id y hy hk;exact⟨z,hin.2 (.inr q1),q2⟩
 · rcases hin.1 hy with ⟨rfl,rfl⟩|hy
   · obtain⟨z,q1,q2⟩:=hgrp hk hg;exact⟨z,hin.2 (.inr q1),q2⟩
   · obtain⟨z,q1,q2⟩:=h.grp id y hy hk hg;exact⟨z,hin.2 (.inr q1),q2⟩
def KpI(D:List Rw)(g:List Ch × Int):Prop:=g.2=0->Inv (apl D g.1)
theorem KpI.bad{D:List Rw}{e:Int}(h:e≠0):KpI D ([],e):=fun q=>absurd q h
theorem KpI.ite{D:List Rw}{p:Prop}[Decidable p]{a b:List Ch × Int}(h1:p->KpI D a)(h2:¬ p->KpI D b):KpI D (if p then a else b):=by
 split
 · exact h1 ‹_›
 · exact h2 ‹_›
theorem zmY{D:List Rw}{k:Int}{nm:ByteArray}(h:(ofF D k nm).2=0):k≠3∧(0<=k∧k<=4)∧(k<=2->zaN D nm=((ofF D k nm).1,0))∧(3<=k->(ofF D k nm).1=1):=by
 unfold ofF at h ⊢;by_cases h1:k<0∨4<k∨k=3
 · rw[if_pos h1] at h;exact absurd (show (1:Int)=0 from h) (by decide)
 rw[if_neg h1] at h ⊢;by_cases h4:k=4
 · rw[if_pos h4] at h ⊢;exact⟨by omega,by omega,fun q=>by omega,fun _=>rfl⟩
 · rw[if_neg h4] at h ⊢;exact⟨by omega,by omega,fun _=>by rw[<-h],fun q=>by omega⟩
theorem zrS{D:List Rw}(h:Inv D)(x:Fu):KpI D (zpN D x):=by
 unfold zpN;refine KpI.ite (fun hok=>?_) (fun _=>KpI.bad (by decide))
 refine KpI.ite (fun q=>KpI.bad q) (fun h0=>?_)
 obtain⟨hk3,-,hloc⟩:=zmY (Classical.byContradiction h0);generalize (ofF D x.1.kind x.1.name).1=id at hloc ⊢;unfold zpC;rw[if_pos hok];refine KpI.ite (fun q=>KpI.bad q) (fun ha=>KpI.ite (fun q=>KpI.bad q.2) (fun hg=>KpI.ite (fun q=>KpI.bad q) (fun hl _=>?_)))
 have ha6:zqL D id x=6:=zlb (Classical.byContradiction ha);have hl0:zeM D id x=0:=Classical.byContradiction hl
 have hone:x.1.kind<=2->∀ y,InD D id y->y.1.kind<=2->y.1.name≠x.1.name:=fun hk y hy ky=>by
  unfold zqL at ha6;rw[if_neg (by omega)] at ha6;exact zjH h.dst ha6 hy ky
 refine h.put hok hk3 (fun y hy e=>?_) hloc hone (fun hk=>?_) (fun hk hgn=>?_)
 · by_cases hk:x.1.kind<=2
   · obtain⟨q1,q2⟩:=zd1 hy.1 hok e;exact hone hk y hy (by omega) q2
   · unfold zqL at ha6;rw[if_pos (by omega)] at ha6;exact ziN h.dst ha6 hy e
 · unfold zeM at hl0;rw[if_neg (fun q=>q hk)] at hl0;have hf:=@zrw D id x.1.target;generalize zcJ D id x.1.target=g at hl0 hf;obtain⟨z,c⟩:=g;dsimp only at hl0 hf;by_cases hc:c=0
   · rw[if_neg (fun q=>q hc)] at hl0;split at hl0
     · exact absurd hl0 (by decide)
     · rename_i hz;obtain⟨f1,f2,f3,-⟩:=hf hc;refine⟨z,f1,?_,f3,?_⟩
       · have:¬ z.1.kind=2:=fun q=>hz (.inr q)
         omega
       · exact Bool.eq_false_iff.2 fun q=>hz (.inl q)
   · rw[if_pos hc] at hl0;exact absurd hl0 hc
 · have hg0:(zbd D id 1 (zeV x.1.name)).2=0:=Classical.byContradiction fun q=>hg ⟨⟨hgn,hk⟩,q⟩
   obtain⟨f1,f2⟩:=zfo hg0;have hgr:=zl1 _ hgn;obtain⟨n1,-,-⟩:=(Ds.group_parts _).1 hgr;rw[<-zsU] at n1;obtain⟨q1,q2⟩:=zcO f1.1 (by decide) n1 f2;exact⟨_,f1,q1,q2⟩
theorem zl7{y:Fu}(h:okX y=true):(Ds.bl (zaT y.1.kind y.1.name)).head?=some (Ek.letter y.1.kind)∧zaZ (zaT y.1.kind y.1.name)=y.1.name:=by
 have hn:=zcc y h;rw[zbD,Ek.key_yes _ _ (zbp h) hn.1];refine⟨rfl,Ds.bl_inj ?_⟩
 unfold zaZ;rw[Ds.bl_mk,zbD,Ek.key_yes _ _ (zbp h) hn.1];exact Ek.trim_pad _ hn.2
theorem znI{D:List Rw}{id k:Int}{x:Rw}(h:Inv D)(hk:0<=k∧k<=4):x∈srt id (Ek.letter k) D↔∃ y,InD D id y∧y.1.kind=k∧x=zcA id y:=by
 have hm:=zc4 id (Ek.letter k) D D.length x;rw[List.take_of_length_le (Nat.le_refl _)] at hm;rw[hm];constructor
 · rintro ⟨hx,hi⟩;obtain⟨y,hy,e⟩:=h.mem hx;unfold inL at hi;rw[Bool.and_eq_true,decide_eq_true_eq,decide_eq_true_eq] at hi;obtain⟨rfl,hh⟩:=hi;refine⟨y,hy,?_,e⟩
   rw[e] at hh;have h2:(Ds.bl (zaT y.1.kind y.1.name)).head?=some (Ek.letter k):=hh;rw[(zl7 hy.1).1] at h2;injection h2 with h2
   exact Ek.letter_inj _ _ (zbp hy.1) hk h2
 · rintro ⟨y,hy,hyk,rfl⟩;refine⟨hy.2,?_⟩
   unfold inL;rw[Bool.and_eq_true,decide_eq_true_eq,decide_eq_true_eq];refine⟨rfl,?_⟩
   show (Ds.bl (zaT y.1.kind y.1.name)).head?=_
   rw[(zl7 hy.1).1,hyk]
theorem zis(name:ByteArray):∀ (S:List Rw) (out:List Fu),(∀ x∈S,∃ y,okX y=true∧x=zcA x.1 y)->(zji name S out).2=0∧∀ a,a∈(zji name S out).1↔a∈out∨∃ x∈S,okX a=true∧x=zcA x.1 a∧a.1.target=name
 | [],out,_=>⟨rfl,fun a=>by rw[zji];constructor;exact .inl;rintro (q|⟨x,hx,-⟩);exact q;cases hx⟩
 | x::S,out,h=>by
   obtain⟨y,hy,e⟩:=h x List.mem_cons_self;have hS:=fun z hz=>h z (List.mem_cons_of_mem _ hz)
   have hr:zaS x.2.1 x.2.2=(y,0):=by rw[e];exact za3 y hy
   have hex:∀ a,(∃ z∈x::S,okX a=true∧z=zcA z.1 a∧a.1.target=name)↔(a=y∧y.1.target=name)∨∃ z∈S,okX a=true∧z=zcA z.1 a∧a.1.target=name:=fun a=>by
    constructor
    · rintro ⟨z,hz,q1,q2,q3⟩;rcases List.mem_cons.1 hz with rfl|hz
      · rw[e] at q2;have q4:zcA z.1 y=zcA z.1 a:=q2;unfold zcA at q4;injection q4 with _ q4
        injection q4 with _ q4
        have:=zdt hy q1 q4;subst this;exact .inl ⟨rfl,q3⟩
      · exact .inr ⟨z,hz,q1,q2,q3⟩
    · rintro (⟨rfl,q⟩|⟨z,hz,q⟩)
      · exact⟨x,List.mem_cons_self,hy,e,q⟩
      · exact⟨z,List.mem_cons_of_mem _ hz,q⟩
   rw[zji,hr,if_neg (by simp)];by_cases ht:y.1.target=name
   · rw[if_pos ht];obtain⟨h1,h2⟩:=zis name S (out++[y]) hS;refine⟨h1,fun a=>?_⟩
     rw[h2,hex,List.mem_append,List.mem_singleton,or_assoc];constructor
     · rintro (q|q|q)
       · exact .inl q
       · exact .inr (.inl ⟨q,ht⟩)
       · exact .inr (.inr q)
     · rintro (q|⟨q,-⟩|q)
       · exact .inl q
       · exact .inr (.inl q)
       · exact .inr (.inr q)
   · rw[if_neg ht];obtain⟨h1,h2⟩:=zis name S out hS;refine⟨h1,fun a=>?_⟩
     rw[h2,hex];constructor
     · rintro (q|q)
       · exact .inl q
       · exact .inr (.inr q)
     · rintro (q|⟨-,q⟩|q)
       · exact .inl q
       · exact absurd q ht
       · exact .inr q
theorem Inv.alis{D:List Rw}(h:Inv D)(id:Int)(name:ByteArray):(zeW D id name).2=0∧∀ a,a∈(zeW D id name).1↔InD D id a∧a.1.kind=2∧a.1.target=name:=by
 have hs:∀ x,x∈srt id 65 D↔∃ y,InD D id y∧y.1.kind=2∧x=zcA id y:=fun x=>znI h (k:=2) (by decide)
 obtain⟨h1,h2⟩:=zis name (srt id 65 D) [] fun x hx=>by
  obtain⟨y,hy,-,e⟩:=(hs x).1 hx;exact⟨y,hy.1,by rw[e];rfl⟩
 refine⟨h1,fun a=>?_⟩
 show a∈(zji name (srt id 65 D) []).1↔_
 rw[h2];constructor
 · rintro (q|⟨x,hx,q1,q2,q3⟩)
   · cases q
   · obtain⟨y,hy,hk,e⟩:=(hs x).1 hx;rw[e] at q2;have q4:zcA id y=zcA id a:=q2;unfold zcA at q4;injection q4 with _ q4
     injection q4 with _ q4
     have:=zdt hy.1 q1 q4;subst this;exact⟨hy,hk,q3⟩
 · rintro ⟨q1,q2,q3⟩;exact .inr ⟨zcA id a,(hs _).2 ⟨a,q1,q2,rfl⟩,q1.1,rfl,q3⟩
theorem zj2(g:ByteArray):∀ (S:List Rw) (out:List Int),ztu g S out=[]->out=[]∧∀ x∈S,¬ ((Ds.gen (Ds.bl (zaZ x.2.1))=true∧zeV (zaZ x.2.1)=g)∧x.2.1=zaT 0 (zaZ x.2.1))
 | [],out,h=>⟨h,fun _ q=>by cases q⟩
 | x::S,out,h=>by
   rw[ztu] at h;obtain⟨h1,h2⟩:=zj2 g S _ h;by_cases hc:(Ds.gen (Ds.bl (zaZ x.2.1))=true∧zeV (zaZ x.2.1)=g)∧x.2.1=zaT 0 (zaZ x.2.1)
   · rw[if_pos hc] at h1;simp at h1
   · rw[if_neg hc] at h1;refine⟨h1,fun z hz=>?_⟩
     rcases List.mem_cons.1 hz with rfl|hz
     · exact hc
     · exact h2 z hz
theorem Inv.nums{D:List Rw}(h:Inv D){id:Int}{g:ByteArray}(hn:ztt D id g=[]){y:Fu}(hy:InD D id y)(hk:y.1.kind=0)(hg:Ds.gen (Ds.bl y.1.name)=true):zeV y.1.name≠g:=fun e=>by
 have hx:zcA id y∈srt id 68 D:=(znI h (k:=0) (by decide)).2 ⟨y,hy,hk,rfl⟩;obtain⟨q1,q2⟩:=zl7 hy.1;refine (zj2 g (srt id 68 D) [] hn).2 _ hx ?_
 show (Ds.gen (Ds.bl (zaZ (zaT y.1.kind y.1.name)))=true∧zeV (zaZ (zaT y.1.kind y.1.name))=g)∧zaT y.1.kind y.1.name=zaT 0 (zaZ (zaT y.1.kind y.1.name))
 rw[q2];exact⟨⟨hg,e⟩,by rw[hk]⟩
/-! removing -/
theorem Inv.del{D:List Rw}(h:Inv D){id:Int}{E:List Fu}(hE:∀ e∈E,InD D id e∧e.1.kind≠3)(hali:∀ y,InD D id y->y.1.kind=2->y ∉ E->∀ z,InD D id z->z.1.kind<=1->z.1.name=y.1.target->z ∉ E)(hgrp:∀ y,InD D id y->y.1.kind=0->Ds.gen (Ds.bl y.1.name)=true->y ∉ E->∀ g,InD D id g->g.1.kind=1->g.1.name=zeV y.1.name->g ∉ E):Inv (apl D (E.map (zbf id))):=by
 have h0:∀ c∈E.map (zbf id),c.1≠0:=fun c hc=>by
  obtain⟨e,-,rfl⟩:=List.mem_map.1 hc;exact (show (1:Int)≠0 by decide)
 have hno:NoK 3 (E.map (zbf id)):=fun c hc=>by
  obtain⟨e,he,rfl⟩:=List.mem_map.1 hc;exact⟨e.1.kind,e.1.name,zbp (hE e he).1.1,(hE e he).2,rfl⟩
 have hw:∀ nm,zaN (apl D (E.map (zbf id))) nm=zaN D nm:=fun nm=>zfL fun n=>zgH h.dst (by decide) hno
 have hin:∀ {j y},InD (apl D (E.map (zbf id))) j y↔InD D j y∧¬ (j=id∧y∈E):=fun {j y}=>by
  rw[zme h.dst h0];constructor
  · rintro ⟨q1,q2⟩;refine⟨q1,?_⟩
    rintro ⟨rfl,q⟩;exact q2 _ (List.mem_map.2 ⟨y,q,rfl⟩) ⟨rfl,rfl⟩
  · rintro ⟨q1,q2⟩;refine⟨q1,fun c hc=>?_⟩
    obtain⟨e,he,rfl⟩:=List.mem_map.1 hc;rintro ⟨e1,e2⟩;have e1':id=j:=e1;subst e1';have:=(hE e he).1.same h.dst q1 e2;subst this;exact q2 ⟨rfl,he⟩
 refine⟨zcE _ h.dst,zfq h (fun c hc q=>absurd q (h0 c hc)),fun i y hy=>?_,fun i y z hy hz=>?_,fun i y hy hk=>?_,fun i y hy hk hg=>?_⟩
 · rw[hw];exact h.loc i y (hin.1 hy).1
 · exact h.one i y z (hin.1 hy).1 (hin.1 hz).1
 · obtain⟨q1,q2⟩:=hin.1 hy;obtain⟨z,z1,z2,z3,z4⟩:=h.ali i y q1 hk;refine⟨z,hin.2 ⟨z1,?_⟩,z2,z3,z4⟩
   rintro ⟨rfl,q⟩;exact hali y q1 hk (fun q3=>q2 ⟨rfl,q3⟩) z z1 z2 z3 q
 · obtain⟨q1,q2⟩:=hin.1 hy;obtain⟨z,z1,z2,z3⟩:=h.grp i y q1 hk hg;refine⟨z,hin.2 ⟨z1,?_⟩,z2,z3⟩
   rintro ⟨rfl,q⟩;exact hgrp y q1 hk hg (fun q3=>q2 ⟨rfl,q3⟩) z z1 z2 z3 q
theorem zrU{D:List Rw}(h:Inv D)(kind:Int)(name:ByteArray):KpI D (zhU D kind name):=by
 unfold zhU;refine KpI.ite (fun q=>KpI.bad q) (fun h0=>?_)
 obtain⟨hk3,hkr,hloc,-⟩:=zmY (Classical.byContradiction h0);generalize (ofF D kind name).1=id at hloc ⊢;unfold zna;refine KpI.ite (fun q=>KpI.bad q) (fun hg=>?_)
 obtain⟨he,hek⟩:=zfo (Classical.byContradiction hg);have hkd:(zbd D id kind name).1.1.kind=kind:=zev (zbp he.1) hkr (zdG _ he.1) hek
 have hnm:kind<=2->(zbd D id kind name).1.1.name=name:=fun hk=>by
  have hn:=(zcq (l:=D) (name:=name) (by rw[hloc hk])).2;exact (zcO he.1 hkr hn hek).2
 generalize (zbd D id kind name).1=e at he hkd hnm ⊢;refine KpI.ite (fun _=>KpI.bad (by decide)) (fun hnum=>KpI.ite (fun hk1=>KpI.ite (fun q=>KpI.bad q) (fun _ _=>?_)) (fun hk1 _=>?_))
 · obtain⟨-,ha⟩:=h.alis id name;generalize (zeW D id name).1=A at ha ⊢;dsimp only;have e1:A.map (zbf id)++[zbf id e]=(A++[e]).map (zbf id):=by rw[List.map_append];rfl
   rw[e1];have hmem:∀ z,z∈A++[e]↔z∈A∨z=e:=fun z=>by rw[List.mem_append,List.mem_singleton]
   refine h.del (fun z hz=>?_) (fun y hy hy2 hyE z hz hz1 hzt=>?_) (fun y hy hy0 hyg hyE g hg hg1 hgn=>?_)
   · rcases (hmem z).1 hz with hz|rfl
     · obtain⟨q1,q2,-⟩:=(ha z).1 hz;exact⟨q1,by omega⟩
     · exact⟨he,by omega⟩
   · rw[hmem];rintro (q|rfl)
     · have:=((ha z).1 q).2.1;omega
     · rw[hnm (by omega)] at hzt;exact hyE ((hmem y).2 (.inl ((ha y).2 ⟨hy,hy2,hzt.symm⟩)))
   · rw[hmem];rintro (q|rfl)
     · have:=((ha g).1 q).2.1;omega
     · rw[hnm (by omega)] at hgn;have hk:kind=1:=by omega
       have hn0:ztt D id name=[]:=Classical.byContradiction fun q=>hnum ⟨hk,q⟩
       exact h.nums hn0 hy hy0 hyg hgn.symm
 · dsimp only;have e1:[zbf id e]=[e].map (zbf id):=rfl;rw[e1];refine h.del (fun z hz=>?_) (fun y hy hy2 hyE z hz hz1 hzt q=>?_) (fun y hy hy0 hyg hyE g hg hg1 hgn q=>?_)
   · rw[List.mem_singleton.1 hz];exact⟨he,by omega⟩
   · rw[List.mem_singleton.1 q] at hz1;omega
   · rw[List.mem_singleton.1 q] at hg1;omega
/-! renaming -/
theorem zrV{D:List Rw}(h:Inv D)(name tn:ByteArray):KpI D (zhV D name tn):=by
 unfold zhV;refine KpI.ite (fun _=>KpI.bad (by decide)) (fun hnn=>KpI.ite (fun q=>KpI.bad q) (fun h1=>KpI.ite (fun q=>KpI.bad q) (fun h2=>KpI.ite (fun _=>KpI.bad (by decide)) (fun h3=>?_))))
 have w1:(zaN D name).2=0:=Classical.byContradiction h1;have w2:(zaN D tn).2=0:=Classical.byContradiction h2;have w3:(zaN D name).1=(zaN D tn).1:=Classical.byContradiction h3;unfold zk8;refine KpI.ite (fun _=>KpI.bad (by decide)) (fun _=>KpI.ite (fun q=>KpI.bad q) (fun hg=>KpI.ite (fun _=>KpI.bad (by decide)) (fun hgn=>KpI.ite (fun q=>KpI.bad q) (fun hab=>KpI.ite (fun q=>KpI.bad q) (fun _ _=>?_)))))
 obtain⟨-,hn⟩:=zcq w2;obtain⟨-,hn1⟩:=zcq w1;rw[w3] at hg hab ⊢;generalize hid:(zaN D tn).1=id at hg hab ⊢;have hw:zaN D tn=(id,0):=by rw[<-hid,<-w2]
 have hg0:(zbd D id 0 name).2=0:=Classical.byContradiction hg;have hab0:zhh (zcJ D id tn).2=0:=Classical.byContradiction hab;have hout:∀ y,InD D id y->y.1.kind<=2->y.1.name≠tn:=fun y hy hk=>zjH h.dst (zlb hab0) hy hk
 obtain⟨he,hek⟩:=zfo hg0;obtain⟨hk,hnm⟩:=zcO he.1 (by decide) hn1 hek;obtain⟨-,ha⟩:=h.alis id name;generalize (zeW D id name).1=A at ha ⊢;generalize (zbd D id 0 name).1=e at he hk hnm ⊢;have hgen:Ds.gen (Ds.bl tn)=false:=Bool.eq_false_iff.2 fun q=>hgn (Or.inr q)
 have hgen1:Ds.gen (Ds.bl name)=false:=Bool.eq_false_iff.2 fun q=>hgn (Or.inl q)
 have hoy:=zsp he.1 hk hn;have hky:(zid e tn).1.kind=0:=hk;have hny:(zid e tn).1.name=tn:=rfl
 have hA:∀ a∈A,okX (zda a tn)=true:=fun a hm=>by
  obtain⟨q1,q2,-⟩:=(ha a).1 hm;exact zsq q1.1 q2 hn (fun q=>hout a q1 (by omega) q.symm)
 dsimp only;unfold zql;generalize hY:zid e tn=y at hoy hky hny ⊢;generalize hcs:zbf id e::zby id y::A.map (fun a=>zby id (zda a tn))=cs
 have hmem:∀ c∈cs,c=zbf id e∨c=zby id y∨∃ a∈A,c=zby id (zda a tn):=fun c hc=>by
  rw[<-hcs] at hc;rcases List.mem_cons.1 hc with rfl|hc
  · exact .inl rfl
  rcases List.mem_cons.1 hc with rfl|hc
  · exact .inr (.inl rfl)
  obtain⟨a,ha,rfl⟩:=List.mem_map.1 hc;exact .inr (.inr ⟨a,ha,rfl⟩)
 have m1:zbf id e∈cs:=by rw[<-hcs];exact List.mem_cons_self
 have m2:zby id y∈cs:=by rw[<-hcs];exact List.mem_cons_of_mem _ List.mem_cons_self
 have m3:∀ a∈A,zby id (zda a tn)∈cs:=fun a hm=>by rw[<-hcs];exact List.mem_cons_of_mem _ (List.mem_cons_of_mem _ (List.mem_map.2 ⟨a,hm,rfl⟩))
 have hno:NoK 3 cs:=fun c hc=>by
  rcases hmem c hc with rfl|rfl|⟨a,hm,rfl⟩
  · exact⟨e.1.kind,e.1.name,zbp he.1,by rw[hk];decide,rfl⟩
  · exact⟨y.1.kind,y.1.name,zbp hoy,by rw[hky];decide,rfl⟩
  · exact⟨(zda a tn).1.kind,(zda a tn).1.name,zbp (hA a hm),by rw[show (zda a tn).1.kind=2 from ((ha a).1 hm).2.1];decide,rfl⟩
 have hwD:∀ nm,zaN (apl D cs) nm=zaN D nm:=fun nm=>zfL fun n=>zgH h.dst (by decide) hno
 have kA:∀ a∈A,zaT (zda a tn).1.kind (zda a tn).1.name=zaT a.1.kind a.1.name:=fun a _=>rfl
 have hey:zaT e.1.kind e.1.name≠zaT y.1.kind y.1.name:=fun q=>by
  obtain⟨-,q2⟩:=zd1 he.1 hoy q;rw[hny] at q2;exact hout e he (by omega) q2
 have hea:∀ a∈A,zaT e.1.kind e.1.name≠zaT a.1.kind a.1.name:=fun a hm q=>by
  obtain⟨q1,q2,-⟩:=(ha a).1 hm;have:=(zd1 he.1 q1.1 q).1;omega
 have hya:∀ a∈A,zaT y.1.kind y.1.name≠zaT a.1.kind a.1.name:=fun a hm q=>by
  obtain⟨q1,q2,-⟩:=(ha a).1 hm;have:=(zd1 hoy q1.1 q).1;omega
 have r1:zbS id (zaT y.1.kind y.1.name) (apl D cs)=some (zcF y):=zkh h.dst (fun c hc q=>by
  rcases hmem c hc with rfl|rfl|⟨a,hm,rfl⟩
  · exact absurd q.2 hey
  · exact⟨rfl,rfl⟩
  · exact absurd q.2.symm (hya a hm)) ⟨_,m2,rfl,rfl⟩
 have r2:∀ a∈A,zbS id (zaT a.1.kind a.1.name) (apl D cs)=some (zcF (zda a tn)):=fun a hm=>zkh h.dst (fun c hc q=>by
  rcases hmem c hc with rfl|rfl|⟨b,hb,rfl⟩
  · exact absurd q.2 (hea a hm)
  · exact absurd q.2 (hya a hm)
  · have:=((ha b).1 hb).1.same h.dst ((ha a).1 hm).1 q.2;subst this;exact⟨rfl,rfl⟩) ⟨_,m3 a hm,rfl,rfl⟩
 have r3:zbS id (zaT e.1.kind e.1.name) (apl D cs)=none:=zh5 h.dst (fun c hc q=>by
  rcases hmem c hc with rfl|rfl|⟨a,hm,rfl⟩
  · exact (show (1:Int)≠0 by decide)
  · exact absurd q.2.symm hey
  · exact absurd q.2.symm (hea a hm)) ⟨_,m1,rfl,rfl⟩
 have hd2:=zcE cs h.dst
 have hin:∀ {j z},InD (apl D cs) j z↔(j=id∧(z=y∨∃ a∈A,z=zda a tn))∨InD D j z∧¬ (j=id∧(z=e∨z∈A)):=fun {j z}=>by
  constructor
  · intro hz;have er:=hz.rec hd2;by_cases hj:j=id
    · subst hj;by_cases c1:zaT z.1.kind z.1.name=zaT y.1.kind y.1.name
      · rw[c1,r1] at er;injection er with er
        exact .inl ⟨rfl,.inl (zdt hoy hz.1 er).symm⟩
      by_cases c2:∃ a∈A,zaT z.1.kind z.1.name=zaT a.1.kind a.1.name
      · obtain⟨a,hm,c2⟩:=c2;rw[c2,r2 a hm] at er;injection er with er
        exact .inl ⟨rfl,.inr ⟨a,hm,(zdt (hA a hm) hz.1 er).symm⟩⟩
      by_cases c3:zaT z.1.kind z.1.name=zaT e.1.kind e.1.name
      · rw[c3,r3] at er;cases er
      rw[zcd h.dst (fun c hc q=>by
       rcases hmem c hc with rfl|rfl|⟨a,hm,rfl⟩
       · exact c3 q.2.symm
       · exact c1 q.2.symm
       · exact c2 ⟨a,hm,q.2.symm⟩)] at er
      refine .inr ⟨InD.of_rec hz.1 er,?_⟩
      rintro ⟨-,rfl|q⟩
      · exact c3 rfl
      · exact c2 ⟨z,q,rfl⟩
    · rw[zcd h.dst (fun c hc q=>by
       rcases hmem c hc with rfl|rfl|⟨a,hm,rfl⟩
       · exact hj q.1.symm
       · exact hj q.1.symm
       · exact hj q.1.symm)] at er
      exact .inr ⟨InD.of_rec hz.1 er,fun q=>hj q.1⟩
  · rintro (⟨rfl,rfl|⟨a,hm,rfl⟩⟩|⟨hz,hq⟩)
    · exact InD.of_rec hoy r1
    · exact InD.of_rec (hA a hm) (r2 a hm)
    · refine InD.of_rec hz.1 ?_
      rw[zcd h.dst (fun c hc q=>?_)]
      · exact hz.rec h.dst
      · rcases hmem c hc with rfl|rfl|⟨a,hm,rfl⟩
        · have q1:id=j:=q.1;subst q1;exact hq ⟨rfl,.inl (he.same h.dst hz q.2).symm⟩
        · have q1:id=j:=q.1;subst q1;obtain⟨q2,q3⟩:=zd1 hoy hz.1 q.2;rw[hny] at q3;exact hout z hz (by omega) q3.symm
        · have q1:id=j:=q.1;subst q1;have:=((ha a).1 hm).1.same h.dst hz q.2;subst this;exact hq ⟨rfl,.inr hm⟩
 have hAt:∀ a∈A,(zda a tn).1.kind=2∧(zda a tn).1.name=a.1.name∧(zda a tn).1.target=tn:=fun a hm=>⟨((ha a).1 hm).2.1,rfl,rfl⟩
 refine⟨hd2,zfq h (fun c hc h0=>?_),fun i z hz=>?_,fun i z u hz hu kz ku eq=>?_,fun i z hz hk2=>?_,fun i z hz hk0 hgz=>?_⟩
 · rcases hmem c hc with rfl|rfl|⟨a,hm,rfl⟩
   · exact absurd (show (1:Int)=0 from h0) (by decide)
   · exact⟨id,y,hoy,rfl⟩
   · exact⟨id,_,hA a hm,rfl⟩
 · rw[hwD];rcases hin.1 hz with ⟨rfl,rfl|⟨a,hm,rfl⟩⟩|⟨hz,-⟩
   · rw[hny];exact⟨fun _=>hw,fun q=>by omega⟩
   · obtain⟨t1,t2,-⟩:=hAt a hm;rw[t2];exact⟨fun _=>(h.loc _ a ((ha a).1 hm).1).1 (by have:=((ha a).1 hm).2.1;omega),fun q=>by omega⟩
   · exact h.loc i z hz
 · rcases hin.1 hz with ⟨rfl,rfl|⟨a,hm,rfl⟩⟩|⟨hz,hzq⟩
   · rcases hin.1 hu with ⟨-,rfl|⟨b,hb,rfl⟩⟩|⟨hu,-⟩
     · rfl
     · rw[hny,(hAt b hb).2.1] at eq;exact absurd eq.symm (hout b ((ha b).1 hb).1 (by have:=((ha b).1 hb).2.1;omega))
     · rw[hny] at eq;exact absurd eq.symm (hout u hu ku)
   · rw[(hAt a hm).2.1] at eq;have ka:=((ha a).1 hm).2.1;rcases hin.1 hu with ⟨-,rfl|⟨b,hb,rfl⟩⟩|⟨hu,huq⟩
     · rw[hny] at eq;exact absurd eq (hout a ((ha a).1 hm).1 (by omega))
     · rw[(hAt b hb).2.1] at eq;have kb:=((ha b).1 hb).2.1;have:=h.one _ a b ((ha a).1 hm).1 ((ha b).1 hb).1 (by omega) (by omega) eq;rw[this]
     · have:=h.one _ a u ((ha a).1 hm).1 hu (by omega) ku eq;subst this;exact absurd ⟨rfl,.inr hm⟩ huq
   · rcases hin.1 hu with ⟨rfl,rfl|⟨b,hb,rfl⟩⟩|⟨hu,-⟩
     · rw[hny] at eq;exact absurd eq (hout z hz kz)
     · rw[(hAt b hb).2.1] at eq;have kb:=((ha b).1 hb).2.1;have:=h.one _ z b hz ((ha b).1 hb).1 kz (by omega) eq;subst this;exact absurd ⟨rfl,.inr hb⟩ hzq
     · exact h.one i z u hz hu kz ku eq
 · rcases hin.1 hz with ⟨rfl,rfl|⟨a,hm,rfl⟩⟩|⟨hz,hzq⟩
   · omega
   · refine⟨y,hin.2 (.inl ⟨rfl,.inl rfl⟩),by omega,?_,?_⟩
     · rw[hny,(hAt a hm).2.2]
     · rw[hny];exact hgen
   · obtain⟨t,t1,t2,t3,t4⟩:=h.ali i z hz hk2;refine⟨t,hin.2 (.inr ⟨t1,?_⟩),t2,t3,t4⟩
     rintro ⟨rfl,rfl|q⟩
     · rw[hnm] at t3;exact hzq ⟨rfl,.inr ((ha z).2 ⟨hz,hk2,t3.symm⟩)⟩
     · have:=((ha t).1 q).2.1;omega
 · rcases hin.1 hz with ⟨rfl,rfl|⟨a,hm,rfl⟩⟩|⟨hz,hzq⟩
   · rw[hny,hgen] at hgz;cases hgz
   · have:=(hAt a hm).1;omega
   · obtain⟨t,t1,t2,t3⟩:=h.grp i z hz hk0 hgz;refine⟨t,hin.2 (.inr ⟨t1,?_⟩),t2,t3⟩
     rintro ⟨rfl,rfl|q⟩
     · omega
     · have:=((ha t).1 q).2.1;omega
theorem ze2(s:List UInt8)(n:Nat)(hs:Ds.name s=true)(h:(Ds.pieces s).length<=n):Ds.first n s=s:=by
 unfold Ds.first;rw[if_pos hs,Int.toNat_natCast,List.take_of_length_le h,Ds.join_pieces]
theorem zod(s:List UInt8)(n:Nat)(hs:Ds.name s=true)(h0:0<n):(Ds.pieces (Ds.first n s)).length<=n:=by
 rw[(Ds.first_take s n hs h0).2];exact List.length_take_le _ _
theorem zlQ(s:List UInt8)(hs:Ds.name s=true):Ds.first 1 (Ds.first 2 s)=Ds.first 1 s:=by
 obtain⟨f1,f2⟩:=Ds.first_take s 2 hs (by decide)
 have e:∀ t:List UInt8,Ds.name t=true->Ds.first 1 t=Lib.join ((Ds.pieces t).take 1) [46]:=fun t ht=>by
  unfold Ds.first;rw[if_pos ht];rfl
 have f1':Ds.name (Ds.first 2 s)=true:=f1;have f2':Ds.pieces (Ds.first 2 s)=(Ds.pieces s).take 2:=f2;rw[e _ f1',e _ hs,f2',List.take_take];rfl
theorem zch(n:Int)(s:ByteArray):Ds.bl (za7 n s)=Ds.first n (Ds.bl s):=Ds.bl_mk _
theorem zfn{s:ByteArray}(n:Nat)(h0:0<n)(hs:Ds.name (Ds.bl s)=true):Ds.name (Ds.bl (za7 n s))=true:=by
 rw[zch];exact (Ds.first_take _ n hs h0).1
theorem zm4{p nm:ByteArray}(hp:zeC p=true)(hn:Ds.name (Ds.bl nm)=true)(n:Nat)(h0:0<n)(h:za7 n nm=p):Ds.match_ (Ds.bl (p++⟨#[46,42,42]⟩)) (Ds.bl nm)=true:=by
 have e1:Ds.bl (p++⟨#[46,42,42]⟩)=Ds.bl p++[46,42,42]:=by unfold Ds.bl;simp
 rw[e1]
 have hpn:Ds.name (Ds.bl p)=true:=by
  unfold zeC at hp;rw[Bool.and_eq_true] at hp;exact hp.1
 have hlen:(Ds.bl p).length<=28:=by
  unfold zeC at hp;rw[Bool.and_eq_true,decide_eq_true_eq] at hp;have h2:=hp.2;have hpp:=(Ds.name_parts _).1 hpn;have hc:(Ds.bl p).count 46<2:=by unfold Lib.countByte at h2;unfold Ds.bl;omega
  have hpl:=Ds.pieces_len (Ds.bl p);have hj:=Ds.join_pieces (Ds.bl p);rw[<-hj];have q8:∀ q∈Ds.pieces (Ds.bl p),q.length<=8:=fun q hq=>Ds.qual_le _ _ _ (hpp.2 q hq)
  generalize Ds.pieces (Ds.bl p)=P at hpl q8;rcases P with _|⟨a,_|⟨b,_|⟨c,r⟩⟩⟩
  · simp [Lib.join]
  · have:=q8 a (by simp);rw[jn1];omega
  · have h1:=q8 a (by simp);have h3:=q8 b (by simp);rw[Ds.join_cons2];rw[jn1];simp only[List.length_append,List.length_singleton];omega
  · simp only[List.length_cons] at hpl;omega
 rw[Ds.match_below _ _ (Ds.name_pat _ hpn) hlen hn,List.any_eq_true];have hb:Ds.first n (Ds.bl nm)=Ds.bl p:=by rw[<-h,zch]
 have hlp:0<(Ds.pieces (Ds.bl nm)).length:=List.length_pos_iff.2 (Ds.pieces_ne _);by_cases hle:n<=(Ds.pieces (Ds.bl nm)).length
 · refine⟨n - 1,by rw[List.mem_range];omega,?_⟩
   have en:((n - 1:Nat):Int)+1=(n:Int):=by omega
   rw[en,hb,Ds.match_self _ _ hpn hpn,decide_eq_true rfl]
 · refine⟨(Ds.pieces (Ds.bl nm)).length - 1,by rw[List.mem_range];omega,?_⟩
   have en:(((Ds.pieces (Ds.bl nm)).length - 1:Nat):Int)+1=((Ds.pieces (Ds.bl nm)).length:Int):=by omega
   rw[ze2 _ n hn (by omega)] at hb;rw[en,ze2 _ _ hn (Nat.le_refl _),hb,Ds.match_self _ _ hpn hpn,decide_eq_true rfl]
theorem zp3{D:List Rw}{id:Int}{p:ByteArray}{y:Fu}(hp:zeC p=true)(hy:InD D id y)(hk:y.1.kind<=2)(hn:Ds.name (Ds.bl y.1.name)=true)(n:Nat)(h0:0<n)(h:za7 n y.1.name=p):hnF D id p=true:=by
 unfold hnF;rw[List.any_eq_true];refine⟨zcA id y,hy.2,?_⟩
 obtain⟨q1,q2⟩:=zl7 hy.1
 have hd:(Ds.bl (zaT y.1.kind y.1.name)).headD 0=Ek.letter y.1.kind:=by
  rw[List.headD_eq_head?_getD,q1];rfl
 unfold hnP;show (decide (id=id)&&((decide ((Ds.bl (zaT y.1.kind y.1.name)).headD 0=68) || decide ((Ds.bl (zaT y.1.kind y.1.name)).headD 0=71) || decide ((Ds.bl (zaT y.1.kind y.1.name)).headD 0=65))&&Ds.match_ (Ds.bl (p++⟨#[46,42,42]⟩)) (Ds.bl (zaZ (zaT y.1.kind y.1.name)))))=true
 rw[hd,q2,zm4 hp hn n h0 h];have h1:=(zbp hy.1).1;rcases (by omega:y.1.kind=0∨y.1.kind=1∨y.1.kind=2) with e|e|e <;> rw[e] <;> simp [Ek.letter]
theorem zc5(l:List Rw){nm:ByteArray}(hn:Ds.name (Ds.bl nm)=true):zaN l nm=(if (zbd l 1 3 (za7 2 nm)).2=0 then ((zbd l 1 3 (za7 2 nm)).1.1.cat,0) else if (zbd l 1 3 (za7 2 nm)).2=6 then (if (zbd l 1 3 (za7 1 nm)).2=0 then ((zbd l 1 3 (za7 1 nm)).1.1.cat,0) else if (zbd l 1 3 (za7 1 nm)).2=6 then (1,0) else (0,(zbd l 1 3 (za7 1 nm)).2)) else (0,(zbd l 1 3 (za7 2 nm)).2)):=by
 have e1:((1+1:Nat):Int)=2:=rfl;have e2:((0+1:Nat):Int)=1:=rfl;unfold zaN;rw[hn,if_neg (by simp),dn,dn,dn,zbv,zbv,zbv,e1,e2]
theorem zjR{k:Int}{a b:ByteArray}(hk:0<=k∧k<=4)(ha:Ds.name (Ds.bl a)=true)(hb:Ds.name (Ds.bl b)=true)(h:zaT k a=zaT k b):a=b:=by
 have e:=congrArg Ds.bl h;have sa:=zd4 ha;have sb:=zd4 hb;rw[zbD,zbD,Ek.key_yes k _ hk sa.1,Ek.key_yes k _ hk sb.1] at e;injection e with _ e2
 have e3:=congrArg Ek.trim e2;rw[Ek.trim_pad _ sa.2,Ek.trim_pad _ sb.2] at e3;exact Ds.bl_inj e3
theorem ziq{D D':List Rw}{p nm:ByteArray}(hp:Ds.name (Ds.bl p)=true)(hn:Ds.name (Ds.bl nm)=true)(hD:∀ q,zaT 3 q≠zaT 3 p->zbd D' 1 3 q=zbd D 1 3 q)(h2:za7 2 nm≠p)(h1:za7 1 nm=p->(zbd D 1 3 (za7 2 nm)).2≠6):zaN D' nm=zaN D nm:=by
 have n1:=zfn 1 (by decide) hn;have n2:=zfn 2 (by decide) hn;have g2:=hD (za7 2 nm) (fun e=>h2 (zjR (by decide) n2 hp e));rw[zc5 D' hn,zc5 D hn,g2];by_cases h6:(zbd D 1 3 (za7 2 nm)).2=6
 · have g1:=hD (za7 1 nm) (fun e=>h1 (zjR (by decide) n1 hp e) h6);rw[g1]
 · by_cases h0:(zbd D 1 3 (za7 2 nm)).2=0
   · rw[if_pos h0,if_pos h0]
   · rw[if_neg h0,if_neg h0,if_neg h6,if_neg h6]
theorem Inv.cat{D D':List Rw}(h:Inv D)(hd:DstL D')(hrow:∀ x∈D',∃ y,okX y=true∧x=zcA x.1 y)(hin:∀ j z,InD D' j z->InD D j z∨j=1∧z.1.kind=3)(hold:∀ j z,InD D j z->z.1.kind≠3->InD D' j z)(hw:∀ j y,InD D j y->y.1.kind<=2->zaN D' y.1.name=zaN D y.1.name):Inv D':=by
 have h2:∀ j z,InD D' j z->z.1.kind<=2->InD D j z:=fun j z hz hk=>by
  rcases hin j z hz with q|⟨-,q⟩
  · exact q
  · omega
 refine⟨hd,hrow,fun i y hy=>⟨fun hk=>?_,fun hk=>?_⟩,fun i y z hy hz hk hk2=>h.one i y z (h2 i y hy hk) (h2 i z hz hk2) hk hk2,fun i y hy hk=>?_,fun i y hy hk hg=>?_⟩
 · have q:=h2 i y hy hk;rw[hw i y q hk];exact (h.loc i y q).1 hk
 · rcases hin i y hy with q|⟨q,-⟩
   · exact (h.loc i y q).2 hk
   · exact q
 · obtain⟨z,z1,z2,z3⟩:=h.ali i y (h2 i y hy (by omega)) hk;exact⟨z,hold i z z1 (by omega),z2,z3⟩
 · obtain⟨z,z1,z2,z3⟩:=h.grp i y (h2 i y hy (by omega)) hk hg;exact⟨z,hold i z z1 (by omega),z2,z3⟩
theorem zj7{p:ByteArray}(hp:zeC p=true):Ds.name (Ds.bl p)=true∧(Ds.pieces (Ds.bl p)).length<=2:=by
 unfold zeC at hp;rw[Bool.and_eq_true,decide_eq_true_eq] at hp;refine⟨hp.1,?_⟩
 have h2:=hp.2;have hc:(Ds.bl p).count 46<2:=by unfold Lib.countByte at h2;unfold Ds.bl;omega
 have hpl:=Ds.pieces_len (Ds.bl p);omega
theorem zrR{D:List Rw}(h:Inv D)(p:ByteArray)(i:Int):KpI D (zpH D p i):=by
 unfold zpH;refine KpI.ite (fun _=>KpI.bad (by decide)) (fun hb=>KpI.ite (fun _=>KpI.bad (by decide)) (fun h00=>KpI.ite (fun _=>KpI.bad h00) (fun h6=>KpI.ite (fun q=>KpI.bad q) (fun hw0=>KpI.ite (fun _=>KpI.bad (by decide)) (fun hno _=>?_)))))
 have hp:zeC p=true:=by
  cases hq:zeC p
  · exact absurd (.inl hq) hb
  · rfl
 obtain⟨hpn,hpl⟩:=zj7 hp;have g6:(zbd D 1 3 p).2=6:=Classical.byContradiction h6;have w0:(zaN D p).2=0:=Classical.byContradiction hw0;have hok:=zpG (id:=i) hp (by omega) (by omega);have hxk:(zf3 p i).1.kind=3:=rfl;have hxn:(zf3 p i).1.name=p:=rfl;have habs:∀ y,InD D 1 y->zaT y.1.kind y.1.name≠zaT 3 p:=fun y hy=>ziN h.dst g6 hy
 have hin:∀ {j y},InD (apl D [zby 1 (zf3 p i)]) j y↔(j=1∧y=zf3 p i)∨InD D j y:=fun {j y}=>by
  rw[zmf h.dst hok];constructor
  · rintro (q|⟨q,-⟩)
    · exact .inl q
    · exact .inr q
  · rintro (q|q)
    · exact .inl q
    · refine .inr ⟨q,?_⟩
      rintro ⟨rfl,e⟩;exact habs y q e.symm
 refine h.cat (zcE _ h.dst) (zfq h (fun c hc _=>⟨1,_,hok,List.mem_singleton.1 hc⟩)) (fun j z hz=>?_) (fun j z hz _=>hin.2 (.inr hz)) (fun j y hy hk=>?_)
 · rcases hin.1 hz with ⟨q,rfl⟩|q
   · exact .inr ⟨q,rfl⟩
   · exact .inl q
 · have hn:=h.name hy hk;have hl:=(h.loc j y hy).1 hk
   have hD:∀ q,zaT 3 q≠zaT 3 p->zbd (apl D [zby 1 (zf3 p i)]) 1 3 q=zbd D 1 3 q:=fun q hq=>ziM (zcd h.dst fun c hc=>by
    rw[List.mem_singleton.1 hc];exact fun e=>hq e.2.symm)
   have hbad:∀ n:Nat,0<n->za7 n y.1.name=p->j=(zaN D p).1->False:=fun n h0 e ej=>by
    have:=zp3 hp hy hk hn n h0 e;rw[ej] at this;exact hno this
   have p2:za7 2 p=p:=Ds.bl_inj (by rw[zch];exact ze2 _ 2 hpn hpl);by_cases c2:za7 2 y.1.name=p
   · exfalso
     refine hbad 2 (by decide) c2 ?_
     have e1:za7 1 p=za7 1 y.1.name:=by
      refine Ds.bl_inj ?_
      rw[zch,zch,<-c2,zch];exact zlQ _ hn
     have ew:zaN D p=zaN D y.1.name:=by
      rw[zc5 D hpn,zc5 D hn,p2,c2,e1]
     rw[ew,hl]
   · refine ziq hpn hn hD c2 fun c1 g2=>?_
     refine hbad 1 (by decide) c1 ?_
     have hp1:(Ds.pieces (Ds.bl p)).length<=1:=by
      rw[<-c1,zch];exact zod _ 1 hn (by decide)
     have p1:za7 1 p=p:=Ds.bl_inj (by rw[zch];exact ze2 _ 1 hpn hp1);have z6:¬ (6:Int)=0:=by decide
     have e1:zaN D p=(1,0):=by rw[zc5 D hpn,p2,p1,g6,if_neg z6,if_pos rfl,if_neg z6,if_pos rfl]
     have e2:zaN D y.1.name=(1,0):=by rw[zc5 D hn,g2,c1,g6,if_neg z6,if_pos rfl,if_neg z6,if_pos rfl]
     rw[e1];rw[hl] at e2;exact congrArg Prod.fst e2
theorem zrT{D:List Rw}(h:Inv D)(p:ByteArray):KpI D (zk5 D p):=by
 unfold zk5;refine KpI.ite (fun _=>KpI.bad (by decide)) (fun hb=>KpI.ite (fun q=>KpI.bad q) (fun h0=>KpI.ite (fun _=>KpI.bad (by decide)) (fun hno _=>?_)))
 have hp:zeC p=true:=by
  cases hq:zeC p
  · exact absurd hq hb
  · rfl
 obtain⟨hpn,hpl⟩:=zj7 hp;have g0:(zbd D 1 3 p).2=0:=Classical.byContradiction h0;dsimp only;have hc0:∀ c∈[((1:Int),(1:Int),zaT 3 p,(⟨#[]⟩:ByteArray),(⟨#[]⟩:ByteArray))],c.1≠0:=fun c hc=>by rw[List.mem_singleton.1 hc];exact (show (1:Int)≠0 by decide)
 have hin:∀ {j y},InD (apl D [((1:Int),(1:Int),zaT 3 p,(⟨#[]⟩:ByteArray),(⟨#[]⟩:ByteArray))]) j y↔InD D j y∧¬ (1=j∧zaT 3 p=zaT y.1.kind y.1.name):=fun {j y}=>by
  rw[zme h.dst hc0];constructor
  · rintro ⟨q1,q2⟩;exact⟨q1,q2 _ List.mem_cons_self⟩
  · rintro ⟨q1,q2⟩;exact⟨q1,fun c hc=>by rw[List.mem_singleton.1 hc];exact q2⟩
 refine h.cat (zcE _ h.dst) (zfq h (fun c hc q=>absurd q (hc0 c hc))) (fun j z hz=>.inl (hin.1 hz).1) (fun j z hz hk=>hin.2 ⟨hz,fun q=>hk (zcO hz.1 (by decide) hpn q.2.symm).1⟩) (fun j y hy hk=>?_)
 have hn:=h.name hy hk;have hl:=(h.loc j y hy).1 hk
 have hD:∀ q,zaT 3 q≠zaT 3 p->zbd (apl D [((1:Int),(1:Int),zaT 3 p,(⟨#[]⟩:ByteArray),(⟨#[]⟩:ByteArray))]) 1 3 q=zbd D 1 3 q:=fun q hq=>ziM (zcd h.dst fun c hc=>by
  rw[List.mem_singleton.1 hc];exact fun e=>hq e.2.symm)
 have hbad:∀ n:Nat,0<n->za7 n y.1.name=p->j=(zbd D 1 3 p).1.1.cat->False:=fun n h0 e ej=>by
  have:=zp3 hp hy hk hn n h0 e;rw[ej] at this;exact hno this
 by_cases c2:za7 2 y.1.name=p
 · exfalso
   refine hbad 2 (by decide) c2 ?_
   have e2:zaN D y.1.name=((zbd D 1 3 p).1.1.cat,0):=by rw[zc5 D hn,c2,if_pos g0]
   rw[hl] at e2;exact congrArg Prod.fst e2
 · refine ziq hpn hn hD c2 fun c1 g2=>?_
   refine hbad 1 (by decide) c1 ?_
   have z6:¬ (6:Int)=0:=by decide
   have e2:zaN D y.1.name=((zbd D 1 3 p).1.1.cat,0):=by rw[zc5 D hn,g2,if_neg z6,if_pos rfl,c1,if_pos g0]
   rw[hl] at e2;exact congrArg Prod.fst e2
theorem zt8{D:List Rw}(h:Inv D)(k i:Int)(x:Fu)(s:ByteArray):KpI D (opR D k i x s):=by
 unfold opR;exact KpI.ite (fun _=>zrS h x) (fun _=>KpI.ite (fun _=>zrU h _ _) (fun _=>KpI.ite (fun _=>zrV h _ _) (fun _=>KpI.ite (fun _=>zrR h _ _) (fun _=>zrT h _))))
theorem zha(Z:Nat->Zo):∀ n,Inv (zcW Z n)
 | 0=>Inv.nil
 | k+1=>by
   have h:=zha Z k;rw[zcW];unfold opS;split
   · rename_i q;exact zt8 h _ _ _ _ q
   · exact h
def SrtA(l:List Rw):Prop:=l.Pairwise fun x y=>zdb y x=true
theorem zot{x y:Rw}:zdb y x=true↔x.1<y.1∨x.1=y.1∧ltB (kyR x) (kyR y)=true:=by
 unfold zdb;rw[Bool.or_eq_true,Bool.and_eq_true,decide_eq_true_eq,decide_eq_true_eq]
theorem zrP{x y:Rw}(h:zdb y x=true):zeR x y=false:=by
 rw[zot] at h;unfold zeR;rcases h with h|⟨-,h⟩
 · rw[decide_eq_false (by omega),Bool.false_and]
 · have e:decide (kyR x=kyR y)=false:=decide_eq_false fun e=>by rw[e,zdh] at h;cases h
   rw[e,Bool.and_false]
theorem SrtA.dst{l:List Rw}(h:SrtA l):DstL l:=List.Pairwise.imp (fun h=>zrP h) h
structure ConL (D R:List Rw) (p:ByteArray) (i:Int) (name:ByteArray):Prop where
 ok:(zaN R name).2=0
 oth:Ds.match_ (Ds.bl (p++⟨#[46,42,42]⟩)) (Ds.bl name)=false->zaN R name=zaN D name
 own:zaN R p=(i,0)
 back:(zk5 R p).2=0->apl R (zk5 R p).1=D
 bad:(zk5 R p).2≠0->(zk5 R p).2=9∧(zfT R 0 0 0 i 50 (p++⟨#[46,42,42]⟩)).1.2=0∧0<(zfT R 0 0 0 i 50 (p++⟨#[46,42,42]⟩)).1.1.length
theorem Inv.rdL{D:List Rw}(h:Inv D)(id:Int)(L:UInt8):RdL D id L:=fun k r hm _=>by
 obtain⟨y,hy,e⟩:=h.mem hm;have e2:(id,k,r)=(id,zaT y.1.kind y.1.name,zcF y):=e;injection e2 with _ e3
 injection e3 with e4 e5
 refine⟨y,by rw[e5];exact ztr y hy.1,?_⟩
 rw[e4];exact (zbD _ _).symm
theorem znf:∀ (S:List Rw) (s:List Int),zfZ (fun s k r=>(.ok (ctS s k r):Except Int (List Int))) S s=.ok (s++S.map fun x=>(zaS x.2.1 x.2.2).1.1.cat)
 | [],s=>by rw[zfZ];simp
 | x::S,s=>by
   rw[zfZ];dsimp only;rw[znf S,ctS,List.append_assoc];rfl
def zga(D:List Rw):List Int:=[1]++(srt 1 67 D).map fun x=>(zaS x.2.1 x.2.2).1.1.cat
theorem zpI{D:List Rw}(h:Inv D):(zbt D 1 0 0 67 (fun s k r=>(.ok (ctS s k r):Except Int (List Int))) (D.length+1) 0 [(67:UInt8) - 1,255] [1]).1=.ok (zga D,0):=by
 rw[zdu (step:=fun s k r=>(.ok (ctS s k r):Except Int (List Int))) D 1 0 0 0 67 (by decide) (Int.le_refl _) h.dst (Int.le_refl _) [1],znf];rfl
theorem Inv.ids{D:List Rw}(h:Inv D){id:Int}{y:Fu}(hy:InD D id y):id∈zga D:=by
 have one:∀ j:Int,j=1->j∈zga D:=fun j e=>by unfold zga;rw[e];simp
 have cat:∀ nm,(zbd D 1 3 nm).2=0->(zbd D 1 3 nm).1.1.cat∈zga D:=fun nm h0=>by
  obtain⟨hz,hk⟩:=zfo h0;generalize (zbd D 1 3 nm).1=e at hz hk ⊢;have hkd:e.1.kind=3:=zev (zbp hz.1) (by decide) (zdG e hz.1) hk;unfold zga;refine List.mem_append_right _ (List.mem_map.2 ⟨zcA 1 e,(znI h (k:=3) (by decide)).2 ⟨e,hz,hkd,rfl⟩,?_⟩)
  show (zaS (zaT e.1.kind e.1.name) (zcF e)).1.1.cat=e.1.cat
  rw[za3 e hz.1]
 by_cases hk:y.1.kind<=2
 · have e:=(h.loc id y hy).1 hk;rw[zc5 D (h.name hy hk)] at e;split at e
   · rename_i q;have:=cat _ q;have e1:_=id:=congrArg Prod.fst e;exact e1 ▸ this
   · split at e
     · split at e
       · rename_i q;have:=cat _ q;have e1:_=id:=congrArg Prod.fst e;exact e1 ▸ this
       · split at e
         · exact one id (congrArg Prod.fst e).symm
         · rename_i q1 q2;exact absurd (congrArg Prod.snd e) q1
     · rename_i q1 q2;exact absurd (congrArg Prod.snd e) q1
 · exact one id ((h.loc id y hy).2 (by omega))
theorem Inv.mfind{D:List Rw}(h:Inv D){id:Int}{y:Fu}(hy:InD D id y)(hk:y.1.kind<=2):∃ z,InD D id z∧zcC D y.1.name=(z,id,0)∧(y.1.kind=2->zcC D y.1.target=(z,id,0))∧(y.1.kind≠2->z=y):=by
 have hw:=(h.loc id y hy).1 hk;have hf:=h.find hy hk;have z0:¬ (0:Int)≠0:=fun q=>q rfl
 by_cases k2:y.1.kind=2
 · obtain⟨z,hz,hzk,hzn,-⟩:=h.ali id y hy k2;have hwz:=(h.loc id z hz).1 (by omega);have hfz:=h.find hz (by omega);rw[hzn] at hwz hfz;have n2:¬ z.1.kind=2:=by omega
   refine⟨z,hz,?_,fun _=>?_,fun q=>absurd k2 q⟩
   · unfold zcC;rw[hw];dsimp only;rw[if_neg z0,hf];dsimp only;rw[if_neg z0,if_neg (fun q=>q k2),hfz];dsimp only;rw[if_neg z0,if_neg n2]
   · unfold zcC;rw[hwz];dsimp only;rw[if_neg z0,hfz];dsimp only;rw[if_neg z0,if_pos n2]
 · refine⟨y,hy,?_,fun q=>absurd q k2,fun _=>rfl⟩
   unfold zcC;rw[hw];dsimp only;rw[if_neg z0,hf];dsimp only;rw[if_neg z0,if_pos k2]
end Go.Proofs.YtefcmdmfgdcpmaaGreatDoor
