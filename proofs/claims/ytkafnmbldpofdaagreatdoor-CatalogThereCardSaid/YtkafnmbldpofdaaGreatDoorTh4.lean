/- Steps at entries, and Get and Find over a shelf that lies anywhere. -/
import Derived.Test.YtkafnmbldpofdaaGreatDoorRem
import Derived.Test.YtkafnmbldpofdaaGreatDoorMk
namespace Go.Proofs.YtkafnmbldpofdaaGreatDoor
set_option maxRecDepth 8000
set_option maxHeartbeats 16000000
section
def rowOf (id:Int) (x:Fu):Rw:=(id,keyZ x.1.kind x.1.name,recZ x)
structure CInv (id:Int) (R:List Rw):Prop where
 srt:SrtL R
 row:∀ r∈R,∃ y,okX y=true∧r=rowOf id y
 ali:∀ y,okX y=true->rowOf id y∈R->y.1.kind=2->∃ k,(k=0∨k=1∨k=2)∧∃ s,(id,keyZ k y.1.target,s)∈R
 gen:∀ y,okX y=true->rowOf id y∈R->y.1.kind=0->Ds.gen (Ds.bl y.1.name)=true->∃ s,(id,keyZ 1 (splZ y.1.name),s)∈R
theorem CInv.nil (id:Int):CInv id []:=⟨List.Pairwise.nil,(fun _ h=>by cases h),(fun _ _ h=>by cases h),(fun _ _ h=>by cases h)⟩
theorem CInv.id {id:Int} {R:List Rw} (h:CInv id R):∀ r∈R,r.1=id:=fun r hr=>by
 obtain⟨y,-,rfl⟩:=h.row r hr;rfl
theorem srt_inj {R:List Rw} (h:SrtL R) {a b:Rw} (ha:a∈R) (hb:b∈R) (e:kyR a=kyR b):a=b:=by
 induction R with
 | nil=>cases ha
 | cons z R ih =>
   unfold SrtL at h
   rw[List.pairwise_cons] at h
   rcases List.mem_cons.1 ha with e1 | h1
   · rcases List.mem_cons.1 hb with e2 | h2
     · exact e1.trans e2.symm
     · subst e1;have:=h.1 b h2;rw[e,ltB_irr] at this;cases this
   · rcases List.mem_cons.1 hb with e2 | h2
     · subst e2;have:=h.1 a h1;rw[e,ltB_irr] at this;cases this
     · exact ih h.2 h1 h2
theorem recA_mem {id:Int} {key s:ByteArray}:∀ {R:List Rw},recA id key R=some s->(id,key,s)∈R
 | [],h=>by cases h
 | x::R,h=>by
   rw[recA] at h
   split at h
   · rename_i hx
     cases h
     obtain⟨a,b,c⟩:=x
     simp only at hx
     obtain⟨rfl,rfl⟩:=hx
     exact List.mem_cons_self ..
   · exact List.mem_cons_of_mem _ (recA_mem h)
theorem recA_none {id:Int} {key:ByteArray}:∀ {R:List Rw},recA id key R=none->∀ s,(id,key,s) ∉ R
 | [],_,s=>by simp
 | x::R,h,s=>by
   rw[recA] at h
   split at h
   · cases h
   · rename_i hx
     intro hm
     rcases List.mem_cons.1 hm with e | e
     · exact hx (by rw[<-e];exact⟨rfl,rfl⟩)
     · exact recA_none h s e
theorem recA_some {id:Int} {key s:ByteArray} {R:List Rw} (h:SrtL R) (hm:(id,key,s)∈R):recA id key R=some s:=by
 cases hr:recA id key R with
 | none=>exact absurd hm (recA_none hr s)
 | some t=>have:=srt_inj h (recA_mem hr) hm rfl;cases this;rfl
theorem rec_read (x:Fu) (h:okX x=true):readF (keyZ x.1.kind x.1.name) (recZ x)=(x,0):=by
 have hd:decX (Ds.bl (recZ x))=some x:=by
  unfold recZ
  rw[if_pos h,Ds.bl_mk]
  exact decX_rec _ h (recX_len _ h)
 unfold readF
 rw[hd]
 exact if_pos (keyZ_bl _ _).symm
theorem key_ne (x:Fu) (h:okX x=true):¬ keyZ x.1.kind x.1.name=⟨#[]⟩:=by
 intro e
 have:=keyX_len x h
 unfold keyX at this
 rw[<-keyZ_bl,e] at this
 cases this
theorem get_row {id:Int} {R:List Rw} (hI:CInv id R) (x:Fu) (h:okX x=true) (hm:rowOf id x∈R):getR R id x.1.kind x.1.name=(x,0):=by
 rw[getR_yes (key_ne x h) (recA_some hI.srt hm)]
 exact rec_read x h
theorem key_row {id:Int} {R:List Rw} (hI:CInv id R) {key s:ByteArray} (hm:(id,key,s)∈R):∃ y,okX y=true∧key=keyZ y.1.kind y.1.name∧s=recZ y:=by
 obtain⟨y,h1,h2⟩:=hI.row _ hm
 cases h2
 exact⟨y,h1,rfl,rfl⟩
theorem get_six {id kind:Int} {name:ByteArray} {R:List Rw} (hI:CInv id R) (h:(getR R id kind name).2=6):recA id (keyZ kind name) R=none:=by
 cases hr:recA id (keyZ kind name) R with
 | none=>rfl
 | some s =>
   obtain⟨y,h1,h2,h3⟩:=key_row hI (recA_mem hr)
   have hk:¬ keyZ kind name=⟨#[]⟩:=by rw[h2];exact key_ne y h1
   rw[getR_yes hk hr,h2,h3,rec_read y h1] at h
   cases h
theorem get_zero {id kind:Int} {name:ByteArray} {R:List Rw} (h:(getR R id kind name).2=0):∃ s,(id,keyZ kind name,s)∈R:=by
 unfold getR getF at h
 split at h
 · cases h
 rw[if_neg (by decide)] at h
 cases hr:recA id (keyZ kind name) R with
 | none=>rw[hr] at h;cases h
 | some s=>exact⟨s,recA_mem hr⟩
theorem find_six {id:Int} {name:ByteArray} {R:List Rw} (h:(findR R id name).2=6):Ds.name (Ds.bl name)=true∧(getR R id 0 name).2=6∧(getR R id 1 name).2=6∧(getR R id 2 name).2=6:=by
 unfold findR at h
 split at h
 · cases h
 rename_i hn
 have q:∀ (k:Int) (ks:List Int),(findRL R id name (k::ks)).2=6->(getR R id k name).2=6∧(findRL R id name ks).2=6:=fun k ks h=>by
  rw[findRL] at h
  split at h
  · rename_i h1;exact⟨h1,h⟩
  · rename_i h1;exact absurd h h1
 obtain⟨q0,r0⟩:=q _ _ h
 obtain⟨q1,r1⟩:=q _ _ r0
 obtain⟨q2,-⟩:=q _ _ r1
 exact⟨by cases hb:Ds.name (Ds.bl name) <;> simp_all,q0,q1,q2⟩
theorem find_zero {id:Int} {name:ByteArray} {R:List Rw} (h:(findR R id name).2=0):∃ k,(k=0∨k=1∨k=2)∧∃ s,(id,keyZ k name,s)∈R:=by
 unfold findR at h
 split at h
 · cases h
 rw[findRL] at h
 split at h
 · rw[findRL] at h
   split at h
   · rw[findRL] at h
     split at h
     · cases h
     · exact⟨2,.inr (.inr rfl),get_zero h⟩
   · exact⟨1,.inr (.inl rfl),get_zero h⟩
 · exact⟨0,.inl rfl,get_zero h⟩
theorem add_zero {id:Int} {R:List Rw} {x:Fu} (h:(addR R id x).2=0) :
  okX x=true∧(addR R id x).1=[putCh id x]∧(addC R id x)=6∧(Ds.gen (Ds.bl x.1.name)=true->x.1.kind=0->(getR R id 1 (splZ x.1.name)).2=0)∧leadsR R id x=0:=by
 unfold addR at h ⊢
 by_cases hok:okX x=true
 rotate_left
 · rw[if_neg hok] at h;cases h
 rw[if_pos hok] at h ⊢
 by_cases h1:absC (addC R id x)≠0
 · rw[if_pos h1] at h;exact absurd h h1
 rw[if_neg h1] at h ⊢
 by_cases h2:(Ds.gen (Ds.bl x.1.name)=true∧x.1.kind=0)∧(getR R id 1 (splZ x.1.name)).2≠0
 · rw[if_pos h2] at h;exact absurd h h2.2
 rw[if_neg h2] at h ⊢
 by_cases h3:leadsR R id x≠0
 · rw[if_pos h3] at h;exact absurd h h3
 rw[if_neg h3] at h ⊢
 refine⟨hok,rfl,?_,fun a b=>Decidable.byContradiction fun k=>h2 ⟨⟨a,b⟩,k⟩,Decidable.byContradiction h3⟩
 have h1':absC (addC R id x)=0:=Decidable.byContradiction h1
 unfold absC at h1'
 split at h1'
 · cases h1'
 split at h1'
 · assumption
 · rename_i a b;exact absurd h1' a
theorem insA_insR {id:Int} {x:Rw} (hx:x.1=id):∀ (R:List Rw),(∀ r∈R,r.1=id)->insA x R=insR x R:=by
 intro R h
 have hp:∀ r∈R,insQ x r=insP x r:=fun r hr=>by
  unfold insQ insP
  rw[h r hr,hx,decide_eq_false (by omega),decide_eq_true rfl,Bool.false_or,Bool.true_and]
 have e:∀ (R:List Rw),(∀ r∈R,insQ x r=insP x r)->R.takeWhile (insQ x)=R.takeWhile (insP x)∧R.dropWhile (insQ x)=R.dropWhile (insP x):=by
  intro R
  induction R with
  | nil=>intro _;exact⟨rfl,rfl⟩
  | cons r R ih =>
    intro h
    have h0:=h r (List.mem_cons_self ..)
    obtain⟨i1,i2⟩:=ih (fun r hr=>h r (List.mem_cons_of_mem _ hr))
    rw[List.takeWhile_cons,List.takeWhile_cons,List.dropWhile_cons,List.dropWhile_cons,h0,i1,i2]
    exact⟨rfl,rfl⟩
 unfold insA insR
 rw[(e R hp).1,(e R hp).2]
theorem addAll_srt {id:Int}:∀ (n:Nat) (R:List Rw),R.length=n->SrtL R->(∀ r∈R,r.1=id)->addAll R=R
 | 0,R,hn,_,_=>by rw[List.eq_nil_of_length_eq_zero hn];rfl
 | n+1,R,hn,hs,hi=>by
   have hne:R≠[]:=by intro e;rw[e] at hn;cases hn
   have e:=List.dropLast_concat_getLast hne
   generalize R.getLast hne=x at e
   generalize R.dropLast=T at e
   subst e
   unfold SrtL at hs
   rw[List.pairwise_append] at hs
   have hT:addAll T=T:=addAll_srt n T (by simpa using hn) hs.1 (fun r hr=>hi r (List.mem_append.2 (.inl hr)))
   rw[addAll_snoc,hT]
   have hx:=hi x (List.mem_append.2 (.inr (List.mem_singleton.2 rfl)))
   have hall:∀ r∈T,insQ x r=true:=fun r hr=>by
    unfold insQ
    rw[hi r (List.mem_append.2 (.inl hr)),hx,decide_eq_true rfl,hs.2.2 r hr x (List.mem_singleton.2 rfl)];simp
   unfold insA
   have t1:T.takeWhile (insQ x)=T:=by
    clear hs hT hi hne hn
    induction T with
    | nil=>rfl
    | cons r T ih =>
      rw[List.takeWhile_cons,hall r (List.mem_cons_self ..),if_pos rfl,ih (fun r hr=>hall r (List.mem_cons_of_mem _ hr))]
   have t2:T.dropWhile (insQ x)=[]:=by
    clear hs hT hi hne hn t1
    induction T with
    | nil=>rfl
    | cons r T ih =>
      rw[List.dropWhile_cons,hall r (List.mem_cons_self ..),if_pos rfl,ih (fun r hr=>hall r (List.mem_cons_of_mem _ hr))]
   rw[t1,t2]
theorem filter_all {p:Rw->Bool} {R:List Rw} (h:∀ r∈R,p r=true):R.filter p=R:=List.filter_eq_self.2 h
theorem apl_put {id:Int} {R:List Rw} (hI:CInv id R) (x:Fu) (h0:∀ s,(id,keyZ x.1.kind x.1.name,s) ∉ R):apl R [putCh id x]=insR (rowOf id x) R:=by
 unfold apl
 rw[addAll_srt _ R rfl hI.srt hI.id,List.foldl_cons,List.foldl_nil]
 unfold apS
 rw[if_pos (show (putCh id x).1=0 from rfl)]
 have h1:apRest (putCh id x) R=R:=by
  unfold apRest
  refine filter_all fun r hr=>?_
  unfold inCh
  have h2:¬ r.2.1=keyZ x.1.kind x.1.name:=fun e=>h0 r.2.2 (by
   have h3:=hI.id r hr
   obtain⟨a,b,c⟩:=r
   simp only at e h3
   subst e h3
   exact hr)
  show (!(decide (r.1=id)&&decide (r.2.1=keyZ x.1.kind x.1.name)))=true
  rw[decide_eq_false h2,Bool.and_false];rfl
 rw[h1]
 exact insA_insR rfl R hI.id
theorem kyR_ne {id:Int} {R:List Rw} (hI:CInv id R) (x:Fu) (h0:∀ s,(id,keyZ x.1.kind x.1.name,s) ∉ R):∀ r∈R,kyR r≠kyR (rowOf id x):=fun r hr e=>h0 r.2.2 (by
 have h3:=hI.id r hr
 have h4:r.2.1=keyZ x.1.kind x.1.name:=Ds.bl_inj e
 obtain⟨a,b,c⟩:=r
 simp only at h4 h3
 subst h4 h3
 exact hr)
theorem row_inj {id:Int} {x y:Fu} (hx:okX x=true) (hy:okX y=true) (e:rowOf id x=rowOf id y):x=y:=by
 have h1:recZ x=recZ y:=congrArg (fun r:Rw=>r.2.2) e
 have h2:=congrArg Ds.bl h1
 unfold recZ at h2
 rw[if_pos hx,if_pos hy,Ds.bl_mk,Ds.bl_mk] at h2
 have h3:=decX_rec _ hx (recX_len _ hx)
 rw[h2,decX_rec _ hy (recX_len _ hy)] at h3
 exact (Option.some.inj h3).symm
theorem add_inv {id:Int} {R:List Rw} (hI:CInv id R) {x:Fu} (h:(addR R id x).2=0) :
  (∀ s,(id,keyZ x.1.kind x.1.name,s) ∉ R)∧apl R (addR R id x).1=insR (rowOf id x) R∧CInv id (insR (rowOf id x) R):=by
 obtain⟨hok,h1,h6,hg,hl⟩:=add_zero h
 have h0:∀ s,(id,keyZ x.1.kind x.1.name,s) ∉ R:=by
  refine recA_none ?_
  unfold addC at h6
  split at h6
  · exact get_six hI h6
  · have hk:=okX_kind x hok
    obtain⟨-,q0,q1,q2⟩:=find_six h6
    rcases (by omega:x.1.kind=0∨x.1.kind=1∨x.1.kind=2) with e | e | e
    · rw[e];exact get_six hI q0
    · rw[e];exact get_six hI q1
    · rw[e];exact get_six hI q2
 refine⟨h0,by rw[h1];exact apl_put hI x h0,?_⟩
 have mono:∀ {k s},(id,k,s)∈R->(id,k,s)∈insR (rowOf id x) R:=fun hm=>(insR_mem _ _ _).2 (.inr hm)
 refine⟨insR_srt _ R hI.srt (kyR_ne hI x h0),fun r hr=>?_,fun y hy hm hk=>?_,fun y hy hm hk hgn=>?_⟩
 · rcases (insR_mem _ _ _).1 hr with e | e
   · exact⟨x,hok,e⟩
   · exact hI.row r e
 · rcases (insR_mem _ _ _).1 hm with e | e
   · obtain rfl:=row_inj hy hok e
     unfold leadsR at hl
     rw[if_neg (fun k=>k hk)] at hl
     have hz:(findR R id y.1.target).2=0:=by
      generalize findR R id y.1.target=g at hl
      obtain⟨t,c⟩:=g
      dsimp only at hl ⊢
      by_cases hc:c≠0
      · rw[if_pos hc] at hl;exact absurd hl hc
      · exact Decidable.byContradiction hc
     obtain⟨k,k1,s,k2⟩:=find_zero hz
     exact⟨k,k1,s,mono k2⟩
   · obtain⟨k,k1,s,k2⟩:=hI.ali y hy e hk
     exact⟨k,k1,s,mono k2⟩
 · rcases (insR_mem _ _ _).1 hm with e | e
   · obtain rfl:=row_inj hy hok e
     obtain⟨s,hs⟩:=get_zero (hg hgn hk)
     exact⟨s,mono hs⟩
   · obtain⟨s,hs⟩:=hI.gen y hy e hk hgn
     exact⟨s,mono hs⟩
end
section
theorem insR_erase {x:Rw} {p:Rw->Bool} (hx:p x=false):∀ (R:List Rw),(∀ r∈R,p r=true)->(insR x R).filter p=R:=by
 intro R h
 have e:R.takeWhile (insP x)++R.dropWhile (insP x)=R:=List.takeWhile_append_dropWhile
 unfold insR
 rw[List.filter_append,List.filter_cons_of_neg (by rw[hx];simp),<-List.filter_append,e]
 exact filter_all h
theorem apl_era {id:Int} {R:List Rw} (hI:CInv id R) {x:Fu} (h0:∀ s,(id,keyZ x.1.kind x.1.name,s) ∉ R) (hI2:CInv id (insR (rowOf id x) R)):apl (insR (rowOf id x) R) [eraCh id x]=R:=by
 unfold apl
 rw[addAll_srt _ _ rfl hI2.srt hI2.id,List.foldl_cons,List.foldl_nil]
 unfold apS
 rw[if_neg (show ¬ (eraCh id x).1=0 by show ¬ (1:Int)=0;decide)]
 unfold apRest
 refine insR_erase ?_ R (fun r hr=>?_)
 · show (!(decide (id=id)&&decide (keyZ x.1.kind x.1.name=keyZ x.1.kind x.1.name)))=false
   rw[decide_eq_true rfl,decide_eq_true rfl];rfl
 · have h2:¬ r.2.1=keyZ x.1.kind x.1.name:=fun e=>kyR_ne hI x h0 r hr (congrArg Ds.bl e)
   show (!(decide (r.1=id)&&decide (r.2.1=keyZ x.1.kind x.1.name)))=true
   rw[decide_eq_false h2,Bool.and_false];rfl
theorem recS_same {σ ρ:Type} {step:σ->ByteArray->ByteArray->Except ρ σ} {l:List Rw} {id fl cd:Int} {L:UInt8} (s:σ) (hf:fl<=0) (h:∀ r∈l,r.1=id->(Ds.bl r.2.1).headD 0=L->step s r.2.1 r.2.2=.ok s) :
  ∀ (f:Nat) (c:Int) (k:List UInt8),0<=c->(recS l id fl cd L step f c k s).1=.ok (s,0)
 | 0,c,k,_=>by rw[recS]
 | f+1,c,k,hc=>by
   rw[recS,if_neg (by omega)]
   cases hx:nx id k l with
   | none=>rfl
   | some r =>
     obtain⟨h1,h2,-⟩:=nx_some hx
     dsimp only
     split
     · rfl
     rename_i h3
     split
     · exact recS_same s hf h f _ _ (by omega)
     rename_i h4
     have hL:(Ds.bl r.2.1).headD 0=L:=by
      refine UInt8.toNat_inj.1 ?_
      have q1:¬ L.toNat<((Ds.bl r.2.1).headD 0).toNat:=fun h=>h3 (UInt8.lt_iff_toNat_lt.2 h)
      have q2:¬ ((Ds.bl r.2.1).headD 0).toNat<L.toNat:=fun h=>h4 (UInt8.lt_iff_toNat_lt.2 h)
      omega
     rw[h r h1 h2 hL]
     exact recS_same s hf h f _ _ (by omega)
theorem head_kind {y:Fu} (h:okX y=true):(Ds.bl (keyZ y.1.kind y.1.name)).headD 0=Ek.letter y.1.kind∧nameZ (keyZ y.1.kind y.1.name)=y.1.name:=by
 have hn:=okX_name y h
 rw[keyZ_bl,Ek.key_yes _ _ (okX_kind y h) hn.1]
 refine⟨rfl,?_⟩
 refine Ds.bl_inj ?_
 unfold nameZ
 rw[Ds.bl_mk,keyZ_bl,Ek.key_yes _ _ (okX_kind y h) hn.1]
 exact Ek.trim_pad _ hn.2
theorem kind_of {y:Fu} (h:okX y=true) {k:Int} (hk:k=0∨k=2) (e:Ek.letter y.1.kind=Ek.letter k):y.1.kind=k:=by
 have:=okX_kind y h
 rcases (by omega:y.1.kind=0∨y.1.kind=1∨y.1.kind=2∨y.1.kind=3∨y.1.kind=4) with q | q | q | q | q <;> rcases hk with rfl | rfl <;> rw[q] at e ⊢ <;> first | rfl | exact absurd e (by decide)
theorem gen_none {id:Int} {R:List Rw} (hI:CInv id R) {x:Fu} (hok:okX x=true) (hk:x.1.kind=1) (h0:∀ s,(id,keyZ x.1.kind x.1.name,s) ∉ R) (c:Int) (hc:0<=c):(genF (insR (rowOf id x) R) 0 0 c id x.1.name).1=([],0):=by
 have hs:∀ r∈insR (rowOf id x) R,r.1=id->(Ds.bl r.2.1).headD 0=68->genS x.1.name [] r.2.1 r.2.2=.ok []:=by
  intro r hr _ hh
  unfold genS
  refine if_neg ?_
  rintro ⟨⟨g1,g2⟩,-⟩
  rcases (insR_mem _ _ _).1 hr with e | e
  · subst e
    have:=(head_kind hok).1
    rw[show (Ds.bl (rowOf id x).2.1).headD 0=Ek.letter x.1.kind from this,hk] at hh
    cases hh
  · obtain⟨y,hy,rfl⟩:=hI.row r e
    obtain⟨k1,k2⟩:=head_kind hy
    rw[show (Ds.bl (rowOf id y).2.1).headD 0=Ek.letter y.1.kind from k1] at hh
    have hk0:y.1.kind=0:=kind_of hy (.inl rfl) hh
    rw[show nameZ (rowOf id y).2.1=y.1.name from k2] at g1 g2
    obtain⟨s,hs⟩:=hI.gen y hy e hk0 g1
    rw[g2] at hs
    exact h0 s (by rw[hk];exact hs)
 have h:=recS_same (step:=genS x.1.name) (l:=insR (rowOf id x) R) (id:=id) (fl:=0) (cd:=0) (L:=68) [] (Int.le_refl _) hs ((insR (rowOf id x) R).length+1) c [(68:UInt8) - 1,255] hc
 unfold genF
 generalize recS (insR (rowOf id x) R) id 0 0 68 (genS x.1.name) ((insR (rowOf id x) R).length+1) c [(68:UInt8) - 1,255] []=g at h
 obtain⟨g1,g2⟩:=g
 dsimp only at h
 subst h
 rfl
theorem ali_none {id:Int} {R:List Rw} (hI:CInv id R) {x:Fu} (hok:okX x=true) (hk:x.1.kind=0∨x.1.kind=1) (h6:∀ k,(k=0∨k=1∨k=2)->∀ s,(id,keyZ k x.1.name,s) ∉ R) (c:Int) (hc:0<=c):(aliF (insR (rowOf id x) R) 0 0 c id x.1.name).1=([],0):=by
 have hs:∀ r∈insR (rowOf id x) R,r.1=id->(Ds.bl r.2.1).headD 0=65->aliS x.1.name [] r.2.1 r.2.2=.ok []:=by
  intro r hr _ hh
  rcases (insR_mem _ _ _).1 hr with e | e
  · subst e
    have:=(head_kind hok).1
    rw[show (Ds.bl (rowOf id x).2.1).headD 0=Ek.letter x.1.kind from this] at hh
    have:=kind_of hok (.inr rfl) hh
    omega
  · obtain⟨y,hy,rfl⟩:=hI.row r e
    obtain⟨k1,k2⟩:=head_kind hy
    rw[show (Ds.bl (rowOf id y).2.1).headD 0=Ek.letter y.1.kind from k1] at hh
    have hk2:y.1.kind=2:=kind_of hy (.inr rfl) hh
    unfold aliS
    rw[show readF (rowOf id y).2.1 (rowOf id y).2.2=(y,0) from rec_read y hy,if_neg (fun h=>h rfl)]
    refine if_neg ?_
    intro ht
    obtain⟨k,k3,s,k4⟩:=hI.ali y hy e hk2
    rw[ht] at k4
    exact h6 k k3 s k4
 have h:=recS_same (step:=aliS x.1.name) (l:=insR (rowOf id x) R) (id:=id) (fl:=0) (cd:=0) (L:=65) [] (Int.le_refl _) hs ((insR (rowOf id x) R).length+1) c [(65:UInt8) - 1,255] hc
 unfold aliF
 generalize recS (insR (rowOf id x) R) id 0 0 65 (aliS x.1.name) ((insR (rowOf id x) R).length+1) c [(65:UInt8) - 1,255] []=g at h
 obtain⟨g1,g2⟩:=g
 dsimp only at h
 subst h
 rfl
theorem add_six {id:Int} {R:List Rw} (hI:CInv id R) {x:Fu} (h:(addR R id x).2=0) (hk:x.1.kind<=2):∀ k,(k=0∨k=1∨k=2)->∀ s,(id,keyZ k x.1.name,s) ∉ R:=by
 obtain⟨hok,-,h6,-,-⟩:=add_zero h
 unfold addC at h6
 rw[if_neg (by omega)] at h6
 obtain⟨-,q0,q1,q2⟩:=find_six h6
 rintro k (rfl | rfl | rfl)
 · exact recA_none (get_six hI q0)
 · exact recA_none (get_six hI q1)
 · exact recA_none (get_six hI q2)
theorem rem_back {id:Int} {R:List Rw} (hI:CInv id R) {x:Fu} (h:(addR R id x).2=0):(remF (insR (rowOf id x) R) 0 0 0 id x.1.kind x.1.name).1=([eraCh id x],0):=by
 obtain⟨h0,-,hI2⟩:=add_inv hI h
 have hok:=(add_zero h).1
 have hm:rowOf id x∈insR (rowOf id x) R:=(insR_mem _ _ _).2 (.inl rfl)
 have hg:=getF_no (insR (rowOf id x) R) 0 0 0 id x.1.kind x.1.name (Int.le_refl _) (Int.le_refl _)
 have hc:=getF_ca (insR (rowOf id x) R) 0 0 0 id x.1.kind x.1.name
 rw[get_row hI2 x hok hm] at hg
 unfold remF
 generalize getF (insR (rowOf id x) R) 0 0 0 id x.1.kind x.1.name=g at hg hc
 obtain⟨g1,c⟩:=g
 dsimp only at hg hc ⊢
 subst hg
 rw[if_neg (fun h=>h rfl)]
 have tail:∀ c,0<=c->(remT (insR (rowOf id x) R) 0 0 id x.1.kind x.1.name x c).1=([eraCh id x],0):=by
  intro c hc
  unfold remT
  by_cases hk:x.1.kind=0∨x.1.kind=1
  · rw[if_pos hk]
    have ha:=ali_none hI hok hk (add_six hI h (by omega)) c hc
    generalize aliF (insR (rowOf id x) R) 0 0 c id x.1.name=a at ha
    obtain⟨a1,a2⟩:=a
    dsimp only at ha ⊢
    subst ha
    rw[if_neg (fun h=>h rfl)]
    rfl
  · rw[if_neg hk]
 by_cases hk:x.1.kind=1
 · rw[if_pos hk]
   have hn:=gen_none hI hok hk h0 c hc.1
   have hn2:=(genF_ca (insR (rowOf id x) R) 0 0 c id x.1.name).1
   generalize genF (insR (rowOf id x) R) 0 0 c id x.1.name=a at hn hn2
   obtain⟨a1,a2⟩:=a
   dsimp only at hn hn2 ⊢
   subst hn
   rw[if_neg (fun h=>h rfl),if_neg (fun h=>h rfl)]
   exact tail a2 (by omega)
 · rw[if_neg hk]
   exact tail c hc.1
theorem find_back {id:Int} {R:List Rw} (hI:CInv id R) {x:Fu} (h:(addR R id x).2=0) (hk:x.1.kind<=2):findR (insR (rowOf id x) R) id x.1.name=(x,0):=by
 obtain⟨h0,-,hI2⟩:=add_inv hI h
 obtain⟨hok,-,h6,-,-⟩:=add_zero h
 have hs:=add_six hI h hk
 have hm:rowOf id x∈insR (rowOf id x) R:=(insR_mem _ _ _).2 (.inl rfl)
 have hx:=get_row hI2 x hok hm
 unfold addC at h6
 rw[if_neg (by omega)] at h6
 have hv:=(find_six h6).1
 have hkk:=okX_kind x hok
 have other:∀ k,(k=0∨k=1∨k=2)->k≠x.1.kind->getR (insR (rowOf id x) R) id k x.1.name=(zF0,6):=by
  intro k hk3 hne
  have hl:=(okX_name x hok).1
  have hkey:∀ j:Int,0<=j->j<=4->Ds.bl (keyZ j x.1.name)=Ek.letter j::Ek.pad (Ds.bl x.1.name):=fun j a b=>by rw[keyZ_bl];exact Ek.key_yes _ _ ⟨a,b⟩ hl
  refine getR_no ?_ ?_
  · intro e
    have:=hkey k (by omega) (by omega)
    rw[e] at this
    cases this
  · cases hr:recA id (keyZ k x.1.name) (insR (rowOf id x) R) with
    | none=>rfl
    | some s =>
      have hmem:=recA_mem hr
      rcases (insR_mem _ _ _).1 hmem with e | e
      · have e2:keyZ k x.1.name=keyZ x.1.kind x.1.name:=congrArg (fun r:Rw=>r.2.1) e
        have e3:=congrArg Ds.bl e2
        rw[hkey k (by omega) (by omega),hkey x.1.kind (by omega) (by omega)] at e3
        have e4:=List.head_eq_of_cons_eq e3
        exfalso
        rcases (by omega:x.1.kind=0∨x.1.kind=1∨x.1.kind=2) with q | q | q <;> rcases hk3 with rfl | rfl | rfl <;> rw[q] at e4 hne <;> first | exact hne rfl | exact absurd e4 (by decide)
      · exact absurd e (hs k hk3 s)
 unfold findR
 rw[if_neg (by rw[hv];simp)]
 rcases (by omega:x.1.kind=0∨x.1.kind=1∨x.1.kind=2) with q | q | q
 · rw[q] at hx
   rw[findRL,hx,if_neg (show ¬ (0:Int)=6 by decide)]
 · rw[q] at hx
   rw[findRL,other 0 (.inl rfl) (by omega),if_pos rfl,findRL,hx,if_neg (show ¬ (0:Int)=6 by decide)]
 · rw[q] at hx
   rw[findRL,other 0 (.inl rfl) (by omega),if_pos rfl,findRL,other 1 (.inr (.inl rfl)) (by omega),if_pos rfl,findRL,hx,if_neg (show ¬ (0:Int)=6 by decide)]
end
section
def rowsL (id:Int) (Y:Nat->Fu) (M:List Rw) (L:List Nat):List Rw:=L.foldl (fun R j=>insR (rowOf id (Y j)) R) M
theorem rowsL_snoc (id:Int) (Y:Nat->Fu) (M:List Rw) (L:List Nat) (j:Nat):rowsL id Y M (L++[j])=insR (rowOf id (Y j)) (rowsL id Y M L):=by
 unfold rowsL;rw[List.foldl_append];rfl
def GoodL (id:Int) (Y:Nat->Fu) (M:List Rw) (L:List Nat):Prop:=∀ i (h:i<L.length),(addR (rowsL id Y M (L.take i)) id (Y L[i])).2=0
theorem GoodL.inv {id:Int} {Y:Nat->Fu} {M:List Rw} {L:List Nat} (h:GoodL id Y M L) (hM:CInv id M):∀ i,i<=L.length->CInv id (rowsL id Y M (L.take i))
 | 0,_=>hM
 | i+1,hi=>by
   have h1:=h.inv hM i (by omega)
   rw[List.take_succ_eq_append_getElem (show i<L.length by omega),rowsL_snoc]
   exact (add_inv h1 (h i (by omega))).2.2
theorem GoodL.snoc {id:Int} {Y:Nat->Fu} {M:List Rw} {L:List Nat} {j:Nat} (h:GoodL id Y M L) (hj:(addR (rowsL id Y M L) id (Y j)).2=0):GoodL id Y M (L++[j]):=by
 intro i hi
 rw[List.length_append,List.length_singleton] at hi
 by_cases hl:i<L.length
 · have e1:(L++[j]).take i=L.take i:=List.take_append_of_le_length (by omega)
   have e2:(L++[j])[i]=L[i]:=List.getElem_append_left hl
   rw[e1,e2];exact h i hl
 · obtain rfl:i=L.length:=by omega
   have e1:(L++[j]).take L.length=L:=List.take_left
   have e2:(L++[j])[L.length]'(by simp)=j:=List.getElem_concat_length rfl _
   rw[e1,e2];exact hj
theorem rowsL_len (id:Int) (Y:Nat->Fu) (M:List Rw):∀ (n:Nat) (L:List Nat),L.length=n->(rowsL id Y M L).length=M.length+n
 | 0,L,h=>by rw[List.eq_nil_of_length_eq_zero h];rfl
 | n+1,L,h=>by
   have hne:L≠[]:=by intro e;rw[e] at h;cases h
   have e:=List.dropLast_concat_getLast hne
   rw[<-e,rowsL_snoc,insR_len,rowsL_len id Y M n L.dropLast (by rw[List.length_dropLast];omega)]
   omega
theorem makN_inv (id:Int) (X:Nat->Fu):∀ n,CInv id (makN id X n)
 | 0=>CInv.nil id
 | k+1=>by
   have h:=makN_inv id X k
   rw[makN]
   unfold makS
   split
   · rename_i h0
     obtain⟨-,h1,h2⟩:=add_inv h h0
     rw[h1];exact h2
   · exact h
theorem there_add {id:Int} {Y:Nat->Fu} {M:List Rw} {L:List Nat} {j:Nat} (hG:GoodL id Y M L) (hM:CInv id M) (hj:(addR (rowsL id Y M L) id (Y j)).2=0):apl (rowsL id Y M L) (addR (rowsL id Y M L) id (Y j)).1=rowsL id Y M (L++[j])∧GoodL id Y M (L++[j]):=by
 have hI:=hG.inv hM L.length (Nat.le_refl _)
 rw[List.take_of_length_le (Nat.le_refl _)] at hI
 exact⟨by rw[rowsL_snoc];exact (add_inv hI hj).2.1,hG.snoc hj⟩
theorem there_back {id:Int} {Y:Nat->Fu} {M:List Rw} {L:List Nat} (hG:GoodL id Y M L) (hM:CInv id M) (i:Nat) (hi:i<L.length) :
  okX (Y L[i])=true∧getR (rowsL id Y M (L.take (i+1))) id (Y L[i]).1.kind (Y L[i]).1.name=(Y L[i],0) ∧
  ((Y L[i]).1.kind<=2->findR (rowsL id Y M (L.take (i+1))) id (Y L[i]).1.name=(Y L[i],0)) ∧
  (remF (rowsL id Y M (L.take (i+1))) 0 0 0 id (Y L[i]).1.kind (Y L[i]).1.name).1=([eraCh id (Y L[i])],0) ∧
  apl (rowsL id Y M (L.take (i+1))) [eraCh id (Y L[i])]=rowsL id Y M (L.take i):=by
 have h1:=hG i hi
 have hI:=hG.inv hM i (by omega)
 rw[List.take_succ_eq_append_getElem hi,rowsL_snoc]
 obtain⟨a1,a2,a3⟩:=add_inv hI h1
 have hok:=(add_zero h1).1
 exact⟨hok,get_row a3 _ hok ((insR_mem _ _ _).2 (.inl rfl)),find_back hI h1,rem_back hI h1,apl_era hI a1 a3⟩
theorem inv_keys {id:Int} {R:List Rw} (h:CInv id R):∀ x∈R,x.2.1.size<=1000:=fun r hr=>by
 obtain⟨y,hy,rfl⟩:=h.row r hr
 have:=keyX_len y hy
 unfold keyX at this
 rw[<-keyZ_bl,Ds.bl_length] at this
 show (keyZ y.1.kind y.1.name).size<=1000
 omega
end
section
open Go.RowKit
theorem th_rem (sv:Value) (R:List Rw) (id kind:Int) (name:ByteArray) (cs:List Ch) (w:World) (hm:MaxL w) (hT:Tab w) (hr:RwS w sv R) (ho:∀ b,sv.ownBlock=some b->b<w.heap.size) (hl:R.length<=1000) (hk:∀ x∈R,x.2.1.size<=1000) (hg:(remF R 0 0 0 id kind name).1=(cs,0)) :
  Calls Tryz.prog 17 #[.iface 37 (.pointer (some ⟨w.heap.size,0,none⟩)),.int .i64 id,.int .i64 kind,.string name] (w.alloc (.cells #[sv,.int .i64 0,.int .i64 0,.int .i64 0] 69)) fun r w'=>∃ ov,r=.returned (.tuple #[ov,.int .i64 0])∧ChS w' ov cs∧RwS w' sv R∧Below w.heap.size w w':=by
 refine (ca_remove w.heap.size sv R 0 0 0 id kind name w _ hm hT (shelf_newC sv R w hr ho) (fun b hb=>by have:=ho b hb;simp;omega) hl hk (Int.le_refl _) (by decide) (.inr (Int.le_refl _))).mono ?_
 rintro _ w' ⟨ov,rfl,hc,hs,-⟩
 rw[hg] at hc ⊢
 exact⟨ov,rfl,hc,hs.r,hs.b⟩
theorem th_same (x:Fu) (al gr al' gr':Value) (w:World) (h1:IS w al x.2.1) (h2:GS w gr x.2.2) (h3:IS w al' x.2.1) (h4:GS w gr' x.2.2) :
  Calls Tryz.prog 15 #[.agg (x.1.vals al gr),.agg (x.1.vals al' gr')] w fun r w'=>r=.returned (.bool true)∧Below w.heap.size w w':=by
 have:=en_same x.1 x.1 al gr al' gr' x.2.1 x.2.1 x.2.2 x.2.2 w h1 h3 h2 h4
 rw[(sameE_eq x.1 x.1 x.2.1 x.2.1 x.2.2 x.2.2).2 ⟨rfl,rfl,rfl⟩] at this
 exact this
theorem rws_app {w w':World} {v:Value} {l:List Rw} {q:Option Nat} (h:RwS w v l) (hg:w.grownBy w' q) (hne:∀ b,v.ownBlock=some b->some b≠q):RwS w' v l :=
 h.keep hg.size (fun b hb hl=>hg.block b hl (hne b hb))
def FVs (w:World) (a:Option Addr) (n:Nat) (Y:Nat->Fu) (AL GR:Nat->Value):Prop:=∀ k,k<n->∃ b o,a=some ⟨b,o,none⟩∧b<w.heap.size∧mid w b (o+k*33)=(Y k).1.vals (AL k) (GR k)∧IS w (AL k) (Y k).2.1∧GS w (GR k) (Y k).2.2∧(Y k).1.name.size<=60
theorem FVs.below {w w':World} {a:Option Addr} {n:Nat} {Y:Nat->Fu} {AL GR:Nat->Value} (h:FVs w a n Y AL GR) (hb:Below w.heap.size w w'):FVs w' a n Y AL GR:=fun k hk=>by
 obtain⟨b,o,h1,h2,h3,h4,h5,h6⟩:=h k hk
 exact⟨b,o,h1,Nat.lt_of_lt_of_le h2 hb.size,mid_below hb h3 (by rw[vals_size];decide),h4.below hb,h5.below hb,h6⟩
end
section
open Go.RowKit
set_option linter.unusedSimpArgs false
theorem step_bldE {ops:Array Oper} {o:Oper} {a:Act} {K:Act->World->Prop} {Q:Exit->Act->World->Prop} {E:Prop} (w:World) {x:Operand} {cs:Array Value} (hgd:o.guard=none) (ho:o.op=.buildSlice 22 1 #[(0,x)])
  (hx:a.eval x=.agg cs) (hz:cs.size=33) (h:K (a.put o.dst (.slice (some ⟨w.heap.size,0,none⟩) 1 1)) (w.alloc (.cells cs 32))):if Region.wanted o (yielded ops a.tmps)=true then Oper.wp Tryz.prog o a w K Q else E:=by
 obtain⟨dst,op,ty,pos,af,gd⟩:=o
 simp only at ho hgd
 subst ho hgd
 rw[if_pos (by simp [Region.wanted])]
 have hr:=bldEnt a.eval w dst x ty pos af none (by rw[hx];rfl) (by rw[hx];exact hz)
 rw[hx,cellsOfV_mk] at hr
 unfold Oper.wp
 rw[hr]
 exact h
theorem row_gr {w w':World} {p:Option Nat} {b:Nat} {cs:Array Value} (h:row w b=cs) (h0:0<cs.size) (hg:w.grownBy w' p) (hne:some b≠p):row w' b=cs:=by
 have hb:b<w.heap.size:=by
  rcases Nat.lt_or_ge b w.heap.size with h1 | h1
  · exact h1
  · exfalso
    have:w.heap[b]?=none:=by simp;omega
    unfold row at h
    rw[this] at h
    subst h
    simp at h0
 unfold row at *
 rw[hg.block b hb hne];exact h
theorem step_stE {ops:Array Oper} {o:Oper} {a:Act} {K:Act->World->Prop} {Q:Exit->Act->World->Prop} {E:Prop} (w:World) {x y:Operand} {q:Nat} {cs:Array Value} (hgd:o.guard=none) (hd:o.dst=none) (ho:o.op=.store 32 x y)
  (hx:a.eval x=.pointer (some ⟨q,0,none⟩)) (hy:a.eval y=.agg cs) (hH:Held w q 33) (hz:cs.size=33) (h1:allOne cs.toList=true) (h:K a (w.setRow q cs)):if Region.wanted o (yielded ops a.tmps)=true then Oper.wp Tryz.prog o a w K Q else E:=by
 obtain⟨dst,op,ty,pos,af,gd⟩:=o
 simp only at ho hgd hd
 subst ho hgd hd
 rw[if_pos (by simp [Region.wanted])]
 have hr:=stEntRow a.eval w none x y ty pos af none (by rw[hx];rfl) (by rw[hx];exact hH) (by rw[hy];rfl) (by rw[hy];exact hz) (by rw[hy];exact h1)
 rw[hx,hy,cellsOfV_mk,headOf_mk] at hr
 unfold Oper.wp
 rw[hr]
 exact h
theorem step_alE {ops:Array Oper} {o:Oper} {a:Act} {K:Act->World->Prop} {Q:Exit->Act->World->Prop} {E:Prop} (w:World) (d:Option Tmp) (hgd:o.guard=none) (hd:o.dst=d) (ho:o.op=.alloc 32)
  (h:K (a.put d (.pointer (some ⟨w.heap.size,0,none⟩))) (w.alloc (.cells (zlit 0 ⟨#[]⟩) 32))):if Region.wanted o (yielded ops a.tmps)=true then Oper.wp Tryz.prog o a w K Q else E:=by
 obtain⟨dst,op,ty,pos,af,gd⟩:=o
 simp only at ho hgd hd
 subst ho hgd hd
 rw[if_pos (by simp [Region.wanted])]
 unfold zlit at h
 go_simp
 exact h
theorem grown_setR (w:World) (q:Nat) (cs:Array Value):w.grownBy (w.setRow q cs) (some q):=by
 have hb:=below_setRow (Below.refl q w) (Nat.le_refl q) cs
 exact⟨hb.os,hb.tape,hb.output,by simp,fun k _ hne=>setRow_block w q k cs (fun e=>hne (by rw[e]))⟩
theorem leafQ {wD w6:World} {q:Nat} {al gr:Value} {x:Fu} (hb:Below wD.heap.size wD w6) (hq:wD.heap.size<=q) (hH:Held w6 q 33) (hI:IS w6 al x.2.1) (hG:GS w6 gr x.2.2) (na:0<x.2.1.length->∀ b,al.ownBlock=some b->b≠q) (ng:0<x.2.2.length->∀ b,gr.ownBlock=some b->b≠q) :
  row (w6.setRow q (x.1.vals al gr)) q=x.1.vals al gr∧IS (w6.setRow q (x.1.vals al gr)) al x.2.1∧GS (w6.setRow q (x.1.vals al gr)) gr x.2.2∧Below wD.heap.size wD (w6.setRow q (x.1.vals al gr)) :=
 ⟨row_setRow hH _,is_grownN hI (grown_setR _ _ _) na,gs_grownN hG (grown_setR _ _ _) ng,below_setRow hb hq _⟩
theorem shelf_at (sv:Value) (l:List Rw) (w:World) (p:Nat) (hp:p=w.heap.size) (hr:RwS w sv l) (ho:∀ b,sv.ownBlock=some b->b<w.heap.size):SHs w (w.alloc (.cells #[sv,.int .i64 0,.int .i64 0,.int .i64 0] 69)) p sv l 0 0 0:=by
 subst hp
 exact shelf_newC sv l w hr ho
theorem th_getG (p:Nat) (sv:Value) (R:List Rw) (id kind:Int) (name:ByteArray) (x:Fu) (w0 w:World) (hm:MaxL w0) (hT:Tab w0) (hS:SHs w0 w p sv R 0 0 0) (hg:getR R id kind name=(x,0)) :
  Calls Tryz.prog 14 #[.iface 37 (.pointer (some ⟨p,0,none⟩)),.int .i64 id,.int .i64 kind,.string name] w fun r w'=>∃ al gr,r=.returned (.tuple #[.agg (x.1.vals al gr),.int .i64 0])∧IS w' al x.2.1∧GS w' gr x.2.2∧(∀ b,al.ownBlock=some b->w.heap.size<=b)∧(∀ b,gr.ownBlock=some b->w.heap.size<=b)∧Below w0.heap.size w0 w'∧w.grownBy w' (some p):=by
 refine (cat_get p sv R 0 0 0 id kind name w0 w hm hT hS (Int.le_refl _) (by decide) (.inr (Int.le_refl _))).mono ?_
 rintro _ w' ⟨h,hs,hgr⟩
 rw[getF_no R 0 0 0 id kind name (Int.le_refl _) (Int.le_refl _),hg] at h
 obtain⟨al,gr,rfl,hI,hG,h1,h2⟩:=h
 exact⟨al,gr,rfl,hI,hG,h1,h2,hs.b,hgr⟩
theorem th_findG (p:Nat) (sv:Value) (R:List Rw) (id:Int) (name:ByteArray) (x:Fu) (code:Int) (w0 w:World) (hm:MaxL w0) (hT:Tab w0) (hS:SHs w0 w p sv R 0 0 0) (hg:findR R id name=(x,code)) :
  Calls Tryz.prog 16 #[.iface 37 (.pointer (some ⟨p,0,none⟩)),.int .i64 id,.string name] w fun r w'=>∃ al gr,r=.returned (.tuple #[.agg (x.1.vals al gr),.int .i64 code])∧IS w' al x.2.1∧GS w' gr x.2.2∧(∀ b,al.ownBlock=some b->w.heap.size<=b)∧(∀ b,gr.ownBlock=some b->w.heap.size<=b)∧Below w0.heap.size w0 w'∧w.grownBy w' (some p):=by
 refine (cat_find p sv R 0 0 0 id name w0 w hm hT hS (Int.le_refl _) (by decide) (.inr (Int.le_refl _))).mono ?_
 rintro _ w' ⟨h,hs,hgr⟩
 rw[findF_no R 0 0 0 id name (Int.le_refl _) (Int.le_refl _),hg] at h
 obtain⟨al,gr,rfl,hI,hG,h1,h2⟩:=h
 exact⟨al,gr,rfl,hI,hG,h1,h2,hs.b,hgr⟩
end
end Go.Proofs.YtkafnmbldpofdaaGreatDoor
