/- Catalogs. -/
import Derived.Test.YtkafnmbldpofdaaGreatDoorRem
import Derived.Test.YtkafnmbldpofdaaGreatDoorMk
set_option maxRecDepth 8000
set_option maxHeartbeats 16000000
namespace Go.Proofs.YtkafnmbldpofdaaGreatDoor
def zfj(id:Int)(x:Fu):Rw:=(id,zbl x.1.kind x.1.name,zbT x)
structure CInv (id:Int) (R:List Rw):Prop where
 srt:zoQ R
 row:∀ r∈R,∃ y,okX y=true∧r=zfj id y
 ali:∀ y,okX y=true->zfj id y∈R->y.1.kind=2->∃ k,(k=0∨k=1∨k=2)∧∃ s,(id,zbl k y.1.target,s)∈R
 gen:∀ y,okX y=true->zfj id y∈R->y.1.kind=0->Ds.gen (Ds.bl y.1.name)=true->∃ s,(id,zbl 1 (zgQ y.1.name),s)∈R
theorem CInv.nil(id:Int):CInv id []:=⟨List.Pairwise.nil,(fun _ h=>by cases h),(fun _ _ h=>by cases h),(fun _ _ h=>by cases h)⟩
theorem CInv.id{id:Int}{R:List Rw}(h:CInv id R):∀ r∈R,r.1=id:=fun r hr=>by
 obtain⟨y,-,rfl⟩:=h.row r hr;rfl
theorem zgs{id:Int}{key s:ByteArray}:∀ {R:List Rw},zcv id key R=some s->(id,key,s)∈R
 | [],h=>by cases h
 | x::R,h=>by
   rw[zcv] at h
   split at h
   · rename_i hx
     cases h
     obtain⟨a,b,c⟩:=x
     simp only at hx
     obtain⟨rfl,rfl⟩:=hx
     exact List.mem_cons_self ..
   · exact List.mem_cons_of_mem _ (zgs h)
theorem zhA{id:Int}{key:ByteArray}:∀ {R:List Rw},zcv id key R=none->∀ s,(id,key,s) ∉ R
 | [],_,s=>by simp
 | x::R,h,s=>by
   rw[zcv] at h
   split at h
   · cases h
   · rename_i hx
     intro hm
     rcases List.mem_cons.1 hm with e|e
     · exact hx (by rw[<-e];exact⟨rfl,rfl⟩)
     · exact zhA h s e
theorem znz(x:Fu)(h:okX x=true):zbb (zbl x.1.kind x.1.name) (zbT x)=(x,0):=by
 have hd:zc6 (Ds.bl (zbT x))=some x:=by
  unfold zbT
  rw[if_pos h,Ds.bl_mk]
  exact zdr _ h (zdn _ h)
 unfold zbb
 rw[hd]
 exact if_pos (zcD _ _).symm
theorem zsz(x:Fu)(h:okX x=true):¬ zbl x.1.kind x.1.name=⟨#[]⟩:=by
 intro e
 have:=zcX x h
 unfold zhf at this
 rw[<-zcD,e] at this
 cases this
theorem zqo{id:Int}{R:List Rw}(hI:CInv id R){key s:ByteArray}(hm:(id,key,s)∈R):∃ y,okX y=true∧key=zbl y.1.kind y.1.name∧s=zbT y:=by
 obtain⟨y,h1,h2⟩:=hI.row _ hm
 cases h2
 exact⟨y,h1,rfl,rfl⟩
theorem zgg{id kind:Int}{name:ByteArray}{R:List Rw}(hI:CInv id R)(h:(zcV R id kind name).2=6):zcv id (zbl kind name) R=none:=by
 cases hr:zcv id (zbl kind name) R with
 | none=>rfl
 | some s =>
   obtain⟨y,h1,h2,h3⟩:=zqo hI (zgs hr)
   have hk:¬ zbl kind name=⟨#[]⟩:=by rw[h2];exact zsz y h1
   rw[zeV hk hr,h2,h3,znz y h1] at h
   cases h
theorem zeX{id kind:Int}{name:ByteArray}{R:List Rw}(h:(zcV R id kind name).2=0):∃ s,(id,zbl kind name,s)∈R:=by
 unfold zcV zbs at h
 split at h
 · cases h
 rw[if_neg (by decide)] at h
 cases hr:zcv id (zbl kind name) R with
 | none=>rw[hr] at h;cases h
 | some s=>exact⟨s,zgs hr⟩
theorem zmD{id:Int}{name:ByteArray}{R:List Rw}(h:(zb5 R id name).2=6):Ds.name (Ds.bl name)=true∧(zcV R id 0 name).2=6∧(zcV R id 1 name).2=6∧(zcV R id 2 name).2=6:=by
 unfold zb5 at h
 split at h
 · cases h
 rename_i hn
 have q:∀ (k:Int) (ks:List Int),(zcg R id name (k::ks)).2=6->(zcV R id k name).2=6∧(zcg R id name ks).2=6:=fun k ks h=>by
  rw[zcg] at h
  split at h
  · rename_i h1;exact⟨h1,h⟩
  · rename_i h1;exact absurd h h1
 obtain⟨q0,r0⟩:=q _ _ h
 obtain⟨q1,r1⟩:=q _ _ r0
 obtain⟨q2,-⟩:=q _ _ r1
 exact⟨by cases hb:Ds.name (Ds.bl name) <;> simp_all,q0,q1,q2⟩
theorem zkC{id:Int}{name:ByteArray}{R:List Rw}(h:(zb5 R id name).2=0):∃ k,(k=0∨k=1∨k=2)∧∃ s,(id,zbl k name,s)∈R:=by
 unfold zb5 at h
 split at h
 · cases h
 rw[zcg] at h
 split at h
 · rw[zcg] at h
   split at h
   · rw[zcg] at h
     split at h
     · cases h
     · exact⟨2,.inr (.inr rfl),zeX h⟩
   · exact⟨1,.inr (.inl rfl),zeX h⟩
 · exact⟨0,.inl rfl,zeX h⟩
theorem add_zero{id:Int}{R:List Rw}{x:Fu}(h:(zfy R id x).2=0) :
  okX x=true∧(zfy R id x).1=[zbv id x]∧(zjQ R id x)=6∧(Ds.gen (Ds.bl x.1.name)=true->x.1.kind=0->(zcV R id 1 (zgQ x.1.name)).2=0)∧zcj R id x=0:=by
 unfold zfy at h ⊢
 by_cases hok:okX x=true
 rotate_left
 · rw[if_neg hok] at h;cases h
 rw[if_pos hok] at h ⊢
 by_cases h1:zep (zjQ R id x)≠0
 · rw[if_pos h1] at h;exact absurd h h1
 rw[if_neg h1] at h ⊢
 by_cases h2:(Ds.gen (Ds.bl x.1.name)=true∧x.1.kind=0)∧(zcV R id 1 (zgQ x.1.name)).2≠0
 · rw[if_pos h2] at h;exact absurd h h2.2
 rw[if_neg h2] at h ⊢
 by_cases h3:zcj R id x≠0
 · rw[if_pos h3] at h;exact absurd h h3
 rw[if_neg h3] at h ⊢
 refine⟨hok,rfl,?_,fun a b=>Decidable.byContradiction fun k=>h2 ⟨⟨a,b⟩,k⟩,Decidable.byContradiction h3⟩
 have h1':zep (zjQ R id x)=0:=Decidable.byContradiction h1
 unfold zep at h1'
 split at h1'
 · cases h1'
 split at h1'
 · assumption
 · rename_i a b;exact absurd h1' a
theorem zkY{id:Int}{x:Rw}(hx:x.1=id):∀ (R:List Rw),(∀ r∈R,r.1=id)->zex x R=zhF x R:=by
 intro R h
 have hp:∀ r∈R,zcG x r=zjA x r:=fun r hr=>by
  unfold zcG zjA
  rw[h r hr,hx,decide_eq_false (by omega),decide_eq_true rfl,Bool.false_or,Bool.true_and]
 have e:∀ (R:List Rw),(∀ r∈R,zcG x r=zjA x r)->R.takeWhile (zcG x)=R.takeWhile (zjA x)∧R.dropWhile (zcG x)=R.dropWhile (zjA x):=by
  intro R
  induction R with
  | nil=>intro _;exact⟨rfl,rfl⟩
  | cons r R ih =>
    intro h
    have h0:=h r (List.mem_cons_self ..)
    obtain⟨i1,i2⟩:=ih (fun r hr=>h r (List.mem_cons_of_mem _ hr))
    rw[List.takeWhile_cons,List.takeWhile_cons,List.dropWhile_cons,List.dropWhile_cons,h0,i1,i2]
    exact⟨rfl,rfl⟩
 unfold zex zhF
 rw[(e R hp).1,(e R hp).2]
theorem zfG{id:Int}:∀ (n:Nat) (R:List Rw),R.length=n->zoQ R->(∀ r∈R,r.1=id)->zb1 R=R
 | 0,R,hn,_,_=>by rw[List.eq_nil_of_length_eq_zero hn];rfl
 | n+1,R,hn,hs,hi=>by
   have hne:R≠[]:=by intro e;rw[e] at hn;cases hn
   have e:=List.dropLast_concat_getLast hne
   generalize R.getLast hne=x at e
   generalize R.dropLast=T at e
   subst e
   unfold zoQ at hs
   rw[List.pairwise_append] at hs
   have hT:zb1 T=T:=zfG n T (by simpa using hn) hs.1 (fun r hr=>hi r (List.mem_append.2 (.inl hr)))
   rw[ze9,hT]
   have hx:=hi x (List.mem_append.2 (.inr (List.mem_singleton.2 rfl)))
   have hall:∀ r∈T,zcG x r=true:=fun r hr=>by
    unfold zcG
    rw[hi r (List.mem_append.2 (.inl hr)),hx,decide_eq_true rfl,hs.2.2 r hr x (List.mem_singleton.2 rfl)];simp
   unfold zex
   have t1:T.takeWhile (zcG x)=T:=by
    clear hs hT hi hne hn
    induction T with
    | nil=>rfl
    | cons r T ih =>
      rw[List.takeWhile_cons,hall r (List.mem_cons_self ..),if_pos rfl,ih (fun r hr=>hall r (List.mem_cons_of_mem _ hr))]
   have t2:T.dropWhile (zcG x)=[]:=by
    clear hs hT hi hne hn t1
    induction T with
    | nil=>rfl
    | cons r T ih =>
      rw[List.dropWhile_cons,hall r (List.mem_cons_self ..),if_pos rfl,ih (fun r hr=>hall r (List.mem_cons_of_mem _ hr))]
   rw[t1,t2]
theorem zjB{p:Rw->Bool}{R:List Rw}(h:∀ r∈R,p r=true):R.filter p=R:=List.filter_eq_self.2 h
theorem zpf{id:Int}{R:List Rw}(hI:CInv id R)(x:Fu)(h0:∀ s,(id,zbl x.1.kind x.1.name,s) ∉ R):apl R [zbv id x]=zhF (zfj id x) R:=by
 unfold apl
 rw[zfG _ R rfl hI.srt hI.id,List.foldl_cons,List.foldl_nil]
 unfold apS
 rw[if_pos (show (zbv id x).1=0 from rfl)]
 have h1:zbc (zbv id x) R=R:=by
  unfold zbc
  refine zjB fun r hr=>?_
  unfold zro
  have h2:¬ r.2.1=zbl x.1.kind x.1.name:=fun e=>h0 r.2.2 (by
   have h3:=hI.id r hr
   obtain⟨a,b,c⟩:=r
   simp only at e h3
   subst e h3
   exact hr)
  show (!(decide (r.1=id)&&decide (r.2.1=zbl x.1.kind x.1.name)))=true
  rw[decide_eq_false h2,Bool.and_false];rfl
 rw[h1]
 exact zkY rfl R hI.id
theorem zsB{id:Int}{R:List Rw}(hI:CInv id R)(x:Fu)(h0:∀ s,(id,zbl x.1.kind x.1.name,s) ∉ R):∀ r∈R,kyR r≠kyR (zfj id x):=fun r hr e=>h0 r.2.2 (by
 have h3:=hI.id r hr
 have h4:r.2.1=zbl x.1.kind x.1.name:=Ds.bl_inj e
 obtain⟨a,b,c⟩:=r
 simp only at h4 h3
 subst h4 h3
 exact hr)
theorem zlG{id:Int}{x y:Fu}(hx:okX x=true)(hy:okX y=true)(e:zfj id x=zfj id y):x=y:=by
 have h1:zbT x=zbT y:=congrArg (fun r:Rw=>r.2.2) e
 have h2:=congrArg Ds.bl h1
 unfold zbT at h2
 rw[if_pos hx,if_pos hy,Ds.bl_mk,Ds.bl_mk] at h2
 have h3:=zdr _ hx (zdn _ hx)
 rw[h2,zdr _ hy (zdn _ hy)] at h3
 exact (Option.some.inj h3).symm
theorem zo1{id:Int}{R:List Rw}(hI:CInv id R){x:Fu}(h:(zfy R id x).2=0) :
  (∀ s,(id,zbl x.1.kind x.1.name,s) ∉ R)∧apl R (zfy R id x).1=zhF (zfj id x) R∧CInv id (zhF (zfj id x) R):=by
 obtain⟨hok,h1,h6,hg,hl⟩:=add_zero h
 have h0:∀ s,(id,zbl x.1.kind x.1.name,s) ∉ R:=by
  refine zhA ?_
  unfold zjQ at h6
  split at h6
  · exact zgg hI h6
  · have hk:=zdp x hok
    obtain⟨-,q0,q1,q2⟩:=zmD h6
    rcases (by omega:x.1.kind=0∨x.1.kind=1∨x.1.kind=2) with e|e|e
    · rw[e];exact zgg hI q0
    · rw[e];exact zgg hI q1
    · rw[e];exact zgg hI q2
 refine⟨h0,by rw[h1];exact zpf hI x h0,?_⟩
 have mono:∀ {k s},(id,k,s)∈R->(id,k,s)∈zhF (zfj id x) R:=fun hm=>(zdX _ _ _).2 (.inr hm)
 refine⟨ziZ _ R hI.srt (zsB hI x h0),fun r hr=>?_,fun y hy hm hk=>?_,fun y hy hm hk hgn=>?_⟩
 · rcases (zdX _ _ _).1 hr with e|e
   · exact⟨x,hok,e⟩
   · exact hI.row r e
 · rcases (zdX _ _ _).1 hm with e|e
   · obtain rfl:=zlG hy hok e
     unfold zcj at hl
     rw[if_neg (fun k=>k hk)] at hl
     have hz:(zb5 R id y.1.target).2=0:=by
      generalize zb5 R id y.1.target=g at hl
      obtain⟨t,c⟩:=g
      dsimp only at hl ⊢
      by_cases hc:c≠0
      · rw[if_pos hc] at hl;exact absurd hl hc
      · exact Decidable.byContradiction hc
     obtain⟨k,k1,s,k2⟩:=zkC hz
     exact⟨k,k1,s,mono k2⟩
   · obtain⟨k,k1,s,k2⟩:=hI.ali y hy e hk
     exact⟨k,k1,s,mono k2⟩
 · rcases (zdX _ _ _).1 hm with e|e
   · obtain rfl:=zlG hy hok e
     obtain⟨s,hs⟩:=zeX (hg hgn hk)
     exact⟨s,mono hs⟩
   · obtain⟨s,hs⟩:=hI.gen y hy e hk hgn
     exact⟨s,mono hs⟩
def zs3(id:Int)(Y:Nat->Fu)(M:List Rw)(L:List Nat):List Rw:=L.foldl (fun R j=>zhF (zfj id (Y j)) R) M
def GoodL(id:Int)(Y:Nat->Fu)(M:List Rw)(L:List Nat):Prop:=∀ i (h:i<L.length),(zfy (zs3 id Y M (L.take i)) id (Y L[i])).2=0
theorem GoodL.snoc{id:Int}{Y:Nat->Fu}{M:List Rw}{L:List Nat}{j:Nat}(h:GoodL id Y M L)(hj:(zfy (zs3 id Y M L) id (Y j)).2=0):GoodL id Y M (L++[j]):=by
 intro i hi
 rw[List.length_append,List.length_singleton] at hi
 by_cases hl:i<L.length
 · have e1:(L++[j]).take i=L.take i:=List.take_append_of_le_length (by omega)
   have e2:(L++[j])[i]=L[i]:=List.getElem_append_left hl
   rw[e1,e2];exact h i hl
 · obtain rfl:i=L.length:=by omega
   have e1:(L++[j]).take L.length=L:=List.take_left
   have e2:(L++[j])[L.length]'(by simp)=j:=List.getElem_concat_length rfl _
   rw[e1,e2];exact hj
theorem zi3(id:Int)(X:Nat->Fu):∀ n,CInv id (zie id X n)
 | 0=>CInv.nil id
 | k+1=>by
   have h:=zi3 id X k
   rw[zie]
   unfold zrp
   split
   · rename_i h0
     obtain⟨-,h1,h2⟩:=zo1 h h0
     rw[h1];exact h2
   · exact h
theorem zmQ{id:Int}{R:List Rw}(h:CInv id R):∀ x∈R,x.2.1.size<=1000:=fun r hr=>by
 obtain⟨y,hy,rfl⟩:=h.row r hr
 have:=zcX y hy
 unfold zhf at this
 rw[<-zcD,Ds.bl_length] at this
 show (zbl y.1.kind y.1.name).size<=1000
 omega
section
open Go.RowKit
def FVs(w:World)(a:Option Addr)(n:Nat)(Y:Nat->Fu)(AL GR:Nat->Value):Prop:=∀ k,k<n->∃ b o,a=some ⟨b,o,none⟩∧b<w.heap.size∧mid w b (o+k*33)=(Y k).1.vals (AL k) (GR k)∧IS w (AL k) (Y k).2.1∧GS w (GR k) (Y k).2.2∧(Y k).1.name.size<=60
theorem FVs.below{w w':World}{a:Option Addr}{n:Nat}{Y:Nat->Fu}{AL GR:Nat->Value}(h:FVs w a n Y AL GR)(hb:Below w.heap.size w w'):FVs w' a n Y AL GR:=fun k hk=>by
 obtain⟨b,o,h1,h2,h3,h4,h5,h6⟩:=h k hk
 exact⟨b,o,h1,Nat.lt_of_lt_of_le h2 hb.size,zfu hb h3 (by rw[zab];decide),h4.below hb,h5.below hb,h6⟩
end
section
open Go.RowKit
set_option linter.unusedSimpArgs false
end
end Go.Proofs.YtkafnmbldpofdaaGreatDoor
