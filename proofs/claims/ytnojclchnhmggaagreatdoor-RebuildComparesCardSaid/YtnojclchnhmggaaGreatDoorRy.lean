/- Contracts of the reference of chapter 1: reading: fail, ReadNumber, ReadBool, ReadCount, ReadText, End. -/
import Derived.Test.YtnojclchnhmggaaGreatDoorEc
import Derived.Test.YtnojclchnhmggaaGreatDoorRdA
import Derived.Test.YtnojclchnhmggaaGreatDoorRsB
import Derived.Deep.RegionHeld3
namespace Go.Proofs.YtnojclchnhmggaaGreatDoor
set_option maxRecDepth 8000
set_option maxHeartbeats 4000000
section
theorem dec_zero:∀ (l:List UInt8) (i a:Nat),(Wi.dec i a l).2=0->(Wi.dec i a l).1=0
 | [],_,_,_=>rfl
 | b::r,i,a,h=>by
   rw[Wi.dec] at h ⊢
   split at h
   · rename_i c;rw[if_pos c]
   · rename_i c;rw[if_neg c]
     split at h
     · rename_i c2;rw[if_pos c2]
     · rename_i c2;rw[if_neg c2]
       split at h
       · rename_i c3;rw[if_pos c3]
         split at h
         · rename_i c4;rw[if_pos c4]
         · simp at h
       · rename_i c3;rw[if_neg c3]
         exact dec_zero r _ _ h
theorem num_zero (s:List UInt8 × Nat) (h:(Rd.num s).2.2≠0):(Rd.num s).1=0:=by
 unfold Rd.num at h ⊢
 split at h
 · rename_i c
   rw[if_pos c]
   split at h
   · rename_i c2;rw[if_pos c2];exact dec_zero _ _ _ c2
   · simp at h
 · rename_i c;rw[if_neg c]
def rclip (n:Nat):Int:=if 1099511627776<n then -1 else (n:Int)
theorem rclip_id (n:Nat) (h:n<=1099511627776):rclip n=n:=by unfold rclip;rw[if_neg (by omega)]
def rN (s:List UInt8 × Nat):Int × (List UInt8 × Nat):=(rclip (Rd.num s).1,(Rd.num s).2)
theorem rN_enc (n:Int) (r:List UInt8) (h0:0<=n) (h:n<=1099511627776):rN (Wi.enc n.toNat++r,0)=(n,(r,0)):=by
 unfold rN
 rw[Rd.num_enc _ _ (by omega)]
 simp only
 rw[rclip_id _ (by omega),Int.toNat_of_nonneg h0]
theorem rN_len (s:List UInt8 × Nat):(rN s).2.1.length<=s.1.length:=Rd.num_len s
def rL (s:List UInt8 × Nat):Nat->List Int × (List UInt8 × Nat)
 | 0=>([],s)
 | k+1=>((rL s k).1++[(rN (rL s k).2).1],(rN (rL s k).2).2)
theorem rL_len (s:List UInt8 × Nat):∀ k,(rL s k).1.length=k
 | 0=>rfl
 | k+1=>by rw[rL,List.length_append,rL_len s k];rfl
theorem rL_rest (s:List UInt8 × Nat):∀ k,(rL s k).2.1.length<=s.1.length
 | 0=>Nat.le_refl _
 | k+1=>Nat.le_trans (rN_len _) (rL_rest s k)
theorem rL_enc (ns:List Int) (r:List UInt8) (h:numsOk ns):∀ k,k<=ns.length->rL (encs (ns.map Int.toNat)++r,0) k=(ns.take k,(encs ((ns.drop k).map Int.toNat)++r,0))
 | 0,_=>rfl
 | k+1,hk=>by
   have hlt:k<ns.length:=by omega
   have hx:=h _ (List.getElem_mem hlt)
   rw[rL,rL_enc ns r h k (by omega)]
   simp only
   rw[List.drop_eq_getElem_cons hlt,List.map_cons,encs,List.append_assoc,rN_enc _ _ hx.1 hx.2]
   simp only
   rw[List.take_succ_eq_append_getElem hlt]
theorem rL_all (ns:List Int) (r:List UInt8) (h:numsOk ns) (n:Nat) (hn:n=ns.length):rL (encs (ns.map Int.toNat)++r,0) n=(ns,(r,0)):=by
 rw[rL_enc ns r h n (by omega),hn,List.take_length,List.drop_length];rfl
def rrG (e:En) (s:List UInt8 × Nat):En × (List UInt8 × Nat) :=
 let a:=rN s
 let b:=rN a.2
 let c:=Rd.boo b.2
 let d:=Rd.txt 8 c.2
 ({ e with lim:=a.1,last:=b.1,em:=c.1,owner:=⟨d.1.toArray⟩ },d.2)
def rrA (e:En) (s:List UInt8 × Nat):En × (List UInt8 × Nat):=({ e with target:=⟨(Rd.txt 31 s).1.toArray⟩ },(Rd.txt 31 s).2)
def rrC (e:En) (s:List UInt8 × Nat):En × (List UInt8 × Nat):=({ e with cat:=(rN s).1 },(rN s).2)
def rGr (s:List UInt8 × Nat):Gr × (List UInt8 × Nat) :=
 let t:=Rd.txt 8 s
 let b:=Rd.boo t.2
 let n:=rN b.2
 ((⟨t.1.toArray⟩,b.1,n.1),n.2)
theorem rGr_len (s:List UInt8 × Nat):(rGr s).2.1.length<=s.1.length :=
 Nat.le_trans (rN_len _) (Nat.le_trans (Rd.boo_len _) (Rd.txt_len 8 s).1)
def rGs (s:List UInt8 × Nat):Nat->List Gr × (List UInt8 × Nat)
 | 0=>([],s)
 | k+1=>((rGs s k).1++[(rGr (rGs s k).2).1],(rGr (rGs s k).2).2)
theorem rGs_len (s:List UInt8 × Nat):∀ k,(rGs s k).1.length=k
 | 0=>rfl
 | k+1=>by rw[rGs,List.length_append,rGs_len s k];rfl
theorem rGs_rest (s:List UInt8 × Nat):∀ k,(rGs s k).2.1.length<=s.1.length
 | 0=>Nat.le_refl _
 | k+1=>Nat.le_trans (rGr_len _) (rGs_rest s k)
theorem rGr_enc (g:Gr) (r:List UInt8) (h:GrOk g) (h8:g.1.size<=8):rGr (grs [g]++r,0)=(g,(r,0)):=by
 have hl:=h.l
 obtain⟨a,b,c⟩:=g
 simp only at h8 hl
 have e1:grs [(a,b,c)]++r=Wi.enc (Ds.bl a).length++(Ds.bl a++(tb b::(Wi.enc c.toNat++r))):=by
  rw[Ds.bl_length];simp only[grs,List.append_assoc,List.cons_append,List.nil_append]
 unfold rGr
 rw[e1,Rd.txt_enc 8 _ _ (by rw[Ds.bl_length];omega) (by rw[Ds.bl_length];omega)]
 simp only
 rw[show tb b=(if b then 1 else 0) from rfl,Rd.boo_tb]
 simp only
 rw[rN_enc _ _ hl.1 hl.2,Ds.mk_bl]
theorem rGs_enc (g:List Gr) (r:List UInt8) (h:∀ x∈g,GrOk x∧x.1.size<=8):∀ k,k<=g.length->rGs (grs g++r,0) k=(g.take k,(grs (g.drop k)++r,0))
 | 0,_=>rfl
 | k+1,hk=>by
   have hlt:k<g.length:=by omega
   have e1:grs (g.drop k)++r=grs [g[k]]++(grs (g.drop (k+1))++r):=by
    rw[List.drop_eq_getElem_cons hlt,show g[k]::g.drop (k+1)=[g[k]]++g.drop (k+1) from rfl,grs_append,List.append_assoc]
   have hx:=h _ (List.getElem_mem hlt)
   rw[rGs,rGs_enc g r h k (by omega)]
   simp only
   rw[e1,rGr_enc _ _ hx.1 hx.2]
   simp only
   rw[List.take_succ_eq_append_getElem hlt]
def rrP (e:En) (s:List UInt8 × Nat):En × List Gr × (List UInt8 × Nat) :=
 let a:=rN s
 let t:=Rd.txt 8 a.2
 let n:=Rd.cnt 8 t.2
 let l:=rGs n.2 n.1
 ({ e with lev:=a.1,owner:=⟨t.1.toArray⟩ },l.1,l.2)
def rrD (e:En) (s:List UInt8 × Nat):En × List Int × (List UInt8 × Nat) :=
 let l:=rL s 14
 let u:=Rd.boo l.2
 let c:=rN u.2
 let v:=Rd.txt 8 c.2
 let o:=Rd.txt 8 v.2
 let cr:=rN o.2
 let ex:=rN cr.2
 let ar:=Rd.boo ex.2
 let n:=Rd.cnt 4 ar.2
 let al:=rL n.2 n.1
 let us:=rN al.2
 ({ e with d0:=l.1.getD 0 0,d1:=l.1.getD 1 0,d2:=l.1.getD 2 0,d3:=l.1.getD 3 0,d4:=l.1.getD 4 0,d5:=l.1.getD 5 0,d6:=l.1.getD 6 0,d7:=l.1.getD 7 0,d8:=l.1.getD 8 0,d9:=l.1.getD 9 0,d10:=l.1.getD 10 0,d11:=l.1.getD 11 0,d12:=l.1.getD 12 0,d13:=l.1.getD 13 0,uq:=u.1,cls:=c.1,vol:=⟨v.1.toArray⟩,own:=⟨o.1.toArray⟩,cr:=cr.1,ex:=ex.1,ar:=ar.1,used:=us.1 },al.1,us.2)
def rrX (k:Int) (n:ByteArray) (s:List UInt8 × Nat):Fu × (List UInt8 × Nat) :=
 if k=0 then (((rrD (En.base k n) s).1,(rrD (En.base k n) s).2.1,[]),(rrD (En.base k n) s).2.2)
 else if k=1 then (((rrG (En.base k n) s).1,[],[]),(rrG (En.base k n) s).2)
 else if k=2 then (((rrA (En.base k n) s).1,[],[]),(rrA (En.base k n) s).2)
 else if k=3 then (((rrC (En.base k n) s).1,[],[]),(rrC (En.base k n) s).2)
 else (((rrP (En.base k n) s).1,[],(rrP (En.base k n) s).2.1),(rrP (En.base k n) s).2.2)
theorem rrD_body (e:En) (l:List Int) (r:List UInt8) (h:DatOk e l) (hv:e.vol.size<=8) (ho:e.own.size<=8):rrD (En.base e.kind e.name) (bodyDx e l++r,0)=(onlyD e,l,(r,0)):=by
 obtain⟨hn,hc,-,-,hcr,hex,hl,hl4,hu⟩:=h
 have e1:bodyDx e l++r=encs ((numD e).map Int.toNat)++(tb e.uq::(Wi.enc e.cls.toNat++(Wi.enc (Ds.bl e.vol).length++(Ds.bl e.vol++(Wi.enc (Ds.bl e.own).length++(Ds.bl e.own++(Wi.enc e.cr.toNat++(Wi.enc e.ex.toNat++(tb e.ar::(Wi.enc l.length++(encs (l.map Int.toNat)++(Wi.enc e.used.toNat++r)))))))))))):=by
  unfold bodyDx bodyD;rw[Ds.bl_length,Ds.bl_length];simp only[encs,List.append_assoc,List.cons_append,List.nil_append]
 unfold rrD
 rw[e1,rL_all (numD e) _ hn 14 rfl]
 simp only
 rw[show tb e.uq=(if e.uq then 1 else 0) from rfl,Rd.boo_tb]
 simp only
 rw[rN_enc _ _ hc.1 hc.2]
 simp only
 rw[Rd.txt_enc 8 _ _ (by rw[Ds.bl_length];omega) (by rw[Ds.bl_length];omega)]
 simp only
 rw[Rd.txt_enc 8 _ _ (by rw[Ds.bl_length];omega) (by rw[Ds.bl_length];omega)]
 simp only
 rw[rN_enc _ _ hcr.1 hcr.2]
 simp only
 rw[rN_enc _ _ hex.1 hex.2]
 simp only
 rw[show tb e.ar=(if e.ar then 1 else 0) from rfl,Rd.boo_tb]
 simp only
 rw[Rd.cnt_enc 4 _ _ hl4 (by omega)]
 simp only
 rw[rL_all l _ hl l.length rfl]
 simp only
 rw[rN_enc _ _ hu.1 hu.2,Ds.mk_bl,Ds.mk_bl]
 rfl
theorem rrP_body (e:En) (g:List Gr) (r:List UInt8) (h:ProfOk e g) (ho:e.owner.size<=8) (hg8:∀ x∈g,x.1.size<=8):rrP (En.base e.kind e.name) (bodyP e g++r,0)=(onlyP e,g,(r,0)):=by
 obtain⟨hl,-,hg,h8⟩:=h
 have e1:bodyP e g++r=Wi.enc e.lev.toNat++(Wi.enc (Ds.bl e.owner).length++(Ds.bl e.owner++(Wi.enc g.length++(grs g++r)))):=by
  unfold bodyP;rw[Ds.bl_length];simp only[List.append_assoc]
 unfold rrP
 rw[e1,rN_enc _ _ hl.1 hl.2]
 simp only
 rw[Rd.txt_enc 8 _ _ (by rw[Ds.bl_length];omega) (by rw[Ds.bl_length];omega)]
 simp only
 rw[Rd.cnt_enc 8 _ _ h8 (by omega)]
 simp only
 rw[rGs_enc g r (fun x hx=>⟨hg x hx,hg8 x hx⟩) _ (Nat.le_refl _),List.take_length,List.drop_length,Ds.mk_bl]
 rfl
theorem rrG_body (e:En) (r:List UInt8) (h:Vp.grp e=true):rrG (En.base e.kind e.name) (bodyG e++r,0)=(onlyG e,(r,0)):=by
 unfold Vp.grp at h
 simp only[Bool.and_eq_true] at h
 obtain⟨⟨h1,h2⟩,h3⟩:=h
 have r1:=rng1 _ _ _ h1
 have r2:=rng1 _ _ _ h2
 have r3:=own8 _ h3
 have e1:bodyG e++r=Wi.enc e.lim.toNat++(Wi.enc e.last.toNat++(tb e.em::(Wi.enc (Ds.bl e.owner).length++(Ds.bl e.owner++r)))):=by
  unfold bodyG encs encs encs;rw[Ds.bl_length];simp
 unfold rrG
 rw[e1,rN_enc _ _ (by omega) (by omega)]
 simp only
 rw[rN_enc _ _ (by omega) (by omega)]
 simp only
 rw[show tb e.em=(if e.em then 1 else 0) from rfl,Rd.boo_tb]
 simp only
 rw[Rd.txt_enc 8 _ _ (by omega) (by omega),Ds.mk_bl]
 rfl
theorem rrA_body (e:En) (r:List UInt8) (h:e.target.size<=31):rrA (En.base e.kind e.name) (bodyA e++r,0)=(onlyA e,(r,0)):=by
 have e1:bodyA e++r=Wi.enc (Ds.bl e.target).length++(Ds.bl e.target++r):=by
  unfold bodyA;rw[Ds.bl_length,List.append_assoc]
 unfold rrA
 rw[e1,Rd.txt_enc 31 _ _ (by rw[Ds.bl_length];omega) (by rw[Ds.bl_length];omega),Ds.mk_bl]
 rfl
theorem rrC_body (e:En) (r:List UInt8) (h:Vp.cat e=true):rrC (En.base e.kind e.name) (bodyC e++r,0)=(onlyC e,(r,0)):=by
 have r1:=rng1 _ _ _ h
 unfold rrC bodyC
 rw[rN_enc _ _ (by omega) (by omega)]
 rfl
theorem rr_bodyX (x:Fu) (r:List UInt8) (h:okX x=true):rrX x.1.kind x.1.name (bodyX x++r,0)=(x,(r,0)):=by
 obtain⟨e,l,g⟩:=x
 unfold okX at h
 unfold rrX bodyX
 simp only at h ⊢
 split at h
 · rename_i k
   rw[if_pos k,if_pos k]
   unfold okD at h
   simp only[Bool.and_eq_true] at h
   obtain⟨⟨_,h2⟩,h3⟩:=h
   obtain⟨q1,-,q3⟩:=(sameE_eq _ _ _ _ _ _).1 h3
   have hd:=dat_ok e l h2
   rw[rrD_body e l r hd.1 hd.2.1.1 hd.2.1.2,q1,<-q3]
 · rename_i k0
   rw[if_neg k0,if_neg k0]
   split at h
   · rename_i k
     rw[if_pos k,if_pos k]
     unfold okG at h
     simp only[Bool.and_eq_true] at h
     obtain⟨⟨_,h2⟩,h3⟩:=h
     obtain⟨q1,q2,q3⟩:=(sameE_eq _ _ _ _ _ _).1 h3
     rw[rrG_body e r h2,q1,<-q2,<-q3]
   · rename_i k1
     rw[if_neg k1,if_neg k1]
     split at h
     · rename_i k
       rw[if_pos k,if_pos k]
       unfold okA at h
       simp only[Bool.and_eq_true] at h
       obtain⟨⟨_,h2⟩,h3⟩:=h
       obtain⟨q1,q2,q3⟩:=(sameE_eq _ _ _ _ _ _).1 h3
       have:=ali_size e h2
       rw[rrA_body e r (by omega),q1,<-q2,<-q3]
     · rename_i k2
       rw[if_neg k2,if_neg k2]
       split at h
       · rename_i k
         rw[if_pos k,if_pos k]
         unfold okC at h
         simp only[Bool.and_eq_true] at h
         obtain⟨⟨_,h2⟩,h3⟩:=h
         obtain⟨q1,q2,q3⟩:=(sameE_eq _ _ _ _ _ _).1 h3
         rw[rrC_body e r h2,q1,<-q2,<-q3]
       · rename_i k3
         rw[if_neg k3,if_neg k3]
         split at h
         · unfold okP at h
           simp only[Bool.and_eq_true] at h
           obtain⟨⟨_,h2⟩,h3⟩:=h
           obtain⟨q1,q2,-⟩:=(sameE_eq _ _ _ _ _ _).1 h3
           have hp:=prof_ok e g h2
           rw[rrP_body e g r hp.1 hp.2.2.1 (fun x hx=>(hp.2.2.2 x hx).1),q1,<-q2]
         · cases h
def tryR (k:Int) (s:List UInt8):Option Fu :=
 if Rd.fin (rrX k ⟨(nameX s).toArray⟩ (s.drop 32,0)).2=0∧okX (rrX k ⟨(nameX s).toArray⟩ (s.drop 32,0)).1=true∧recX (rrX k ⟨(nameX s).toArray⟩ (s.drop 32,0)).1=s then some (rrX k ⟨(nameX s).toArray⟩ (s.drop 32,0)).1 else none
theorem tryR_of (s:List UInt8) (x:Fu) (hx:okX x=true) (hr:recX x=s):tryR x.1.kind s=some x:=by
 subst hr
 have h3:=recX_split x [] hx
 rw[List.append_nil,List.append_nil] at h3
 obtain⟨-,h2,h3⟩:=h3
 have hb:=rr_bodyX x [] hx
 rw[List.append_nil] at hb
 unfold tryR
 rw[h2,h3,Ds.mk_bl,hb]
 rw[if_pos ⟨rfl,hx,rfl⟩]
theorem tryR_sound (k:Int) (s:List UInt8) (x:Fu) (h:tryR k s=some x):okX x=true∧recX x=s:=by
 unfold tryR at h
 split at h
 · rename_i c;cases h;exact c.2
 · cases h
theorem decX_ref (s:List UInt8) (hl:32<=s.length∧s.length<=200):decX s=(match kindOf (s.headD 0) with | some k=>tryR k s | none=>none):=by
 cases hk:kindOf (s.headD 0) with
 | none=>unfold decX;rw[if_pos hl,hk]
 | some k =>
   simp only
   cases hd:decX s with
   | some x =>
     obtain⟨hx,hr⟩:=decX_sound s x hd
     have:=tryR_of s x hx hr
     have h3:=recX_split x [] hx
     rw[List.append_nil,List.append_nil,hr] at h3
     rw[h3.1,kindOf_letter _ (okX_kind x hx)] at hk
     cases hk
     exact this.symm
   | none =>
     cases ht:tryR k s with
     | none=>rfl
     | some y =>
       obtain⟨hy,hr⟩:=tryR_sound k s y ht
       rw[<-hr,decX_rec y hy (recX_len y hy)] at hd
       cases hd
end
section
open Go.RowKit
theorem res_tmp_row {P:Program} {fn:Func} {p u:Tmp} {ty:TypeId} {d:TypeDesc} {n:Nat} (h:fn.results=#[.tmp u,.cell p ty]) (hu:P.underlying ty=some d) (hd:(match d with | .struct _ | .array _ _=>true | _=>false)=true) (hi:(P.info? ty).map (·.size)=some (n+1))
  (tmps:Array Value) (w:World) (g:Nat) (hp:tmps.getD p undef=.pointer (some ⟨g,0,none⟩)) (hz:(row w g).size=n+1) :
  (results fn tmps).run P w=.ok (.tuple #[tmps.getD u undef,.agg (row w g)]) w:=by
 have hl:=run_loadVar_block w g n ty d hu hd hi hz
 have hp':tmps[p]?.getD undef=.pointer (some ⟨g,0,none⟩):=by simpa using hp
 simp only[results,h]
 simp [hp',asAddr,hl]
theorem res_rr_tmp {P:Program} {fn:Func} {p q u:Tmp} {ty ty':TypeId} {d d':TypeDesc} {n n':Nat} (h:fn.results=#[.cell p ty,.cell q ty',.tmp u]) (hu:P.underlying ty=some d) (hd:(match d with | .struct _ | .array _ _=>true | _=>false)=true) (hi:(P.info? ty).map (·.size)=some (n+1))
  (hu':P.underlying ty'=some d') (hd':(match d' with | .struct _ | .array _ _=>true | _=>false)=true) (hi':(P.info? ty').map (·.size)=some (n'+1))
  (tmps:Array Value) (w:World) (g g':Nat) (hp:tmps.getD p undef=.pointer (some ⟨g,0,none⟩)) (hq:tmps.getD q undef=.pointer (some ⟨g',0,none⟩)) (hz:(row w g).size=n+1) (hz':(row w g').size=n'+1) :
  (results fn tmps).run P w=.ok (.tuple #[.agg (row w g),.agg (row w g'),tmps.getD u undef]) w:=by
 have hl:=run_loadVar_block w g n ty d hu hd hi hz
 have hl':=run_loadVar_block w g' n' ty' d' hu' hd' hi' hz'
 have hp':tmps[p]?.getD undef=.pointer (some ⟨g,0,none⟩):=by simpa using hp
 have hq':tmps[q]?.getD undef=.pointer (some ⟨g',0,none⟩):=by simpa using hq
 simp only[results,h]
 simp [hp',hq',asAddr,hl,hl']
theorem res_row_row {P:Program} {fn:Func} {p q:Tmp} {ty ty':TypeId} {d d':TypeDesc} {n n':Nat} (h:fn.results=#[.cell p ty,.cell q ty']) (hu:P.underlying ty=some d) (hd:(match d with | .struct _ | .array _ _=>true | _=>false)=true) (hi:(P.info? ty).map (·.size)=some (n+1))
  (hu':P.underlying ty'=some d') (hd':(match d' with | .struct _ | .array _ _=>true | _=>false)=true) (hi':(P.info? ty').map (·.size)=some (n'+1))
  (tmps:Array Value) (w:World) (g g':Nat) (hp:tmps.getD p undef=.pointer (some ⟨g,0,none⟩)) (hq:tmps.getD q undef=.pointer (some ⟨g',0,none⟩)) (hz:(row w g).size=n+1) (hz':(row w g').size=n'+1) :
  (results fn tmps).run P w=.ok (.tuple #[.agg (row w g),.agg (row w g')]) w:=by
 have hl:=run_loadVar_block w g n ty d hu hd hi hz
 have hl':=run_loadVar_block w g' n' ty' d' hu' hd' hi' hz'
 have hp':tmps[p]?.getD undef=.pointer (some ⟨g,0,none⟩):=by simpa using hp
 have hq':tmps[q]?.getD undef=.pointer (some ⟨g',0,none⟩):=by simpa using hq
 simp only[results,h]
 simp [hp',hq',asAddr,hl,hl']
theorem Held.below {w w':World} {g n:Nat} (h:Held w g n) (hb:Below w.heap.size w w'):Held w' g n:=by
 obtain⟨t,fr,hbl⟩:=held_block h
 have hlt:g<w.heap.size:=by
  rcases Nat.lt_or_ge g w.heap.size with k | k
  · exact k
  · rw[Array.getElem?_eq_none k] at hbl;cases hbl
 exact h.of_block (hb.block _ hlt)
theorem Held.new (w:World) (cs:Array Value) (t:TypeId) (n:Nat) (hn:cs.size=n) (h0:0<n):Held (w.alloc (.cells cs t)) w.heap.size n:=⟨by rw[row_new];exact hn,h0,fun o=>by simp⟩
theorem Held.lt {w:World} {g n:Nat} (h:Held w g n):g<w.heap.size:=by
 obtain⟨t,fr,hbl⟩:=held_block h
 rcases Nat.lt_or_ge g w.heap.size with k | k
 · exact k
 · rw[Array.getElem?_eq_none k] at hbl;cases hbl
theorem Held.set {W:World} {g g' n:Nat} (h:Held W g n) (c:Array Value) (hc:g'=g->c.size=n):Held (W.setRow g' c) g n:=by
 by_cases e:g'=g
 · subst e
   refine⟨by rw[row_setRow h];exact hc rfl,h.2.1,fun o=>?_⟩
   obtain⟨t,fr,hb⟩:=held_block h
   have h1:=h.2.2 o
   unfold World.frozen? at h1 ⊢
   rw[hb] at h1
   rw[setRow_heap W _ _ c t fr hb]
   exact h1
 · exact h.of_block (setRow_block W g' g c (fun q=>e q.symm))
theorem row_set_ne (W:World) (g g':Nat) (c:Array Value) (h:g≠g'):row (W.setRow g' c) g=row W g:=by
 unfold row;rw[setRow_block W g' g c h]
theorem ldRd (ev:Operand->Value) (w:World) (dst x t pos af gd) (h1:isHead (ev x)=true) (h2:(row w (headOf (ev x))).size=2) :
  (execOp ev ⟨dst,.load 206 x,t,pos,af,gd⟩).run Tryz.prog w=.ok (.value (.agg (row w (headOf (ev x))))) w :=
 exec_load_row ev w _ 1 _ Tryz.underlying206 rfl (by kernel_rfl) dst x t pos af gd h1 h2
theorem stRd (ev:Operand->Value) (w:World) (dst x y t' pos af gd) (h1:isHead (ev x)=true) (h2:Held w (headOf (ev x)) 2) (h3:isAggV (ev y)=true) (h4:(cellsOfV (ev y)).size=2) (h5:allOne (cellsOfV (ev y)).toList=true) :
  (execOp ev ⟨dst,.store 206 x y,t',pos,af,gd⟩).run Tryz.prog w=.ok .skip (w.setRow (headOf (ev x)) (cellsOfV (ev y))) :=
 exec_store_row ev w _ 1 (by kernel_rfl) dst x y t' pos af gd h1 h2 h3 h4 h5
attribute [local go_sem ↓] ldRd stRd
attribute [local go_sem] Held_drew isHead_mk headOf_mk cellsOfV_mk isAggV_mk row_new row_new2 row_new2' row_drew row_drewN allOne_nil allOne_cons one_int one_bool one_string
theorem ry_fail (e:Int) (w:World):Calls Tryz.prog 243 #[.int .i64 e] w fun r w'=>r=.returned (.agg #[.string ⟨#[]⟩,.int .i64 e])∧Below w.heap.size w w':=by
 go_enter Tryz.func243,Tryz.ntmps243
 go_wp2_with fail
 refine bodyPost_ret (res_row1 (n:=1) rfl Tryz.underlying206 rfl (by kernel_rfl) _ _ w.heap.size rfl (by rw[row_new];rfl)) rfl ?_
 rw[row_new]
 exact⟨rfl,by exact belA⟩
theorem ry_end (b:ByteArray) (x:Nat) (w:World):Calls Tryz.prog 162 #[.agg #[.string b,.int .i64 x]] w fun r w'=>r=.returned (.int .i64 (Rd.fin (Ds.bl b,x)))∧Below w.heap.size w w':=by
 have hf:Rd.fin (Ds.bl b,x)=if x=0∧0<b.size then 11 else x:=by
  unfold Rd.fin
  by_cases h:Ds.bl b=[]
  · have h0:b.size=0:=by rw[<-Ds.bl_length,h];rfl
    rw[if_neg (by simp [h]),if_neg (by omega)]
  · have h0:0<b.size:=by rw[<-Ds.bl_length];exact List.length_pos_iff.2 h
    by_cases hx:x=0
    · rw[if_pos ⟨hx,h⟩,if_pos ⟨hx,h0⟩]
    · rw[if_neg (by simp [hx]),if_neg (by simp [hx])]
 rw[hf]
 clear hf
 by_cases hx:x=0
 · subst hx
   by_cases h0:0<b.size
   · have e0:decide (0<b.size)=true:=by rw[decide_eq_true_eq];omega
     rw[if_pos ⟨rfl,h0⟩]
     clear h0
     go_enter Tryz.func162,Tryz.ntmps162
     go_wp2_with fail
     go_ret
     exact⟨rfl,by exact belA⟩
   · have e0:decide (0<b.size)=false:=by rw[decide_eq_false_iff_not];omega
     rw[if_neg (by omega:¬ (0=0∧0<b.size))]
     clear h0
     go_enter Tryz.func162,Tryz.ntmps162
     go_wp2_with fail
     go_ret
     exact⟨rfl,by exact belA⟩
 · have e0:((x:Int)==0)=false:=by rw[beq_eq_false_iff_ne];omega
   rw[if_neg (by omega)]
   clear hx
   go_enter Tryz.func162,Tryz.ntmps162
   go_wp2_with fail
   go_ret
   exact⟨rfl,by exact belA⟩
theorem ry_num_bad (b:ByteArray) (x:Nat) (w:World) (hx:x≠0):Calls Tryz.prog 283 #[.agg #[.string b,.int .i64 x]] w fun r w'=>r=.returned (.tuple #[.int .u64 0,.agg #[.string b,.int .i64 x]])∧Below w.heap.size w w':=by
 have e0:((x:Int)==0)=false:=by rw[beq_eq_false_iff_ne];omega
 clear hx
 have H1:Held ((w.alloc (.cells #[.string b,.int .i64 x] 206)).alloc (.cells #[.string ⟨#[]⟩,.int .i64 0] 206)) (w.heap.size+1) 2:=by
  have:=Held.new (w.alloc (.cells #[.string b,.int .i64 x] 206)) #[.string ⟨#[]⟩,.int .i64 0] 206 2 rfl (by decide)
  simpa using this
 go_enter Tryz.func283,Tryz.ntmps283
 go_wp2_with fail
 go_region
 all_goals
  go_wp2_with fail
  (refine bodyPost_ret (res_tmp_row (n:=1) rfl Tryz.underlying206 rfl (by kernel_rfl) _ _ (w.heap.size+1) rfl (by first | (rw[row_setRow H1];rfl) | (rw[row_setRow (H1).drew];rfl) | (rw[row_new2'];rfl) | (rw[row_drew,row_new2'];rfl))) rfl ?_;(first | rw[row_setRow H1] | rw[row_setRow (H1).drew] | rw[row_new2'] | rw[row_drew,row_new2']))
  exact⟨rfl,below_setRow (by exact belA) (by omega) _⟩
theorem wadd (a c k:Nat) (h:c % 128*2 ^ (7*k)+a<2 ^ 64) :
  IntKind.u64.wrap ((a:Int)+IntKind.u64.wrap ((c:Int) % 128*2 ^ (7*k)))=((a+c % 128*2 ^ (7*k):Nat):Int):=by
 have e:(2:Nat) ^ 64=18446744073709551616:=by decide
 rw[e] at h
 have h3:((c:Int) % 128)*2 ^ (7*k)=((c % 128*2 ^ (7*k):Nat):Int):=by push_cast;rfl
 have h4:IntKind.u64.wrap ((c % 128*2 ^ (7*k):Nat):Int)=((c % 128*2 ^ (7*k):Nat):Int):=IntWalk.u64_in _ ⟨by omega,by omega⟩
 rw[h3,h4,<-Int.natCast_add]
 exact IntWalk.u64_in _ ⟨by omega,by omega⟩
theorem ry_num_ok (b:ByteArray) (w:World) (hs:b.size<=10000):Calls Tryz.prog 283 #[.agg #[.string b,.int .i64 0]] w fun r w'=>∃ t:ByteArray,r=.returned (.tuple #[.int .u64 (Rd.num (Ds.bl b,0)).1,.agg #[.string t,.int .i64 (Rd.num (Ds.bl b,0)).2.2]])∧Ds.bl t=(Rd.num (Ds.bl b,0)).2.1∧Below w.heap.size w w':=by
 have HL:=Lib.hid (Ds.bl_length b)
 have hno:∀ r:Nat × Nat,Wi.dec 0 0 (Ds.bl b)=r->r.2=0->Rd.num (Ds.bl b,0)=(0,([],11)):=fun r h1 h2=>by
  rw[Rd.num_none _ rfl (by simp only;rw[h1];exact h2)]
  rw[dec_zero _ 0 0 (by simp only;rw[h1];exact h2)]
 have hyes:∀ (v k:Nat),Wi.dec 0 0 (Ds.bl b)=(v,k+1)->Rd.num (Ds.bl b,0)=(v,(Ds.bl b).drop (k+1),0):=fun v k h1=>by
  rw[Rd.num_some _ rfl (by simp only;rw[h1];simp)]
  simp only
  rw[h1]
 have H1:Held ((w.alloc (.cells #[.string b,.int .i64 0] 206)).alloc (.cells #[.string ⟨#[]⟩,.int .i64 0] 206)) (w.heap.size+1) 2:=by
  have:=Held.new (w.alloc (.cells #[.string b,.int .i64 0] 206)) #[.string ⟨#[]⟩,.int .i64 0] 206 2 rfl (by decide)
  simpa using this
 have HNO:=Lib.hid hno
 have HYES:=Lib.hid hyes
 clear hno hyes
 generalize Rd.num (Ds.bl b,0)=rr at HNO HYES ⊢
 go_enter Tryz.func283,Tryz.ntmps283
 go_wp2_with fail
 go_loopw [4,5,6] (fun n i _ wr=>∃ k a:Nat,k<=b.size∧k<=10∧i=.int .i64 k∧n=.int .u64 a∧(k<=9->a<2 ^ (7*k))∧Wi.dec 0 0 (Ds.bl b)=Wi.dec k a ((Ds.bl b).drop k)∧wr=((w.alloc (.cells #[.string b,.int .i64 0] 206)).alloc (.cells #[.string ⟨#[]⟩,.int .i64 0] 206))) (fun _ i _ _=>10 - (intOf i).toNat)
 case atStart=>exact⟨0,0,by omega,by omega,rfl,rfl,by intro _;decide,rfl,rfl⟩
 case round =>
  obtain⟨k,a,hk,hk10,rfl,rfl,ha,hd,rfl⟩:=hrel
  have HA:=Lib.hid ha
  have HD:=Lib.hid hd
  clear ha hd
  by_cases h10:k<10
  · by_cases hlt:k<b.size
    · have hdr:(Ds.bl b).drop k=b[k]::(Ds.bl b).drop (k+1):=by
       rw[List.drop_eq_getElem_cons (by rw[HL.out];exact hlt),Ds.bl_get b k hlt]
      have hr:=HD.out.trans (by rw[hdr])
      rw[Wi.dec,if_neg (by omega)] at hr
      have hb:=b[k].toNat_lt
      have ha:=HA.out (by omega)
      clear hdr
      by_cases h91:k=9∧1<b[k].toNat
      · obtain⟨rfl,h1⟩:=h91
        rw[if_pos ⟨rfl,h1⟩] at hr
        obtain rfl:=HNO.out _ hr rfl
        have e1:decide ((1:Int)<(b[9].toNat:Int))=true:=by simp;omega
        have l9:(9:Int)<(b.size:Int):=by omega
        clear hr ha h1
        go_wp2_with (go_at_call 243;(with_reducible refine (ry_fail _ _).mono ?_);rintro _ w2 ⟨rfl,hb2⟩;have H2:=H1.below hb2;have B2:=below2 hb2;clear hb2)
        (refine bodyPost_ret (res_tmp_row (n:=1) rfl Tryz.underlying206 rfl (by kernel_rfl) _ _ (w.heap.size+1) rfl (by first | (rw[row_setRow H2];rfl) | (rw[row_setRow (H2).drew];rfl) | (rw[row_new2'];rfl) | (rw[row_drew,row_new2'];rfl))) rfl ?_;(first | rw[row_setRow H2] | rw[row_setRow (H2).drew] | rw[row_new2'] | rw[row_drew,row_new2']))
        exact⟨⟨#[]⟩,rfl,rfl,below_setRow B2 (by omega) _⟩
      rw[if_neg h91] at hr
      have f2:b[k].toNat % 128*2 ^ (7*k)+a<2 ^ 64:=by
       rcases (by omega:k<=8∨k=9) with hk8 | rfl
       · exact (fit8 a b[k].toNat k hk8 ha).2
       · exact fit9 a b[9].toNat (by omega) ha
      have hw:=wadd a b[k].toNat k f2
      have e9:((k:Int)==9&&decide ((1:Int)<(b[k].toNat:Int)))=false:=by
       rw[Bool.and_eq_false_iff,beq_eq_false_iff_ne,decide_eq_false_iff_not];omega
      have e8:((k:Int)==9)=true->decide ((1:Int)<(b[k].toNat:Int))=false:=fun h=>by rw[h,Bool.true_and] at e9;exact e9
      have H9:Hid (k<=8->b[k].toNat % 128*2 ^ (7*k)+a<2 ^ (7*(k+1))):=Lib.hid (fun hk8=>(fit8 a b[k].toNat k hk8 ha).1)
      have H91:=Lib.hid h91
      clear f2 ha h91
      by_cases h128:b[k].toNat<128
      · rw[if_pos h128] at hr
        have e2:decide ((b[k].toNat:Int)<128)=true:=by rw[decide_eq_true_eq];omega
        by_cases h0:b[k].toNat=0∧0<k
        · rw[if_pos h0] at hr
          obtain rfl:=HNO.out _ hr rfl
          have e0:((b[k].toNat:Int)==0)=true:=by simp [h0.1]
          have k0:=h0.2
          have HW:=Lib.hid hw
          clear hr h0 h128 hw
          cases q9:((k:Int)==9)
          all_goals
           try rw[q9] at e8
           try have e8':=e8 rfl
           clear e8 e9
           go_wp2_with (go_at_call 243;(with_reducible refine (ry_fail _ _).mono ?_);rintro _ w2 ⟨rfl,hb2⟩;have H2:=H1.below hb2;have B2:=below2 hb2;clear hb2)
           (refine bodyPost_ret (res_tmp_row (n:=1) rfl Tryz.underlying206 rfl (by kernel_rfl) _ _ (w.heap.size+1) rfl (by first | (rw[row_setRow H2];rfl) | (rw[row_setRow (H2).drew];rfl) | (rw[row_new2'];rfl) | (rw[row_drew,row_new2'];rfl))) rfl ?_;(first | rw[row_setRow H2] | rw[row_setRow (H2).drew] | rw[row_new2'] | rw[row_drew,row_new2']))
           exact⟨⟨#[]⟩,rfl,rfl,below_setRow B2 (by omega) _⟩
        · rw[if_neg h0] at hr
          obtain rfl:=HYES.out _ _ hr
          have HB:=Lib.hid (bl_drop b (k+1))
          have HV:=Lib.hid hw
          have v0:Hid (k=0->((a:Int)+(b[k].toNat:Int) % 128)=((a+b[k].toNat % 128*2 ^ (7*k):Nat):Int)):=Lib.hid (fun h=>by subst h;simp)
          have l1:(k:Int)+1<=(b.size:Int):=by omega
          rcases (by omega:b[k].toNat≠0∨k=0) with hz | hz
          · have e0:((b[k].toNat:Int)==0)=false:=by simpa using hz
            clear h0 hz hr h128
            cases q9:((k:Int)==9)
            all_goals
             try rw[q9] at e8
             try have e8':=e8 rfl
             clear e8 e9
             go_wp2_with fail
             go_region
             all_goals
              go_wp2_with fail
              (refine bodyPost_ret (res_tmp_row (n:=1) rfl Tryz.underlying206 rfl (by kernel_rfl) _ _ (w.heap.size+1) rfl (by first | (rw[row_setRow H1];rfl) | (rw[row_setRow (H1).drew];rfl) | (rw[row_new2'];rfl) | (rw[row_drew,row_new2'];rfl))) rfl ?_;(first | rw[row_setRow H1] | rw[row_setRow (H1).drew] | rw[row_new2'] | rw[row_drew,row_new2']))
              exact⟨_,rfl,HB.out,by (first | exact below_setRow (by exact belA) (by omega) _ | (exact belA))⟩
          · subst hz
            have HV0:Hid (IntKind.u64.wrap ((a:Int)+(b[0].toNat:Int) % 128)=(a:Int)+(b[0].toNat:Int) % 128):=Lib.hid (by
             have:=HA.out (by decide)
             simp only[Nat.mul_zero,Nat.pow_zero] at this
             rw[IntKind.wrap_u64];omega)
            cases hz0:((b[0].toNat:Int)==0)
            all_goals
             clear h0 hr h128 e8 e9
             go_wp2_with fail
             go_region
             all_goals
              go_wp2_with fail
              (refine bodyPost_ret (res_tmp_row (n:=1) rfl Tryz.underlying206 rfl (by kernel_rfl) _ _ (w.heap.size+1) rfl (by first | (rw[row_setRow H1];rfl) | (rw[row_setRow (H1).drew];rfl) | (rw[row_new2'];rfl) | (rw[row_drew,row_new2'];rfl))) rfl ?_;(first | rw[row_setRow H1] | rw[row_setRow (H1).drew] | rw[row_new2'] | rw[row_drew,row_new2']))
              exact⟨b.extract 1 b.size,congrArg (fun z=>Ending.returned (.tuple #[.int .u64 z,.agg #[.string (b.extract 1 b.size),.int .i64 0]])) HV0.out,by rw[bl_drop];exact List.drop_one,below_setRow (by exact belA) (by omega) _⟩
      · rw[if_neg h128] at hr
        have e2:decide ((b[k].toNat:Int)<128)=false:=by rw[decide_eq_false_iff_not];omega
        have HR:=Lib.hid hr
        have hk8:k<=8:=by
         rcases (by omega:k<=8∨k=9) with h | h
         · exact h
         · exact absurd ⟨h,by omega⟩ H91.out
        have F1:=Lib.hid (H9.out hk8)
        rw[Nat.add_comm] at F1
        cases q9:((k:Int)==9)
        all_goals
         try rw[q9] at e8
         try have e8':=e8 rfl
         clear e8 e9 hr h128
         go_wp2_with fail
         go_roundw
         case rel=>exact⟨k+1,_,by omega,by omega,by go_num,rfl,fun _=>F1.out,HR.out,trivial⟩
         case measure=>simp [intOf];omega
    · have hr:=HD.out.trans (show Wi.dec k a ((Ds.bl b).drop k)=(0,0) by rw[List.drop_of_length_le (by rw[HL.out];omega)];rfl)
      obtain rfl:=HNO.out _ hr rfl
      obtain rfl:k=b.size:=by omega
      clear hr
      go_wp2_with (go_at_call 243;(with_reducible refine (ry_fail _ _).mono ?_);rintro _ w2 ⟨rfl,hb2⟩;have H2:=H1.below hb2;have B2:=below2 hb2;clear hb2)
      (refine bodyPost_ret (res_tmp_row (n:=1) rfl Tryz.underlying206 rfl (by kernel_rfl) _ _ (w.heap.size+1) rfl (by first | (rw[row_setRow H2];rfl) | (rw[row_setRow (H2).drew];rfl) | (rw[row_new2'];rfl) | (rw[row_drew,row_new2'];rfl))) rfl ?_;(first | rw[row_setRow H2] | rw[row_setRow (H2).drew] | rw[row_new2'] | rw[row_drew,row_new2']))
      exact⟨⟨#[]⟩,rfl,rfl,below_setRow B2 (by omega) _⟩
  · obtain rfl:k=10:=by omega
    have hr:=HD.out.trans (show Wi.dec 10 a ((Ds.bl b).drop 10)=(0,0) by cases (Ds.bl b).drop 10 <;> rfl)
    obtain rfl:=HNO.out _ hr rfl
    clear hr
    go_wp2_with (go_at_call 243;(with_reducible refine (ry_fail _ _).mono ?_);rintro _ w2 ⟨rfl,hb2⟩;have H2:=H1.below hb2;have B2:=below2 hb2;clear hb2)
    all_goals
     (refine bodyPost_ret (res_tmp_row (n:=1) rfl Tryz.underlying206 rfl (by kernel_rfl) _ _ (w.heap.size+1) rfl (by first | (rw[row_setRow H2];rfl) | (rw[row_setRow (H2).drew];rfl) | (rw[row_new2'];rfl) | (rw[row_drew,row_new2'];rfl))) rfl ?_;(first | rw[row_setRow H2] | rw[row_setRow (H2).drew] | rw[row_new2'] | rw[row_drew,row_new2']))
     exact⟨⟨#[]⟩,rfl,rfl,below_setRow B2 (by omega) _⟩
theorem ry_number (b:ByteArray) (x:Nat) (w:World) (hs:b.size<=10000):Calls Tryz.prog 283 #[.agg #[.string b,.int .i64 x]] w fun r w'=>∃ t:ByteArray,r=.returned (.tuple #[.int .u64 (Rd.num (Ds.bl b,x)).1,.agg #[.string t,.int .i64 (Rd.num (Ds.bl b,x)).2.2]])∧Ds.bl t=(Rd.num (Ds.bl b,x)).2.1∧Below w.heap.size w w':=by
 by_cases hx:x=0
 · subst hx;exact ry_num_ok b w hs
 · rw[Rd.num_bad _ hx]
   refine (ry_num_bad b x w hx).mono ?_
   rintro r w' ⟨rfl,hb⟩
   exact⟨b,rfl,rfl,hb⟩
theorem ry_bool (b:ByteArray) (x:Nat) (w:World) (hs:b.size<=10000):Calls Tryz.prog 285 #[.agg #[.string b,.int .i64 x]] w fun r w'=>∃ t:ByteArray,r=.returned (.tuple #[.bool (Rd.boo (Ds.bl b,x)).1,.agg #[.string t,.int .i64 (Rd.boo (Ds.bl b,x)).2.2]])∧Ds.bl t=(Rd.boo (Ds.bl b,x)).2.1∧Below w.heap.size w w':=by
 have H1:Held ((w.alloc (.cells #[.string b,.int .i64 x] 206)).alloc (.cells #[.string ⟨#[]⟩,.int .i64 0] 206)) (w.heap.size+1) 2:=by
  have:=Held.new (w.alloc (.cells #[.string b,.int .i64 x] 206)) #[.string ⟨#[]⟩,.int .i64 0] 206 2 rfl (by decide)
  simpa using this
 by_cases hx:x=0
 · subst hx
   by_cases h0:0<b.size
   · have hc:Ds.bl b=b[0]::(Ds.bl b).drop 1:=by
      have:=List.drop_eq_getElem_cons (i:=0) (l:=Ds.bl b) (by rw[Ds.bl_length];exact h0)
      rw[List.drop_zero,<-Ds.bl_get b 0 h0] at this
      exact this
     have HB:=Lib.hid (show Ds.bl (b.extract 1 b.size)=(Ds.bl b).drop 1 from bl_drop b 1)
     by_cases h1:1<b[0].toNat
     · have hr:Rd.boo (Ds.bl b,0)=(false,([],11)):=by unfold Rd.boo;rw[if_pos rfl];simp only;rw[hc];simp only;rw[if_pos h1]
       rw[hr]
       have e1:decide ((1:Int)<(b[0].toNat:Int))=true:=by rw[decide_eq_true_eq];omega
       have e0:((b.size:Int)==0)=false:=by rw[beq_eq_false_iff_ne];omega
       clear hr hc h1
       go_enter Tryz.func285,Tryz.ntmps285
       go_wp2_with (go_at_call 243;(with_reducible refine (ry_fail _ _).mono ?_);rintro _ w2 ⟨rfl,hb2⟩;have H2:=H1.below hb2;have B2:=below2 hb2;clear hb2)
       (refine bodyPost_ret (res_tmp_row (n:=1) rfl Tryz.underlying206 rfl (by kernel_rfl) _ _ (w.heap.size+1) rfl (by first | (rw[row_setRow H2];rfl) | (rw[row_setRow (H2).drew];rfl) | (rw[row_new2'];rfl) | (rw[row_drew,row_new2'];rfl))) rfl ?_;(first | rw[row_setRow H2] | rw[row_setRow (H2).drew] | rw[row_new2'] | rw[row_drew,row_new2']))
       exact⟨⟨#[]⟩,rfl,rfl,below_setRow B2 (by omega) _⟩
     · have hr:Rd.boo (Ds.bl b,0)=(decide (b[0].toNat=1),((Ds.bl b).drop 1,0)):=by unfold Rd.boo;rw[if_pos rfl];simp only;rw[hc];simp only;rw[if_neg h1];rfl
       rw[hr]
       have e1:decide ((1:Int)<(b[0].toNat:Int))=false:=by rw[decide_eq_false_iff_not];omega
       have e0:((b.size:Int)==0)=false:=by rw[beq_eq_false_iff_ne];omega
       have e2:((b[0].toNat:Int)==1)=decide (b[0].toNat=1):=by rw[Bool.eq_iff_iff,beq_iff_eq,decide_eq_true_eq];omega
       have l1:(1:Int)<=(b.size:Int):=by omega
       clear hr hc h1
       generalize decide (b[0].toNat=1)=y at e2 ⊢
       go_enter Tryz.func285,Tryz.ntmps285
       go_wp2_with fail
       go_region
       all_goals
        go_wp2_with fail
        (refine bodyPost_ret (res_tmp_row (n:=1) rfl Tryz.underlying206 rfl (by kernel_rfl) _ _ (w.heap.size+1) rfl (by first | (rw[row_setRow H1];rfl) | (rw[row_setRow (H1).drew];rfl) | (rw[row_new2'];rfl) | (rw[row_drew,row_new2'];rfl))) rfl ?_;(first | rw[row_setRow H1] | rw[row_setRow (H1).drew] | rw[row_new2'] | rw[row_drew,row_new2']))
        exact⟨_,rfl,HB.out,by (first | exact below_setRow (by exact belA) (by omega) _ | (exact belA))⟩
   · have hr:Rd.boo (Ds.bl b,0)=(false,([],11)):=by
      have:Ds.bl b=[]:=List.eq_nil_of_length_eq_zero (by rw[Ds.bl_length];omega)
      rw[this];rfl
     rw[hr]
     have e0:((b.size:Int)==0)=true:=by rw[beq_iff_eq];omega
     clear hr h0
     go_enter Tryz.func285,Tryz.ntmps285
     go_wp2_with (go_at_call 243;(with_reducible refine (ry_fail _ _).mono ?_);rintro _ w2 ⟨rfl,hb2⟩;have H2:=H1.below hb2;have B2:=below2 hb2;clear hb2)
     (refine bodyPost_ret (res_tmp_row (n:=1) rfl Tryz.underlying206 rfl (by kernel_rfl) _ _ (w.heap.size+1) rfl (by first | (rw[row_setRow H2];rfl) | (rw[row_setRow (H2).drew];rfl) | (rw[row_new2'];rfl) | (rw[row_drew,row_new2'];rfl))) rfl ?_;(first | rw[row_setRow H2] | rw[row_setRow (H2).drew] | rw[row_new2'] | rw[row_drew,row_new2']))
     exact⟨⟨#[]⟩,rfl,rfl,below_setRow B2 (by omega) _⟩
 · have hr:Rd.boo (Ds.bl b,x)=(false,(Ds.bl b,x)):=by unfold Rd.boo;rw[if_neg hx]
   rw[hr]
   have e0:((x:Int)==0)=false:=by rw[beq_eq_false_iff_ne];omega
   clear hx hr
   go_enter Tryz.func285,Tryz.ntmps285
   go_wp2_with fail
   go_region
   all_goals
    go_wp2_with fail
    (refine bodyPost_ret (res_tmp_row (n:=1) rfl Tryz.underlying206 rfl (by kernel_rfl) _ _ (w.heap.size+1) rfl (by first | (rw[row_setRow H1];rfl) | (rw[row_setRow (H1).drew];rfl) | (rw[row_new2'];rfl) | (rw[row_drew,row_new2'];rfl))) rfl ?_;(first | rw[row_setRow H1] | rw[row_setRow (H1).drew] | rw[row_new2'] | rw[row_drew,row_new2']))
    exact⟨b,rfl,rfl,below_setRow (by exact belA) (by omega) _⟩
theorem ry_count (b:ByteArray) (x m:Nat) (w:World) (hs:b.size<=10000) (hm:m<=1000):Calls Tryz.prog 242 #[.agg #[.string b,.int .i64 x],.int .i64 m] w fun r w'=>∃ t:ByteArray,r=.returned (.tuple #[.int .i64 (Rd.cnt m (Ds.bl b,x)).1,.agg #[.string t,.int .i64 (Rd.cnt m (Ds.bl b,x)).2.2]])∧Ds.bl t=(Rd.cnt m (Ds.bl b,x)).2.1∧Below w.heap.size w w':=by
 have H1:Held ((w.alloc (.cells #[.string b,.int .i64 x] 206)).alloc (.cells #[.string ⟨#[]⟩,.int .i64 0] 206)) (w.heap.size+1) 2:=by
  have:=Held.new (w.alloc (.cells #[.string b,.int .i64 x] 206)) #[.string ⟨#[]⟩,.int .i64 0] 206 2 rfl (by decide)
  simpa using this
 have hn:=fun W=>ry_number b x W hs
 have hc:Rd.cnt m (Ds.bl b,x)=(if (Rd.num (Ds.bl b,x)).2.2=0 then (if m<(Rd.num (Ds.bl b,x)).1 then (0,([],8)) else Rd.num (Ds.bl b,x)) else (0,(Rd.num (Ds.bl b,x)).2)):=rfl
 have h0:=num_zero (Ds.bl b,x)
 have hl:=Rd.num_lt (Ds.bl b,x)
 rw[hc]
 clear hc
 generalize Rd.num (Ds.bl b,x)=rr at hn h0 hl ⊢
 obtain⟨v,l,e⟩:=rr
 simp only at hn h0 hl ⊢
 have HN:=Lib.hid hn
 clear hn
 have hcm:IntKind.u64.wrap (m:Int)=(m:Int):=IntWalk.u64_in _ ⟨by omega,by omega⟩
 by_cases he:e=0
 · subst he
   rw[if_pos rfl]
   by_cases hv:m<v
   · rw[if_pos hv]
     have e1:decide ((m:Int)<(v:Int))=true:=by rw[decide_eq_true_eq];omega
     clear h0 hl
     go_enter Tryz.func242,Tryz.ntmps242
     go_wp2_with (first
      | (go_at_call 283;(with_reducible refine (HN.out _).mono ?_);rintro _ w1 ⟨t,rfl,ht,hb1⟩;have H2:=H1.below hb1;have B1:=below2 hb1;have HT:=Lib.hid ht;have H3:=H2.below ((Below.refl _ _).alloc (Nat.le_refl _) (.cells #[.string t,.int .i64 0] 206));clear hb1 ht)
      | (go_at_call 243;(with_reducible refine (ry_fail _ _).mono ?_);rintro _ w2 ⟨rfl,hb2⟩;have H4:=H3.below hb2;have B4:=bt (B1.alloc B1.size _) hb2;clear hb2))
     refine bodyPost_ret (res_tmp_row (n:=1) rfl Tryz.underlying206 rfl (by kernel_rfl) _ _ (w.heap.size+1) rfl (by rw[row_setRow H4];rfl)) rfl ?_
     rw[row_setRow H4]
     exact⟨⟨#[]⟩,rfl,rfl,below_setRow B4 (by omega) _⟩
   · rw[if_neg hv]
     have e1:decide ((m:Int)<(v:Int))=false:=by rw[decide_eq_false_iff_not];omega
     have hcv:IntKind.i64.wrap (v:Int)=(v:Int):=IntWalk.i64_in _ ⟨by omega,by omega⟩
     clear h0 hl
     go_enter Tryz.func242,Tryz.ntmps242
     go_wp2_with (first
      | (go_at_call 283;(with_reducible refine (HN.out _).mono ?_);rintro _ w1 ⟨t,rfl,ht,hb1⟩;have H2:=H1.below hb1;have B1:=below2 hb1;have HT:=Lib.hid ht;have H3:=H2.below ((Below.refl _ _).alloc (Nat.le_refl _) (.cells #[.string t,.int .i64 0] 206));clear hb1 ht)
      | (go_at_call 243;(with_reducible refine (ry_fail _ _).mono ?_);rintro _ w2 ⟨rfl,hb2⟩;have H4:=H3.below hb2;have B4:=bt (B1.alloc B1.size _) hb2;clear hb2))
     go_region
     all_goals
      go_wp2_with fail
      refine bodyPost_ret (res_tmp_row (n:=1) rfl Tryz.underlying206 rfl (by kernel_rfl) _ _ (w.heap.size+1) rfl (by first | (rw[row_setRow H3.drew];rfl) | (rw[row_setRow H3];rfl))) rfl ?_
      (first | rw[row_setRow H3.drew] | rw[row_setRow H3])
      exact⟨t,rfl,HT.out,below_setRow (by first | exact B1.alloc B1.size _ | exact Below.drew (B1.alloc B1.size _)) (by omega) _⟩
 · rw[if_neg he]
   obtain rfl:v=0:=h0 he
   have e0:((e:Int)==0)=false:=by rw[beq_eq_false_iff_ne];omega
   have hcv:IntKind.i64.wrap (0:Int)=0:=rfl
   clear h0 hl he
   go_enter Tryz.func242,Tryz.ntmps242
   go_wp2_with (first
     | (go_at_call 283;(with_reducible refine (HN.out _).mono ?_);rintro _ w1 ⟨t,rfl,ht,hb1⟩;have H2:=H1.below hb1;have B1:=below2 hb1;have HT:=Lib.hid ht;have H3:=H2.below ((Below.refl _ _).alloc (Nat.le_refl _) (.cells #[.string t,.int .i64 e] 206));clear hb1 ht)
     | (go_at_call 243;(with_reducible refine (ry_fail _ _).mono ?_);rintro _ w2 ⟨rfl,hb2⟩;have H4:=H3.below hb2;have B4:=bt (B1.alloc B1.size _) hb2;clear hb2))
   go_region
   all_goals
    go_wp2_with fail
    refine bodyPost_ret (res_tmp_row (n:=1) rfl Tryz.underlying206 rfl (by kernel_rfl) _ _ (w.heap.size+1) rfl (by first | (rw[row_setRow H3.drew];rfl) | (rw[row_setRow H3];rfl))) rfl ?_
    (first | rw[row_setRow H3.drew] | rw[row_setRow H3])
    exact⟨t,rfl,HT.out,below_setRow (by first | exact B1.alloc B1.size _ | exact Below.drew (B1.alloc B1.size _)) (by omega) _⟩
theorem ry_text (b:ByteArray) (x m:Nat) (w:World) (hs:b.size<=10000) (hm:m<=1000):Calls Tryz.prog 159 #[.agg #[.string b,.int .i64 x],.int .i64 m] w fun r w'=>∃ u t:ByteArray,r=.returned (.tuple #[.string u,.agg #[.string t,.int .i64 (Rd.txt m (Ds.bl b,x)).2.2]])∧Ds.bl u=(Rd.txt m (Ds.bl b,x)).1∧Ds.bl t=(Rd.txt m (Ds.bl b,x)).2.1∧Below w.heap.size w w':=by
 have H1:Held ((w.alloc (.cells #[.string b,.int .i64 x] 206)).alloc (.cells #[.string ⟨#[]⟩,.int .i64 0] 206)) (w.heap.size+1) 2:=by
  have:=Held.new (w.alloc (.cells #[.string b,.int .i64 x] 206)) #[.string ⟨#[]⟩,.int .i64 0] 206 2 rfl (by decide)
  simpa using this
 have hn:=fun W=>ry_count b x m W hs hm
 have hc:Rd.txt m (Ds.bl b,x)=(if (Rd.cnt m (Ds.bl b,x)).2.2=0 then (if (Rd.cnt m (Ds.bl b,x)).2.1.length<(Rd.cnt m (Ds.bl b,x)).1 then ([],([],11)) else ((Rd.cnt m (Ds.bl b,x)).2.1.take (Rd.cnt m (Ds.bl b,x)).1,((Rd.cnt m (Ds.bl b,x)).2.1.drop (Rd.cnt m (Ds.bl b,x)).1,0))) else ([],(Rd.cnt m (Ds.bl b,x)).2)):=rfl
 have hle:=Rd.cnt_le m (Ds.bl b,x)
 have hln:=Rd.cnt_len m (Ds.bl b,x)
 simp only[Ds.bl_length] at hln
 rw[hc]
 clear hc
 generalize Rd.cnt m (Ds.bl b,x)=rr at hn hle hln ⊢
 obtain⟨v,l,e⟩:=rr
 simp only at hn hle hln ⊢
 have HN:=Lib.hid hn
 clear hn
 by_cases he:e=0
 · subst he
   rw[if_pos rfl]
   by_cases hv:l.length<v
   · rw[if_pos hv]
     have HV:=Lib.hid hv
     clear hv
     go_enter Tryz.func159,Tryz.ntmps159
     go_wp2_with (first
      | (go_at_call 242;(with_reducible refine (HN.out _).mono ?_);rintro _ w1 ⟨t,rfl,ht,hb1⟩;have H2:=H1.below hb1;have B1:=below2 hb1;have hts:t.size<v:=(by rw[<-Ds.bl_length,ht];exact HV.out);have H3:=H2.below ((Below.refl _ _).alloc (Nat.le_refl _) (.cells #[.string t,.int .i64 0] 206));clear hb1 ht)
      | (go_at_call 243;(with_reducible refine (ry_fail _ _).mono ?_);rintro _ w2 ⟨rfl,hb2⟩;have H4:=H3.below hb2;have B4:=bt (B1.alloc B1.size _) hb2;clear hb2))
     refine bodyPost_ret (res_tmp_row (n:=1) rfl Tryz.underlying206 rfl (by kernel_rfl) _ _ (w.heap.size+1) rfl (by rw[row_setRow H4];rfl)) rfl ?_
     rw[row_setRow H4]
     exact⟨⟨#[]⟩,⟨#[]⟩,rfl,rfl,rfl,below_setRow B4 (by omega) _⟩
   · rw[if_neg hv]
     have HV:=Lib.hid hv
     clear hv
     go_enter Tryz.func159,Tryz.ntmps159
     go_wp2_with (first
      | (go_at_call 242;(with_reducible refine (HN.out _).mono ?_);rintro _ w1 ⟨t,rfl,ht,hb1⟩;have H2:=H1.below hb1;have B1:=below2 hb1;have hts:v<=t.size:=(by have:=HV.out;rw[<-Ds.bl_length,ht];omega);have htb:t.size<=10000:=(by rw[<-Ds.bl_length,ht];omega);have HT:=Lib.hid ht;have H3:=H2.below ((Below.refl _ _).alloc (Nat.le_refl _) (.cells #[.string t,.int .i64 0] 206));clear hb1 ht))
     go_region
     all_goals
      go_wp2_with fail
      refine bodyPost_ret (res_tmp_row (n:=1) rfl Tryz.underlying206 rfl (by kernel_rfl) _ _ (w.heap.size+1) rfl (by first | (rw[row_setRow H3.drew];rfl) | (rw[row_setRow H3];rfl))) rfl ?_
      (first | rw[row_setRow H3.drew] | rw[row_setRow H3])
      exact⟨_,_,rfl,by rw[<-HT.out];exact bl_take _ _,by rw[<-HT.out];exact bl_drop _ _,below_setRow (by first | exact B1.alloc B1.size _ | exact Below.drew (B1.alloc B1.size _)) (by omega) _⟩
 · rw[if_neg he]
   have e0:((e:Int)==0)=false:=by rw[beq_eq_false_iff_ne];omega
   clear he
   go_enter Tryz.func159,Tryz.ntmps159
   go_wp2_with (first
     | (go_at_call 242;(with_reducible refine (HN.out _).mono ?_);rintro _ w1 ⟨t,rfl,ht,hb1⟩;have H2:=H1.below hb1;have B1:=below2 hb1;have HT:=Lib.hid ht;have H3:=H2.below ((Below.refl _ _).alloc (Nat.le_refl _) (.cells #[.string t,.int .i64 e] 206));clear hb1 ht))
   go_region
   all_goals
    go_wp2_with fail
    refine bodyPost_ret (res_tmp_row (n:=1) rfl Tryz.underlying206 rfl (by kernel_rfl) _ _ (w.heap.size+1) rfl (by first | (rw[row_setRow H3.drew];rfl) | (rw[row_setRow H3];rfl))) rfl ?_
    (first | rw[row_setRow H3.drew] | rw[row_setRow H3])
    exact⟨⟨#[]⟩,t,rfl,rfl,HT.out,below_setRow (by first | exact B1.alloc B1.size _ | exact Below.drew (B1.alloc B1.size _)) (by omega) _⟩
end
end Go.Proofs.YtnojclchnhmggaaGreatDoor
