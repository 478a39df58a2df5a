/- Catalogs. -/
import Derived.Test.YtefcmdmfgdcpmaaGreatDoorVaG
set_option maxRecDepth 8000
set_option maxHeartbeats 1600000
section
namespace Go.Proofs.YtefcmdmfgdcpmaaGreatDoor.Ek
open Ds
def letter(k:Int):UInt8:=if k=0 then 68 else if k=1 then 71 else if k=2 then 65 else if k=3 then 67 else if k=4 then 80 else 0
def isKind(k:Int):Bool:=decide (0<=k)&&decide (k<=4)
def pad(n:List UInt8):List UInt8:=n++List.replicate (31 - n.length) 32
def key(k:Int)(n:List UInt8):List UInt8:=if isKind k=true∧n.length<=31 then letter k::pad n else []
def tlen(l:List UInt8):Nat->Nat
 | 0=>0
 | n+1=>if l[n]?=some 32 then tlen l n else n+1
def trim(l:List UInt8):List UInt8:=l.take (tlen l l.length)
theorem tlen_yes(l:List UInt8)(n:Nat)(h:l[n]?=some 32):tlen l (n+1)=tlen l n:=by rw[tlen,if_pos h]
theorem tlen_no(l:List UInt8)(n:Nat)(h:l[n]?≠some 32):tlen l (n+1)=n+1:=by rw[tlen,if_neg h]
theorem zpn(n:List UInt8)(m:Nat):tlen (n++List.replicate m 32) (n.length+m)=tlen n n.length:=by
 have h0:∀ j,j<=n.length->tlen (n++List.replicate m 32) j=tlen n j:=by
  intro j
  induction j with
  | zero=>intro _;rfl
  | succ j ih =>
    intro hj;rw[tlen,tlen,List.getElem?_append_left (by omega),ih (by omega)]
 have h1:∀ j,j<=m->tlen (n++List.replicate m 32) (n.length+j)=tlen n n.length:=by
  intro j
  induction j with
  | zero=>intro _;exact h0 _ (Nat.le_refl _)
  | succ j ih =>
    intro hj;rw[<-Nat.add_assoc,tlen_yes _ _ (by rw[List.getElem?_append_right (by omega),List.getElem?_replicate,if_pos (by omega)]),ih (by omega)]
 exact h1 m (Nat.le_refl _)
theorem zk1(n:List UInt8)(h:32 ∉ n):tlen n n.length=n.length:=by
 rcases n.eq_nil_or_concat with rfl|⟨a,b,rfl⟩
 · rfl
 · rw[List.concat_eq_append] at h ⊢;rw[List.length_append,List.length_singleton];refine tlen_no _ _ ?_
   rw[List.getElem?_append_right (Nat.le_refl _)];intro e;simp at e
   subst e;exact h (by simp)
theorem trim_pad(n:List UInt8)(h:32 ∉ n):trim (pad n)=n:=by
 unfold trim pad;rw[List.length_append,List.length_replicate,zpn,zk1 n h,List.take_left]
theorem pad_len(n:List UInt8)(h31:n.length<=31):(pad n).length=31:=by
 unfold pad;rw[List.length_append,List.length_replicate];omega
theorem zeB:∀ (s:List UInt8) (c:UInt8),c∈s->c=46∨∃ q∈pieces s,c∈q
 | [],c,h=>by simp at h
 | d::r,c,h=>by
   by_cases e:d=46
   · rcases List.mem_cons.1 h with rfl|h
     · exact Or.inl e
     · rcases zeB r c h with h|⟨q,hq,hc⟩
       · exact Or.inl h
       · refine Or.inr ⟨q,?_,hc⟩
         rw[pieces,if_pos e];exact List.mem_cons_of_mem _ hq
   · rw[pieces,if_neg e];rcases List.mem_cons.1 h with rfl|h
     · refine Or.inr ?_
       cases pieces r with
       | nil=>exact⟨[c],by simp,by simp⟩
       | cons p ps=>exact⟨c::p,by simp,by simp⟩
     · rcases zeB r c h with h|⟨q,hq,hc⟩
       · exact Or.inl h
       · refine Or.inr ?_
         cases hp:pieces r with
         | nil=>rw[hp] at hq;simp at hq
         | cons p ps =>
           rw[hp] at hq;rcases List.mem_cons.1 hq with rfl|hq
           · exact⟨d::q,by simp,by simp [hc]⟩
           · exact⟨q,by simp [hq],hc⟩
theorem zm3(c:UInt8)(h:pls c=true):c≠32:=by
 rintro rfl;revert h;decide
theorem pat_no32(s:List UInt8)(h:pat s=true):32 ∉ s:=by
 intro hm;rcases zeB s 32 hm with h1|⟨q,hq,hc⟩
 · exact absurd h1 (by decide)
 · exact zm3 _ (zoV q ((pat_parts s).1 h |>.2 q hq) _ hc) rfl
theorem name_no32(s:List UInt8)(h:name s=true):32 ∉ s:=pat_no32 s (name_pat s h)
theorem key_yes(k:Int)(n:List UInt8)(hk:0<=k∧k<=4)(h:n.length<=31):key k n=letter k::pad n:=by
 unfold key isKind;rw[if_pos (by simp;omega)]
theorem key_len(k:Int)(n:List UInt8)(hk:0<=k∧k<=4)(h:n.length<=31):(key k n).length=32:=by
 rw[key_yes k n hk h,List.length_cons,pad_len n h]
theorem letter_inj(k j:Int)(hk:0<=k∧k<=4)(hj:0<=j∧j<=4)(h:letter k=letter j):k=j:=by
 rcases (by omega:k=0∨k=1∨k=2∨k=3∨k=4) with rfl|rfl|rfl|rfl|rfl <;>
 rcases (by omega:j=0∨j=1∨j=2∨j=3∨j=4) with rfl|rfl|rfl|rfl|rfl <;> first|rfl|(revert h;decide)
end Go.Proofs.YtefcmdmfgdcpmaaGreatDoor.Ek
end
namespace Go.Proofs.YtefcmdmfgdcpmaaGreatDoor
theorem zig(ns:List Nat)(r:List UInt8)(h:∀ n∈ns,n<2 ^ 64):∀ k,k<=ns.length->sq (encs ns++r,0) k=(encs (ns.drop k)++r,0)
 | 0,_=>rfl
 | k+1,hk=>by
   rw[sq,zig ns r h k (by omega),List.drop_eq_getElem_cons (by omega:k<ns.length),encs,List.append_assoc,Rd.num_enc _ _ (h _ (List.getElem_mem _))]
theorem zj0(ns:List Nat)(r:List UInt8)(h:∀ n∈ns,n<=1099511627776)(k:Nat)(hk:k<ns.length):nq (encs ns++r,0) k=(ns[k]:Nat):=by
 have hb:∀ n∈ns,n<2 ^ 64:=fun n hn=>Nat.lt_of_le_of_lt (h n hn) (by decide)
 unfold nq;rw[zig ns r hb k (by omega),List.drop_eq_getElem_cons hk,encs,List.append_assoc,Rd.num_enc _ _ (hb _ (List.getElem_mem _))];simp only
 rw[zcj _ (h _ (List.getElem_mem _))]
theorem zsE(ns:List Nat)(r:List UInt8)(h:∀ n∈ns,n<=1099511627776)(m:Nat)(hm:m=ns.length):rdN (encs ns++r,0) m=(ns.map (fun n:Nat=>(n:Int)),(r,0)):=by
 subst hm;have hb:∀ n∈ns,n<2 ^ 64:=fun n hn=>Nat.lt_of_le_of_lt (h n hn) (by decide)
 refine Prod.ext (List.ext_getElem? fun j=>?_) ?_
 · by_cases hj:j<ns.length
   · rw[zi1 _ _ j hj,zj0 ns r h j hj,List.getElem?_map,List.getElem?_eq_getElem hj];rfl
   · rw[List.getElem?_eq_none (by rw[zdK];omega),List.getElem?_eq_none (by rw[List.length_map];omega)]
 · show (rdN _ _).2=_
   rw[zgh,zig ns r hb _ (Nat.le_refl _),List.drop_length];rfl
def zfx(ns:List Int):Prop:=∀ n∈ns,0<=n∧n<=1099511627776
theorem zdr(ns:List Int)(h:zfx ns):∀ n∈ns.map Int.toNat,n<=1099511627776:=fun n hn=>by
 obtain⟨x,hx,rfl⟩:=List.mem_map.1 hn;have:=h x hx;omega
theorem zmV(ns:List Int)(h:zfx ns):(ns.map Int.toNat).map (fun n:Nat=>(n:Int))=ns:=by
 rw[List.map_map];refine (List.map_congr_left fun x hx=>?_).trans (List.map_id _)
 have:=h x hx;show ((x.toNat:Nat):Int)=id x
 rw[Int.toNat_of_nonneg this.1];rfl
theorem zsR(e f:En)(F:Nat->Int)(h:∀ k,k<14->F k=(zfU f).getD k 0):setD e F={ e with d0:=f.d0,d1:=f.d1,d2:=f.d2,d3:=f.d3,d4:=f.d4,d5:=f.d5,d6:=f.d6,d7:=f.d7,d8:=f.d8,d9:=f.d9,d10:=f.d10,d11:=f.d11,d12:=f.d12,d13:=f.d13 }:=by
 unfold setD;rw[h 0 (by decide),h 1 (by decide),h 2 (by decide),h 3 (by decide),h 4 (by decide),h 5 (by decide),h 6 (by decide),h 7 (by decide),h 8 (by decide),h 9 (by decide),h 10 (by decide),h 11 (by decide),h 12 (by decide),h 13 (by decide)];rfl
structure DatOk (e:En) (l:List Int):Prop where
 n:zfx (zfU e)
 c:0<=e.cls∧e.cls<=1099511627776
 v:e.vol.size<=200
 o:e.own.size<=200
 cr:0<=e.cr∧e.cr<=1099511627776
 ex:0<=e.ex∧e.ex<=1099511627776
 nl:zfx l
 nl4:l.length<=4
 u:0<=e.used∧e.used<=1099511627776
def zcr(e:En)(l:List Int):List UInt8:=zhm e l e.cls.toNat e.cr.toNat e.ex.toNat e.used.toNat
theorem zls(m x:Nat)(h:x<=m):cntv m x=x:=by unfold cntv;rw[if_neg (by omega)]
theorem zke(e:En)(l:List Int)(r:List UInt8)(h:DatOk e l):zb3 ({ En.zero with kind:=e.kind,name:=e.name }:En) (zcr e l++r,0)=(zkT e,l,(r,0)):=by
 obtain⟨hn,hc,hv,ho,hcr,hex,hl,hl4,hu⟩:=h;have hb:=zdr _ hn;have hbl:=zdr _ hl;have hz:(zfU e).length=14:=rfl;obtain⟨R0,e0⟩:∃ R,R=tb e.uq::(Wi.enc e.cls.toNat++(Wi.enc (Ds.bl e.vol).length++(Ds.bl e.vol++(Wi.enc (Ds.bl e.own).length++(Ds.bl e.own++(encs [e.cr.toNat,e.ex.toNat]++(tb e.ar::(Wi.enc l.length++(encs (l.map Int.toNat)++(Wi.enc e.used.toNat++r)))))))))):=⟨_,rfl⟩
 have e1:zcr e l++r=encs ((zfU e).map Int.toNat)++R0:=by
  rw[e0];unfold zcr zhm;rw[Ds.bl_length,Ds.bl_length];simp only[List.append_assoc,List.cons_append,List.nil_append]
 have s0:sq (encs ((zfU e).map Int.toNat)++R0,0) 14=(R0,0):=by
  rw[zig _ _ (fun n hn=>Nat.lt_of_le_of_lt (hb n hn) (by decide)) 14 (by rw[List.length_map,hz];exact Nat.le_refl _)];rfl
 have q0:setD ({ En.zero with kind:=e.kind,name:=e.name }:En) (nq (encs ((zfU e).map Int.toNat)++R0,0))={ ({ En.zero with kind:=e.kind,name:=e.name }:En) with d0:=e.d0,d1:=e.d1,d2:=e.d2,d3:=e.d3,d4:=e.d4,d5:=e.d5,d6:=e.d6,d7:=e.d7,d8:=e.d8,d9:=e.d9,d10:=e.d10,d11:=e.d11,d12:=e.d12,d13:=e.d13 }:=by
  refine zsR _ e _ fun k hk=>?_
  rw[zj0 _ R0 hb k (by rw[List.length_map,hz];exact hk),List.getElem_map,List.getD_eq_getElem?_getD,List.getElem?_eq_getElem (by rw[hz];exact hk),Option.getD_some,Int.toNat_of_nonneg (hn _ (List.getElem_mem _)).1]
 have m1:∀ n∈[e.cr.toNat,e.ex.toNat],n<=1099511627776:=fun n hn=>by
  rcases (by simpa using hn:n=e.cr.toNat∨n=e.ex.toNat) with rfl|rfl <;> omega
 unfold zb3;rw[e1,s0,q0,e0];simp only
 rw[show tb e.uq=(if e.uq then 1 else 0) from rfl,Rd.boo_tb];simp only
 rw[Rd.num_enc _ _ (by omega)];simp only
 rw[Rd.txt_enc 200 _ _ (by rw[Ds.bl_length];omega) (by rw[Ds.bl_length];omega)];simp only
 rw[Rd.txt_enc 200 _ _ (by rw[Ds.bl_length];omega) (by rw[Ds.bl_length];omega)];simp only
 rw[zj0 _ _ m1 0 (by simp),zj0 _ _ m1 1 (by simp),zig _ _ (fun n hn=>Nat.lt_of_le_of_lt (m1 n hn) (by decide)) 2 (by simp)];simp only[List.drop_succ_cons,List.drop_zero,encs,List.nil_append]
 rw[show tb e.ar=(if e.ar then 1 else 0) from rfl,Rd.boo_tb];simp only
 rw[Rd.num_enc _ _ (by omega)];simp only
 rw[zcj l.length (by omega),zls 4 _ hl4,zsE _ _ hbl l.length (by rw[List.length_map]),zmV l hl];simp only
 rw[Rd.num_enc _ _ (by omega)];simp only
 rw[zcj _ (by omega),zcj _ (by omega),Ds.mk_bl,Ds.mk_bl];simp only[En.sUq,En.sCls,En.sVol,En.sOwn,En.sCE,En.sAr,En.sUsed,zkT,En.zero,List.getElem_cons_zero,List.getElem_cons_succ]
 rw[Int.toNat_of_nonneg hc.1,Int.toNat_of_nonneg hcr.1,Int.toNat_of_nonneg hex.1,Int.toNat_of_nonneg hu.1]
def grs:List Gr->List UInt8
 | []=>[]
 | x::r=>(Wi.enc x.1.size++Ds.bl x.1)++([tb x.2.1]++(Wi.enc x.2.2.toNat++grs r))
theorem zcK:∀ (a b:List Gr),grs (a++b)=grs a++grs b
 | [],b=>rfl
 | n::a,b=>by simp only[List.cons_append,grs,zcK a b,List.append_assoc,List.nil_append]
def zc9(e:En)(g:List Gr):List UInt8:=Wi.enc e.lev.toNat++((Wi.enc e.owner.size++Ds.bl e.owner)++(Wi.enc g.length++grs g))
def rdG(s:List UInt8 × Nat):Gr × (List UInt8 × Nat) :=
 let t:=Rd.txt 200 s
 let b:=Rd.boo t.2
 let n:=Rd.num b.2
 ((⟨t.1.toArray⟩,b.1,((clip n.1:Nat):Int)),n.2)
def zgg(s:List UInt8 × Nat):Nat->List Gr × (List UInt8 × Nat)
 | 0=>([],s)
 | k+1=>((zgg s k).1++[(rdG (zgg s k).2).1],(rdG (zgg s k).2).2)
theorem zgZ(s:List UInt8 × Nat):∀ k,(zgg s k).1.length=k
 | 0=>rfl
 | k+1=>by rw[zgg,List.length_append,zgZ s k];rfl
theorem zsD(s:List UInt8 × Nat):(rdG s).2.1.length<=s.1.length :=
 Nat.le_trans (Rd.num_len _) (Nat.le_trans (Rd.boo_len _) (Rd.txt_len 200 s).1)
theorem zh0(s:List UInt8 × Nat):∀ k,(zgg s k).2.1.length<=s.1.length
 | 0=>Nat.le_refl _
 | k+1=>Nat.le_trans (zsD _) (zh0 s k)
def En.sLev(e:En)(x:Int):En:={ e with lev:=x }
def En.sOwner(e:En)(x:ByteArray):En:={ e with owner:=x }
def zc8(e:En)(s:List UInt8 × Nat):En × List Gr × (List UInt8 × Nat) :=
 let a:=Rd.num s
 let t:=Rd.txt 200 a.2
 let n:=Rd.num t.2
 let l:=zgg n.2 (cntv 8 (clip n.1))
 ((e.sLev (clip a.1)).sOwner ⟨t.1.toArray⟩,l.1,l.2)
structure GrOk (g:Gr):Prop where
 w:g.1.size<=200
 l:0<=g.2.2∧g.2.2<=1099511627776
theorem zsC(g:Gr)(r:List UInt8)(h:GrOk g):rdG (grs [g]++r,0)=(g,(r,0)):=by
 have hw:=h.w;have hl:=h.l;obtain⟨a,b,c⟩:=g;simp only at hw hl
 have e1:grs [(a,b,c)]++r=Wi.enc (Ds.bl a).length++(Ds.bl a++(tb b::(Wi.enc c.toNat++r))):=by
  rw[Ds.bl_length];simp only[grs,List.append_assoc,List.cons_append,List.nil_append]
 unfold rdG;rw[e1,Rd.txt_enc 200 _ _ (by rw[Ds.bl_length];omega) (by rw[Ds.bl_length];omega)];simp only
 rw[show tb b=(if b then 1 else 0) from rfl,Rd.boo_tb];simp only
 rw[Rd.num_enc _ _ (by omega)];simp only
 rw[zcj _ (by omega),Ds.mk_bl,Int.toNat_of_nonneg hl.1]
theorem zka(g:List Gr)(r:List UInt8)(h:∀ x∈g,GrOk x):∀ k,k<=g.length->zgg (grs g++r,0) k=(g.take k,(grs (g.drop k)++r,0))
 | 0,_=>rfl
 | k+1,hk=>by
   have hlt:k<g.length:=by omega
   have e1:grs (g.drop k)++r=grs [g[k]]++(grs (g.drop (k+1))++r):=by
    rw[List.drop_eq_getElem_cons hlt,show g[k]::g.drop (k+1)=[g[k]]++g.drop (k+1) from rfl,zcK,List.append_assoc]
   rw[zgg,zka g r h k (by omega)];simp only
   rw[e1,zsC _ _ (h _ (List.getElem_mem _))];simp only
   rw[List.take_succ_eq_append_getElem hlt]
structure ProfOk (e:En) (g:List Gr):Prop where
 l:0<=e.lev∧e.lev<=1099511627776
 o:e.owner.size<=200
 ng:∀ x∈g,GrOk x
 g8:g.length<=8
theorem zkf(e:En)(g:List Gr)(r:List UInt8)(h:ProfOk e g):zc8 ({ En.zero with kind:=e.kind,name:=e.name }:En) (zc9 e g++r,0)=(ziY e,g,(r,0)):=by
 obtain⟨hl,ho,hg,h8⟩:=h
 have e1:zc9 e g++r=Wi.enc e.lev.toNat++(Wi.enc (Ds.bl e.owner).length++(Ds.bl e.owner++(Wi.enc g.length++(grs g++r)))):=by
  unfold zc9;rw[Ds.bl_length];simp only[List.append_assoc]
 unfold zc8;rw[e1,Rd.num_enc _ _ (by omega)];simp only
 rw[Rd.txt_enc 200 _ _ (by rw[Ds.bl_length];omega) (by rw[Ds.bl_length];omega)];simp only
 rw[Rd.num_enc _ _ (by omega)];simp only
 rw[zcj g.length (by omega),zls 8 _ h8,zka g r hg _ (Nat.le_refl _),List.take_length,List.drop_length,zcj _ (by omega),Ds.mk_bl];simp only[En.sLev,En.sOwner,ziY,grs,List.nil_append]
 rw[Int.toNat_of_nonneg hl.1]
end Go.Proofs.YtefcmdmfgdcpmaaGreatDoor
namespace Go.Proofs.YtefcmdmfgdcpmaaGreatDoor
namespace Vp
def altAt(l:List Int)(i:Nat):Bool:=decide (1<=l.getD i 0)&&decide (l.getD i 0<=1099511627776)&&(decide (i=0) || decide (l.getD (i - 1) 0<l.getD i 0))
def alts(l:List Int):Bool:=Ds.rest (altAt l) (List.range l.length) 0
def days(l:List Int):Bool:=l.all Cal.isDay
def dat(e:En)(l:List Int):Bool:=alts l&&(rng 0 1099511627776 [e.d3,e.d4,e.d5,e.d6,e.d7,e.d8,e.d9,e.d10,e.d11,e.d12,e.d13]&&(rng 1 1099511627776 [e.d0]&&(rng 0 3 [e.d1]&&(rng 0 2 [e.d2]&&(rng 0 3 [e.cls]&&(own (Ds.bl e.vol)&&(own (Ds.bl e.own)&&(days [e.cr,e.ex,e.used]&&decide (l.length<=4)))))))))
def gk(g:Gr):ByteArray × Bool:=(g.1,g.2.1)
def among(k:ByteArray × Bool)(ks:List (ByteArray × Bool)):Bool:=ks.any fun a=>decide (k=a)
def grAt(l:List Gr)(i:Nat):Bool:=match l[i]? with
 | some g=>word (Ds.bl g.1)&&(rng 0 3 [g.2.2]&&!among (gk g) ((l.take i).map gk))
 | none=>false
def grs(l:List Gr):Bool:=Ds.rest (grAt l) (List.range l.length) 0
def prof(e:En)(g:List Gr):Bool:=grs g&&(rng 0 3 [e.lev]&&(own (Ds.bl e.owner)&&decide (g.length<=8)))
end Vp
theorem zhk(k:ByteArray × Bool)(ks:List (ByteArray × Bool)):Vp.among k ks=true↔k∈ks:=by
 unfold Vp.among;rw[List.any_eq_true];constructor
 · rintro ⟨a,ha,he⟩;rw[of_decide_eq_true he];exact ha
 · intro h;exact⟨k,h,decide_eq_true rfl⟩
theorem zjl(k:ByteArray × Bool)(ks:List (ByteArray × Bool))(h:Vp.among k ks=false):k ∉ ks:=fun hk=>by rw[(zhk k ks).2 hk] at h;cases h
theorem zfa{G:Nat->Bool}{n:Nat}(h:Ds.rest G (List.range n) 0=true):∀ i,i<n->G i=true:=by
 unfold Ds.rest at h;simpa using h
theorem znd(lo hi:Int)(l:List Int)(h:Vp.rng lo hi l=true):∀ n∈l,lo<=n∧n<=hi:=by
 unfold Vp.rng at h;simpa using h
theorem word8(s:List UInt8)(h:Vp.word s=true):s.length<=8:=by
 unfold Vp.word at h;rw[Bool.and_eq_true,decide_eq_true_eq] at h;obtain⟨h1,h2⟩:=h;have hj:=Ds.join_pieces s;obtain⟨q,hq⟩:=List.length_eq_one_iff.1 h2;rw[hq] at hj;have hqs:q=s:=by simpa [Lib.join] using hj
 have:=((Ds.name_parts s).1 h1).2 q (by rw[hq];simp);rw[<-hqs];exact Ds.qual_le _ _ _ this
theorem own8(s:List UInt8)(h:Vp.own s=true):s.length<=8:=by
 unfold Vp.own at h;rw[Bool.or_eq_true] at h;rcases h with h|h
 · rw[List.isEmpty_iff] at h;subst h;simp
 · exact word8 s h
theorem zly(n:Int)(h:Cal.isDay n=true):0<=n∧n<=65536:=(Cal.isDay_iff n).1 h
theorem zhr(e:En)(l:List Int)(h:Vp.dat e l=true):DatOk e l∧(e.vol.size<=8∧e.own.size<=8)∧e.cls<=3∧e.cr<=65536∧e.ex<=65536∧e.used<=65536∧e.d1<=3∧e.d2<=2:=by
 unfold Vp.dat at h;simp only[Bool.and_eq_true] at h
 obtain⟨ha,h3,h0,h1,h2,hc,hv,ho,hd,hl⟩:=h;have a3:=znd _ _ _ h3;have a0:=rng1 _ _ _ h0;have a1:=rng1 _ _ _ h1;have a2:=rng1 _ _ _ h2;have ac:=rng1 _ _ _ hc;have av:=own8 _ hv;have ao:=own8 _ ho;rw[Ds.bl_length] at av ao;unfold Vp.days at hd;rw[List.all_eq_true] at hd;have d1:=zly _ (hd e.cr (by simp));have d2:=zly _ (hd e.ex (by simp));have d3:=zly _ (hd e.used (by simp))
 have al:zfx l:=fun n hn=>by
  obtain⟨i,hi,rfl⟩:=List.getElem_of_mem hn;have:=zfa ha i hi;unfold Vp.altAt at this;rw[List.getD_eq_getElem?_getD,List.getElem?_eq_getElem hi,Option.getD_some] at this;simp only[Bool.and_eq_true,decide_eq_true_eq] at this
  omega
 refine⟨⟨?_,by omega,by omega,by omega,by omega,by omega,al,of_decide_eq_true hl,by omega⟩,⟨av,ao⟩,ac.2,d1.2,d2.2,d3.2,a1.2,a2.2⟩
 intro n hn;simp only[List.mem_cons,List.not_mem_nil,or_false] at a3
 unfold zfU at hn;simp only[List.mem_cons,List.not_mem_nil,or_false] at hn
 rcases hn with hn|hn|hn|hn|hn|hn|hn|hn|hn|hn|hn|hn|hn|hn
 · omega
 · omega
 · omega
 all_goals exact a3 n (by simp [hn])
theorem zfA(e:En)(g:List Gr)(h:Vp.prof e g=true):ProfOk e g∧e.lev<=3∧e.owner.size<=8∧∀ x∈g,x.1.size<=8∧x.2.2<=3∧0<=x.2.2:=by
 unfold Vp.prof at h;simp only[Bool.and_eq_true,decide_eq_true_eq] at h
 obtain⟨hg,hl,ho,h8⟩:=h;have a1:=rng1 _ _ _ hl;have ao:=own8 _ ho;rw[Ds.bl_length] at ao
 have q:∀ x∈g,x.1.size<=8∧x.2.2<=3∧0<=x.2.2:=fun x hx=>by
  obtain⟨i,hi,rfl⟩:=List.getElem_of_mem hx;have:=zfa hg i hi;unfold Vp.grAt at this;rw[List.getElem?_eq_getElem hi] at this;simp only[Bool.and_eq_true] at this
  have w:=word8 _ this.1;rw[Ds.bl_length] at w;have r:=rng1 _ _ _ this.2.1;omega
 exact⟨⟨by omega,by omega,fun x hx=>⟨by have:=q x hx;omega,by have:=q x hx;omega⟩,h8⟩,a1.2,ao,q⟩
end Go.Proofs.YtefcmdmfgdcpmaaGreatDoor
namespace Go.Proofs.YtefcmdmfgdcpmaaGreatDoor
abbrev Fu:=En × List Int × List Gr
theorem zbj(e f:En)(l1 l2:List Int)(g1 g2:List Gr):zeF e f l1 l2 g1 g2=true↔e=f∧l1=l2∧g1=g2:=by
 constructor
 · intro h;unfold zeF ziD at h;simp only[Bool.and_eq_true,beq_iff_eq,decide_eq_true_eq,znu] at h
   cases e;cases f
   simp only[En.mk.injEq]
   simp only at h
   simp_all
 · rintro ⟨rfl,rfl,rfl⟩;unfold zeF ziD;simp
def okD(e:En)(l2:List Int)(g2:List Gr):Bool:=Ds.name (Ds.bl e.name)&&Vp.dat e l2&&zeF (zkT e) e l2 l2 [] g2
def okP(e:En)(l2:List Int)(g2:List Gr):Bool:=Ds.pat (Ds.bl e.name)&&Vp.prof e g2&&zeF (ziY e) e [] l2 g2 g2
def okX(x:Fu):Bool :=
 if x.1.kind=0 then okD x.1 x.2.1 x.2.2 else if x.1.kind=1 then okG x.1 x.2.1 x.2.2 else if x.1.kind=2 then okA x.1 x.2.1 x.2.2 else if x.1.kind=3 then okC x.1 x.2.1 x.2.2 else if x.1.kind=4 then okP x.1 x.2.1 x.2.2 else false
def zeT(x:Fu):List UInt8 :=
 if x.1.kind=0 then zcr x.1 x.2.1 else if x.1.kind=1 then zdc x.1 else if x.1.kind=2 then zdQ x.1 else if x.1.kind=3 then zeS x.1 else zc9 x.1 x.2.2
def zfr(x:Fu):List UInt8:=Ek.key x.1.kind (Ds.bl x.1.name)
def ze9(x:Fu):List UInt8:=zfr x++zeT x
def En.base(k:Int)(n:ByteArray):En:={ En.zero with kind:=k,name:=n }
def rdX(k:Int)(n:ByteArray)(s:List UInt8 × Nat):Fu × (List UInt8 × Nat) :=
 if k=0 then (((zb3 (En.base k n) s).1,(zb3 (En.base k n) s).2.1,[]),(zb3 (En.base k n) s).2.2)
 else if k=1 then (((zcx (En.base k n) s).1,[],[]),(zcx (En.base k n) s).2)
 else if k=2 then (((zc1 (En.base k n) s).1,[],[]),(zc1 (En.base k n) s).2)
 else if k=3 then (((zgY (En.base k n) s).1,[],[]),(zgY (En.base k n) s).2)
 else (((zc8 (En.base k n) s).1,[],(zc8 (En.base k n) s).2.1),(zc8 (En.base k n) s).2.2)
theorem zd5(x:Fu)(h:okX x=true):0<=x.1.kind∧x.1.kind<=4:=by
 unfold okX at h;repeat' split at h
 all_goals first|omega|cases h
theorem zm7(e:En)(r:List UInt8)(h:Vp.grp e=true):zcx (En.base e.kind e.name) (zdc e++r,0)=(zhX e,(r,0)):=by
 unfold Vp.grp at h;simp only[Bool.and_eq_true] at h
 obtain⟨⟨h1,h2⟩,h3⟩:=h;have r1:=rng1 _ _ _ h1;have r2:=rng1 _ _ _ h2;have r3:=zgV _ h3
 have e1:zdc e++r=Wi.enc e.lim.toNat++(Wi.enc e.last.toNat++(tb e.em::(Wi.enc (Ds.bl e.owner).length++(Ds.bl e.owner++r)))):=by
  unfold zdc encs encs encs;rw[Ds.bl_length];simp
 unfold zcx zhX;rw[e1];simp only
 rw[Rd.num_enc _ _ (by omega)];simp only
 rw[Rd.num_enc _ _ (by omega)];simp only
 rw[show tb e.em=(if e.em then 1 else 0) from rfl,Rd.boo_tb];simp only
 rw[Rd.txt_enc 200 _ _ (by omega) (by omega)];simp only
 rw[zcj _ (by omega),zcj _ (by omega),Ds.mk_bl,Int.toNat_of_nonneg (by omega),Int.toNat_of_nonneg (by omega)];rfl
theorem zo0(x:Fu)(r:List UInt8)(h:okX x=true):rdX x.1.kind x.1.name (zeT x++r,0)=(x,(r,0)):=by
 obtain⟨e,l,g⟩:=x;unfold okX at h;unfold rdX zeT;simp only at h ⊢
 split at h
 · rename_i k;rw[if_pos k,if_pos k];unfold okD at h;simp only[Bool.and_eq_true] at h
   obtain⟨⟨_,h2⟩,h3⟩:=h;obtain⟨q1,-,q3⟩:=(zbj _ _ _ _ _ _).1 h3;rw[show En.base e.kind e.name=({ En.zero with kind:=e.kind,name:=e.name }:En) from rfl,zke e l r (zhr e l h2).1,q1,<-q3]
 · rename_i k0;rw[if_neg k0,if_neg k0];split at h
   · rename_i k;rw[if_pos k,if_pos k];unfold okG at h;simp only[Bool.and_eq_true] at h
     obtain⟨⟨_,h2⟩,h3⟩:=h;obtain⟨q1,q2,q3⟩:=(zbj _ _ _ _ _ _).1 h3;rw[zm7 e r h2,q1,<-q2,<-q3]
   · rename_i k1;rw[if_neg k1,if_neg k1];split at h
     · rename_i k;rw[if_pos k,if_pos k];unfold okA at h;simp only[Bool.and_eq_true] at h
       obtain⟨⟨_,h2⟩,h3⟩:=h;obtain⟨q1,q2,q3⟩:=(zbj _ _ _ _ _ _).1 h3;have:=zdP e h2;rw[show En.base e.kind e.name=({ En.zero with kind:=e.kind,name:=e.name }:En) from rfl,zkc e r (by omega),q1,<-q2,<-q3]
     · rename_i k2;rw[if_neg k2,if_neg k2];split at h
       · rename_i k;rw[if_pos k,if_pos k];unfold okC at h;simp only[Bool.and_eq_true] at h
         obtain⟨⟨_,h2⟩,h3⟩:=h;obtain⟨q1,q2,q3⟩:=(zbj _ _ _ _ _ _).1 h3;rw[show En.base e.kind e.name=({ En.zero with kind:=e.kind,name:=e.name }:En) from rfl,zkd e r h2,q1,<-q2,<-q3]
       · rename_i k3;rw[if_neg k3,if_neg k3];split at h
         · unfold okP at h;simp only[Bool.and_eq_true] at h
           obtain⟨⟨_,h2⟩,h3⟩:=h;obtain⟨q1,q2,-⟩:=(zbj _ _ _ _ _ _).1 h3;rw[show En.base e.kind e.name=({ En.zero with kind:=e.kind,name:=e.name }:En) from rfl,zkf e g r (zfA e g h2).1,q1,<-q2]
         · cases h
theorem zcc(x:Fu)(h:okX x=true):(Ds.bl x.1.name).length<=31∧32 ∉ Ds.bl x.1.name:=by
 have hn:∀ s,Ds.name s=true->s.length<=31∧32 ∉ s:=fun s h=>⟨((Ds.name_parts s).1 h).1.2,Ek.name_no32 s h⟩
 have hp:∀ s,Ds.pat s=true->s.length<=31∧32 ∉ s:=fun s h=>⟨((Ds.pat_parts s).1 h).1.2,Ek.pat_no32 s h⟩
 unfold okX at h;split at h
 · unfold okD at h;simp only[Bool.and_eq_true] at h;exact hn _ h.1.1
 split at h
 · unfold okG at h;simp only[Bool.and_eq_true] at h;exact hn _ ((Ds.group_parts _).1 h.1.1).1
 split at h
 · unfold okA Vp.nameA at h;simp only[Bool.and_eq_true] at h;exact hn _ h.1.1.1
 split at h
 · unfold okC Vp.nameC at h;simp only[Bool.and_eq_true] at h;exact hn _ h.1.1.1
 split at h
 · unfold okP at h;simp only[Bool.and_eq_true] at h;exact hp _ h.1.1
 · cases h
theorem ze4(x:Fu)(h:okX x=true):(zfr x).length=32:=Ek.key_len _ _ (zd5 x h) (zcc x h).1
theorem zhJ(x:Fu)(h:okX x=true):zfr x=Ek.letter x.1.kind::Ek.pad (Ds.bl x.1.name)∧Ek.trim (Ek.pad (Ds.bl x.1.name))=Ds.bl x.1.name :=
 ⟨Ek.key_yes _ _ (zd5 x h) (zcc x h).1,Ek.trim_pad _ (zcc x h).2⟩
def zeL(c:UInt8):Option Int:=if c=68 then some 0 else if c=71 then some 1 else if c=65 then some 2 else if c=67 then some 3 else if c=80 then some 4 else none
theorem zcZ(k:Int)(h:0<=k∧k<=4):zeL (Ek.letter k)=some k:=by
 rcases (by omega:k=0∨k=1∨k=2∨k=3∨k=4) with rfl|rfl|rfl|rfl|rfl <;> rfl
def zd3(s:List UInt8):List UInt8:=Ek.trim ((s.drop 1).take 31)
def znK(k:Int)(s:List UInt8):Option Fu :=
 if Rd.fin (rdX k ⟨(zd3 s).toArray⟩ (s.drop 32,0)).2=0∧okX (rdX k ⟨(zd3 s).toArray⟩ (s.drop 32,0)).1=true∧ze9 (rdX k ⟨(zd3 s).toArray⟩ (s.drop 32,0)).1=s then some (rdX k ⟨(zd3 s).toArray⟩ (s.drop 32,0)).1 else none
def zc6(s:List UInt8):Option Fu :=
 if 32<=s.length∧s.length<=200 then (match zeL (s.headD 0) with|some k=>znK k s|none=>none) else none
theorem zcI(s:List UInt8)(x:Fu)(h:zc6 s=some x):okX x=true∧ze9 x=s:=by
 unfold zc6 at h;split at h
 · split at h
   · unfold znK at h;split at h
     · rename_i hc;cases h
       exact hc.2
     · cases h
   · cases h
 · cases h
theorem zeD(x:Fu)(r:List UInt8)(h:okX x=true):(ze9 x++r).headD 0=Ek.letter x.1.kind∧zd3 (ze9 x++r)=Ds.bl x.1.name∧(ze9 x++r).drop 32=zeT x++r:=by
 have hk:=zhJ x h;have hl:=ze4 x h;have hp:=Ek.pad_len _ (zcc x h).1;have e1:ze9 x++r=zfr x++(zeT x++r):=by unfold ze9;rw[List.append_assoc]
 refine⟨?_,?_,?_⟩
 · rw[e1,hk.1];rfl
 · rw[e1,hk.1];unfold zd3;rw[List.cons_append,List.drop_succ_cons,List.drop_zero];rw[List.take_append_of_le_length (by omega),List.take_of_length_le (by omega)];exact hk.2
 · rw[e1,List.drop_append_of_le_length (by omega),List.drop_of_length_le (by omega)];rfl
theorem zgy(x:Fu)(h:okX x=true)(hl:(ze9 x).length<=200):zc6 (ze9 x)=some x:=by
 have h3:=zeD x [] h;rw[List.append_nil,List.append_nil] at h3;obtain⟨h1,h2,h3⟩:=h3;have hz:32<=(ze9 x).length:=by unfold ze9;rw[List.length_append,ze4 x h];omega
 have hr:=zo0 x [] h;rw[List.append_nil] at hr;unfold zc6;rw[if_pos ⟨hz,hl⟩,h1,zcZ _ (zd5 x h)];simp only
 unfold znK;rw[h2,h3,Ds.mk_bl,hr];rw[if_pos ⟨rfl,h,rfl⟩]
theorem za8(n k:Nat)(h:n<2 ^ (7*(k+1))):(Wi.enc n).length<=k+1:=Wi.enc_len k n h
theorem zdX:∀ (l:List Nat),(∀ n∈l,n<=1099511627776)->(encs l).length<=6*l.length
 | [],_=>by simp [encs]
 | n::r,h=>by
   have h1:=za8 n 5 (Nat.lt_of_le_of_lt (h n (by simp)) (by decide));have h2:=zdX r (fun m hm=>h m (by simp [hm]));simp only[encs,List.length_append,List.length_cons];omega
theorem ziP:∀ (g:List Gr),(∀ x∈g,x.1.size<=8∧x.2.2<=3∧0<=x.2.2)->(grs g).length<=11*g.length
 | [],_=>by simp [grs]
 | x::r,h=>by
   have h1:=h x (by simp);have e1:=za8 x.1.size 0 (by omega);have e2:=za8 x.2.2.toNat 0 (by omega);have h2:=ziP r (fun m hm=>h m (by simp [hm]));simp only[grs,List.length_append,List.length_cons,List.length_nil,Ds.bl_length];omega
theorem zhn(x:Fu)(h:okX x=true):(zeT x).length<=168:=by
 obtain⟨e,l,g⟩:=x;unfold okX at h;unfold zeT;simp only at h ⊢
 split at h
 · rename_i k;rw[if_pos k];unfold okD at h;simp only[Bool.and_eq_true] at h
   obtain⟨hd,hvo,hc,hcr,hex,hu,_,_⟩:=zhr e l h.1.2;have hn:=zdr _ hd.n;have a1:=zdX _ hn;have a2:=zdX _ (zdr _ hd.nl);rw[List.length_map] at a1 a2;have hz:(zfU e).length=14:=rfl;have l4:=hd.nl4;have c1:=za8 e.cls.toNat 0 (by omega);have c2:=za8 e.vol.size 0 (by omega);have c3:=za8 e.own.size 0 (by omega);have c4:=za8 e.cr.toNat 2 (by omega);have c5:=za8 e.ex.toNat 2 (by omega);have c6:=za8 e.used.toNat 2 (by omega);have c7:=za8 l.length 0 (by omega);unfold zcr zhm;simp only[encs,List.length_append,List.length_cons,List.length_nil,Ds.bl_length]
   omega
 · rename_i k0;rw[if_neg k0];split at h
   · rename_i k;rw[if_pos k];unfold okG Vp.grp at h;simp only[Bool.and_eq_true] at h
     obtain⟨⟨_,⟨h1,h2⟩,h3⟩,_⟩:=h;have r1:=rng1 _ _ _ h1;have r2:=rng1 _ _ _ h2;have r3:=own8 _ h3;have c1:=za8 e.lim.toNat 0 (by omega);have c2:=za8 e.last.toNat 1 (by omega);have c3:=za8 e.owner.size 0 (by rw[Ds.bl_length] at r3;omega);unfold zdc;simp only[encs,List.length_append,List.length_cons,List.length_nil]
     omega
   · rename_i k1;rw[if_neg k1];split at h
     · rename_i k;rw[if_pos k];unfold okA at h;simp only[Bool.and_eq_true] at h
       have:=zdP e h.1.2;have c3:=za8 e.target.size 0 (by omega);unfold zdQ;simp only[List.length_append,Ds.bl_length]
       omega
     · rename_i k2;rw[if_neg k2];split at h
       · rename_i k;rw[if_pos k];unfold okC at h;simp only[Bool.and_eq_true] at h
         have r1:=rng1 _ _ _ h.1.2;have c3:=za8 e.cat.toNat 0 (by omega);unfold zeS;omega
       · rename_i k3;rw[if_neg k3];split at h
         · unfold okP at h;simp only[Bool.and_eq_true] at h
           obtain⟨hp,hl,ho,hg⟩:=zfA e g h.1.2;have g8:=hp.g8;have pl:=hp.l;have c1:=za8 e.lev.toNat 0 (by omega);have c2:=za8 e.owner.size 0 (by omega);have c3:=za8 g.length 0 (by omega);have c4:=ziP g hg;unfold zc9;simp only[List.length_append,Ds.bl_length]
           omega
         · cases h
theorem zg7(x:Fu)(h:okX x=true):(ze9 x).length<=200:=by
 have:=zhn x h;have:=ze4 x h;unfold ze9;rw[List.length_append];omega
end Go.Proofs.YtefcmdmfgdcpmaaGreatDoor
