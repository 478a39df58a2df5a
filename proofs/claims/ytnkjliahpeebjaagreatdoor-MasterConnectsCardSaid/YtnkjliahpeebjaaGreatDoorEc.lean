/- Catalogs. -/
import Derived.Test.YtnkjliahpeebjaaGreatDoorVaG
set_option maxRecDepth 8000
set_option maxHeartbeats 1600000
open _root_ renaming ByteArray->Z7,List->Z5,if_neg->Z0,if_pos->ZX,decide_eq_true_eq->ZU,UInt8->ZP,Bool->Zi,of_decide_eq_true->Xi
open Go.Proofs.YtnkjliahpeebjaaGreatDoor.Ds renaming bl->Z4,bl_length->ZO,mk_bl->XA,rest->WK
open Bool renaming true->ZZ,and_eq_true->ZT
open Nat renaming le_refl->ZS,le_trans->ZD,lt_of_le_of_lt->Wa
open List renaming length_append->ZQ,getElem?_eq_getElem->ZN,length_cons->ZK,getD_eq_getElem?_getD->Zx,mem_cons->Zw,length_map->Zq,append_assoc->Zp,cons_append->Zm,drop_eq_getElem_cons->Zb,getElem?_append_right->Y5,length_nil->YQ,nil_append->YM,append_nil->YL,getElem_mem->Yu,range->X3,getElem?_eq_none->XX,getElem_of_mem->Wm,replicate->Wd,drop_zero->V1,drop_length->VY
open Int renaming toNat_of_nonneg->Y6,toNat->XG
open Go.Proofs.YtnkjliahpeebjaaGreatDoor.Rd renaming num->YV,num_enc->W6,txt_enc->WG
open Go.Proofs.YtnkjliahpeebjaaGreatDoor.Wi renaming enc->YT
section
namespace Go.Proofs.YtnkjliahpeebjaaGreatDoor.Ek
open Ds
variable(k:Int)(l s n:Z5 ZP)
def letter(k:Int):ZP:=if k=0 then 68 else if k=1 then 71 else if k=2 then 65 else if k=3 then 67 else if k=4 then 80 else 0
def isKind(k:Int):Zi:=decide (0<=k)&&decide (k<=4)
def pad(n:Z5 ZP):Z5 ZP:=n++Wd (31 - n.length) 32
def key(k:Int)(n:Z5 ZP):Z5 ZP:=if isKind k=ZZ/\n.length<=31 then letter k::pad n else []
def tlen(l:Z5 ZP):Nat->Nat
 | 0=>0
 | n+1=>if l[n]?=some 32 then tlen l n else n+1
def trim(l:Z5 ZP):Z5 ZP:=l.take (tlen l l.length)
theorem tlen_yes(n:Nat)(h:l[n]?=some 32):tlen l (n+1)=tlen l n:=by rw[tlen,ZX h]
theorem tlen_no(n:Nat)(h:l[n]?≠some 32):tlen l (n+1)=n+1:=by rw[tlen,Z0 h]
theorem CQ(m:Nat):tlen (n++Wd m 32) (n.length+m)=tlen n n.length:=by
 have h:∀ j,j<=n.length->tlen (n++Wd m 32) j=tlen n j:=by
  intro j
  induction j with
  | zero=>intro _;rfl
  | succ j i =>
    intro c;rw[tlen,tlen,List.getElem?_append_left (by omega),i (by omega)]
 have H:∀ j,j<=m->tlen (n++Wd m 32) (n.length+j)=tlen n n.length:=by
  intro j
  induction j with
  | zero=>intro _;exact h _ (ZS _)
  | succ j i =>
    intro c;rw[<-Nat.add_assoc,tlen_yes _ _ (by rw[Y5 (by omega),List.getElem?_replicate,ZX (by omega)]),i (by omega)]
 exact H m (ZS _)
theorem Af(h:32 ∉ n):tlen n n.length=n.length:=by
 rcases n.eq_nil_or_concat with rfl|⟨a,b,rfl⟩
 .rfl
 .rw[List.concat_eq_append] at h |-;rw[ZQ,List.length_singleton];refine tlen_no _ _ ?_
  rw[Y5 (ZS _)];intro e;simp at e
  subst e;exact h (by simp)
theorem trim_pad(h:32 ∉ n):trim (pad n)=n:=by
 unfold trim pad;rw[ZQ,List.length_replicate,CQ,Af n h,List.take_left]
theorem pad_len(h:n.length<=31):(pad n).length=31:=by
 unfold pad;rw[ZQ,List.length_replicate];omega
theorem og:∀ (s:Z5 ZP) (c:ZP),c∈s->c=46\/∃ q∈pieces s,c∈q
 | [],c,h=>by simp at h
 | d::r,c,h=>by
   by_cases e:d=46
   .rcases Zw.1 h with rfl|h
    .exact Or.inl e
    .rcases og r c h with h|⟨q,H,f⟩
     .exact Or.inl h
     .refine Or.inr ⟨q,?_,f⟩
      rw[pieces,ZX e];exact List.mem_cons_of_mem _ H
   .rw[pieces,Z0 e];rcases Zw.1 h with rfl|h
    .refine Or.inr ?_
     cases pieces r with
     | nil=>exact⟨[c],by simp,by simp⟩
     | cons p P=>exact⟨c::p,by simp,by simp⟩
    .rcases og r c h with h|⟨q,H,f⟩
     .exact Or.inl h
     .refine Or.inr ?_
      cases g:pieces r with
      | nil=>rw[g] at H;simp at H
      | cons p P =>
        rw[g] at H;rcases Zw.1 H with rfl|H
        .exact⟨d::q,by simp,by simp [f]⟩
        .exact⟨q,by simp [H],f⟩
theorem AX(c:ZP)(h:pls c=ZZ):c≠32:=by
 rintro rfl;revert h;decide
theorem pat_no32(h:pat s=ZZ):32 ∉ s:=by
 intro m;rcases og s 32 m with H|⟨q,d,c⟩
 .exact absurd H (by decide)
 .exact AX _ (BM q ((pat_parts s).1 h |>.2 q d) _ c) rfl
theorem name_no32(h:name s=ZZ):32 ∉ s:=pat_no32 s (name_pat s h)
theorem key_yes(H:0<=k/\k<=4)(h:n.length<=31):key k n=letter k::pad n:=by
 unfold key isKind;rw[ZX (by simp;omega)]
theorem key_len(H:0<=k/\k<=4)(h:n.length<=31):(key k n).length=32:=by
 rw[key_yes k n H h,ZK,pad_len n h]
theorem letter_inj(j:Int)(c:0<=k/\k<=4)(H:0<=j/\j<=4)(h:letter k=letter j):k=j:=by
 rcases (by omega:k=0\/k=1\/k=2\/k=3\/k=4) with rfl|rfl|rfl|rfl|rfl <;>
 rcases (by omega:j=0\/j=1\/j=2\/j=3\/j=4) with rfl|rfl|rfl|rfl|rfl <;> first|rfl|(revert h;decide)
end Go.Proofs.YtnkjliahpeebjaaGreatDoor.Ek
end
namespace Go.Proofs.YtnkjliahpeebjaaGreatDoor
theorem lL(N:Z5 Nat)(r:Z5 ZP)(h:∀ n∈N,n<2 ^ 64):∀ k,k<=N.length->sq (encs N++r,0) k=(encs (N.drop k)++r,0)
 | 0,_=>rfl
 | k+1,H=>by
   rw[sq,lL N r h k (by omega),Zb (by omega:k<N.length),encs,Zp,W6 _ _ (h _ (Yu _))]
theorem nr(N:Z5 Nat)(r:Z5 ZP)(h:∀ n∈N,n<=1099511627776)(k:Nat)(c:k<N.length):nq (encs N++r,0) k=(N[k]:Nat):=by
 have H:∀ n∈N,n<2 ^ 64:=fun n d=>Wa (h n d) (by decide)
 unfold nq;rw[lL N r H k (by omega),Zb c,encs,Zp,W6 _ _ (H _ (Yu _))];simp only
 rw[fT _ (h _ (Yu _))]
theorem DM(N:Z5 Nat)(r:Z5 ZP)(h:∀ n∈N,n<=1099511627776)(m:Nat)(d:m=N.length):cI (encs N++r,0) m=(N.map (fun n:Nat=>(n:Int)),(r,0)):=by
 subst d;have c:∀ n∈N,n<2 ^ 64:=fun n e=>Wa (h n e) (by decide)
 refine Prod.ext (List.ext_getElem? fun j=>?_) ?_
 .by_cases H:j<N.length
  .rw[pK _ _ j H,nr N r h j H,List.getElem?_map,ZN H];rfl
  .rw[XX (by rw[jD];omega),XX (by rw[Zq];omega)]
 .show (cI _ _).2=_
  rw[kA,lL N r c _ (ZS _),VY];rfl
def gS(N:Z5 Int):Prop:=∀ n∈N,0<=n/\n<=1099511627776
theorem jr(N:Z5 Int)(h:gS N):∀ n∈N.map XG,n<=1099511627776:=fun n H=>by
 obtain⟨x,c,rfl⟩:=List.mem_map.1 H;have:=h x c;omega
theorem Al(N:Z5 Int)(h:gS N):(N.map XG).map (fun n:Nat=>(n:Int))=N:=by
 rw[List.map_map];refine (List.map_congr_left fun x H=>?_).trans (List.map_id _)
 have:=h x H;show ((x.toNat:Nat):Int)=id x
 rw[Y6 this.1];rfl
theorem FM(e f:En)(F:Nat->Int)(h:∀ k,k<14->F k=(bK f).getD k 0):setD e F={ e with d0:=f.d0,d1:=f.d1,d2:=f.d2,d3:=f.d3,d4:=f.d4,d5:=f.d5,d6:=f.d6,d7:=f.d7,d8:=f.d8,d9:=f.d9,d10:=f.d10,d11:=f.d11,d12:=f.d12,d13:=f.d13 }:=by
 unfold setD;rw[h 0 (by decide),h 1 (by decide),h 2 (by decide),h 3 (by decide),h 4 (by decide),h 5 (by decide),h 6 (by decide),h 7 (by decide),h 8 (by decide),h 9 (by decide),h 10 (by decide),h 11 (by decide),h 12 (by decide),h 13 (by decide)];rfl
structure DatOk (e:En) (l:Z5 Int):Prop where
 n:gS (bK e)
 c:0<=e.cls/\e.cls<=1099511627776
 v:e.vol.size<=200
 o:e.own.size<=200
 cr:0<=e.cr/\e.cr<=1099511627776
 ex:0<=e.ex/\e.ex<=1099511627776
 nl:gS l
 nl4:l.length<=4
 u:0<=e.used/\e.used<=1099511627776
def dW(e:En)(l:Z5 Int):Z5 ZP:=iG e l e.cls.toNat e.cr.toNat e.ex.toNat e.used.toNat
theorem uw(m x:Nat)(h:x<=m):cntv m x=x:=by unfold cntv;rw[Z0 (by omega)]
theorem uf(e:En)(l:Z5 Int)(r:Z5 ZP)(h:DatOk e l):dR ({ En.zero with kind:=e.kind,name:=e.name }:En) (dW e l++r,0)=(fg e,l,(r,0)):=by
 obtain⟨H,q,v,t,f,x,o,g,u⟩:=h;have i:=jr _ H;have d:=jr _ o;have z:(bK e).length=14:=rfl;obtain⟨c,E⟩:∃ R,R=tb e.uq::(YT e.cls.toNat++(YT (Z4 e.vol).length++(Z4 e.vol++(YT (Z4 e.own).length++(Z4 e.own++(encs [e.cr.toNat,e.ex.toNat]++(tb e.ar::(YT l.length++(encs (l.map XG)++(YT e.used.toNat++r)))))))))):=⟨_,rfl⟩
 have p:dW e l++r=encs ((bK e).map XG)++c:=by
  rw[E];unfold dW iG;rw[ZO,ZO];simp only[Zp,Zm,YM]
 have S:sq (encs ((bK e).map XG)++c,0) 14=(c,0):=by
  rw[lL _ _ (fun n H=>Wa (i n H) (by decide)) 14 (by rw[Zq,z];exact ZS _)];rfl
 have Q:setD ({ En.zero with kind:=e.kind,name:=e.name }:En) (nq (encs ((bK e).map Int.toNat)++c,0))={ ({ En.zero with kind:=e.kind,name:=e.name }:En) with d0:=e.d0,d1:=e.d1,d2:=e.d2,d3:=e.d3,d4:=e.d4,d5:=e.d5,d6:=e.d6,d7:=e.d7,d8:=e.d8,d9:=e.d9,d10:=e.d10,d11:=e.d11,d12:=e.d12,d13:=e.d13 }:=by
  refine FM _ e _ fun k j=>?_
  rw[nr _ c i k (by rw[Zq,z];exact j),List.getElem_map,Zx,ZN (by rw[z];exact j),Option.getD_some,Y6 (H _ (Yu _)).1]
 have m:∀ n∈[e.cr.toNat,e.ex.toNat],n<=1099511627776:=fun n H=>by
  rcases (by simpa using H:n=e.cr.toNat\/n=e.ex.toNat) with rfl|rfl <;> omega
 unfold dR;rw[p,S,Q,E];simp only
 rw[show tb e.uq=(if e.uq then 1 else 0) from rfl,Rd.boo_tb];simp only
 rw[W6 _ _ (by omega)];simp only
 rw[WG 200 _ _ (by rw[ZO];omega) (by rw[ZO];omega)];simp only
 rw[WG 200 _ _ (by rw[ZO];omega) (by rw[ZO];omega)];simp only
 rw[nr _ _ m 0 (by simp),nr _ _ m 1 (by simp),lL _ _ (fun n H=>Wa (m n H) (by decide)) 2 (by simp)];simp only[List.drop_succ_cons,V1,encs,YM]
 rw[show tb e.ar=(if e.ar then 1 else 0) from rfl,Rd.boo_tb];simp only
 rw[W6 _ _ (by omega)];simp only
 rw[fT l.length (by omega),uw 4 _ g,DM _ _ d l.length (by rw[Zq]),Al l o];simp only
 rw[W6 _ _ (by omega)];simp only
 rw[fT _ (by omega),fT _ (by omega),XA,XA];simp only[En.sUq,En.sCls,En.sVol,En.sOwn,En.sCE,En.sAr,En.sUsed,fg,En.zero,List.getElem_cons_zero,List.getElem_cons_succ]
 rw[Y6 q.1,Y6 f.1,Y6 x.1,Y6 u.1]
def grs:Z5 Gr->Z5 ZP
 | []=>[]
 | x::r=>(YT x.1.size++Z4 x.1)++([tb x.2.1]++(YT x.2.2.toNat++grs r))
theorem jY:∀ (a b:Z5 Gr),grs (a++b)=grs a++grs b
 | [],b=>rfl
 | n::a,b=>by simp only[Zm,grs,jY a b,Zp,YM]
def dH(e:En)(g:Z5 Gr):Z5 ZP:=YT e.lev.toNat++((YT e.owner.size++Z4 e.owner)++(YT g.length++grs g))
def iP(s:Z5 ZP × Nat):Gr × (Z5 ZP × Nat) :=
 let t:=Rd.txt 200 s
 let b:=Rd.boo t.2
 let n:=YV b.2
 ((⟨t.1.toArray⟩,b.1,((clip n.1:Nat):Int)),n.2)
def dO(s:Z5 ZP × Nat):Nat->Z5 Gr × (Z5 ZP × Nat)
 | 0=>([],s)
 | k+1=>((dO s k).1++[(iP (dO s k).2).1],(iP (dO s k).2).2)
theorem o5(s:Z5 ZP × Nat):∀ k,(dO s k).1.length=k
 | 0=>rfl
 | k+1=>by rw[dO,ZQ,o5 s k];rfl
theorem DL(s:Z5 ZP × Nat):(iP s).2.1.length<=s.1.length :=
 ZD (Rd.num_len _) (ZD (Rd.boo_len _) (Rd.txt_len 200 s).1)
theorem sI(s:Z5 ZP × Nat):∀ k,(dO s k).2.1.length<=s.1.length
 | 0=>ZS _
 | k+1=>ZD (DL _) (sI s k)
def En.sLev(e:En)(x:Int):En:={ e with lev:=x }
def En.sOwner(e:En)(x:Z7):En:={ e with owner:=x }
def fW(e:En)(s:Z5 ZP × Nat):En × Z5 Gr × (Z5 ZP × Nat) :=
 let a:=YV s
 let t:=Rd.txt 200 a.2
 let n:=YV t.2
 let l:=dO n.2 (cntv 8 (clip n.1))
 ((e.sLev (clip a.1)).sOwner ⟨t.1.toArray⟩,l.1,l.2)
structure GrOk (g:Gr):Prop where
 w:g.1.size<=200
 l:0<=g.2.2/\g.2.2<=1099511627776
theorem DK(g:Gr)(r:Z5 ZP)(h:GrOk g):iP (grs [g]++r,0)=(g,(r,0)):=by
 have d:=h.w;have H:=h.l;obtain⟨a,b,c⟩:=g;simp only at d H
 have e:grs [(a,b,c)]++r=YT (Z4 a).length++(Z4 a++(tb b::(YT c.toNat++r))):=by
  rw[ZO];simp only[grs,Zp,Zm,YM]
 unfold iP;rw[e,WG 200 _ _ (by rw[ZO];omega) (by rw[ZO];omega)];simp only
 rw[show tb b=(if b then 1 else 0) from rfl,Rd.boo_tb];simp only
 rw[W6 _ _ (by omega)];simp only
 rw[fT _ (by omega),XA,Y6 H.1]
theorem tZ(g:Z5 Gr)(r:Z5 ZP)(h:∀ x∈g,GrOk x):∀ k,k<=g.length->dO (grs g++r,0) k=(g.take k,(grs (g.drop k)++r,0))
 | 0,_=>rfl
 | k+1,c=>by
   have H:k<g.length:=by omega
   have e:grs (g.drop k)++r=grs [g[k]]++(grs (g.drop (k+1))++r):=by
    rw[Zb H,show g[k]::g.drop (k+1)=[g[k]]++g.drop (k+1) from rfl,jY,Zp]
   rw[dO,tZ g r h k (by omega)];simp only
   rw[e,DK _ _ (h _ (Yu _))];simp only
   rw[List.take_succ_eq_append_getElem H]
structure ProfOk (e:En) (g:Z5 Gr):Prop where
 l:0<=e.lev/\e.lev<=1099511627776
 o:e.owner.size<=200
 ng:∀ x∈g,GrOk x
 g8:g.length<=8
theorem ug(e:En)(g:Z5 Gr)(r:Z5 ZP)(h:ProfOk e g):fW ({ En.zero with kind:=e.kind,name:=e.name }:En) (dH e g++r,0)=(fG e,g,(r,0)):=by
 obtain⟨d,o,c,H⟩:=h
 have E:dH e g++r=YT e.lev.toNat++(YT (Z4 e.owner).length++(Z4 e.owner++(YT g.length++(grs g++r)))):=by
  unfold dH;rw[ZO];simp only[Zp]
 unfold fW;rw[E,W6 _ _ (by omega)];simp only
 rw[WG 200 _ _ (by rw[ZO];omega) (by rw[ZO];omega)];simp only
 rw[W6 _ _ (by omega)];simp only
 rw[fT g.length (by omega),uw 8 _ H,tZ g r c _ (ZS _),List.take_length,VY,fT _ (by omega),XA];simp only[En.sLev,En.sOwner,fG,grs,YM]
 rw[Y6 d.1]
end Go.Proofs.YtnkjliahpeebjaaGreatDoor
namespace Go.Proofs.YtnkjliahpeebjaaGreatDoor
variable(k:Z7 × Zi)(s:Z5 ZP)(lo a:Int)(b:Z5 (Z7 × Zi))
namespace Vp
def altAt(l:Z5 Int)(i:Nat):Zi:=decide (1<=l.getD i 0)&&decide (l.getD i 0<=1099511627776)&&(decide (i=0) || decide (l.getD (i - 1) 0<l.getD i 0))
def alts(l:Z5 Int):Zi:=WK (altAt l) (X3 l.length) 0
def days(l:Z5 Int):Zi:=l.all Cal.isDay
def dat(e:En)(l:Z5 Int):Zi:=alts l&&(rng 0 1099511627776 [e.d3,e.d4,e.d5,e.d6,e.d7,e.d8,e.d9,e.d10,e.d11,e.d12,e.d13]&&(rng 1 1099511627776 [e.d0]&&(rng 0 3 [e.d1]&&(rng 0 2 [e.d2]&&(rng 0 3 [e.cls]&&(own (Z4 e.vol)&&(own (Z4 e.own)&&(days [e.cr,e.ex,e.used]&&decide (l.length<=4)))))))))
def gk(g:Gr):Z7 × Zi:=(g.1,g.2.1)
def among(k:Z7 × Zi)(b:Z5 (Z7 × Zi)):Zi:=b.any fun a=>decide (k=a)
def grAt(l:Z5 Gr)(i:Nat):Zi:=match l[i]? with
 | some g=>word (Z4 g.1)&&(rng 0 3 [g.2.2]&&!among (gk g) ((l.take i).map gk))
 | none=>false
def grs(l:Z5 Gr):Zi:=WK (grAt l) (X3 l.length) 0
def prof(e:En)(g:Z5 Gr):Zi:=grs g&&(rng 0 3 [e.lev]&&(own (Z4 e.owner)&&decide (g.length<=8)))
end Vp
theorem oF:Vp.among k b=ZZ↔k∈b:=by
 unfold Vp.among;rw[List.any_eq_true];constructor
 .rintro ⟨a,ha,H⟩;rw[Xi H];exact ha
 .intro h;exact⟨k,h,decide_eq_true rfl⟩
theorem td(h:Vp.among k b=false):k ∉ b:=fun H=>by rw[(oF k b).2 H] at h;cases h
theorem mD{G:Nat->Zi}{n:Nat}(h:WK G (X3 n) 0=ZZ):∀ i,i<n->G i=ZZ:=by
 unfold WK at h;simpa using h
theorem FH(l:Z5 Int)(h:Vp.rng lo a l=ZZ):∀ n∈l,lo<=n/\n<=a:=by
 unfold Vp.rng at h;simpa using h
theorem word8(h:Vp.word s=ZZ):s.length<=8:=by
 unfold Vp.word at h;rw[ZT,ZU] at h;obtain⟨d,e⟩:=h;have j:=Ds.join_pieces s;obtain⟨q,c⟩:=List.length_eq_one_iff.1 e;rw[c] at j;have H:q=s:=by simpa [Lib.join] using j
 have:=((Ds.name_parts s).1 d).2 q (by rw[c];simp);rw[<-H];exact Ds.qual_le _ _ _ this
theorem own8(h:Vp.own s=ZZ):s.length<=8:=by
 unfold Vp.own at h;rw[Bool.or_eq_true] at h;rcases h with h|h
 .rw[List.isEmpty_iff] at h;subst h;simp
 .exact word8 s h
theorem pV(n:Int)(h:Cal.isDay n=ZZ):0<=n/\n<=65536:=(Cal.isDay_iff n).1 h
theorem kx(e:En)(l:Z5 Int)(h:Vp.dat e l=ZZ):DatOk e l/\(e.vol.size<=8/\e.own.size<=8)/\e.cls<=3/\e.cr<=65536/\e.ex<=65536/\e.used<=65536/\e.d1<=3/\e.d2<=2:=by
 unfold Vp.dat at h;simp only[ZT] at h
 obtain⟨ha,u,q,r,t,w,z,y,d,x⟩:=h;have A:=FH _ _ _ u;have B:=rng1 _ _ _ q;have c:=rng1 _ _ _ r;have f:=rng1 _ _ _ t;have g:=rng1 _ _ _ w;have v:=own8 _ z;have o:=own8 _ y;rw[ZO] at v o;unfold Vp.days at d;rw[List.all_eq_true] at d;have D:=pV _ (d e.cr (by simp));have m:=pV _ (d e.ex (by simp));have p:=pV _ (d e.used (by simp))
 have j:gS l:=fun n H=>by
  obtain⟨i,a,rfl⟩:=Wm H;have:=mD ha i a;unfold Vp.altAt at this;rw[Zx,ZN a,Option.getD_some] at this;simp only[ZT,ZU] at this
  omega
 refine⟨⟨?_,by omega,by omega,by omega,by omega,by omega,j,Xi x,by omega⟩,⟨v,o⟩,g.2,D.2,m.2,p.2,c.2,f.2⟩
 intro n H;simp only[Zw,List.not_mem_nil,or_false] at A
 unfold bK at H;simp only[Zw,List.not_mem_nil,or_false] at H
 rcases H with H|H|H|H|H|H|H|H|H|H|H|H|H|H
 .omega
 .omega
 .omega
 all_goals exact A n (by simp [H])
theorem km(e:En)(g:Z5 Gr)(h:Vp.prof e g=ZZ):ProfOk e g/\e.lev<=3/\e.owner.size<=8/\∀ x∈g,x.1.size<=8/\x.2.2<=3/\0<=x.2.2:=by
 unfold Vp.prof at h;simp only[ZT,ZU] at h
 obtain⟨f,j,o,d⟩:=h;have c:=rng1 _ _ _ j;have A:=own8 _ o;rw[ZO] at A
 have q:∀ x∈g,x.1.size<=8/\x.2.2<=3/\0<=x.2.2:=fun x H=>by
  obtain⟨i,a,rfl⟩:=Wm H;have:=mD f i a;unfold Vp.grAt at this;rw[ZN a] at this;simp only[ZT] at this
  have w:=word8 _ this.1;rw[ZO] at w;have r:=rng1 _ _ _ this.2.1;omega
 exact⟨⟨by omega,by omega,fun x H=>⟨by have:=q x H;omega,by have:=q x H;omega⟩,d⟩,c.2,A,q⟩
end Go.Proofs.YtnkjliahpeebjaaGreatDoor
namespace Go.Proofs.YtnkjliahpeebjaaGreatDoor
abbrev Fu:=En × Z5 Int × Z5 Gr
theorem dV(e f:En)(L c:Z5 Int)(g G:Z5 Gr):dh e f L c g G=ZZ↔e=f/\L=c/\g=G:=by
 constructor
 .intro h;unfold dh gj at h;simp only[ZT,beq_iff_eq,ZU,lM] at h
  cases e;cases f
  simp only[En.mk.injEq]
  simp only at h
  simp_all
 .rintro ⟨rfl,rfl,rfl⟩;unfold dh gj;simp
def fL(e:En)(L:Z5 Int)(g:Z5 Gr):Zi:=Ds.name (Z4 e.name)&&Vp.dat e L&&dh (fg e) e L L [] g
def gD(e:En)(L:Z5 Int)(g:Z5 Gr):Zi:=Ds.pat (Z4 e.name)&&Vp.prof e g&&dh (fG e) e [] L g g
def aA(x:Fu):Zi :=
 if x.1.kind=0 then fL x.1 x.2.1 x.2.2 else if x.1.kind=1 then fm x.1 x.2.1 x.2.2 else if x.1.kind=2 then eY x.1 x.2.1 x.2.2 else if x.1.kind=3 then fK x.1 x.2.1 x.2.2 else if x.1.kind=4 then gD x.1 x.2.1 x.2.2 else false
def dX(x:Fu):Z5 ZP :=
 if x.1.kind=0 then dW x.1 x.2.1 else if x.1.kind=1 then dG x.1 else if x.1.kind=2 then eD x.1 else if x.1.kind=3 then eR x.1 else dH x.1 x.2.2
def dL(x:Fu):Z5 ZP:=Ek.key x.1.kind (Z4 x.1.name)
def cJ(x:Fu):Z5 ZP:=dL x++dX x
def En.base(k:Int)(n:Z7):En:={ En.zero with kind:=k,name:=n }
def cS(k:Int)(n:Z7)(s:Z5 ZP × Nat):Fu × (Z5 ZP × Nat) :=
 if k=0 then (((dR (En.base k n) s).1,(dR (En.base k n) s).2.1,[]),(dR (En.base k n) s).2.2)
 else if k=1 then (((gL (En.base k n) s).1,[],[]),(gL (En.base k n) s).2)
 else if k=2 then (((iB (En.base k n) s).1,[],[]),(iB (En.base k n) s).2)
 else if k=3 then (((iH (En.base k n) s).1,[],[]),(iH (En.base k n) s).2)
 else (((fW (En.base k n) s).1,[],(fW (En.base k n) s).2.1),(fW (En.base k n) s).2.2)
theorem lu(x:Fu)(h:aA x=ZZ):0<=x.1.kind/\x.1.kind<=4:=by
 unfold aA at h;repeat' split at h
 all_goals first|omega|cases h
theorem Bb(e:En)(r:Z5 ZP)(h:Vp.grp e=ZZ):gL (En.base e.kind e.name) (dG e++r,0)=(eS e,(r,0)):=by
 unfold Vp.grp at h;simp only[ZT] at h
 obtain⟨⟨H,c⟩,d⟩:=h;have R:=rng1 _ _ _ H;have f:=rng1 _ _ _ c;have g:=mG _ d
 have E:dG e++r=YT e.lim.toNat++(YT e.last.toNat++(tb e.em::(YT (Z4 e.owner).length++(Z4 e.owner++r)))):=by
  unfold dG encs encs encs;rw[ZO];simp
 unfold gL eS;rw[E];simp only
 rw[W6 _ _ (by omega)];simp only
 rw[W6 _ _ (by omega)];simp only
 rw[show tb e.em=(if e.em then 1 else 0) from rfl,Rd.boo_tb];simp only
 rw[WG 200 _ _ (by omega) (by omega)];simp only
 rw[fT _ (by omega),fT _ (by omega),XA,Y6 (by omega),Y6 (by omega)];rfl
theorem BT(x:Fu)(r:Z5 ZP)(h:aA x=ZZ):cS x.1.kind x.1.name (dX x++r,0)=(x,(r,0)):=by
 obtain⟨e,l,g⟩:=x;unfold aA at h;unfold cS dX;simp only at h |-
 split at h
 .rename_i k;rw[ZX k,ZX k];unfold fL at h;simp only[ZT] at h
  obtain⟨⟨_,H⟩,c⟩:=h;obtain⟨q,-,d⟩:=(dV _ _ _ _ _ _).1 c;rw[show En.base e.kind e.name=({ En.zero with kind:=e.kind,name:=e.name }:En) from rfl,uf e l r (kx e l H).1,q,<-d]
 .rename_i k0;rw[Z0 k0,Z0 k0];split at h
  .rename_i k;rw[ZX k,ZX k];unfold fm at h;simp only[ZT] at h
   obtain⟨⟨_,H⟩,c⟩:=h;obtain⟨q,Q,d⟩:=(dV _ _ _ _ _ _).1 c;rw[Bb e r H,q,<-Q,<-d]
  .rename_i k1;rw[Z0 k1,Z0 k1];split at h
   .rename_i k;rw[ZX k,ZX k];unfold eY at h;simp only[ZT] at h
    obtain⟨⟨_,H⟩,c⟩:=h;obtain⟨q,Q,d⟩:=(dV _ _ _ _ _ _).1 c;have:=ka e H;rw[show En.base e.kind e.name=({ En.zero with kind:=e.kind,name:=e.name }:En) from rfl,ud e r (by omega),q,<-Q,<-d]
   .rename_i K;rw[Z0 K,Z0 K];split at h
    .rename_i k;rw[ZX k,ZX k];unfold fK at h;simp only[ZT] at h
     obtain⟨⟨_,H⟩,c⟩:=h;obtain⟨q,Q,d⟩:=(dV _ _ _ _ _ _).1 c;rw[show En.base e.kind e.name=({ En.zero with kind:=e.kind,name:=e.name }:En) from rfl,ue e r H,q,<-Q,<-d]
    .rename_i f;rw[Z0 f,Z0 f];split at h
     .unfold gD at h;simp only[ZT] at h
      obtain⟨⟨_,H⟩,c⟩:=h;obtain⟨q,Q,-⟩:=(dV _ _ _ _ _ _).1 c;rw[show En.base e.kind e.name=({ En.zero with kind:=e.kind,name:=e.name }:En) from rfl,ug e g r (km e g H).1,q,<-Q]
     .cases h
theorem iR(x:Fu)(h:aA x=ZZ):(Z4 x.1.name).length<=31/\32 ∉ Z4 x.1.name:=by
 have H:∀ s,Ds.name s=ZZ->s.length<=31/\32 ∉ s:=fun s h=>⟨((Ds.name_parts s).1 h).1.2,Ek.name_no32 s h⟩
 have p:∀ s,Ds.pat s=ZZ->s.length<=31/\32 ∉ s:=fun s h=>⟨((Ds.pat_parts s).1 h).1.2,Ek.pat_no32 s h⟩
 unfold aA at h;split at h
 .unfold fL at h;simp only[ZT] at h;exact H _ h.1.1
 split at h
 .unfold fm at h;simp only[ZT] at h;exact H _ ((Ds.group_parts _).1 h.1.1).1
 split at h
 .unfold eY Vp.nameA at h;simp only[ZT] at h;exact H _ h.1.1.1
 split at h
 .unfold fK Vp.nameC at h;simp only[ZT] at h;exact H _ h.1.1.1
 split at h
 .unfold gD at h;simp only[ZT] at h;exact p _ h.1.1
 .cases h
theorem ki(x:Fu)(h:aA x=ZZ):(dL x).length=32:=Ek.key_len _ _ (lu x h) (iR x h).1
theorem Ao(x:Fu)(h:aA x=ZZ):dL x=Ek.letter x.1.kind::Ek.pad (Z4 x.1.name)/\Ek.trim (Ek.pad (Z4 x.1.name))=Z4 x.1.name :=
 ⟨Ek.key_yes _ _ (lu x h) (iR x h).1,Ek.trim_pad _ (iR x h).2⟩
def iW(c:ZP):Option Int:=if c=68 then some 0 else if c=71 then some 1 else if c=65 then some 2 else if c=67 then some 3 else if c=80 then some 4 else none
theorem l7(k:Int)(h:0<=k/\k<=4):iW (Ek.letter k)=some k:=by
 rcases (by omega:k=0\/k=1\/k=2\/k=3\/k=4) with rfl|rfl|rfl|rfl|rfl <;> rfl
def eE(s:Z5 ZP):Z5 ZP:=Ek.trim ((s.drop 1).take 31)
def iu(k:Int)(s:Z5 ZP):Option Fu :=
 if Rd.fin (cS k ⟨(eE s).toArray⟩ (s.drop 32,0)).2=0/\aA (cS k ⟨(eE s).toArray⟩ (s.drop 32,0)).1=ZZ/\cJ (cS k ⟨(eE s).toArray⟩ (s.drop 32,0)).1=s then some (cS k ⟨(eE s).toArray⟩ (s.drop 32,0)).1 else none
def cF(s:Z5 ZP):Option Fu :=
 if 32<=s.length/\s.length<=200 then (match iW (s.headD 0) with|some k=>iu k s|none=>none) else none
theorem mb(s:Z5 ZP)(x:Fu)(h:cF s=some x):aA x=ZZ/\cJ x=s:=by
 unfold cF at h;split at h
 .split at h
  .unfold iu at h;split at h
   .rename_i H;cases h
    exact H.2
   .cases h
  .cases h
 .cases h
theorem om(x:Fu)(r:Z5 ZP)(h:aA x=ZZ):(cJ x++r).headD 0=Ek.letter x.1.kind/\eE (cJ x++r)=Z4 x.1.name/\(cJ x++r).drop 32=dX x++r:=by
 have H:=Ao x h;have c:=ki x h;have p:=Ek.pad_len _ (iR x h).1;have e:cJ x++r=dL x++(dX x++r):=by unfold cJ;rw[Zp]
 refine⟨?_,?_,?_⟩
 .rw[e,H.1];rfl
 .rw[e,H.1];unfold eE;rw[Zm,List.drop_succ_cons,V1];rw[List.take_append_of_le_length (by omega),List.take_of_length_le (by omega)];exact H.2
 .rw[e,List.drop_append_of_le_length (by omega),List.drop_of_length_le (by omega)];rfl
theorem BV(x:Fu)(h:aA x=ZZ)(e:(cJ x).length<=200):cF (cJ x)=some x:=by
 have H:=om x [] h;rw[YL,YL] at H;obtain⟨c,d,H⟩:=H;have z:32<=(cJ x).length:=by unfold cJ;rw[ZQ,ki x h];omega
 have r:=BT x [] h;rw[YL] at r;unfold cF;rw[ZX ⟨z,e⟩,c,l7 _ (lu x h)];simp only
 unfold iu;rw[d,H,XA,r];rw[ZX ⟨rfl,h,rfl⟩]
theorem dT(n k:Nat)(h:n<2 ^ (7*(k+1))):(YT n).length<=k+1:=Wi.enc_len k n h
theorem lr:∀ (l:Z5 Nat),(∀ n∈l,n<=1099511627776)->(encs l).length<=6*l.length
 | [],_=>by simp [encs]
 | n::r,h=>by
   have c:=dT n 5 (Wa (h n (by simp)) (by decide));have d:=lr r (fun m H=>h m (by simp [H]));simp only[encs,ZQ,ZK];omega
theorem pF:∀ (g:Z5 Gr),(∀ x∈g,x.1.size<=8/\x.2.2<=3/\0<=x.2.2)->(grs g).length<=11*g.length
 | [],_=>by simp [grs]
 | x::r,h=>by
   have c:=h x (by simp);have e:=dT x.1.size 0 (by omega);have E:=dT x.2.2.toNat 0 (by omega);have d:=pF r (fun m H=>h m (by simp [H]));simp only[grs,ZQ,ZK,YQ,ZO];omega
theorem oG(x:Fu)(h:aA x=ZZ):(dX x).length<=168:=by
 obtain⟨e,l,g⟩:=x;unfold aA at h;unfold dX;simp only at h |-
 split at h
 .rename_i k;rw[ZX k];unfold fL at h;simp only[ZT] at h
  obtain⟨H,v,E,r,q,J,_,_⟩:=kx e l h.1.2;have u:=jr _ H.n;have A:=lr _ u;have f:=lr _ (jr _ H.nl);rw[Zq] at A f;have L:(bK e).length=14:=rfl;have N:=H.nl4;have C:=dT e.cls.toNat 0 (by omega);have d:=dT e.vol.size 0 (by omega);have c:=dT e.own.size 0 (by omega);have i:=dT e.cr.toNat 2 (by omega);have z:=dT e.ex.toNat 2 (by omega);have B:=dT e.used.toNat 2 (by omega);have D:=dT l.length 0 (by omega);unfold dW iG;simp only[encs,ZQ,ZK,YQ,ZO]
  omega
 .rename_i k0;rw[Z0 k0];split at h
  .rename_i k;rw[ZX k];unfold fm Vp.grp at h;simp only[ZT] at h
   obtain⟨⟨_,⟨j,m⟩,o⟩,_⟩:=h;have R:=rng1 _ _ _ j;have O:=rng1 _ _ _ m;have y:=own8 _ o;have C:=dT e.lim.toNat 0 (by omega);have d:=dT e.last.toNat 1 (by omega);have c:=dT e.owner.size 0 (by rw[ZO] at y;omega);unfold dG;simp only[encs,ZQ,ZK,YQ]
   omega
  .rename_i k1;rw[Z0 k1];split at h
   .rename_i k;rw[ZX k];unfold eY at h;simp only[ZT] at h
    have:=ka e h.1.2;have c:=dT e.target.size 0 (by omega);unfold eD;simp only[ZQ,ZO]
    omega
   .rename_i K;rw[Z0 K];split at h
    .rename_i k;rw[ZX k];unfold fK at h;simp only[ZT] at h
     have R:=rng1 _ _ _ h.1.2;have c:=dT e.cat.toNat 0 (by omega);unfold eR;omega
    .rename_i w;rw[Z0 w];split at h
     .unfold gD at h;simp only[ZT] at h
      obtain⟨p,F,I,t⟩:=km e g h.1.2;have G:=p.g8;have pl:=p.l;have C:=dT e.lev.toNat 0 (by omega);have d:=dT e.owner.size 0 (by omega);have c:=dT g.length 0 (by omega);have i:=pF g t;unfold dH;simp only[ZQ,ZO]
      omega
     .cases h
theorem Bp(x:Fu)(h:aA x=ZZ):(cJ x).length<=200:=by
 have:=oG x h;have:=ki x h;unfold cJ;rw[ZQ];omega
end Go.Proofs.YtnkjliahpeebjaaGreatDoor
