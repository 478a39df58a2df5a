/- Catalogs. -/
import Derived.Test.YtnkjliahpeebjaaGreatDoorVaG
set_option maxRecDepth 8000
set_option maxHeartbeats 1600000
open Option renaming some->Z9,getD_some->VF
open _root_ renaming ByteArray->Z6,List->Z1,decide_eq_true_eq->ZU,if_neg->ZS,if_pos->ZP,UInt8->ZM,Bool->Zj,of_decide_eq_true->Wo
open Go.Proofs.YtnkjliahpeebjaaGreatDoor.Ds renaming bl->Z5,bl_length->ZZ,rest->XQ,mk_bl->Xd
open Bool renaming true->ZX,and_eq_true->ZQ
open Nat renaming le_refl->ZV,le_trans->ZC,lt_of_le_of_lt->Vx
open List renaming length_append->ZO,getElem?_eq_getElem->ZE,length_cons->Zw,append_assoc->Zr,getD_eq_getElem?_getD->Zm,cons_append->Zg,drop_eq_getElem_cons->Zb,length_map->Y4,mem_cons->YX,getElem_mem->YN,range->YK,getElem?_append_right->YH,append_nil->Yx,nil_append->Yn,length_nil->XX,getElem?_eq_none->XC,getElem_of_mem->WC,drop_length->Wy,replicate->V7,drop_zero->VG
open Go.Proofs.YtnkjliahpeebjaaGreatDoor.Rd renaming num->YZ,txt_enc->WE,num_enc->Ww
open Int renaming toNat_of_nonneg->YU,toNat->XF
open Go.Proofs.YtnkjliahpeebjaaGreatDoor.Wi renaming enc->YT
section
namespace Go.Proofs.YtnkjliahpeebjaaGreatDoor.Ek
open Ds
variable(k:Int)(l s n:Z1 ZM)
def letter(k:Int):ZM:=if k=0 then 68 else if k=1 then 71 else if k=2 then 65 else if k=3 then 67 else if k=4 then 80 else 0
def isKind(k:Int):Zj:=decide (0<=k)&&decide (k<=4)
def pad(n:Z1 ZM):Z1 ZM:=n++V7 (31 - n.length) 32
def key(k:Int)(n:Z1 ZM):Z1 ZM:=if isKind k=ZX/\n.length<=31 then letter k::pad n else []
def tlen(l:Z1 ZM):Nat->Nat
 | 0=>0
 | n+1=>if l[n]?=Z9 32 then tlen l n else n+1
def trim(l:Z1 ZM):Z1 ZM:=l.take (tlen l l.length)
theorem tlen_yes(n:Nat)(h:l[n]?=Z9 32):tlen l (n+1)=tlen l n:=by rw[tlen,ZP h]
theorem tlen_no(n:Nat)(h:l[n]?≠Z9 32):tlen l (n+1)=n+1:=by rw[tlen,ZS h]
theorem CQ(m:Nat):tlen (n++V7 m 32) (n.length+m)=tlen n n.length:=by
 have h:∀ j,j<=n.length->tlen (n++V7 m 32) j=tlen n j:=by
  intro j
  induction j with
  | zero=>intro _;rfl
  | succ j i =>
    intro d;rw[tlen,tlen,List.getElem?_append_left (by omega),i (by omega)]
 have H:∀ j,j<=m->tlen (n++V7 m 32) (n.length+j)=tlen n n.length:=by
  intro j
  induction j with
  | zero=>intro _;exact h _ (ZV _)
  | succ j i =>
    intro d;rw[<-Nat.add_assoc,tlen_yes _ _ (by rw[YH (by omega),List.getElem?_replicate,ZP (by omega)]),i (by omega)]
 exact H m (ZV _)
theorem Af(h:32 ∉ n):tlen n n.length=n.length:=by
 rcases n.eq_nil_or_concat with rfl|⟨a,b,rfl⟩
 .rfl
 .rw[List.concat_eq_append] at h |-;rw[ZO,List.length_singleton];refine tlen_no _ _ ?_
  rw[YH (ZV _)];intro e;simp at e
  subst e;exact h (by simp)
theorem trim_pad(h:32 ∉ n):trim (pad n)=n:=by
 unfold trim pad;rw[ZO,List.length_replicate,CQ,Af n h,List.take_left]
theorem pad_len(h:n.length<=31):(pad n).length=31:=by
 unfold pad;rw[ZO,List.length_replicate];omega
theorem og:∀ (s:Z1 ZM) (c:ZM),c∈s->c=46\/∃ q∈pieces s,c∈q
 | [],c,h=>by simp at h
 | d::r,c,h=>by
   by_cases e:d=46
   .rcases YX.1 h with rfl|h
    .exact Or.inl e
    .rcases og r c h with h|⟨q,H,f⟩
     .exact Or.inl h
     .refine Or.inr ⟨q,?_,f⟩
      rw[pieces,ZP e];exact List.mem_cons_of_mem _ H
   .rw[pieces,ZS e];rcases YX.1 h with rfl|h
    .refine Or.inr ?_
     cases pieces r with
     | nil=>exact⟨[c],by simp,by simp⟩
     | cons p P=>exact⟨c::p,by simp,by simp⟩
    .rcases og r c h with h|⟨q,H,f⟩
     .exact Or.inl h
     .refine Or.inr ?_
      cases g:pieces r with
      | nil=>rw[g] at H;simp at H
      | cons p P =>
        rw[g] at H;rcases YX.1 H with rfl|H
        .exact⟨d::q,by simp,by simp [f]⟩
        .exact⟨q,by simp [H],f⟩
theorem AX(c:ZM)(h:pls c=ZX):c≠32:=by
 rintro rfl;revert h;decide
theorem pat_no32(h:pat s=ZX):32 ∉ s:=by
 intro m;rcases og s 32 m with H|⟨q,e,d⟩
 .exact absurd H (by decide)
 .exact AX _ (BM q ((pat_parts s).1 h |>.2 q e) _ d) rfl
theorem name_no32(h:name s=ZX):32 ∉ s:=pat_no32 s (qe s h)
theorem key_yes(H:0<=k/\k<=4)(h:n.length<=31):key k n=letter k::pad n:=by
 unfold key isKind;rw[ZP (by simp;omega)]
theorem key_len(H:0<=k/\k<=4)(h:n.length<=31):(key k n).length=32:=by
 rw[key_yes k n H h,Zw,pad_len n h]
theorem letter_inj(j:Int)(d:0<=k/\k<=4)(H:0<=j/\j<=4)(h:letter k=letter j):k=j:=by
 rcases (by omega:k=0\/k=1\/k=2\/k=3\/k=4) with rfl|rfl|rfl|rfl|rfl <;>
 rcases (by omega:j=0\/j=1\/j=2\/j=3\/j=4) with rfl|rfl|rfl|rfl|rfl <;> first|rfl|(revert h;decide)
end Go.Proofs.YtnkjliahpeebjaaGreatDoor.Ek
end
namespace Go.Proofs.YtnkjliahpeebjaaGreatDoor
theorem lL(N:Z1 Nat)(r:Z1 ZM)(h:∀ n∈N,n<2 ^ 64):∀ k,k<=N.length->sq (encs N++r,0) k=(encs (N.drop k)++r,0)
 | 0,_=>rfl
 | k+1,H=>by
   rw[sq,lL N r h k (by omega),Zb (by omega:k<N.length),encs,Zr,Ww _ _ (h _ (YN _))]
theorem nr(N:Z1 Nat)(r:Z1 ZM)(h:∀ n∈N,n<=1099511627776)(k:Nat)(d:k<N.length):nq (encs N++r,0) k=(N[k]:Nat):=by
 have H:∀ n∈N,n<2 ^ 64:=fun n e=>Vx (h n e) (by decide)
 unfold nq;rw[lL N r H k (by omega),Zb d,encs,Zr,Ww _ _ (H _ (YN _))];simp only
 rw[fT _ (h _ (YN _))]
theorem DM(N:Z1 Nat)(r:Z1 ZM)(h:∀ n∈N,n<=1099511627776)(m:Nat)(e:m=N.length):cI (encs N++r,0) m=(N.map (fun n:Nat=>(n:Int)),(r,0)):=by
 subst e;have d:∀ n∈N,n<2 ^ 64:=fun n f=>Vx (h n f) (by decide)
 refine Prod.ext (List.ext_getElem? fun j=>?_) ?_
 .by_cases H:j<N.length
  .rw[pK _ _ j H,nr N r h j H,List.getElem?_map,ZE H];rfl
  .rw[XC (by rw[jD];omega),XC (by rw[Y4];omega)]
 .show (cI _ _).2=_
  rw[kA,lL N r d _ (ZV _),Wy];rfl
def gS(N:Z1 Int):Prop:=∀ n∈N,0<=n/\n<=1099511627776
theorem jr(N:Z1 Int)(h:gS N):∀ n∈N.map XF,n<=1099511627776:=fun n H=>by
 obtain⟨x,d,rfl⟩:=List.mem_map.1 H;have:=h x d;omega
theorem Al(N:Z1 Int)(h:gS N):(N.map XF).map (fun n:Nat=>(n:Int))=N:=by
 rw[List.map_map];refine (List.map_congr_left fun x H=>?_).trans (List.map_id _)
 have:=h x H;show ((x.toNat:Nat):Int)=id x
 rw[YU this.1];rfl
theorem FM(e f:En)(F:Nat->Int)(h:∀ k,k<14->F k=(bK f).getD k 0):setD e F={ e with d0:=f.d0,d1:=f.d1,d2:=f.d2,d3:=f.d3,d4:=f.d4,d5:=f.d5,d6:=f.d6,d7:=f.d7,d8:=f.d8,d9:=f.d9,d10:=f.d10,d11:=f.d11,d12:=f.d12,d13:=f.d13 }:=by
 unfold setD;rw[h 0 (by decide),h 1 (by decide),h 2 (by decide),h 3 (by decide),h 4 (by decide),h 5 (by decide),h 6 (by decide),h 7 (by decide),h 8 (by decide),h 9 (by decide),h 10 (by decide),h 11 (by decide),h 12 (by decide),h 13 (by decide)];rfl
structure DatOk (e:En) (l:Z1 Int):Prop where
 n:gS (bK e)
 c:0<=e.cls/\e.cls<=1099511627776
 v:e.vol.size<=200
 o:e.own.size<=200
 cr:0<=e.cr/\e.cr<=1099511627776
 ex:0<=e.ex/\e.ex<=1099511627776
 nl:gS l
 nl4:l.length<=4
 u:0<=e.used/\e.used<=1099511627776
def dW(e:En)(l:Z1 Int):Z1 ZM:=iG e l e.cls.toNat e.cr.toNat e.ex.toNat e.used.toNat
theorem uw(m x:Nat)(h:x<=m):cntv m x=x:=by unfold cntv;rw[ZS (by omega)]
theorem uf(e:En)(l:Z1 Int)(r:Z1 ZM)(h:DatOk e l):dR ({ En.zero with kind:=e.kind,name:=e.name }:En) (dW e l++r,0)=(fg e,l,(r,0)):=by
 obtain⟨H,t,w,v,g,x,p,i,u⟩:=h;have j:=jr _ H;have f:=jr _ p;have z:(bK e).length=14:=rfl;obtain⟨d,E⟩:∃ R,R=tb e.uq::(YT e.cls.toNat++(YT (Z5 e.vol).length++(Z5 e.vol++(YT (Z5 e.own).length++(Z5 e.own++(encs [e.cr.toNat,e.ex.toNat]++(tb e.ar::(YT l.length++(encs (l.map XF)++(YT e.used.toNat++r)))))))))):=⟨_,rfl⟩
 have q:dW e l++r=encs ((bK e).map XF)++d:=by
  rw[E];unfold dW iG;rw[ZZ,ZZ];simp only[Zr,Zg,Yn]
 have S:sq (encs ((bK e).map XF)++d,0) 14=(d,0):=by
  rw[lL _ _ (fun n H=>Vx (j n H) (by decide)) 14 (by rw[Y4,z];exact ZV _)];rfl
 have Q:setD ({ En.zero with kind:=e.kind,name:=e.name }:En) (nq (encs ((bK e).map Int.toNat)++d,0))={ ({ En.zero with kind:=e.kind,name:=e.name }:En) with d0:=e.d0,d1:=e.d1,d2:=e.d2,d3:=e.d3,d4:=e.d4,d5:=e.d5,d6:=e.d6,d7:=e.d7,d8:=e.d8,d9:=e.d9,d10:=e.d10,d11:=e.d11,d12:=e.d12,d13:=e.d13 }:=by
  refine FM _ e _ fun k o=>?_
  rw[nr _ d j k (by rw[Y4,z];exact o),List.getElem_map,Zm,ZE (by rw[z];exact o),VF,YU (H _ (YN _)).1]
 have m:∀ n∈[e.cr.toNat,e.ex.toNat],n<=1099511627776:=fun n H=>by
  rcases (by simpa using H:n=e.cr.toNat\/n=e.ex.toNat) with rfl|rfl <;> omega
 unfold dR;rw[q,S,Q,E];simp only
 rw[show tb e.uq=(if e.uq then 1 else 0) from rfl,Rd.boo_tb];simp only
 rw[Ww _ _ (by omega)];simp only
 rw[WE 200 _ _ (by rw[ZZ];omega) (by rw[ZZ];omega)];simp only
 rw[WE 200 _ _ (by rw[ZZ];omega) (by rw[ZZ];omega)];simp only
 rw[nr _ _ m 0 (by simp),nr _ _ m 1 (by simp),lL _ _ (fun n H=>Vx (m n H) (by decide)) 2 (by simp)];simp only[List.drop_succ_cons,VG,encs,Yn]
 rw[show tb e.ar=(if e.ar then 1 else 0) from rfl,Rd.boo_tb];simp only
 rw[Ww _ _ (by omega)];simp only
 rw[fT l.length (by omega),uw 4 _ i,DM _ _ f l.length (by rw[Y4]),Al l p];simp only
 rw[Ww _ _ (by omega)];simp only
 rw[fT _ (by omega),fT _ (by omega),Xd,Xd];simp only[En.sUq,En.sCls,En.sVol,En.sOwn,En.sCE,En.sAr,En.sUsed,fg,En.zero,List.getElem_cons_zero,List.getElem_cons_succ]
 rw[YU t.1,YU g.1,YU x.1,YU u.1]
def grs:Z1 Gr->Z1 ZM
 | []=>[]
 | x::r=>(YT x.1.size++Z5 x.1)++([tb x.2.1]++(YT x.2.2.toNat++grs r))
theorem jY:∀ (a b:Z1 Gr),grs (a++b)=grs a++grs b
 | [],b=>rfl
 | n::a,b=>by simp only[Zg,grs,jY a b,Zr,Yn]
def dH(e:En)(g:Z1 Gr):Z1 ZM:=YT e.lev.toNat++((YT e.owner.size++Z5 e.owner)++(YT g.length++grs g))
def iP(s:Z1 ZM × Nat):Gr × (Z1 ZM × Nat) :=
 let t:=Rd.txt 200 s
 let b:=Rd.boo t.2
 let n:=YZ b.2
 ((⟨t.1.toArray⟩,b.1,((clip n.1:Nat):Int)),n.2)
def dO(s:Z1 ZM × Nat):Nat->Z1 Gr × (Z1 ZM × Nat)
 | 0=>([],s)
 | k+1=>((dO s k).1++[(iP (dO s k).2).1],(iP (dO s k).2).2)
theorem o5(s:Z1 ZM × Nat):∀ k,(dO s k).1.length=k
 | 0=>rfl
 | k+1=>by rw[dO,ZO,o5 s k];rfl
theorem DL(s:Z1 ZM × Nat):(iP s).2.1.length<=s.1.length :=
 ZC (Rd.num_len _) (ZC (Rd.boo_len _) (Rd.txt_len 200 s).1)
theorem sI(s:Z1 ZM × Nat):∀ k,(dO s k).2.1.length<=s.1.length
 | 0=>ZV _
 | k+1=>ZC (DL _) (sI s k)
def En.sLev(e:En)(x:Int):En:={ e with lev:=x }
def En.sOwner(e:En)(x:Z6):En:={ e with owner:=x }
def fW(e:En)(s:Z1 ZM × Nat):En × Z1 Gr × (Z1 ZM × Nat) :=
 let a:=YZ s
 let t:=Rd.txt 200 a.2
 let n:=YZ t.2
 let l:=dO n.2 (cntv 8 (clip n.1))
 ((e.sLev (clip a.1)).sOwner ⟨t.1.toArray⟩,l.1,l.2)
structure GrOk (g:Gr):Prop where
 w:g.1.size<=200
 l:0<=g.2.2/\g.2.2<=1099511627776
theorem DK(g:Gr)(r:Z1 ZM)(h:GrOk g):iP (grs [g]++r,0)=(g,(r,0)):=by
 have d:=h.w;have H:=h.l;obtain⟨a,b,c⟩:=g;simp only at d H
 have e:grs [(a,b,c)]++r=YT (Z5 a).length++(Z5 a++(tb b::(YT c.toNat++r))):=by
  rw[ZZ];simp only[grs,Zr,Zg,Yn]
 unfold iP;rw[e,WE 200 _ _ (by rw[ZZ];omega) (by rw[ZZ];omega)];simp only
 rw[show tb b=(if b then 1 else 0) from rfl,Rd.boo_tb];simp only
 rw[Ww _ _ (by omega)];simp only
 rw[fT _ (by omega),Xd,YU H.1]
theorem tZ(g:Z1 Gr)(r:Z1 ZM)(h:∀ x∈g,GrOk x):∀ k,k<=g.length->dO (grs g++r,0) k=(g.take k,(grs (g.drop k)++r,0))
 | 0,_=>rfl
 | k+1,d=>by
   have H:k<g.length:=by omega
   have e:grs (g.drop k)++r=grs [g[k]]++(grs (g.drop (k+1))++r):=by
    rw[Zb H,show g[k]::g.drop (k+1)=[g[k]]++g.drop (k+1) from rfl,jY,Zr]
   rw[dO,tZ g r h k (by omega)];simp only
   rw[e,DK _ _ (h _ (YN _))];simp only
   rw[List.take_succ_eq_append_getElem H]
structure ProfOk (e:En) (g:Z1 Gr):Prop where
 l:0<=e.lev/\e.lev<=1099511627776
 o:e.owner.size<=200
 ng:∀ x∈g,GrOk x
 g8:g.length<=8
theorem ug(e:En)(g:Z1 Gr)(r:Z1 ZM)(h:ProfOk e g):fW ({ En.zero with kind:=e.kind,name:=e.name }:En) (dH e g++r,0)=(fG e,g,(r,0)):=by
 obtain⟨f,o,d,H⟩:=h
 have E:dH e g++r=YT e.lev.toNat++(YT (Z5 e.owner).length++(Z5 e.owner++(YT g.length++(grs g++r)))):=by
  unfold dH;rw[ZZ];simp only[Zr]
 unfold fW;rw[E,Ww _ _ (by omega)];simp only
 rw[WE 200 _ _ (by rw[ZZ];omega) (by rw[ZZ];omega)];simp only
 rw[Ww _ _ (by omega)];simp only
 rw[fT g.length (by omega),uw 8 _ H,tZ g r d _ (ZV _),List.take_length,Wy,fT _ (by omega),Xd];simp only[En.sLev,En.sOwner,fG,grs,Yn]
 rw[YU f.1]
end Go.Proofs.YtnkjliahpeebjaaGreatDoor
namespace Go.Proofs.YtnkjliahpeebjaaGreatDoor
variable(k:Z6 × Zj)(s:Z1 ZM)(c a:Int)(b:Z1 (Z6 × Zj))
namespace Vp
def altAt(l:Z1 Int)(i:Nat):Zj:=decide (1<=l.getD i 0)&&decide (l.getD i 0<=1099511627776)&&(decide (i=0) || decide (l.getD (i - 1) 0<l.getD i 0))
def alts(l:Z1 Int):Zj:=XQ (altAt l) (YK l.length) 0
def days(l:Z1 Int):Zj:=l.all Cal.isDay
def dat(e:En)(l:Z1 Int):Zj:=alts l&&(rng 0 1099511627776 [e.d3,e.d4,e.d5,e.d6,e.d7,e.d8,e.d9,e.d10,e.d11,e.d12,e.d13]&&(rng 1 1099511627776 [e.d0]&&(rng 0 3 [e.d1]&&(rng 0 2 [e.d2]&&(rng 0 3 [e.cls]&&(own (Z5 e.vol)&&(own (Z5 e.own)&&(days [e.cr,e.ex,e.used]&&decide (l.length<=4)))))))))
def gk(g:Gr):Z6 × Zj:=(g.1,g.2.1)
def among(k:Z6 × Zj)(b:Z1 (Z6 × Zj)):Zj:=b.any fun a=>decide (k=a)
def grAt(l:Z1 Gr)(i:Nat):Zj:=match l[i]? with
 | some g=>word (Z5 g.1)&&(rng 0 3 [g.2.2]&&!among (gk g) ((l.take i).map gk))
 | none=>false
def grs(l:Z1 Gr):Zj:=XQ (grAt l) (YK l.length) 0
def prof(e:En)(g:Z1 Gr):Zj:=grs g&&(rng 0 3 [e.lev]&&(own (Z5 e.owner)&&decide (g.length<=8)))
end Vp
theorem oF:Vp.among k b=ZX↔k∈b:=by
 unfold Vp.among;rw[List.any_eq_true];constructor
 .rintro ⟨a,ha,H⟩;rw[Wo H];exact ha
 .intro h;exact⟨k,h,decide_eq_true rfl⟩
theorem td(h:Vp.among k b=false):k ∉ b:=fun H=>by rw[(oF k b).2 H] at h;cases h
theorem mD{G:Nat->Zj}{n:Nat}(h:XQ G (YK n) 0=ZX):∀ i,i<n->G i=ZX:=by
 unfold XQ at h;simpa using h
theorem FH(l:Z1 Int)(h:Vp.rng c a l=ZX):∀ n∈l,c<=n/\n<=a:=by
 unfold Vp.rng at h;simpa using h
theorem word8(h:Vp.word s=ZX):s.length<=8:=by
 unfold Vp.word at h;rw[ZQ,ZU] at h;obtain⟨e,f⟩:=h;have j:=Ds.join_pieces s;obtain⟨q,d⟩:=List.length_eq_one_iff.1 f;rw[d] at j;have H:q=s:=by simpa [Lib.join] using j
 have:=((Ds.name_parts s).1 e).2 q (by rw[d];simp);rw[<-H];exact Ds.qual_le _ _ _ this
theorem own8(h:Vp.own s=ZX):s.length<=8:=by
 unfold Vp.own at h;rw[Bool.or_eq_true] at h;rcases h with h|h
 .rw[List.isEmpty_iff] at h;subst h;simp
 .exact word8 s h
theorem pV(n:Int)(h:Cal.isDay n=ZX):0<=n/\n<=65536:=(Cal.isDay_iff n).1 h
theorem kx(e:En)(l:Z1 Int)(h:Vp.dat e l=ZX):DatOk e l/\(e.vol.size<=8/\e.own.size<=8)/\e.cls<=3/\e.cr<=65536/\e.ex<=65536/\e.used<=65536/\e.d1<=3/\e.d2<=2:=by
 unfold Vp.dat at h;simp only[ZQ] at h
 obtain⟨ha,w,r,t,u,x,B,z,d,y⟩:=h;have A:=FH _ _ _ w;have C:=rng1 _ _ _ r;have f:=rng1 _ _ _ t;have g:=rng1 _ _ _ u;have j:=rng1 _ _ _ x;have v:=own8 _ B;have o:=own8 _ z;rw[ZZ] at v o;unfold Vp.days at d;rw[List.all_eq_true] at d;have D:=pV _ (d e.cr (by simp));have p:=pV _ (d e.ex (by simp));have q:=pV _ (d e.used (by simp))
 have m:gS l:=fun n H=>by
  obtain⟨i,a,rfl⟩:=WC H;have:=mD ha i a;unfold Vp.altAt at this;rw[Zm,ZE a,VF] at this;simp only[ZQ,ZU] at this
  omega
 refine⟨⟨?_,by omega,by omega,by omega,by omega,by omega,m,Wo y,by omega⟩,⟨v,o⟩,j.2,D.2,p.2,q.2,f.2,g.2⟩
 intro n H;simp only[YX,List.not_mem_nil,or_false] at A
 unfold bK at H;simp only[YX,List.not_mem_nil,or_false] at H
 rcases H with H|H|H|H|H|H|H|H|H|H|H|H|H|H
 .omega
 .omega
 .omega
 all_goals exact A n (by simp [H])
theorem km(e:En)(g:Z1 Gr)(h:Vp.prof e g=ZX):ProfOk e g/\e.lev<=3/\e.owner.size<=8/\∀ x∈g,x.1.size<=8/\x.2.2<=3/\0<=x.2.2:=by
 unfold Vp.prof at h;simp only[ZQ,ZU] at h
 obtain⟨j,m,o,f⟩:=h;have d:=rng1 _ _ _ m;have A:=own8 _ o;rw[ZZ] at A
 have q:∀ x∈g,x.1.size<=8/\x.2.2<=3/\0<=x.2.2:=fun x H=>by
  obtain⟨i,a,rfl⟩:=WC H;have:=mD j i a;unfold Vp.grAt at this;rw[ZE a] at this;simp only[ZQ] at this
  have w:=word8 _ this.1;rw[ZZ] at w;have r:=rng1 _ _ _ this.2.1;omega
 exact⟨⟨by omega,by omega,fun x H=>⟨by have:=q x H;omega,by have:=q x H;omega⟩,f⟩,d.2,A,q⟩
end Go.Proofs.YtnkjliahpeebjaaGreatDoor
namespace Go.Proofs.YtnkjliahpeebjaaGreatDoor
abbrev Fu:=En × Z1 Int × Z1 Gr
theorem dV(e f:En)(L d:Z1 Int)(g G:Z1 Gr):dh e f L d g G=ZX↔e=f/\L=d/\g=G:=by
 constructor
 .intro h;unfold dh gj at h;simp only[ZQ,beq_iff_eq,ZU,lM] at h
  cases e;cases f
  simp only[En.mk.injEq]
  simp only at h
  simp_all
 .rintro ⟨rfl,rfl,rfl⟩;unfold dh gj;simp
def fL(e:En)(L:Z1 Int)(g:Z1 Gr):Zj:=Ds.name (Z5 e.name)&&Vp.dat e L&&dh (fg e) e L L [] g
def gD(e:En)(L:Z1 Int)(g:Z1 Gr):Zj:=Ds.pat (Z5 e.name)&&Vp.prof e g&&dh (fG e) e [] L g g
def aA(x:Fu):Zj :=
 if x.1.kind=0 then fL x.1 x.2.1 x.2.2 else if x.1.kind=1 then fm x.1 x.2.1 x.2.2 else if x.1.kind=2 then eY x.1 x.2.1 x.2.2 else if x.1.kind=3 then fK x.1 x.2.1 x.2.2 else if x.1.kind=4 then gD x.1 x.2.1 x.2.2 else false
def dX(x:Fu):Z1 ZM :=
 if x.1.kind=0 then dW x.1 x.2.1 else if x.1.kind=1 then dG x.1 else if x.1.kind=2 then eD x.1 else if x.1.kind=3 then eR x.1 else dH x.1 x.2.2
def dL(x:Fu):Z1 ZM:=Ek.key x.1.kind (Z5 x.1.name)
def cJ(x:Fu):Z1 ZM:=dL x++dX x
def En.base(k:Int)(n:Z6):En:={ En.zero with kind:=k,name:=n }
def cS(k:Int)(n:Z6)(s:Z1 ZM × Nat):Fu × (Z1 ZM × Nat) :=
 if k=0 then (((dR (En.base k n) s).1,(dR (En.base k n) s).2.1,[]),(dR (En.base k n) s).2.2)
 else if k=1 then (((gL (En.base k n) s).1,[],[]),(gL (En.base k n) s).2)
 else if k=2 then (((iB (En.base k n) s).1,[],[]),(iB (En.base k n) s).2)
 else if k=3 then (((iH (En.base k n) s).1,[],[]),(iH (En.base k n) s).2)
 else (((fW (En.base k n) s).1,[],(fW (En.base k n) s).2.1),(fW (En.base k n) s).2.2)
theorem lu(x:Fu)(h:aA x=ZX):0<=x.1.kind/\x.1.kind<=4:=by
 unfold aA at h;repeat' split at h
 all_goals first|omega|cases h
theorem Bb(e:En)(r:Z1 ZM)(h:Vp.grp e=ZX):gL (En.base e.kind e.name) (dG e++r,0)=(eS e,(r,0)):=by
 unfold Vp.grp at h;simp only[ZQ] at h
 obtain⟨⟨H,d⟩,f⟩:=h;have R:=rng1 _ _ _ H;have g:=rng1 _ _ _ d;have i:=mG _ f
 have E:dG e++r=YT e.lim.toNat++(YT e.last.toNat++(tb e.em::(YT (Z5 e.owner).length++(Z5 e.owner++r)))):=by
  unfold dG encs encs encs;rw[ZZ];simp
 unfold gL eS;rw[E];simp only
 rw[Ww _ _ (by omega)];simp only
 rw[Ww _ _ (by omega)];simp only
 rw[show tb e.em=(if e.em then 1 else 0) from rfl,Rd.boo_tb];simp only
 rw[WE 200 _ _ (by omega) (by omega)];simp only
 rw[fT _ (by omega),fT _ (by omega),Xd,YU (by omega),YU (by omega)];rfl
theorem BT(x:Fu)(r:Z1 ZM)(h:aA x=ZX):cS x.1.kind x.1.name (dX x++r,0)=(x,(r,0)):=by
 obtain⟨e,l,g⟩:=x;unfold aA at h;unfold cS dX;simp only at h |-
 split at h
 .rename_i k;rw[ZP k,ZP k];unfold fL at h;simp only[ZQ] at h
  obtain⟨⟨_,H⟩,d⟩:=h;obtain⟨q,-,f⟩:=(dV _ _ _ _ _ _).1 d;rw[show En.base e.kind e.name=({ En.zero with kind:=e.kind,name:=e.name }:En) from rfl,uf e l r (kx e l H).1,q,<-f]
 .rename_i k0;rw[ZS k0,ZS k0];split at h
  .rename_i k;rw[ZP k,ZP k];unfold fm at h;simp only[ZQ] at h
   obtain⟨⟨_,H⟩,d⟩:=h;obtain⟨q,Q,f⟩:=(dV _ _ _ _ _ _).1 d;rw[Bb e r H,q,<-Q,<-f]
  .rename_i k1;rw[ZS k1,ZS k1];split at h
   .rename_i k;rw[ZP k,ZP k];unfold eY at h;simp only[ZQ] at h
    obtain⟨⟨_,H⟩,d⟩:=h;obtain⟨q,Q,f⟩:=(dV _ _ _ _ _ _).1 d;have:=ka e H;rw[show En.base e.kind e.name=({ En.zero with kind:=e.kind,name:=e.name }:En) from rfl,ud e r (by omega),q,<-Q,<-f]
   .rename_i K;rw[ZS K,ZS K];split at h
    .rename_i k;rw[ZP k,ZP k];unfold fK at h;simp only[ZQ] at h
     obtain⟨⟨_,H⟩,d⟩:=h;obtain⟨q,Q,f⟩:=(dV _ _ _ _ _ _).1 d;rw[show En.base e.kind e.name=({ En.zero with kind:=e.kind,name:=e.name }:En) from rfl,ue e r H,q,<-Q,<-f]
    .rename_i i;rw[ZS i,ZS i];split at h
     .unfold gD at h;simp only[ZQ] at h
      obtain⟨⟨_,H⟩,d⟩:=h;obtain⟨q,Q,-⟩:=(dV _ _ _ _ _ _).1 d;rw[show En.base e.kind e.name=({ En.zero with kind:=e.kind,name:=e.name }:En) from rfl,ug e g r (km e g H).1,q,<-Q]
     .cases h
theorem iR(x:Fu)(h:aA x=ZX):(Z5 x.1.name).length<=31/\32 ∉ Z5 x.1.name:=by
 have H:∀ s,Ds.name s=ZX->s.length<=31/\32 ∉ s:=fun s h=>⟨((Ds.name_parts s).1 h).1.2,Ek.name_no32 s h⟩
 have p:∀ s,Ds.pat s=ZX->s.length<=31/\32 ∉ s:=fun s h=>⟨((Ds.pat_parts s).1 h).1.2,Ek.pat_no32 s h⟩
 unfold aA at h;split at h
 .unfold fL at h;simp only[ZQ] at h;exact H _ h.1.1
 split at h
 .unfold fm at h;simp only[ZQ] at h;exact H _ ((Ds.group_parts _).1 h.1.1).1
 split at h
 .unfold eY Vp.nameA at h;simp only[ZQ] at h;exact H _ h.1.1.1
 split at h
 .unfold fK Vp.nameC at h;simp only[ZQ] at h;exact H _ h.1.1.1
 split at h
 .unfold gD at h;simp only[ZQ] at h;exact p _ h.1.1
 .cases h
theorem ki(x:Fu)(h:aA x=ZX):(dL x).length=32:=Ek.key_len _ _ (lu x h) (iR x h).1
theorem Ao(x:Fu)(h:aA x=ZX):dL x=Ek.letter x.1.kind::Ek.pad (Z5 x.1.name)/\Ek.trim (Ek.pad (Z5 x.1.name))=Z5 x.1.name :=
 ⟨Ek.key_yes _ _ (lu x h) (iR x h).1,Ek.trim_pad _ (iR x h).2⟩
def iW(c:ZM):Option Int:=if c=68 then Z9 0 else if c=71 then Z9 1 else if c=65 then Z9 2 else if c=67 then Z9 3 else if c=80 then Z9 4 else none
theorem l7(k:Int)(h:0<=k/\k<=4):iW (Ek.letter k)=Z9 k:=by
 rcases (by omega:k=0\/k=1\/k=2\/k=3\/k=4) with rfl|rfl|rfl|rfl|rfl <;> rfl
def eE(s:Z1 ZM):Z1 ZM:=Ek.trim ((s.drop 1).take 31)
def iu(k:Int)(s:Z1 ZM):Option Fu :=
 if Rd.fin (cS k ⟨(eE s).toArray⟩ (s.drop 32,0)).2=0/\aA (cS k ⟨(eE s).toArray⟩ (s.drop 32,0)).1=ZX/\cJ (cS k ⟨(eE s).toArray⟩ (s.drop 32,0)).1=s then Z9 (cS k ⟨(eE s).toArray⟩ (s.drop 32,0)).1 else none
def cF(s:Z1 ZM):Option Fu :=
 if 32<=s.length/\s.length<=200 then (match iW (s.headD 0) with|some k=>iu k s|none=>none) else none
theorem mb(s:Z1 ZM)(x:Fu)(h:cF s=Z9 x):aA x=ZX/\cJ x=s:=by
 unfold cF at h;split at h
 .split at h
  .unfold iu at h;split at h
   .rename_i H;cases h
    exact H.2
   .cases h
  .cases h
 .cases h
theorem om(x:Fu)(r:Z1 ZM)(h:aA x=ZX):(cJ x++r).headD 0=Ek.letter x.1.kind/\eE (cJ x++r)=Z5 x.1.name/\(cJ x++r).drop 32=dX x++r:=by
 have H:=Ao x h;have d:=ki x h;have p:=Ek.pad_len _ (iR x h).1;have e:cJ x++r=dL x++(dX x++r):=by unfold cJ;rw[Zr]
 refine⟨?_,?_,?_⟩
 .rw[e,H.1];rfl
 .rw[e,H.1];unfold eE;rw[Zg,List.drop_succ_cons,VG];rw[List.take_append_of_le_length (by omega),List.take_of_length_le (by omega)];exact H.2
 .rw[e,List.drop_append_of_le_length (by omega),List.drop_of_length_le (by omega)];rfl
theorem BV(x:Fu)(h:aA x=ZX)(f:(cJ x).length<=200):cF (cJ x)=Z9 x:=by
 have H:=om x [] h;rw[Yx,Yx] at H;obtain⟨d,e,H⟩:=H;have z:32<=(cJ x).length:=by unfold cJ;rw[ZO,ki x h];omega
 have r:=BT x [] h;rw[Yx] at r;unfold cF;rw[ZP ⟨z,f⟩,d,l7 _ (lu x h)];simp only
 unfold iu;rw[e,H,Xd,r];rw[ZP ⟨rfl,h,rfl⟩]
theorem dT(n k:Nat)(h:n<2 ^ (7*(k+1))):(YT n).length<=k+1:=Wi.enc_len k n h
theorem lr:∀ (l:Z1 Nat),(∀ n∈l,n<=1099511627776)->(encs l).length<=6*l.length
 | [],_=>by simp [encs]
 | n::r,h=>by
   have d:=dT n 5 (Vx (h n (by simp)) (by decide));have e:=lr r (fun m H=>h m (by simp [H]));simp only[encs,ZO,Zw];omega
theorem pF:∀ (g:Z1 Gr),(∀ x∈g,x.1.size<=8/\x.2.2<=3/\0<=x.2.2)->(grs g).length<=11*g.length
 | [],_=>by simp [grs]
 | x::r,h=>by
   have d:=h x (by simp);have e:=dT x.1.size 0 (by omega);have E:=dT x.2.2.toNat 0 (by omega);have f:=pF r (fun m H=>h m (by simp [H]));simp only[grs,ZO,Zw,XX,ZZ];omega
theorem oG(x:Fu)(h:aA x=ZX):(dX x).length<=168:=by
 obtain⟨e,l,g⟩:=x;unfold aA at h;unfold dX;simp only at h |-
 split at h
 .rename_i k;rw[ZP k];unfold fL at h;simp only[ZQ] at h
  obtain⟨H,w,F,r,t,L,_,_⟩:=kx e l h.1.2;have v:=jr _ H.n;have A:=lr _ v;have i:=lr _ (jr _ H.nl);rw[Y4] at A i;have N:(bK e).length=14:=rfl;have O:=H.nl4;have d:=dT e.cls.toNat 0 (by omega);have f:=dT e.vol.size 0 (by omega);have C:=dT e.own.size 0 (by omega);have j:=dT e.cr.toNat 2 (by omega);have B:=dT e.ex.toNat 2 (by omega);have D:=dT e.used.toNat 2 (by omega);have E:=dT l.length 0 (by omega);unfold dW iG;simp only[encs,ZO,Zw,XX,ZZ]
  omega
 .rename_i k0;rw[ZS k0];split at h
  .rename_i k;rw[ZP k];unfold fm Vp.grp at h;simp only[ZQ] at h
   obtain⟨⟨_,⟨m,o⟩,q⟩,_⟩:=h;have R:=rng1 _ _ _ m;have P:=rng1 _ _ _ o;have z:=own8 _ q;have d:=dT e.lim.toNat 0 (by omega);have f:=dT e.last.toNat 1 (by omega);have C:=dT e.owner.size 0 (by rw[ZZ] at z;omega);unfold dG;simp only[encs,ZO,Zw,XX]
   omega
  .rename_i k1;rw[ZS k1];split at h
   .rename_i k;rw[ZP k];unfold eY at h;simp only[ZQ] at h
    have:=ka e h.1.2;have C:=dT e.target.size 0 (by omega);unfold eD;simp only[ZO,ZZ]
    omega
   .rename_i K;rw[ZS K];split at h
    .rename_i k;rw[ZP k];unfold fK at h;simp only[ZQ] at h
     have R:=rng1 _ _ _ h.1.2;have C:=dT e.cat.toNat 0 (by omega);unfold eR;omega
    .rename_i y;rw[ZS y];split at h
     .unfold gD at h;simp only[ZQ] at h
      obtain⟨p,I,J,u⟩:=km e g h.1.2;have G:=p.g8;have pl:=p.l;have d:=dT e.lev.toNat 0 (by omega);have f:=dT e.owner.size 0 (by omega);have C:=dT g.length 0 (by omega);have j:=pF g u;unfold dH;simp only[ZO,ZZ]
      omega
     .cases h
theorem Bp(x:Fu)(h:aA x=ZX):(cJ x).length<=200:=by
 have:=oG x h;have:=ki x h;unfold cJ;rw[ZO];omega
end Go.Proofs.YtnkjliahpeebjaaGreatDoor
