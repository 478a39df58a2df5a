/- Catalogs. -/
import Derived.Test.YtnkjliahpeebjaaGreatDoorEc
import Derived.Test.YtnkjliahpeebjaaGreatDoorRsB
set_option maxRecDepth 8000
set_option maxHeartbeats 4000000
open Option renaming some->Z9,none->Z7
open Go.Proofs.Tryz renaming prog->Z8
open _root_ renaming ByteArray->Z6,List->Z1,decide_eq_true_eq->ZU,if_neg->ZS,if_pos->ZP,UInt8->ZM,beq_eq_false_iff_ne->ZJ,decide_eq_false_iff_not->ZF,Array->Zy
open Go.Proofs.YtnkjliahpeebjaaGreatDoor.Ds renaming bl->Z5,bl_length->ZZ,mk_bl->Xd
open Go renaming Value->Z2,World->ZY,Calls->ZH,bodyPost_ret->ZD,below_setRow->ZA,undef->YY
open Bool renaming true->ZX,false->ZW,and_eq_true->ZQ
open Nat renaming le_refl->ZV,le_trans->ZC,lt_or_ge->YG
open Go.RowKit.Below renaming refl->ZR,drew->Y3
open List renaming length_append->ZO,take_succ_eq_append_getElem->ZK,append_assoc->Zr,cons_append->Zg,drop_eq_getElem_cons->Zb,getElem_mem->YN,append_nil->Yx,nil_append->Yn,take_length->X0,drop_length->Wy
open Go.Proofs.YtnkjliahpeebjaaGreatDoor.En renaming base->Zi
open Go.Proofs.YtnkjliahpeebjaaGreatDoor.Rd renaming num->YZ,txt->Yu,boo->Yb,cnt->Xj,fin->WV,txt_enc->WE
open Go.Proofs.YtnkjliahpeebjaaGreatDoor.Wi renaming enc->YT,dec->VX
open Int renaming toNat->XF
namespace Go.Proofs.YtnkjliahpeebjaaGreatDoor
variable{P:Program}(b:Z6)(e:En)(c:Operand->Z2)(f l:Z1 Int)(s:Z1 ZM × Nat){j:Func}(r:Z1 ZM)(x m:Nat){q u p:Tmp}(w:ZY){n n':Nat}{a i:TypeId}{d k:TypeDesc}
theorem oS:∀ (l:Z1 ZM) (i a:Nat),(VX i a l).2=0->(VX i a l).1=0
 | [],_,_,_=>rfl
 | b::r,i,a,h=>by
   rw[VX] at h |-;split at h
   .rename_i c;rw[ZP c]
   .rename_i c;rw[ZS c];split at h
    .rename_i C;rw[ZP C]
    .rename_i C;rw[ZS C];split at h
     .rename_i g;rw[ZP g];split at h
      .rename_i o;rw[ZP o]
      .simp at h
     .rename_i g;rw[ZS g];exact oS r _ _ h
theorem BF(h:(YZ s).2.2≠0):(YZ s).1=0:=by
 unfold YZ at h |-;split at h
 .rename_i c;rw[ZP c];split at h
  .rename_i C;rw[ZP C];exact oS _ _ _ C
  .simp at h
 .rename_i c;rw[ZS c]
def rclip(n:Nat):Int:=if 1099511627776<n then -1 else (n:Int)
theorem BN(n:Nat)(h:n<=1099511627776):rclip n=n:=by unfold rclip;rw[ZS (by omega)]
def rN(s:Z1 ZM × Nat):Int × (Z1 ZM × Nat):=(rclip (YZ s).1,(YZ s).2)
theorem ik(n:Int)(r:Z1 ZM)(H:0<=n)(h:n<=1099511627776):rN (YT n.toNat++r,0)=(n,(r,0)):=by
 unfold rN;rw[Rd.num_enc _ _ (by omega)];simp only
 rw[BN _ (by omega),Int.toNat_of_nonneg H]
theorem il:(rN s).2.1.length<=s.1.length:=Rd.num_len s
def rL(s:Z1 ZM × Nat):Nat->Z1 Int × (Z1 ZM × Nat)
 | 0=>([],s)
 | k+1=>((rL s k).1++[(rN (rL s k).2).1],(rN (rL s k).2).2)
theorem qG(s:Z1 ZM × Nat):∀ k,(rL s k).1.length=k
 | 0=>rfl
 | k+1=>by rw[rL,ZO,qG s k];rfl
theorem mO(s:Z1 ZM × Nat):∀ k,(rL s k).2.1.length<=s.1.length
 | 0=>ZV _
 | k+1=>ZC (il _) (mO s k)
theorem wj(f:Z1 Int)(r:Z1 ZM)(h:gS f):∀ k,k<=f.length->rL (encs (f.map XF)++r,0) k=(f.take k,(encs ((f.drop k).map XF)++r,0))
 | 0,_=>rfl
 | k+1,o=>by
   have H:k<f.length:=by omega
   have g:=h _ (YN H);rw[rL,wj f r h k (by omega)];simp only
   rw[Zb H,List.map_cons,encs,Zr,ik _ _ g.1 g.2];simp only
   rw[ZK H]
theorem wh(h:gS f)(n:Nat)(H:n=f.length):rL (encs (f.map XF)++r,0) n=(f,(r,0)):=by
 rw[wj f r h n (by omega),H,X0,Wy];rfl
def fo(e:En)(s:Z1 ZM × Nat):En × (Z1 ZM × Nat) :=
 let a:=rN s
 let b:=rN a.2
 let c:=Yb b.2
 let d:=Yu 8 c.2
 ({ e with lim:=a.1,last:=b.1,em:=c.1,owner:=⟨d.1.toArray⟩ },d.2)
def fM(e:En)(s:Z1 ZM × Nat):En × (Z1 ZM × Nat):=({ e with target:=⟨(Rd.txt 31 s).1.toArray⟩ },(Rd.txt 31 s).2)
def fN(e:En)(s:Z1 ZM × Nat):En × (Z1 ZM × Nat):=({ e with cat:=(rN s).1 },(rN s).2)
def jo(s:Z1 ZM × Nat):Gr × (Z1 ZM × Nat) :=
 let t:=Yu 8 s
 let b:=Yb t.2
 let n:=rN b.2
 ((⟨t.1.toArray⟩,b.1,n.1),n.2)
theorem Ev:(jo s).2.1.length<=s.1.length :=
 ZC (il _) (ZC (Rd.boo_len _) (Rd.txt_len 8 s).1)
def dr(s:Z1 ZM × Nat):Nat->Z1 Gr × (Z1 ZM × Nat)
 | 0=>([],s)
 | k+1=>((dr s k).1++[(jo (dr s k).2).1],(jo (dr s k).2).2)
theorem pJ(s:Z1 ZM × Nat):∀ k,(dr s k).1.length=k
 | 0=>rfl
 | k+1=>by rw[dr,ZO,pJ s k];rfl
theorem tY(s:Z1 ZM × Nat):∀ k,(dr s k).2.1.length<=s.1.length
 | 0=>ZV _
 | k+1=>ZC (Ev _) (tY s k)
theorem Eu(g:Gr)(r:Z1 ZM)(h:GrOk g)(o:g.1.size<=8):jo (grs [g]++r,0)=(g,(r,0)):=by
 have H:=h.l;obtain⟨a,b,c⟩:=g;simp only at o H
 have E:grs [(a,b,c)]++r=YT (Z5 a).length++(Z5 a++(tb b::(YT c.toNat++r))):=by
  rw[ZZ];simp only[grs,Zr,Zg,Yn]
 unfold jo;rw[E,WE 8 _ _ (by rw[ZZ];omega) (by rw[ZZ];omega)];simp only
 rw[show tb b=(if b then 1 else 0) from rfl,Rd.boo_tb];simp only
 rw[ik _ _ H.1 H.2,Xd]
theorem vl(g:Z1 Gr)(r:Z1 ZM)(h:∀ x∈g,GrOk x/\x.1.size<=8):∀ k,k<=g.length->dr (grs g++r,0) k=(g.take k,(grs (g.drop k)++r,0))
 | 0,_=>rfl
 | k+1,t=>by
   have H:k<g.length:=by omega
   have E:grs (g.drop k)++r=grs [g[k]]++(grs (g.drop (k+1))++r):=by
    rw[Zb H,show g[k]::g.drop (k+1)=[g[k]]++g.drop (k+1) from rfl,jY,Zr]
   have o:=h _ (YN H);rw[dr,vl g r h k (by omega)];simp only
   rw[E,Eu _ _ o.1 o.2];simp only
   rw[ZK H]
def ey(e:En)(s:Z1 ZM × Nat):En × Z1 Gr × (Z1 ZM × Nat) :=
 let a:=rN s
 let t:=Yu 8 a.2
 let n:=Xj 8 t.2
 let l:=dr n.2 n.1
 ({ e with lev:=a.1,owner:=⟨t.1.toArray⟩ },l.1,l.2)
def ew(e:En)(s:Z1 ZM × Nat):En × Z1 Int × (Z1 ZM × Nat) :=
 let l:=rL s 14
 let u:=Yb l.2
 let c:=rN u.2
 let v:=Yu 8 c.2
 let o:=Yu 8 v.2
 let cr:=rN o.2
 let ex:=rN cr.2
 let ar:=Yb ex.2
 let n:=Xj 4 ar.2
 let A:=rL n.2 n.1
 let U:=rN A.2
 ({ e with d0:=l.1.getD 0 0,d1:=l.1.getD 1 0,d2:=l.1.getD 2 0,d3:=l.1.getD 3 0,d4:=l.1.getD 4 0,d5:=l.1.getD 5 0,d6:=l.1.getD 6 0,d7:=l.1.getD 7 0,d8:=l.1.getD 8 0,d9:=l.1.getD 9 0,d10:=l.1.getD 10 0,d11:=l.1.getD 11 0,d12:=l.1.getD 12 0,d13:=l.1.getD 13 0,uq:=u.1,cls:=c.1,vol:=⟨v.1.toArray⟩,own:=⟨o.1.toArray⟩,cr:=cr.1,ex:=ex.1,ar:=ar.1,used:=U.1 },A.1,U.2)
def dA(k:Int)(n:Z6)(s:Z1 ZM × Nat):Fu × (Z1 ZM × Nat) :=
 if k=0 then (((ew (Zi k n) s).1,(ew (Zi k n) s).2.1,[]),(ew (Zi k n) s).2.2)
 else if k=1 then (((fo (Zi k n) s).1,[],[]),(fo (Zi k n) s).2)
 else if k=2 then (((fM (Zi k n) s).1,[],[]),(fM (Zi k n) s).2)
 else if k=3 then (((fN (Zi k n) s).1,[],[]),(fN (Zi k n) s).2)
 else (((ey (Zi k n) s).1,[],(ey (Zi k n) s).2.1),(ey (Zi k n) s).2.2)
theorem CD(h:DatOk e l)(B:e.vol.size<=8)(A:e.own.size<=8):ew (Zi e.kind e.name) (dW e l++r,0)=(fg e,l,(r,0)):=by
 obtain⟨z,t,-,-,H,g,y,o,v⟩:=h
 have E:dW e l++r=encs ((bK e).map XF)++(tb e.uq::(YT e.cls.toNat++(YT (Z5 e.vol).length++(Z5 e.vol++(YT (Z5 e.own).length++(Z5 e.own++(YT e.cr.toNat++(YT e.ex.toNat++(tb e.ar::(YT l.length++(encs (l.map XF)++(YT e.used.toNat++r)))))))))))):=by
  unfold dW iG;rw[ZZ,ZZ];simp only[encs,Zr,Zg,Yn]
 unfold ew;rw[E,wh (bK e) _ z 14 rfl];simp only
 rw[show tb e.uq=(if e.uq then 1 else 0) from rfl,Rd.boo_tb];simp only
 rw[ik _ _ t.1 t.2];simp only
 rw[WE 8 _ _ (by rw[ZZ];omega) (by rw[ZZ];omega)];simp only
 rw[WE 8 _ _ (by rw[ZZ];omega) (by rw[ZZ];omega)];simp only
 rw[ik _ _ H.1 H.2];simp only
 rw[ik _ _ g.1 g.2];simp only
 rw[show tb e.ar=(if e.ar then 1 else 0) from rfl,Rd.boo_tb];simp only
 rw[Rd.cnt_enc 4 _ _ o (by omega)];simp only
 rw[wh l _ y l.length rfl];simp only
 rw[ik _ _ v.1 v.2,Xd,Xd];rfl
theorem CF(g:Z1 Gr)(r:Z1 ZM)(h:ProfOk e g)(z:e.owner.size<=8)(H:∀ x∈g,x.1.size<=8):ey (Zi e.kind e.name) (dH e g++r,0)=(fG e,g,(r,0)):=by
 obtain⟨o,-,y,v⟩:=h
 have E:dH e g++r=YT e.lev.toNat++(YT (Z5 e.owner).length++(Z5 e.owner++(YT g.length++(grs g++r)))):=by
  unfold dH;rw[ZZ];simp only[Zr]
 unfold ey;rw[E,ik _ _ o.1 o.2];simp only
 rw[WE 8 _ _ (by rw[ZZ];omega) (by rw[ZZ];omega)];simp only
 rw[Rd.cnt_enc 8 _ _ v (by omega)];simp only
 rw[vl g r (fun x t=>⟨y x t,H x t⟩) _ (ZV _),X0,Wy,Xd];rfl
theorem CE(h:Vp.grp e=ZX):fo (Zi e.kind e.name) (dG e++r,0)=(eS e,(r,0)):=by
 unfold Vp.grp at h;simp only[ZQ] at h
 obtain⟨⟨H,g⟩,o⟩:=h;have R:=rng1 _ _ _ H;have t:=rng1 _ _ _ g;have v:=own8 _ o
 have E:dG e++r=YT e.lim.toNat++(YT e.last.toNat++(tb e.em::(YT (Z5 e.owner).length++(Z5 e.owner++r)))):=by
  unfold dG encs encs encs;rw[ZZ];simp
 unfold fo;rw[E,ik _ _ (by omega) (by omega)];simp only
 rw[ik _ _ (by omega) (by omega)];simp only
 rw[show tb e.em=(if e.em then 1 else 0) from rfl,Rd.boo_tb];simp only
 rw[WE 8 _ _ (by omega) (by omega),Xd];rfl
theorem CB(h:e.target.size<=31):fM (Zi e.kind e.name) (eD e++r,0)=(gU e,(r,0)):=by
 have E:eD e++r=YT (Z5 e.target).length++(Z5 e.target++r):=by
  unfold eD;rw[ZZ,Zr]
 unfold fM;rw[E,WE 31 _ _ (by rw[ZZ];omega) (by rw[ZZ];omega),Xd];rfl
theorem CC(h:Vp.cat e=ZX):fN (Zi e.kind e.name) (eR e++r,0)=(gV e,(r,0)):=by
 have R:=rng1 _ _ _ h;unfold fN eR;rw[ik _ _ (by omega) (by omega)];rfl
theorem CH(x:Fu)(r:Z1 ZM)(h:aA x=ZX):dA x.1.kind x.1.name (dX x++r,0)=(x,(r,0)):=by
 obtain⟨e,l,g⟩:=x;unfold aA at h;unfold dA dX;simp only at h |-
 split at h
 .rename_i k;rw[ZP k,ZP k];unfold fL at h;simp only[ZQ] at h
  obtain⟨⟨_,H⟩,o⟩:=h;obtain⟨Q,-,v⟩:=(dV _ _ _ _ _ _).1 o;have y:=kx e l H;rw[CD e l r y.1 y.2.1.1 y.2.1.2,Q,<-v]
 .rename_i k0;rw[ZS k0,ZS k0];split at h
  .rename_i k;rw[ZP k,ZP k];unfold fm at h;simp only[ZQ] at h
   obtain⟨⟨_,H⟩,o⟩:=h;obtain⟨Q,t,v⟩:=(dV _ _ _ _ _ _).1 o;rw[CE e r H,Q,<-t,<-v]
  .rename_i k1;rw[ZS k1,ZS k1];split at h
   .rename_i k;rw[ZP k,ZP k];unfold eY at h;simp only[ZQ] at h
    obtain⟨⟨_,H⟩,o⟩:=h;obtain⟨Q,t,v⟩:=(dV _ _ _ _ _ _).1 o;have:=ka e H;rw[CB e r (by omega),Q,<-t,<-v]
   .rename_i K;rw[ZS K,ZS K];split at h
    .rename_i k;rw[ZP k,ZP k];unfold fK at h;simp only[ZQ] at h
     obtain⟨⟨_,H⟩,o⟩:=h;obtain⟨Q,t,v⟩:=(dV _ _ _ _ _ _).1 o;rw[CC e r H,Q,<-t,<-v]
    .rename_i A;rw[ZS A,ZS A];split at h
     .unfold gD at h;simp only[ZQ] at h
      obtain⟨⟨_,H⟩,o⟩:=h;obtain⟨Q,t,-⟩:=(dV _ _ _ _ _ _).1 o;have z:=km e g H;rw[CF e g r z.1 z.2.2.1 (fun x B=>(z.2.2.2 x B).1),Q,<-t]
     .cases h
def gY(k:Int)(s:Z1 ZM):Option Fu :=
 if WV (dA k ⟨(eE s).toArray⟩ (s.drop 32,0)).2=0/\aA (dA k ⟨(eE s).toArray⟩ (s.drop 32,0)).1=ZX/\cJ (dA k ⟨(eE s).toArray⟩ (s.drop 32,0)).1=s then Z9 (dA k ⟨(eE s).toArray⟩ (s.drop 32,0)).1 else Z7
theorem FS(s:Z1 ZM)(x:Fu)(H:aA x=ZX)(t:cJ x=s):gY x.1.kind s=Z9 x:=by
 subst t;have h:=om x [] H;rw[Yx,Yx] at h;obtain⟨-,o,h⟩:=h;have g:=CH x [] H;rw[Yx] at g;unfold gY;rw[o,h,Xd,g];rw[ZP ⟨rfl,H,rfl⟩]
theorem Ag(k:Int)(s:Z1 ZM)(x:Fu)(h:gY k s=Z9 x):aA x=ZX/\cJ x=s:=by
 unfold gY at h;split at h
 .rename_i c;cases h;exact c.2
 .cases h
theorem tw(s:Z1 ZM)(z:32<=s.length/\s.length<=200):cF s=(match iW (s.headD 0) with|some k=>gY k s|none=>Z7):=by
 cases g:iW (s.headD 0) with
 | none=>unfold cF;rw[ZP z,g]
 | some k =>
   simp only
   cases H:cF s with
   | some x =>
     obtain⟨o,h⟩:=mb s x H;have:=FS s x o h;have t:=om x [] o;rw[Yx,Yx,h] at t;rw[t.1,l7 _ (lu x o)] at g;cases g
     exact this.symm
   | none =>
     cases A:gY k s with
     | none=>rfl
     | some y =>
       obtain⟨v,h⟩:=Ag k s y A;rw[<-h,BV y v (Bp y v)] at H;cases H
section
open Go.RowKit
theorem dE(h:j.results=#[.tmp u,.cell p i])(A:P.underlying i=Z9 d)(o:(match d with|.struct _|.array _ _=>ZX|_=>ZW)=ZX)(v:(P.info? i).map (·.size)=Z9 (n+1))(t:Zy Z2)(w:ZY)(g:Nat)(z:t.getD p YY=.pointer (Z9 ⟨g,0,Z7⟩))(B:(row w g).size=n+1) :
 (results j t).run P w=.ok (.tuple #[t.getD u YY,.agg (row w g)]) w:=by
 have y:=jV w g n i d A o v B;have H:t[p]?.getD YY=.pointer (Z9 ⟨g,0,Z7⟩):=by simpa using z
 simp only[results,h]
 simp [H,asAddr,y]
theorem tv(h:j.results=#[.cell p i,.cell q a,.tmp u])(J:P.underlying i=Z9 d)(C:(match d with|.struct _|.array _ _=>ZX|_=>ZW)=ZX)(D:(P.info? i).map (·.size)=Z9 (n+1))(A:P.underlying a=Z9 k)(H:(match k with|.struct _|.array _ _=>ZX|_=>ZW)=ZX)(o:(P.info? a).map (·.size)=Z9 (n'+1))(t:Zy Z2)(w:ZY)(g G:Nat)(F:t.getD p YY=.pointer (Z9 ⟨g,0,Z7⟩))(I:t.getD q YY=.pointer (Z9 ⟨G,0,Z7⟩))(K:(row w g).size=n+1)(B:(row w G).size=n'+1) :
 (results j t).run P w=.ok (.tuple #[.agg (row w g),.agg (row w G),t.getD u YY]) w:=by
 have E:=jV w g n i d J C D K;have v:=jV w G n' a k A H o B;have y:t[p]?.getD YY=.pointer (Z9 ⟨g,0,Z7⟩):=by simpa using F
 have z:t[q]?.getD YY=.pointer (Z9 ⟨G,0,Z7⟩):=by simpa using I
 simp only[results,h]
 simp [y,z,asAddr,E,v]
theorem ie(h:j.results=#[.cell p i,.cell q a])(J:P.underlying i=Z9 d)(C:(match d with|.struct _|.array _ _=>ZX|_=>ZW)=ZX)(D:(P.info? i).map (·.size)=Z9 (n+1))(A:P.underlying a=Z9 k)(H:(match k with|.struct _|.array _ _=>ZX|_=>ZW)=ZX)(o:(P.info? a).map (·.size)=Z9 (n'+1))(t:Zy Z2)(w:ZY)(g G:Nat)(F:t.getD p YY=.pointer (Z9 ⟨g,0,Z7⟩))(I:t.getD q YY=.pointer (Z9 ⟨G,0,Z7⟩))(K:(row w g).size=n+1)(B:(row w G).size=n'+1) :
 (results j t).run P w=.ok (.tuple #[.agg (row w g),.agg (row w G)]) w:=by
 have E:=jV w g n i d J C D K;have v:=jV w G n' a k A H o B;have y:t[p]?.getD YY=.pointer (Z9 ⟨g,0,Z7⟩):=by simpa using F
 have z:t[q]?.getD YY=.pointer (Z9 ⟨G,0,Z7⟩):=by simpa using I
 simp only[results,h]
 simp [y,z,asAddr,E,v]
theorem Held.below{w w':ZY}{g:Nat}(h:Held w g n)(v:Below w.heap.size w w'):Held w' g n:=by
 obtain⟨t,F,H⟩:=fR h
 have o:g<w.heap.size:=by
  rcases YG g w.heap.size with k|k
  .exact k
  .rw[Array.getElem?_eq_none k] at H;cases H
 exact h.of_block (v.block _ o)
theorem Held.new(C:Zy Z2)(t:TypeId)(n:Nat)(H:C.size=n)(h:0<n):Held (w.alloc (.cells C t)) w.heap.size n:=⟨by rw[ak];exact H,h,fun o=>by simp⟩
theorem Held.lt{w:ZY}{g:Nat}(h:Held w g n):g<w.heap.size:=by
 obtain⟨t,F,H⟩:=fR h;rcases YG g w.heap.size with k|k
 .exact k
 .rw[Array.getElem?_eq_none k] at H;cases H
theorem Held.set{W:ZY}{g g':Nat}(h:Held W g n)(c:Zy Z2)(y:g'=g->c.size=n):Held (W.setRow g' c) g n:=by
 by_cases e:g'=g
 .subst e;refine⟨by rw[au h];exact y rfl,h.2.1,fun o=>?_⟩
  obtain⟨t,F,v⟩:=fR h;have H:=h.2.2 o;unfold World.frozen? at H |-;rw[v] at H;rw[setRow_heap W _ _ c t F v];exact H
 .exact h.of_block (cP W g' g c (fun q=>e q.symm))
theorem cT(W:ZY)(g g':Nat)(c:Zy Z2)(h:g≠g'):row (W.setRow g' c) g=row W g:=by
 unfold row;rw[cP W g' g c h]
theorem jM(dst x t pos af gd)(h:db (c x)=ZX)(H:(row w (bF (c x))).size=2) :
 (execOp c ⟨dst,.load 326 x,t,pos,af,gd⟩).run Z8 w=.ok (.value (.agg (row w (bF (c x))))) w :=
 kW c w _ 1 _ Tryz.underlying326 rfl (by kernel_rfl) dst x t pos af gd h H
theorem jR(dst x y t' pos af gd)(h:db (c x)=ZX)(H:Held w (bF (c x)) 2)(g:cV (c y)=ZX)(o:(bA (c y)).size=2)(t:bh (bA (c y)).toList=ZX) :
 (execOp c ⟨dst,.store 326 x y,t',pos,af,gd⟩).run Z8 w=.ok .skip (w.setRow (bF (c x)) (bA (c y))) :=
 kN c w _ 1 (by kernel_rfl) dst x y t' pos af gd h H g o t
attribute [local go_sem ↓] jM jR
attribute [local go_sem] bn aS aH aK aT ak aI aw az aM aQ aL aP aO aR
theorem ii(e:Int)(w:ZY):ZH Z8 341 #[.int .i64 e] w fun r W=>r=.returned (.agg #[.string ⟨#[]⟩,.int .i64 e])/\Below w.heap.size w W:=by
 go_enter Tryz.func341,Tryz.ntmps341
 go_wp2_with fail
 refine ZD (gN (n:=1) rfl Tryz.underlying326 rfl (by kernel_rfl) _ _ w.heap.size rfl (by rw[ak];rfl)) rfl ?_
 rw[ak];exact⟨rfl,by exact aB⟩
theorem Hs:ZH Z8 312 #[.agg #[.string b,.int .i64 x]] w fun r W=>r=.returned (.int .i64 (WV (Z5 b,x)))/\Below w.heap.size w W:=by
 have o:WV (Z5 b,x)=if x=0/\0<b.size then 11 else x:=by
  unfold WV;by_cases h:Z5 b=[]
  .have g:b.size=0:=by rw[<-ZZ,h];rfl
   rw[ZS (by simp [h]),ZS (by omega)]
  .have g:0<b.size:=by rw[<-ZZ];exact List.length_pos_iff.2 h
   by_cases H:x=0
   .rw[ZP ⟨H,h⟩,ZP ⟨H,g⟩]
   .rw[ZS (by simp [H]),ZS (by simp [H])]
 rw[o];clear o;by_cases H:x=0
 .subst H;by_cases g:0<b.size
  .have E:decide (0<b.size)=ZX:=by rw[ZU];omega
   rw[ZP ⟨rfl,g⟩];clear g;go_enter Tryz.func312,Tryz.ntmps312
   go_wp2_with fail
   go_ret
   exact⟨rfl,by exact aB⟩
  .have E:decide (0<b.size)=ZW:=by rw[ZF];omega
   rw[ZS (by omega:¬ (0=0/\0<b.size))];clear g;go_enter Tryz.func312,Tryz.ntmps312
   go_wp2_with fail
   go_ret
   exact⟨rfl,by exact aB⟩
 .have E:((x:Int)==0)=ZW:=by rw[ZJ];omega
  rw[ZS (by omega)];clear H;go_enter Tryz.func312,Tryz.ntmps312
  go_wp2_with fail
  go_ret
  exact⟨rfl,by exact aB⟩
theorem Ac(h:x≠0):ZH Z8 342 #[.agg #[.string b,.int .i64 x]] w fun r W=>r=.returned (.tuple #[.int .u64 0,.agg #[.string b,.int .i64 x]])/\Below w.heap.size w W:=by
 have E:((x:Int)==0)=ZW:=by rw[ZJ];omega
 clear h
 have H:Held ((w.alloc (.cells #[.string b,.int .i64 x] 326)).alloc (.cells #[.string ⟨#[]⟩,.int .i64 0] 326)) (w.heap.size+1) 2:=by
  have:=Held.new (w.alloc (.cells #[.string b,.int .i64 x] 326)) #[.string ⟨#[]⟩,.int .i64 0] 326 2 rfl (by decide);simpa using this
 go_enter Tryz.func342,Tryz.ntmps342
 go_wp2_with fail
 go_region
 all_goals
  go_wp2_with fail
  (refine ZD (dE (n:=1) rfl Tryz.underlying326 rfl (by kernel_rfl) _ _ (w.heap.size+1) rfl (by first|(rw[au H];rfl)|(rw[au (H).drew];rfl)|(rw[aw];rfl)|(rw[az,aw];rfl))) rfl ?_;(first|rw[au H]|rw[au (H).drew]|rw[aw]|rw[az,aw]))
  exact⟨rfl,ZA (by exact aB) (by omega) _⟩
theorem wadd(a c k:Nat)(h:c % 128*2 ^ (7*k)+a<2 ^ 64) :
 IntKind.u64.wrap ((a:Int)+IntKind.u64.wrap ((c:Int) % 128*2 ^ (7*k)))=((a+c % 128*2 ^ (7*k):Nat):Int):=by
 have e:(2:Nat) ^ 64=18446744073709551616:=by decide
 rw[e] at h;have H:((c:Int) % 128)*2 ^ (7*k)=((c % 128*2 ^ (7*k):Nat):Int):=by push_cast;rfl
 have g:IntKind.u64.wrap ((c % 128*2 ^ (7*k):Nat):Int)=((c % 128*2 ^ (7*k):Nat):Int):=IntWalk.u64_in _ ⟨by omega,by omega⟩;rw[H,g,<-Int.natCast_add];exact IntWalk.u64_in _ ⟨by omega,by omega⟩
theorem AM(hs:b.size<=10000):ZH Z8 342 #[.agg #[.string b,.int .i64 0]] w fun r w'=>∃ t:Z6,r=.returned (.tuple #[.int .u64 (YZ (Z5 b,0)).1,.agg #[.string t,.int .i64 (YZ (Z5 b,0)).2.2]])/\Z5 t=(YZ (Z5 b,0)).2.1/\Below w.heap.size w w':=by
 have HL:=lh (ZZ b)
 have Q:∀ r:Nat × Nat,VX 0 0 (Z5 b)=r->r.2=0->YZ (Z5 b,0)=(0,([],11)):=fun r D h2=>by
  rw[Rd.num_none _ rfl (by simp only;rw[D];exact h2)];rw[oS _ 0 0 (by simp only;rw[D];exact h2)]
 have F:∀ (v k:Nat),VX 0 0 (Z5 b)=(v,k+1)->YZ (Z5 b,0)=(v,(Z5 b).drop (k+1),0):=fun v k D=>by
  rw[Rd.num_some _ rfl (by simp only;rw[D];simp)];simp only
  rw[D]
 have A:Held ((w.alloc (.cells #[.string b,.int .i64 0] 326)).alloc (.cells #[.string ⟨#[]⟩,.int .i64 0] 326)) (w.heap.size+1) 2:=by
  have:=Held.new (w.alloc (.cells #[.string b,.int .i64 0] 326)) #[.string ⟨#[]⟩,.int .i64 0] 326 2 rfl (by decide);simpa using this
 have O:=lh Q;have S:=lh F;clear Q F;generalize YZ (Z5 b,0)=rr at O S |-;go_enter Tryz.func342,Tryz.ntmps342
 go_wp2_with fail
 go_loopw [4,5,6] (fun n i _ wr=>∃ k a:Nat,k<=b.size/\k<=10/\i=.int .i64 k/\n=.int .u64 a/\(k<=9->a<2 ^ (7*k))/\VX 0 0 (Z5 b)=VX k a ((Z5 b).drop k)/\wr=((w.alloc (.cells #[.string b,.int .i64 0] 326)).alloc (.cells #[.string ⟨#[]⟩,.int .i64 0] 326))) (fun _ i _ _=>10 - (intOf i).toNat)
 case atStart=>exact⟨0,0,by omega,by omega,rfl,rfl,by intro _;decide,rfl,rfl⟩
 case round =>
  obtain⟨k,a,hk,a0,rfl,rfl,ha,hd,rfl⟩:=hrel;have HA:=lh ha;have V:=lh hd;clear ha hd;by_cases a1:k<10
  .by_cases N:k<b.size
   .have L:(Z5 b).drop k=b[k]::(Z5 b).drop (k+1):=by
     rw[Zb (by rw[HL.o];exact N),Ds.bl_get b k N]
    have g:=V.o.trans (by rw[L]);rw[VX,ZS (by omega)] at g;have hb:=b[k].toNat_lt;have ha:=HA.o (by omega);clear L;by_cases C:k=9/\1<b[k].toNat
    .obtain⟨rfl,D⟩:=C;rw[ZP ⟨rfl,D⟩] at g;obtain rfl:=O.o _ g rfl;have e1:decide ((1:Int)<(b[9].toNat:Int))=ZX:=by simp;omega
     have l9:(9:Int)<(b.size:Int):=by omega
     clear g ha D;go_wp2_with (go_at_call 341;(with_reducible refine (ii _ _).mono ?_);rintro _ Y ⟨rfl,H⟩;have y:=A.below H;have G:=below2 H;clear H)
     (refine ZD (dE (n:=1) rfl Tryz.underlying326 rfl (by kernel_rfl) _ _ (w.heap.size+1) rfl (by first|(rw[au y];rfl)|(rw[au (y).drew];rfl)|(rw[aw];rfl)|(rw[az,aw];rfl))) rfl ?_;(first|rw[au y]|rw[au (y).drew]|rw[aw]|rw[az,aw]))
     exact⟨⟨#[]⟩,rfl,rfl,ZA G (by omega) _⟩
    rw[ZS C] at g
    have f2:b[k].toNat % 128*2 ^ (7*k)+a<2 ^ 64:=by
     rcases (by omega:k<=8\/k=9) with B|rfl
     .exact (fit8 a b[k].toNat k B ha).2
     .exact fit9 a b[9].toNat (by omega) ha
    have X:=wadd a b[k].toNat k f2
    have J:((k:Int)==9&&decide ((1:Int)<(b[k].toNat:Int)))=ZW:=by
     rw[Bool.and_eq_false_iff,ZJ,ZF];omega
    have E:((k:Int)==9)=ZX->decide ((1:Int)<(b[k].toNat:Int))=ZW:=fun h=>by rw[h,Bool.true_and] at J;exact J
    have H9:Hid (k<=8->b[k].toNat % 128*2 ^ (7*k)+a<2 ^ (7*(k+1))):=lh (fun B=>(fit8 a b[k].toNat k B ha).1);have U:=lh C;clear f2 ha C;by_cases o:b[k].toNat<128
    .rw[ZP o] at g;have e2:decide ((b[k].toNat:Int)<128)=ZX:=by rw[ZU];omega
     by_cases I:b[k].toNat=0/\0<k
     .rw[ZP I] at g;obtain rfl:=O.o _ g rfl;have e0:((b[k].toNat:Int)==0)=ZX:=by simp [I.1]
      have k0:=I.2;have HW:=lh X;clear g I o X;cases R:((k:Int)==9)
      all_goals
       try rw[R] at E
       try have K:=E rfl
       clear E J;go_wp2_with (go_at_call 341;(with_reducible refine (ii _ _).mono ?_);rintro _ Y ⟨rfl,H⟩;have y:=A.below H;have G:=below2 H;clear H)
       (refine ZD (dE (n:=1) rfl Tryz.underlying326 rfl (by kernel_rfl) _ _ (w.heap.size+1) rfl (by first|(rw[au y];rfl)|(rw[au (y).drew];rfl)|(rw[aw];rfl)|(rw[az,aw];rfl))) rfl ?_;(first|rw[au y]|rw[au (y).drew]|rw[aw]|rw[az,aw]))
       exact⟨⟨#[]⟩,rfl,rfl,ZA G (by omega) _⟩
     .rw[ZS I] at g;obtain rfl:=S.o _ _ g;have HB:=lh (jx b (k+1));have HV:=lh X;have v0:Hid (k=0->((a:Int)+(b[k].toNat:Int) % 128)=((a+b[k].toNat % 128*2 ^ (7*k):Nat):Int)):=lh (fun h=>by subst h;simp);have l1:(k:Int)+1<=(b.size:Int):=by omega
      rcases (by omega:b[k].toNat≠0\/k=0) with T|T
      .have e0:((b[k].toNat:Int)==0)=ZW:=by simpa using T
       clear I T g o;cases R:((k:Int)==9)
       all_goals
        try rw[R] at E
        try have K:=E rfl
        clear E J;go_wp2_with fail
        go_region
        all_goals
         go_wp2_with fail
         (refine ZD (dE (n:=1) rfl Tryz.underlying326 rfl (by kernel_rfl) _ _ (w.heap.size+1) rfl (by first|(rw[au A];rfl)|(rw[au (A).drew];rfl)|(rw[aw];rfl)|(rw[az,aw];rfl))) rfl ?_;(first|rw[au A]|rw[au (A).drew]|rw[aw]|rw[az,aw]))
         exact⟨_,rfl,HB.o,by (first|exact ZA (by exact aB) (by omega) _|(exact aB))⟩
      .subst T
       have W:Hid (IntKind.u64.wrap ((a:Int)+(b[0].toNat:Int) % 128)=(a:Int)+(b[0].toNat:Int) % 128):=lh (by
        have:=HA.o (by decide);simp only[Nat.mul_zero,Nat.pow_zero] at this
        rw[IntKind.wrap_u64];omega)
       cases a2:((b[0].toNat:Int)==0)
       all_goals
        clear I g o E J;go_wp2_with fail
        go_region
        all_goals
         go_wp2_with fail
         (refine ZD (dE (n:=1) rfl Tryz.underlying326 rfl (by kernel_rfl) _ _ (w.heap.size+1) rfl (by first|(rw[au A];rfl)|(rw[au (A).drew];rfl)|(rw[aw];rfl)|(rw[az,aw];rfl))) rfl ?_;(first|rw[au A]|rw[au (A).drew]|rw[aw]|rw[az,aw]))
         exact⟨b.extract 1 b.size,congrArg (fun z=>Ending.returned (.tuple #[.int .u64 z,.agg #[.string (b.extract 1 b.size),.int .i64 0]])) W.o,by rw[jx];exact List.drop_one,ZA (by exact aB) (by omega) _⟩
    .rw[ZS o] at g;have e2:decide ((b[k].toNat:Int)<128)=ZW:=by rw[ZF];omega
     have HR:=lh g
     have B:k<=8:=by
      rcases (by omega:k<=8\/k=9) with h|h
      .exact h
      .exact absurd ⟨h,by omega⟩ U.o
     have Z:=lh (H9.o B);rw[Nat.add_comm] at Z;cases R:((k:Int)==9)
     all_goals
      try rw[R] at E
      try have K:=E rfl
      clear E J g o;go_wp2_with fail
      go_roundw
      case rel=>exact⟨k+1,_,by omega,by omega,by go_num,rfl,fun _=>Z.o,HR.o,trivial⟩
      case measure=>simp [intOf];omega
   .have g:=V.o.trans (show VX k a ((Z5 b).drop k)=(0,0) by rw[List.drop_of_length_le (by rw[HL.o];omega)];rfl);obtain rfl:=O.o _ g rfl;obtain rfl:k=b.size:=by omega
    clear g;go_wp2_with (go_at_call 341;(with_reducible refine (ii _ _).mono ?_);rintro _ Y ⟨rfl,H⟩;have y:=A.below H;have G:=below2 H;clear H)
    (refine ZD (dE (n:=1) rfl Tryz.underlying326 rfl (by kernel_rfl) _ _ (w.heap.size+1) rfl (by first|(rw[au y];rfl)|(rw[au (y).drew];rfl)|(rw[aw];rfl)|(rw[az,aw];rfl))) rfl ?_;(first|rw[au y]|rw[au (y).drew]|rw[aw]|rw[az,aw]))
    exact⟨⟨#[]⟩,rfl,rfl,ZA G (by omega) _⟩
  .obtain rfl:k=10:=by omega
   have g:=V.o.trans (show VX 10 a ((Z5 b).drop 10)=(0,0) by cases (Z5 b).drop 10 <;> rfl);obtain rfl:=O.o _ g rfl;clear g;go_wp2_with (go_at_call 341;(with_reducible refine (ii _ _).mono ?_);rintro _ Y ⟨rfl,H⟩;have y:=A.below H;have G:=below2 H;clear H)
   all_goals
    (refine ZD (dE (n:=1) rfl Tryz.underlying326 rfl (by kernel_rfl) _ _ (w.heap.size+1) rfl (by first|(rw[au y];rfl)|(rw[au (y).drew];rfl)|(rw[aw];rfl)|(rw[az,aw];rfl))) rfl ?_;(first|rw[au y]|rw[au (y).drew]|rw[aw]|rw[az,aw]))
    exact⟨⟨#[]⟩,rfl,rfl,ZA G (by omega) _⟩
theorem sM(g:b.size<=10000):ZH Z8 342 #[.agg #[.string b,.int .i64 x]] w fun r W=>∃ t:Z6,r=.returned (.tuple #[.int .u64 (YZ (Z5 b,x)).1,.agg #[.string t,.int .i64 (YZ (Z5 b,x)).2.2]])/\Z5 t=(YZ (Z5 b,x)).2.1/\Below w.heap.size w W:=by
 by_cases h:x=0
 .subst h;exact AM b w g
 .rw[Rd.num_bad _ h];refine (Ac b x w h).mono ?_
  rintro r W ⟨rfl,H⟩;exact⟨b,rfl,rfl,H⟩
theorem mQ(J:b.size<=10000):ZH Z8 332 #[.agg #[.string b,.int .i64 x]] w fun r W=>∃ t:Z6,r=.returned (.tuple #[.bool (Yb (Z5 b,x)).1,.agg #[.string t,.int .i64 (Yb (Z5 b,x)).2.2]])/\Z5 t=(Yb (Z5 b,x)).2.1/\Below w.heap.size w W:=by
 have g:Held ((w.alloc (.cells #[.string b,.int .i64 x] 326)).alloc (.cells #[.string ⟨#[]⟩,.int .i64 0] 326)) (w.heap.size+1) 2:=by
  have:=Held.new (w.alloc (.cells #[.string b,.int .i64 x] 326)) #[.string ⟨#[]⟩,.int .i64 0] 326 2 rfl (by decide);simpa using this
 by_cases C:x=0
 .subst C;by_cases A:0<b.size
  .have z:Z5 b=b[0]::(Z5 b).drop 1:=by
    have:=Zb (i:=0) (l:=Z5 b) (by rw[ZZ];exact A);rw[List.drop_zero,<-Ds.bl_get b 0 A] at this;exact this
   have D:=lh (show Z5 (b.extract 1 b.size)=(Z5 b).drop 1 from jx b 1);by_cases v:1<b[0].toNat
   .have H:Yb (Z5 b,0)=(ZW,([],11)):=by unfold Yb;rw[ZP rfl];simp only;rw[z];simp only;rw[ZP v]
    rw[H];have F:decide ((1:Int)<(b[0].toNat:Int))=ZX:=by rw[ZU];omega
    have E:((b.size:Int)==0)=ZW:=by rw[ZJ];omega
    clear H z v;go_enter Tryz.func332,Tryz.ntmps332
    go_wp2_with (go_at_call 341;(with_reducible refine (ii _ _).mono ?_);rintro _ I ⟨rfl,h⟩;have o:=g.below h;have B:=below2 h;clear h)
    (refine ZD (dE (n:=1) rfl Tryz.underlying326 rfl (by kernel_rfl) _ _ (w.heap.size+1) rfl (by first|(rw[au o];rfl)|(rw[au (o).drew];rfl)|(rw[aw];rfl)|(rw[az,aw];rfl))) rfl ?_;(first|rw[au o]|rw[au (o).drew]|rw[aw]|rw[az,aw]))
    exact⟨⟨#[]⟩,rfl,rfl,ZA B (by omega) _⟩
   .have H:Yb (Z5 b,0)=(decide (b[0].toNat=1),((Z5 b).drop 1,0)):=by unfold Yb;rw[ZP rfl];simp only;rw[z];simp only;rw[ZS v];rfl
    rw[H];have F:decide ((1:Int)<(b[0].toNat:Int))=ZW:=by rw[ZF];omega
    have E:((b.size:Int)==0)=ZW:=by rw[ZJ];omega
    have G:((b[0].toNat:Int)==1)=decide (b[0].toNat=1):=by rw[Bool.eq_iff_iff,beq_iff_eq,ZU];omega
    have L:(1:Int)<=(b.size:Int):=by omega
    clear H z v;generalize decide (b[0].toNat=1)=y at G |-;go_enter Tryz.func332,Tryz.ntmps332
    go_wp2_with fail
    go_region
    all_goals
     go_wp2_with fail
     (refine ZD (dE (n:=1) rfl Tryz.underlying326 rfl (by kernel_rfl) _ _ (w.heap.size+1) rfl (by first|(rw[au g];rfl)|(rw[au (g).drew];rfl)|(rw[aw];rfl)|(rw[az,aw];rfl))) rfl ?_;(first|rw[au g]|rw[au (g).drew]|rw[aw]|rw[az,aw]))
     exact⟨_,rfl,D.o,by (first|exact ZA (by exact aB) (by omega) _|(exact aB))⟩
  .have H:Yb (Z5 b,0)=(ZW,([],11)):=by
    have:Z5 b=[]:=List.eq_nil_of_length_eq_zero (by rw[ZZ];omega);rw[this];rfl
   rw[H];have E:((b.size:Int)==0)=ZX:=by rw[beq_iff_eq];omega
   clear H A;go_enter Tryz.func332,Tryz.ntmps332
   go_wp2_with (go_at_call 341;(with_reducible refine (ii _ _).mono ?_);rintro _ I ⟨rfl,h⟩;have o:=g.below h;have B:=below2 h;clear h)
   (refine ZD (dE (n:=1) rfl Tryz.underlying326 rfl (by kernel_rfl) _ _ (w.heap.size+1) rfl (by first|(rw[au o];rfl)|(rw[au (o).drew];rfl)|(rw[aw];rfl)|(rw[az,aw];rfl))) rfl ?_;(first|rw[au o]|rw[au (o).drew]|rw[aw]|rw[az,aw]))
   exact⟨⟨#[]⟩,rfl,rfl,ZA B (by omega) _⟩
 .have H:Yb (Z5 b,x)=(ZW,(Z5 b,x)):=by unfold Yb;rw[ZS C]
  rw[H];have E:((x:Int)==0)=ZW:=by rw[ZJ];omega
  clear C H;go_enter Tryz.func332,Tryz.ntmps332
  go_wp2_with fail
  go_region
  all_goals
   go_wp2_with fail
   (refine ZD (dE (n:=1) rfl Tryz.underlying326 rfl (by kernel_rfl) _ _ (w.heap.size+1) rfl (by first|(rw[au g];rfl)|(rw[au (g).drew];rfl)|(rw[aw];rfl)|(rw[az,aw];rfl))) rfl ?_;(first|rw[au g]|rw[au (g).drew]|rw[aw]|rw[az,aw]))
   exact⟨b,rfl,rfl,ZA (by exact aB) (by omega) _⟩
theorem pe(S:b.size<=10000)(Y:m<=1000):ZH Z8 335 #[.agg #[.string b,.int .i64 x],.int .i64 m] w fun r V=>∃ t:Z6,r=.returned (.tuple #[.int .i64 (Xj m (Z5 b,x)).1,.agg #[.string t,.int .i64 (Xj m (Z5 b,x)).2.2]])/\Z5 t=(Xj m (Z5 b,x)).2.1/\Below w.heap.size w V:=by
 have G:Held ((w.alloc (.cells #[.string b,.int .i64 x] 326)).alloc (.cells #[.string ⟨#[]⟩,.int .i64 0] 326)) (w.heap.size+1) 2:=by
  have:=Held.new (w.alloc (.cells #[.string b,.int .i64 x] 326)) #[.string ⟨#[]⟩,.int .i64 0] 326 2 rfl (by decide);simpa using this
 have E:=fun W=>sM b x W S
 have J:Xj m (Z5 b,x)=(if (YZ (Z5 b,x)).2.2=0 then (if m<(YZ (Z5 b,x)).1 then (0,([],8)) else YZ (Z5 b,x)) else (0,(YZ (Z5 b,x)).2)):=rfl;have y:=BF (Z5 b,x);have A:=Rd.num_lt (Z5 b,x);rw[J];clear J;generalize YZ (Z5 b,x)=U at E y A |-;obtain⟨v,l,e⟩:=U;simp only at E y A |-
 have N:=lh E;clear E;have R:IntKind.u64.wrap (m:Int)=(m:Int):=IntWalk.u64_in _ ⟨by omega,by omega⟩;by_cases D:e=0
 .subst D;rw[ZP rfl];by_cases K:m<v
  .rw[ZP K];have Q:decide ((m:Int)<(v:Int))=ZX:=by rw[ZU];omega
   clear y A;go_enter Tryz.func335,Tryz.ntmps335
   go_wp2_with first|go_at_call 342;(with_reducible refine (N.o _).mono ?_);rintro _ L ⟨t,rfl,o,h⟩;have z:=G.below h;have B:=below2 h;have T:=lh o;have g:=z.below ((ZR _ _).alloc (ZV _) (.cells #[.string t,.int .i64 0] 326));clear h o|go_at_call 341;(with_reducible refine (ii _ _).mono ?_);rintro _ O ⟨rfl,H⟩;have C:=g.below H;have F:=bt (B.alloc B.size _) H;clear H
   refine ZD (dE (n:=1) rfl Tryz.underlying326 rfl (by kernel_rfl) _ _ (w.heap.size+1) rfl (by rw[au C];rfl)) rfl ?_
   rw[au C];exact⟨⟨#[]⟩,rfl,rfl,ZA F (by omega) _⟩
  .rw[ZS K];have Q:decide ((m:Int)<(v:Int))=ZW:=by rw[ZF];omega
   have I:IntKind.i64.wrap (v:Int)=(v:Int):=IntWalk.i64_in _ ⟨by omega,by omega⟩;clear y A;go_enter Tryz.func335,Tryz.ntmps335
   go_wp2_with first|go_at_call 342;(with_reducible refine (N.o _).mono ?_);rintro _ L ⟨t,rfl,o,h⟩;have z:=G.below h;have B:=below2 h;have T:=lh o;have g:=z.below ((ZR _ _).alloc (ZV _) (.cells #[.string t,.int .i64 0] 326));clear h o|go_at_call 341;(with_reducible refine (ii _ _).mono ?_);rintro _ O ⟨rfl,H⟩;have C:=g.below H;have F:=bt (B.alloc B.size _) H;clear H
   go_region
   all_goals
    go_wp2_with fail
    refine ZD (dE (n:=1) rfl Tryz.underlying326 rfl (by kernel_rfl) _ _ (w.heap.size+1) rfl (by first|(rw[au g.drew];rfl)|(rw[au g];rfl))) rfl ?_
    (first|rw[au g.drew]|rw[au g])
    exact⟨t,rfl,T.o,ZA (by first|exact B.alloc B.size _|exact Y3 (B.alloc B.size _)) (by omega) _⟩
 .rw[ZS D];obtain rfl:v=0:=y D;have X:((e:Int)==0)=ZW:=by rw[ZJ];omega
  have I:IntKind.i64.wrap (0:Int)=0:=rfl;clear y A D;go_enter Tryz.func335,Tryz.ntmps335
  go_wp2_with first|go_at_call 342;(with_reducible refine (N.o _).mono ?_);rintro _ L ⟨t,rfl,o,h⟩;have z:=G.below h;have B:=below2 h;have T:=lh o;have g:=z.below ((ZR _ _).alloc (ZV _) (.cells #[.string t,.int .i64 e] 326));clear h o|go_at_call 341;(with_reducible refine (ii _ _).mono ?_);rintro _ O ⟨rfl,H⟩;have C:=g.below H;have F:=bt (B.alloc B.size _) H;clear H
  go_region
  all_goals
   go_wp2_with fail
   refine ZD (dE (n:=1) rfl Tryz.underlying326 rfl (by kernel_rfl) _ _ (w.heap.size+1) rfl (by first|(rw[au g.drew];rfl)|(rw[au g];rfl))) rfl ?_
   (first|rw[au g.drew]|rw[au g])
   exact⟨t,rfl,T.o,ZA (by first|exact B.alloc B.size _|exact Y3 (B.alloc B.size _)) (by omega) _⟩
theorem ko(Q:b.size<=10000)(O:m<=1000):ZH Z8 334 #[.agg #[.string b,.int .i64 x],.int .i64 m] w fun r U=>∃ u t:Z6,r=.returned (.tuple #[.string u,.agg #[.string t,.int .i64 (Yu m (Z5 b,x)).2.2]])/\Z5 u=(Yu m (Z5 b,x)).1/\Z5 t=(Yu m (Z5 b,x)).2.1/\Below w.heap.size w U:=by
 have E:Held ((w.alloc (.cells #[.string b,.int .i64 x] 326)).alloc (.cells #[.string ⟨#[]⟩,.int .i64 0] 326)) (w.heap.size+1) 2:=by
  have:=Held.new (w.alloc (.cells #[.string b,.int .i64 x] 326)) #[.string ⟨#[]⟩,.int .i64 0] 326 2 rfl (by decide);simpa using this
 have D:=fun W=>pe b x m W Q O
 have J:Yu m (Z5 b,x)=(if (Xj m (Z5 b,x)).2.2=0 then (if (Xj m (Z5 b,x)).2.1.length<(Xj m (Z5 b,x)).1 then ([],([],11)) else ((Xj m (Z5 b,x)).2.1.take (Xj m (Z5 b,x)).1,((Xj m (Z5 b,x)).2.1.drop (Xj m (Z5 b,x)).1,0))) else ([],(Xj m (Z5 b,x)).2)):=rfl;have C:=Rd.cnt_le m (Z5 b,x);have y:=Rd.cnt_len m (Z5 b,x);simp only[ZZ] at y
 rw[J];clear J;generalize Xj m (Z5 b,x)=S at D C y |-;obtain⟨v,l,e⟩:=S;simp only at D C y |-
 have N:=lh D;clear D;by_cases F:e=0
 .subst F;rw[ZP rfl];by_cases z:l.length<v
  .rw[ZP z];have V:=lh z;clear z;go_enter Tryz.func334,Tryz.ntmps334
   go_wp2_with first|go_at_call 335;(with_reducible refine (N.o _).mono ?_);rintro _ K ⟨t,rfl,g,h⟩;have A:=E.below h;have B:=below2 h;have G:t.size<v:=(by rw[<-ZZ,g];exact V.o);have H:=A.below ((ZR _ _).alloc (ZV _) (.cells #[.string t,.int .i64 0] 326));clear h g|go_at_call 341;(with_reducible refine (ii _ _).mono ?_);rintro _ Y ⟨rfl,o⟩;have I:=H.below o;have L:=bt (B.alloc B.size _) o;clear o
   refine ZD (dE (n:=1) rfl Tryz.underlying326 rfl (by kernel_rfl) _ _ (w.heap.size+1) rfl (by rw[au I];rfl)) rfl ?_
   rw[au I];exact⟨⟨#[]⟩,⟨#[]⟩,rfl,rfl,rfl,ZA L (by omega) _⟩
  .rw[ZS z];have V:=lh z;clear z;go_enter Tryz.func334,Tryz.ntmps334
   go_wp2_with first|go_at_call 335;(with_reducible refine (N.o _).mono ?_);rintro _ K ⟨t,rfl,g,h⟩;have A:=E.below h;have B:=below2 h;have G:v<=t.size:=(by have:=V.o;rw[<-ZZ,g];omega);have R:t.size<=10000:=(by rw[<-ZZ,g];omega);have T:=lh g;have H:=A.below ((ZR _ _).alloc (ZV _) (.cells #[.string t,.int .i64 0] 326));clear h g
   go_region
   all_goals
    go_wp2_with fail
    refine ZD (dE (n:=1) rfl Tryz.underlying326 rfl (by kernel_rfl) _ _ (w.heap.size+1) rfl (by first|(rw[au H.drew];rfl)|(rw[au H];rfl))) rfl ?_
    (first|rw[au H.drew]|rw[au H])
    exact⟨_,_,rfl,by rw[<-T.o];exact ur _ _,by rw[<-T.o];exact jx _ _,ZA (by first|exact B.alloc B.size _|exact Y3 (B.alloc B.size _)) (by omega) _⟩
 .rw[ZS F];have X:((e:Int)==0)=ZW:=by rw[ZJ];omega
  clear F;go_enter Tryz.func334,Tryz.ntmps334
  go_wp2_with first|go_at_call 335;(with_reducible refine (N.o _).mono ?_);rintro _ K ⟨t,rfl,g,h⟩;have A:=E.below h;have B:=below2 h;have T:=lh g;have H:=A.below ((ZR _ _).alloc (ZV _) (.cells #[.string t,.int .i64 e] 326));clear h g
  go_region
  all_goals
   go_wp2_with fail
   refine ZD (dE (n:=1) rfl Tryz.underlying326 rfl (by kernel_rfl) _ _ (w.heap.size+1) rfl (by first|(rw[au H.drew];rfl)|(rw[au H];rfl))) rfl ?_
   (first|rw[au H.drew]|rw[au H])
   exact⟨⟨#[]⟩,t,rfl,rfl,T.o,ZA (by first|exact B.alloc B.size _|exact Y3 (B.alloc B.size _)) (by omega) _⟩
end
end Go.Proofs.YtnkjliahpeebjaaGreatDoor
