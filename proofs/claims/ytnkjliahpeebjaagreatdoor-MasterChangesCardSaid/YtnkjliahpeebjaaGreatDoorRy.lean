/- Catalogs. -/
import Derived.Test.YtnkjliahpeebjaaGreatDoorEc
import Derived.Test.YtnkjliahpeebjaaGreatDoorRsB
set_option maxRecDepth 8000
set_option maxHeartbeats 4000000
open Option renaming some->Z9,none->Z7
open Go.Proofs.Tryz renaming prog->Z8
open _root_ renaming ByteArray->Z6,List->Z3,if_neg->ZX,decide_eq_true_eq->ZW,if_pos->ZT,beq_eq_false_iff_ne->ZS,UInt8->ZP,decide_eq_false_iff_not->ZI,Array->Zz
open Go.Proofs.YtnkjliahpeebjaaGreatDoor.Ds renaming bl->Z5,bl_length->Z0,mk_bl->Xd
open Bool renaming false->Z2,true->ZZ,and_eq_true->ZQ
open Go renaming Value->Z1,World->ZY,Calls->ZJ,bodyPost_ret->ZA,below_setRow->Zy,undef->YW
open Nat renaming le_refl->ZV,le_trans->ZE,lt_or_ge->YI
open Go.RowKit.Below renaming refl->ZR,drew->YZ
open List renaming length_append->ZM,take_succ_eq_append_getElem->ZK,append_assoc->Zs,cons_append->Zp,drop_eq_getElem_cons->Y4,getElem_mem->YT,nil_append->YP,append_nil->Yu,take_length->XU,drop_length->V8
open Go.Proofs.YtnkjliahpeebjaaGreatDoor.En renaming base->Zh
open Go.Proofs.YtnkjliahpeebjaaGreatDoor.Rd renaming num->Y2,txt->X5,boo->X4,cnt->Xh,txt_enc->Wj,fin->Wh
open Go.Proofs.YtnkjliahpeebjaaGreatDoor.Wi renaming enc->YV,dec->VN
open Int renaming toNat->XA
namespace Go.Proofs.YtnkjliahpeebjaaGreatDoor
variable{P:Program}(b:Z6)(e:En)(a:Operand->Z1)(c l:Z3 Int)(s:Z3 ZP × Nat){j:Func}{n:Nat}(r:Z3 ZP)(x m:Nat){q u p:Tmp}(w:ZY){i f:TypeId}{d k:TypeDesc}
theorem oS:∀ (l:Z3 ZP) (i a:Nat),(VN i a l).2=0->(VN i a l).1=0
 | [],_,_,_=>rfl
 | b::r,i,a,h=>by
   rw[VN] at h |-;split at h
   .rename_i c;rw[ZT c]
   .rename_i c;rw[ZX c];split at h
    .rename_i C;rw[ZT C]
    .rename_i C;rw[ZX C];split at h
     .rename_i g;rw[ZT g];split at h
      .rename_i o;rw[ZT o]
      .simp at h
     .rename_i g;rw[ZX g];exact oS r _ _ h
theorem BF(h:(Y2 s).2.2≠0):(Y2 s).1=0:=by
 unfold Y2 at h |-;split at h
 .rename_i c;rw[ZT c];split at h
  .rename_i C;rw[ZT C];exact oS _ _ _ C
  .simp at h
 .rename_i c;rw[ZX c]
def rclip(n:Nat):Int:=if 1099511627776<n then -1 else (n:Int)
theorem BN(n:Nat)(h:n<=1099511627776):rclip n=n:=by unfold rclip;rw[ZX (by omega)]
def rN(s:Z3 ZP × Nat):Int × (Z3 ZP × Nat):=(rclip (Y2 s).1,(Y2 s).2)
theorem ik(n:Int)(r:Z3 ZP)(H:0<=n)(h:n<=1099511627776):rN (YV n.toNat++r,0)=(n,(r,0)):=by
 unfold rN;rw[Rd.num_enc _ _ (by omega)];simp only
 rw[BN _ (by omega),Int.toNat_of_nonneg H]
theorem il:(rN s).2.1.length<=s.1.length:=Rd.num_len s
def rL(s:Z3 ZP × Nat):Nat->Z3 Int × (Z3 ZP × Nat)
 | 0=>([],s)
 | k+1=>((rL s k).1++[(rN (rL s k).2).1],(rN (rL s k).2).2)
theorem qG(s:Z3 ZP × Nat):∀ k,(rL s k).1.length=k
 | 0=>rfl
 | k+1=>by rw[rL,ZM,qG s k];rfl
theorem mO(s:Z3 ZP × Nat):∀ k,(rL s k).2.1.length<=s.1.length
 | 0=>ZV _
 | k+1=>ZE (il _) (mO s k)
theorem wj(c:Z3 Int)(r:Z3 ZP)(h:gS c):∀ k,k<=c.length->rL (encs (c.map XA)++r,0) k=(c.take k,(encs ((c.drop k).map XA)++r,0))
 | 0,_=>rfl
 | k+1,o=>by
   have H:k<c.length:=by omega
   have g:=h _ (YT H);rw[rL,wj c r h k (by omega)];simp only
   rw[Y4 H,List.map_cons,encs,Zs,ik _ _ g.1 g.2];simp only
   rw[ZK H]
theorem wh(h:gS c)(n:Nat)(H:n=c.length):rL (encs (c.map XA)++r,0) n=(c,(r,0)):=by
 rw[wj c r h n (by omega),H,XU,V8];rfl
def fo(e:En)(s:Z3 ZP × Nat):En × (Z3 ZP × Nat) :=
 let a:=rN s
 let b:=rN a.2
 let c:=X4 b.2
 let d:=X5 8 c.2
 ({ e with lim:=a.1,last:=b.1,em:=c.1,owner:=⟨d.1.toArray⟩ },d.2)
def fM(e:En)(s:Z3 ZP × Nat):En × (Z3 ZP × Nat):=({ e with target:=⟨(Rd.txt 31 s).1.toArray⟩ },(Rd.txt 31 s).2)
def fN(e:En)(s:Z3 ZP × Nat):En × (Z3 ZP × Nat):=({ e with cat:=(rN s).1 },(rN s).2)
def jo(s:Z3 ZP × Nat):Gr × (Z3 ZP × Nat) :=
 let t:=X5 8 s
 let b:=X4 t.2
 let n:=rN b.2
 ((⟨t.1.toArray⟩,b.1,n.1),n.2)
theorem Ev:(jo s).2.1.length<=s.1.length :=
 ZE (il _) (ZE (Rd.boo_len _) (Rd.txt_len 8 s).1)
def dr(s:Z3 ZP × Nat):Nat->Z3 Gr × (Z3 ZP × Nat)
 | 0=>([],s)
 | k+1=>((dr s k).1++[(jo (dr s k).2).1],(jo (dr s k).2).2)
theorem pJ(s:Z3 ZP × Nat):∀ k,(dr s k).1.length=k
 | 0=>rfl
 | k+1=>by rw[dr,ZM,pJ s k];rfl
theorem tY(s:Z3 ZP × Nat):∀ k,(dr s k).2.1.length<=s.1.length
 | 0=>ZV _
 | k+1=>ZE (Ev _) (tY s k)
theorem Eu(g:Gr)(r:Z3 ZP)(h:GrOk g)(o:g.1.size<=8):jo (grs [g]++r,0)=(g,(r,0)):=by
 have H:=h.l;obtain⟨a,b,c⟩:=g;simp only at o H
 have E:grs [(a,b,c)]++r=YV (Z5 a).length++(Z5 a++(tb b::(YV c.toNat++r))):=by
  rw[Z0];simp only[grs,Zs,Zp,YP]
 unfold jo;rw[E,Wj 8 _ _ (by rw[Z0];omega) (by rw[Z0];omega)];simp only
 rw[show tb b=(if b then 1 else 0) from rfl,Rd.boo_tb];simp only
 rw[ik _ _ H.1 H.2,Xd]
theorem vl(g:Z3 Gr)(r:Z3 ZP)(h:∀ x∈g,GrOk x/\x.1.size<=8):∀ k,k<=g.length->dr (grs g++r,0) k=(g.take k,(grs (g.drop k)++r,0))
 | 0,_=>rfl
 | k+1,t=>by
   have H:k<g.length:=by omega
   have E:grs (g.drop k)++r=grs [g[k]]++(grs (g.drop (k+1))++r):=by
    rw[Y4 H,show g[k]::g.drop (k+1)=[g[k]]++g.drop (k+1) from rfl,jY,Zs]
   have o:=h _ (YT H);rw[dr,vl g r h k (by omega)];simp only
   rw[E,Eu _ _ o.1 o.2];simp only
   rw[ZK H]
def ey(e:En)(s:Z3 ZP × Nat):En × Z3 Gr × (Z3 ZP × Nat) :=
 let a:=rN s
 let t:=X5 8 a.2
 let n:=Xh 8 t.2
 let l:=dr n.2 n.1
 ({ e with lev:=a.1,owner:=⟨t.1.toArray⟩ },l.1,l.2)
def ew(e:En)(s:Z3 ZP × Nat):En × Z3 Int × (Z3 ZP × Nat) :=
 let l:=rL s 14
 let u:=X4 l.2
 let c:=rN u.2
 let v:=X5 8 c.2
 let o:=X5 8 v.2
 let cr:=rN o.2
 let ex:=rN cr.2
 let ar:=X4 ex.2
 let n:=Xh 4 ar.2
 let A:=rL n.2 n.1
 let U:=rN A.2
 ({ e with d0:=l.1.getD 0 0,d1:=l.1.getD 1 0,d2:=l.1.getD 2 0,d3:=l.1.getD 3 0,d4:=l.1.getD 4 0,d5:=l.1.getD 5 0,d6:=l.1.getD 6 0,d7:=l.1.getD 7 0,d8:=l.1.getD 8 0,d9:=l.1.getD 9 0,d10:=l.1.getD 10 0,d11:=l.1.getD 11 0,d12:=l.1.getD 12 0,d13:=l.1.getD 13 0,uq:=u.1,cls:=c.1,vol:=⟨v.1.toArray⟩,own:=⟨o.1.toArray⟩,cr:=cr.1,ex:=ex.1,ar:=ar.1,used:=U.1 },A.1,U.2)
def dA(k:Int)(n:Z6)(s:Z3 ZP × Nat):Fu × (Z3 ZP × Nat) :=
 if k=0 then (((ew (Zh k n) s).1,(ew (Zh k n) s).2.1,[]),(ew (Zh k n) s).2.2)
 else if k=1 then (((fo (Zh k n) s).1,[],[]),(fo (Zh k n) s).2)
 else if k=2 then (((fM (Zh k n) s).1,[],[]),(fM (Zh k n) s).2)
 else if k=3 then (((fN (Zh k n) s).1,[],[]),(fN (Zh k n) s).2)
 else (((ey (Zh k n) s).1,[],(ey (Zh k n) s).2.1),(ey (Zh k n) s).2.2)
theorem CD(h:DatOk e l)(B:e.vol.size<=8)(A:e.own.size<=8):ew (Zh e.kind e.name) (dW e l++r,0)=(fg e,l,(r,0)):=by
 obtain⟨z,t,-,-,H,g,y,o,v⟩:=h
 have E:dW e l++r=encs ((bK e).map XA)++(tb e.uq::(YV e.cls.toNat++(YV (Z5 e.vol).length++(Z5 e.vol++(YV (Z5 e.own).length++(Z5 e.own++(YV e.cr.toNat++(YV e.ex.toNat++(tb e.ar::(YV l.length++(encs (l.map XA)++(YV e.used.toNat++r)))))))))))):=by
  unfold dW iG;rw[Z0,Z0];simp only[encs,Zs,Zp,YP]
 unfold ew;rw[E,wh (bK e) _ z 14 rfl];simp only
 rw[show tb e.uq=(if e.uq then 1 else 0) from rfl,Rd.boo_tb];simp only
 rw[ik _ _ t.1 t.2];simp only
 rw[Wj 8 _ _ (by rw[Z0];omega) (by rw[Z0];omega)];simp only
 rw[Wj 8 _ _ (by rw[Z0];omega) (by rw[Z0];omega)];simp only
 rw[ik _ _ H.1 H.2];simp only
 rw[ik _ _ g.1 g.2];simp only
 rw[show tb e.ar=(if e.ar then 1 else 0) from rfl,Rd.boo_tb];simp only
 rw[Rd.cnt_enc 4 _ _ o (by omega)];simp only
 rw[wh l _ y l.length rfl];simp only
 rw[ik _ _ v.1 v.2,Xd,Xd];rfl
theorem CF(g:Z3 Gr)(r:Z3 ZP)(h:ProfOk e g)(z:e.owner.size<=8)(H:∀ x∈g,x.1.size<=8):ey (Zh e.kind e.name) (dH e g++r,0)=(fG e,g,(r,0)):=by
 obtain⟨o,-,y,v⟩:=h
 have E:dH e g++r=YV e.lev.toNat++(YV (Z5 e.owner).length++(Z5 e.owner++(YV g.length++(grs g++r)))):=by
  unfold dH;rw[Z0];simp only[Zs]
 unfold ey;rw[E,ik _ _ o.1 o.2];simp only
 rw[Wj 8 _ _ (by rw[Z0];omega) (by rw[Z0];omega)];simp only
 rw[Rd.cnt_enc 8 _ _ v (by omega)];simp only
 rw[vl g r (fun x t=>⟨y x t,H x t⟩) _ (ZV _),XU,V8,Xd];rfl
theorem CE(h:Vp.grp e=ZZ):fo (Zh e.kind e.name) (dG e++r,0)=(eS e,(r,0)):=by
 unfold Vp.grp at h;simp only[ZQ] at h
 obtain⟨⟨H,g⟩,o⟩:=h;have R:=rng1 _ _ _ H;have t:=rng1 _ _ _ g;have v:=own8 _ o
 have E:dG e++r=YV e.lim.toNat++(YV e.last.toNat++(tb e.em::(YV (Z5 e.owner).length++(Z5 e.owner++r)))):=by
  unfold dG encs encs encs;rw[Z0];simp
 unfold fo;rw[E,ik _ _ (by omega) (by omega)];simp only
 rw[ik _ _ (by omega) (by omega)];simp only
 rw[show tb e.em=(if e.em then 1 else 0) from rfl,Rd.boo_tb];simp only
 rw[Wj 8 _ _ (by omega) (by omega),Xd];rfl
theorem CB(h:e.target.size<=31):fM (Zh e.kind e.name) (eD e++r,0)=(gU e,(r,0)):=by
 have E:eD e++r=YV (Z5 e.target).length++(Z5 e.target++r):=by
  unfold eD;rw[Z0,Zs]
 unfold fM;rw[E,Wj 31 _ _ (by rw[Z0];omega) (by rw[Z0];omega),Xd];rfl
theorem CC(h:Vp.cat e=ZZ):fN (Zh e.kind e.name) (eR e++r,0)=(gV e,(r,0)):=by
 have R:=rng1 _ _ _ h;unfold fN eR;rw[ik _ _ (by omega) (by omega)];rfl
theorem CH(x:Fu)(r:Z3 ZP)(h:aA x=ZZ):dA x.1.kind x.1.name (dX x++r,0)=(x,(r,0)):=by
 obtain⟨e,l,g⟩:=x;unfold aA at h;unfold dA dX;simp only at h |-
 split at h
 .rename_i k;rw[ZT k,ZT k];unfold fL at h;simp only[ZQ] at h
  obtain⟨⟨_,H⟩,o⟩:=h;obtain⟨Q,-,v⟩:=(dV _ _ _ _ _ _).1 o;have y:=kx e l H;rw[CD e l r y.1 y.2.1.1 y.2.1.2,Q,<-v]
 .rename_i k0;rw[ZX k0,ZX k0];split at h
  .rename_i k;rw[ZT k,ZT k];unfold fm at h;simp only[ZQ] at h
   obtain⟨⟨_,H⟩,o⟩:=h;obtain⟨Q,t,v⟩:=(dV _ _ _ _ _ _).1 o;rw[CE e r H,Q,<-t,<-v]
  .rename_i k1;rw[ZX k1,ZX k1];split at h
   .rename_i k;rw[ZT k,ZT k];unfold eY at h;simp only[ZQ] at h
    obtain⟨⟨_,H⟩,o⟩:=h;obtain⟨Q,t,v⟩:=(dV _ _ _ _ _ _).1 o;have:=ka e H;rw[CB e r (by omega),Q,<-t,<-v]
   .rename_i K;rw[ZX K,ZX K];split at h
    .rename_i k;rw[ZT k,ZT k];unfold fK at h;simp only[ZQ] at h
     obtain⟨⟨_,H⟩,o⟩:=h;obtain⟨Q,t,v⟩:=(dV _ _ _ _ _ _).1 o;rw[CC e r H,Q,<-t,<-v]
    .rename_i A;rw[ZX A,ZX A];split at h
     .unfold gD at h;simp only[ZQ] at h
      obtain⟨⟨_,H⟩,o⟩:=h;obtain⟨Q,t,-⟩:=(dV _ _ _ _ _ _).1 o;have z:=km e g H;rw[CF e g r z.1 z.2.2.1 (fun x B=>(z.2.2.2 x B).1),Q,<-t]
     .cases h
def gY(k:Int)(s:Z3 ZP):Option Fu :=
 if Wh (dA k ⟨(eE s).toArray⟩ (s.drop 32,0)).2=0/\aA (dA k ⟨(eE s).toArray⟩ (s.drop 32,0)).1=ZZ/\cJ (dA k ⟨(eE s).toArray⟩ (s.drop 32,0)).1=s then Z9 (dA k ⟨(eE s).toArray⟩ (s.drop 32,0)).1 else Z7
theorem FS(s:Z3 ZP)(x:Fu)(H:aA x=ZZ)(t:cJ x=s):gY x.1.kind s=Z9 x:=by
 subst t;have h:=om x [] H;rw[Yu,Yu] at h;obtain⟨-,o,h⟩:=h;have g:=CH x [] H;rw[Yu] at g;unfold gY;rw[o,h,Xd,g];rw[ZT ⟨rfl,H,rfl⟩]
theorem Ag(k:Int)(s:Z3 ZP)(x:Fu)(h:gY k s=Z9 x):aA x=ZZ/\cJ x=s:=by
 unfold gY at h;split at h
 .rename_i c;cases h;exact c.2
 .cases h
theorem tw(s:Z3 ZP)(z:32<=s.length/\s.length<=200):cF s=(match iW (s.headD 0) with|some k=>gY k s|none=>Z7):=by
 cases g:iW (s.headD 0) with
 | none=>unfold cF;rw[ZT z,g]
 | some k =>
   simp only
   cases H:cF s with
   | some x =>
     obtain⟨o,h⟩:=mb s x H;have:=FS s x o h;have t:=om x [] o;rw[Yu,Yu,h] at t;rw[t.1,l7 _ (lu x o)] at g;cases g
     exact this.symm
   | none =>
     cases A:gY k s with
     | none=>rfl
     | some y =>
       obtain⟨v,h⟩:=Ag k s y A;rw[<-h,BV y v (Bp y v)] at H;cases H
section
open Go.RowKit
theorem dE(h:j.results=#[.tmp u,.cell p i])(A:P.underlying i=Z9 d)(o:(match d with|.struct _|.array _ _=>ZZ|_=>Z2)=ZZ)(v:(P.info? i).map (·.size)=Z9 (n+1))(t:Zz Z1)(w:ZY)(g:Nat)(z:t.getD p YW=.pointer (Z9 ⟨g,0,Z7⟩))(B:(row w g).size=n+1) :
 (results j t).run P w=.ok (.tuple #[t.getD u YW,.agg (row w g)]) w:=by
 have y:=jV w g n i d A o v B;have H:t[p]?.getD YW=.pointer (Z9 ⟨g,0,Z7⟩):=by simpa using z
 simp only[results,h]
 simp [H,asAddr,y]
theorem ie{n':Nat}(h:j.results=#[.cell p i,.cell q f])(J:P.underlying i=Z9 d)(C:(match d with|.struct _|.array _ _=>ZZ|_=>Z2)=ZZ)(D:(P.info? i).map (·.size)=Z9 (n+1))(A:P.underlying f=Z9 k)(H:(match k with|.struct _|.array _ _=>ZZ|_=>Z2)=ZZ)(o:(P.info? f).map (·.size)=Z9 (n'+1))(t:Zz Z1)(w:ZY)(g G:Nat)(F:t.getD p YW=.pointer (Z9 ⟨g,0,Z7⟩))(I:t.getD q YW=.pointer (Z9 ⟨G,0,Z7⟩))(K:(row w g).size=n+1)(B:(row w G).size=n'+1) :
 (results j t).run P w=.ok (.tuple #[.agg (row w g),.agg (row w G)]) w:=by
 have E:=jV w g n i d J C D K;have v:=jV w G n' f k A H o B;have y:t[p]?.getD YW=.pointer (Z9 ⟨g,0,Z7⟩):=by simpa using F
 have z:t[q]?.getD YW=.pointer (Z9 ⟨G,0,Z7⟩):=by simpa using I
 simp only[results,h]
 simp [y,z,asAddr,E,v]
theorem Held.below{w w':ZY}{g:Nat}(h:Held w g n)(v:Below w.heap.size w w'):Held w' g n:=by
 obtain⟨t,F,H⟩:=fR h
 have o:g<w.heap.size:=by
  rcases YI g w.heap.size with k|k
  .exact k
  .rw[Array.getElem?_eq_none k] at H;cases H
 exact h.of_block (v.block _ o)
theorem Held.new(C:Zz Z1)(t:TypeId)(n:Nat)(H:C.size=n)(h:0<n):Held (w.alloc (.cells C t)) w.heap.size n:=⟨by rw[ak];exact H,h,fun o=>by simp⟩
theorem Held.lt{w:ZY}{g:Nat}(h:Held w g n):g<w.heap.size:=by
 obtain⟨t,F,H⟩:=fR h;rcases YI g w.heap.size with k|k
 .exact k
 .rw[Array.getElem?_eq_none k] at H;cases H
theorem Held.set{W:ZY}{g g':Nat}(h:Held W g n)(c:Zz Z1)(y:g'=g->c.size=n):Held (W.setRow g' c) g n:=by
 by_cases e:g'=g
 .subst e;refine⟨by rw[au h];exact y rfl,h.2.1,fun o=>?_⟩
  obtain⟨t,F,v⟩:=fR h;have H:=h.2.2 o;unfold World.frozen? at H |-;rw[v] at H;rw[setRow_heap W _ _ c t F v];exact H
 .exact h.of_block (cP W g' g c (fun q=>e q.symm))
theorem cT(W:ZY)(g g':Nat)(c:Zz Z1)(h:g≠g'):row (W.setRow g' c) g=row W g:=by
 unfold row;rw[cP W g' g c h]
theorem jM(dst x t pos af gd)(h:db (a x)=ZZ)(H:(row w (bF (a x))).size=2) :
 (execOp a ⟨dst,.load 326 x,t,pos,af,gd⟩).run Z8 w=.ok (.value (.agg (row w (bF (a x))))) w :=
 kW a w _ 1 _ Tryz.underlying326 rfl (by kernel_rfl) dst x t pos af gd h H
theorem jR(dst x y t' pos af gd)(h:db (a x)=ZZ)(H:Held w (bF (a x)) 2)(g:cV (a y)=ZZ)(o:(bA (a y)).size=2)(t:bh (bA (a y)).toList=ZZ) :
 (execOp a ⟨dst,.store 326 x y,t',pos,af,gd⟩).run Z8 w=.ok .skip (w.setRow (bF (a x)) (bA (a y))) :=
 kN a w _ 1 (by kernel_rfl) dst x y t' pos af gd h H g o t
attribute [local go_sem ↓] jM jR
attribute [local go_sem] bn aS aH aK aT ak aI aw az aM aQ aL aP aO aR
theorem ii(e:Int)(w:ZY):ZJ Z8 341 #[.int .i64 e] w fun r W=>r=.returned (.agg #[.string ⟨#[]⟩,.int .i64 e])/\Below w.heap.size w W:=by
 go_enter Tryz.func341,Tryz.ntmps341
 go_wp2_with fail
 refine ZA (gN (n:=1) rfl Tryz.underlying326 rfl (by kernel_rfl) _ _ w.heap.size rfl (by rw[ak];rfl)) rfl ?_
 rw[ak];exact⟨rfl,by exact aB⟩
theorem Hs:ZJ Z8 312 #[.agg #[.string b,.int .i64 x]] w fun r W=>r=.returned (.int .i64 (Wh (Z5 b,x)))/\Below w.heap.size w W:=by
 have o:Wh (Z5 b,x)=if x=0/\0<b.size then 11 else x:=by
  unfold Wh;by_cases h:Z5 b=[]
  .have g:b.size=0:=by rw[<-Z0,h];rfl
   rw[ZX (by simp [h]),ZX (by omega)]
  .have g:0<b.size:=by rw[<-Z0];exact List.length_pos_iff.2 h
   by_cases H:x=0
   .rw[ZT ⟨H,h⟩,ZT ⟨H,g⟩]
   .rw[ZX (by simp [H]),ZX (by simp [H])]
 rw[o];clear o;by_cases H:x=0
 .subst H;by_cases g:0<b.size
  .have E:decide (0<b.size)=ZZ:=by rw[ZW];omega
   rw[ZT ⟨rfl,g⟩];clear g;go_enter Tryz.func312,Tryz.ntmps312
   go_wp2_with fail
   go_ret
   exact⟨rfl,by exact aB⟩
  .have E:decide (0<b.size)=Z2:=by rw[ZI];omega
   rw[ZX (by omega:¬ (0=0/\0<b.size))];clear g;go_enter Tryz.func312,Tryz.ntmps312
   go_wp2_with fail
   go_ret
   exact⟨rfl,by exact aB⟩
 .have E:((x:Int)==0)=Z2:=by rw[ZS];omega
  rw[ZX (by omega)];clear H;go_enter Tryz.func312,Tryz.ntmps312
  go_wp2_with fail
  go_ret
  exact⟨rfl,by exact aB⟩
theorem Ac(h:x≠0):ZJ Z8 342 #[.agg #[.string b,.int .i64 x]] w fun r W=>r=.returned (.tuple #[.int .u64 0,.agg #[.string b,.int .i64 x]])/\Below w.heap.size w W:=by
 have E:((x:Int)==0)=Z2:=by rw[ZS];omega
 clear h
 have H:Held ((w.alloc (.cells #[.string b,.int .i64 x] 326)).alloc (.cells #[.string ⟨#[]⟩,.int .i64 0] 326)) (w.heap.size+1) 2:=by
  have:=Held.new (w.alloc (.cells #[.string b,.int .i64 x] 326)) #[.string ⟨#[]⟩,.int .i64 0] 326 2 rfl (by decide);simpa using this
 go_enter Tryz.func342,Tryz.ntmps342
 go_wp2_with fail
 go_region
 all_goals
  go_wp2_with fail
  (refine ZA (dE (n:=1) rfl Tryz.underlying326 rfl (by kernel_rfl) _ _ (w.heap.size+1) rfl (by first|(rw[au H];rfl)|(rw[au (H).drew];rfl)|(rw[aw];rfl)|(rw[az,aw];rfl))) rfl ?_;(first|rw[au H]|rw[au (H).drew]|rw[aw]|rw[az,aw]))
  exact⟨rfl,Zy (by exact aB) (by omega) _⟩
theorem wadd(a c k:Nat)(h:c % 128*2 ^ (7*k)+a<2 ^ 64) :
 IntKind.u64.wrap ((a:Int)+IntKind.u64.wrap ((c:Int) % 128*2 ^ (7*k)))=((a+c % 128*2 ^ (7*k):Nat):Int):=by
 have e:(2:Nat) ^ 64=18446744073709551616:=by decide
 rw[e] at h;have H:((c:Int) % 128)*2 ^ (7*k)=((c % 128*2 ^ (7*k):Nat):Int):=by push_cast;rfl
 have g:IntKind.u64.wrap ((c % 128*2 ^ (7*k):Nat):Int)=((c % 128*2 ^ (7*k):Nat):Int):=IntWalk.u64_in _ ⟨by omega,by omega⟩;rw[H,g,<-Int.natCast_add];exact IntWalk.u64_in _ ⟨by omega,by omega⟩
theorem AM(hs:b.size<=10000):ZJ Z8 342 #[.agg #[.string b,.int .i64 0]] w fun r w'=>∃ t:Z6,r=.returned (.tuple #[.int .u64 (Y2 (Z5 b,0)).1,.agg #[.string t,.int .i64 (Y2 (Z5 b,0)).2.2]])/\Z5 t=(Y2 (Z5 b,0)).2.1/\Below w.heap.size w w':=by
 have HL:=lh (Z0 b)
 have Q:∀ r:Nat × Nat,VN 0 0 (Z5 b)=r->r.2=0->Y2 (Z5 b,0)=(0,([],11)):=fun r D h2=>by
  rw[Rd.num_none _ rfl (by simp only;rw[D];exact h2)];rw[oS _ 0 0 (by simp only;rw[D];exact h2)]
 have F:∀ (v k:Nat),VN 0 0 (Z5 b)=(v,k+1)->Y2 (Z5 b,0)=(v,(Z5 b).drop (k+1),0):=fun v k D=>by
  rw[Rd.num_some _ rfl (by simp only;rw[D];simp)];simp only
  rw[D]
 have A:Held ((w.alloc (.cells #[.string b,.int .i64 0] 326)).alloc (.cells #[.string ⟨#[]⟩,.int .i64 0] 326)) (w.heap.size+1) 2:=by
  have:=Held.new (w.alloc (.cells #[.string b,.int .i64 0] 326)) #[.string ⟨#[]⟩,.int .i64 0] 326 2 rfl (by decide);simpa using this
 have O:=lh Q;have S:=lh F;clear Q F;generalize Y2 (Z5 b,0)=rr at O S |-;go_enter Tryz.func342,Tryz.ntmps342
 go_wp2_with fail
 go_loopw [4,5,6] (fun n i _ wr=>∃ k a:Nat,k<=b.size/\k<=10/\i=.int .i64 k/\n=.int .u64 a/\(k<=9->a<2 ^ (7*k))/\VN 0 0 (Z5 b)=VN k a ((Z5 b).drop k)/\wr=((w.alloc (.cells #[.string b,.int .i64 0] 326)).alloc (.cells #[.string ⟨#[]⟩,.int .i64 0] 326))) (fun _ i _ _=>10 - (intOf i).toNat)
 case atStart=>exact⟨0,0,by omega,by omega,rfl,rfl,by intro _;decide,rfl,rfl⟩
 case round =>
  obtain⟨k,a,hk,a0,rfl,rfl,ha,hd,rfl⟩:=hrel;have HA:=lh ha;have V:=lh hd;clear ha hd;by_cases a1:k<10
  .by_cases N:k<b.size
   .have L:(Z5 b).drop k=b[k]::(Z5 b).drop (k+1):=by
     rw[Y4 (by rw[HL.o];exact N),Ds.bl_get b k N]
    have g:=V.o.trans (by rw[L]);rw[VN,ZX (by omega)] at g;have hb:=b[k].toNat_lt;have ha:=HA.o (by omega);clear L;by_cases C:k=9/\1<b[k].toNat
    .obtain⟨rfl,D⟩:=C;rw[ZT ⟨rfl,D⟩] at g;obtain rfl:=O.o _ g rfl;have e1:decide ((1:Int)<(b[9].toNat:Int))=ZZ:=by simp;omega
     have l9:(9:Int)<(b.size:Int):=by omega
     clear g ha D;go_wp2_with (go_at_call 341;(with_reducible refine (ii _ _).mono ?_);rintro _ Y ⟨rfl,H⟩;have y:=A.below H;have G:=below2 H;clear H)
     (refine ZA (dE (n:=1) rfl Tryz.underlying326 rfl (by kernel_rfl) _ _ (w.heap.size+1) rfl (by first|(rw[au y];rfl)|(rw[au (y).drew];rfl)|(rw[aw];rfl)|(rw[az,aw];rfl))) rfl ?_;(first|rw[au y]|rw[au (y).drew]|rw[aw]|rw[az,aw]))
     exact⟨⟨#[]⟩,rfl,rfl,Zy G (by omega) _⟩
    rw[ZX C] at g
    have f2:b[k].toNat % 128*2 ^ (7*k)+a<2 ^ 64:=by
     rcases (by omega:k<=8\/k=9) with B|rfl
     .exact (fit8 a b[k].toNat k B ha).2
     .exact fit9 a b[9].toNat (by omega) ha
    have X:=wadd a b[k].toNat k f2
    have J:((k:Int)==9&&decide ((1:Int)<(b[k].toNat:Int)))=Z2:=by
     rw[Bool.and_eq_false_iff,ZS,ZI];omega
    have E:((k:Int)==9)=ZZ->decide ((1:Int)<(b[k].toNat:Int))=Z2:=fun h=>by rw[h,Bool.true_and] at J;exact J
    have H9:Hid (k<=8->b[k].toNat % 128*2 ^ (7*k)+a<2 ^ (7*(k+1))):=lh (fun B=>(fit8 a b[k].toNat k B ha).1);have U:=lh C;clear f2 ha C;by_cases o:b[k].toNat<128
    .rw[ZT o] at g;have e2:decide ((b[k].toNat:Int)<128)=ZZ:=by rw[ZW];omega
     by_cases I:b[k].toNat=0/\0<k
     .rw[ZT I] at g;obtain rfl:=O.o _ g rfl;have e0:((b[k].toNat:Int)==0)=ZZ:=by simp [I.1]
      have k0:=I.2;have HW:=lh X;clear g I o X;cases R:((k:Int)==9)
      all_goals
       try rw[R] at E
       try have K:=E rfl
       clear E J;go_wp2_with (go_at_call 341;(with_reducible refine (ii _ _).mono ?_);rintro _ Y ⟨rfl,H⟩;have y:=A.below H;have G:=below2 H;clear H)
       (refine ZA (dE (n:=1) rfl Tryz.underlying326 rfl (by kernel_rfl) _ _ (w.heap.size+1) rfl (by first|(rw[au y];rfl)|(rw[au (y).drew];rfl)|(rw[aw];rfl)|(rw[az,aw];rfl))) rfl ?_;(first|rw[au y]|rw[au (y).drew]|rw[aw]|rw[az,aw]))
       exact⟨⟨#[]⟩,rfl,rfl,Zy G (by omega) _⟩
     .rw[ZX I] at g;obtain rfl:=S.o _ _ g;have HB:=lh (jx b (k+1));have HV:=lh X;have v0:Hid (k=0->((a:Int)+(b[k].toNat:Int) % 128)=((a+b[k].toNat % 128*2 ^ (7*k):Nat):Int)):=lh (fun h=>by subst h;simp);have l1:(k:Int)+1<=(b.size:Int):=by omega
      rcases (by omega:b[k].toNat≠0\/k=0) with T|T
      .have e0:((b[k].toNat:Int)==0)=Z2:=by simpa using T
       clear I T g o;cases R:((k:Int)==9)
       all_goals
        try rw[R] at E
        try have K:=E rfl
        clear E J;go_wp2_with fail
        go_region
        all_goals
         go_wp2_with fail
         (refine ZA (dE (n:=1) rfl Tryz.underlying326 rfl (by kernel_rfl) _ _ (w.heap.size+1) rfl (by first|(rw[au A];rfl)|(rw[au (A).drew];rfl)|(rw[aw];rfl)|(rw[az,aw];rfl))) rfl ?_;(first|rw[au A]|rw[au (A).drew]|rw[aw]|rw[az,aw]))
         exact⟨_,rfl,HB.o,by (first|exact Zy (by exact aB) (by omega) _|(exact aB))⟩
      .subst T
       have W:Hid (IntKind.u64.wrap ((a:Int)+(b[0].toNat:Int) % 128)=(a:Int)+(b[0].toNat:Int) % 128):=lh (by
        have:=HA.o (by decide);simp only[Nat.mul_zero,Nat.pow_zero] at this
        rw[IntKind.wrap_u64];omega)
       cases a2:((b[0].toNat:Int)==0)
       all_goals
        clear I g o E J;go_wp2_with fail
        go_region
        all_goals
         go_wp2_with fail
         (refine ZA (dE (n:=1) rfl Tryz.underlying326 rfl (by kernel_rfl) _ _ (w.heap.size+1) rfl (by first|(rw[au A];rfl)|(rw[au (A).drew];rfl)|(rw[aw];rfl)|(rw[az,aw];rfl))) rfl ?_;(first|rw[au A]|rw[au (A).drew]|rw[aw]|rw[az,aw]))
         exact⟨b.extract 1 b.size,congrArg (fun z=>Ending.returned (.tuple #[.int .u64 z,.agg #[.string (b.extract 1 b.size),.int .i64 0]])) W.o,by rw[jx];exact List.drop_one,Zy (by exact aB) (by omega) _⟩
    .rw[ZX o] at g;have e2:decide ((b[k].toNat:Int)<128)=Z2:=by rw[ZI];omega
     have HR:=lh g
     have B:k<=8:=by
      rcases (by omega:k<=8\/k=9) with h|h
      .exact h
      .exact absurd ⟨h,by omega⟩ U.o
     have Z:=lh (H9.o B);rw[Nat.add_comm] at Z;cases R:((k:Int)==9)
     all_goals
      try rw[R] at E
      try have K:=E rfl
      clear E J g o;go_wp2_with fail
      go_roundw
      case rel=>exact⟨k+1,_,by omega,by omega,by go_num,rfl,fun _=>Z.o,HR.o,trivial⟩
      case measure=>simp [intOf];omega
   .have g:=V.o.trans (show VN k a ((Z5 b).drop k)=(0,0) by rw[List.drop_of_length_le (by rw[HL.o];omega)];rfl);obtain rfl:=O.o _ g rfl;obtain rfl:k=b.size:=by omega
    clear g;go_wp2_with (go_at_call 341;(with_reducible refine (ii _ _).mono ?_);rintro _ Y ⟨rfl,H⟩;have y:=A.below H;have G:=below2 H;clear H)
    (refine ZA (dE (n:=1) rfl Tryz.underlying326 rfl (by kernel_rfl) _ _ (w.heap.size+1) rfl (by first|(rw[au y];rfl)|(rw[au (y).drew];rfl)|(rw[aw];rfl)|(rw[az,aw];rfl))) rfl ?_;(first|rw[au y]|rw[au (y).drew]|rw[aw]|rw[az,aw]))
    exact⟨⟨#[]⟩,rfl,rfl,Zy G (by omega) _⟩
  .obtain rfl:k=10:=by omega
   have g:=V.o.trans (show VN 10 a ((Z5 b).drop 10)=(0,0) by cases (Z5 b).drop 10 <;> rfl);obtain rfl:=O.o _ g rfl;clear g;go_wp2_with (go_at_call 341;(with_reducible refine (ii _ _).mono ?_);rintro _ Y ⟨rfl,H⟩;have y:=A.below H;have G:=below2 H;clear H)
   all_goals
    (refine ZA (dE (n:=1) rfl Tryz.underlying326 rfl (by kernel_rfl) _ _ (w.heap.size+1) rfl (by first|(rw[au y];rfl)|(rw[au (y).drew];rfl)|(rw[aw];rfl)|(rw[az,aw];rfl))) rfl ?_;(first|rw[au y]|rw[au (y).drew]|rw[aw]|rw[az,aw]))
    exact⟨⟨#[]⟩,rfl,rfl,Zy G (by omega) _⟩
theorem sM(g:b.size<=10000):ZJ Z8 342 #[.agg #[.string b,.int .i64 x]] w fun r W=>∃ t:Z6,r=.returned (.tuple #[.int .u64 (Y2 (Z5 b,x)).1,.agg #[.string t,.int .i64 (Y2 (Z5 b,x)).2.2]])/\Z5 t=(Y2 (Z5 b,x)).2.1/\Below w.heap.size w W:=by
 by_cases h:x=0
 .subst h;exact AM b w g
 .rw[Rd.num_bad _ h];refine (Ac b x w h).mono ?_
  rintro r W ⟨rfl,H⟩;exact⟨b,rfl,rfl,H⟩
theorem mQ(J:b.size<=10000):ZJ Z8 332 #[.agg #[.string b,.int .i64 x]] w fun r W=>∃ t:Z6,r=.returned (.tuple #[.bool (X4 (Z5 b,x)).1,.agg #[.string t,.int .i64 (X4 (Z5 b,x)).2.2]])/\Z5 t=(X4 (Z5 b,x)).2.1/\Below w.heap.size w W:=by
 have g:Held ((w.alloc (.cells #[.string b,.int .i64 x] 326)).alloc (.cells #[.string ⟨#[]⟩,.int .i64 0] 326)) (w.heap.size+1) 2:=by
  have:=Held.new (w.alloc (.cells #[.string b,.int .i64 x] 326)) #[.string ⟨#[]⟩,.int .i64 0] 326 2 rfl (by decide);simpa using this
 by_cases C:x=0
 .subst C;by_cases A:0<b.size
  .have z:Z5 b=b[0]::(Z5 b).drop 1:=by
    have:=Y4 (i:=0) (l:=Z5 b) (by rw[Z0];exact A);rw[List.drop_zero,<-Ds.bl_get b 0 A] at this;exact this
   have D:=lh (show Z5 (b.extract 1 b.size)=(Z5 b).drop 1 from jx b 1);by_cases v:1<b[0].toNat
   .have H:X4 (Z5 b,0)=(Z2,([],11)):=by unfold X4;rw[ZT rfl];simp only;rw[z];simp only;rw[ZT v]
    rw[H];have F:decide ((1:Int)<(b[0].toNat:Int))=ZZ:=by rw[ZW];omega
    have E:((b.size:Int)==0)=Z2:=by rw[ZS];omega
    clear H z v;go_enter Tryz.func332,Tryz.ntmps332
    go_wp2_with (go_at_call 341;(with_reducible refine (ii _ _).mono ?_);rintro _ I ⟨rfl,h⟩;have o:=g.below h;have B:=below2 h;clear h)
    (refine ZA (dE (n:=1) rfl Tryz.underlying326 rfl (by kernel_rfl) _ _ (w.heap.size+1) rfl (by first|(rw[au o];rfl)|(rw[au (o).drew];rfl)|(rw[aw];rfl)|(rw[az,aw];rfl))) rfl ?_;(first|rw[au o]|rw[au (o).drew]|rw[aw]|rw[az,aw]))
    exact⟨⟨#[]⟩,rfl,rfl,Zy B (by omega) _⟩
   .have H:X4 (Z5 b,0)=(decide (b[0].toNat=1),((Z5 b).drop 1,0)):=by unfold X4;rw[ZT rfl];simp only;rw[z];simp only;rw[ZX v];rfl
    rw[H];have F:decide ((1:Int)<(b[0].toNat:Int))=Z2:=by rw[ZI];omega
    have E:((b.size:Int)==0)=Z2:=by rw[ZS];omega
    have G:((b[0].toNat:Int)==1)=decide (b[0].toNat=1):=by rw[Bool.eq_iff_iff,beq_iff_eq,ZW];omega
    have L:(1:Int)<=(b.size:Int):=by omega
    clear H z v;generalize decide (b[0].toNat=1)=y at G |-;go_enter Tryz.func332,Tryz.ntmps332
    go_wp2_with fail
    go_region
    all_goals
     go_wp2_with fail
     (refine ZA (dE (n:=1) rfl Tryz.underlying326 rfl (by kernel_rfl) _ _ (w.heap.size+1) rfl (by first|(rw[au g];rfl)|(rw[au (g).drew];rfl)|(rw[aw];rfl)|(rw[az,aw];rfl))) rfl ?_;(first|rw[au g]|rw[au (g).drew]|rw[aw]|rw[az,aw]))
     exact⟨_,rfl,D.o,by (first|exact Zy (by exact aB) (by omega) _|(exact aB))⟩
  .have H:X4 (Z5 b,0)=(Z2,([],11)):=by
    have:Z5 b=[]:=List.eq_nil_of_length_eq_zero (by rw[Z0];omega);rw[this];rfl
   rw[H];have E:((b.size:Int)==0)=ZZ:=by rw[beq_iff_eq];omega
   clear H A;go_enter Tryz.func332,Tryz.ntmps332
   go_wp2_with (go_at_call 341;(with_reducible refine (ii _ _).mono ?_);rintro _ I ⟨rfl,h⟩;have o:=g.below h;have B:=below2 h;clear h)
   (refine ZA (dE (n:=1) rfl Tryz.underlying326 rfl (by kernel_rfl) _ _ (w.heap.size+1) rfl (by first|(rw[au o];rfl)|(rw[au (o).drew];rfl)|(rw[aw];rfl)|(rw[az,aw];rfl))) rfl ?_;(first|rw[au o]|rw[au (o).drew]|rw[aw]|rw[az,aw]))
   exact⟨⟨#[]⟩,rfl,rfl,Zy B (by omega) _⟩
 .have H:X4 (Z5 b,x)=(Z2,(Z5 b,x)):=by unfold X4;rw[ZX C]
  rw[H];have E:((x:Int)==0)=Z2:=by rw[ZS];omega
  clear C H;go_enter Tryz.func332,Tryz.ntmps332
  go_wp2_with fail
  go_region
  all_goals
   go_wp2_with fail
   (refine ZA (dE (n:=1) rfl Tryz.underlying326 rfl (by kernel_rfl) _ _ (w.heap.size+1) rfl (by first|(rw[au g];rfl)|(rw[au (g).drew];rfl)|(rw[aw];rfl)|(rw[az,aw];rfl))) rfl ?_;(first|rw[au g]|rw[au (g).drew]|rw[aw]|rw[az,aw]))
   exact⟨b,rfl,rfl,Zy (by exact aB) (by omega) _⟩
theorem pe(S:b.size<=10000)(Y:m<=1000):ZJ Z8 335 #[.agg #[.string b,.int .i64 x],.int .i64 m] w fun r V=>∃ t:Z6,r=.returned (.tuple #[.int .i64 (Xh m (Z5 b,x)).1,.agg #[.string t,.int .i64 (Xh m (Z5 b,x)).2.2]])/\Z5 t=(Xh m (Z5 b,x)).2.1/\Below w.heap.size w V:=by
 have G:Held ((w.alloc (.cells #[.string b,.int .i64 x] 326)).alloc (.cells #[.string ⟨#[]⟩,.int .i64 0] 326)) (w.heap.size+1) 2:=by
  have:=Held.new (w.alloc (.cells #[.string b,.int .i64 x] 326)) #[.string ⟨#[]⟩,.int .i64 0] 326 2 rfl (by decide);simpa using this
 have E:=fun W=>sM b x W S
 have J:Xh m (Z5 b,x)=(if (Y2 (Z5 b,x)).2.2=0 then (if m<(Y2 (Z5 b,x)).1 then (0,([],8)) else Y2 (Z5 b,x)) else (0,(Y2 (Z5 b,x)).2)):=rfl;have y:=BF (Z5 b,x);have A:=Rd.num_lt (Z5 b,x);rw[J];clear J;generalize Y2 (Z5 b,x)=U at E y A |-;obtain⟨v,l,e⟩:=U;simp only at E y A |-
 have N:=lh E;clear E;have R:IntKind.u64.wrap (m:Int)=(m:Int):=IntWalk.u64_in _ ⟨by omega,by omega⟩;by_cases D:e=0
 .subst D;rw[ZT rfl];by_cases K:m<v
  .rw[ZT K];have Q:decide ((m:Int)<(v:Int))=ZZ:=by rw[ZW];omega
   clear y A;go_enter Tryz.func335,Tryz.ntmps335
   go_wp2_with first|go_at_call 342;(with_reducible refine (N.o _).mono ?_);rintro _ L ⟨t,rfl,o,h⟩;have z:=G.below h;have B:=below2 h;have T:=lh o;have g:=z.below ((ZR _ _).alloc (ZV _) (.cells #[.string t,.int .i64 0] 326));clear h o|go_at_call 341;(with_reducible refine (ii _ _).mono ?_);rintro _ O ⟨rfl,H⟩;have C:=g.below H;have F:=bt (B.alloc B.size _) H;clear H
   refine ZA (dE (n:=1) rfl Tryz.underlying326 rfl (by kernel_rfl) _ _ (w.heap.size+1) rfl (by rw[au C];rfl)) rfl ?_
   rw[au C];exact⟨⟨#[]⟩,rfl,rfl,Zy F (by omega) _⟩
  .rw[ZX K];have Q:decide ((m:Int)<(v:Int))=Z2:=by rw[ZI];omega
   have I:IntKind.i64.wrap (v:Int)=(v:Int):=IntWalk.i64_in _ ⟨by omega,by omega⟩;clear y A;go_enter Tryz.func335,Tryz.ntmps335
   go_wp2_with first|go_at_call 342;(with_reducible refine (N.o _).mono ?_);rintro _ L ⟨t,rfl,o,h⟩;have z:=G.below h;have B:=below2 h;have T:=lh o;have g:=z.below ((ZR _ _).alloc (ZV _) (.cells #[.string t,.int .i64 0] 326));clear h o|go_at_call 341;(with_reducible refine (ii _ _).mono ?_);rintro _ O ⟨rfl,H⟩;have C:=g.below H;have F:=bt (B.alloc B.size _) H;clear H
   go_region
   all_goals
    go_wp2_with fail
    refine ZA (dE (n:=1) rfl Tryz.underlying326 rfl (by kernel_rfl) _ _ (w.heap.size+1) rfl (by first|(rw[au g.drew];rfl)|(rw[au g];rfl))) rfl ?_
    (first|rw[au g.drew]|rw[au g])
    exact⟨t,rfl,T.o,Zy (by first|exact B.alloc B.size _|exact YZ (B.alloc B.size _)) (by omega) _⟩
 .rw[ZX D];obtain rfl:v=0:=y D;have X:((e:Int)==0)=Z2:=by rw[ZS];omega
  have I:IntKind.i64.wrap (0:Int)=0:=rfl;clear y A D;go_enter Tryz.func335,Tryz.ntmps335
  go_wp2_with first|go_at_call 342;(with_reducible refine (N.o _).mono ?_);rintro _ L ⟨t,rfl,o,h⟩;have z:=G.below h;have B:=below2 h;have T:=lh o;have g:=z.below ((ZR _ _).alloc (ZV _) (.cells #[.string t,.int .i64 e] 326));clear h o|go_at_call 341;(with_reducible refine (ii _ _).mono ?_);rintro _ O ⟨rfl,H⟩;have C:=g.below H;have F:=bt (B.alloc B.size _) H;clear H
  go_region
  all_goals
   go_wp2_with fail
   refine ZA (dE (n:=1) rfl Tryz.underlying326 rfl (by kernel_rfl) _ _ (w.heap.size+1) rfl (by first|(rw[au g.drew];rfl)|(rw[au g];rfl))) rfl ?_
   (first|rw[au g.drew]|rw[au g])
   exact⟨t,rfl,T.o,Zy (by first|exact B.alloc B.size _|exact YZ (B.alloc B.size _)) (by omega) _⟩
theorem ko(Q:b.size<=10000)(O:m<=1000):ZJ Z8 334 #[.agg #[.string b,.int .i64 x],.int .i64 m] w fun r U=>∃ u t:Z6,r=.returned (.tuple #[.string u,.agg #[.string t,.int .i64 (X5 m (Z5 b,x)).2.2]])/\Z5 u=(X5 m (Z5 b,x)).1/\Z5 t=(X5 m (Z5 b,x)).2.1/\Below w.heap.size w U:=by
 have E:Held ((w.alloc (.cells #[.string b,.int .i64 x] 326)).alloc (.cells #[.string ⟨#[]⟩,.int .i64 0] 326)) (w.heap.size+1) 2:=by
  have:=Held.new (w.alloc (.cells #[.string b,.int .i64 x] 326)) #[.string ⟨#[]⟩,.int .i64 0] 326 2 rfl (by decide);simpa using this
 have D:=fun W=>pe b x m W Q O
 have J:X5 m (Z5 b,x)=(if (Xh m (Z5 b,x)).2.2=0 then (if (Xh m (Z5 b,x)).2.1.length<(Xh m (Z5 b,x)).1 then ([],([],11)) else ((Xh m (Z5 b,x)).2.1.take (Xh m (Z5 b,x)).1,((Xh m (Z5 b,x)).2.1.drop (Xh m (Z5 b,x)).1,0))) else ([],(Xh m (Z5 b,x)).2)):=rfl;have C:=Rd.cnt_le m (Z5 b,x);have y:=Rd.cnt_len m (Z5 b,x);simp only[Z0] at y
 rw[J];clear J;generalize Xh m (Z5 b,x)=S at D C y |-;obtain⟨v,l,e⟩:=S;simp only at D C y |-
 have N:=lh D;clear D;by_cases F:e=0
 .subst F;rw[ZT rfl];by_cases z:l.length<v
  .rw[ZT z];have V:=lh z;clear z;go_enter Tryz.func334,Tryz.ntmps334
   go_wp2_with first|go_at_call 335;(with_reducible refine (N.o _).mono ?_);rintro _ K ⟨t,rfl,g,h⟩;have A:=E.below h;have B:=below2 h;have G:t.size<v:=(by rw[<-Z0,g];exact V.o);have H:=A.below ((ZR _ _).alloc (ZV _) (.cells #[.string t,.int .i64 0] 326));clear h g|go_at_call 341;(with_reducible refine (ii _ _).mono ?_);rintro _ Y ⟨rfl,o⟩;have I:=H.below o;have L:=bt (B.alloc B.size _) o;clear o
   refine ZA (dE (n:=1) rfl Tryz.underlying326 rfl (by kernel_rfl) _ _ (w.heap.size+1) rfl (by rw[au I];rfl)) rfl ?_
   rw[au I];exact⟨⟨#[]⟩,⟨#[]⟩,rfl,rfl,rfl,Zy L (by omega) _⟩
  .rw[ZX z];have V:=lh z;clear z;go_enter Tryz.func334,Tryz.ntmps334
   go_wp2_with first|go_at_call 335;(with_reducible refine (N.o _).mono ?_);rintro _ K ⟨t,rfl,g,h⟩;have A:=E.below h;have B:=below2 h;have G:v<=t.size:=(by have:=V.o;rw[<-Z0,g];omega);have R:t.size<=10000:=(by rw[<-Z0,g];omega);have T:=lh g;have H:=A.below ((ZR _ _).alloc (ZV _) (.cells #[.string t,.int .i64 0] 326));clear h g
   go_region
   all_goals
    go_wp2_with fail
    refine ZA (dE (n:=1) rfl Tryz.underlying326 rfl (by kernel_rfl) _ _ (w.heap.size+1) rfl (by first|(rw[au H.drew];rfl)|(rw[au H];rfl))) rfl ?_
    (first|rw[au H.drew]|rw[au H])
    exact⟨_,_,rfl,by rw[<-T.o];exact ur _ _,by rw[<-T.o];exact jx _ _,Zy (by first|exact B.alloc B.size _|exact YZ (B.alloc B.size _)) (by omega) _⟩
 .rw[ZX F];have X:((e:Int)==0)=Z2:=by rw[ZS];omega
  clear F;go_enter Tryz.func334,Tryz.ntmps334
  go_wp2_with first|go_at_call 335;(with_reducible refine (N.o _).mono ?_);rintro _ K ⟨t,rfl,g,h⟩;have A:=E.below h;have B:=below2 h;have T:=lh g;have H:=A.below ((ZR _ _).alloc (ZV _) (.cells #[.string t,.int .i64 e] 326));clear h g
  go_region
  all_goals
   go_wp2_with fail
   refine ZA (dE (n:=1) rfl Tryz.underlying326 rfl (by kernel_rfl) _ _ (w.heap.size+1) rfl (by first|(rw[au H.drew];rfl)|(rw[au H];rfl))) rfl ?_
   (first|rw[au H.drew]|rw[au H])
   exact⟨⟨#[]⟩,t,rfl,rfl,T.o,Zy (by first|exact B.alloc B.size _|exact YZ (B.alloc B.size _)) (by omega) _⟩
end
end Go.Proofs.YtnkjliahpeebjaaGreatDoor
