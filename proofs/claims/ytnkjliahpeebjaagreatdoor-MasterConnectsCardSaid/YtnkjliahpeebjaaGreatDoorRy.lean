/- Catalogs. -/
import Derived.Test.YtnkjliahpeebjaaGreatDoorEc
import Derived.Test.YtnkjliahpeebjaaGreatDoorRsB
set_option maxRecDepth 8000
set_option maxHeartbeats 4000000
open _root_ renaming List->Z5,if_neg->Z0,if_pos->ZX,UInt8->ZP
open Go.Proofs.YtnkjliahpeebjaaGreatDoor.Ds renaming bl->Z4,bl_length->ZO,mk_bl->XA
open Bool renaming true->ZZ,and_eq_true->ZT
open List renaming take_succ_eq_append_getElem->ZB,append_assoc->Zp,cons_append->Zm,drop_eq_getElem_cons->Zb,nil_append->YM,append_nil->YL,getElem_mem->Yu,take_length->XH,drop_length->VY
open Go.Proofs.YtnkjliahpeebjaaGreatDoor.Wi renaming enc->YT
open Go.Proofs.YtnkjliahpeebjaaGreatDoor.En renaming base->YD
open Int renaming toNat->XG
namespace Go.Proofs.YtnkjliahpeebjaaGreatDoor
variable(e:En)(a:Operand->Value)(k:Int)(s:Z5 ZP)(w:World)(l b:Z5 Int)(x:Fu)(r:Z5 ZP)
def rclip(n:Nat):Int:=if 1099511627776<n then -1 else (n:Int)
theorem BN(n:Nat)(h:n<=1099511627776):rclip n=n:=by unfold rclip;rw[Z0 (by omega)]
def rN(s:Z5 ZP × Nat):Int × (Z5 ZP × Nat):=(rclip (Rd.num s).1,(Rd.num s).2)
theorem ik(n:Int)(r:Z5 ZP)(H:0<=n)(h:n<=1099511627776):rN (YT n.toNat++r,0)=(n,(r,0)):=by
 unfold rN;rw[Rd.num_enc _ _ (by omega)];simp only
 rw[BN _ (by omega),Int.toNat_of_nonneg H]
def rL(s:Z5 ZP × Nat):Nat->Z5 Int × (Z5 ZP × Nat)
 | 0=>([],s)
 | k+1=>((rL s k).1++[(rN (rL s k).2).1],(rN (rL s k).2).2)
theorem wj(b:Z5 Int)(r:Z5 ZP)(h:gS b):∀ k,k<=b.length->rL (encs (b.map XG)++r,0) k=(b.take k,(encs ((b.drop k).map XG)++r,0))
 | 0,_=>rfl
 | k+1,d=>by
   have H:k<b.length:=by omega
   have c:=h _ (Yu H);rw[rL,wj b r h k (by omega)];simp only
   rw[Zb H,List.map_cons,encs,Zp,ik _ _ c.1 c.2];simp only
   rw[ZB H]
theorem wh(h:gS b)(n:Nat)(H:n=b.length):rL (encs (b.map XG)++r,0) n=(b,(r,0)):=by
 rw[wj b r h n (by omega),H,XH,VY];rfl
def fo(e:En)(s:Z5 ZP × Nat):En × (Z5 ZP × Nat) :=
 let a:=rN s
 let b:=rN a.2
 let c:=Rd.boo b.2
 let d:=Rd.txt 8 c.2
 ({ e with lim:=a.1,last:=b.1,em:=c.1,owner:=⟨d.1.toArray⟩ },d.2)
def fM(e:En)(s:Z5 ZP × Nat):En × (Z5 ZP × Nat):=({ e with target:=⟨(Rd.txt 31 s).1.toArray⟩ },(Rd.txt 31 s).2)
def fN(e:En)(s:Z5 ZP × Nat):En × (Z5 ZP × Nat):=({ e with cat:=(rN s).1 },(rN s).2)
def jo(s:Z5 ZP × Nat):Gr × (Z5 ZP × Nat) :=
 let t:=Rd.txt 8 s
 let b:=Rd.boo t.2
 let n:=rN b.2
 ((⟨t.1.toArray⟩,b.1,n.1),n.2)
def dr(s:Z5 ZP × Nat):Nat->Z5 Gr × (Z5 ZP × Nat)
 | 0=>([],s)
 | k+1=>((dr s k).1++[(jo (dr s k).2).1],(jo (dr s k).2).2)
theorem Eu(g:Gr)(r:Z5 ZP)(h:GrOk g)(d:g.1.size<=8):jo (grs [g]++r,0)=(g,(r,0)):=by
 have H:=h.l;obtain⟨a,b,c⟩:=g;simp only at d H
 have E:grs [(a,b,c)]++r=YT (Z4 a).length++(Z4 a++(tb b::(YT c.toNat++r))):=by
  rw[ZO];simp only[grs,Zp,Zm,YM]
 unfold jo;rw[E,Rd.txt_enc 8 _ _ (by rw[ZO];omega) (by rw[ZO];omega)];simp only
 rw[show tb b=(if b then 1 else 0) from rfl,Rd.boo_tb];simp only
 rw[ik _ _ H.1 H.2,XA]
theorem vl(g:Z5 Gr)(r:Z5 ZP)(h:∀ x∈g,GrOk x/\x.1.size<=8):∀ k,k<=g.length->dr (grs g++r,0) k=(g.take k,(grs (g.drop k)++r,0))
 | 0,_=>rfl
 | k+1,d=>by
   have H:k<g.length:=by omega
   have E:grs (g.drop k)++r=grs [g[k]]++(grs (g.drop (k+1))++r):=by
    rw[Zb H,show g[k]::g.drop (k+1)=[g[k]]++g.drop (k+1) from rfl,jY,Zp]
   have c:=h _ (Yu H);rw[dr,vl g r h k (by omega)];simp only
   rw[E,Eu _ _ c.1 c.2];simp only
   rw[ZB H]
def ey(e:En)(s:Z5 ZP × Nat):En × Z5 Gr × (Z5 ZP × Nat) :=
 let a:=rN s
 let t:=Rd.txt 8 a.2
 let n:=Rd.cnt 8 t.2
 let l:=dr n.2 n.1
 ({ e with lev:=a.1,owner:=⟨t.1.toArray⟩ },l.1,l.2)
def ew(e:En)(s:Z5 ZP × Nat):En × Z5 Int × (Z5 ZP × Nat) :=
 let l:=rL s 14
 let u:=Rd.boo l.2
 let c:=rN u.2
 let v:=Rd.txt 8 c.2
 let o:=Rd.txt 8 v.2
 let cr:=rN o.2
 let ex:=rN cr.2
 let ar:=Rd.boo ex.2
 let n:=Rd.cnt 4 ar.2
 let A:=rL n.2 n.1
 let U:=rN A.2
 ({ e with d0:=l.1.getD 0 0,d1:=l.1.getD 1 0,d2:=l.1.getD 2 0,d3:=l.1.getD 3 0,d4:=l.1.getD 4 0,d5:=l.1.getD 5 0,d6:=l.1.getD 6 0,d7:=l.1.getD 7 0,d8:=l.1.getD 8 0,d9:=l.1.getD 9 0,d10:=l.1.getD 10 0,d11:=l.1.getD 11 0,d12:=l.1.getD 12 0,d13:=l.1.getD 13 0,uq:=u.1,cls:=c.1,vol:=⟨v.1.toArray⟩,own:=⟨o.1.toArray⟩,cr:=cr.1,ex:=ex.1,ar:=ar.1,used:=U.1 },A.1,U.2)
def dA(k:Int)(n:ByteArray)(s:Z5 ZP × Nat):Fu × (Z5 ZP × Nat) :=
 if k=0 then (((ew (YD k n) s).1,(ew (YD k n) s).2.1,[]),(ew (YD k n) s).2.2)
 else if k=1 then (((fo (YD k n) s).1,[],[]),(fo (YD k n) s).2)
 else if k=2 then (((fM (YD k n) s).1,[],[]),(fM (YD k n) s).2)
 else if k=3 then (((fN (YD k n) s).1,[],[]),(fN (YD k n) s).2)
 else (((ey (YD k n) s).1,[],(ey (YD k n) s).2.1),(ey (YD k n) s).2.2)
theorem CD(h:DatOk e l)(v:e.vol.size<=8)(o:e.own.size<=8):ew (YD e.kind e.name) (dW e l++r,0)=(fg e,l,(r,0)):=by
 obtain⟨n,f,-,-,H,c,g,d,u⟩:=h
 have E:dW e l++r=encs ((bK e).map XG)++(tb e.uq::(YT e.cls.toNat++(YT (Z4 e.vol).length++(Z4 e.vol++(YT (Z4 e.own).length++(Z4 e.own++(YT e.cr.toNat++(YT e.ex.toNat++(tb e.ar::(YT l.length++(encs (l.map XG)++(YT e.used.toNat++r)))))))))))):=by
  unfold dW iG;rw[ZO,ZO];simp only[encs,Zp,Zm,YM]
 unfold ew;rw[E,wh (bK e) _ n 14 rfl];simp only
 rw[show tb e.uq=(if e.uq then 1 else 0) from rfl,Rd.boo_tb];simp only
 rw[ik _ _ f.1 f.2];simp only
 rw[Rd.txt_enc 8 _ _ (by rw[ZO];omega) (by rw[ZO];omega)];simp only
 rw[Rd.txt_enc 8 _ _ (by rw[ZO];omega) (by rw[ZO];omega)];simp only
 rw[ik _ _ H.1 H.2];simp only
 rw[ik _ _ c.1 c.2];simp only
 rw[show tb e.ar=(if e.ar then 1 else 0) from rfl,Rd.boo_tb];simp only
 rw[Rd.cnt_enc 4 _ _ d (by omega)];simp only
 rw[wh l _ g l.length rfl];simp only
 rw[ik _ _ u.1 u.2,XA,XA];rfl
theorem CF(g:Z5 Gr)(r:Z5 ZP)(h:ProfOk e g)(o:e.owner.size<=8)(H:∀ x∈g,x.1.size<=8):ey (YD e.kind e.name) (dH e g++r,0)=(fG e,g,(r,0)):=by
 obtain⟨c,-,i,f⟩:=h
 have E:dH e g++r=YT e.lev.toNat++(YT (Z4 e.owner).length++(Z4 e.owner++(YT g.length++(grs g++r)))):=by
  unfold dH;rw[ZO];simp only[Zp]
 unfold ey;rw[E,ik _ _ c.1 c.2];simp only
 rw[Rd.txt_enc 8 _ _ (by rw[ZO];omega) (by rw[ZO];omega)];simp only
 rw[Rd.cnt_enc 8 _ _ f (by omega)];simp only
 rw[vl g r (fun x d=>⟨i x d,H x d⟩) _ (Nat.le_refl _),XH,VY,XA];rfl
theorem CE(h:Vp.grp e=ZZ):fo (YD e.kind e.name) (dG e++r,0)=(eS e,(r,0)):=by
 unfold Vp.grp at h;simp only[ZT] at h
 obtain⟨⟨H,c⟩,d⟩:=h;have R:=rng1 _ _ _ H;have f:=rng1 _ _ _ c;have g:=own8 _ d
 have E:dG e++r=YT e.lim.toNat++(YT e.last.toNat++(tb e.em::(YT (Z4 e.owner).length++(Z4 e.owner++r)))):=by
  unfold dG encs encs encs;rw[ZO];simp
 unfold fo;rw[E,ik _ _ (by omega) (by omega)];simp only
 rw[ik _ _ (by omega) (by omega)];simp only
 rw[show tb e.em=(if e.em then 1 else 0) from rfl,Rd.boo_tb];simp only
 rw[Rd.txt_enc 8 _ _ (by omega) (by omega),XA];rfl
theorem CB(h:e.target.size<=31):fM (YD e.kind e.name) (eD e++r,0)=(gU e,(r,0)):=by
 have E:eD e++r=YT (Z4 e.target).length++(Z4 e.target++r):=by
  unfold eD;rw[ZO,Zp]
 unfold fM;rw[E,Rd.txt_enc 31 _ _ (by rw[ZO];omega) (by rw[ZO];omega),XA];rfl
theorem CC(h:Vp.cat e=ZZ):fN (YD e.kind e.name) (eR e++r,0)=(gV e,(r,0)):=by
 have R:=rng1 _ _ _ h;unfold fN eR;rw[ik _ _ (by omega) (by omega)];rfl
theorem CH(h:aA x=ZZ):dA x.1.kind x.1.name (dX x++r,0)=(x,(r,0)):=by
 obtain⟨e,l,g⟩:=x;unfold aA at h;unfold dA dX;simp only at h |-
 split at h
 .rename_i k;rw[ZX k,ZX k];unfold fL at h;simp only[ZT] at h
  obtain⟨⟨_,H⟩,c⟩:=h;obtain⟨q,-,d⟩:=(dV _ _ _ _ _ _).1 c;have f:=kx e l H;rw[CD e l r f.1 f.2.1.1 f.2.1.2,q,<-d]
 .rename_i k0;rw[Z0 k0,Z0 k0];split at h
  .rename_i k;rw[ZX k,ZX k];unfold fm at h;simp only[ZT] at h
   obtain⟨⟨_,H⟩,c⟩:=h;obtain⟨q,Q,d⟩:=(dV _ _ _ _ _ _).1 c;rw[CE e r H,q,<-Q,<-d]
  .rename_i k1;rw[Z0 k1,Z0 k1];split at h
   .rename_i k;rw[ZX k,ZX k];unfold eY at h;simp only[ZT] at h
    obtain⟨⟨_,H⟩,c⟩:=h;obtain⟨q,Q,d⟩:=(dV _ _ _ _ _ _).1 c;have:=ka e H;rw[CB e r (by omega),q,<-Q,<-d]
   .rename_i K;rw[Z0 K,Z0 K];split at h
    .rename_i k;rw[ZX k,ZX k];unfold fK at h;simp only[ZT] at h
     obtain⟨⟨_,H⟩,c⟩:=h;obtain⟨q,Q,d⟩:=(dV _ _ _ _ _ _).1 c;rw[CC e r H,q,<-Q,<-d]
    .rename_i i;rw[Z0 i,Z0 i];split at h
     .unfold gD at h;simp only[ZT] at h
      obtain⟨⟨_,H⟩,c⟩:=h;obtain⟨q,Q,-⟩:=(dV _ _ _ _ _ _).1 c;have p:=km e g H;rw[CF e g r p.1 p.2.2.1 (fun x j=>(p.2.2.2 x j).1),q,<-Q]
     .cases h
def gY(k:Int)(s:Z5 ZP):Option Fu :=
 if Rd.fin (dA k ⟨(eE s).toArray⟩ (s.drop 32,0)).2=0/\aA (dA k ⟨(eE s).toArray⟩ (s.drop 32,0)).1=ZZ/\cJ (dA k ⟨(eE s).toArray⟩ (s.drop 32,0)).1=s then some (dA k ⟨(eE s).toArray⟩ (s.drop 32,0)).1 else none
theorem FS(H:aA x=ZZ)(f:cJ x=s):gY x.1.kind s=some x:=by
 subst f;have h:=om x [] H;rw[YL,YL] at h;obtain⟨-,d,h⟩:=h;have c:=CH x [] H;rw[YL] at c;unfold gY;rw[d,h,XA,c];rw[ZX ⟨rfl,H,rfl⟩]
theorem Ag(h:gY k s=some x):aA x=ZZ/\cJ x=s:=by
 unfold gY at h;split at h
 .rename_i c;cases h;exact c.2
 .cases h
theorem tw(i:32<=s.length/\s.length<=200):cF s=(match iW (s.headD 0) with|some k=>gY k s|none=>none):=by
 cases c:iW (s.headD 0) with
 | none=>unfold cF;rw[ZX i,c]
 | some k =>
   simp only
   cases H:cF s with
   | some x =>
     obtain⟨d,h⟩:=mb s x H;have:=FS s x d h;have f:=om x [] d;rw[YL,YL,h] at f;rw[f.1,l7 _ (lu x d)] at c;cases c
     exact this.symm
   | none =>
     cases t:gY k s with
     | none=>rfl
     | some y =>
       obtain⟨g,h⟩:=Ag k s y t;rw[<-h,BV y g (Bp y g)] at H;cases H
section
open Go.RowKit
theorem Held.below{w W:World}{g n:Nat}(h:Held w g n)(d:Below w.heap.size w W):Held W g n:=by
 obtain⟨t,f,H⟩:=fR h
 have c:g<w.heap.size:=by
  rcases Nat.lt_or_ge g w.heap.size with k|k
  .exact k
  .rw[Array.getElem?_eq_none k] at H;cases H
 exact h.of_block (d.block _ c)
theorem Held.new(c:Array Value)(t:TypeId)(n:Nat)(H:c.size=n)(h:0<n):Held (w.alloc (.cells c t)) w.heap.size n:=⟨by rw[ak];exact H,h,fun o=>by simp⟩
theorem Held.lt{w:World}{g n:Nat}(h:Held w g n):g<w.heap.size:=by
 obtain⟨t,f,H⟩:=fR h;rcases Nat.lt_or_ge g w.heap.size with k|k
 .exact k
 .rw[Array.getElem?_eq_none k] at H;cases H
theorem Held.set{W:World}{g g' n:Nat}(h:Held W g n)(c:Array Value)(i:g'=g->c.size=n):Held (W.setRow g' c) g n:=by
 by_cases e:g'=g
 .subst e;refine⟨by rw[au h];exact i rfl,h.2.1,fun o=>?_⟩
  obtain⟨t,f,d⟩:=fR h;have H:=h.2.2 o;unfold World.frozen? at H |-;rw[d] at H;rw[setRow_heap W _ _ c t f d];exact H
 .exact h.of_block (cP W g' g c (fun q=>e q.symm))
theorem cT(W:World)(g G:Nat)(c:Array Value)(h:g≠G):row (W.setRow G c) g=row W g:=by
 unfold row;rw[cP W G g c h]
theorem jM(dst x t pos af gd)(h:db (a x)=ZZ)(H:(row w (bF (a x))).size=2) :
 (execOp a ⟨dst,.load 326 x,t,pos,af,gd⟩).run Tryz.prog w=.ok (.value (.agg (row w (bF (a x))))) w :=
 kW a w _ 1 _ Tryz.underlying326 rfl (by kernel_rfl) dst x t pos af gd h H
theorem jR(dst x y t' pos af gd)(h:db (a x)=ZZ)(H:Held w (bF (a x)) 2)(c:cV (a y)=ZZ)(d:(bA (a y)).size=2)(f:bh (bA (a y)).toList=ZZ) :
 (execOp a ⟨dst,.store 326 x y,t',pos,af,gd⟩).run Tryz.prog w=.ok .skip (w.setRow (bF (a x)) (bA (a y))) :=
 kN a w _ 1 (by kernel_rfl) dst x y t' pos af gd h H c d f
attribute [local go_sem ↓] jM jR
attribute [local go_sem] bn aS aH aK aT ak aI aw az aM aQ aL aP aO aR
end
end Go.Proofs.YtnkjliahpeebjaaGreatDoor
