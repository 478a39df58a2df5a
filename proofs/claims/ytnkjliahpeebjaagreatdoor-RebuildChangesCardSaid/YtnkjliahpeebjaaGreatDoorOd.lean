/- Catalogs. -/
import Derived.Test.YtnkjliahpeebjaaGreatDoorRmv
import Derived.Lib.BufferMore
set_option maxRecDepth 8000
set_option maxHeartbeats 16000000
open Option renaming some->Z9,none->Z7
open Go.Proofs.Tryz renaming prog->Z8,underlying53->Wq
open _root_ renaming ByteArray->Z6,List->Z1,if_neg->ZS,if_pos->ZP,beq_eq_false_iff_ne->ZJ,decide_eq_true->ZI,decide_eq_false->ZG,Array->Zy,Option->Zp,beq_iff_eq->YV,bne_iff_ne->YQ
open Go.RowKit renaming Below->Z4
open Go renaming Value->Z2,World->ZY,Calls->ZH,execOp->XP
open Bool renaming true->ZX,false->ZW,and_eq_true->ZQ
open Nat renaming le_refl->ZV,le_trans->ZC,mul_le_mul_right->Yc
open List renaming getElem?_eq_getElem->ZE,append_assoc->Zr,length_map->Y4,getElem_mem->YN
open Array renaming getElem?_eq_getElem->Zu,getElem?_eq_some_iff->Zf,getElem?_eq_none->Y9,getElem?_extract->Ye,ext_getElem?->XH,getElem?_setIfInBounds->Xs,size_append->Xa,getElem?_append_left->Wc
namespace Go.Proofs.YtnkjliahpeebjaaGreatDoor
open Go.RowKit
variable(a:Operand->Z2){W w' f:ZY}(v:Z2)(id:Int)(x:Fu){k i m:Int}{e:En}{b n j o:Nat}(w:ZY){gr d:Z2}{cs c:Zy Z2}{s:Z6}
section
set_option linter.unusedSimpArgs false
def opc(k i:Int)(c:Zy Z2)(s:Z6):Zy Z2:=(#[.int .i64 k,.int .i64 i]++c)++#[.string s]
theorem BH(h:c.size=33):(opc k i c s).size=36:=by
 unfold opc;rw[Xa,Xa,h];rfl
theorem GZ:(opc k i c s)[0]?=Z9 (.int .i64 k):=by
 unfold opc;rw[Array.append_assoc,Wc (by simp)];rfl
theorem In:(opc k i c s)[1]?=Z9 (.int .i64 i):=by
 unfold opc;rw[Array.append_assoc,Wc (by simp)];rfl
theorem Gq(h:c.size=33):(opc k i c s)[35]?=Z9 (.string s):=by
 unfold opc;rw[Array.getElem?_append_right (by rw[Xa,h];exact ZV 35),Xa,h];rfl
theorem El(h:c.size=33):(opc k i c s).extract 2 35=c:=by
 unfold opc;apply XH
 intro j;rw[Ye];by_cases H:j<33
 .rw[ZP (by rw[Xa,Xa,h];simp;omega),Wc (by rw[Xa,h];simp;omega),Array.getElem?_append_right (by simp)];simp
 .rw[Y9 (by omega:c.size<=j),ZS (by simp;omega)]
theorem Gs{v:Z2}(h:c[j]?=Z9 v):(opc k i c s)[2+j]?=Z9 v:=by
 have H:=(Zf.1 h).1;unfold opc;rw[Wc (by rw[Xa];simp;omega),Array.getElem?_append_right (by simp)];simpa using h
theorem Em(h:bh c.toList=ZX):bh (opc k i c s).toList=ZX:=by
 have H:∀ a b:Z1 Z2,bh a=ZX->bh b=ZX->bh (a++b)=ZX:=by
  intro a b g l
  induction a with
  | nil=>exact l
  | cons x r I=>rw[List.cons_append,aL,ZQ];rw[aL,ZQ] at g;exact⟨g.1,I g.2⟩
 unfold opc;rw[Array.toList_append,Array.toList_append];exact H _ _ (H _ _ rfl h) rfl
def opv(k i:Int)(e:En)(d gr:Z2)(s:Z6):Zy Z2:=opc k i (e.vals d gr) s
theorem eO(k i:Int)(e:En)(d gr:Z2)(s:Z6):(opv k i e d gr s).size=36:=BH (ah _ _ _)
theorem wT:(opv k i e d gr s)[0]?=Z9 (.int .i64 k):=GZ
theorem wU:(opv k i e d gr s)[1]?=Z9 (.int .i64 i):=In
theorem qE:(opv k i e d gr s)[35]?=Z9 (.string s):=Gq (ah _ _ _)
theorem iZ{v:Z2}(h:(e.vals d gr)[j]?=Z9 v):(opv k i e d gr s)[2+j]?=Z9 v:=Gs h
theorem kl(h:bh (e.vals d gr).toList=ZX):bh (opv k i e d gr s).toList=ZX:=Em h
theorem lT(dst x t pos af gd)(h:db (a x)=ZX)(H:(row w (bF (a x))).size=36) :
 (XP a ⟨dst,.load 31 x,t,pos,af,gd⟩).run Z8 w=.ok (.value (.agg (row w (bF (a x))))) w :=
 kW a w _ 35 _ Tryz.underlying31 rfl (by kernel_rfl) dst x t pos af gd h H
theorem nJ(z:Zy Z2)(t:TypeId)(dst x y t' pos af gd)(h:z.size=36)(H:db (a x)=ZX)(g:bF (a x)=w.heap.size)(l:cV (a y)=ZX)(p:(bA (a y)).size=36)(q:bh (bA (a y)).toList=ZX) :
 (XP a ⟨dst,.store 31 x y,t',pos,af,gd⟩).run Z8 (w.alloc (.cells z t))=.ok .skip (w.alloc (.cells (bA (a y)) t)) :=
 l0 a w _ 35 (by kernel_rfl) z t dst x y t' pos af gd h H g l p q
theorem Hh(dst x t pos af gd)(H:cV (a x)=ZX)(l:(bA (a x)).size=36) :
 (XP a ⟨dst,.buildSlice 22 1 #[(0,x)],t,pos,af,gd⟩).run Z8 w=.ok (.value (.slice (Z9 ⟨w.heap.size,0,Z7⟩) 1 1)) (w.alloc (.cells (bA (a x)) 31)):=by
 obtain⟨cs,p⟩:∃ cs,a x=.agg cs:=by
  unfold cV at H;split at H
  .rename_i g h;exact⟨g,h⟩
  .cases H
 rw[p,aK] at l |-;go_simp
 have z:cs.zipIdx.size=36:=by simp [l]
 rw[<-z,<-Array.foldl_toList,Array.toList_zipIdx,me,lv _ cs (by rw[l];rfl)]
def eI(w:ZY)(b o:Nat):Zy Z2:=(row w b).extract o (o+36)
theorem zL{w:ZY}(h:eI w b o=cs)(i:Nat)(v:Z2)(H:cs[i]?=Z9 v):w.cell? ⟨b,o+i,Z7⟩=Z9 v:=by
 unfold eI at h;subst h;rw[Ye] at H;split at H
 .exact ae rfl (o+i) v H
 .cases H
theorem rQ{w:ZY}(l:Z4 w.heap.size w w')(h:eI w b o=cs)(g:0<cs.size):eI w' b o=cs:=by
 have z:0<(row w b).size:=by
  unfold eI at h;rcases Nat.eq_zero_or_pos (row w b).size with H|H
  .rw[<-h,Array.size_extract] at g;omega
  .exact H
 unfold eI at *;rw[am l rfl z];exact h
theorem JF{w:ZY}(q:cs.size=36)(h:∀ i v,cs[i]?=Z9 v->w.cell? ⟨b,o+i,Z7⟩=Z9 v):eI w b o=cs:=by
 unfold eI;apply XH
 intro i;rw[Ye];by_cases p:i<36
 .have H:=h i cs[i] (Zu (by omega))
  have g:(row w b)[o+i]?=Z9 cs[i]:=by
   unfold row
   cases e:w.heap[b]? with
   | none=>have:=block_lt_of_cell H;rw[Array.getElem?_eq_none_iff] at e;simp only at this;omega
   | some O =>
     cases O with
     | cells c t F=>simp only;rw[<-cell_of_row w b (o+i) c t F e];exact H
     | _=>simp [World.cell?,e] at H
  have l:o+i<(row w b).size:=(Zf.1 g).1;rw[ZP (by omega),g,Zu (by omega)]
 .rw[Y9 (by omega:cs.size<=i)];split
  .omega
  .rfl
theorem oD{w:ZY}(h:row w b=opv k i e d gr s):mid w b 2=e.vals d gr:=by
 unfold mid;rw[h];exact El (ah _ _ _)
theorem wQ(dst x t pos af gd)(H:lQ (a x)=ZX)(l:(eI w (bF (a x)) (lO (a x))).size=36) :
 (XP a ⟨dst,.load 31 x,t,pos,af,gd⟩).run Z8 w=.ok (.value (.agg (eI w (bF (a x)) (lO (a x))))) w:=by
 obtain⟨g,o,p⟩:∃ g o,a x=.pointer (Z9 ⟨g,o,Z7⟩):=by
  unfold lQ at H;split at H
  .rename_i g o h;exact⟨g,o,h⟩
  .cases H
 rw[p,aH,bE] at l |-;simp only at l |-
 unfold XP
 have r:w.rangeAt g o (eI w g o).toList:=fun j v q=>by
  rw[Array.getElem?_toList] at q;exact zL rfl j v q
 have u:(eI w g o).toList.length=36:=by simpa using l
 have y:=run_loadAt_mid (P:=Z8) w g o 31 _ _ r Tryz.underlying31 rfl (by rw[u];kernel_rfl);simp only[p,Sem.run_bind,y,Result.andThen_ok,Sem.run_pure,Array.toArray_toList]
structure Oz where
 k:Int
 i:Int
 x:Ef
 s:Z6
def OF(w:ZY)(b o:Nat)(z:Oz):Prop :=
 ∃ (A:Zp Addr) (C:Nat) (g:Zp Addr) (h:Nat),eI w b o=opv z.k z.i z.x.e (.slice A z.x.n1 C) (.slice g z.x.n2 h) z.s/\z.x.n1<=9223372036854775807/\z.x.n2<=9223372036854775807/\(z.x.n1<=1000->∃ l:Z1 Int,l.length=z.x.n1/\IS w (.slice A z.x.n1 C) l)/\(z.x.n2<=1000->z.x.gs.length=z.x.n2/\GS w (.slice g z.x.n2 h) z.x.gs)
theorem OF.below{w:ZY}{z:Oz}(h:OF w b o z)(H:Z4 w.heap.size w w'):OF w' b o z:=by
 obtain⟨A,C,p,r,u,y,B,D,g⟩:=h
 exact⟨A,C,p,r,rQ H u (by rw[eO];decide),y,B,fun q=>by
  obtain⟨l,G,t⟩:=D q;exact⟨l,G,t.below H⟩,fun q=>⟨(g q).1,(g q).2.below H⟩⟩
def OS(w:ZY)(a:Zp Addr)(n:Nat)(F:Nat->Oz):Prop:=n<=9223372036854775807/\∀ k,k<n->∃ b o,a=Z9 ⟨b,o,Z7⟩/\b<w.heap.size/\OF w b (o+k*36) (F k)
theorem OS.below{w:ZY}{a:Zp Addr}{F:Nat->Oz}(h:OS w a n F)(H:Z4 w.heap.size w w'):OS w' a n F :=
 ⟨h.1,fun k q=>by
  obtain⟨b,o,g,l,p⟩:=h.2 k q;exact⟨b,o,g,Nat.lt_of_lt_of_le l H.size,p.below H⟩⟩
attribute [local go_sem ↓] lT nJ wQ
attribute [local go_sem] bn aS aH bE bH aK aT ak aI aw az aM ah aQ aL aP aO aR aY aW eO
def few6X(z:Oz):Prop:=z.x.e.name.size<=60/\z.x.e.target.size<=60/\z.x.n2<=12/\z.x.n1<=8/\z.s.size<=60
def few6P(F:Nat->Oz)(n:Nat)(m:Int):Prop:=(n:Int)<=m/\∀ k,k<n->few6X (F k)
def Few6R(F:Nat->Oz)(n:Nat)(m:Int)(w w':ZY)(r:Ending):Prop:=∃ b:Bool,r=.returned (.bool b)/\(b=ZX->few6P F n m)/\Z4 w.heap.size w w'
theorem Few6R.no{F:Nat->Oz}{w:ZY}(h:Z4 w.heap.size w w'):Few6R F n m w w' (.returned (.bool ZW)):=⟨ZW,rfl,(fun h=>by cases h),h⟩
end
section
set_option linter.unusedSimpArgs false
theorem mZ(d gr:Z2)(w:ZY)(h:aA x=ZX)(H:x.1.name.size<=60)(g:IS w d x.2.1)(l:GS w gr x.2.2) :
 ZH Z8 136 #[.agg (x.1.vals d gr)] w fun r w'=>r=.returned (.tuple #[.string (bC x),.int .i64 0])/\Z4 w.heap.size w w':=by
 refine (tH x d gr w H g l).mono ?_
 rintro r w' ⟨t,rfl,q,p⟩;obtain rfl:t=bC x:=Ds.bl_inj (by rw[q];unfold bC;rw[Ds.bl_mk]);rw[ZP h];exact⟨rfl,p⟩
theorem wV(d gr:Z2)(w:ZY)(h:aA x=ZX)(H:x.1.name.size<=60)(g:IS w d x.2.1)(l:GS w gr x.2.2) :
 ZH Z8 154 #[.int .i64 id,.agg (x.1.vals d gr)] w fun r w'=>r=.returned (.agg #[.int .i64 0,.int .i64 id,.string (aC x.1.kind x.1.name),.string (bC x),.string ⟨#[]⟩])/\Z4 w.heap.size w w' :=
 pI id x d gr w h (ay _ _ _ (aD g) (aE l)) (fun W b=>mZ x d gr W h H (g.below b) (l.below b))
theorem vj(W:ZY)(id:Int)(k r:Z6):CS (W.alloc (.cells #[.int .i64 0,.int .i64 id,.string k,.string r,.string ⟨#[]⟩] 67)) 5 (.slice (Z9 ⟨W.heap.size,0,Z7⟩) 1 1) 1 (cv [((0,id,k,r,⟨#[]⟩):Ch)]):=iE W (0,id,k,r,⟨#[]⟩) _ _ rfl
theorem xT(cs:Zy Z2)(o i:Nat)(v:Z2)(H:i<33)(g:o+33<=cs.size):(cs.setIfInBounds (o+i) v).extract o (o+33)=(cs.extract o (o+33)).setIfInBounds i v:=by
 apply XH
 intro j;rw[Ye,Array.size_setIfInBounds,Xs,Xs,Ye,Array.size_extract];by_cases h:j<min (o+33) cs.size - o
 .rw[ZP h,ZP h];by_cases e:i=j
  .subst e;rw[ZP rfl,ZP rfl,ZP (by omega),ZP (by omega)]
  .rw[ZS e,ZS (by omega)]
 .rw[ZS h,ZS h];by_cases e:i=j
  .subst e;rw[ZP rfl,ZS (by omega)]
  .rw[ZS e]
theorem xK(cs:Zy Z2)(j k i:Nat)(v:Z2)(H:i<33)(g:j≠k):(cs.setIfInBounds (k*33+i) v).extract (j*33) (j*33+33)=cs.extract (j*33) (j*33+33):=by
 apply XH
 intro n;rw[Ye,Ye,Array.size_setIfInBounds,Xs];by_cases h:n<min (j*33+33) cs.size - j*33
 .rw[ZP h,ZP h,ZS (by omega)]
 .rw[ZS h,ZS h]
structure AB (W:ZY) (b k:Nat) (cs:Zy Z2) (s:Z1 Fu):Prop where
 e:EB W b cs
 z:s.length*33<=cs.size
 m:∀ j (h:j<s.length),k<=j->∃ a1 c1 a2 c2,cs.extract (j*33) (j*33+33)=s[j].1.vals (.slice a1 0 c1) (.slice a2 0 c2)
theorem AB.block{k:Nat}{s:Z1 Fu}(h:AB W b k cs s)(e:f.heap[b]?=W.heap[b]?)(H:W.heap.size<=f.heap.size):AB f b k cs s:=⟨h.e.of_block e H,h.z,h.m⟩
theorem AB.below{k:Nat}{s:Z1 Fu}(h:AB W b k cs s)(H:Z4 W.heap.size W f):AB f b k cs s:=h.block (H.block _ h.e.2.2) H.size
theorem AB.set{k:Nat}{s:Z1 Fu}(h:AB W b k cs s)(p:k<s.length)(t:Z6):∃ A C g l,AB (W.setCell ⟨b,k*33+29,Z7⟩ (.string t)) b (k+1) (cs.setIfInBounds (k*33+29) (.string t)) s/\mid (W.setCell ⟨b,k*33+29,Z7⟩ (.string t)) b (k*33)=(bT s[k] t).1.vals (.slice A 0 C) (.slice g 0 l):=by
 obtain⟨A,C,g,l,u⟩:=h.m k p (ZV _);have y:=h.z
 have H:k*33+33<=cs.size:=by
  have:(k+1)*33<=s.length*33:=Yc 33 p;omega
 refine⟨A,C,g,l,⟨h.e.set _ (by omega) _,by rw[Array.size_setIfInBounds];exact y,fun j q r=>?_⟩,?_⟩
 .rw[xK _ _ _ _ _ (by decide) (by omega)];exact h.m j q (by omega)
 .unfold mid;rw[(h.e.set (k*33+29) (by omega) (.string t)).1,xT _ _ _ _ (by decide) H,u,sS];rfl
theorem AB.at{k:Nat}{s:Z1 Fu}(h:AB W b k cs s)(H:k<s.length):∃ v,W.cell? ⟨b,k*33+29,Z7⟩=Z9 v:=by
 have:(k+1)*33<=s.length*33:=Yc 33 H;have g:=h.z;exact⟨_,h.e.cell (k*33+29) _ (Zu (by omega))⟩
theorem AB.of{B:Nat}{D:Z2}{s:Z1 Fu}{r:Z1 (Zy Z2)}(h:HJ B W D (s.map cY) r)(U:∀ a∈s,a.2.1=[]/\a.2.2=[])(h0:0<s.length):∃ b c cs,D=.slice (Z9 ⟨b,0,Z7⟩) s.length c/\B<=b/\b<W.heap.size/\AB W b 0 cs s:=by
 have R:=h.len;rw[Y4] at R;have z:=h.own;rw[Y4] at z;rcases z.2 with ⟨-,e⟩|⟨g,p,C,E,Q,l,T,hm,V,ht⟩
 .omega
 have A:row W g=C:=fA l;refine⟨g,p,C,E,Q,(Zf.1 l).1,⟨A,fun o=>?_,(Zf.1 l).1⟩,?_,fun j y _=>?_⟩
 .simp [World.frozen?,l]
 .rw[V];exact Yc 33 T
 .have q:j<r.length:=by omega
  have u:r[j]?=Z9 r[j]:=ZE q;have P:(s.map cY)[j]?=Z9 (cY s[j]):=by rw[List.getElem?_map,ZE y];rfl
  obtain⟨F,I,G,J,K,-,-,-,-,-⟩:=h.el j _ _ u P;obtain⟨g',Z,t,-,S,H⟩:=own_mid h.sz h.own j _ u;rw[E] at t;injection t with L
  injection L with N
  injection N with O
  subst O;obtain⟨X,Y⟩:=U _ (YN y);refine⟨F,I,G,J,?_⟩
  unfold mid at H;rw[A] at H;rw[H,K];unfold cY;dsimp only;rw[X,Y];rfl
attribute [local go_sem ↓] aZ fb bf bq cl eX
attribute [local go_sem] bn aS aH bE bH aK aT ak aI aw az aM ah aQ aL aP aO aR aY aW bD ap aq
theorem zR(l:Z1 Rw)(id:Int)(name t:Z6)(w:ZY)(hl:RwS w v l)(hn:l.length<=1000)(e7:name.size<=60)(d1:t.size<=60) :
 ZH Z8 132 #[v,.int .i64 id,.string name,.string t] w fun r w'=>Ch2 w w' (gu l id name t) r:=by
 have hv:=fun W=>dt t W
 have hg:=fun W (b:Z4 w.heap.size w W)=>iA v l id 0 name W (hl.below b)
 have b7:=fun W=>gI name W e7
 have b8:=fun W=>gI t W d1
 have hf:=fun W (b:Z4 w.heap.size w W)=>oZ v l id t W (hl.below b)
 have Q:=fun W (b:Z4 w.heap.size w W)=>rA v l id name W hn (hl.below b)
 have C:=mv l id name;have p:=uo l id name;have B:=@Fw l id name t;have a7:=@Cp l id name;obtain⟨a0,c0,rfl,-⟩:=_root_.id hl;unfold gu;clear hl;cases G:Ds.name (Ds.bl t)
 rw[ZP rfl];rw[G] at hv;have HV:=lh hv;clear hv hg b7 b8 hf Q C p B a7 G;rotate_left;rw[ZS (by decide)];rw[G] at hv;have HV:=lh hv;clear hv;generalize bz l id 0 name=gg at hg a7 |-;obtain⟨y,be⟩:=gg;dsimp only at hg a7 |-;have HG:=lh hg;clear hg;by_cases h0:be=0
 rotate_left;rw[ZP h0];have t1:(be != 0)=ZX:=YQ.2 h0;clear h0 b7 b8 hf Q C p B a7 G;rotate_right
 subst h0;rw[ZS (fun h=>h rfl)];obtain⟨a8,a9⟩:=a7 rfl;clear a7;generalize Ds.gen (Ds.bl name)=b1 at b7 |-;generalize Ds.gen (Ds.bl t)=b2 at b8 |-;have A:=lh b7;have b0:=lh b8;clear b7 b8;cases b1
 rotate_left
 .rw[ZP (.inl rfl)];clear hf Q C p B G a8 a9;go_enter Tryz.func132,Tryz.ntmps132
  go_upto_region 4 with (first
   | (go_at_call 130;(refine (HV.o _).mono ?_);rintro _ w1 ⟨rfl,H⟩;have L:=lh H;clear H)
   | (go_at_call 134;(refine (HG.o _ L.o).mono ?_);rintro _ u ⟨⟨d,gr,rfl,I,g,E,F⟩,H⟩;have K:=ay y.1 d gr (aD I) (aE g);have HI:=lh I;have X:=lh g;have R2:=ak u (y.1.vals d gr) 29 (0,0);have K2:=gQ u (y.1.vals d gr) 29 (ah _ _ _);have J:=lh (bt (bt L.o H) (aj u (.cells (y.1.vals d gr) 29)));have zq:=H.size;clear I g E F H))
  generalize u.alloc (.cells (y.1.vals d gr) 29)=W2 at R2 K2 J |-
  go_wp2_with first|go_at_call 143;have b3:=A;clear b3;(with_reducible refine (A.o _).mono ?_);rintro _ w3 ⟨rfl,H⟩;clear A;have N:=lh H;clear H|go_at_call 143;(with_reducible refine (b0.o _).mono ?_);rintro _ w4 ⟨rfl,H⟩;have D:=lh (bt N.o H);clear H
  go_ret2
  exact⟨_,rfl,bu _,bt J.o D.o⟩
 rotate_right
 cases b2
 rotate_left
 .rw[ZP (.inr rfl)];clear hf Q C p B G a8 a9;go_enter Tryz.func132,Tryz.ntmps132
  go_upto_region 4 with (first
   | (go_at_call 130;(refine (HV.o _).mono ?_);rintro _ w1 ⟨rfl,H⟩;have L:=lh H;clear H)
   | (go_at_call 134;(refine (HG.o _ L.o).mono ?_);rintro _ u ⟨⟨d,gr,rfl,I,g,E,F⟩,H⟩;have K:=ay y.1 d gr (aD I) (aE g);have HI:=lh I;have X:=lh g;have R2:=ak u (y.1.vals d gr) 29 (0,0);have K2:=gQ u (y.1.vals d gr) 29 (ah _ _ _);have J:=lh (bt (bt L.o H) (aj u (.cells (y.1.vals d gr) 29)));have zq:=H.size;clear I g E F H))
  generalize u.alloc (.cells (y.1.vals d gr) 29)=W2 at R2 K2 J |-
  go_wp2_with first|go_at_call 143;have b3:=A;clear b3;(with_reducible refine (A.o _).mono ?_);rintro _ w3 ⟨rfl,H⟩;clear A;have N:=lh H;clear H|go_at_call 143;(with_reducible refine (b0.o _).mono ?_);rintro _ w4 ⟨rfl,H⟩;have D:=lh (bt N.o H);clear H
  go_ret2
  exact⟨_,rfl,bu _,bt J.o D.o⟩
 rotate_right
 rw[ZS (by simp)];have a6:∃ fc,(dx l id t).2=fc:=⟨_,rfl⟩;obtain⟨fc,a6⟩:=a6;rw[a6] at B |-;have HT:=lh (fun W=>sH fc W);generalize e6:dx l id t=ff at hf a6;obtain⟨yf,b4⟩:=ff;dsimp only at hf a6;subst a6;have HF:=lh hf;clear hf e6;by_cases h1:cE b4=0
 rotate_left
 .rw[ZP h1];have t1:(cE b4 != 0)=ZX:=YQ.2 h1;clear h1 Q C p B G a8 a9;generalize cE b4=ac at HT t1 |-;go_enter Tryz.func132,Tryz.ntmps132
  go_upto_region 4 with (first
   | (go_at_call 130;(refine (HV.o _).mono ?_);rintro _ w1 ⟨rfl,H⟩;have L:=lh H;clear H)
   | (go_at_call 134;(refine (HG.o _ L.o).mono ?_);rintro _ u ⟨⟨d,gr,rfl,I,g,E,F⟩,H⟩;have K:=ay y.1 d gr (aD I) (aE g);have HI:=lh I;have X:=lh g;have R2:=ak u (y.1.vals d gr) 29 (0,0);have K2:=gQ u (y.1.vals d gr) 29 (ah _ _ _);have J:=lh (bt (bt L.o H) (aj u (.cells (y.1.vals d gr) 29)));have zq:=H.size;clear I g E F H))
  generalize u.alloc (.cells (y.1.vals d gr) 29)=W2 at R2 K2 J |-
  go_wp2_with first|go_at_call 143;have b3:=A;clear b3;(with_reducible refine (A.o _).mono ?_);rintro _ w3 ⟨rfl,H⟩;clear A;have N:=lh H;clear H|go_at_call 143;(with_reducible refine (b0.o _).mono ?_);rintro _ w4 ⟨rfl,H⟩;have D:=lh (bt N.o H);clear H|go_at_call 212;(refine (HF.o _ (bt J.o D.o)).mono ?_);rintro _ w5 ⟨⟨cq,cr,rfl,-,-,-,-⟩,H⟩;have O:=lh (bt D.o H);clear H|(go_at_call 213;(refine (HT.o _).mono ?_);rintro _ w6 ⟨rfl,rfl⟩)
  go_ret2
  exact⟨_,rfl,bu _,bt J.o O.o⟩
 rotate_right
 rw[ZS (fun h=>h h1)];have B:=B h1;have t1:(cE b4 != 0)=ZW:=by rw[h1];rfl
 generalize cE b4=ac at HT t1;clear h1;generalize cW l id name=aa at Q C p B |-;obtain⟨s,ec⟩:=aa;dsimp only at Q C p B |-;have cd:=lh Q;clear Q;by_cases h2:ec=0
 rotate_left
 .rw[ZP h2];have t2:(ec != 0)=ZX:=YQ.2 h2;clear h2 C p B G a8 a9;go_enter Tryz.func132,Tryz.ntmps132
  go_upto_region 4 with (first
   | (go_at_call 130;(refine (HV.o _).mono ?_);rintro _ w1 ⟨rfl,H⟩;have L:=lh H;clear H)
   | (go_at_call 134;(refine (HG.o _ L.o).mono ?_);rintro _ u ⟨⟨d,gr,rfl,I,g,E,F⟩,H⟩;have K:=ay y.1 d gr (aD I) (aE g);have HI:=lh I;have X:=lh g;have R2:=ak u (y.1.vals d gr) 29 (0,0);have K2:=gQ u (y.1.vals d gr) 29 (ah _ _ _);have J:=lh (bt (bt L.o H) (aj u (.cells (y.1.vals d gr) 29)));have zq:=H.size;clear I g E F H))
  generalize u.alloc (.cells (y.1.vals d gr) 29)=W2 at R2 K2 J |-
  go_wp2_with first|go_at_call 143;have b3:=A;clear b3;(with_reducible refine (A.o _).mono ?_);rintro _ w3 ⟨rfl,H⟩;clear A;have N:=lh H;clear H|go_at_call 143;(with_reducible refine (b0.o _).mono ?_);rintro _ w4 ⟨rfl,H⟩;have D:=lh (bt N.o H);clear H|go_at_call 212;(refine (HF.o _ (bt J.o D.o)).mono ?_);rintro _ w5 ⟨⟨cq,cr,rfl,-,-,-,-⟩,H⟩;have O:=lh (bt D.o H);clear H|(go_at_call 213;(refine (HT.o _).mono ?_);rintro _ w6 ⟨rfl,rfl⟩)|go_at_call 215;(refine (cd.o _ (bt J.o O.o)).mono ?_);rintro _ R ⟨hv,d3,rfl,hJ,H⟩;obtain⟨ja,jc,rfl⟩:=bX (jC hJ.own);have ce:=lh hJ;have V:=lh (bt O.o H);have z5:=O.o.size;have z7:=H.size;clear H hJ
  go_ret2
  exact⟨_,rfl,bu _,bt J.o V.o⟩
 rotate_right
 subst h2;rw[ZS (fun h=>h rfl)];have c7:∀ W d gr,bh (y.1.vals d gr).toList=ZX->ZH Z8 216 #[.int .i64 id,.agg (y.1.vals d gr)] W fun r w'=>r=.returned (.agg #[.int .i64 1,.int .i64 id,.string (aC y.1.kind y.1.name),.string ⟨#[]⟩,.string ⟨#[]⟩])/\Z4 W.heap.size W w':=fun W d gr h=>rX id y d gr W h
 have b6:=fun W d gr (i1:IS W d y.2.1) (i2:GS W gr y.2.2)=>wV id (dz y t) d gr W (Eg a8 a9 G) d1 i1 i2
 have d0:=fun a (ha:a∈s) W d gr (i1:IS W d a.2.1) (i2:GS W gr a.2.2)=>wV id (bT a t) d gr W (Eh (p a ha).1 (p a ha).2.1 G (B a ha)) (ZC (pr (p a ha).1 (p a ha).2.1).2.2 (by decide)) i1 i2
 have bk:∀ a∈s,a.2.1=[]/\a.2.2=[]:=fun a ha=>⟨(pr (p a ha).1 (p a ha).2.1).1,(pr (p a ha).1 (p a ha).2.1).2.1⟩
 have dm:=lh d0;have bc:=lh bk;have bp:jO id y t s=[(1,id,aC y.1.kind y.1.name,⟨#[]⟩,⟨#[]⟩)]++([(0,id,aC (dz y t).1.kind (dz y t).1.name,bC (dz y t),⟨#[]⟩)]++s.map (fun a=>bI id (bT a t))):=rfl;rw[bp];have c9:∀ d gr,(y.1.vals d gr).setIfInBounds 1 (.string t)=(dz y t).1.vals d gr:=fun d gr=>sR y.1 d gr t
 generalize aC y.1.kind y.1.name=k1 at c7 |-;generalize aC (dz y t).1.kind (dz y t).1.name=k2 at b6 |-;generalize bC (dz y t)=r2 at b6 |-;generalize (dz y t).1=en at b6 c9;have dj:=lh c7;have dq:=lh b6;have ds:=lh c9;clear c7 b6 d0 bk bp c9 p B G a8 a9;rotate_left
 iterate 2
  focus
   go_enter Tryz.func132,Tryz.ntmps132
   go_wp2_with first|go_at_call 130;(refine (HV.o _).mono ?_);rintro _ w1 ⟨rfl,H⟩;have L:=lh H;clear H|go_at_call 134;(refine (HG.o _ L.o).mono ?_);rintro _ u ⟨⟨d,gr,rfl,I,g,E,F⟩,H⟩;have K:=ay y.1 d gr (aD I) (aE g);have HI:=lh I;have X:=lh g;have R2:=ak u (y.1.vals d gr) 29 (0,0);have K2:=gQ u (y.1.vals d gr) 29 (ah _ _ _);have J:=lh (bt (bt L.o H) (aj u (.cells (y.1.vals d gr) 29)));have zq:=H.size;clear I g E F H
   go_ret2
   first|exact⟨_,rfl,bu _,J.o⟩|exact⟨_,rfl,bu _,L.o⟩
 go_enter Tryz.func132,Tryz.ntmps132
 go_upto_region 4 with (first
  | (go_at_call 130;(refine (HV.o _).mono ?_);rintro _ w1 ⟨rfl,H⟩;have L:=lh H;clear H)
  | (go_at_call 134;(refine (HG.o _ L.o).mono ?_);rintro _ u ⟨⟨d,gr,rfl,I,g,E,F⟩,H⟩;have K:=ay y.1 d gr (aD I) (aE g);have HI:=lh I;have X:=lh g;have R2:=ak u (y.1.vals d gr) 29 (0,0);have K2:=gQ u (y.1.vals d gr) 29 (ah _ _ _);have J:=lh (bt (bt L.o H) (aj u (.cells (y.1.vals d gr) 29)));have zq:=H.size;clear I g E F H))
 generalize c4:u.alloc (.cells (y.1.vals d gr) 29)=W2 at R2 K2 J |-;have e9:u.heap.size+1=W2.heap.size:=by rw[<-c4];simp
 have d9:=lh (show Z4 u.heap.size u W2 by rw[<-c4];exact aj _ _);generalize hq:u.heap.size=q at R2 K2 e9 |-;clear c4
 go_upto_region 17 with (first
  | (go_at_call 143;have b3:=A;clear b3;(with_reducible refine (A.o _).mono ?_);rintro _ w3 ⟨rfl,H⟩;clear A;have N:=lh H;clear H)
  | (go_at_call 143;(with_reducible refine (b0.o _).mono ?_);rintro _ w4 ⟨rfl,H⟩;have D:=lh (bt N.o H);clear H)
  | (go_at_call 212;(refine (HF.o _ (bt J.o D.o)).mono ?_);rintro _ w5 ⟨⟨cq,cr,rfl,-,-,-,-⟩,H⟩;have O:=lh (bt D.o H);clear H)
  | (go_at_call 213;(refine (HT.o _).mono ?_);rintro _ w6 ⟨rfl,rfl⟩)
  | (go_at_call 215;(refine (cd.o _ (bt J.o O.o)).mono ?_);rintro _ R ⟨hv,d3,rfl,hJ,H⟩;obtain⟨ja,jc,rfl⟩:=bX (jC hJ.own);have ce:=lh hJ;have V:=lh (bt O.o H);have z5:=O.o.size;have z7:=H.size;clear H hJ))
 have R7:=am V.o R2 (by rw[ah];decide);have K7:=K2.below V.o;have B7:=lh (bt J.o V.o);have em:=V.o.size;go_upto_region 18 with (go_at_call 216;(refine (dj.o _ _ _ K).mono ?_);rintro _ w8 ⟨rfl,H⟩;have BE:=lh H;clear H)
 have e8:w.heap.size<=q:=by have:=L.o.size;omega
 have d2:w.heap.size<=R.heap.size:=B7.o.size;obtain⟨W8,ba⟩:∃ W8,w8.alloc (.cells #[.int .i64 1,.int .i64 id,.string k1,.string ⟨#[]⟩,.string ⟨#[]⟩] 67)=W8:=⟨_,rfl⟩;have a4:=lh (show Z4 R.heap.size R W8 by rw[<-ba];exact bt BE.o (aj _ _));have O8:=lh (show W8.ownsRow R.heap.size 67 5 (.slice (Z9 ⟨w8.heap.size,0,Z7⟩) 1 1) 1 (cv [((1,id,k1,⟨#[]⟩,⟨#[]⟩):Ch)]) by rw[<-ba];exact ej (vg w8 (1,id,k1,⟨#[]⟩,⟨#[]⟩) 67) BE.o.size);rw[ba];clear ba;generalize w8.heap.size=g8 at O8 |-;have R8:=am a4.o R7 (by rw[ah];decide);have K8:=K7.below a4.o;have cm:=lh R8;have cg:=lh K8;have f1:=K8.2.2 1;have c1:=ae R8 1 _ (aq _ _ _);clear R2 K2 R7 K7 R8 K8;go_upto_region 19 with fail
 obtain⟨W9,P⟩:∃ W9,W8.setCell ⟨q,1,Z7⟩ (.string t)=W9:=⟨_,rfl⟩;have BX:=bt d9.o (bt V.o a4.o);have R9:row W9 q=en.vals d gr:=by rw[<-P,jU cg.o,cm.o];exact ds.o d gr
 have O9:=lh (show W9.ownsRow R.heap.size 67 5 (.slice (Z9 ⟨g8,0,Z7⟩) 1 1) 1 (cv [((1,id,k1,⟨#[]⟩,⟨#[]⟩):Ch)]) by rw[<-P];exact aV O8.o (fun x hx=>ic (fun e=>by have h1:=(ax O8.o x hx).1;have h2:x=q:=e;omega)));have I9:=lh (show IS W9 d y.2.1 by rw[<-P];exact uD HI.o (by omega) (HI.o.below BX));have G9:=lh (show GS W9 gr y.2.2 by rw[<-P];exact uQ X.o (by omega) (X.o.below BX));have B9:=lh (show Z4 w.heap.size w W9 by rw[<-P];exact (bt B7.o a4.o).setCell e8 _);have S9:R.heap.size<=W9.heap.size:=by rw[<-P];simp;exact a4.o.size
 have ct:0<s.length->∃ b cs,ja=Z9 ⟨b,0,Z7⟩/\w.heap.size<=b/\b<R.heap.size/\AB W9 b 0 cs s:=fun h0=>by
  obtain⟨b,c,cs,e1,h1,h2,h3⟩:=AB.of ce.o bc.o h0;injection e1 with e2
  refine⟨b,cs,e2,by omega,h2,?_⟩
  rw[<-P];exact (h3.below a4.o).block (ic (fun e=>by have h4:b=q:=e;omega)) (by simp)
 have ao:=lh ct;rw[P];clear P ct c1 f1 BX cm cg
 go_wp2_with first|go_at_call 154;(refine (dq.o _ d gr I9.o G9.o).mono ?_);rintro _ ab ⟨rfl,H⟩;have bs:=lh (gH O9.o H);have ca:=lh (bt B9.o H);have d6:=lh H;have ei:=H.size;clear H|at_builtin;refine dQ _ rfl (.tmp 79) (.tmp 83) 53 67 _ _ 5 64 rfl Wq gA fZ ge gi rfl (by decide) R.heap.size (.slice (Z9 ⟨g8,0,Z7⟩) 1 1) (.slice (Z9 ⟨ab.heap.size,0,Z7⟩) 1 1) 1 1 (cv [((1,id,k1,⟨#[]⟩,⟨#[]⟩):Ch)]) (cv [((0,id,k2,r2,⟨#[]⟩):Ch)]) rfl (gH bs.o (aj ab _)) rfl (vj ab id k2 r2) (fC _) (by unfold maxLen;omega) (by omega) (by simp;omega) ?_;intro a5 c5 d4 U hg c6;have Y:=lh hg;have cn:=lh U;clear U hg c6
 have af:=bt d6.o (aj ab (.cells #[.int .i64 0,.int .i64 id,.string k2,.string r2,.string ⟨#[]⟩] 67));have cb:=lh ((bt ca.o (aj ab (.cells #[.int .i64 0,.int .i64 id,.string k2,.string r2,.string ⟨#[]⟩] 67))).trans (fy Y.o (fun z hz=>ZC d2 (ax bs.o z hz).1) (bt ca.o (aj ab _)).size));have cp:R.heap.size<=d4.heap.size:=by have h1:=af.size;have h2:=Y.o.size;omega
 have ar:Hid (0<s.length->∃ b cs,ja=Z9 ⟨b,0,Z7⟩/\w.heap.size<=b/\b<R.heap.size/\AB d4 b 0 cs s):=lh (fun h0=>by
  obtain⟨b,cs,e1,h1,h2,h3⟩:=ao.o h0;have h4:=h3.below af;exact⟨b,cs,e1,h1,h2,h4.block (Y.o.block b h4.e.2.2 (fun e=>by have:=(ax bs.o b e.symm).1;omega)) Y.o.size⟩)
 clear ao af;go_loopw [20,21] (fun v i wr=>∃ (k:Nat),k<=s.length/\i=.int .i64 k/\Hid (wr.ownsRow R.heap.size 67 5 v (1+1+k) (cv [((1,id,k1,⟨#[]⟩,⟨#[]⟩):Ch)]++cv [((0,id,k2,r2,⟨#[]⟩):Ch)]++cv ((s.take k).map (fun a=>bI id (bT a t)))))/\Hid (Z4 w.heap.size w wr)/\R.heap.size<=wr.heap.size/\Hid (k<s.length->∃ b cs,ja=Z9 ⟨b,0,Z7⟩/\w.heap.size<=b/\b<R.heap.size/\AB wr b k cs s)) (fun _ i _=>s.length - (intOf i).toNat)
 case atStart=>exact⟨0,Nat.zero_le _,rfl,lh (by have h:=cn.o;rw[List.take_zero,List.map_nil,show cv []=[] from rfl,List.append_nil];exact h),cb,cp,ar⟩
 case round =>
  clear ar cb cn cp;obtain⟨k,hk,rfl,HO,HB,zK,ao⟩:=hrel;obtain⟨ra,rc,rfl⟩:=bX HO.o;by_cases b5:k<s.length
  .obtain⟨b,cs,rfl,cw,e4,b9⟩:=ao.o b5;obtain⟨a1,c1,a2,c2,bi,bb⟩:=b9.set b5 t;obtain⟨v0,e5⟩:=b9.at b5;have e3:=b9.e.2.1 (k*33+29);have av:=lh bi;have hx:=YN b5;have c8:s.take (k+1)=s.take k++[s[k]]:=List.take_succ_eq_append_getElem b5;generalize s[k]=x at bb hx c8;obtain⟨n1,n2⟩:=bc.o x hx;have he:=fun W=>dm.o x hx W (.slice a1 0 c1) (.slice a2 0 c2) (by rw[n1];exact uC W a1 c1) (by rw[n2];exact uP W a2 c2)
   have a3:((s.take (k+1)).map (fun a=>bI id (bT a t)))=((s.take k).map (fun a=>bI id (bT a t)))++[(0,id,aC (bT x t).1.kind (bT x t).1.name,bC (bT x t),⟨#[]⟩)]:=by rw[c8,List.map_append];rfl
   generalize aC (bT x t).1.kind (bT x t).1.name=k3 at a3 he;generalize bC (bT x t)=r3 at a3 he;generalize (bT x t).1=ex at he bb;have HE:=lh he;have dl:=lh a3;have j1:(0:Int)<=(k:Int):=by omega
   have j2:(k:Int)<(s.length:Int):=by omega
   have ck:=lh bb;clear he a3 c8 bb b9 bi ao n1 n2;go_upto_region 24 with fail
   obtain⟨S,hW⟩:∃ S,wr.setCell ⟨b,k*33+29,Z7⟩ (.string t)=S:=⟨_,rfl⟩;have av:Hid (AB S b (k+1) (cs.setIfInBounds (k*33+29) (.string t)) s):=lh (by rw[<-hW];exact av.o);have m2:mid S b (k*33)=ex.vals (.slice a1 0 c1) (.slice a2 0 c2):=by rw[<-hW];exact ck.o
   have ee:(mid S b (k*33)).size=33:=by rw[m2];exact ah _ _ _
   have O2:=lh (show S.ownsRow R.heap.size 67 5 (.slice ra (1+1+k) rc) (1+1+k) (cv [((1,id,k1,⟨#[]⟩,⟨#[]⟩):Ch)]++cv [((0,id,k2,r2,⟨#[]⟩):Ch)]++cv ((s.take k).map (fun a=>bI id (bT a t)))) by rw[<-hW];exact aV HO.o (fun z hz=>ic (fun e=>by have h1:=(ax HO.o z hz).1;have h2:z=b:=e;omega)));have BB:=lh (show Z4 w.heap.size w S by rw[<-hW];exact HB.o.setCell cw _);have zW:R.heap.size<=S.heap.size:=by rw[<-hW];simp;exact zK
   rw[hW];clear hW ck e5 e3
   go_wp2_with first|go_at_call 154;(refine (HE.o _).mono ?_);rintro _ ad ⟨rfl,T⟩;have c3:=lh (gH O2.o T);have cc:=lh (bt BB.o T);have d7:=lh T;have el:=T.size;clear T|at_builtin;refine dQ _ rfl (.tmp 96) (.tmp 103) 53 67 _ _ 5 64 rfl Wq gA fZ ge gi rfl (by decide) R.heap.size (.slice ra (1+1+k) rc) (.slice (Z9 ⟨ad.heap.size,0,Z7⟩) 1 1) (1+1+k) 1 _ (cv [((0,id,k3,r3,⟨#[]⟩):Ch)]) rfl (gH c3.o (aj ad _)) rfl (vj ad id k3 r3) (fC _) (by unfold maxLen;omega) (by omega) (by simp;omega) ?_;intro a5 c5 d5 U hg c6;have Z:=lh hg;have du:=lh U;clear U hg c6
   have al:=bt d7.o (aj ad (.cells #[.int .i64 0,.int .i64 id,.string k3,.string r3,.string ⟨#[]⟩] 67));have d8:=lh ((bt cc.o (aj ad (.cells #[.int .i64 0,.int .i64 id,.string k3,.string r3,.string ⟨#[]⟩] 67))).trans (fy Z.o (fun z hz=>ZC d2 (ax c3.o z hz).1) (bt cc.o (aj ad _)).size));have e0:R.heap.size<=d5.heap.size:=by have h1:=al.size;have h2:=Z.o.size;omega
   have br:Hid (k+1<s.length->∃ b' cs,Z9 (⟨b,0,Z7⟩:Addr)=Z9 ⟨b',0,Z7⟩/\w.heap.size<=b'/\b'<R.heap.size/\AB d5 b' (k+1) cs s):=lh (fun _=>by
    have h4:=av.o.below al;exact⟨b,_,rfl,cw,e4,h4.block (Z.o.block b h4.e.2.2 (fun e=>by have:=(ax c3.o b e.symm).1;omega)) Z.o.size⟩)
   clear al;go_roundw
   case rel=>exact⟨k+1,by omega,by go_num,lh (by rw[dl.o,gP,<-Zr];exact du.o),d8,e0,br⟩
   case measure=>simp [intOf];omega
  .obtain rfl:k=s.length:=by omega
   have HC:Hid (ChS wr (.slice ra (1+1+s.length) rc) ([((1,id,k1,⟨#[]⟩,⟨#[]⟩):Ch)]++([((0,id,k2,r2,⟨#[]⟩):Ch)]++s.map (fun a=>bI id (bT a t))))):=lh (by
    have cz:([((1,id,k1,⟨#[]⟩,⟨#[]⟩):Ch)]++([((0,id,k2,r2,⟨#[]⟩):Ch)]++s.map (fun a=>bI id (bT a t)))).length=1+1+s.length:=by simp only[List.length_append,List.length_singleton,Y4];omega
    refine jp (by rw[cz];omega) ?_
    rw[cz,gP,gP,<-Zr];have h:=dU HO.o;rw[List.take_of_length_le (ZV _)] at h;exact h)
   clear HO;go_wp2_with fail
   go_ret2
   exact⟨_,rfl,HC.o,HB.o⟩
end
section
set_option linter.unusedSimpArgs false
attribute [local go_sem ↓] aZ bf bq cl eX
attribute [local go_sem] bn aS aH bE bH aK aT ak aI aw az aM ah aQ aL aP aO aR aY aW bD ap aq
theorem zU(l:Z1 Rw)(K:Int)(name:Z6)(w:ZY)(A:RwS w v l)(D:l.length<=1000)(z:∀ x∈l,x.2.1.size<=60) :
 ZH Z8 59 #[v,.int .i64 K,.string name] w fun r w'=>Ch2 w w' (jb l K name) r:=by
 have H:=lh (qF v l K name w A);have p:=lh (fun id W (b:Z4 w.heap.size w W)=>zP v l id K name W (A.below b) D z);unfold jb;clear A D z;generalize dp l K name=g at H |-;obtain⟨id,C⟩:=g;dsimp only at H |-;by_cases y:C=0
 rotate_left;rw[ZP y];have T:(C != 0)=ZX:=YQ.2 y;clear y p;rotate_right
 subst y;rw[ZS (fun h=>h rfl)];have R:=lh (p.o id);clear p;generalize gX l id K name=q at R |-
 all_goals
  go_enter Tryz.func59,Tryz.ntmps59
  go_wp2_with first|go_at_call 68;(refine H.o.mono ?_);rintro _ G ⟨rfl,t⟩;have B:=lh t;clear t|go_at_call 129;(refine (R.o _ B.o).mono ?_);rintro _ I ⟨O,rfl,u,t⟩;have F:=lh u;have E:=lh (bt B.o t);clear t u
  go_ret2
  first|exact⟨_,rfl,F.o,E.o⟩|exact⟨_,rfl,bu _,B.o⟩
theorem zV(l:Z1 Rw)(name T:Z6)(w:ZY)(L:RwS w v l)(hn:l.length<=1000)(G:T.size<=60)(F:name.size<=60) :
 ZH Z8 60 #[v,.string name,.string T] w fun r w'=>Ch2 w w' (jd l name T) r:=by
 have u:=fun W=>dt name W
 have g:=fun W=>dt T W
 have y:=fun W (b:Z4 w.heap.size w W)=>ms v l name W (L.below b)
 have p:=fun W (b:Z4 w.heap.size w W)=>ms v l T W (L.below b)
 have H:=lh (fun id W (b:Z4 w.heap.size w W)=>zR v l id name T W (L.below b) hn F G);unfold jd;clear L hn G F;cases J:Ds.name (Ds.bl name)
 rw[ZP (.inl rfl)];rw[J] at u;have z:=lh u;clear u g J y p H;rotate_left;rw[J] at u;have z:=lh u;clear u J;cases K:Ds.name (Ds.bl T)
 rw[ZP (.inr rfl)];rw[K] at g;have D:=lh g;clear g K y p H;rotate_left;rw[K] at g;have D:=lh g;clear g K;rw[ZS (by rintro (h|h) <;> cases h)];generalize cj l name=g1 at y |-;obtain⟨I,Y⟩:=g1;dsimp only at y |-;have B:=lh y;clear y;by_cases A:Y=0
 rotate_left;rw[ZP A];have U:(Y != 0)=ZX:=YQ.2 A;clear A H p;rotate_right
 subst A;rw[ZS (fun h=>h rfl)];generalize cj l T=g2 at p |-;obtain⟨S,Z⟩:=g2;dsimp only at p |-;have Q:=lh p;clear p;by_cases A:Z=0
 rotate_left;rw[ZP A];have U:(Z != 0)=ZX:=YQ.2 A;clear A H;rotate_right
 subst A;rw[ZS (fun h=>h rfl)];by_cases C:I≠S
 rw[ZP C];have U:(I != S)=ZX:=YQ.2 C;clear C H;rotate_left;rw[ZS C];have U:(I != S)=ZW:=by simpa using C
 have X:=lh (H.o I);clear H C;generalize gu l I name T=q at X |-
 all_goals
  go_enter Tryz.func60,Tryz.ntmps60
  go_wp2_with first|go_at_call 130;have R:=z;clear R;(with_reducible refine (z.o _).mono ?_);rintro _ w2 ⟨rfl,t⟩;clear z;have V:=lh t;clear t|go_at_call 130;(with_reducible refine (D.o _).mono ?_);rintro _ w3 ⟨rfl,t⟩;have N:=lh (bt V.o t);clear t|go_at_call 131;have R:=B;clear R;(with_reducible refine (B.o _ N.o).mono ?_);rintro _ w4 ⟨rfl,t⟩;clear B;have O:=lh (bt N.o t);clear t|go_at_call 131;(with_reducible refine (Q.o _ O.o).mono ?_);rintro _ w5 ⟨rfl,t⟩;have P:=lh (bt O.o t);clear t|go_at_call 132;(refine (X.o _ P.o).mono ?_);rintro _ w6 ⟨ov,rfl,E,t⟩;have C6:=lh E;have B6:=lh (bt P.o t);clear t E
  go_ret2
  first|exact⟨_,rfl,C6.o,B6.o⟩|exact⟨_,rfl,bu _,P.o⟩|exact⟨_,rfl,bu _,O.o⟩|exact⟨_,rfl,bu _,N.o⟩|exact⟨_,rfl,bu _,V.o⟩
theorem xM(l:Z1 Rw)(p:Z6)(w:ZY)(K:RwS w v l)(B:∀ x∈l,x.2.1.size<=1000)(u:p.size<=1000) :
 ZH Z8 62 #[v,.string p] w fun r w'=>Ch2 w w' (jh l p) r:=by
 have t:=fun W=>rT p W u
 have A:=fun W (b:Z4 w.heap.size w W)=>iA v l 1 3 p W (K.below b)
 have N:=lh (fun id W (b:Z4 w.heap.size w W)=>re v l id p W (K.below b) B u);have P:=lh (fun W=>lH 3 p W);unfold jh;clear K B u;generalize dy p=pf at t |-;have G:=lh t;clear t;cases pf
 rw[ZP rfl];clear A;rotate_left;rw[ZS (by decide)];generalize bz l 1 3 p=Y at A |-;obtain⟨y,C⟩:=Y;dsimp only at A |-;have U:=lh A;clear A;by_cases D:C=0
 rotate_left;rw[ZP D];have t1:(C != 0)=ZX:=YQ.2 D;clear D;rotate_right
 subst D;rw[ZS (fun h=>h rfl)];have q:=N.o y.1.cat;generalize fI l y.1.cat p=Z at q |-;have V:=lh q;clear N q;cases Z
 rotate_left;rw[ZP rfl];rotate_right
 rw[ZS (by decide)];have H:=fun W=>iT W ((1,1,aC 3 p,⟨#[]⟩,⟨#[]⟩):Ch)
 unfold ch5 at H;generalize aC 3 p=kz at P H |-;have O:=lh H;clear H
 all_goals
  go_enter Tryz.func62,Tryz.ntmps62
  go_wp2_with first|go_at_call 133;(refine (G.o _).mono ?_);rintro _ w2 ⟨rfl,g⟩;have E:=lh g;clear g|go_at_call 134;(refine (U.o _ E.o).mono ?_);rintro _ T ⟨⟨d,gr,rfl,Q,z,I,J⟩,g⟩;have S:=ay y.1 d gr (aD Q) (aE z);have R:=ak T (y.1.vals d gr) 29 (0,0);have X:=ae R 30 _ (dv _ _ _);have F:=lh (bt (bt E.o g) (aj T (.cells (y.1.vals d gr) 29)));clear Q z I J g R|go_at_call 135;(refine (V.o _ F.o).mono ?_);rintro _ w4 ⟨rfl,g⟩;have L:=lh (bt F.o g);clear g|(go_at_call 137;(with_reducible refine (P.o _).mono ?_);rintro _ w5 ⟨rfl,rfl⟩)
  go_ret2
  first|exact⟨_,rfl,O.o _,bt L.o (aj _ _)⟩|exact⟨_,rfl,bu _,L.o⟩|exact⟨_,rfl,bu _,F.o⟩|exact⟨_,rfl,bu _,E.o⟩
theorem yB(l:Z1 Rw)(p:Z6)(id:Int)(w:ZY)(R:RwS w v l)(O:∀ x∈l,x.2.1.size<=1000)(I:p.size<=1000)(K:aA (di p id)=ZX->∀ W,Z4 w.heap.size w W->ZH Z8 136 #[.agg (fk p id)] W fun r w'=>r=.returned (.tuple #[.string (bC (di p id)),.int .i64 0])/\Z4 W.heap.size W w') :
 ZH Z8 61 #[v,.string p,.int .i64 id] w fun r w'=>Ch2 w w' (jf l p id) r:=by
 have G:=fun W=>rT p W I
 have D:=fun W (b:Z4 w.heap.size w W)=>iA v l 1 3 p W (R.below b)
 have A:=fun W (b:Z4 w.heap.size w W)=>ms v l p W (R.below b)
 have N:=lh (fun id W (b:Z4 w.heap.size w W)=>re v l id p W (R.below b) O I);have H:=fun h=>@vD p id h
 unfold jf;clear R O I;generalize dy p=pf at G H |-;have Z:=lh G;clear G;cases pf
 rw[ZP (.inl rfl)];clear D A K H;rotate_left;by_cases B:id<2
 rw[ZP (.inr (.inl B))];have t1:decide (id<2)=ZX:=ZI B;clear D A K H B;rotate_left;have t1:decide (id<2)=ZW:=ZG B;by_cases J:15<id
 rw[ZP (.inr (.inr J))];have t2:decide (15<id)=ZX:=ZI J;clear D A K H B J;rotate_left;have t2:decide (15<id)=ZW:=ZG J;rw[ZS (by rintro (h|h|h);cases h;exact B h;exact J h)];have q:=H rfl (by omega) (by omega);have g:=K q;clear K H B J;generalize bz l 1 3 p=gg at D |-;obtain⟨y,C⟩:=gg;dsimp only at D |-;have HG:=lh D;clear D;by_cases z:C=0
 rw[ZP z];have t3:(C==0)=ZX:=YV.2 z;clear z A g q;rotate_left;rw[ZS z];have t3:(C==0)=ZW:=ZJ.2 z;clear z;by_cases Q:C=6
 rotate_left;rw[ZP Q];have t4:(C != 6)=ZX:=YQ.2 Q;clear Q A g q;rotate_right
 subst Q;rw[ZS (fun h=>h rfl)];clear t3;generalize cj l p=g1 at A |-;obtain⟨P,cw⟩:=g1;dsimp only at A |-;have HW:=lh A;clear A;by_cases z:cw=0
 rotate_left;rw[ZP z];have t5:(cw != 0)=ZX:=YQ.2 z;clear z g q;rotate_right
 subst z;rw[ZS (fun h=>h rfl)];have E:=N.o P;generalize fI l P p=hn at E |-;have HN:=lh E;clear N E;cases hn
 rotate_left;rw[ZP rfl];clear g q;rotate_right
 rw[ZS (by decide)];obtain⟨e1,e2⟩:=ul (di p id) q;have F:aC (di p id).1.kind (di p id).1.name=aC 3 p:=rfl;have u:=fun W=>iT W (bI 1 (di p id))
 unfold bI ch5 at u;rw[F] at e1 u;unfold bI;rw[F];generalize bC (di p id)=rz at g u e1 e2 |-;generalize aC 3 p=kz at e1 u |-;have X:=lh u;unfold fk at g;have Y:=lh g;clear g u q F
 all_goals
  go_enter Tryz.func61,Tryz.ntmps61
  go_wp2_with first|go_at_call 133;(refine (Z.o _).mono ?_);rintro _ w2 ⟨rfl,t⟩;have S:=lh t;clear t|go_at_call 134;(refine (HG.o _ S.o).mono ?_);rintro _ w3 ⟨⟨d,gr,rfl,hI,L,a0,a1⟩,t⟩;have a2:=ay y.1 d gr (aD hI) (aE L);have T:=lh (bt (bt S.o t) (aj w3 (.cells (y.1.vals d gr) 29)));clear hI L a0 a1 t|go_at_call 131;(refine (HW.o _ T.o).mono ?_);rintro _ w4 ⟨rfl,t⟩;have U:=lh (bt T.o t);clear t|go_at_call 135;(refine (HN.o _ U.o).mono ?_);rintro _ w5 ⟨rfl,t⟩;have V:=lh (bt U.o t);clear t|go_at_call 136;(refine (Y.o _ V.o).mono ?_);rintro _ w6 ⟨rfl,t⟩;have B6:=lh (bt V.o t);clear t
  go_ret2
  first|exact⟨_,rfl,X.o _,bt B6.o (aj _ _)⟩|exact⟨_,rfl,bu _,V.o⟩|exact⟨_,rfl,bu _,U.o⟩|exact⟨_,rfl,bu _,T.o⟩|exact⟨_,rfl,bu _,S.o⟩
end
section
set_option linter.unusedSimpArgs false
def eL(l:Z1 Rw)(k i:Int)(x:Fu)(s:Z6):Z1 Ch × Int :=
 if k=0 then jg l x else if k=1 then jb l x.1.kind x.1.name else if k=2 then jd l x.1.name s else if k=3 then jf l s i else jh l s
attribute [local go_sem ↓] fb lT nJ
attribute [local go_sem] bn aS aH bE bH aK aT ak aI aw az aM ah eO aQ aL aP aO aR aY aW bD
theorem Gt(l:Z1 Rw)(k i:Int)(x:Fu)(s:Z6)(d gr:Z2)(w:ZY)(L:RwS w v l)(Z:l.length<=1000)(z:∀ x∈l,x.2.1.size<=60)(A:x.1.name.size<=60)(u:s.size<=60)(S:IS w d x.2.1)(t:GS w gr x.2.2) :
 ZH Z8 22 #[v,.agg (opv k i x.1 d gr s)] w fun r w'=>Ch2 w w' (eL l k i x s) r:=by
 have V:=ay x.1 d gr (aD S) (aE t);have a0:=kl (k:=k) (i:=i) (s:=s) V;have I:=lh (fun W (b:Z4 w.heap.size w W)=>zT v l x d gr W (L.below b) A V (fun O P=>pL x d gr O A (S.below (bt b P)) (t.below (bt b P))) (fun F O P=>mZ x d gr O F A (S.below (bt b P)) (t.below (bt b P))));have J:=lh (fun W (b:Z4 w.heap.size w W)=>zU v l x.1.kind x.1.name W (L.below b) Z z);have N:=lh (fun W (b:Z4 w.heap.size w W)=>zV v l x.1.name s W (L.below b) Z u A);have G:=lh (fun W (b:Z4 w.heap.size w W)=>yB v l s i W (L.below b) (fun y Y=>ZC (z y Y) (by decide)) (ZC u (by decide)) (fun F O _=>by have:=mZ (di s i) (.slice Z7 0 0) (.slice Z7 0 0) O F u (IS.nil _) (GS.nil _);rw[uv] at this;exact this));have X:=lh (fun W (b:Z4 w.heap.size w W)=>xM v l s W (L.below b) (fun y Y=>ZC (z y Y) (by decide)) (ZC u (by decide)));have R:=ak w (opv k i x.1 d gr s) 31 (0,0);have H:=lh (aj w (.cells (opv k i x.1 d gr s) 31));have n0:=ae R 0 _ wT;have n1:=ae R 1 _ wU;have n2:=ae R 2 _ (iZ (j:=0) (ap _ _ _));have n3:=ae R 3 _ (iZ (j:=1) (aq _ _ _));have a3:=ae R 35 _ qE;have Q:=oD R;have a2:(mid (w.alloc (.cells (opv k i x.1 d gr s) 31)) w.heap.size 2).size=33:=by rw[Q];exact ah _ _ _
 unfold eL;obtain⟨va,vc,rfl,-⟩:=L;clear R z S t V;by_cases q:k=0
 rw[ZP q];have t0:(k==0)=ZX:=YV.2 q;clear q J N G X;generalize jg l x=g at I |-;rotate_left;rw[ZS q];have t0:(k==0)=ZW:=ZJ.2 q;by_cases D:k=1
 rw[ZP D];have t1:(k==1)=ZX:=YV.2 D;clear q D I N G X;generalize jb l x.1.kind x.1.name=g at J |-;rotate_left;rw[ZS D];have t1:(k==1)=ZW:=ZJ.2 D;by_cases E:k=2
 rw[ZP E];have t2:(k==2)=ZX:=YV.2 E;clear q D E I J G X;generalize jd l x.1.name s=g at N |-;rotate_left;rw[ZS E];have t2:(k==2)=ZW:=ZJ.2 E;by_cases K:k=3
 rw[ZP K];have t3:(k==3)=ZX:=YV.2 K;clear q D E K I J N X;generalize jf l s i=g at G |-;rotate_left;rw[ZS K];have t3:(k==3)=ZW:=ZJ.2 K;clear q D E K I J N G;generalize jh l s=g at X |-
 all_goals
  go_enter Tryz.func22,Tryz.ntmps22
  go_wp2_with first|go_at_call 62;(refine (X.o _ H.o).mono ?_);rintro _ U ⟨T,rfl,h,p⟩;have B:=lh (bt H.o p);have C:=lh h;clear p h|go_at_call 58;(refine (I.o _ H.o).mono ?_);rintro _ U ⟨T,rfl,h,p⟩;have B:=lh (bt H.o p);have C:=lh h;clear p h|go_at_call 59;(refine (J.o _ H.o).mono ?_);rintro _ U ⟨T,rfl,h,p⟩;have B:=lh (bt H.o p);have C:=lh h;clear p h|go_at_call 60;(refine (N.o _ H.o).mono ?_);rintro _ U ⟨T,rfl,h,p⟩;have B:=lh (bt H.o p);have C:=lh h;clear p h|go_at_call 61;(refine (G.o _ H.o).mono ?_);rintro _ U ⟨T,rfl,h,p⟩;have B:=lh (bt H.o p);have C:=lh h;clear p h
  go_ret2
  exact⟨_,rfl,C.o,B.o⟩
end
end Go.Proofs.YtnkjliahpeebjaaGreatDoor
