/- Catalogs. -/
import Derived.Test.YtnkjliahpeebjaaGreatDoorNo
set_option maxRecDepth 8000
set_option maxHeartbeats 8000000
open Option renaming some->Z9,none->Z7
open Go.Proofs.Tryz renaming prog->Z8
open _root_ renaming ByteArray->Z6,List->Z3,if_neg->ZX,if_pos->ZT,beq_eq_false_iff_ne->ZS,bne_iff_ne->Zi
open Go.RowKit renaming Below->Z4
open Bool renaming false->Z2,true->ZZ
open Go renaming Value->Z1,World->ZY,Calls->ZJ,heap_alloc_new->Zu,cell_of_row->YH
open Go.World renaming cell?_of_block->ZU,size_alloc->X2
open Nat renaming lt_of_lt_of_le->ZH
namespace Go.Proofs.YtnkjliahpeebjaaGreatDoor
open Go.RowKit
variable(b:Operand->Z1)(s:Z6)(p f d c:Nat)(sv:Z1)(l:Z3 Rw)(fl cd a id e:Int)(x:Fu)(al gr:Z1)(w0 w:ZY)
section
def cE(e:Int):Int:=if e=0 then 5 else if e=6 then 0 else e
theorem mj:ZJ Z8 205 #[.int .i64 e] w fun r W=>r=.returned (.int .i64 (cE e))/\W=w:=by
 unfold cE;by_cases h:e=0
 subst h;rotate_left;have t:(e==0)=Z2:=ZS.2 h;rw[ZX h];by_cases H:e=6
 subst H;rotate_left;have T:(e==6)=Z2:=ZS.2 H;rw[ZX H]
 all_goals
  go_enter Tryz.func205,Tryz.ntmps205
  go_wp2_with fail
  go_ret
  exact⟨rfl,rfl⟩
def du(l:Z3 Rw)(fl cd a id:Int)(x:Fu):Int × Int :=
 if x.1.kind≠2 then (0,a) else match bY l fl cd a id x.1.target with
  | ((y,c),C)=>if c≠0 then (c,C) else if Ds.gen (Ds.bl y.1.name)=ZZ\/y.1.kind=2 then (7,C) else (0,C)
attribute [local go_sem ↓] aZ bf bq cl
attribute [local go_sem] bn aS aH bE bH aK aT ak aI aw az aM ah aQ aL aP aO aR aY aW bD ap aq
theorem tj(hm:MaxL w0)(hT:Tab w0)(hS:SHs w0 w p sv l fl cd a)(U:0<=a)(a0:a<=90000)(V:cd≠0/\cd≠6\/fl<=0)(I:IS w al x.2.1)(N:GS w gr x.2.2) :
 ZJ Z8 139 #[.iface 56 (.pointer (Z9 ⟨p,0,Z7⟩)),.int .i64 id,.agg (x.1.vals al gr)] w fun r w'=>r=.returned (.int .i64 (du l fl cd a id x).1)/\SHs w0 w' p sv l fl cd (du l fl cd a id x).2/\w.grownBy w' (Z9 p):=by
 have a1:=ay x.1 al gr (aD I) (aE N);have K:=lh hS;have a2:=hS.pl;have R0:=ak w (x.1.vals al gr) 29 (0,0);have N0:=ae R0 0 _ (ap _ _ _);clear I N;generalize q:du l fl cd a id x=g;unfold du at q;by_cases O:x.1.kind=2
 rotate_left
 .rw[ZT O] at q;subst q;have t0:(x.1.kind != 2)=ZZ:=Zi.2 O;have t1:(x.1.kind==2)=Z2:=ZS.2 O;clear O;go_enter Tryz.func139,Tryz.ntmps139
  go_wp2_with fail
  go_ret
  exact⟨rfl,K.o.below (aj _ _),bo _ (aj _ _)⟩
 rw[ZX (fun h=>h O)] at q;have N9:=ae R0 29 _ (cB _ _ _);have X:=aj w (.cells (x.1.vals al gr) 29);have z:=fun W (h:SHs w0 W p sv l fl cd a)=>mx p sv l fl cd a id x.1.target w0 W hm hT h U (by omega) V
 have E:=rn l fl cd a id x.1.target;generalize bY l fl cd a id x.1.target=gg at z E q;obtain⟨⟨y,C⟩,cb⟩:=gg;dsimp only at E q;have Q:=lh z;have H:=lh X;clear z X;by_cases L:C=0
 rotate_left
 .rw[ZT L] at q;subst q;have t1:(C != 0)=ZZ:=by rw[Zi];exact L
  clear L;go_enter Tryz.func139,Tryz.ntmps139
  go_wp2_with (go_at_call 112;(refine (Q.o _ (K.o.below H.o)).mono ?_);rintro _ J ⟨⟨A,G,rfl,I,i,m,o⟩,k,j⟩;have u:=ay y.1 A G (aD I) (aE i);have S:=lh k;have t:=lh j;clear I i m o k j)
  go_ret
  exact⟨rfl,S.o.below (aj _ _),bx (aJ (bo _ H.o) t.o) ((aj _ _).mono (by have:=(aJ (bo _ H.o) t.o).size;omega))⟩
 rw[ZX (fun h=>h L)] at q;subst L;have P:=lh (fun W (b:Z4 w0.heap.size w0 W)=>lq y.1.name W (Nat.le_trans E (by decide)) (hm.below b));by_cases n:Ds.gen (Ds.bl y.1.name)=ZZ
 .rw[ZT (.inl n)] at q;subst q;rw[n] at P;clear n;go_enter Tryz.func139,Tryz.ntmps139
  go_wp2_with first|go_at_call 112;(refine (Q.o _ (K.o.below H.o)).mono ?_);rintro _ J ⟨⟨A,G,rfl,I,i,m,o⟩,k,j⟩;have u:=ay y.1 A G (aD I) (aE i);have S:=lh k;have t:=lh j;have R:=ak J (y.1.vals A G) 29 (0,0);have Y:=ae R 0 _ (ap _ _ _);have Z:=ae R 1 _ (aq _ _ _);clear I i m o k j|go_at_call 155;(refine (P.o _ (S.o.below (aj _ _)).b).mono ?_);rintro _ w4 ⟨rfl,v⟩;have B:=lh (bt (aj _ _) v);clear v
  go_ret
  exact⟨rfl,S.o.below B.o,bx (aJ (bo _ H.o) t.o) (B.o.mono (by have:=(aJ (bo _ H.o) t.o).size;omega))⟩
 have D:Ds.gen (Ds.bl y.1.name)=Z2:=Bool.eq_false_iff.2 n;rw[D] at P;by_cases F:y.1.kind=2
 .rw[ZT (.inr F)] at q;subst q;have t2:(y.1.kind==2)=ZZ:=beq_iff_eq.2 F;clear D n F;go_enter Tryz.func139,Tryz.ntmps139
  go_wp2_with first|go_at_call 112;(refine (Q.o _ (K.o.below H.o)).mono ?_);rintro _ J ⟨⟨A,G,rfl,I,i,m,o⟩,k,j⟩;have u:=ay y.1 A G (aD I) (aE i);have S:=lh k;have t:=lh j;have R:=ak J (y.1.vals A G) 29 (0,0);have Y:=ae R 0 _ (ap _ _ _);have Z:=ae R 1 _ (aq _ _ _);clear I i m o k j|go_at_call 155;(refine (P.o _ (S.o.below (aj _ _)).b).mono ?_);rintro _ w4 ⟨rfl,v⟩;have B:=lh (bt (aj _ _) v);have T:=am v R (by rw[ah];decide);have M4:=ae T 0 _ (ap _ _ _);clear v
  go_ret
  exact⟨rfl,S.o.below B.o,bx (aJ (bo _ H.o) t.o) (B.o.mono (by have:=(aJ (bo _ H.o) t.o).size;omega))⟩
 .rw[ZX (by rintro (h|h);exact n h;exact F h)] at q;subst q;have t2:(y.1.kind==2)=Z2:=ZS.2 F;clear D n F;go_enter Tryz.func139,Tryz.ntmps139
  go_wp2_with first|go_at_call 112;(refine (Q.o _ (K.o.below H.o)).mono ?_);rintro _ J ⟨⟨A,G,rfl,I,i,m,o⟩,k,j⟩;have u:=ay y.1 A G (aD I) (aE i);have S:=lh k;have t:=lh j;have R:=ak J (y.1.vals A G) 29 (0,0);have Y:=ae R 0 _ (ap _ _ _);have Z:=ae R 1 _ (aq _ _ _);clear I i m o k j|go_at_call 155;(refine (P.o _ (S.o.below (aj _ _)).b).mono ?_);rintro _ w4 ⟨rfl,v⟩;have B:=lh (bt (aj _ _) v);have T:=am v R (by rw[ah];decide);have M4:=ae T 0 _ (ap _ _ _);clear v
  go_ret
  exact⟨rfl,S.o.below B.o,bx (aJ (bo _ H.o) t.o) (B.o.mono (by have:=(aJ (bo _ H.o) t.o).size;omega))⟩
end
section
theorem eX(dst x y t' pos af gd)(h:db (b x)=ZZ)(H:Held w (bF (b x)) 5)(g:cV (b y)=ZZ)(i:(bA (b y)).size=5)(j:bh (bA (b y)).toList=ZZ) :
 (execOp b ⟨dst,.store 67 x y,t',pos,af,gd⟩).run Z8 w=.ok .skip (w.setRow (bF (b x)) (bA (b y))) :=
 kN b w _ 4 (by kernel_rfl) dst x y t' pos af gd h H g i j
def fH:Array Z1:=#[.int .i64 0,.int .i64 0,.string ⟨#[]⟩,.string ⟨#[]⟩,.string ⟨#[]⟩]
def bJ(id:Int)(x:Fu):Ch:=(1,id,aC x.1.kind x.1.name,⟨#[]⟩,⟨#[]⟩)
def bC(x:Fu):Z6:=⟨(if aA x=ZZ then cJ x else []).toArray⟩
def bI(id:Int)(x:Fu):Ch:=(0,id,aC x.1.kind x.1.name,bC x,⟨#[]⟩)
attribute [local go_sem ↓] aZ bf bq cl eX
attribute [local go_sem] bn aS aH bE bH aK aT ak aI aw az aM ah aQ aL aP aO aR aY aW bD ap aq
theorem th(_a1:bh (x.1.vals al gr).toList=ZZ) :
 ZJ Z8 210 #[.int .i64 id,.agg (x.1.vals al gr)] w fun r i=>r=.returned (.agg (ch5 (bJ id x)))/\Z4 w.heap.size w i:=by
 have K:=lh (fun W=>jI x.1.kind x.1.name W);have R:=aI w (x.1.vals al gr) 29 (0,0) (.cells fH 67);have N:=ae R 0 _ (ap _ _ _);have j:=ae R 1 _ (aq _ _ _);have g:=Held.new (w.alloc (.cells (x.1.vals al gr) 29)) fH 67 5 rfl (by decide);rw[X2] at g;unfold fH at *;unfold bJ;go_enter Tryz.func210,Tryz.ntmps210
 go_wp2_with (go_at_call 88;(with_reducible refine (K.o _).mono ?_);rintro _ k ⟨rfl,h⟩;have H:=g.below h;have B:=lh (bt (below2' _ _ _) h);clear h)
 refine bodyPost_ret (gN (n:=4) rfl Tryz.underlying67 rfl (by kernel_rfl) _ _ (w.heap.size+1) rfl (by rw[au H];rfl)) rfl ?_
 rw[au H];exact⟨rfl,below_setRow B.o (by omega) _⟩
theorem vO(m:MaxL w)(T:Tab w)(h:x.1.name.size<=1000)(H:IS w al x.2.1)(g:GS w gr x.2.2) :
 ZJ Z8 76 #[.agg (x.1.vals al gr)] w fun r W=>r=.returned (.tuple #[.string (bC x),.int .i64 (if aA x=ZZ then 0 else 1)])/\Z4 w.heap.size w W:=by
 refine (si x.1 al gr x.2.1 x.2.2 w m T h H g).mono ?_
 rintro _ W ⟨t,rfl,j,i⟩;obtain rfl:t=bC x:=Ds.bl_inj (by rw[j];unfold bC;rw[Ds.bl_mk]);exact⟨rfl,i⟩
theorem mV(o:MaxL w)(T:Tab w)(z:x.1.name.size<=1000)(I:IS w al x.2.1)(G:GS w gr x.2.2) :
 ZJ Z8 140 #[.int .i64 id,.agg (x.1.vals al gr)] w fun r q=>r=.returned (.agg (ch5 (bI id x)))/\Z4 w.heap.size w q:=by
 have A:=ay x.1 al gr (aD I) (aE G);have K:=lh (fun W=>jI x.1.kind x.1.name W);have E:=lh (fun W (b:Z4 w.heap.size w W)=>vO x al gr W (o.below b) (T.below b) z (I.below b) (G.below b));have m:=aI w (x.1.vals al gr) 29 (0,0) (.cells fH 67);have i:=Held.new (w.alloc (.cells (x.1.vals al gr) 29)) fH 67 5 rfl (by decide);rw[X2] at i;clear I G;unfold fH at *;unfold bI;generalize bC x=v at E |-;generalize (if aA x=ZZ then (0:Int) else 1)=u at E;go_enter Tryz.func140,Tryz.ntmps140
 go_wp2_with first|go_at_call 76;(refine (E.o _ (below2' _ _ _)).mono ?_);rintro _ y ⟨rfl,H⟩;have k:=i.below H;have R:=am H m (by rw[ah];decide);have N:=ae R 0 _ (ap _ _ _);have t:=ae R 1 _ (aq _ _ _);have B:=lh (bt (below2' _ _ _) H);clear H|go_at_call 88;(with_reducible refine (K.o _).mono ?_);rintro _ C ⟨rfl,h⟩;have g:=k.below h;have j:=lh (bt B.o h);clear h
 refine bodyPost_ret (gN (n:=4) rfl Tryz.underlying67 rfl (by kernel_rfl) _ _ (w.heap.size+1) rfl (by rw[au g];rfl)) rfl ?_
 rw[au g];exact⟨rfl,below_setRow j.o (by omega) _⟩
end
section
def add1F(l:Z3 Rw)(fl cd a id:Int)(x:Fu):Int × Int :=
 if 2<x.1.kind then (cE (aG l fl cd a id x.1.kind x.1.name).1.2,(aG l fl cd a id x.1.kind x.1.name).2) else (cE (bY l fl cd a id x.1.name).1.2,(bY l fl cd a id x.1.name).2)
def add2F(l:Z3 Rw)(fl cd a id:Int)(x:Fu):Int × Int :=
 if Ds.gen (Ds.bl x.1.name)=ZZ/\x.1.kind=0 then ((aG l fl cd a id 1 (dK x.1.name)).1.2,(aG l fl cd a id 1 (dK x.1.name)).2) else (0,a)
attribute [local go_sem ↓] aZ bf bq cl eX
attribute [local go_sem] bn aS aH bE bH aK aT ak aI aw az aM ah aQ aL aP aO aR aY aW bD ap aq
theorem DC(J:MaxL w0)(T:Tab w0)(F:SHs w0 w p sv l fl cd a)(o:0<=a)(O:a<=90000)(q:cd≠0/\cd≠6\/fl<=0)(R:row w f=x.1.vals al gr)(Z:w.cell? ⟨d,0,Z7⟩=Z9 (.iface 56 (.pointer (Z9 ⟨p,0,Z7⟩))))(Y:w.cell? ⟨c,0,Z7⟩=Z9 (.int .i64 id)) :
 ZJ Z8 204 #[.pointer (Z9 ⟨f,0,Z7⟩),.pointer (Z9 ⟨d,0,Z7⟩),.pointer (Z9 ⟨c,0,Z7⟩)] w fun r K=>r=.returned (.int .i64 (add1F l fl cd a id x).1)/\SHs w0 K p sv l fl cd (add1F l fl cd a id x).2/\w.grownBy K (Z9 p):=by
 have D:=lh F;have P:=F.pl;have u:cd≠0\/fl<=0:=q.imp (fun h=>h.1) (fun h=>h);have V:=ae R 0 _ (ap _ _ _);have X:=ae R 1 _ (aq _ _ _);unfold add1F;by_cases z:2<x.1.kind
 .have Q:decide (2<x.1.kind)=ZZ:=decide_eq_true z;rw[ZT z];have t:=fun W (h:SHs w0 W p sv l fl cd a)=>iy p sv l fl cd a id x.1.kind x.1.name w0 W J T h o (by omega) u
  generalize aG l fl cd a id x.1.kind x.1.name=B at t |-;obtain⟨⟨y,C⟩,N⟩:=B;have E:=lh t;clear t;go_enter Tryz.func204,Tryz.ntmps204
  go_wp2_with first|go_at_call 82;(refine (E.o _ D.o).mono ?_);rintro _ U ⟨⟨A,G,rfl,I,H,j,k⟩,i,g⟩;have v:=ay y.1 A G (aD I) (aE H);have S:=lh i;have n:=lh g;clear I H j k i g|(go_at_call 205;(refine (mj _ _).mono ?_);rintro _ _ ⟨rfl,rfl⟩)
  go_ret
  exact⟨rfl,S.o.below (aj _ _),bx n.o ((aj _ _).mono (by have:=n.o.size;omega))⟩
 .have Q:decide (2<x.1.kind)=Z2:=decide_eq_false z;rw[ZX z];have m:=fun W (h:SHs w0 W p sv l fl cd a)=>mx p sv l fl cd a id x.1.name w0 W J T h o (by omega) q
  generalize bY l fl cd a id x.1.name=B at m |-;obtain⟨⟨y,C⟩,N⟩:=B;have L:=lh m;clear m;go_enter Tryz.func204,Tryz.ntmps204
  go_wp2_with first|go_at_call 112;(refine (L.o _ D.o).mono ?_);rintro _ U ⟨⟨A,G,rfl,I,H,j,k⟩,i,g⟩;have v:=ay y.1 A G (aD I) (aE H);have S:=lh i;have n:=lh g;clear I H j k i g|(go_at_call 205;(refine (mj _ _).mono ?_);rintro _ _ ⟨rfl,rfl⟩)
  go_ret
  exact⟨rfl,S.o.below (aj _ _),bx n.o ((aj _ _).mono (by have:=n.o.size;omega))⟩
theorem DE(F:MaxL w0)(Y:Tab w0)(D:SHs w0 w p sv l fl cd a)(o:0<=a)(Z:a<=90000)(q:cd≠0\/fl<=0)(z:x.1.name.size<=1000)(R:row w f=x.1.vals al gr)(U:w.cell? ⟨d,0,Z7⟩=Z9 (.iface 56 (.pointer (Z9 ⟨p,0,Z7⟩))))(Q:w.cell? ⟨c,0,Z7⟩=Z9 (.int .i64 id))(l2:d<w.heap.size)(l3:c<w.heap.size) :
 ZJ Z8 206 #[.pointer (Z9 ⟨f,0,Z7⟩),.pointer (Z9 ⟨d,0,Z7⟩),.pointer (Z9 ⟨c,0,Z7⟩)] w fun r L=>r=.returned (.int .i64 (add2F l fl cd a id x).1)/\SHs w0 L p sv l fl cd (add2F l fl cd a id x).2/\w.grownBy L (Z9 p):=by
 have S:=lh D;have a0:=D.pl;have N1:=ae R 1 _ (aq _ _ _);have P:=lh (fun W (b:Z4 w0.heap.size w0 W)=>lq x.1.name W z (F.below b));unfold add2F dK;cases n:Ds.gen (Ds.bl x.1.name)
 rw[ZX (by simp)];rw[n] at P;rotate_left;rw[n] at P;generalize (⟨(Ds.splG (Ds.bl x.1.name)).toArray⟩:Z6)=K at P |-;by_cases k:x.1.kind=0
 rotate_left;rw[ZX (fun h=>k h.2)];have t1:(x.1.kind != 0)=ZZ:=Zi.2 k;rotate_right
 rw[ZT ⟨rfl,k⟩];have t1:(x.1.kind != 0)=Z2:=by rw[k];rfl
 have H:=fun W (h:SHs w0 W p sv l fl cd a)=>iy p sv l fl cd a id 1 K w0 W F Y h o (by omega) q
 generalize aG l fl cd a id 1 K=X at H |-;obtain⟨⟨y,C⟩,cb⟩:=X;have E:=lh H;clear H k
 all_goals
  go_enter Tryz.func206,Tryz.ntmps206
  go_wp2_with first|go_at_call 155;(refine (P.o _ S.o.b).mono ?_);rintro _ w4 ⟨rfl,i⟩;have B:=lh i;have N:=am i R (by rw[ah];decide);have M4:=ae N 0 _ (ap _ _ _);have V:=(i.cell (p:=⟨d,0,Z7⟩) l2).trans U;have T:=(i.cell (p:=⟨c,0,Z7⟩) l3).trans Q;clear i|go_at_call 82;(refine (E.o _ (S.o.below B.o)).mono ?_);rintro _ w3 ⟨⟨A,G,rfl,I,g,t,u⟩,m,j⟩;have J:=ay y.1 A G (aD I) (aE g);have O:=lh m;have v:=lh j;clear I g t u m j
  go_ret
  first|exact⟨rfl,O.o.below (aj _ _),bx (aJ (bo _ B.o) v.o) ((aj _ _).mono (by have:=(aJ (bo _ B.o) v.o).size;omega))⟩|exact⟨rfl,S.o.below B.o,bo _ B.o⟩
theorem DF(o:MaxL w0)(T:Tab w0)(S:SHs w0 w p sv l fl cd a)(j:0<=a)(k:a<=90000)(m:cd≠0/\cd≠6\/fl<=0)(I:IS w al x.2.1)(h:GS w gr x.2.2)(R:row w f=x.1.vals al gr)(q:w.cell? ⟨d,0,Z7⟩=Z9 (.iface 56 (.pointer (Z9 ⟨p,0,Z7⟩))))(C:w.cell? ⟨c,0,Z7⟩=Z9 (.int .i64 id)) :
 ZJ Z8 207 #[.pointer (Z9 ⟨d,0,Z7⟩),.pointer (Z9 ⟨c,0,Z7⟩),.pointer (Z9 ⟨f,0,Z7⟩)] w fun r W=>r=.returned (.int .i64 (du l fl cd a id x).1)/\SHs w0 W p sv l fl cd (du l fl cd a id x).2/\w.grownBy W (Z9 p):=by
 have L:=lh (tj p sv l fl cd a id x al gr w0 w o T S j k m I h);clear S I h;generalize du l fl cd a id x=g at L |-;go_enter Tryz.func207,Tryz.ntmps207
 go_wp2_with (go_at_call 139;(with_reducible refine L.o.mono ?_);rintro _ t ⟨rfl,i,H⟩;have n:=lh i;have G:=lh H;clear i H)
 go_ret
 exact⟨rfl,n.o,G.o⟩
end
section
theorem bu:ChS w (.slice Z7 0 0) []:=⟨Z7,0,rfl,by simp,fun h=>by simp at h⟩
theorem iT(c:Ch):ChS (w.alloc (.cells (ch5 c) 67)) (.slice (Z9 ⟨w.heap.size,0,Z7⟩) 1 1) [c]:=by
 refine⟨_,_,rfl,by simp,fun _=>⟨w.heap.size,0,rfl,by simp,fun k H i u g=>?_⟩⟩
 obtain rfl:k=0:=by simpa using H
 have h:=ae (ak w (ch5 c) 67 (0,0)) i u g;simpa using h
theorem kZ{w w':ZY}{p:Nat}{al:Z1}{l:Z3 Int}(h:IS w al l)(n:w.grownBy w' (Z9 p))(u:0<l.length->∀ q,al.ownBlock=Z9 q->q≠p):IS w' al l:=by
 obtain⟨a,c,rfl,z,r⟩:=h;refine⟨a,c,rfl,z,fun j=>?_⟩
 obtain⟨b,o,rfl,m,H⟩:=r j;have g:=u j b rfl;have q:=fun i=>ZU (w:=w) (w':=w') (a:=⟨b,i,Z7⟩) (n.block b m (fun e=>g (Option.some.inj e)))
 exact⟨b,o,rfl,ZH m n.size,fun k t=>(q _).trans (H k t)⟩
theorem kY{w w':ZY}{p:Nat}{al:Z1}{l:Z3 Gr}(h:GS w al l)(r:w.grownBy w' (Z9 p))(u:0<l.length->∀ q,al.ownBlock=Z9 q->q≠p):GS w' al l:=by
 obtain⟨a,c,rfl,z,t⟩:=h;refine⟨a,c,rfl,z,fun m=>?_⟩
 obtain⟨b,o,rfl,n,H⟩:=t m;have j:=u m b rfl;have q:=fun i=>ZU (w:=w) (w':=w') (a:=⟨b,i,Z7⟩) (r.block b n (fun e=>j (Option.some.inj e)))
 exact⟨b,o,rfl,ZH n r.size,fun k g=>⟨(q _).trans (H k g).1,(q _).trans (H k g).2.1,(q _).trans (H k g).2.2⟩⟩
def iM(l:Z3 Rw)(fl cd a id:Int)(x:Fu):(Z3 Ch × Int) × Int :=
 if aA x=ZZ then
  if (aG l fl cd a id x.1.kind x.1.name).1.2≠0 then (([],(aG l fl cd a id x.1.kind x.1.name).1.2),(aG l fl cd a id x.1.kind x.1.name).2)
  else if (du l fl cd (aG l fl cd a id x.1.kind x.1.name).2 id x).1≠0 then (([],(du l fl cd (aG l fl cd a id x.1.kind x.1.name).2 id x).1),(du l fl cd (aG l fl cd a id x.1.kind x.1.name).2 id x).2)
  else (([bI id x],0),(du l fl cd (aG l fl cd a id x.1.kind x.1.name).2 id x).2)
 else (([],1),a)
def dm(w0 w W:ZY)(p:Nat)(sv:Z1)(l:Z3 Rw)(fl cd:Int)(g:(Z3 Ch × Int) × Int)(r:Ending):Prop :=
 ∃ o,r=.returned (.tuple #[o,.int .i64 g.1.2])/\ChS W o g.1.1/\SHs w0 W p sv l fl cd g.2/\w.grownBy W (Z9 p)
attribute [local go_sem ↓] aZ bf bq cl eX
attribute [local go_sem] bn aS aH bE bH aK aT ak aI aw az aM ah aQ aL aP aO aR aY aW bD ap aq
theorem yW(hm:MaxL w0)(hT:Tab w0)(hS:SHs w0 w p sv l fl cd a)(a6:0<=a)(a7:a<=80000)(a0:cd≠0/\cd≠6\/fl<=0)(a5:x.1.name.size<=1000)(I:IS w al x.2.1)(z:GS w gr x.2.2)(o1:0<x.2.1.length->∀ q,al.ownBlock=Z9 q->q≠p)(o2:0<x.2.2.length->∀ q,gr.ownBlock=Z9 q->q≠p) :
 ZJ Z8 66 #[.iface 56 (.pointer (Z9 ⟨p,0,Z7⟩)),.int .i64 id,.agg (x.1.vals al gr)] w fun r w'=>dm w0 w w' p sv l fl cd (iM l fl cd a id x) r:=by
 have a1:=ay x.1 al gr (aD I) (aE z);have S:=lh hS;have a8:=hS.pl;have a2:cd≠0\/fl<=0:=a0.imp (fun h=>h.1) (fun h=>h);have R0:=ak w (x.1.vals al gr) 29 (0,0);have g:=lh (aj w (.cells (x.1.vals al gr) 29));have HV:=lh (fun W (N:Z4 w0.heap.size w0 W) (b:Z4 w.heap.size w W)=>lN x.1 al gr x.2.1 x.2.2 W (hm.below N) (hT.below N) a5 (I.below b) (z.below b));have HI:=lh I;have P:=lh z;clear I z;unfold iM;cases a3:aA x
 .rw[ZX (by simp)];have n:=lh (fun W N b=>(show aA (x.1,x.2.1,x.2.2)=Z2 from a3) ▸ HV.o W N b);clear HV;go_enter Tryz.func66,Tryz.ntmps66
  go_wp2_with (go_at_call 63;(refine (n.o _ (S.o.below g.o).b g.o).mono ?_);rintro _ w2 ⟨rfl,m⟩;have B:=lh (bt g.o m);clear m)
  go_ret2
  exact⟨_,rfl,bu _,S.o.below B.o,bo _ B.o⟩
 rw[ZT rfl];have n:=lh (fun W N b=>(show aA (x.1,x.2.1,x.2.2)=ZZ from a3) ▸ HV.o W N b);clear HV;have u:=fun W (h:SHs w0 W p sv l fl cd a)=>iy p sv l fl cd a id x.1.kind x.1.name w0 W hm hT h a6 (by omega) a2
 have Z:=dS l fl cd a id x.1.kind x.1.name;generalize aG l fl cd a id x.1.kind x.1.name=gg at u Z |-;obtain⟨⟨y,E⟩,cb⟩:=gg;dsimp only at Z |-;have K:=lh u;clear u;by_cases V:E=0
 rotate_left
 .rw[ZT V];have t1:(E != 0)=ZZ:=by rw[Zi];exact V
  clear V;go_enter Tryz.func66,Tryz.ntmps66
  go_wp2_with first|go_at_call 63;(refine (n.o _ (S.o.below g.o).b g.o).mono ?_);rintro _ w2 ⟨rfl,m⟩;have B:=lh (bt g.o m);have R:=am m R0 (by rw[ah];decide);have N0:=ae R 0 _ (ap _ _ _);have N1:=ae R 1 _ (aq _ _ _);clear m|go_at_call 82;(refine (K.o _ (S.o.below B.o)).mono ?_);rintro _ J ⟨⟨A,G,rfl,I,i,o,t⟩,k,H⟩;have F:=ay y.1 A G (aD I) (aE i);have T:=lh k;have D:=lh (aJ (bo _ B.o) H);clear I i o t k H
  go_ret2
  exact⟨_,rfl,bu _,T.o.below (aj _ _),bx D.o ((aj _ _).mono (by have:=D.o.size;omega))⟩
 rw[ZX (fun h=>h V)];subst V;have n0:w.heap.size≠p:=by omega
 have L:=fun W (h:SHs w0 W p sv l fl cd cb) (i1:IS W al x.2.1) (i2:GS W gr x.2.2)=>tj p sv l fl cd cb id x al gr w0 W hm hT h (by omega) (by omega) a0 i1 i2
 generalize du l fl cd cb id x=gl at L |-;obtain⟨lc,cc⟩:=gl;dsimp only;have Q:=lh L;clear L;by_cases X:lc=0
 rotate_left
 .rw[ZT X];have t1:(lc != 0)=ZZ:=by rw[Zi];exact X
  clear X;go_enter Tryz.func66,Tryz.ntmps66
  go_wp2_with first|go_at_call 63;(refine (n.o _ (S.o.below g.o).b g.o).mono ?_);rintro _ w2 ⟨rfl,m⟩;have B:=lh (bt g.o m);have R:=am m R0 (by rw[ah];decide);have N0:=ae R 0 _ (ap _ _ _);have N1:=ae R 1 _ (aq _ _ _);clear m|go_at_call 82;(refine (K.o _ (S.o.below B.o)).mono ?_);rintro _ J ⟨⟨A,G,rfl,I,i,o,t⟩,k,H⟩;have F:=ay y.1 A G (aD I) (aE i);have T:=lh k;have I3:=lh ((kZ (HI.o.below B.o) H o1).below (aj J (.cells (y.1.vals A G) 29)));have J3:=lh ((kY (P.o.below B.o) H o2).below (aj J (.cells (y.1.vals A G) 29)));have R3:=am (aj J (.cells (y.1.vals A G) 29)) (dP R (by rw[ah];decide) H n0) (by rw[ah];decide);have D:=lh (aJ (bo _ B.o) H);clear I i o t k H|go_at_call 139;(refine (Q.o _ (T.o.below (aj _ _)) I3.o J3.o).mono ?_);rintro _ w4 ⟨rfl,v,j⟩;have S4:=lh v;have G4:=lh (aJ (bx D.o ((aj _ _).mono (by have:=D.o.size;omega))) j);clear v j
  go_ret2
  exact⟨_,rfl,bu _,S4.o,G4.o⟩
 rw[ZX (fun h=>h X)];subst X;have a4:∀ W (b:Z4 w0.heap.size w0 W) (i1:IS W al x.2.1) (i2:GS W gr x.2.2),ZJ Z8 140 #[.int .i64 id,.agg (x.1.vals al gr)] W fun r w'=>r=.returned (.agg #[.int .i64 0,.int .i64 id,.string (aC x.1.kind x.1.name),.string (bC x),.string ⟨#[]⟩])/\Z4 W.heap.size W w':=fun W b i1 i2=>mV id x al gr W (hm.below b) (hT.below b) a5 i1 i2
 have C:=fun W=>iT W (bI id x)
 unfold bI ch5 at C;dsimp only at C;have U:=lh a4;have O:=lh C;clear a4 C;unfold bI;generalize aC x.1.kind x.1.name=kz at U O |-;generalize bC x=rz at U O |-;go_enter Tryz.func66,Tryz.ntmps66
 go_wp2_with first|go_at_call 63;(refine (n.o _ (S.o.below g.o).b g.o).mono ?_);rintro _ w2 ⟨rfl,m⟩;have B:=lh (bt g.o m);have R:=am m R0 (by rw[ah];decide);have N0:=ae R 0 _ (ap _ _ _);have N1:=ae R 1 _ (aq _ _ _);clear m|go_at_call 82;(refine (K.o _ (S.o.below B.o)).mono ?_);rintro _ J ⟨⟨A,G,rfl,I,i,o,t⟩,k,H⟩;have F:=ay y.1 A G (aD I) (aE i);have T:=lh k;have I3:=lh ((kZ (HI.o.below B.o) H o1).below (aj J (.cells (y.1.vals A G) 29)));have J3:=lh ((kY (P.o.below B.o) H o2).below (aj J (.cells (y.1.vals A G) 29)));have R3:=am (aj J (.cells (y.1.vals A G) 29)) (dP R (by rw[ah];decide) H n0) (by rw[ah];decide);have D:=lh (aJ (bo _ B.o) H);clear I i o t k H|go_at_call 139;(refine (Q.o _ (T.o.below (aj _ _)) I3.o J3.o).mono ?_);rintro _ w4 ⟨rfl,v,j⟩;have S4:=lh v;have I4:=lh (kZ I3.o j o1);have J4:=lh (kY J3.o j o2);have R4:=dP R3 (by rw[ah];decide) j n0;have G4:=lh (aJ (bx D.o ((aj _ _).mono (by have:=D.o.size;omega))) j);clear v j|go_at_call 140;(refine (U.o _ S4.o.b I4.o J4.o).mono ?_);rintro _ w5 ⟨rfl,Y⟩;have B5:=lh (bt Y (aj w5 (.cells #[.int .i64 0,.int .i64 id,.string kz,.string rz,.string ⟨#[]⟩] 67)));clear Y
 go_ret2
 exact⟨_,rfl,O.o _,S4.o.below B5.o,bx G4.o (B5.o.mono (by have:=G4.o.size;omega))⟩
end
section
def ir(l:Z3 Rw)(fl cd id:Int)(x:Fu)(k:Nat)(c:Int):Int × Int:=if k=0 then add1F l fl cd c id x else if k=1 then add2F l fl cd c id x else du l fl cd c id x
def gz(l:Z3 Rw)(fl cd id:Int)(x:Fu):Nat->Nat->Int->(Z3 Ch × Int) × Int
 | 0,_,c=>(([bI id x],0),c)
 | n+1,k,c=>if (ir l fl cd id x k c).1≠0 then (([],(ir l fl cd id x k c).1),(ir l fl cd id x k c).2) else gz l fl cd id x n (k+1) (ir l fl cd id x k c).2
def iJ(l:Z3 Rw)(fl cd a id:Int)(x:Fu):(Z3 Ch × Int) × Int:=if aA x=ZZ then gz l fl cd id x 3 0 a else (([],1),a)
theorem Aq(c id:Int)(x:Fu):c<=(du l fl cd c id x).2/\(du l fl cd c id x).2<=c+3:=by
 unfold du;split
 .exact⟨Int.le_refl _,by dsimp only;omega⟩
 .have h:=jq l fl cd c id x.1.target;generalize bY l fl cd c id x.1.target=g at h |-;obtain⟨⟨y,e⟩,C⟩:=g;dsimp only at h |-;split
  .exact h
  .split <;> exact h
theorem pO(k:Nat)(c:Int):c<=(ir l fl cd id x k c).2/\(ir l fl cd id x k c).2<=c+3:=by
 unfold ir;split
 .unfold add1F;split
  .have h:=dS l fl cd c id x.1.kind x.1.name;dsimp only;omega
  .have h:=jq l fl cd c id x.1.name;dsimp only;omega
 .split
  .unfold add2F;split
   .have h:=dS l fl cd c id 1 (dK x.1.name);dsimp only;omega
   .exact⟨Int.le_refl _,by dsimp only;omega⟩
  .exact Aq l fl cd c id x
structure AdI (w0 w wr:ZY) (p bs:Nat) (sv:Z1) (l:Z3 Rw) (fl cd c id:Int) (x:Fu) (al gr:Z1):Prop where
 sh:SHs w0 wr p sv l fl cd c
 g:w.grownBy wr (Z9 p)
 e:row wr (w.heap.size+1+1)=x.1.vals al gr
 r:wr.cell? ⟨w.heap.size,0,Z7⟩=Z9 (.iface 56 (.pointer (Z9 ⟨p,0,Z7⟩)))
 i:wr.cell? ⟨w.heap.size+1,0,Z7⟩=Z9 (.int .i64 id)
 f0:wr.cell? ⟨bs,0,Z7⟩=Z9 (.func (.func 204) #[] #[.pointer (Z9 ⟨w.heap.size+1+1,0,Z7⟩),.pointer (Z9 ⟨w.heap.size,0,Z7⟩),.pointer (Z9 ⟨w.heap.size+1,0,Z7⟩)])
 f1:wr.cell? ⟨bs,1,Z7⟩=Z9 (.func (.func 206) #[] #[.pointer (Z9 ⟨w.heap.size+1+1,0,Z7⟩),.pointer (Z9 ⟨w.heap.size,0,Z7⟩),.pointer (Z9 ⟨w.heap.size+1,0,Z7⟩)])
 f2:wr.cell? ⟨bs,2,Z7⟩=Z9 (.func (.func 207) #[] #[.pointer (Z9 ⟨w.heap.size,0,Z7⟩),.pointer (Z9 ⟨w.heap.size+1,0,Z7⟩),.pointer (Z9 ⟨w.heap.size+1+1,0,Z7⟩)])
 lt:bs<wr.heap.size
 l2:w.heap.size+1+1<wr.heap.size
 pl:p<w.heap.size
 bl:w.heap.size<=bs
 I:IS wr al x.2.1
 G:GS wr gr x.2.2
 o1:0<x.2.1.length->∀ q,al.ownBlock=Z9 q->q≠p
 o2:0<x.2.2.length->∀ q,gr.ownBlock=Z9 q->q≠p
theorem AdI.step{w0 w wr W:ZY}{p B:Nat}{sv:Z1}{l:Z3 Rw}{fl cd c C id:Int}{x:Fu}{al gr:Z1}(h:AdI w0 w wr p B sv l fl cd c id x al gr)(v:SHs w0 W p sv l fl cd C)(j:wr.grownBy W (Z9 p)):AdI w0 w W p B sv l fl cd C id x al gr:=by
 have n:=h.pl;have k:=h.bl;have H:=h.lt;have m:=h.l2;have q:∀ b o,b<wr.heap.size->b≠p->W.cell? ⟨b,o,Z7⟩=wr.cell? ⟨b,o,Z7⟩:=fun b o t u=>ZU (a:=⟨b,o,Z7⟩) (j.block b t (fun e:(Z9 b:Option Nat)=Z9 p=>u (Option.some.inj e)))
 exact⟨v,aJ h.g j,dP h.e (by rw[ah];decide) j (by omega),(q _ _ (by omega) (by omega)).trans h.r,(q _ _ (by omega) (by omega)).trans h.i,(q _ _ H (by omega)).trans h.f0,(q _ _ H (by omega)).trans h.f1,(q _ _ H (by omega)).trans h.f2,
  ZH H j.size,ZH m j.size,n,k,kZ h.I j h.o1,kY h.G j h.o2,h.o1,h.o2⟩
attribute [local go_sem ↓] aZ bf bq cl eX
attribute [local go_sem] bn aS aH bE bH aK aT ak aI aw az aM ah aQ aL aP aO aR aY aW bD ap aq
theorem EX(hm:MaxL w0)(Y:Tab w0)(hS:SHs w0 w p sv l fl cd a)(ad:0<=a)(ar:a<=80000)(N:cd≠0/\cd≠6\/fl<=0)(Q:x.1.name.size<=1000)(hI:IS w al x.2.1)(D:GS w gr x.2.2)(o1:0<x.2.1.length->∀ q,al.ownBlock=Z9 q->q≠p)(o2:0<x.2.2.length->∀ q,gr.ownBlock=Z9 q->q≠p) :
 ZJ Z8 122 #[.iface 56 (.pointer (Z9 ⟨p,0,Z7⟩)),.int .i64 id,.agg (x.1.vals al gr)] w fun r X=>dm w0 w X p sv l fl cd (iJ l fl cd a id x) r:=by
 have a1:=ay x.1 al gr (aD hI) (aE D);have HS:=lh hS;have ag:=hS.pl;have a2:cd≠0\/fl<=0:=N.imp (fun h=>h.1) (fun h=>h);have HV:=lh (fun W (R:Z4 w0.heap.size w0 W) (b:Z4 w.heap.size w W)=>lN x.1 al gr x.2.1 x.2.2 W (hm.below R) (Y.below R) Q (hI.below b) (D.below b));have HI:=lh hI;have aa:=lh D;clear hI D;unfold iJ;have B1:Z4 w.heap.size w (((w.alloc (.cells #[.iface 56 (.pointer (Z9 ⟨p,0,Z7⟩))] 115)).alloc (.cells #[.int .i64 id] 3)).alloc (.cells (x.1.vals al gr) 29)):=by exact aB
 have o:=lh B1;clear B1;have R0:=ak ((w.alloc (.cells #[.iface 56 (.pointer (Z9 ⟨p,0,Z7⟩))] 115)).alloc (.cells #[.int .i64 id] 3)) (x.1.vals al gr) 29 (0,0);simp only[X2] at R0
 cases O:aA x
 rw[ZX (by simp)];have L:=lh (fun W R b=>(show aA (x.1,x.2.1,x.2.2)=Z2 from O) ▸ HV.o W R b);clear HV;rotate_left;rw[ZT rfl];have L:=lh (fun W R b=>(show aA (x.1,x.2.1,x.2.2)=ZZ from O) ▸ HV.o W R b);clear HV;generalize hg:gz l fl cd id x 3 0 a=g;have a9:=lh hg;clear hg O;have a5:=lh (fun (c:Int) wr (B:0<=c) (V:c<=90000) (h:SHs w0 wr p sv l fl cd c)=>DC p (w.heap.size+1+1) w.heap.size (w.heap.size+1) sv l fl cd c id x al gr w0 wr hm Y h B V N);have a6:=lh (fun (c:Int) wr (B:0<=c) (V:c<=90000) (h:SHs w0 wr p sv l fl cd c)=>DE p (w.heap.size+1+1) w.heap.size (w.heap.size+1) sv l fl cd c id x al gr w0 wr hm Y h B V a2 Q);have a7:=lh (fun (c:Int) wr (B:0<=c) (V:c<=90000) (h:SHs w0 wr p sv l fl cd c)=>DF p (w.heap.size+1+1) w.heap.size (w.heap.size+1) sv l fl cd c id x al gr w0 wr hm Y h B V N);have C0:(((w.alloc (.cells #[.iface 56 (.pointer (Z9 ⟨p,0,Z7⟩))] 115)).alloc (.cells #[.int .i64 id] 3)).alloc (.cells (x.1.vals al gr) 29)).cell? ⟨w.heap.size,0,Z7⟩=Z9 (.iface 56 (.pointer (Z9 ⟨p,0,Z7⟩))):=by simp [go_sem]
 have C1:(((w.alloc (.cells #[.iface 56 (.pointer (Z9 ⟨p,0,Z7⟩))] 115)).alloc (.cells #[.int .i64 id] 3)).alloc (.cells (x.1.vals al gr) 29)).cell? ⟨w.heap.size+1,0,Z7⟩=Z9 (.int .i64 id):=by simp [go_sem]
 rotate_left
 iterate 1
  focus
   go_enter Tryz.func122,Tryz.ntmps122
   go_wp2_with (go_at_call 63;(refine (L.o _ (HS.o.below o.o).b o.o).mono ?_);rintro _ v ⟨rfl,E⟩;have J:=lh (Below.trans o.o (E.mono o.o.size));clear E)
   go_ret2
   exact⟨_,rfl,bu _,HS.o.below J.o,bo _ J.o⟩
 go_enter Tryz.func122,Tryz.ntmps122
 go_wp2_with (go_at_call 63;(refine (L.o _ (HS.o.below o.o).b o.o).mono ?_);rintro _ v ⟨rfl,E⟩;have J:=lh (Below.trans o.o (E.mono o.o.size));have R2:=am E R0 (by rw[ah];decide);have D0:=(E.cell (p:=⟨w.heap.size,0,Z7⟩) (by simp;omega)).trans C0;have D1:=(E.cell (p:=⟨w.heap.size+1,0,Z7⟩) (by simp)).trans C1;have z2:=E.size;clear E)
 have ab:AdI w0 w (v.alloc (.cells #[.func (.func 204) #[] #[.pointer (Z9 ⟨w.heap.size+1+1,0,Z7⟩),.pointer (Z9 ⟨w.heap.size,0,Z7⟩),.pointer (Z9 ⟨w.heap.size+1,0,Z7⟩)],.func (.func 206) #[] #[.pointer (Z9 ⟨w.heap.size+1+1,0,Z7⟩),.pointer (Z9 ⟨w.heap.size,0,Z7⟩),.pointer (Z9 ⟨w.heap.size+1,0,Z7⟩)],.func (.func 207) #[] #[.pointer (Z9 ⟨w.heap.size,0,Z7⟩),.pointer (Z9 ⟨w.heap.size+1,0,Z7⟩),.pointer (Z9 ⟨w.heap.size+1+1,0,Z7⟩)]] 99)) p v.heap.size sv l fl cd a id x al gr:=by
  simp only[X2] at z2
  have bl:=aj v (.cells #[.func (.func 204) #[] #[.pointer (Z9 ⟨w.heap.size+1+1,0,Z7⟩),.pointer (Z9 ⟨w.heap.size,0,Z7⟩),.pointer (Z9 ⟨w.heap.size+1,0,Z7⟩)],.func (.func 206) #[] #[.pointer (Z9 ⟨w.heap.size+1+1,0,Z7⟩),.pointer (Z9 ⟨w.heap.size,0,Z7⟩),.pointer (Z9 ⟨w.heap.size+1,0,Z7⟩)],.func (.func 207) #[] #[.pointer (Z9 ⟨w.heap.size,0,Z7⟩),.pointer (Z9 ⟨w.heap.size+1,0,Z7⟩),.pointer (Z9 ⟨w.heap.size+1+1,0,Z7⟩)]] 99);refine⟨(HS.o.below J.o).below bl,bo _ (J.o.trans (bl.mono J.o.size)),am bl R2 (by rw[ah];decide),(bl.cell (p:=⟨w.heap.size,0,Z7⟩) (by show w.heap.size<v.heap.size;omega)).trans D0,(bl.cell (p:=⟨w.heap.size+1,0,Z7⟩) (by show w.heap.size+1<v.heap.size;omega)).trans D1,?_,?_,?_,by simp,by simp;omega,ag,by omega,(HI.o.below J.o).below bl,(aa.o.below J.o).below bl,o1,o2⟩
  .rw[YH _ _ 0 _ 99 (0,0) (Zu v _)];rfl
  .rw[YH _ _ 1 _ 99 (0,0) (Zu v _)];rfl
  .rw[YH _ _ 2 _ 99 (0,0) (Zu v _)];rfl
 go_loopw [21] (fun i wr=>∃ (k:Nat) (c:Int),k<=3/\i=.int .i64 k/\0<=c/\c<=a+3*k/\Hid (gz l fl cd id x (3 - k) k c=g)/\AdI w0 w wr p v.heap.size sv l fl cd c id x al gr) (fun i _=>3 - (intOf i).toNat)
 case atStart=>exact⟨0,a,by decide,rfl,ad,by simp,a9,ab⟩
 case round =>
  obtain⟨k,c,hk,rfl,B,V,y,A⟩:=hrel;have t:=lh A;have a0:=pO l fl cd id x k c;by_cases av:k<3
  .have n:=y.o;rw[show 3 - k=(3 - (k+1))+1 by omega] at n;unfold gz at n
   have ao:∃ f U,wr.cell? ⟨v.heap.size,k,Z7⟩=Z9 (.func (.func f) #[] U)/\(k=0/\f=204/\U=#[.pointer (Z9 ⟨w.heap.size+1+1,0,Z7⟩),.pointer (Z9 ⟨w.heap.size,0,Z7⟩),.pointer (Z9 ⟨w.heap.size+1,0,Z7⟩)]\/k=1/\f=206/\U=#[.pointer (Z9 ⟨w.heap.size+1+1,0,Z7⟩),.pointer (Z9 ⟨w.heap.size,0,Z7⟩),.pointer (Z9 ⟨w.heap.size+1,0,Z7⟩)]\/k=2/\f=207/\U=#[.pointer (Z9 ⟨w.heap.size,0,Z7⟩),.pointer (Z9 ⟨w.heap.size+1,0,Z7⟩),.pointer (Z9 ⟨w.heap.size+1+1,0,Z7⟩)]):=by
    rcases (by omega:k=0\/k=1\/k=2) with rfl|rfl|rfl
    .exact⟨_,_,A.f0,.inl ⟨rfl,rfl,rfl⟩⟩
    .exact⟨_,_,A.f1,.inr (.inl ⟨rfl,rfl,rfl⟩)⟩
    .exact⟨_,_,A.f2,.inr (.inr ⟨rfl,rfl,rfl⟩)⟩
   obtain⟨f,U,af,a3⟩:=ao
   have H:ZJ Z8 f U wr fun r X=>r=.returned (.int .i64 (ir l fl cd id x k c).1)/\SHs w0 X p sv l fl cd (ir l fl cd id x k c).2/\wr.grownBy X (Z9 p):=by
    rcases a3 with ⟨rfl,rfl,rfl⟩|⟨rfl,rfl,rfl⟩|⟨rfl,rfl,rfl⟩
    .exact a5.o c wr B (by omega) A.sh A.e A.r A.i
    .exact a6.o c wr B (by omega) A.sh A.e A.r A.i (by have:=A.l2;omega) (by have:=A.l2;omega)
    .exact a7.o c wr B (by omega) A.sh A.I A.G A.e A.r A.i
   generalize ir l fl cd id x k c=sr at H n a0;obtain⟨C,cb⟩:=sr;dsimp only at H n a0;clear A;rcases a3 with ⟨rfl,rfl,rfl⟩|⟨rfl,rfl,rfl⟩|⟨rfl,rfl,rfl⟩
   .have K:=lh H;clear H;by_cases z:C=0
    .rw[ZX (fun h=>h z)] at n;subst z;have T:=lh n;clear n y;go_wp2_with (go_at_call 204;(with_reducible refine K.o.mono ?_);rintro _ w3 ⟨rfl,m,j⟩;have S:=lh m;have u:=lh j;clear m j)
     go_roundw
     case rel=>exact⟨1,cb,by omega,by go_num,by omega,by omega,T,t.o.step S.o u.o⟩
     case measure=>simp [intOf]
    .rw[ZT z] at n;subst n;have t1:(C != 0)=ZZ:=by rw[Zi];exact z
     clear z y;go_wp2_with (go_at_call 204;(with_reducible refine K.o.mono ?_);rintro _ w3 ⟨rfl,m,j⟩;have S:=lh m;have u:=lh j;clear m j)
     go_ret2
     exact⟨_,rfl,bu _,S.o,aJ t.o.g u.o⟩
   .have K:=lh H;clear H;by_cases z:C=0
    .rw[ZX (fun h=>h z)] at n;subst z;have T:=lh n;clear n y;go_wp2_with (go_at_call 206;(with_reducible refine K.o.mono ?_);rintro _ w3 ⟨rfl,m,j⟩;have S:=lh m;have u:=lh j;clear m j)
     go_roundw
     case rel=>exact⟨2,cb,by omega,by go_num,by omega,by omega,T,t.o.step S.o u.o⟩
     case measure=>simp [intOf]
    .rw[ZT z] at n;subst n;have t1:(C != 0)=ZZ:=by rw[Zi];exact z
     clear z y;go_wp2_with (go_at_call 206;(with_reducible refine K.o.mono ?_);rintro _ w3 ⟨rfl,m,j⟩;have S:=lh m;have u:=lh j;clear m j)
     go_ret2
     exact⟨_,rfl,bu _,S.o,aJ t.o.g u.o⟩
   .have K:=lh H;clear H;by_cases z:C=0
    .rw[ZX (fun h=>h z)] at n;subst z;have T:=lh n;clear n y;go_wp2_with (go_at_call 207;(with_reducible refine K.o.mono ?_);rintro _ w3 ⟨rfl,m,j⟩;have S:=lh m;have u:=lh j;clear m j)
     go_roundw
     case rel=>exact⟨3,cb,by omega,by go_num,by omega,by omega,T,t.o.step S.o u.o⟩
     case measure=>simp [intOf]
    .rw[ZT z] at n;subst n;have t1:(C != 0)=ZZ:=by rw[Zi];exact z
     clear z y;go_wp2_with (go_at_call 207;(with_reducible refine K.o.mono ?_);rintro _ w3 ⟨rfl,m,j⟩;have S:=lh m;have u:=lh j;clear m j)
     go_ret2
     exact⟨_,rfl,bu _,S.o,aJ t.o.g u.o⟩
  .obtain rfl:k=3:=by omega
   have P:(([bI id x],0),c)=g:=y.o;subst P;have R3:=A.e;have C3:=A.i;have a4:∀ W (b:Z4 w0.heap.size w0 W) (i1:IS W al x.2.1) (i2:GS W gr x.2.2),ZJ Z8 140 #[.int .i64 id,.agg (x.1.vals al gr)] W fun r X=>r=.returned (.agg #[.int .i64 0,.int .i64 id,.string (aC x.1.kind x.1.name),.string (bC x),.string ⟨#[]⟩])/\Z4 W.heap.size W X:=fun W b i1 i2=>mV id x al gr W (hm.below b) (Y.below b) Q i1 i2
   have F:=fun W=>iT W (bI id x)
   unfold bI ch5 at F;dsimp only at F;have ac:=lh a4;have a8:=lh F;clear a4 F A y;go_wp2_with (go_at_call 140;(refine (ac.o _ t.o.sh.b t.o.I t.o.G).mono ?_);rintro _ w5 ⟨rfl,Z⟩;have B5:=lh (bt Z (aj w5 (.cells #[.int .i64 0,.int .i64 id,.string (aC x.1.kind x.1.name),.string (bC x),.string ⟨#[]⟩] 67)));clear Z)
   go_ret2
   exact⟨_,rfl,a8.o _,t.o.sh.below B5.o,bx t.o.g (B5.o.mono (by have:=t.o.g.size;omega))⟩
end
theorem rI(L:UInt8)(C:Nat)(w:ZY) :
 ZJ Z8 90 #[.iface 56 (.pointer (Z9 ⟨p,0,Z7⟩)),.int .i64 id,.int .u8 (L.toNat:Nat),.pointer (Z9 ⟨C,0,Z7⟩)] w fun e W=>e=.returned (.func (.func 192) #[] #[.pointer (Z9 ⟨w.heap.size+1+1,0,Z7⟩),.pointer (Z9 ⟨w.heap.size,0,Z7⟩),.pointer (Z9 ⟨w.heap.size+1,0,Z7⟩),.pointer (Z9 ⟨w.heap.size+1+1+1,0,Z7⟩)])/\
  W=(((w.alloc (.cells #[.iface 56 (.pointer (Z9 ⟨p,0,Z7⟩))] 115)).alloc (.cells #[.int .i64 id] 3)).alloc (.cells #[.int .u8 (L.toNat:Nat)] 5)).alloc (.cells #[.pointer (Z9 ⟨C,0,Z7⟩)] 160):=by
 go_enter Tryz.func90,Tryz.ntmps90
 go_wp2_with fail
 go_ret
 exact⟨rfl,rfl⟩
theorem ti(g:s.size<=1000)(H:MaxL w) :
 ZJ Z8 211 #[.string s] w fun e W=>e=.returned (.bool (Ds.gen (Ds.bl s)))/\Z4 w.heap.size w W:=by
 have h:=lq s w g H;generalize Ds.gen (Ds.bl s)=b at h |-;go_enter Tryz.func211,Tryz.ntmps211
 go_wp2_with (go_at_call 155;(with_reducible refine h.mono ?_);rintro _ i ⟨rfl,B⟩)
 go_ret
 exact⟨rfl,B⟩
end Go.Proofs.YtnkjliahpeebjaaGreatDoor
