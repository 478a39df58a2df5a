/- Catalogs. -/
import Derived.Test.YtnkjliahpeebjaaGreatDoorNo
set_option maxRecDepth 8000
set_option maxHeartbeats 8000000
open Option renaming some->Z9,none->Z8
open _root_ renaming ByteArray->Z7,List->Z5,if_neg->Z0,if_pos->ZX,beq_eq_false_iff_ne->ZG,bne_iff_ne->YN
open Go.Proofs.Tryz renaming prog->Z6
open Go renaming Value->Z3,World->Z2,Calls->ZJ,heap_alloc_new->ZA,cell_of_row->YF
open Go.World renaming cell?_of_block->Z1,size_alloc->Yi
open Bool renaming true->ZZ,false->ZW
open Nat renaming lt_of_lt_of_le->ZY
namespace Go.Proofs.YtnkjliahpeebjaaGreatDoor
open Go.RowKit
variable(a:Operand->Z3)(s:Z7)(p f d c:Nat)(id e:Int)(x:Fu)(al sv gr:Z3)(l:Z5 Rw)(w:Z2)
section
def cE(e:Int):Int:=if e=0 then 5 else if e=6 then 0 else e
theorem l6:ZJ Z6 205 #[.int .i64 e] w fun r W=>r=.returned (.int .i64 (cE e))/\W=w:=by
 unfold cE;by_cases h:e=0
 subst h;rotate_left;have t:(e==0)=ZW:=ZG.2 h;rw[Z0 h];by_cases H:e=6
 subst H;rotate_left;have T:(e==6)=ZW:=ZG.2 H;rw[Z0 H]
 all_goals
  go_enter Tryz.func205,Tryz.ntmps205
  go_wp2_with fail
  go_ret
  exact⟨rfl,rfl⟩
def et(l:Z5 Rw)(F g b id:Int)(x:Fu):Int × Int :=
 if x.1.kind≠2 then (0,b) else match bY l F g b id x.1.target with
  | ((y,c),C)=>if c≠0 then (c,C) else if Ds.gen (Ds.bl y.1.name)=ZZ\/y.1.kind=2 then (7,C) else (0,C)
attribute [local go_sem ↓] aZ bf bq cl
attribute [local go_sem] bn aS aH bE bH aK aT ak aI aw az aM ah aQ aL aP aO aR aY aW bD ap aq
theorem CT(F C v id:Int)(x:Fu)(al gr:Z3)(E w:Z2)(hm:MaxL E)(hT:Tab E)(hS:SHs E w p sv l F C v)(Z:0<=v)(a2:v<=90000)(a0:C≠0/\C≠6\/F<=0)(I:IS w al x.2.1)(U:GS w gr x.2.2) :
 ZJ Z6 139 #[.iface 56 (.pointer (Z9 ⟨p,0,Z8⟩)),.int .i64 id,.agg (x.1.vals al gr)] w fun r w'=>r=.returned (.int .i64 (et l F C v id x).1)/\SHs E w' p sv l F C (et l F C v id x).2/\w.grownBy w' (Z9 p):=by
 have a1:=ay x.1 al gr (aD I) (aE U);have Q:=lh hS;have a3:=hS.pl;have R0:=ak w (x.1.vals al gr) 29 (0,0);have N0:=ae R0 0 _ (ap _ _ _);clear I U;generalize q:et l F C v id x=g;unfold et at q;by_cases V:x.1.kind=2
 rotate_left
 .rw[ZX V] at q;subst q;have t0:(x.1.kind != 2)=ZZ:=YN.2 V;have t1:(x.1.kind==2)=ZW:=ZG.2 V;clear V;go_enter Tryz.func139,Tryz.ntmps139
  go_wp2_with fail
  go_ret
  exact⟨rfl,Q.o.below (aj _ _),bo _ (aj _ _)⟩
 rw[Z0 (fun h=>h V)] at q;have N9:=ae R0 29 _ (cB _ _ _);have B1:=aj w (.cells (x.1.vals al gr) 29);have J:=fun W (h:SHs E W p sv l F C v)=>mx p sv l F C v id x.1.target E W hm hT h Z (by omega) a0
 have L:=rn l F C v id x.1.target;generalize bY l F C v id x.1.target=gg at J L q;obtain⟨⟨y,D⟩,cb⟩:=gg;dsimp only at L q;have X:=lh J;have H:=lh B1;clear J B1;by_cases T:D=0
 rotate_left
 .rw[ZX T] at q;subst q;have t1:(D != 0)=ZZ:=by rw[YN];exact T
  clear T;go_enter Tryz.func139,Tryz.ntmps139
  go_wp2_with (go_at_call 112;(refine (X.o _ (Q.o.below H.o)).mono ?_);rintro _ O ⟨⟨A,G,rfl,I,i,m,o⟩,k,j⟩;have u:=ay y.1 A G (aD I) (aE i);have S:=lh k;have t:=lh j;clear I i m o k j)
  go_ret
  exact⟨rfl,S.o.below (aj _ _),bx (aJ (bo _ H.o) t.o) ((aj _ _).mono (by have:=(aJ (bo _ H.o) t.o).size;omega))⟩
 rw[Z0 (fun h=>h T)] at q;subst T;have P:=lh (fun W (b:Below E.heap.size E W)=>lq y.1.name W (Nat.le_trans L (by decide)) (hm.below b));by_cases n:Ds.gen (Ds.bl y.1.name)=ZZ
 .rw[ZX (.inl n)] at q;subst q;rw[n] at P;clear n;go_enter Tryz.func139,Tryz.ntmps139
  go_wp2_with first|go_at_call 112;(refine (X.o _ (Q.o.below H.o)).mono ?_);rintro _ O ⟨⟨A,G,rfl,I,i,m,o⟩,k,j⟩;have u:=ay y.1 A G (aD I) (aE i);have S:=lh k;have t:=lh j;have R:=ak O (y.1.vals A G) 29 (0,0);have M0:=ae R 0 _ (ap _ _ _);have M1:=ae R 1 _ (aq _ _ _);clear I i m o k j|go_at_call 155;(refine (P.o _ (S.o.below (aj _ _)).b).mono ?_);rintro _ w4 ⟨rfl,z⟩;have B:=lh (bt (aj _ _) z);clear z
  go_ret
  exact⟨rfl,S.o.below B.o,bx (aJ (bo _ H.o) t.o) (B.o.mono (by have:=(aJ (bo _ H.o) t.o).size;omega))⟩
 have K:Ds.gen (Ds.bl y.1.name)=ZW:=Bool.eq_false_iff.2 n;rw[K] at P;by_cases N:y.1.kind=2
 .rw[ZX (.inr N)] at q;subst q;have t2:(y.1.kind==2)=ZZ:=beq_iff_eq.2 N;clear K n N;go_enter Tryz.func139,Tryz.ntmps139
  go_wp2_with first|go_at_call 112;(refine (X.o _ (Q.o.below H.o)).mono ?_);rintro _ O ⟨⟨A,G,rfl,I,i,m,o⟩,k,j⟩;have u:=ay y.1 A G (aD I) (aE i);have S:=lh k;have t:=lh j;have R:=ak O (y.1.vals A G) 29 (0,0);have M0:=ae R 0 _ (ap _ _ _);have M1:=ae R 1 _ (aq _ _ _);clear I i m o k j|go_at_call 155;(refine (P.o _ (S.o.below (aj _ _)).b).mono ?_);rintro _ w4 ⟨rfl,z⟩;have B:=lh (bt (aj _ _) z);have Y:=am z R (by rw[ah];decide);have M4:=ae Y 0 _ (ap _ _ _);clear z
  go_ret
  exact⟨rfl,S.o.below B.o,bx (aJ (bo _ H.o) t.o) (B.o.mono (by have:=(aJ (bo _ H.o) t.o).size;omega))⟩
 .rw[Z0 (by rintro (h|h);exact n h;exact N h)] at q;subst q;have t2:(y.1.kind==2)=ZW:=ZG.2 N;clear K n N;go_enter Tryz.func139,Tryz.ntmps139
  go_wp2_with first|go_at_call 112;(refine (X.o _ (Q.o.below H.o)).mono ?_);rintro _ O ⟨⟨A,G,rfl,I,i,m,o⟩,k,j⟩;have u:=ay y.1 A G (aD I) (aE i);have S:=lh k;have t:=lh j;have R:=ak O (y.1.vals A G) 29 (0,0);have M0:=ae R 0 _ (ap _ _ _);have M1:=ae R 1 _ (aq _ _ _);clear I i m o k j|go_at_call 155;(refine (P.o _ (S.o.below (aj _ _)).b).mono ?_);rintro _ w4 ⟨rfl,z⟩;have B:=lh (bt (aj _ _) z);have Y:=am z R (by rw[ah];decide);have M4:=ae Y 0 _ (ap _ _ _);clear z
  go_ret
  exact⟨rfl,S.o.below B.o,bx (aJ (bo _ H.o) t.o) (B.o.mono (by have:=(aJ (bo _ H.o) t.o).size;omega))⟩
end
section
theorem eX(dst x y t' pos af gd)(h:db (a x)=ZZ)(H:Held w (bF (a x)) 5)(b:cV (a y)=ZZ)(g:(bA (a y)).size=5)(i:bh (bA (a y)).toList=ZZ) :
 (execOp a ⟨dst,.store 67 x y,t',pos,af,gd⟩).run Z6 w=.ok .skip (w.setRow (bF (a x)) (bA (a y))) :=
 kN a w _ 4 (by kernel_rfl) dst x y t' pos af gd h H b g i
def fH:Array Z3:=#[.int .i64 0,.int .i64 0,.string ⟨#[]⟩,.string ⟨#[]⟩,.string ⟨#[]⟩]
def bJ(id:Int)(x:Fu):Ch:=(1,id,aC x.1.kind x.1.name,⟨#[]⟩,⟨#[]⟩)
def bC(x:Fu):Z7:=⟨(if aA x=ZZ then cJ x else []).toArray⟩
def bI(id:Int)(x:Fu):Ch:=(0,id,aC x.1.kind x.1.name,bC x,⟨#[]⟩)
attribute [local go_sem ↓] aZ bf bq cl eX
attribute [local go_sem] bn aS aH bE bH aK aT ak aI aw az aM ah aQ aL aP aO aR aY aW bD ap aq
theorem ua(_a1:bh (x.1.vals al gr).toList=ZZ) :
 ZJ Z6 210 #[.int .i64 id,.agg (x.1.vals al gr)] w fun r g=>r=.returned (.agg (ch5 (bJ id x)))/\Below w.heap.size w g:=by
 have K:=lh (fun W=>jI x.1.kind x.1.name W);have R:=aI w (x.1.vals al gr) 29 (0,0) (.cells fH 67);have N:=ae R 0 _ (ap _ _ _);have i:=ae R 1 _ (aq _ _ _);have b:=Held.new (w.alloc (.cells (x.1.vals al gr) 29)) fH 67 5 rfl (by decide);rw[Yi] at b;unfold fH at *;unfold bJ;go_enter Tryz.func210,Tryz.ntmps210
 go_wp2_with (go_at_call 88;(with_reducible refine (K.o _).mono ?_);rintro _ j ⟨rfl,h⟩;have H:=b.below h;have B:=lh (bt (below2' _ _ _) h);clear h)
 refine bodyPost_ret (gN (n:=4) rfl Tryz.underlying67 rfl (by kernel_rfl) _ _ (w.heap.size+1) rfl (by rw[au H];rfl)) rfl ?_
 rw[au H];exact⟨rfl,below_setRow B.o (by omega) _⟩
theorem yA(m:MaxL w)(T:Tab w)(h:x.1.name.size<=1000)(H:IS w al x.2.1)(b:GS w gr x.2.2) :
 ZJ Z6 76 #[.agg (x.1.vals al gr)] w fun r W=>r=.returned (.tuple #[.string (bC x),.int .i64 (if aA x=ZZ then 0 else 1)])/\Below w.heap.size w W:=by
 refine (si x.1 al gr x.2.1 x.2.2 w m T h H b).mono ?_
 rintro _ W ⟨t,rfl,i,g⟩;obtain rfl:t=bC x:=Ds.bl_inj (by rw[i];unfold bC;rw[Ds.bl_mk]);exact⟨rfl,g⟩
theorem qY(o:MaxL w)(T:Tab w)(z:x.1.name.size<=1000)(I:IS w al x.2.1)(G:GS w gr x.2.2) :
 ZJ Z6 140 #[.int .i64 id,.agg (x.1.vals al gr)] w fun r q=>r=.returned (.agg (ch5 (bI id x)))/\Below w.heap.size w q:=by
 have A:=ay x.1 al gr (aD I) (aE G);have K:=lh (fun W=>jI x.1.kind x.1.name W);have E:=lh (fun W (b:Below w.heap.size w W)=>yA x al gr W (o.below b) (T.below b) z (I.below b) (G.below b));have m:=aI w (x.1.vals al gr) 29 (0,0) (.cells fH 67);have i:=Held.new (w.alloc (.cells (x.1.vals al gr) 29)) fH 67 5 rfl (by decide);rw[Yi] at i;clear I G;unfold fH at *;unfold bI;generalize bC x=v at E |-;generalize (if aA x=ZZ then (0:Int) else 1)=u at E;go_enter Tryz.func140,Tryz.ntmps140
 go_wp2_with first|go_at_call 76;(refine (E.o _ (below2' _ _ _)).mono ?_);rintro _ y ⟨rfl,H⟩;have k:=i.below H;have R:=am H m (by rw[ah];decide);have N:=ae R 0 _ (ap _ _ _);have t:=ae R 1 _ (aq _ _ _);have B:=lh (bt (below2' _ _ _) H);clear H|go_at_call 88;(with_reducible refine (K.o _).mono ?_);rintro _ C ⟨rfl,h⟩;have g:=k.below h;have j:=lh (bt B.o h);clear h
 refine bodyPost_ret (gN (n:=4) rfl Tryz.underlying67 rfl (by kernel_rfl) _ _ (w.heap.size+1) rfl (by rw[au g];rfl)) rfl ?_
 rw[au g];exact⟨rfl,below_setRow j.o (by omega) _⟩
end
section
def add1F(l:Z5 Rw)(F b C id:Int)(x:Fu):Int × Int :=
 if 2<x.1.kind then (cE (aG l F b C id x.1.kind x.1.name).1.2,(aG l F b C id x.1.kind x.1.name).2) else (cE (bY l F b C id x.1.name).1.2,(bY l F b C id x.1.name).2)
def add2F(l:Z5 Rw)(F b C id:Int)(x:Fu):Int × Int :=
 if Ds.gen (Ds.bl x.1.name)=ZZ/\x.1.kind=0 then ((aG l F b C id 1 (dK x.1.name)).1.2,(aG l F b C id 1 (dK x.1.name)).2) else (0,C)
attribute [local go_sem ↓] aZ bf bq cl eX
attribute [local go_sem] bn aS aH bE bH aK aT ak aI aw az aM ah aQ aL aP aO aR aY aW bD ap aq
theorem FU(F C b id:Int)(x:Fu)(al gr:Z3)(j w:Z2)(N:MaxL j)(T:Tab j)(L:SHs j w p sv l F C b)(u:0<=b)(U:b<=90000)(v:C≠0/\C≠6\/F<=0)(R:row w f=x.1.vals al gr)(cr:w.cell? ⟨d,0,Z8⟩=Z9 (.iface 56 (.pointer (Z9 ⟨p,0,Z8⟩))))(ci:w.cell? ⟨c,0,Z8⟩=Z9 (.int .i64 id)) :
 ZJ Z6 204 #[.pointer (Z9 ⟨f,0,Z8⟩),.pointer (Z9 ⟨d,0,Z8⟩),.pointer (Z9 ⟨c,0,Z8⟩)] w fun r O=>r=.returned (.int .i64 (add1F l F C b id x).1)/\SHs j O p sv l F C (add1F l F C b id x).2/\w.grownBy O (Z9 p):=by
 have K:=lh L;have V:=L.pl;have z:C≠0\/F<=0:=v.imp (fun h=>h.1) (fun h=>h);have Z:=ae R 0 _ (ap _ _ _);have N1:=ae R 1 _ (aq _ _ _);unfold add1F;by_cases D:2<x.1.kind
 .have X:decide (2<x.1.kind)=ZZ:=decide_eq_true D;rw[ZX D];have t:=fun W (h:SHs j W p sv l F C b)=>iy p sv l F C b id x.1.kind x.1.name j W N T h u (by omega) z
  generalize aG l F C b id x.1.kind x.1.name=J at t |-;obtain⟨⟨y,q⟩,Q⟩:=J;have E:=lh t;clear t;go_enter Tryz.func204,Tryz.ntmps204
  go_wp2_with first|go_at_call 82;(refine (E.o _ K.o).mono ?_);rintro _ Y ⟨⟨A,G,rfl,I,H,k,m⟩,i,g⟩;have B:=ay y.1 A G (aD I) (aE H);have S:=lh i;have o:=lh g;clear I H k m i g|(go_at_call 205;(refine (l6 _ _).mono ?_);rintro _ _ ⟨rfl,rfl⟩)
  go_ret
  exact⟨rfl,S.o.below (aj _ _),bx o.o ((aj _ _).mono (by have:=o.o.size;omega))⟩
 .have X:decide (2<x.1.kind)=ZW:=decide_eq_false D;rw[Z0 D];have n:=fun W (h:SHs j W p sv l F C b)=>mx p sv l F C b id x.1.name j W N T h u (by omega) v
  generalize bY l F C b id x.1.name=J at n |-;obtain⟨⟨y,q⟩,Q⟩:=J;have P:=lh n;clear n;go_enter Tryz.func204,Tryz.ntmps204
  go_wp2_with first|go_at_call 112;(refine (P.o _ K.o).mono ?_);rintro _ Y ⟨⟨A,G,rfl,I,H,k,m⟩,i,g⟩;have B:=ay y.1 A G (aD I) (aE H);have S:=lh i;have o:=lh g;clear I H k m i g|(go_at_call 205;(refine (l6 _ _).mono ?_);rintro _ _ ⟨rfl,rfl⟩)
  go_ret
  exact⟨rfl,S.o.below (aj _ _),bx o.o ((aj _ _).mono (by have:=o.o.size;omega))⟩
theorem FX(F g C id:Int)(x:Fu)(al gr:Z3)(i w:Z2)(N:MaxL i)(hT:Tab i)(L:SHs i w p sv l F g C)(t:0<=C)(a0:C<=90000)(u:g≠0\/F<=0)(D:x.1.name.size<=1000)(R:row w f=x.1.vals al gr)(Y:w.cell? ⟨d,0,Z8⟩=Z9 (.iface 56 (.pointer (Z9 ⟨p,0,Z8⟩))))(ci:w.cell? ⟨c,0,Z8⟩=Z9 (.int .i64 id))(l2:d<w.heap.size)(l3:c<w.heap.size) :
 ZJ Z6 206 #[.pointer (Z9 ⟨f,0,Z8⟩),.pointer (Z9 ⟨d,0,Z8⟩),.pointer (Z9 ⟨c,0,Z8⟩)] w fun r T=>r=.returned (.int .i64 (add2F l F g C id x).1)/\SHs i T p sv l F g (add2F l F g C id x).2/\w.grownBy T (Z9 p):=by
 have S:=lh L;have a1:=L.pl;have N1:=ae R 1 _ (aq _ _ _);have P:=lh (fun W (b:Below i.heap.size i W)=>lq x.1.name W D (N.below b));unfold add2F dK;cases n:Ds.gen (Ds.bl x.1.name)
 rw[Z0 (by simp)];rw[n] at P;rotate_left;rw[n] at P;generalize (⟨(Ds.splG (Ds.bl x.1.name)).toArray⟩:Z7)=Q at P |-;by_cases o:x.1.kind=0
 rotate_left;rw[Z0 (fun h=>o h.2)];have t1:(x.1.kind != 0)=ZZ:=YN.2 o;rotate_right
 rw[ZX ⟨rfl,o⟩];have t1:(x.1.kind != 0)=ZW:=by rw[o];rfl
 have H:=fun W (h:SHs i W p sv l F g C)=>iy p sv l F g C id 1 Q i W N hT h t (by omega) u
 generalize aG l F g C id 1 Q=gg at H |-;obtain⟨⟨y,J⟩,cb⟩:=gg;have E:=lh H;clear H o
 all_goals
  go_enter Tryz.func206,Tryz.ntmps206
  go_wp2_with first|go_at_call 155;(refine (P.o _ S.o.b).mono ?_);rintro _ w4 ⟨rfl,k⟩;have B:=lh k;have U:=am k R (by rw[ah];decide);have M4:=ae U 0 _ (ap _ _ _);have Z:=(k.cell (p:=⟨d,0,Z8⟩) l2).trans Y;have X:=(k.cell (p:=⟨c,0,Z8⟩) l3).trans ci;clear k|go_at_call 82;(refine (E.o _ (S.o.below B.o)).mono ?_);rintro _ w3 ⟨⟨A,G,rfl,K,j,v,z⟩,q,m⟩;have O:=ay y.1 A G (aD K) (aE j);have V:=lh q;have I:=lh m;clear K j v z q m
  go_ret
  first|exact⟨rfl,V.o.below (aj _ _),bx (aJ (bo _ B.o) I.o) ((aj _ _).mono (by have:=(aJ (bo _ B.o) I.o).size;omega))⟩|exact⟨rfl,S.o.below B.o,bo _ B.o⟩
theorem FY(F C b id:Int)(x:Fu)(al gr:Z3)(W w:Z2)(q:MaxL W)(T:Tab W)(S:SHs W w p sv l F C b)(j:0<=b)(k:b<=90000)(m:C≠0/\C≠6\/F<=0)(I:IS w al x.2.1)(h:GS w gr x.2.2)(R:row w f=x.1.vals al gr)(t:w.cell? ⟨d,0,Z8⟩=Z9 (.iface 56 (.pointer (Z9 ⟨p,0,Z8⟩))))(ci:w.cell? ⟨c,0,Z8⟩=Z9 (.int .i64 id)) :
 ZJ Z6 207 #[.pointer (Z9 ⟨d,0,Z8⟩),.pointer (Z9 ⟨c,0,Z8⟩),.pointer (Z9 ⟨f,0,Z8⟩)] w fun r n=>r=.returned (.int .i64 (et l F C b id x).1)/\SHs W n p sv l F C (et l F C b id x).2/\w.grownBy n (Z9 p):=by
 have L:=lh (CT p sv l F C b id x al gr W w q T S j k m I h);clear S I h;generalize et l F C b id x=g at L |-;go_enter Tryz.func207,Tryz.ntmps207
 go_wp2_with (go_at_call 139;(with_reducible refine L.o.mono ?_);rintro _ u ⟨rfl,i,H⟩;have o:=lh i;have G:=lh H;clear i H)
 go_ret
 exact⟨rfl,o.o,G.o⟩
end
section
theorem bu:ChS w (.slice Z8 0 0) []:=⟨Z8,0,rfl,by simp,fun h=>by simp at h⟩
theorem iT(c:Ch):ChS (w.alloc (.cells (ch5 c) 67)) (.slice (Z9 ⟨w.heap.size,0,Z8⟩) 1 1) [c]:=by
 refine⟨_,_,rfl,by simp,fun _=>⟨w.heap.size,0,rfl,by simp,fun k H i u b=>?_⟩⟩
 obtain rfl:k=0:=by simpa using H
 have h:=ae (ak w (ch5 c) 67 (0,0)) i u b;simpa using h
theorem kZ{w w':Z2}{p:Nat}{al:Z3}{l:Z5 Int}(h:IS w al l)(n:w.grownBy w' (Z9 p))(u:0<l.length->∀ q,al.ownBlock=Z9 q->q≠p):IS w' al l:=by
 obtain⟨a,c,rfl,z,r⟩:=h;refine⟨a,c,rfl,z,fun j=>?_⟩
 obtain⟨b,o,rfl,m,H⟩:=r j;have g:=u j b rfl;have q:=fun i=>Z1 (w:=w) (w':=w') (a:=⟨b,i,Z8⟩) (n.block b m (fun e=>g (Option.some.inj e)))
 exact⟨b,o,rfl,ZY m n.size,fun k t=>(q _).trans (H k t)⟩
theorem kY{w w':Z2}{p:Nat}{al:Z3}{l:Z5 Gr}(h:GS w al l)(r:w.grownBy w' (Z9 p))(u:0<l.length->∀ q,al.ownBlock=Z9 q->q≠p):GS w' al l:=by
 obtain⟨a,c,rfl,z,t⟩:=h;refine⟨a,c,rfl,z,fun m=>?_⟩
 obtain⟨b,o,rfl,n,H⟩:=t m;have j:=u m b rfl;have q:=fun i=>Z1 (w:=w) (w':=w') (a:=⟨b,i,Z8⟩) (r.block b n (fun e=>j (Option.some.inj e)))
 exact⟨b,o,rfl,ZY n r.size,fun k g=>⟨(q _).trans (H k g).1,(q _).trans (H k g).2.1,(q _).trans (H k g).2.2⟩⟩
def dj(b w W:Z2)(p:Nat)(sv:Z3)(l:Z5 Rw)(F C:Int)(g:(Z5 Ch × Int) × Int)(r:Ending):Prop :=
 ∃ o,r=.returned (.tuple #[o,.int .i64 g.1.2])/\ChS W o g.1.1/\SHs b W p sv l F C g.2/\w.grownBy W (Z9 p)
attribute [local go_sem ↓] aZ bf bq cl eX
attribute [local go_sem] bn aS aH bE bH aK aT ak aI aw az aM ah aQ aL aP aO aR aY aW bD ap aq
end
section
def ib(l:Z5 Rw)(F C id:Int)(x:Fu)(k:Nat)(c:Int):Int × Int:=if k=0 then add1F l F C c id x else if k=1 then add2F l F C c id x else et l F C c id x
def gy(l:Z5 Rw)(F C id:Int)(x:Fu):Nat->Nat->Int->(Z5 Ch × Int) × Int
 | 0,_,c=>(([bI id x],0),c)
 | n+1,k,c=>if (ib l F C id x k c).1≠0 then (([],(ib l F C id x k c).1),(ib l F C id x k c).2) else gy l F C id x n (k+1) (ib l F C id x k c).2
def io(l:Z5 Rw)(F b C id:Int)(x:Fu):(Z5 Ch × Int) × Int:=if aA x=ZZ then gy l F b id x 3 0 C else (([],1),C)
theorem BX(F C c id:Int)(x:Fu):c<=(et l F C c id x).2/\(et l F C c id x).2<=c+3:=by
 unfold et;split
 .exact⟨Int.le_refl _,by dsimp only;omega⟩
 .have h:=jq l F C c id x.1.target;generalize bY l F C c id x.1.target=g at h |-;obtain⟨⟨y,e⟩,b⟩:=g;dsimp only at h |-;split
  .exact h
  .split <;> exact h
theorem qk(F C id:Int)(x:Fu)(k:Nat)(c:Int):c<=(ib l F C id x k c).2/\(ib l F C id x k c).2<=c+3:=by
 unfold ib;split
 .unfold add1F;split
  .have h:=dS l F C c id x.1.kind x.1.name;dsimp only;omega
  .have h:=jq l F C c id x.1.name;dsimp only;omega
 .split
  .unfold add2F;split
   .have h:=dS l F C c id 1 (dK x.1.name);dsimp only;omega
   .exact⟨Int.le_refl _,by dsimp only;omega⟩
  .exact BX l F C c id x
structure AdI (w0 w wr:Z2) (p bs:Nat) (sv:Z3) (l:Z5 Rw) (fl cd c id:Int) (x:Fu) (al gr:Z3):Prop where
 sh:SHs w0 wr p sv l fl cd c
 g:w.grownBy wr (Z9 p)
 e:row wr (w.heap.size+1+1)=x.1.vals al gr
 r:wr.cell? ⟨w.heap.size,0,Z8⟩=Z9 (.iface 56 (.pointer (Z9 ⟨p,0,Z8⟩)))
 i:wr.cell? ⟨w.heap.size+1,0,Z8⟩=Z9 (.int .i64 id)
 f0:wr.cell? ⟨bs,0,Z8⟩=Z9 (.func (.func 204) #[] #[.pointer (Z9 ⟨w.heap.size+1+1,0,Z8⟩),.pointer (Z9 ⟨w.heap.size,0,Z8⟩),.pointer (Z9 ⟨w.heap.size+1,0,Z8⟩)])
 f1:wr.cell? ⟨bs,1,Z8⟩=Z9 (.func (.func 206) #[] #[.pointer (Z9 ⟨w.heap.size+1+1,0,Z8⟩),.pointer (Z9 ⟨w.heap.size,0,Z8⟩),.pointer (Z9 ⟨w.heap.size+1,0,Z8⟩)])
 f2:wr.cell? ⟨bs,2,Z8⟩=Z9 (.func (.func 207) #[] #[.pointer (Z9 ⟨w.heap.size,0,Z8⟩),.pointer (Z9 ⟨w.heap.size+1,0,Z8⟩),.pointer (Z9 ⟨w.heap.size+1+1,0,Z8⟩)])
 lt:bs<wr.heap.size
 l2:w.heap.size+1+1<wr.heap.size
 pl:p<w.heap.size
 bl:w.heap.size<=bs
 I:IS wr al x.2.1
 G:GS wr gr x.2.2
 o1:0<x.2.1.length->∀ q,al.ownBlock=Z9 q->q≠p
 o2:0<x.2.2.length->∀ q,gr.ownBlock=Z9 q->q≠p
theorem AdI.step{t w wr W:Z2}{p B:Nat}{sv:Z3}{l:Z5 Rw}{fl cd c C id:Int}{x:Fu}{al gr:Z3}(h:AdI t w wr p B sv l fl cd c id x al gr)(y:SHs t W p sv l fl cd C)(j:wr.grownBy W (Z9 p)):AdI t w W p B sv l fl cd C id x al gr:=by
 have n:=h.pl;have k:=h.bl;have H:=h.lt;have m:=h.l2;have q:∀ b o,b<wr.heap.size->b≠p->W.cell? ⟨b,o,Z8⟩=wr.cell? ⟨b,o,Z8⟩:=fun b o u v=>Z1 (a:=⟨b,o,Z8⟩) (j.block b u (fun e:(Z9 b:Option Nat)=Z9 p=>v (Option.some.inj e)))
 exact⟨y,aJ h.g j,dP h.e (by rw[ah];decide) j (by omega),(q _ _ (by omega) (by omega)).trans h.r,(q _ _ (by omega) (by omega)).trans h.i,(q _ _ H (by omega)).trans h.f0,(q _ _ H (by omega)).trans h.f1,(q _ _ H (by omega)).trans h.f2,
  ZY H j.size,ZY m j.size,n,k,kZ h.I j h.o1,kY h.G j h.o2,h.o1,h.o2⟩
attribute [local go_sem ↓] aZ bf bq cl eX
attribute [local go_sem] bn aS aH bE bH aK aT ak aI aw az aM ah aQ aL aP aO aR aY aW bD ap aq
theorem Mx(F C P id:Int)(x:Fu)(al gr:Z3)(u w:Z2)(hm:MaxL u)(hT:Tab u)(hS:SHs u w p sv l F C P)(af:0<=P)(av:P<=80000)(R:C≠0/\C≠6\/F<=0)(X:x.1.name.size<=1000)(hI:IS w al x.2.1)(J:GS w gr x.2.2)(o1:0<x.2.1.length->∀ q,al.ownBlock=Z9 q->q≠p)(o2:0<x.2.2.length->∀ q,gr.ownBlock=Z9 q->q≠p) :
 ZJ Z6 122 #[.iface 56 (.pointer (Z9 ⟨p,0,Z8⟩)),.int .i64 id,.agg (x.1.vals al gr)] w fun r w'=>dj u w w' p sv l F C (io l F C P id x) r:=by
 have a1:=ay x.1 al gr (aD hI) (aE J);have HS:=lh hS;have ao:=hS.pl;have a3:C≠0\/F<=0:=R.imp (fun h=>h.1) (fun h=>h);have HV:=lh (fun W (Y:Below u.heap.size u W) (b:Below w.heap.size w W)=>lN x.1 al gr x.2.1 x.2.2 W (hm.below Y) (hT.below Y) X (hI.below b) (J.below b));have HI:=lh hI;have ab:=lh J;clear hI J;unfold io;have B1:Below w.heap.size w (((w.alloc (.cells #[.iface 56 (.pointer (Z9 ⟨p,0,Z8⟩))] 115)).alloc (.cells #[.int .i64 id] 3)).alloc (.cells (x.1.vals al gr) 29)):=by exact aB
 have t:=lh B1;clear B1;have R0:=ak ((w.alloc (.cells #[.iface 56 (.pointer (Z9 ⟨p,0,Z8⟩))] 115)).alloc (.cells #[.int .i64 id] 3)) (x.1.vals al gr) 29 (0,0);simp only[Yi] at R0
 cases U:aA x
 rw[Z0 (by simp)];have Q:=lh (fun W Y b=>(show aA (x.1,x.2.1,x.2.2)=ZW from U) ▸ HV.o W Y b);clear HV;rotate_left;rw[ZX rfl];have Q:=lh (fun W Y b=>(show aA (x.1,x.2.1,x.2.2)=ZZ from U) ▸ HV.o W Y b);clear HV;generalize hg:gy l F C id x 3 0 P=g;have aa:=lh hg;clear hg U;have a6:=lh (fun (c:Int) wr (E:0<=c) (h1:c<=90000) (h:SHs u wr p sv l F C c)=>FU p (w.heap.size+1+1) w.heap.size (w.heap.size+1) sv l F C c id x al gr u wr hm hT h E h1 R);have a7:=lh (fun (c:Int) wr (E:0<=c) (h1:c<=90000) (h:SHs u wr p sv l F C c)=>FX p (w.heap.size+1+1) w.heap.size (w.heap.size+1) sv l F C c id x al gr u wr hm hT h E h1 a3 X);have a8:=lh (fun (c:Int) wr (E:0<=c) (h1:c<=90000) (h:SHs u wr p sv l F C c)=>FY p (w.heap.size+1+1) w.heap.size (w.heap.size+1) sv l F C c id x al gr u wr hm hT h E h1 R);have C0:(((w.alloc (.cells #[.iface 56 (.pointer (Z9 ⟨p,0,Z8⟩))] 115)).alloc (.cells #[.int .i64 id] 3)).alloc (.cells (x.1.vals al gr) 29)).cell? ⟨w.heap.size,0,Z8⟩=Z9 (.iface 56 (.pointer (Z9 ⟨p,0,Z8⟩))):=by simp [go_sem]
 have C1:(((w.alloc (.cells #[.iface 56 (.pointer (Z9 ⟨p,0,Z8⟩))] 115)).alloc (.cells #[.int .i64 id] 3)).alloc (.cells (x.1.vals al gr) 29)).cell? ⟨w.heap.size+1,0,Z8⟩=Z9 (.int .i64 id):=by simp [go_sem]
 rotate_left
 iterate 1
  focus
   go_enter Tryz.func122,Tryz.ntmps122
   go_wp2_with (go_at_call 63;(refine (Q.o _ (HS.o.below t.o).b t.o).mono ?_);rintro _ B ⟨rfl,K⟩;have N:=lh (Below.trans t.o (K.mono t.o.size));clear K)
   go_ret2
   exact⟨_,rfl,bu _,HS.o.below N.o,bo _ N.o⟩
 go_enter Tryz.func122,Tryz.ntmps122
 go_wp2_with (go_at_call 63;(refine (Q.o _ (HS.o.below t.o).b t.o).mono ?_);rintro _ B ⟨rfl,K⟩;have N:=lh (Below.trans t.o (K.mono t.o.size));have R2:=am K R0 (by rw[ah];decide);have D0:=(K.cell (p:=⟨w.heap.size,0,Z8⟩) (by simp;omega)).trans C0;have D1:=(K.cell (p:=⟨w.heap.size+1,0,Z8⟩) (by simp)).trans C1;have z2:=K.size;clear K)
 have ac:AdI u w (B.alloc (.cells #[.func (.func 204) #[] #[.pointer (Z9 ⟨w.heap.size+1+1,0,Z8⟩),.pointer (Z9 ⟨w.heap.size,0,Z8⟩),.pointer (Z9 ⟨w.heap.size+1,0,Z8⟩)],.func (.func 206) #[] #[.pointer (Z9 ⟨w.heap.size+1+1,0,Z8⟩),.pointer (Z9 ⟨w.heap.size,0,Z8⟩),.pointer (Z9 ⟨w.heap.size+1,0,Z8⟩)],.func (.func 207) #[] #[.pointer (Z9 ⟨w.heap.size,0,Z8⟩),.pointer (Z9 ⟨w.heap.size+1,0,Z8⟩),.pointer (Z9 ⟨w.heap.size+1+1,0,Z8⟩)]] 99)) p B.heap.size sv l F C P id x al gr:=by
  simp only[Yi] at z2
  have bl:=aj B (.cells #[.func (.func 204) #[] #[.pointer (Z9 ⟨w.heap.size+1+1,0,Z8⟩),.pointer (Z9 ⟨w.heap.size,0,Z8⟩),.pointer (Z9 ⟨w.heap.size+1,0,Z8⟩)],.func (.func 206) #[] #[.pointer (Z9 ⟨w.heap.size+1+1,0,Z8⟩),.pointer (Z9 ⟨w.heap.size,0,Z8⟩),.pointer (Z9 ⟨w.heap.size+1,0,Z8⟩)],.func (.func 207) #[] #[.pointer (Z9 ⟨w.heap.size,0,Z8⟩),.pointer (Z9 ⟨w.heap.size+1,0,Z8⟩),.pointer (Z9 ⟨w.heap.size+1+1,0,Z8⟩)]] 99);refine⟨(HS.o.below N.o).below bl,bo _ (N.o.trans (bl.mono N.o.size)),am bl R2 (by rw[ah];decide),(bl.cell (p:=⟨w.heap.size,0,Z8⟩) (by show w.heap.size<B.heap.size;omega)).trans D0,(bl.cell (p:=⟨w.heap.size+1,0,Z8⟩) (by show w.heap.size+1<B.heap.size;omega)).trans D1,?_,?_,?_,by simp,by simp;omega,ao,by omega,(HI.o.below N.o).below bl,(ab.o.below N.o).below bl,o1,o2⟩
  .rw[YF _ _ 0 _ 99 (0,0) (ZA B _)];rfl
  .rw[YF _ _ 1 _ 99 (0,0) (ZA B _)];rfl
  .rw[YF _ _ 2 _ 99 (0,0) (ZA B _)];rfl
 go_loopw [21] (fun i wr=>∃ (k:Nat) (c:Int),k<=3/\i=.int .i64 k/\0<=c/\c<=P+3*k/\Hid (gy l F C id x (3 - k) k c=g)/\AdI u w wr p B.heap.size sv l F C c id x al gr) (fun i _=>3 - (intOf i).toNat)
 case atStart=>exact⟨0,P,by decide,rfl,af,by simp,aa,ac⟩
 case round =>
  obtain⟨k,c,hk,rfl,E,h1,D,A⟩:=hrel;have v:=lh A;have a2:=qk l F C id x k c;by_cases b1:k<3
  .have o:=D.o;rw[show 3 - k=(3 - (k+1))+1 by omega] at o;unfold gy at o
   have ar:∃ f Z,wr.cell? ⟨B.heap.size,k,Z8⟩=Z9 (.func (.func f) #[] Z)/\(k=0/\f=204/\Z=#[.pointer (Z9 ⟨w.heap.size+1+1,0,Z8⟩),.pointer (Z9 ⟨w.heap.size,0,Z8⟩),.pointer (Z9 ⟨w.heap.size+1,0,Z8⟩)]\/k=1/\f=206/\Z=#[.pointer (Z9 ⟨w.heap.size+1+1,0,Z8⟩),.pointer (Z9 ⟨w.heap.size,0,Z8⟩),.pointer (Z9 ⟨w.heap.size+1,0,Z8⟩)]\/k=2/\f=207/\Z=#[.pointer (Z9 ⟨w.heap.size,0,Z8⟩),.pointer (Z9 ⟨w.heap.size+1,0,Z8⟩),.pointer (Z9 ⟨w.heap.size+1+1,0,Z8⟩)]):=by
    rcases (by omega:k=0\/k=1\/k=2) with rfl|rfl|rfl
    .exact⟨_,_,A.f0,.inl ⟨rfl,rfl,rfl⟩⟩
    .exact⟨_,_,A.f1,.inr (.inl ⟨rfl,rfl,rfl⟩)⟩
    .exact⟨_,_,A.f2,.inr (.inr ⟨rfl,rfl,rfl⟩)⟩
   obtain⟨f,Z,ag,a4⟩:=ar
   have H:ZJ Z6 f Z wr fun r w'=>r=.returned (.int .i64 (ib l F C id x k c).1)/\SHs u w' p sv l F C (ib l F C id x k c).2/\wr.grownBy w' (Z9 p):=by
    rcases a4 with ⟨rfl,rfl,rfl⟩|⟨rfl,rfl,rfl⟩|⟨rfl,rfl,rfl⟩
    .exact a6.o c wr E (by omega) A.sh A.e A.r A.i
    .exact a7.o c wr E (by omega) A.sh A.e A.r A.i (by have:=A.l2;omega) (by have:=A.l2;omega)
    .exact a8.o c wr E (by omega) A.sh A.I A.G A.e A.r A.i
   generalize ib l F C id x k c=sr at H o a2;obtain⟨n,cb⟩:=sr;dsimp only at H o a2;clear A;rcases a4 with ⟨rfl,rfl,rfl⟩|⟨rfl,rfl,rfl⟩|⟨rfl,rfl,rfl⟩
   .have O:=lh H;clear H;by_cases z:n=0
    .rw[Z0 (fun h=>h z)] at o;subst z;have T:=lh o;clear o D;go_wp2_with (go_at_call 204;(with_reducible refine O.o.mono ?_);rintro _ w3 ⟨rfl,m,j⟩;have S:=lh m;have y:=lh j;clear m j)
     go_roundw
     case rel=>exact⟨1,cb,by omega,by go_num,by omega,by omega,T,v.o.step S.o y.o⟩
     case measure=>simp [intOf]
    .rw[ZX z] at o;subst o;have t1:(n != 0)=ZZ:=by rw[YN];exact z
     clear z D;go_wp2_with (go_at_call 204;(with_reducible refine O.o.mono ?_);rintro _ w3 ⟨rfl,m,j⟩;have S:=lh m;have y:=lh j;clear m j)
     go_ret2
     exact⟨_,rfl,bu _,S.o,aJ v.o.g y.o⟩
   .have O:=lh H;clear H;by_cases z:n=0
    .rw[Z0 (fun h=>h z)] at o;subst z;have T:=lh o;clear o D;go_wp2_with (go_at_call 206;(with_reducible refine O.o.mono ?_);rintro _ w3 ⟨rfl,m,j⟩;have S:=lh m;have y:=lh j;clear m j)
     go_roundw
     case rel=>exact⟨2,cb,by omega,by go_num,by omega,by omega,T,v.o.step S.o y.o⟩
     case measure=>simp [intOf]
    .rw[ZX z] at o;subst o;have t1:(n != 0)=ZZ:=by rw[YN];exact z
     clear z D;go_wp2_with (go_at_call 206;(with_reducible refine O.o.mono ?_);rintro _ w3 ⟨rfl,m,j⟩;have S:=lh m;have y:=lh j;clear m j)
     go_ret2
     exact⟨_,rfl,bu _,S.o,aJ v.o.g y.o⟩
   .have O:=lh H;clear H;by_cases z:n=0
    .rw[Z0 (fun h=>h z)] at o;subst z;have T:=lh o;clear o D;go_wp2_with (go_at_call 207;(with_reducible refine O.o.mono ?_);rintro _ w3 ⟨rfl,m,j⟩;have S:=lh m;have y:=lh j;clear m j)
     go_roundw
     case rel=>exact⟨3,cb,by omega,by go_num,by omega,by omega,T,v.o.step S.o y.o⟩
     case measure=>simp [intOf]
    .rw[ZX z] at o;subst o;have t1:(n != 0)=ZZ:=by rw[YN];exact z
     clear z D;go_wp2_with (go_at_call 207;(with_reducible refine O.o.mono ?_);rintro _ w3 ⟨rfl,m,j⟩;have S:=lh m;have y:=lh j;clear m j)
     go_ret2
     exact⟨_,rfl,bu _,S.o,aJ v.o.g y.o⟩
  .obtain rfl:k=3:=by omega
   have V:(([bI id x],0),c)=g:=D.o;subst V;have R3:=A.e;have C3:=A.i;have a5:∀ W (b:Below u.heap.size u W) (i1:IS W al x.2.1) (i2:GS W gr x.2.2),ZJ Z6 140 #[.int .i64 id,.agg (x.1.vals al gr)] W fun r w'=>r=.returned (.agg #[.int .i64 0,.int .i64 id,.string (aC x.1.kind x.1.name),.string (bC x),.string ⟨#[]⟩])/\Below W.heap.size W w':=fun W b i1 i2=>qY id x al gr W (hm.below b) (hT.below b) X i1 i2
   have L:=fun W=>iT W (bI id x)
   unfold bI ch5 at L;dsimp only at L;have ad:=lh a5;have a9:=lh L;clear a5 L A D;go_wp2_with (go_at_call 140;(refine (ad.o _ v.o.sh.b v.o.I v.o.G).mono ?_);rintro _ w5 ⟨rfl,a0⟩;have B5:=lh (bt a0 (aj w5 (.cells #[.int .i64 0,.int .i64 id,.string (aC x.1.kind x.1.name),.string (bC x),.string ⟨#[]⟩] 67)));clear a0)
   go_ret2
   exact⟨_,rfl,a9.o _,v.o.sh.below B5.o,bx v.o.g (B5.o.mono (by have:=v.o.g.size;omega))⟩
end
theorem od(L:UInt8)(C:Nat)(w:Z2) :
 ZJ Z6 90 #[.iface 56 (.pointer (Z9 ⟨p,0,Z8⟩)),.int .i64 id,.int .u8 (L.toNat:Nat),.pointer (Z9 ⟨C,0,Z8⟩)] w fun e W=>e=.returned (.func (.func 192) #[] #[.pointer (Z9 ⟨w.heap.size+1+1,0,Z8⟩),.pointer (Z9 ⟨w.heap.size,0,Z8⟩),.pointer (Z9 ⟨w.heap.size+1,0,Z8⟩),.pointer (Z9 ⟨w.heap.size+1+1+1,0,Z8⟩)])/\
  W=(((w.alloc (.cells #[.iface 56 (.pointer (Z9 ⟨p,0,Z8⟩))] 115)).alloc (.cells #[.int .i64 id] 3)).alloc (.cells #[.int .u8 (L.toNat:Nat)] 5)).alloc (.cells #[.pointer (Z9 ⟨C,0,Z8⟩)] 160):=by
 go_enter Tryz.func90,Tryz.ntmps90
 go_wp2_with fail
 go_ret
 exact⟨rfl,rfl⟩
theorem tu(g:s.size<=1000)(H:MaxL w) :
 ZJ Z6 211 #[.string s] w fun e W=>e=.returned (.bool (Ds.gen (Ds.bl s)))/\Below w.heap.size w W:=by
 have h:=lq s w g H;generalize Ds.gen (Ds.bl s)=b at h |-;go_enter Tryz.func211,Tryz.ntmps211
 go_wp2_with (go_at_call 155;(with_reducible refine h.mono ?_);rintro _ i ⟨rfl,B⟩)
 go_ret
 exact⟨rfl,B⟩
end Go.Proofs.YtnkjliahpeebjaaGreatDoor
