/- Catalogs. -/
import Derived.Test.YtnkjliahpeebjaaGreatDoorRf
import Derived.Test.YtnkjliahpeebjaaGreatDoorRtF
set_option maxRecDepth 8000
set_option maxHeartbeats 8000000
open Option renaming some->Z9,none->Z7
open _root_ renaming ByteArray->Z6,List->Z3,UInt8->ZP,Array->Zz
open Go.Proofs.YtnkjliahpeebjaaGreatDoor.Ds renaming bl->Z5,bl_length->Z0,bl_inj->XV,bl_mk->Xj
open Go.RowKit renaming Below->Z4
open Bool renaming false->Z2
open Go renaming Value->Z1,World->ZY,bodyPost_ret->ZA,below_setRow->Zy
open Nat renaming le_refl->ZV,le_of_ble_eq_true->Zj,zero_lt_succ->WM
open Go.RowKit.Below renaming refl->ZR,drew->YZ,setCell->XB
open Go.Act renaming put->ZG
open List renaming setIfInBounds_toArray->Zw,set_cons_zero->Za,set_cons_succ->Y9
open Array renaming getElem?_eq_getElem->Zv
open Go.Proofs.YtnkjliahpeebjaaGreatDoor.En renaming base->Zh
open Go.World renaming setRow->YC,setCell->Yx,alloc->Wc
namespace Go.Proofs.YtnkjliahpeebjaaGreatDoor
open Go.RowKit
variable{t:Z6}{w W W' w' wr d L:ZY}{b g a k:Nat}{c ds c':Zz Z1}{x f:Nat}{rd cs:Zz Z1}{F I E A:Int}{d2 e0 gr e1 d0 N e2:Z1}(h l:Z6){B G:Int}{d1 i:Z1}{J H D:Int}{n xs:Z3 Z1}{C u m z j:Int}
section
set_option linter.unusedSimpArgs false
theorem Fz(w:ZY)(o:Obj):Z4 w.heap.size w (w.alloc o):=(ZR _ _).alloc (ZV _) o
theorem FW.read(h:FW w d cs t x)(T:Z6)(X:Nat):FW w (d.setRow (w.heap.size+1) #[.string T,.int .i64 X]) cs T X :=
 ⟨by rw[cT _ _ _ _ (by omega)];exact h.r0,au h.h1 _,h.h0.set _ (fun e=>absurd e (by omega)),h.h1.set _ (fun _=>rfl),h.h2.set _ (fun e=>absurd e (by omega)),h.h3.set _ (fun e=>absurd e (by omega)),Zy h.bel (by omega) _⟩
theorem FW.blocks(h:FW w d cs t x)(e:∀ j,j<w.heap.size+1+1+1+1->L.heap[j]?=d.heap[j]?)(o:Z4 w.heap.size w L):FW w L cs t x :=
 ⟨by unfold row;rw[e _ (by omega)];exact h.r0,by unfold row;rw[e _ (by omega)];exact h.r1,h.h0.of_block (e _ (by omega)),h.h1.of_block (e _ (by omega)),h.h2.of_block (e _ (by omega)),h.h3.of_block (e _ (by omega)),o⟩
theorem FW.setE(h:FW w d cs t x)(i:Nat)(v:Z1):FW w (d.setCell ⟨w.heap.size,i,Z7⟩ v) (cs.setIfInBounds i v) t x :=
 ⟨by rw[jU h.h0,h.r0],by rw[kO _ _ _ _ _ (by omega)];exact h.r1,bG h.h0 _ _ _,bG h.h1 _ _ _,bG h.h2 _ _ _,bG h.h3 _ _ _,XB h.bel (ZV _) _⟩
structure F4 (w wr:ZY) (g:Nat) (cs:Zz Z1) (d0 d1 d2:Z1) (gr:Z1) (k:Nat) (xs:Z3 Z1) (t:Z6) (x:Nat):Prop where
 f:FW w wr cs t x
 rg:row wr g=#[d0,d1,d2]
 hg:Held wr g 3
 far:w.heap.size+1+1+1<g
 own:wr.ownsRow (w.heap.size+1+1+1+1) 103 3 gr k xs
 lt:∀ y,gr.ownBlock=Z9 y->y<g
theorem F4.below(h:F4 w wr g cs d0 d1 d2 gr k xs t x)(e:Z4 wr.heap.size wr d):F4 w d g cs d0 d1 d2 gr k xs t x :=
 ⟨h.f.below e,am e h.rg (WM 2),h.hg.below e,h.far,aV h.own (fun y o=>e.block y (ax h.own y o).2),h.lt⟩
theorem F4.start(h:FW w wr cs t x)(own:wr.ownsRow (w.heap.size+1+1+1+1) 103 3 gr k xs)(d0 d1 d2:Z1)(T:TypeId):F4 w (wr.alloc (.cells #[d0,d1,d2] T)) wr.heap.size cs d0 d1 d2 gr k xs t x:=by
 have o:Z4 wr.heap.size wr (wr.alloc (.cells #[d0,d1,d2] T)):=(ZR _ _).alloc (ZV _) _;exact⟨h.below o,ak wr _ T (0,0),Held.new wr _ T 3 rfl (by decide),h.h3.lt,aV own (fun y e=>o.block y (ax own y e).2),fun y e=>(ax own y e).2⟩
theorem F4.step(h:F4 w d g cs d0 d1 d2 gr k xs t x)(i:Nat)(v:Z1)(T:Z6)(X:Nat)(p:(#[d0,d1,d2]:Zz Z1).setIfInBounds i v=#[e0,e1,e2]):F4 w ((d.setCell ⟨g,i,Z7⟩ v).setRow (w.heap.size+1) #[.string T,.int .i64 X]) g cs e0 e1 e2 gr k xs T X:=by
 have k1:=h.far
 have hF:FW w (d.setCell ⟨g,i,Z7⟩ v) cs t x :=
  ⟨by rw[kO _ _ _ _ _ (by omega)];exact h.f.r0,by rw[kO _ _ _ _ _ (by omega)];exact h.f.r1,bG h.f.h0 _ _ _,bG h.f.h1 _ _ _,bG h.f.h2 _ _ _,bG h.f.h3 _ _ _,XB h.f.bel (by show w.heap.size<=g;omega) _⟩
 refine⟨hF.read T X,?_,(bG h.hg _ _ _).set _ (fun e=>absurd e (by omega)),k1,aV h.own (fun y o=>?_),h.lt⟩
 .rw[cT _ _ _ _ (by omega),jU h.hg,h.rg,p]
 .have q:=(ax h.own y o).1;have Q:=h.lt y o;rw[cP _ _ _ _ (by omega),ic (a:=⟨g,i,Z7⟩) (by show y≠g;omega)]
theorem F4.done{e:En}{o:Obj}(h:F4 w d g (e.vals N gr) d0 d1 d2 gr k xs t x)(p:L.ownsRow (w.heap.size+1+1+1+1) 103 3 i (k+1) (xs++n))(K:(d.alloc o).grownBy L gr.ownBlock):FW w (L.setCell ⟨w.heap.size,32,Z7⟩ i) (e.vals N i) t x/\(L.setCell ⟨w.heap.size,32,Z7⟩ i).ownsRow (w.heap.size+1+1+1+1) 103 3 i (k+1) (xs++n):=by
 have P:Z4 d.heap.size d (d.alloc o):=(ZR _ _).alloc (ZV _) _;have Z:=h.f.h3.lt;have s:=h.f.below P;have q:∀ j,j<w.heap.size+1+1+1+1->Z9 j≠gr.ownBlock:=fun j O e=>by have:=(ax h.own j e.symm).1;omega
 have Q:FW w L (e.vals N gr) t x:=s.blocks (fun j O=>K.block j (by simp;omega) (q j O)) (s.bel.grown K (by simp;omega) (fun y r=>by have:=(ax h.own y r).1;omega));have v:=Q.setE 32 i;rw[wE] at v;refine⟨v,aV p (fun y r=>ic (a:=⟨w.heap.size,32,Z7⟩) (by have:=(ax p y r).1;show y≠w.heap.size;omega))⟩
theorem EY(W:ZY)(x:Gr)(t:TypeId)(k:Nat)(o:k=W.heap.size):CS (W.alloc (.cells #[.string x.1,.bool x.2.1,.int .i64 x.2.2] t)) 3 (.slice (Z9 ⟨k,0,Z7⟩) 1 1) 1 (gv [x]):=by
 subst o;refine⟨_,_,rfl,rfl,fun _=>⟨_,rfl,fun j u e=>?_⟩⟩
 rw[Addr.add_lit,Nat.zero_add,cell_of_row _ W.heap.size j _ t (0,0) (heap_alloc_new W _)];have:gv [x]=(#[Value.string x.1,Value.bool x.2.1,Value.int .i64 x.2.2]:Zz Z1).toList:=rfl;rw[this] at e;simpa using e
theorem AZ(s:Z3 ZP × Nat)(a:Z3 ZP)(S:Z3 ZP × Nat)(b:Bool)(e:Z3 ZP × Nat)(n:Int)(o:Z3 ZP × Nat)(p:Rd.txt 8 s=(a,S))(q:Rd.boo S=(b,e))(r:rN e=(n,o)):jo s=((⟨a.toArray⟩,b,n),o):=by
 unfold jo;simp only[p,q,r]
attribute [local go_sem ↓] aZ bf bq jM jR
attribute [local go_sem] bn aS aH aK aT az aM ah aQ aL aP aO aR aY aW
theorem rfields4(w:ZY)(hl:l.size<=1000) :
 Calls Tryz.prog 311 #[.agg (zlit 4 h),.agg #[.string l,.int .i64 0]] w fun r w'=>∃ (gr:Z1) (t:Z6),r=.returned (.tuple #[.agg ((ey (Zh 4 h) (Z5 l,0)).1.vals (.slice Z7 0 0) gr),.agg #[.string t,.int .i64 (ey (Zh 4 h) (Z5 l,0)).2.2.2]])/\GS w' gr (ey (Zh 4 h) (Z5 l,0)).2.1/\Z5 t=(ey (Zh 4 h) (Z5 l,0)).2.2.1/\Z4 w.heap.size w w'/\(∀ y,gr.ownBlock=Z9 y->w.heap.size<=y):=by
 obtain⟨s0,a1⟩:∃ s0:Z3 ZP × Nat,s0=(Z5 l,0):=⟨_,rfl⟩;have m0:s0.1.length<=1000:=by rw[a1];simp only[Z0];exact hl
 obtain⟨v1,s1,a2⟩:∃ (v:Int) (s:Z3 ZP × Nat),rN s0=(v,s):=⟨_,_,rfl⟩;have m1:s1.1.length<=1000:=by have:=il s0;rw[a2] at this;simp only at this;omega
 obtain⟨v2,s2,a3⟩:∃ (v:Z3 ZP) (s:Z3 ZP × Nat),Rd.txt 8 s1=(v,s):=⟨_,_,rfl⟩;have m2:s2.1.length<=1000:=by have:=(Rd.txt_len 8 s1).1;rw[a3] at this;simp only at this;omega
 obtain⟨v3,Y,a0⟩:∃ (v:Nat) (s:Z3 ZP × Nat),Rd.cnt 8 s2=(v,s):=⟨_,_,rfl⟩;have m3:Y.1.length<=1000:=by have:=Rd.cnt_len 8 s2;rw[a0] at this;simp only at this;omega
 have bj:v3<=8:=by have:=Rd.cnt_le 8 s2;rw[a0] at this;exact this
 obtain⟨eF,a7⟩:∃ eF:En,({ Zh 4 h with lev:=v1,owner:=⟨v2.toArray⟩ }:En)=eF:=⟨_,rfl⟩
 have b1:ey (Zh 4 h) (Z5 l,0)=(eF,(dr Y v3).1,(dr Y v3).2):=by
  rw[<-a1,<-a7];unfold ey;simp only[a2,a3,a0]
 have b9:=lh a7;rw[b1];clear b1 a7;have hS:=FW.start w (zlit 4 h) (zlit 0 ⟨#[]⟩) l s0.2 29 326 29 326 rfl rfl;have e0:s0.2=0:=by rw[a1]
 have b2:Z5 l=s0.1:=by rw[a1]
 rw[e0] at hS;have b8:=lh e0;have ab:=lh b2;clear e0 b2 a1 hl;unfold zlit at hS;simp only[show (((0:Nat):Int))=(0:Int) from rfl] at hS
 have P:=lh hS;clear hS;unfold zlit;go_enter Tryz.func311,Tryz.ntmps311
 go_upto_region 1 with fail
 generalize X:((((w.alloc _).alloc _).alloc _).alloc _)=W0 at P |-;clear X;have P:Hid (FW w W0 (zlit 4 h) l 0):=P;have r0:=P.o.r0;have n0:=ae r0 0 (.int .i64 4) rfl;go_upto_region 29 with fail
 clear r0 n0;generalize a6:zlit 4 h=C0 at P;have b5:=lh a6;have z0:C0.size=33:=by rw[<-a6];rfl
 have x0:l.size<=10000:=by rw[<-Z0,ab.o];omega
 clear a6;have K:=fun W=>rread l s0.2 W x0
 rw[show (Z5 l,s0.2)=s0 by rw[ab.o],a2] at K;simp only at K
 rw[b8.o] at K;simp only[show (((0:Nat):Int))=(0:Int) from rfl] at K
 have T:=lh K;clear K;have Z:=P.o.r1;simp only[show (((0:Nat):Int))=(0:Int) from rfl] at Z
 obtain⟨y0,b3⟩:∃ y,C0[31]?=Z9 y:=⟨_,Zv (by omega)⟩;go_upto_region 30 with (go_at_call 333;(with_reducible refine (T.o _).mono ?_);rintro _ d ⟨t1,rfl,R,U⟩;have q:=P.o.below U;have p:=lh q;have ac:=lh R;have cc:=ae q.r0 31 _ b3;have ff:=q.h0.2.2;have q1:=fun v=>bG q.h1 w.heap.size 31 v;clear q U R)
 have Q:=p.o.step 31 (.int .i64 v1) t1 s1.2;generalize X:YC (Yx _ _ _) _ _=W1 at Q |-;clear X cc ff q1 Z T P p;have z1:(C0.setIfInBounds 31 (.int .i64 v1)).size=33:=by simpa using z0
 generalize hC:C0.setIfInBounds 31 (.int .i64 v1)=C1 at Q z1;have b6:=lh hC;have P:=lh Q;have x1:t1.size<=10000:=by rw[<-Z0,ac.o];omega
 clear hC Q;have K:=fun W=>ko t1 s1.2 8 W x1 (by decide)
 rw[show (Z5 t1,s1.2)=s1 by rw[ac.o],a3] at K;simp only[show (((8:Nat):Int))=(8:Int) from rfl] at K
 have T:=lh K;clear K;have Z:=P.o.r1;obtain⟨y1,b4⟩:∃ y,C1[28]?=Z9 y:=⟨_,Zv (by omega)⟩;go_upto_region 31 with (go_at_call 334;(with_reducible refine (T.o _).mono ?_);rintro _ w3 ⟨u2,t2,rfl,hu,R,U⟩;have q:=P.o.below U;have p:=lh q;have ad:=lh R;have bb:=lh hu;have cc:=ae q.r0 28 _ b4;have ff:=q.h0.2.2;have q1:=fun v=>bG q.h1 w.heap.size 28 v;clear q U R hu)
 have Q:=p.o.step 28 (.string u2) t2 s2.2;generalize X:YC (Yx _ _ _) _ _=W2 at Q |-;clear X cc ff q1 Z T P p;have z2:(C1.setIfInBounds 28 (.string u2)).size=33:=by simpa using z1
 generalize hC:C1.setIfInBounds 28 (.string u2)=C2 at Q z2;have b7:=lh hC;have P:=lh Q;have x2:t2.size<=10000:=by rw[<-Z0,ad.o];omega
 clear hC Q
 have hF:C2=eF.vals (.slice Z7 0 0) (.slice Z7 0 0):=by
  rw[<-b9.o,<-b7.o,<-b6.o,<-b5.o];rw[show u2=⟨v2.toArray⟩ from XV (bb.o.trans (Xj _).symm)];unfold zlit En.vals Zh En.zero;simp only[Zw,Y9,Za]
 rw[hF] at P;clear hF;have K:=fun W=>pe t2 s2.2 8 W x2 (by decide)
 rw[show (Z5 t2,s2.2)=s2 by rw[ad.o],a0] at K;simp only[show (((8:Nat):Int))=(8:Int) from rfl] at K
 have T:=lh K;clear K;have Z:=P.o.r1;go_upto_region 32 with (go_at_call 335;(with_reducible refine (T.o _).mono ?_);rintro _ w4 ⟨t3,rfl,R,U⟩;have q:=P.o.below U;have p:=lh q;have af:=lh R;have q1:=q.h1;clear q U R)
 have Q:=p.o.read t3 Y.2;generalize X:YC _ _ _=W3 at Q |-;clear X Z q1 T P p;have P:=lh Q;clear Q a2 a3 a0 m0 m1 m2 x0 x1 x2 z0 z1 z2 b3 b4;go_wp2_with fail
 go_loopw [11] (fun i wr=>∃ (k:Nat) (t:Z6) (gr:Z1),k<=v3/\i=.int .i64 k/\FW w wr (eF.vals (.slice Z7 0 0) gr) t (dr Y k).2.2/\Z5 t=(dr Y k).2.1/\wr.ownsRow (w.heap.size+1+1+1+1) 103 3 gr k (gv (dr Y k).1)) (fun i _=>v3 - (intOf i).toNat)
 case atStart=>exact⟨0,t3,.slice Z7 0 0,Nat.zero_le _,rfl,P.o,af.o,World.ownsRow_nil _ _ _ 3⟩
 case round =>
  clear P af;obtain⟨k,t,gr,hk,rfl,hS,R,V⟩:=hrel;have P:=lh hS;have HT:=lh R;have HO:=lh V;have mk:(dr Y k).2.1.length<=1000:=Nat.le_trans (tY Y k) m3;clear hS R V;by_cases bk:k<v3
  .obtain⟨S,ar⟩:∃ S,(dr Y k).2=S:=⟨_,rfl⟩;rw[ar] at P HT mk;obtain⟨gn,g1,a8⟩:∃ (v:Z3 ZP) (s:Z3 ZP × Nat),Rd.txt 8 S=(v,s):=⟨_,_,rfl⟩;have n1:g1.1.length<=1000:=by have:=(Rd.txt_len 8 S).1;rw[a8] at this;simp only at this;omega
   obtain⟨gb,g2,a9⟩:∃ (v:Bool) (s:Z3 ZP × Nat),Rd.boo g1=(v,s):=⟨_,_,rfl⟩;have n2:g2.1.length<=1000:=by have:=Rd.boo_len g1;rw[a9] at this;simp only at this;omega
   obtain⟨gl,g3,b0⟩:∃ (v:Int) (s:Z3 ZP × Nat),rN g2=(v,s):=⟨_,_,rfl⟩;have a5:Hid (dr Y (k+1)=((dr Y k).1++[((⟨gn.toArray⟩:Z6),gb,gl)],g3)):=lh (by rw[dr,ar,AZ S gn g1 gb g2 gl g3 a8 a9 b0]);obtain⟨ga,gc,rfl⟩:=bX HO.o;go_upto_region 36 with fail
   have O:=lh (F4.start P.o HO.o (.string ⟨#[]⟩) (.bool Z2) (.int .i64 0) 103);generalize X:Wc _ _=V0 at O |-;clear X;generalize wr.heap.size=b at O |-;have bi:=O.o.far;have xa:t.size<=10000:=by rw[<-Z0,HT.o];omega
   have K:=fun W=>ko t S.2 8 W xa (by decide)
   rw[show (Z5 t,S.2)=S by rw[HT.o],a8] at K;simp only[show (((8:Nat):Int))=(8:Int) from rfl] at K
   have T:=lh K;clear K;have Z:=O.o.f.r1;go_upto_region 37 with (go_at_call 334;(with_reducible refine (T.o _).mono ?_);rintro _ v0 ⟨ua,ta,rfl,hu,R,U⟩;have q:=O.o.below U;have p:=lh q;have ag:=lh R;have HU:=lh hu;have cc:=ae q.rg 0 _ rfl;have ff:=q.hg.2.2;have q1:=fun v=>bG q.f.h1 b 0 v;clear q U R hu)
   have Q:=p.o.step (e0:=(.string ua)) (e1:=(.bool Z2)) (e2:=(.int .i64 0)) 0 (.string ua) ta g1.2 rfl;generalize X:YC (Yx _ _ _) _ _=V1 at Q |-;clear X cc ff q1 Z T O p;have O:=lh Q;clear Q;have xb:ta.size<=10000:=by rw[<-Z0,ag.o];omega
   have K:=fun W=>mQ ta g1.2 W xb
   rw[show (Z5 ta,g1.2)=g1 by rw[ag.o],a9] at K;simp only at K
   have T:=lh K;clear K;have Z:=O.o.f.r1;go_upto_region 38 with (go_at_call 332;(with_reducible refine (T.o _).mono ?_);rintro _ v1 ⟨tb,rfl,R,U⟩;have q:=O.o.below U;have p:=lh q;have al:=lh R;have cc:=ae q.rg 1 _ rfl;have ff:=q.hg.2.2;have q1:=fun v=>bG q.f.h1 b 1 v;clear q U R)
   have Q:=p.o.step (e0:=(.string ua)) (e1:=(.bool gb)) (e2:=(.int .i64 0)) 1 (.bool gb) tb g2.2 rfl;generalize X:YC (Yx _ _ _) _ _=V2 at Q |-;clear X cc ff q1 Z T O p;have O:=lh Q;clear Q;have xc:tb.size<=10000:=by rw[<-Z0,al.o];omega
   have K:=fun W=>rread tb g2.2 W xc
   rw[show (Z5 tb,g2.2)=g2 by rw[al.o],b0] at K;simp only at K
   have T:=lh K;clear K;have Z:=O.o.f.r1;go_upto_region 39 with (go_at_call 333;(with_reducible refine (T.o _).mono ?_);rintro _ v2 ⟨tc,rfl,R,U⟩;have q:=O.o.below U;have p:=lh q;have ba:=lh R;have cc:=ae q.rg 2 _ rfl;have ff:=q.hg.2.2;have q1:=fun v=>bG q.f.h1 b 2 v;clear q U R)
   have Q:=p.o.step (e0:=(.string ua)) (e1:=(.bool gb)) (e2:=(.int .i64 gl)) 2 (.int .i64 gl) tc g3.2 rfl;generalize X:YC (Yx _ _ _) _ _=V3 at Q |-;clear X cc ff q1 Z T O p;have O:=lh Q;clear Q;have c0:=ae O.o.rg 0 _ rfl;have c1:=ae O.o.rg 1 _ rfl;have c2:=ae O.o.rg 2 _ rfl;have bc:=ae O.o.f.r0 32 _ (cC _ _ _);have ze:=O.o.f.h3.lt
   have ao:∀ (L:ZY),(V3.alloc (.cells #[.string ua,.bool gb,.int .i64 gl] 103)).grownBy L (Value.slice ga k gc).ownBlock->L.cell? ⟨w.heap.size,32,Z7⟩=Z9 (.slice ga k gc)/\∀ o,L.frozen? ⟨w.heap.size,o,Z7⟩=Z2:=fun L hg=>by
    have be:Z9 w.heap.size≠(Value.slice ga k gc).ownBlock:=fun e=>by have:=(ax O.o.own _ e.symm).1;omega
    have hk:=hg.block w.heap.size (by simp;omega) be;rw[nw _ _ _ (by omega)] at hk;exact⟨(World.cell?_of_block (w:=V3) (w':=L) (a:=⟨w.heap.size,32,Z7⟩) hk).trans bc,(O.o.f.h0.of_block hk).2.2⟩
   have aa:=lh ao;clear ao;go_wp2_with (at_builtin;refine dQ _ rfl (.tmp 219) (.tmp 221) 27 103 _ _ 3 32 rfl Tryz.underlying27 nN Hk Hl Hm rfl (by decide) (w.heap.size+1+1+1+1) (.slice ga k gc) (.slice (Z9 ⟨V3.heap.size,0,Z7⟩) 1 1) k 1 (gv (dr Y k).1) (gv [(ua,gb,gl)]) rfl (aV O.o.own (fun x hx=>(Fz V3 _).block x (ax O.o.own x hx).2)) rfl (EY V3 (ua,gb,gl) _ _ rfl) (vv _) (by unfold maxLen;omega) (by omega) (by simp;omega) ?_;intro A c5 L V hg bd;have ND:=lh (O.o.done V hg);have nn:=aa.o _ hg;have nc:=nn.1;have nf:=nn.2;clear nn V hg bd)
   go_roundw
   case rel=>exact⟨k+1,tc,.slice A (k+1) c5,by omega,by go_num,by rw[a5.o];exact ND.o.1,by rw[a5.o];exact ba.o,by rw[a5.o,vu,show (⟨gn.toArray⟩:Z6)=ua from (XV (HU.o.trans (Xj _).symm)).symm];exact ND.o.2⟩
   case measure=>simp [intOf];omega
  .obtain rfl:k=v3:=by omega
   obtain⟨ga,gc,rfl⟩:=bX HO.o;have bg:=ay eF (.slice Z7 0 0) (.slice ga k gc) rfl rfl;have HP:=P.o.pick;go_upto_region 40 with fail
   go_region_held3 (fun w'=>row w' w.heap.size=eF.vals (.slice Z7 0 0) (.slice ga k gc)/\row w' (w.heap.size+1)=#[.string t,.int .i64 (dr Y k).2.2]/\Held w' (w.heap.size+1+1) 33/\Held w' (w.heap.size+1+1+1) 2) (first|assumption|exact HP|exact iQ (by assumption) _ (Or.inl ⟨rfl,ah _ _ _⟩)|exact iQ (by assumption) _ (Or.inr ⟨rfl,rfl⟩)) (fail)
   have FD:=P.o.below (YZ (ZR wr.heap.size wr));have TA:=lh (nC FD);have TB:=lh (nD FD);have av:∀ y,(Value.slice ga k gc).ownBlock=Z9 y->w.heap.size+1+1+1+1<=y:=fun y hy=>(ax HO.o y hy).1
   have a4:=lh av;clear av
   all_goals
    go_wp2_with fail
    first
    | (refine ZA (ie (n:=32) (n':=1) rfl Tryz.underlying29 rfl (by kernel_rfl) Tryz.underlying326 rfl (by kernel_rfl) _ _ (w.heap.size+1+1) (w.heap.size+1+1+1) rfl rfl (by rw[TA.o.1];exact ah _ _ _) (by rw[TA.o.2.1];rfl)) rfl ?_
       rw[TA.o.1,TA.o.2.1];refine⟨_,t,rfl,?_,HT.o,TA.o.2.2,fun y hy=>by have:=a4.o y hy;omega⟩)
    | (refine ZA (ie (n:=32) (n':=1) rfl Tryz.underlying29 rfl (by kernel_rfl) Tryz.underlying326 rfl (by kernel_rfl) _ _ (w.heap.size+1+1) (w.heap.size+1+1+1) rfl rfl (by rw[TB.o.1];exact ah _ _ _) (by rw[TB.o.2.1];rfl)) rfl ?_
       rw[TB.o.1,TB.o.2.1];refine⟨_,t,rfl,?_,HT.o,TB.o.2.2,fun y hy=>by have:=a4.o y hy;omega⟩)
    refine yn (by rw[pJ];omega) ?_
    rw[pJ];exact dU (aV HO.o (fun y hy=>by have:=a4.o y hy;rw[cP _ _ _ _ (by omega),cP _ _ _ _ (by omega)];rfl))
end
section
set_option linter.unusedSimpArgs false
structure F0 (w wr:ZY) (b:Nat) (cs ds:Zz Z1) (t:Z6) (x:Nat):Prop where
 r0:row wr w.heap.size=cs
 rb:row wr b=#[.string t,.int .i64 x]
 rd:row wr (b+1)=ds
 h0:Held wr w.heap.size 33
 hb:Held wr b 2
 hd:Held wr (b+1) 21
 h2:Held wr (w.heap.size+1+1) 33
 h3:Held wr (w.heap.size+1+1+1) 2
 bel:Z4 w.heap.size w wr
 far:w.heap.size+1+1+1<b
theorem F0.below(h:F0 w wr b cs ds t x)(e:Z4 wr.heap.size wr d):F0 w d b cs ds t x :=
 ⟨am e h.r0 (by rw[<-h.r0,h.h0.1];decide),am e h.rb (WM 1),am e h.rd (by rw[<-h.rd,h.hd.1];decide),h.h0.below e,h.hb.below e,h.hd.below e,h.h2.below e,h.h3.below e,bt h.bel e,h.far⟩
theorem F0.step(h:F0 w d b cs ds t x)(i:Nat)(v:Z1)(T:Z6)(X:Nat):F0 w ((d.setCell ⟨b+1,i,Z7⟩ v).setRow b #[.string T,.int .i64 X]) b cs (ds.setIfInBounds i v) T X:=by
 have k:=h.far;have K:=bG h.hb (b+1) i v;refine⟨?_,au K _,?_,(bG h.h0 _ _ _).set _ (fun e=>absurd e (by omega)),K.set _ (fun _=>rfl),(bG h.hd _ _ _).set _ (fun e=>absurd e (by omega)),(bG h.h2 _ _ _).set _ (fun e=>absurd e (by omega)),(bG h.h3 _ _ _).set _ (fun e=>absurd e (by omega)),Zy (XB h.bel (by show w.heap.size<=b+1;omega) _) (by omega) _,k⟩
 .rw[cT _ _ _ _ (by omega),kO _ _ _ _ _ (by omega),h.r0]
 .rw[cT _ _ _ _ (by omega),jU h.hd,h.rd]
theorem F0.stepE(h:F0 w d b cs ds t x)(i:Nat)(v:Z1)(T:Z6)(X:Nat):F0 w ((d.setCell ⟨w.heap.size,i,Z7⟩ v).setRow b #[.string T,.int .i64 X]) b (cs.setIfInBounds i v) ds T X:=by
 have k:=h.far;have K:=bG h.hb w.heap.size i v;refine⟨?_,au K _,?_,(bG h.h0 _ _ _).set _ (fun e=>absurd e (by omega)),K.set _ (fun _=>rfl),(bG h.hd _ _ _).set _ (fun e=>absurd e (by omega)),(bG h.h2 _ _ _).set _ (fun e=>absurd e (by omega)),(bG h.h3 _ _ _).set _ (fun e=>absurd e (by omega)),Zy (XB h.bel (ZV _) _) (by omega) _,k⟩
 .rw[cT _ _ _ _ (by omega),jU h.h0,h.r0]
 .rw[cT _ _ _ _ (by omega),kO _ _ _ _ _ (by omega),h.rd]
theorem F0.read(h:F0 w d b cs ds t x)(T:Z6)(X:Nat):F0 w (d.setRow b #[.string T,.int .i64 X]) b cs ds T X:=by
 have k:=h.far;exact⟨by rw[cT _ _ _ _ (by omega)];exact h.r0,au h.hb _,by rw[cT _ _ _ _ (by omega)];exact h.rd,h.h0.set _ (fun e=>absurd e (by omega)),h.hb.set _ (fun _=>rfl),h.hd.set _ (fun e=>absurd e (by omega)),h.h2.set _ (fun e=>absurd e (by omega)),h.h3.set _ (fun e=>absurd e (by omega)),Zy h.bel (by omega) _,k⟩
theorem F0.desc(h:F0 w d b cs ds t x)(o:cs.size=33):F0 w (d.setRow w.heap.size (over (row d w.heap.size) 2 ds.toList)) b (over cs 2 ds.toList) ds t x:=by
 have k:=h.far;rw[h.r0];exact⟨au h.h0 _,by rw[cT _ _ _ _ (by omega)];exact h.rb,by rw[cT _ _ _ _ (by omega)];exact h.rd,h.h0.set _ (fun _=>by rw[jW];exact o),h.hb.set _ (fun e=>absurd e (by omega)),h.hd.set _ (fun e=>absurd e (by omega)),h.h2.set _ (fun e=>absurd e (by omega)),h.h3.set _ (fun e=>absurd e (by omega)),Zy h.bel (ZV _) _,k⟩
theorem F0.start{l:Z6}(h:FW w d cs l x)(e:Z6)(X:Nat)(ds:Zz Z1)(T p:TypeId)(s:ds.size=21):F0 w ((d.alloc (.cells #[.string e,.int .i64 X] T)).alloc (.cells ds p)) d.heap.size cs ds e X:=by
 have q:∀ (W:ZY) o,Z4 W.heap.size W (W.alloc o):=fun W o=>(ZR _ _).alloc (ZV _) o
 have v:=Held.new d #[.string e,.int .i64 X] T 2 rfl (by decide);have Q:=Held.new (d.alloc (.cells #[.string e,.int .i64 X] T)) ds p 21 s (by decide);have r:=ak (d.alloc (.cells #[.string e,.int .i64 X] T)) ds p (0,0);have S:(d.alloc (.cells #[.string e,.int .i64 X] T)).heap.size=d.heap.size+1:=by simp
 rw[S] at Q r;have g:=(h.below (q d (.cells #[.string e,.int .i64 X] T))).below (q _ (.cells ds p));exact⟨g.r0,am (q _ _) (ak d _ T (0,0)) (WM 1),r,g.h0,v.below (q _ _),Q,g.h2,g.h3,g.bel,h.h3.lt⟩
theorem F0.pick(h:F0 w wr b cs ds t x):row wr w.heap.size=cs/\row wr b=#[.string t,.int .i64 x]/\Held wr (w.heap.size+1+1) 33/\Held wr (w.heap.size+1+1+1) 2:=⟨h.r0,h.rb,h.h2,h.h3⟩
theorem uE{g0 i:Nat}{v:Z1}{l:Z3 Int}(h:IS W N l)(B:Nat)(o:∀ x,N.ownBlock=Z9 x->B<=x)(e:g0<B)(p:b<B):IS ((W.setCell ⟨g0,i,Z7⟩ v).setRow b c) N l :=
 h.keep B o (by simp) (fun k q _=>by rw[cP _ _ _ _ (by omega),ic (a:=⟨g0,i,Z7⟩) (by show k≠g0;omega)])
theorem vA{p q:Nat}{l:Z3 Int}(h:IS W N l)(B:Nat)(o:∀ x,N.ownBlock=Z9 x->B<=x)(e:p<B)(r:q<B):IS ((W.drew.setRow p c).setRow q c') N l :=
 h.keep B o (by simp) (fun k s _=>by rw[cP _ _ _ _ (by omega),cP _ _ _ _ (by omega)];rfl)
theorem su(r:g+1+1+1<b)(h:row W g=cs/\row W b=rd/\Held W (g+1+1) 33/\Held W (g+1+1+1) 2)(c:Zz Z1)(p:k=g+1+1/\c.size=33\/k=g+1+1+1/\c.size=2) :
 row (W.setRow k c) g=cs/\row (W.setRow k c) b=rd/\Held (W.setRow k c) (g+1+1) 33/\Held (W.setRow k c) (g+1+1+1) 2:=by
 refine⟨by rw[cT _ _ _ _ (by omega)];exact h.1,by rw[cT _ _ _ _ (by omega)];exact h.2.1,h.2.2.1.set c (fun e=>?_),h.2.2.2.set c (fun e=>?_)⟩
 .rcases p with ⟨_,o⟩|⟨q,_⟩
  .exact o
  .omega
 .rcases p with ⟨q,_⟩|⟨_,o⟩
  .omega
  .exact o
theorem Gw(h:F0 w wr b cs ds t x) :
 row ((wr.setRow (w.heap.size+1+1) cs).setRow (w.heap.size+1+1+1) #[.string t,.int .i64 x]) (w.heap.size+1+1)=cs/\row ((wr.setRow (w.heap.size+1+1) cs).setRow (w.heap.size+1+1+1) #[.string t,.int .i64 x]) (w.heap.size+1+1+1)=#[.string t,.int .i64 x]/\Z4 w.heap.size w ((wr.setRow (w.heap.size+1+1) cs).setRow (w.heap.size+1+1+1) #[.string t,.int .i64 x]):=by
 have k:=h.h3.set (g':=w.heap.size+1+1) cs (fun e=>absurd e (by omega));exact⟨by rw[cT _ _ _ _ (by omega),au h.h2],au k _,Zy (Zy h.bel (by omega) _) (by omega) _⟩
theorem Gx(h:F0 w wr b cs ds t x) :
 row ((wr.setRow (w.heap.size+1+1+1) #[.string t,.int .i64 x]).setRow (w.heap.size+1+1) cs) (w.heap.size+1+1)=cs/\row ((wr.setRow (w.heap.size+1+1+1) #[.string t,.int .i64 x]).setRow (w.heap.size+1+1) cs) (w.heap.size+1+1+1)=#[.string t,.int .i64 x]/\Z4 w.heap.size w ((wr.setRow (w.heap.size+1+1+1) #[.string t,.int .i64 x]).setRow (w.heap.size+1+1) cs):=by
 have k:=h.h2.set (g':=w.heap.size+1+1+1) #[.string t,.int .i64 x] (fun e=>absurd e (by omega));exact⟨au k _,by rw[cT _ _ _ _ (by omega),au h.h3],Zy (Zy h.bel (by omega) _) (by omega) _⟩
theorem list14:∀ l:Z3 Int,l.length=14->∃ I C F E B A G J H D u m z j,l=[I,C,F,E,B,A,G,J,H,D,u,m,z,j]
 | [I,C,F,E,B,A,G,J,H,D,u,m,z,j],_=>⟨I,C,F,E,B,A,G,J,H,D,u,m,z,j,rfl⟩
def G14(W:ZY)(f a:Nat)(I C F E B A G J H D u m z j:Int):Prop:=W.cell? ⟨f,a+0,Z7⟩=Z9 (.int .i64 I)/\W.cell? ⟨f,a+1,Z7⟩=Z9 (.int .i64 C)/\W.cell? ⟨f,a+2,Z7⟩=Z9 (.int .i64 F)/\W.cell? ⟨f,a+3,Z7⟩=Z9 (.int .i64 E)/\W.cell? ⟨f,a+4,Z7⟩=Z9 (.int .i64 B)/\W.cell? ⟨f,a+5,Z7⟩=Z9 (.int .i64 A)/\W.cell? ⟨f,a+6,Z7⟩=Z9 (.int .i64 G)/\W.cell? ⟨f,a+7,Z7⟩=Z9 (.int .i64 J)/\W.cell? ⟨f,a+8,Z7⟩=Z9 (.int .i64 H)/\W.cell? ⟨f,a+9,Z7⟩=Z9 (.int .i64 D)/\W.cell? ⟨f,a+10,Z7⟩=Z9 (.int .i64 u)/\W.cell? ⟨f,a+11,Z7⟩=Z9 (.int .i64 m)/\W.cell? ⟨f,a+12,Z7⟩=Z9 (.int .i64 z)/\W.cell? ⟨f,a+13,Z7⟩=Z9 (.int .i64 j)
theorem G14.below(e:Z4 W.heap.size W W')(h:G14 W f a I C F E B A G J H D u m z j):G14 W' f a I C F E B A G J H D u m z j:=⟨ai e h.1,ai e h.2.1,ai e h.2.2.1,ai e h.2.2.2.1,ai e h.2.2.2.2.1,ai e h.2.2.2.2.2.1,ai e h.2.2.2.2.2.2.1,ai e h.2.2.2.2.2.2.2.1,ai e h.2.2.2.2.2.2.2.2.1,ai e h.2.2.2.2.2.2.2.2.2.1,ai e h.2.2.2.2.2.2.2.2.2.2.1,ai e h.2.2.2.2.2.2.2.2.2.2.2.1,ai e h.2.2.2.2.2.2.2.2.2.2.2.2.1,ai e h.2.2.2.2.2.2.2.2.2.2.2.2.2⟩
theorem F0.setD(h:F0 w wr b cs ds t x)(o:Zz Z1)(p:o.size=21):F0 w (wr.setRow (b+1) o) b cs o t x:=by
 have k:=h.far;exact⟨by rw[cT _ _ _ _ (by omega)];exact h.r0,by rw[cT _ _ _ _ (by omega)];exact h.rb,au h.hd _,h.h0.set _ (fun e=>absurd e (by omega)),h.hb.set _ (fun e=>absurd e (by omega)),h.hd.set _ (fun _=>p),h.h2.set _ (fun e=>absurd e (by omega)),h.h3.set _ (fun e=>absurd e (by omega)),Zy h.bel (by omega) _,k⟩
theorem wF(e:Operand->Z1)(w:ZY)(dst x y t' pos af gd)(o:db (e x)=true)(p:Held w (bF (e x)) 21)(q:cV (e y)=true)(r:(bA (e y)).size=21)(s:bh (bA (e y)).toList=true) :
 (execOp e ⟨dst,.store 25 x y,t',pos,af,gd⟩).run Tryz.prog w=.ok .skip (w.setRow (bF (e x)) (bA (e y))) :=
 kN e w _ 20 (by kernel_rfl) dst x y t' pos af gd o p q r s
theorem S14.of(r:Z4 W.heap.size W w')(h:G14 W f a I C F E B A G J H D u m z j):w'.cell? ⟨f,a,Z7⟩=Z9 (.int .i64 I)/\w'.cell? ⟨f,a+1,Z7⟩=Z9 (.int .i64 C)/\w'.cell? ⟨f,a+2,Z7⟩=Z9 (.int .i64 F)/\w'.cell? ⟨f,a+3,Z7⟩=Z9 (.int .i64 E)/\w'.cell? ⟨f,a+4,Z7⟩=Z9 (.int .i64 B)/\w'.cell? ⟨f,a+5,Z7⟩=Z9 (.int .i64 A)/\w'.cell? ⟨f,a+6,Z7⟩=Z9 (.int .i64 G)/\w'.cell? ⟨f,a+7,Z7⟩=Z9 (.int .i64 J)/\w'.cell? ⟨f,a+8,Z7⟩=Z9 (.int .i64 H)/\w'.cell? ⟨f,a+9,Z7⟩=Z9 (.int .i64 D)/\w'.cell? ⟨f,a+10,Z7⟩=Z9 (.int .i64 u)/\w'.cell? ⟨f,a+11,Z7⟩=Z9 (.int .i64 m)/\w'.cell? ⟨f,a+12,Z7⟩=Z9 (.int .i64 z)/\w'.cell? ⟨f,a+13,Z7⟩=Z9 (.int .i64 j)/\Z4 W.heap.size W w':=by
 obtain⟨s,v,y,K,O,P,Q,R,S,T,e,o,p,q⟩:=G14.below r h;exact⟨s,v,y,K,O,P,Q,R,S,T,e,o,p,q,r⟩
attribute [local go_sem ↓] aZ bf bq jM jR fe qh wF qz
attribute [local go_sem] bn aS fx aH aK aT az aM ah bW aQ aL aP aO aR aY aW
-- PRINTED BY mkrg0.py
theorem rfields0(w:ZY)(hl:l.size<=1000) :
 Calls Tryz.prog 311 #[.agg (zlit 0 h),.agg #[.string l,.int .i64 0]] w fun r w'=>∃ (N:Z1) (t:Z6),r=.returned (.tuple #[.agg ((ew (Zh 0 h) (Z5 l,0)).1.vals N (.slice Z7 0 0)),.agg #[.string t,.int .i64 (ew (Zh 0 h) (Z5 l,0)).2.2.2]])/\IS w' N (ew (Zh 0 h) (Z5 l,0)).2.1/\Z5 t=(ew (Zh 0 h) (Z5 l,0)).2.2.1/\Z4 w.heap.size w w'/\(∀ y,N.ownBlock=Z9 y->w.heap.size<=y):=by
 obtain⟨s0,a5⟩:∃ s0:Z3 ZP × Nat,s0=(Z5 l,0):=⟨_,rfl⟩;have m0:s0.1.length<=1000:=by rw[a5];simp only[Z0];exact hl
 obtain⟨ns,s1,a7⟩:∃ (v:Z3 Int) (s:Z3 ZP × Nat),rL s0 14=(v,s):=⟨_,_,rfl⟩;have m1:s1.1.length<=1000:=by have:=mO s0 14;rw[a7] at this;simp only at this;omega
 have ao:ns.length=14:=by have:=qG s0 14;rw[a7] at this;exact this
 obtain⟨v2,s2,b1⟩:∃ (v:Bool) (s:Z3 ZP × Nat),Rd.boo s1=(v,s):=⟨_,_,rfl⟩;have m2:s2.1.length<=1000:=by have:=Rd.boo_len s1;rw[b1] at this;simp only at this;omega
 obtain⟨v3,s3,b2⟩:∃ (v:Int) (s:Z3 ZP × Nat),rN s2=(v,s):=⟨_,_,rfl⟩;have m3:s3.1.length<=1000:=by have:=il s2;rw[b2] at this;simp only at this;omega
 obtain⟨v4,s4,b3⟩:∃ (v:Z3 ZP) (s:Z3 ZP × Nat),Rd.txt 8 s3=(v,s):=⟨_,_,rfl⟩;have m4:s4.1.length<=1000:=by have:=(Rd.txt_len 8 s3).1;rw[b3] at this;simp only at this;omega
 obtain⟨v5,s5,b4⟩:∃ (v:Z3 ZP) (s:Z3 ZP × Nat),Rd.txt 8 s4=(v,s):=⟨_,_,rfl⟩;have m5:s5.1.length<=1000:=by have:=(Rd.txt_len 8 s4).1;rw[b4] at this;simp only at this;omega
 obtain⟨v6,s6,b5⟩:∃ (v:Int) (s:Z3 ZP × Nat),rN s5=(v,s):=⟨_,_,rfl⟩;have m6:s6.1.length<=1000:=by have:=il s5;rw[b5] at this;simp only at this;omega
 obtain⟨v7,s7,b6⟩:∃ (v:Int) (s:Z3 ZP × Nat),rN s6=(v,s):=⟨_,_,rfl⟩;have m7:s7.1.length<=1000:=by have:=il s6;rw[b6] at this;simp only at this;omega
 obtain⟨v8,s8,b7⟩:∃ (v:Bool) (s:Z3 ZP × Nat),Rd.boo s7=(v,s):=⟨_,_,rfl⟩;have m8:s8.1.length<=1000:=by have:=Rd.boo_len s7;rw[b7] at this;simp only at this;omega
 obtain⟨v9,s9,a8⟩:∃ (v:Nat) (s:Z3 ZP × Nat),Rd.cnt 4 s8=(v,s):=⟨_,_,rfl⟩;have m9:s9.1.length<=1000:=by have:=Rd.cnt_len 4 s8;rw[a8] at this;simp only at this;omega
 have gc:v9<=4:=by have:=Rd.cnt_le 4 s8;rw[a8] at this;exact this
 obtain⟨ls,a0,a3⟩:∃ (v:Z3 Int) (s:Z3 ZP × Nat),rL s9 v9=(v,s):=⟨_,_,rfl⟩;have gd:a0.1.length<=1000:=by have:=mO s9 v9;rw[a3] at this;simp only at this;omega
 obtain⟨a9,a1,a4⟩:∃ (v:Int) (s:Z3 ZP × Nat),rN a0=(v,s):=⟨_,_,rfl⟩;have gf:a1.1.length<=1000:=by have:=il a0;rw[a4] at this;simp only at this;omega
 obtain⟨I,C,F,E,B,A,G,J,H,D,u,m,z,j,rfl⟩:=list14 ns ao;clear ao;obtain⟨eF,b0⟩:∃ eF:En,({ Zh 0 h with d0:=I,d1:=C,d2:=F,d3:=E,d4:=B,d5:=A,d6:=G,d7:=J,d8:=H,d9:=D,d10:=u,d11:=m,d12:=z,d13:=j,uq:=v2,cls:=v3,vol:=⟨v4.toArray⟩,own:=⟨v5.toArray⟩,cr:=v6,ex:=v7,ar:=v8,used:=a9 }:En)=eF:=⟨_,rfl⟩
 have c6:ew (Zh 0 h) (Z5 l,0)=(eF,ls,a1):=by
  rw[<-a5,<-b0];unfold ew;simp only[a7,b1,b2,b3,b4,b5,b6,b7,a8,a3,a4]
  rfl
 rw[c6];have b9:=lh b0;clear c6 b0;have hS:=FW.start w (zlit 0 h) (zlit 0 ⟨#[]⟩) l s0.2 29 326 29 326 rfl rfl;have e0:s0.2=0:=by rw[a5]
 have c7:Z5 l=s0.1:=by rw[a5]
 have x0:l.size<=10000:=by omega
 have Q:=fun W=>rlist l s0.2 14 W x0 (by decide)
 rw[show (Z5 l,s0.2)=s0 by rw[c7],a7] at Q;simp only[show (((14:Nat):Int))=(14:Int) from rfl] at Q
 rw[e0] at hS Q;clear e0 c7 a5 hl;unfold zlit at hS;simp only[show (((0:Nat):Int))=(0:Int) from rfl] at hS Q
 have HS:=lh hS;have V:=lh Q;clear hS Q;unfold zlit;go_enter Tryz.func311,Tryz.ntmps311
 go_upto_region 1 with fail
 generalize Z:((((w.alloc _).alloc _).alloc _).alloc _)=W0 at HS |-;clear Z;have HS:Hid (FW w W0 (zlit 0 h) l 0):=HS;have r0:=HS.o.r0;have r1:=HS.o.r1;simp only[show (((0:Nat):Int))=(0:Int) from rfl] at r1
 have n0:=ae r0 0 (.int .i64 0) rfl;go_upto_region 4 with (go_at_call 331;(with_reducible refine (V.o _).mono ?_);rintro _ d ⟨v,t1,rfl,hI,X,U,ho⟩;have P:=HS.o.below U;have o:=lh P;have be:=lh X;have HI:=lh hI;clear P U X ho hI)
 clear r0 r1 n0 HS V;have hI:=HI.o;obtain⟨av,cv,rfl,-,hc⟩:=hI;obtain⟨f,a,rfl,e5,O⟩:=hc (Zj rfl);have g0:d.cell? ⟨f,a+0,Z7⟩=Z9 (.int .i64 I):=O 0 (Zj rfl);have g1:d.cell? ⟨f,a+1,Z7⟩=Z9 (.int .i64 C):=O 1 (Zj rfl);have g2:d.cell? ⟨f,a+2,Z7⟩=Z9 (.int .i64 F):=O 2 (Zj rfl);have g3:d.cell? ⟨f,a+3,Z7⟩=Z9 (.int .i64 E):=O 3 (Zj rfl);have g4:d.cell? ⟨f,a+4,Z7⟩=Z9 (.int .i64 B):=O 4 (Zj rfl);have g5:d.cell? ⟨f,a+5,Z7⟩=Z9 (.int .i64 A):=O 5 (Zj rfl);have g6:d.cell? ⟨f,a+6,Z7⟩=Z9 (.int .i64 G):=O 6 (Zj rfl);have g7:d.cell? ⟨f,a+7,Z7⟩=Z9 (.int .i64 J):=O 7 (Zj rfl);have g8:d.cell? ⟨f,a+8,Z7⟩=Z9 (.int .i64 H):=O 8 (Zj rfl);have g9:d.cell? ⟨f,a+9,Z7⟩=Z9 (.int .i64 D):=O 9 (Zj rfl);have c1:d.cell? ⟨f,a+10,Z7⟩=Z9 (.int .i64 u):=O 10 (Zj rfl);have c2:d.cell? ⟨f,a+11,Z7⟩=Z9 (.int .i64 m):=O 11 (Zj rfl);have c3:d.cell? ⟨f,a+12,Z7⟩=Z9 (.int .i64 z):=O 12 (Zj rfl);have c4:d.cell? ⟨f,a+13,Z7⟩=Z9 (.int .i64 j):=O 13 (Zj rfl);clear O HI hc;have e4:w.heap.size+1+1+1<d.heap.size:=o.o.h3.lt;have G0:G14 d f a I C F E B A G J H D u m z j:=⟨g0,g1,g2,g3,g4,g5,g6,g7,g8,g9,c1,c2,c3,c4⟩;have BB:Z4 (d.alloc (.cells #[.string t1,.int .i64 s1.2] 326)).heap.size (d.alloc (.cells #[.string t1,.int .i64 s1.2] 326)) (d.alloc (.cells #[.string t1,.int .i64 s1.2] 326)).drew:=YZ (ZR _ _);have G1:=G14.below ((ZR d.heap.size d).alloc (ZV _) (.cells #[.string t1,.int .i64 s1.2] 326)) G0;have S4:=S14.of BB G1;clear g0 g1 g2 g3 g4 g5 g6 g7 g8 g9 c1 c2 c3 c4;refine wp_region_held_drew (S:=fun w'=>w'.cell? ⟨f,a,Z7⟩=Z9 (.int .i64 I)/\w'.cell? ⟨f,a+1,Z7⟩=Z9 (.int .i64 C)/\w'.cell? ⟨f,a+2,Z7⟩=Z9 (.int .i64 F)/\w'.cell? ⟨f,a+3,Z7⟩=Z9 (.int .i64 E)/\w'.cell? ⟨f,a+4,Z7⟩=Z9 (.int .i64 B)/\w'.cell? ⟨f,a+5,Z7⟩=Z9 (.int .i64 A)/\w'.cell? ⟨f,a+6,Z7⟩=Z9 (.int .i64 G)/\w'.cell? ⟨f,a+7,Z7⟩=Z9 (.int .i64 J)/\w'.cell? ⟨f,a+8,Z7⟩=Z9 (.int .i64 H)/\w'.cell? ⟨f,a+9,Z7⟩=Z9 (.int .i64 D)/\w'.cell? ⟨f,a+10,Z7⟩=Z9 (.int .i64 u)/\w'.cell? ⟨f,a+11,Z7⟩=Z9 (.int .i64 m)/\w'.cell? ⟨f,a+12,Z7⟩=Z9 (.int .i64 z)/\w'.cell? ⟨f,a+13,Z7⟩=Z9 (.int .i64 j)/\Z4 (d.alloc (.cells #[.string t1,.int .i64 s1.2] 326)).heap.size (d.alloc (.cells #[.string t1,.int .i64 s1.2] 326)) w') (by kernel_rfl) ?_ (fun hHeld=>?_)
 .exact S4
 (refine rgy (i:=0) (Z9 22) ?_;(try simp only[ZG,pz]))
 (refine rgy (i:=1) (Z9 23) ?_;(try simp only[ZG,pz]))
 (refine rgy (i:=2) (Z9 24) ?_;(try simp only[ZG,pz]))
 (refine rgy (i:=3) (Z9 25) ?_;(try simp only[ZG,pz]))
 (refine rgy (i:=4) (Z9 26) ?_;(try simp only[ZG,pz]))
 (refine rgy (i:=5) (Z9 27) ?_;(try simp only[ZG,pz]))
 (refine rgy (i:=6) (Z9 28) ?_;(try simp only[ZG,pz]))
 (refine rgy (i:=7) (Z9 29) ?_;(try simp only[ZG,pz]))
 (refine rgy (i:=8) (Z9 30) ?_;(try simp only[ZG,pz]))
 (refine rgy (i:=9) (Z9 31) ?_;(try simp only[ZG,pz]))
 (refine rgy (i:=10) (Z9 32) ?_;(try simp only[ZG,pz]))
 (refine rgy (i:=11) (Z9 33) ?_;(try simp only[ZG,pz]))
 (refine rgy (i:=12) (Z9 34) ?_;(try simp only[ZG,pz]))
 (refine rgy (i:=13) (Z9 35) ?_;(try simp only[ZG,pz]))
 (refine rgy (i:=14) (Z9 36) ?_;(try simp only[ZG,pz]))
 (refine rgy (i:=15) (Z9 37) ?_;(try simp only[ZG,pz]))
 (refine rgy (i:=16) (Z9 38) ?_;(try simp only[ZG,pz]))
 (refine rgy (i:=17) (Z9 39) ?_;(try simp only[ZG,pz]))
 (refine rgy (i:=18) (Z9 40) ?_;(try simp only[ZG,pz]))
 (refine rgy (i:=19) (Z9 41) ?_;(try simp only[ZG,pz]))
 (refine rgy (i:=20) (Z9 42) ?_;(try simp only[ZG,pz]))
 (refine rgy (i:=21) (Z9 43) ?_;(try simp only[ZG,pz]))
 (refine rgy (i:=22) (Z9 44) ?_;(try simp only[ZG,pz]))
 (refine rgy (i:=23) (Z9 45) ?_;(try simp only[ZG,pz]))
 (refine rgy (i:=24) (Z9 46) ?_;(try simp only[ZG,pz]))
 (refine rgy (i:=25) (Z9 47) ?_;(try simp only[ZG,pz]))
 (refine rgy (i:=26) (Z9 48) ?_;(try simp only[ZG,pz]))
 (refine rgy (i:=27) (Z9 49) ?_;(try simp only[ZG,pz]))
 (refine rgy (i:=28) (Z9 50) ?_;(try simp only[ZG,pz]))
 (refine rgy (i:=29) (Z9 51) ?_;(try simp only[ZG,pz]))
 (refine rgy (i:=30) (Z9 52) ?_;(try simp only[ZG,pz]))
 (refine rgy (i:=31) (Z9 53) ?_;(try simp only[ZG,pz]))
 (refine rgy (i:=32) (Z9 54) ?_;(try simp only[ZG,pz]))
 (refine rgy (i:=33) (Z9 55) ?_;(try simp only[ZG,pz]))
 (refine rgy (i:=34) (Z9 56) ?_;(try simp only[ZG,pz]))
 (refine rgy (i:=35) (Z9 57) ?_;(try simp only[ZG,pz]))
 (refine rgy (i:=36) (Z9 58) ?_;(try simp only[ZG,pz]))
 (refine rgy (i:=37) (Z9 59) ?_;(try simp only[ZG,pz]))
 (refine rgy (i:=38) (Z9 60) ?_;(try simp only[ZG,pz]))
 (refine rgy (i:=39) (Z9 61) ?_;(try simp only[ZG,pz]))
 (refine rgy (i:=40) (Z9 62) ?_;(try simp only[ZG,pz]))
 (refine rgy (i:=41) (Z9 63) ?_;(try simp only[ZG,pz]))
 (refine rgy (i:=42) (Z9 64) ?_;(try simp only[ZG,pz]))
 refine rgb (i:=43) (by kernel_rfl) rfl (fun K hK=>?_)
 go_simp
 have HZ:=(F0.start o.o t1 s1.2 (#[.int .i64 0,.int .i64 0,.int .i64 0,.int .i64 0,.int .i64 0,.int .i64 0,.int .i64 0,.int .i64 0,.int .i64 0,.int .i64 0,.int .i64 0,.int .i64 0,.int .i64 0,.int .i64 0,.bool Z2,.int .i64 0,.string ⟨#[]⟩,.string ⟨#[]⟩,.int .i64 0,.int .i64 0,.bool Z2]) 326 25 rfl).below (YZ (ZR _ _));have BZ:Z4 (d.alloc (.cells #[.string t1,.int .i64 s1.2] 326)).heap.size (d.alloc (.cells #[.string t1,.int .i64 s1.2] 326)) ((d.alloc (.cells #[.string t1,.int .i64 s1.2] 326)).alloc (.cells (#[.int .i64 0,.int .i64 0,.int .i64 0,.int .i64 0,.int .i64 0,.int .i64 0,.int .i64 0,.int .i64 0,.int .i64 0,.int .i64 0,.int .i64 0,.int .i64 0,.int .i64 0,.int .i64 0,.bool Z2,.int .i64 0,.string ⟨#[]⟩,.string ⟨#[]⟩,.int .i64 0,.int .i64 0,.bool Z2]) 25)).drew:=YZ ((ZR _ _).alloc (ZV _) _);refine hK.out _ _ (S14.of BZ G1) (fun hHeld=>?_)
 (clear hK K;(try simp only[ZG,pz]))
 generalize Z:World.drew (Wc (Wc d _) _)=W3 at HZ BZ hHeld |-;clear Z;have ag:bh (#[.int .i64 I,.int .i64 C,.int .i64 F,.int .i64 E,.int .i64 B,.int .i64 A,.int .i64 G,.int .i64 J,.int .i64 H,.int .i64 D,.int .i64 u,.int .i64 m,.int .i64 z,.int .i64 j,.bool Z2,.int .i64 0,.string ⟨#[]⟩,.string ⟨#[]⟩,.int .i64 0,.int .i64 0,.bool Z2]:Zz Z1).toList=true:=by simp [aL,aQ,aP,aR,aO]
 have al:=HZ.hd;have b8:Z4 (d.alloc (.cells #[.string t1,.int .i64 s1.2] 326)).heap.size (d.alloc (.cells #[.string t1,.int .i64 s1.2] 326)) (W3.setRow (d.heap.size+1) (#[.int .i64 I,.int .i64 C,.int .i64 F,.int .i64 E,.int .i64 B,.int .i64 A,.int .i64 G,.int .i64 J,.int .i64 H,.int .i64 D,.int .i64 u,.int .i64 m,.int .i64 z,.int .i64 j,.bool Z2,.int .i64 0,.string ⟨#[]⟩,.string ⟨#[]⟩,.int .i64 0,.int .i64 0,.bool Z2])):=Zy BZ (by simp) _;refine lS (i:=44) Z7 (W3.setRow (d.heap.size+1) (#[.int .i64 I,.int .i64 C,.int .i64 F,.int .i64 E,.int .i64 B,.int .i64 A,.int .i64 G,.int .i64 J,.int .i64 H,.int .i64 D,.int .i64 u,.int .i64 m,.int .i64 z,.int .i64 j,.bool Z2,.int .i64 0,.string ⟨#[]⟩,.string ⟨#[]⟩,.int .i64 0,.int .i64 0,.bool Z2])) rfl rfl (by kernel_rfl) (by kernel_rfl) (wF _ _ _ (.tmp 8) (.tmp 64) _ _ _ _ rfl al rfl rfl ag) (S14.of b8 G1) ?_
 (try simp only[ZG,Zw,Za,Y9])
 refine wpAnyH_done (by kernel_rfl) ?_ _
 have R:=lh (HZ.setD (#[.int .i64 I,.int .i64 C,.int .i64 F,.int .i64 E,.int .i64 B,.int .i64 A,.int .i64 G,.int .i64 J,.int .i64 H,.int .i64 D,.int .i64 u,.int .i64 m,.int .i64 z,.int .i64 j,.bool Z2,.int .i64 0,.string ⟨#[]⟩,.string ⟨#[]⟩,.int .i64 0,.int .i64 0,.bool Z2]) rfl);clear hHeld HZ BZ b8 ag al S4 G0 G1 BB o e5;generalize Z:YC _ _ _=W4 at R |-;clear Z;generalize hB:d.heap.size=b at R e4 |-;clear hB;generalize hD:(#[.int .i64 I,.int .i64 C,.int .i64 F,.int .i64 E,.int .i64 B,.int .i64 A,.int .i64 G,.int .i64 J,.int .i64 H,.int .i64 D,.int .i64 u,.int .i64 m,.int .i64 z,.int .i64 j,.bool Z2,.int .i64 0,.string ⟨#[]⟩,.string ⟨#[]⟩,.int .i64 0,.int .i64 0,.bool Z2]:Zz Z1)=D0 at R;have ep:D0.size=21:=by rw[<-hD];rfl
 have cn:=lh hD;clear hD;generalize Y:zlit 0 h=C0 at R;have c8:C0.size=33:=by rw[<-Y];rfl
 have ci:=lh Y;clear Y;have x1:t1.size<=10000:=by rw[<-Z0,be.o];omega
 have Q:=fun W=>mQ t1 s1.2 W x1
 rw[show (Z5 t1,s1.2)=s1 by rw[be.o],b1] at Q;simp only at Q
 have V:=lh Q;clear Q;have rb:=R.o.rb;obtain⟨y1,e6⟩:∃ y,D0[14]?=Z9 y:=⟨_,Zv (by omega)⟩;go_upto_region 6 with (go_at_call 332;(with_reducible refine (V.o _).mono ?_);rintro _ w4 ⟨t2,rfl,X,U⟩;have P:=R.o.below U;have o:=lh P;have bg:=lh X;have cc:=ae P.rd 14 _ e6;have ff:=P.hd.2.2;have q1:=fun v=>bG P.hb (b+1) 14 v;clear P U X)
 have T:=o.o.step 14 (.bool v2) t2 s2.2;generalize Z:YC (Yx _ _ _) _ _=W4 at T |-;clear Z cc ff q1 rb V R o;have ca:(D0.setIfInBounds 14 (.bool v2)).size=21:=by simpa using ep
 generalize Y:D0.setIfInBounds 14 (.bool v2)=D1 at T ca;have co:=lh Y;have R:=lh T;clear Y T;have x2:t2.size<=10000:=by rw[<-Z0,bg.o];omega
 have Q:=fun W=>rread t2 s2.2 W x2
 rw[show (Z5 t2,s2.2)=s2 by rw[bg.o],b2] at Q;simp only at Q
 have V:=lh Q;clear Q;have rb:=R.o.rb;obtain⟨y2,e7⟩:∃ y,D1[15]?=Z9 y:=⟨_,Zv (by omega)⟩;go_upto_region 7 with (go_at_call 333;(with_reducible refine (V.o _).mono ?_);rintro _ L ⟨t3,rfl,X,U⟩;have P:=R.o.below U;have o:=lh P;have bi:=lh X;have cc:=ae P.rd 15 _ e7;have ff:=P.hd.2.2;have q1:=fun v=>bG P.hb (b+1) 15 v;clear P U X)
 have T:=o.o.step 15 (.int .i64 v3) t3 s3.2;generalize Z:YC (Yx _ _ _) _ _=W5 at T |-;clear Z cc ff q1 rb V R o;have cb:(D1.setIfInBounds 15 (.int .i64 v3)).size=21:=by simpa using ca
 generalize Y:D1.setIfInBounds 15 (.int .i64 v3)=D2 at T cb;have cp:=lh Y;have R:=lh T;clear Y T;have x3:t3.size<=10000:=by rw[<-Z0,bi.o];omega
 have Q:=fun W=>ko t3 s3.2 8 W x3 (by decide)
 rw[show (Z5 t3,s3.2)=s3 by rw[bi.o],b3] at Q;simp only[show (((8:Nat):Int))=(8:Int) from rfl] at Q
 have V:=lh Q;clear Q;have rb:=R.o.rb;obtain⟨y3,e8⟩:∃ y,D2[16]?=Z9 y:=⟨_,Zv (by omega)⟩;go_upto_region 8 with (go_at_call 334;(with_reducible refine (V.o _).mono ?_);rintro _ w6 ⟨u4,t4,rfl,hu,X,U⟩;have P:=R.o.below U;have o:=lh P;have bj:=lh X;have dl:=lh hu;have cc:=ae P.rd 16 _ e8;have ff:=P.hd.2.2;have q1:=fun v=>bG P.hb (b+1) 16 v;clear P U X hu)
 have T:=o.o.step 16 (.string u4) t4 s4.2;generalize Z:YC (Yx _ _ _) _ _=W6 at T |-;clear Z cc ff q1 rb V R o;have cd:(D2.setIfInBounds 16 (.string u4)).size=21:=by simpa using cb
 generalize Y:D2.setIfInBounds 16 (.string u4)=D3 at T cd;have cq:=lh Y;have R:=lh T;clear Y T;have x4:t4.size<=10000:=by rw[<-Z0,bj.o];omega
 have Q:=fun W=>ko t4 s4.2 8 W x4 (by decide)
 rw[show (Z5 t4,s4.2)=s4 by rw[bj.o],b4] at Q;simp only[show (((8:Nat):Int))=(8:Int) from rfl] at Q
 have V:=lh Q;clear Q;have rb:=R.o.rb;obtain⟨y4,e9⟩:∃ y,D3[17]?=Z9 y:=⟨_,Zv (by omega)⟩;go_upto_region 9 with (go_at_call 334;(with_reducible refine (V.o _).mono ?_);rintro _ w7 ⟨u5,t5,rfl,hu,X,U⟩;have P:=R.o.below U;have o:=lh P;have bk:=lh X;have dq:=lh hu;have cc:=ae P.rd 17 _ e9;have ff:=P.hd.2.2;have q1:=fun v=>bG P.hb (b+1) 17 v;clear P U X hu)
 have T:=o.o.step 17 (.string u5) t5 s5.2;generalize Z:YC (Yx _ _ _) _ _=W7 at T |-;clear Z cc ff q1 rb V R o;have ce:(D3.setIfInBounds 17 (.string u5)).size=21:=by simpa using cd
 generalize Y:D3.setIfInBounds 17 (.string u5)=D4 at T ce;have ct:=lh Y;have R:=lh T;clear Y T;have x5:t5.size<=10000:=by rw[<-Z0,bk.o];omega
 have Q:=fun W=>rread t5 s5.2 W x5
 rw[show (Z5 t5,s5.2)=s5 by rw[bk.o],b5] at Q;simp only at Q
 have V:=lh Q;clear Q;have rb:=R.o.rb;obtain⟨y5,ea⟩:∃ y,D4[18]?=Z9 y:=⟨_,Zv (by omega)⟩;go_upto_region 10 with (go_at_call 333;(with_reducible refine (V.o _).mono ?_);rintro _ w8 ⟨t6,rfl,X,U⟩;have P:=R.o.below U;have o:=lh P;have bp:=lh X;have cc:=ae P.rd 18 _ ea;have ff:=P.hd.2.2;have q1:=fun v=>bG P.hb (b+1) 18 v;clear P U X)
 have T:=o.o.step 18 (.int .i64 v6) t6 s6.2;generalize Z:YC (Yx _ _ _) _ _=W8 at T |-;clear Z cc ff q1 rb V R o;have cg:(D4.setIfInBounds 18 (.int .i64 v6)).size=21:=by simpa using ce
 generalize Y:D4.setIfInBounds 18 (.int .i64 v6)=D5 at T cg;have cu:=lh Y;have R:=lh T;clear Y T;have x6:t6.size<=10000:=by rw[<-Z0,bp.o];omega
 have Q:=fun W=>rread t6 s6.2 W x6
 rw[show (Z5 t6,s6.2)=s6 by rw[bp.o],b6] at Q;simp only at Q
 have V:=lh Q;clear Q;have rb:=R.o.rb;obtain⟨y6,eg⟩:∃ y,D5[19]?=Z9 y:=⟨_,Zv (by omega)⟩;go_upto_region 11 with (go_at_call 333;(with_reducible refine (V.o _).mono ?_);rintro _ w9 ⟨t7,rfl,X,U⟩;have P:=R.o.below U;have o:=lh P;have br:=lh X;have cc:=ae P.rd 19 _ eg;have ff:=P.hd.2.2;have q1:=fun v=>bG P.hb (b+1) 19 v;clear P U X)
 have T:=o.o.step 19 (.int .i64 v7) t7 s7.2;generalize Z:YC (Yx _ _ _) _ _=W9 at T |-;clear Z cc ff q1 rb V R o;have ch:(D5.setIfInBounds 19 (.int .i64 v7)).size=21:=by simpa using cg
 generalize Y:D5.setIfInBounds 19 (.int .i64 v7)=D6 at T ch;have cw:=lh Y;have R:=lh T;clear Y T;have x7:t7.size<=10000:=by rw[<-Z0,br.o];omega
 have Q:=fun W=>mQ t7 s7.2 W x7
 rw[show (Z5 t7,s7.2)=s7 by rw[br.o],b7] at Q;simp only at Q
 have V:=lh Q;clear Q;have rb:=R.o.rb;obtain⟨y7,ei⟩:∃ y,D6[20]?=Z9 y:=⟨_,Zv (by omega)⟩;go_upto_region 12 with (go_at_call 332;(with_reducible refine (V.o _).mono ?_);rintro _ gg ⟨t8,rfl,X,U⟩;have P:=R.o.below U;have o:=lh P;have bs:=lh X;have cc:=ae P.rd 20 _ ei;have ff:=P.hd.2.2;have q1:=fun v=>bG P.hb (b+1) 20 v;clear P U X)
 have T:=o.o.step 20 (.bool v8) t8 s8.2;generalize Z:YC (Yx _ _ _) _ _=ev at T |-;clear Z cc ff q1 rb V R o;have er:(D6.setIfInBounds 20 (.bool v8)).size=21:=by simpa using ch
 generalize Y:D6.setIfInBounds 20 (.bool v8)=D7 at T er;have cz:=lh Y;have R:=lh T;clear Y T;have x8:t8.size<=10000:=by rw[<-Z0,bs.o];omega
 have Q:=fun W=>pe t8 s8.2 4 W x8 (by decide)
 rw[show (Z5 t8,s8.2)=s8 by rw[bs.o],a8] at Q;simp only[show (((4:Nat):Int))=(4:Int) from rfl] at Q
 have V:=lh Q;clear Q;have rb:=R.o.rb;go_upto_region 13 with (go_at_call 335;(with_reducible refine (V.o _).mono ?_);rintro _ gh ⟨t9,rfl,X,U⟩;have P:=R.o.below U;have o:=lh P;have bv:=lh X;have q1:=P.hb;clear P U X)
 have T:=o.o.read t9 s9.2;generalize Z:YC _ _ _=ga at T |-;clear Z q1 rb V R o;have R:=lh T;clear T
 have c5:D7=eF.dat:=by
  rw[<-b9.o,<-cz.o,<-cw.o,<-cu.o,<-ct.o,<-cq.o,<-cp.o,<-co.o,<-cn.o];rw[show u4=⟨v4.toArray⟩ from XV (dl.o.trans (Xj _).symm),show u5=⟨v5.toArray⟩ from XV (dq.o.trans (Xj _).symm)];unfold En.dat Zh En.zero;simp only[Zw,Y9,Za]
 rw[c5] at R;clear c5;have rd:=R.o.rd;have h0:=R.o.h0;have zd:=bW eF;have od:=gO eF;go_upto_region 14 with fail
 have T:=R.o.desc c8;generalize Z:YC _ _ _=e3 at T |-;clear Z rd h0 zd od R;have c9:(over C0 2 eF.dat.toList).size=33:=by rw[jW];exact c8
 generalize Y:over C0 2 eF.dat.toList=C1 at T c9;have ck:=lh Y;have R:=lh T;clear Y T;have x9:t9.size<=10000:=by rw[<-Z0,bv.o];omega
 have Q:=fun W=>rlist t9 s9.2 v9 W x9 (by omega)
 rw[show (Z5 t9,s9.2)=s9 by rw[bv.o],a3] at Q;simp only at Q
 have V:=lh Q;clear Q;have rb:=R.o.rb;obtain⟨y8,ek⟩:∃ y,C1[23]?=Z9 y:=⟨_,Zv (by omega)⟩;go_upto_region 15 with (go_at_call 331;(with_reducible refine (V.o _).mono ?_);rintro _ gl ⟨N,a6,rfl,hI,X,U,ho⟩;have HI:=lh hI;have HO:=lh ho;obtain⟨aa,ac,rfl,-,-⟩:=hI;have P:=R.o.below U;have o:=lh P;have ab:=lh X;have cc:=ae P.r0 23 _ ek;have ff:=P.h0.2.2;have q1:=fun v=>bG P.hb w.heap.size 23 v;clear P U X ho)
 have zW:=R.o.hd.lt;have af:=R.o.far;have I3:=uE (g0:=w.heap.size) (b:=b) (i:=23) (v:=.slice aa ls.length ac) (c:=#[.string a6,.int .i64 a0.2]) HI.o _ HO.o (by omega) (by omega);have T:=o.o.stepE 23 (.slice aa ls.length ac) a6 a0.2;generalize Z:YC (Yx _ _ _) _ _=gb at T I3 |-;clear Z cc ff q1 rb V R o;have en:(C1.setIfInBounds 23 (.slice aa ls.length ac)).size=33:=by simpa using c9
 generalize Y:C1.setIfInBounds 23 (.slice aa ls.length ac)=C2 at T en;have cm:=lh Y;have R:=lh T;have ba:=lh I3;clear Y T I3 HI;generalize e3.heap.size=eu at HO zW;have em:a6.size<=10000:=by rw[<-Z0,ab.o];omega
 have Q:=fun W=>rread a6 a0.2 W em
 rw[show (Z5 a6,a0.2)=a0 by rw[ab.o],a4] at Q;simp only at Q
 have V:=lh Q;clear Q;have rb:=R.o.rb;obtain⟨y9,el⟩:∃ y,C2[24]?=Z9 y:=⟨_,Zv (by omega)⟩;go_upto_region 16 with (go_at_call 333;(with_reducible refine (V.o _).mono ?_);rintro _ gn ⟨a2,rfl,X,U⟩;have P:=R.o.below U;have o:=lh P;have ad:=lh X;have bb:=lh (ba.o.below U);have cc:=ae P.r0 24 _ el;have ff:=P.h0.2.2;have q1:=fun v=>bG P.hb w.heap.size 24 v;clear P U X)
 have I5:=uE (g0:=w.heap.size) (b:=b) (i:=24) (v:=.int .i64 a9) (c:=#[.string a2,.int .i64 a1.2]) bb.o _ HO.o (by omega) (by omega);have T:=o.o.stepE 24 (.int .i64 a9) a2 a1.2;generalize Z:YC (Yx _ _ _) _ _=c0 at T I5 |-;clear Z cc ff q1 rb V R o
 have hF:C2.setIfInBounds 24 (.int .i64 a9)=eF.vals (.slice aa ls.length ac) (.slice Z7 0 0):=by
  rw[<-cm.o,<-ck.o,<-ci.o];have e:=qT eF aa ls.length ac;rw[<-b9.o] at e |-;exact e
 rw[hF] at T;have R:=lh T;have bc:=lh I5;clear hF T I5 ba bb;have es:=ay eF (.slice aa ls.length ac) (.slice Z7 0 0) rfl rfl;have HP:=R.o.pick;go_region_held3 (fun w'=>row w' w.heap.size=eF.vals (.slice aa ls.length ac) (.slice Z7 0 0)/\row w' b=#[.string a2,.int .i64 a1.2]/\Held w' (w.heap.size+1+1) 33/\Held w' (w.heap.size+1+1+1) 2) (first|assumption|exact HP|exact su af (by assumption) _ (Or.inl ⟨rfl,ah _ _ _⟩)|exact su af (by assumption) _ (Or.inr ⟨rfl,rfl⟩)) (fail)
 have FD:=R.o.below (YZ (ZR c0.heap.size c0));have TA:=lh (Gw FD);have TB:=lh (Gx FD);have IA:=lh (vA (c:=eF.vals (.slice aa ls.length ac) (.slice Z7 0 0)) (c':=#[.string a2,.int .i64 a1.2]) bc.o _ HO.o (p:=w.heap.size+1+1) (q:=w.heap.size+1+1+1) (by omega) (by omega));have IB:=lh (vA (c':=eF.vals (.slice aa ls.length ac) (.slice Z7 0 0)) (c:=#[.string a2,.int .i64 a1.2]) bc.o _ HO.o (p:=w.heap.size+1+1+1) (q:=w.heap.size+1+1) (by omega) (by omega));have bd:Hid (∀ y,(Value.slice aa ls.length ac).ownBlock=Z9 y->w.heap.size<=y):=lh (fun y hy=>by have:=HO.o y hy;omega)
 all_goals
  go_wp2_with fail
  first
  | (refine ZA (ie (n:=32) (n':=1) rfl Tryz.underlying29 rfl (by kernel_rfl) Tryz.underlying326 rfl (by kernel_rfl) _ _ (w.heap.size+1+1) (w.heap.size+1+1+1) rfl rfl (by rw[TA.o.1];exact ah _ _ _) (by rw[TA.o.2.1];rfl)) rfl ?_
     rw[TA.o.1,TA.o.2.1];exact⟨_,a2,rfl,IA.o,ad.o,TA.o.2.2,bd.o⟩)
  | (refine ZA (ie (n:=32) (n':=1) rfl Tryz.underlying29 rfl (by kernel_rfl) Tryz.underlying326 rfl (by kernel_rfl) _ _ (w.heap.size+1+1) (w.heap.size+1+1+1) rfl rfl (by rw[TB.o.1];exact ah _ _ _) (by rw[TB.o.2.1];rfl)) rfl ?_
     rw[TB.o.1,TB.o.2.1];exact⟨_,a2,rfl,IB.o,ad.o,TB.o.2.2,bd.o⟩)
end
end Go.Proofs.YtnkjliahpeebjaaGreatDoor
