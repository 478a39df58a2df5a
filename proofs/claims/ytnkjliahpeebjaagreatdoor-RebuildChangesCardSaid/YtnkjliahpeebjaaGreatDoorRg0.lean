/- Catalogs. -/
import Derived.Test.YtnkjliahpeebjaaGreatDoorRf
import Derived.Test.YtnkjliahpeebjaaGreatDoorRtF
set_option maxRecDepth 8000
set_option maxHeartbeats 8000000
open Option renaming some->Z9,none->Z7
open _root_ renaming ByteArray->Z6,List->Z1,UInt8->ZM,Array->Zy
open Go.Proofs.YtnkjliahpeebjaaGreatDoor.Ds renaming bl->Z5,bl_length->ZZ,bl_mk->X1,bl_inj->XR
open Go.RowKit renaming Below->Z4
open Go renaming Value->Z2,World->ZY,bodyPost_ret->ZD,below_setRow->ZA
open Bool renaming false->ZW
open Nat renaming le_refl->ZV,le_of_ble_eq_true->Zl,zero_lt_succ->Xp
open Go.RowKit.Below renaming refl->ZR,drew->Y3,setCell->XG
open Go.Act renaming put->ZL
open Array renaming getElem?_eq_getElem->Zu
open List renaming setIfInBounds_toArray->Zt,set_cons_zero->Ze,set_cons_succ->Zd
open Go.Proofs.YtnkjliahpeebjaaGreatDoor.En renaming base->Zi
open Go.World renaming setRow->YO,setCell->Ys,alloc->VC
namespace Go.Proofs.YtnkjliahpeebjaaGreatDoor
open Go.RowKit
variable{t:Z6}{w W e w' wr d L:ZY}{b g a k:Nat}{c ds c':Zy Z2}{x f:Nat}{rd cs:Zy Z2}{E H I A:Int}{d2 e0 gr e1 d0 N e2:Z2}(h l:Z6){D C:Int}{d1 i:Z2}{G F J:Int}{n xs:Z1 Z2}{B j u z m:Int}
section
set_option linter.unusedSimpArgs false
theorem Fz(w:ZY)(o:Obj):Z4 w.heap.size w (w.alloc o):=(ZR _ _).alloc (ZV _) o
theorem FW.read(h:FW w d cs t x)(T:Z6)(X:Nat):FW w (d.setRow (w.heap.size+1) #[.string T,.int .i64 X]) cs T X :=
 ⟨by rw[cT _ _ _ _ (by omega)];exact h.r0,au h.h1 _,h.h0.set _ (fun e=>absurd e (by omega)),h.h1.set _ (fun _=>rfl),h.h2.set _ (fun e=>absurd e (by omega)),h.h3.set _ (fun e=>absurd e (by omega)),ZA h.bel (by omega) _⟩
theorem FW.blocks(h:FW w d cs t x)(o:∀ j,j<w.heap.size+1+1+1+1->L.heap[j]?=d.heap[j]?)(p:Z4 w.heap.size w L):FW w L cs t x :=
 ⟨by unfold row;rw[o _ (by omega)];exact h.r0,by unfold row;rw[o _ (by omega)];exact h.r1,h.h0.of_block (o _ (by omega)),h.h1.of_block (o _ (by omega)),h.h2.of_block (o _ (by omega)),h.h3.of_block (o _ (by omega)),p⟩
theorem FW.setE(h:FW w d cs t x)(i:Nat)(v:Z2):FW w (d.setCell ⟨w.heap.size,i,Z7⟩ v) (cs.setIfInBounds i v) t x :=
 ⟨by rw[jU h.h0,h.r0],by rw[kO _ _ _ _ _ (by omega)];exact h.r1,bG h.h0 _ _ _,bG h.h1 _ _ _,bG h.h2 _ _ _,bG h.h3 _ _ _,XG h.bel (ZV _) _⟩
structure F4 (w wr:ZY) (g:Nat) (cs:Zy Z2) (d0 d1 d2:Z2) (gr:Z2) (k:Nat) (xs:Z1 Z2) (t:Z6) (x:Nat):Prop where
 f:FW w wr cs t x
 rg:row wr g=#[d0,d1,d2]
 hg:Held wr g 3
 far:w.heap.size+1+1+1<g
 own:wr.ownsRow (w.heap.size+1+1+1+1) 103 3 gr k xs
 lt:∀ y,gr.ownBlock=Z9 y->y<g
theorem F4.below(h:F4 w wr g cs d0 d1 d2 gr k xs t x)(o:Z4 wr.heap.size wr d):F4 w d g cs d0 d1 d2 gr k xs t x :=
 ⟨h.f.below o,am o h.rg (Xp 2),h.hg.below o,h.far,aV h.own (fun y p=>o.block y (ax h.own y p).2),h.lt⟩
theorem F4.start(h:FW w wr cs t x)(own:wr.ownsRow (w.heap.size+1+1+1+1) 103 3 gr k xs)(d0 d1 d2:Z2)(T:TypeId):F4 w (wr.alloc (.cells #[d0,d1,d2] T)) wr.heap.size cs d0 d1 d2 gr k xs t x:=by
 have p:Z4 wr.heap.size wr (wr.alloc (.cells #[d0,d1,d2] T)):=(ZR _ _).alloc (ZV _) _;exact⟨h.below p,ak wr _ T (0,0),Held.new wr _ T 3 rfl (by decide),h.h3.lt,aV own (fun y o=>p.block y (ax own y o).2),fun y o=>(ax own y o).2⟩
theorem F4.step(h:F4 w d g cs d0 d1 d2 gr k xs t x)(i:Nat)(v:Z2)(T:Z6)(X:Nat)(p:(#[d0,d1,d2]:Zy Z2).setIfInBounds i v=#[e0,e1,e2]):F4 w ((d.setCell ⟨g,i,Z7⟩ v).setRow (w.heap.size+1) #[.string T,.int .i64 X]) g cs e0 e1 e2 gr k xs T X:=by
 have k1:=h.far
 have hF:FW w (d.setCell ⟨g,i,Z7⟩ v) cs t x :=
  ⟨by rw[kO _ _ _ _ _ (by omega)];exact h.f.r0,by rw[kO _ _ _ _ _ (by omega)];exact h.f.r1,bG h.f.h0 _ _ _,bG h.f.h1 _ _ _,bG h.f.h2 _ _ _,bG h.f.h3 _ _ _,XG h.f.bel (by show w.heap.size<=g;omega) _⟩
 refine⟨hF.read T X,?_,(bG h.hg _ _ _).set _ (fun e=>absurd e (by omega)),k1,aV h.own (fun y o=>?_),h.lt⟩
 .rw[cT _ _ _ _ (by omega),jU h.hg,h.rg,p]
 .have q:=(ax h.own y o).1;have Q:=h.lt y o;rw[cP _ _ _ _ (by omega),ic (a:=⟨g,i,Z7⟩) (by show y≠g;omega)]
theorem F4.done{e:En}{o:Obj}(h:F4 w d g (e.vals N gr) d0 d1 d2 gr k xs t x)(p:L.ownsRow (w.heap.size+1+1+1+1) 103 3 i (k+1) (xs++n))(K:(d.alloc o).grownBy L gr.ownBlock):FW w (L.setCell ⟨w.heap.size,32,Z7⟩ i) (e.vals N i) t x/\(L.setCell ⟨w.heap.size,32,Z7⟩ i).ownsRow (w.heap.size+1+1+1+1) 103 3 i (k+1) (xs++n):=by
 have P:Z4 d.heap.size d (d.alloc o):=(ZR _ _).alloc (ZV _) _;have Z:=h.f.h3.lt;have s:=h.f.below P;have q:∀ j,j<w.heap.size+1+1+1+1->Z9 j≠gr.ownBlock:=fun j O e=>by have:=(ax h.own j e.symm).1;omega
 have Q:FW w L (e.vals N gr) t x:=s.blocks (fun j O=>K.block j (by simp;omega) (q j O)) (s.bel.grown K (by simp;omega) (fun y r=>by have:=(ax h.own y r).1;omega));have v:=Q.setE 32 i;rw[wE] at v;refine⟨v,aV p (fun y r=>ic (a:=⟨w.heap.size,32,Z7⟩) (by have:=(ax p y r).1;show y≠w.heap.size;omega))⟩
theorem EY(W:ZY)(x:Gr)(t:TypeId)(k:Nat)(p:k=W.heap.size):CS (W.alloc (.cells #[.string x.1,.bool x.2.1,.int .i64 x.2.2] t)) 3 (.slice (Z9 ⟨k,0,Z7⟩) 1 1) 1 (gv [x]):=by
 subst p;refine⟨_,_,rfl,rfl,fun _=>⟨_,rfl,fun j u o=>?_⟩⟩
 rw[Addr.add_lit,Nat.zero_add,cell_of_row _ W.heap.size j _ t (0,0) (heap_alloc_new W _)];have:gv [x]=(#[Value.string x.1,Value.bool x.2.1,Value.int .i64 x.2.2]:Zy Z2).toList:=rfl;rw[this] at o;simpa using o
theorem AZ(s:Z1 ZM × Nat)(a:Z1 ZM)(S:Z1 ZM × Nat)(b:Bool)(o:Z1 ZM × Nat)(n:Int)(p:Z1 ZM × Nat)(q:Rd.txt 8 s=(a,S))(r:Rd.boo S=(b,o))(v:rN o=(n,p)):jo s=((⟨a.toArray⟩,b,n),p):=by
 unfold jo;simp only[q,r,v]
attribute [local go_sem ↓] aZ bf bq jM jR
attribute [local go_sem] bn aS aH aK aT az aM ah aQ aL aP aO aR aY aW
theorem rfields4(w:ZY)(hl:l.size<=1000) :
 Calls Tryz.prog 311 #[.agg (zlit 4 h),.agg #[.string l,.int .i64 0]] w fun r w'=>∃ (gr:Z2) (t:Z6),r=.returned (.tuple #[.agg ((ey (Zi 4 h) (Z5 l,0)).1.vals (.slice Z7 0 0) gr),.agg #[.string t,.int .i64 (ey (Zi 4 h) (Z5 l,0)).2.2.2]])/\GS w' gr (ey (Zi 4 h) (Z5 l,0)).2.1/\Z5 t=(ey (Zi 4 h) (Z5 l,0)).2.2.1/\Z4 w.heap.size w w'/\(∀ y,gr.ownBlock=Z9 y->w.heap.size<=y):=by
 obtain⟨s0,a1⟩:∃ s0:Z1 ZM × Nat,s0=(Z5 l,0):=⟨_,rfl⟩;have m0:s0.1.length<=1000:=by rw[a1];simp only[ZZ];exact hl
 obtain⟨v1,s1,a2⟩:∃ (v:Int) (s:Z1 ZM × Nat),rN s0=(v,s):=⟨_,_,rfl⟩;have m1:s1.1.length<=1000:=by have:=il s0;rw[a2] at this;simp only at this;omega
 obtain⟨v2,s2,a3⟩:∃ (v:Z1 ZM) (s:Z1 ZM × Nat),Rd.txt 8 s1=(v,s):=⟨_,_,rfl⟩;have m2:s2.1.length<=1000:=by have:=(Rd.txt_len 8 s1).1;rw[a3] at this;simp only at this;omega
 obtain⟨v3,Y,a0⟩:∃ (v:Nat) (s:Z1 ZM × Nat),Rd.cnt 8 s2=(v,s):=⟨_,_,rfl⟩;have m3:Y.1.length<=1000:=by have:=Rd.cnt_len 8 s2;rw[a0] at this;simp only at this;omega
 have bs:v3<=8:=by have:=Rd.cnt_le 8 s2;rw[a0] at this;exact this
 obtain⟨eF,a7⟩:∃ eF:En,({ Zi 4 h with lev:=v1,owner:=⟨v2.toArray⟩ }:En)=eF:=⟨_,rfl⟩
 have b2:ey (Zi 4 h) (Z5 l,0)=(eF,(dr Y v3).1,(dr Y v3).2):=by
  rw[<-a1,<-a7];unfold ey;simp only[a2,a3,a0]
 have ba:=lh a7;rw[b2];clear b2 a7;have hS:=FW.start w (zlit 4 h) (zlit 0 ⟨#[]⟩) l s0.2 29 326 29 326 rfl rfl;have e0:s0.2=0:=by rw[a1]
 have b3:Z5 l=s0.1:=by rw[a1]
 rw[e0] at hS;have b9:=lh e0;have ab:=lh b3;clear e0 b3 a1 hl;unfold zlit at hS;simp only[show (((0:Nat):Int))=(0:Int) from rfl] at hS
 have P:=lh hS;clear hS;unfold zlit;go_enter Tryz.func311,Tryz.ntmps311
 go_upto_region 1 with fail
 generalize X:((((w.alloc _).alloc _).alloc _).alloc _)=W0 at P |-;clear X;have P:Hid (FW w W0 (zlit 4 h) l 0):=P;have r0:=P.o.r0;have n0:=ae r0 0 (.int .i64 4) rfl;go_upto_region 29 with fail
 clear r0 n0;generalize a6:zlit 4 h=C0 at P;have b6:=lh a6;have z0:C0.size=33:=by rw[<-a6];rfl
 have x0:l.size<=10000:=by rw[<-ZZ,ab.o];omega
 clear a6;have K:=fun W=>rread l s0.2 W x0
 rw[show (Z5 l,s0.2)=s0 by rw[ab.o],a2] at K;simp only at K
 rw[b9.o] at K;simp only[show (((0:Nat):Int))=(0:Int) from rfl] at K
 have T:=lh K;clear K;have Z:=P.o.r1;simp only[show (((0:Nat):Int))=(0:Int) from rfl] at Z
 obtain⟨y0,b4⟩:∃ y,C0[31]?=Z9 y:=⟨_,Zu (by omega)⟩;go_upto_region 30 with (go_at_call 333;(with_reducible refine (T.o _).mono ?_);rintro _ d ⟨t1,rfl,R,U⟩;have q:=P.o.below U;have p:=lh q;have ac:=lh R;have cc:=ae q.r0 31 _ b4;have ff:=q.h0.2.2;have q1:=fun v=>bG q.h1 w.heap.size 31 v;clear q U R)
 have Q:=p.o.step 31 (.int .i64 v1) t1 s1.2;generalize X:YO (Ys _ _ _) _ _=W1 at Q |-;clear X cc ff q1 Z T P p;have z1:(C0.setIfInBounds 31 (.int .i64 v1)).size=33:=by simpa using z0
 generalize hC:C0.setIfInBounds 31 (.int .i64 v1)=C1 at Q z1;have b7:=lh hC;have P:=lh Q;have x1:t1.size<=10000:=by rw[<-ZZ,ac.o];omega
 clear hC Q;have K:=fun W=>ko t1 s1.2 8 W x1 (by decide)
 rw[show (Z5 t1,s1.2)=s1 by rw[ac.o],a3] at K;simp only[show (((8:Nat):Int))=(8:Int) from rfl] at K
 have T:=lh K;clear K;have Z:=P.o.r1;obtain⟨y1,b5⟩:∃ y,C1[28]?=Z9 y:=⟨_,Zu (by omega)⟩;go_upto_region 31 with (go_at_call 334;(with_reducible refine (T.o _).mono ?_);rintro _ w3 ⟨u2,t2,rfl,hu,R,U⟩;have q:=P.o.below U;have p:=lh q;have ad:=lh R;have bc:=lh hu;have cc:=ae q.r0 28 _ b5;have ff:=q.h0.2.2;have q1:=fun v=>bG q.h1 w.heap.size 28 v;clear q U R hu)
 have Q:=p.o.step 28 (.string u2) t2 s2.2;generalize X:YO (Ys _ _ _) _ _=W2 at Q |-;clear X cc ff q1 Z T P p;have z2:(C1.setIfInBounds 28 (.string u2)).size=33:=by simpa using z1
 generalize hC:C1.setIfInBounds 28 (.string u2)=C2 at Q z2;have b8:=lh hC;have P:=lh Q;have x2:t2.size<=10000:=by rw[<-ZZ,ad.o];omega
 clear hC Q
 have hF:C2=eF.vals (.slice Z7 0 0) (.slice Z7 0 0):=by
  rw[<-ba.o,<-b8.o,<-b7.o,<-b6.o];rw[show u2=⟨v2.toArray⟩ from XR (bc.o.trans (X1 _).symm)];unfold zlit En.vals Zi En.zero;simp only[Zt,Zd,Ze]
 rw[hF] at P;clear hF;have K:=fun W=>pe t2 s2.2 8 W x2 (by decide)
 rw[show (Z5 t2,s2.2)=s2 by rw[ad.o],a0] at K;simp only[show (((8:Nat):Int))=(8:Int) from rfl] at K
 have T:=lh K;clear K;have Z:=P.o.r1;go_upto_region 32 with (go_at_call 335;(with_reducible refine (T.o _).mono ?_);rintro _ w4 ⟨t3,rfl,R,U⟩;have q:=P.o.below U;have p:=lh q;have af:=lh R;have q1:=q.h1;clear q U R)
 have Q:=p.o.read t3 Y.2;generalize X:YO _ _ _=W3 at Q |-;clear X Z q1 T P p;have P:=lh Q;clear Q a2 a3 a0 m0 m1 m2 x0 x1 x2 z0 z1 z2 b4 b5;go_wp2_with fail
 go_loopw [11] (fun i wr=>∃ (k:Nat) (t:Z6) (gr:Z2),k<=v3/\i=.int .i64 k/\FW w wr (eF.vals (.slice Z7 0 0) gr) t (dr Y k).2.2/\Z5 t=(dr Y k).2.1/\wr.ownsRow (w.heap.size+1+1+1+1) 103 3 gr k (gv (dr Y k).1)) (fun i _=>v3 - (intOf i).toNat)
 case atStart=>exact⟨0,t3,.slice Z7 0 0,Nat.zero_le _,rfl,P.o,af.o,World.ownsRow_nil _ _ _ 3⟩
 case round =>
  clear P af;obtain⟨k,t,gr,hk,rfl,hS,R,V⟩:=hrel;have P:=lh hS;have HT:=lh R;have HO:=lh V;have mk:(dr Y k).2.1.length<=1000:=Nat.le_trans (tY Y k) m3;clear hS R V;by_cases c3:k<v3
  .obtain⟨S,av⟩:∃ S,(dr Y k).2=S:=⟨_,rfl⟩;rw[av] at P HT mk;obtain⟨gn,g1,a8⟩:∃ (v:Z1 ZM) (s:Z1 ZM × Nat),Rd.txt 8 S=(v,s):=⟨_,_,rfl⟩;have n1:g1.1.length<=1000:=by have:=(Rd.txt_len 8 S).1;rw[a8] at this;simp only at this;omega
   obtain⟨gb,g2,a9⟩:∃ (v:Bool) (s:Z1 ZM × Nat),Rd.boo g1=(v,s):=⟨_,_,rfl⟩;have n2:g2.1.length<=1000:=by have:=Rd.boo_len g1;rw[a9] at this;simp only at this;omega
   obtain⟨gl,g3,b1⟩:∃ (v:Int) (s:Z1 ZM × Nat),rN g2=(v,s):=⟨_,_,rfl⟩;have a5:Hid (dr Y (k+1)=((dr Y k).1++[((⟨gn.toArray⟩:Z6),gb,gl)],g3)):=lh (by rw[dr,av,AZ S gn g1 gb g2 gl g3 a8 a9 b1]);obtain⟨ga,gc,rfl⟩:=bX HO.o;go_upto_region 36 with fail
   have O:=lh (F4.start P.o HO.o (.string ⟨#[]⟩) (.bool ZW) (.int .i64 0) 103);generalize X:VC _ _=V0 at O |-;clear X;generalize wr.heap.size=b at O |-;have br:=O.o.far;have xa:t.size<=10000:=by rw[<-ZZ,HT.o];omega
   have K:=fun W=>ko t S.2 8 W xa (by decide)
   rw[show (Z5 t,S.2)=S by rw[HT.o],a8] at K;simp only[show (((8:Nat):Int))=(8:Int) from rfl] at K
   have T:=lh K;clear K;have Z:=O.o.f.r1;go_upto_region 37 with (go_at_call 334;(with_reducible refine (T.o _).mono ?_);rintro _ v0 ⟨ua,ta,rfl,hu,R,U⟩;have q:=O.o.below U;have p:=lh q;have al:=lh R;have HU:=lh hu;have cc:=ae q.rg 0 _ rfl;have ff:=q.hg.2.2;have q1:=fun v=>bG q.f.h1 b 0 v;clear q U R hu)
   have Q:=p.o.step (e0:=(.string ua)) (e1:=(.bool ZW)) (e2:=(.int .i64 0)) 0 (.string ua) ta g1.2 rfl;generalize X:YO (Ys _ _ _) _ _=V1 at Q |-;clear X cc ff q1 Z T O p;have O:=lh Q;clear Q;have xb:ta.size<=10000:=by rw[<-ZZ,al.o];omega
   have K:=fun W=>mQ ta g1.2 W xb
   rw[show (Z5 ta,g1.2)=g1 by rw[al.o],a9] at K;simp only at K
   have T:=lh K;clear K;have Z:=O.o.f.r1;go_upto_region 38 with (go_at_call 332;(with_reducible refine (T.o _).mono ?_);rintro _ v1 ⟨tb,rfl,R,U⟩;have q:=O.o.below U;have p:=lh q;have ao:=lh R;have cc:=ae q.rg 1 _ rfl;have ff:=q.hg.2.2;have q1:=fun v=>bG q.f.h1 b 1 v;clear q U R)
   have Q:=p.o.step (e0:=(.string ua)) (e1:=(.bool gb)) (e2:=(.int .i64 0)) 1 (.bool gb) tb g2.2 rfl;generalize X:YO (Ys _ _ _) _ _=V2 at Q |-;clear X cc ff q1 Z T O p;have O:=lh Q;clear Q;have xc:tb.size<=10000:=by rw[<-ZZ,ao.o];omega
   have K:=fun W=>rread tb g2.2 W xc
   rw[show (Z5 tb,g2.2)=g2 by rw[ao.o],b1] at K;simp only at K
   have T:=lh K;clear K;have Z:=O.o.f.r1;go_upto_region 39 with (go_at_call 333;(with_reducible refine (T.o _).mono ?_);rintro _ v2 ⟨tc,rfl,R,U⟩;have q:=O.o.below U;have p:=lh q;have bb:=lh R;have cc:=ae q.rg 2 _ rfl;have ff:=q.hg.2.2;have q1:=fun v=>bG q.f.h1 b 2 v;clear q U R)
   have Q:=p.o.step (e0:=(.string ua)) (e1:=(.bool gb)) (e2:=(.int .i64 gl)) 2 (.int .i64 gl) tc g3.2 rfl;generalize X:YO (Ys _ _ _) _ _=V3 at Q |-;clear X cc ff q1 Z T O p;have O:=lh Q;clear Q;have c0:=ae O.o.rg 0 _ rfl;have c1:=ae O.o.rg 1 _ rfl;have c2:=ae O.o.rg 2 _ rfl;have be:=ae O.o.f.r0 32 _ (cC _ _ _);have ze:=O.o.f.h3.lt
   have ar:∀ (L:ZY),(V3.alloc (.cells #[.string ua,.bool gb,.int .i64 gl] 103)).grownBy L (Value.slice ga k gc).ownBlock->L.cell? ⟨w.heap.size,32,Z7⟩=Z9 (.slice ga k gc)/\∀ o,L.frozen? ⟨w.heap.size,o,Z7⟩=ZW:=fun L hg=>by
    have bk:Z9 w.heap.size≠(Value.slice ga k gc).ownBlock:=fun e=>by have:=(ax O.o.own _ e.symm).1;omega
    have hk:=hg.block w.heap.size (by simp;omega) bk;rw[nw _ _ _ (by omega)] at hk;exact⟨(World.cell?_of_block (w:=V3) (w':=L) (a:=⟨w.heap.size,32,Z7⟩) hk).trans be,(O.o.f.h0.of_block hk).2.2⟩
   have aa:=lh ar;clear ar;go_wp2_with (at_builtin;refine dQ _ rfl (.tmp 219) (.tmp 221) 27 103 _ _ 3 32 rfl Tryz.underlying27 nN Hk Hl Hm rfl (by decide) (w.heap.size+1+1+1+1) (.slice ga k gc) (.slice (Z9 ⟨V3.heap.size,0,Z7⟩) 1 1) k 1 (gv (dr Y k).1) (gv [(ua,gb,gl)]) rfl (aV O.o.own (fun x hx=>(Fz V3 _).block x (ax O.o.own x hx).2)) rfl (EY V3 (ua,gb,gl) _ _ rfl) (vv _) (by unfold maxLen;omega) (by omega) (by simp;omega) ?_;intro A c5 L V hg bi;have ND:=lh (O.o.done V hg);have nn:=aa.o _ hg;have nc:=nn.1;have nf:=nn.2;clear nn V hg bi)
   go_roundw
   case rel=>exact⟨k+1,tc,.slice A (k+1) c5,by omega,by go_num,by rw[a5.o];exact ND.o.1,by rw[a5.o];exact bb.o,by rw[a5.o,vu,show (⟨gn.toArray⟩:Z6)=ua from (XR (HU.o.trans (X1 _).symm)).symm];exact ND.o.2⟩
   case measure=>simp [intOf];omega
  .obtain rfl:k=v3:=by omega
   obtain⟨ga,gc,rfl⟩:=bX HO.o;have bp:=ay eF (.slice Z7 0 0) (.slice ga k gc) rfl rfl;have HP:=P.o.pick;go_upto_region 40 with fail
   go_region_held3 (fun w'=>row w' w.heap.size=eF.vals (.slice Z7 0 0) (.slice ga k gc)/\row w' (w.heap.size+1)=#[.string t,.int .i64 (dr Y k).2.2]/\Held w' (w.heap.size+1+1) 33/\Held w' (w.heap.size+1+1+1) 2) (first|assumption|exact HP|exact iQ (by assumption) _ (Or.inl ⟨rfl,ah _ _ _⟩)|exact iQ (by assumption) _ (Or.inr ⟨rfl,rfl⟩)) (fail)
   have FD:=P.o.below (Y3 (ZR wr.heap.size wr));have TA:=lh (nC FD);have TB:=lh (nD FD);have b0:∀ y,(Value.slice ga k gc).ownBlock=Z9 y->w.heap.size+1+1+1+1<=y:=fun y hy=>(ax HO.o y hy).1
   have a4:=lh b0;clear b0
   all_goals
    go_wp2_with fail
    first
    | (refine ZD (ie (n:=32) (n':=1) rfl Tryz.underlying29 rfl (by kernel_rfl) Tryz.underlying326 rfl (by kernel_rfl) _ _ (w.heap.size+1+1) (w.heap.size+1+1+1) rfl rfl (by rw[TA.o.1];exact ah _ _ _) (by rw[TA.o.2.1];rfl)) rfl ?_
       rw[TA.o.1,TA.o.2.1];refine⟨_,t,rfl,?_,HT.o,TA.o.2.2,fun y hy=>by have:=a4.o y hy;omega⟩)
    | (refine ZD (ie (n:=32) (n':=1) rfl Tryz.underlying29 rfl (by kernel_rfl) Tryz.underlying326 rfl (by kernel_rfl) _ _ (w.heap.size+1+1) (w.heap.size+1+1+1) rfl rfl (by rw[TB.o.1];exact ah _ _ _) (by rw[TB.o.2.1];rfl)) rfl ?_
       rw[TB.o.1,TB.o.2.1];refine⟨_,t,rfl,?_,HT.o,TB.o.2.2,fun y hy=>by have:=a4.o y hy;omega⟩)
    refine yn (by rw[pJ];omega) ?_
    rw[pJ];exact dU (aV HO.o (fun y hy=>by have:=a4.o y hy;rw[cP _ _ _ _ (by omega),cP _ _ _ _ (by omega)];rfl))
end
section
set_option linter.unusedSimpArgs false
structure F0 (w wr:ZY) (b:Nat) (cs ds:Zy Z2) (t:Z6) (x:Nat):Prop where
 r0:row wr w.heap.size=cs
 rb:row wr b=#[.string t,.int .i64 x]
 rd:row wr (b+1)=ds
 h0:Held wr w.heap.size 33
 hb:Held wr b 2
 hd:Held wr (b+1) 21
 h2:Held wr (w.heap.size+1+1) 33
 h3:Held wr (w.heap.size+1+1+1) 2
 bel:Z4 w.heap.size w wr
 far:w.heap.size+1+1+1<b
theorem F0.below(h:F0 w wr b cs ds t x)(o:Z4 wr.heap.size wr d):F0 w d b cs ds t x :=
 ⟨am o h.r0 (by rw[<-h.r0,h.h0.1];decide),am o h.rb (Xp 1),am o h.rd (by rw[<-h.rd,h.hd.1];decide),h.h0.below o,h.hb.below o,h.hd.below o,h.h2.below o,h.h3.below o,bt h.bel o,h.far⟩
theorem F0.step(h:F0 w d b cs ds t x)(i:Nat)(v:Z2)(T:Z6)(X:Nat):F0 w ((d.setCell ⟨b+1,i,Z7⟩ v).setRow b #[.string T,.int .i64 X]) b cs (ds.setIfInBounds i v) T X:=by
 have k:=h.far;have K:=bG h.hb (b+1) i v;refine⟨?_,au K _,?_,(bG h.h0 _ _ _).set _ (fun e=>absurd e (by omega)),K.set _ (fun _=>rfl),(bG h.hd _ _ _).set _ (fun e=>absurd e (by omega)),(bG h.h2 _ _ _).set _ (fun e=>absurd e (by omega)),(bG h.h3 _ _ _).set _ (fun e=>absurd e (by omega)),ZA (XG h.bel (by show w.heap.size<=b+1;omega) _) (by omega) _,k⟩
 .rw[cT _ _ _ _ (by omega),kO _ _ _ _ _ (by omega),h.r0]
 .rw[cT _ _ _ _ (by omega),jU h.hd,h.rd]
theorem F0.stepE(h:F0 w d b cs ds t x)(i:Nat)(v:Z2)(T:Z6)(X:Nat):F0 w ((d.setCell ⟨w.heap.size,i,Z7⟩ v).setRow b #[.string T,.int .i64 X]) b (cs.setIfInBounds i v) ds T X:=by
 have k:=h.far;have K:=bG h.hb w.heap.size i v;refine⟨?_,au K _,?_,(bG h.h0 _ _ _).set _ (fun e=>absurd e (by omega)),K.set _ (fun _=>rfl),(bG h.hd _ _ _).set _ (fun e=>absurd e (by omega)),(bG h.h2 _ _ _).set _ (fun e=>absurd e (by omega)),(bG h.h3 _ _ _).set _ (fun e=>absurd e (by omega)),ZA (XG h.bel (ZV _) _) (by omega) _,k⟩
 .rw[cT _ _ _ _ (by omega),jU h.h0,h.r0]
 .rw[cT _ _ _ _ (by omega),kO _ _ _ _ _ (by omega),h.rd]
theorem F0.read(h:F0 w d b cs ds t x)(T:Z6)(X:Nat):F0 w (d.setRow b #[.string T,.int .i64 X]) b cs ds T X:=by
 have k:=h.far;exact⟨by rw[cT _ _ _ _ (by omega)];exact h.r0,au h.hb _,by rw[cT _ _ _ _ (by omega)];exact h.rd,h.h0.set _ (fun e=>absurd e (by omega)),h.hb.set _ (fun _=>rfl),h.hd.set _ (fun e=>absurd e (by omega)),h.h2.set _ (fun e=>absurd e (by omega)),h.h3.set _ (fun e=>absurd e (by omega)),ZA h.bel (by omega) _,k⟩
theorem F0.desc(h:F0 w d b cs ds t x)(o:cs.size=33):F0 w (d.setRow w.heap.size (over (row d w.heap.size) 2 ds.toList)) b (over cs 2 ds.toList) ds t x:=by
 have k:=h.far;rw[h.r0];exact⟨au h.h0 _,by rw[cT _ _ _ _ (by omega)];exact h.rb,by rw[cT _ _ _ _ (by omega)];exact h.rd,h.h0.set _ (fun _=>by rw[jW];exact o),h.hb.set _ (fun e=>absurd e (by omega)),h.hd.set _ (fun e=>absurd e (by omega)),h.h2.set _ (fun e=>absurd e (by omega)),h.h3.set _ (fun e=>absurd e (by omega)),ZA h.bel (ZV _) _,k⟩
theorem F0.start{l:Z6}(h:FW w d cs l x)(t':Z6)(X:Nat)(ds:Zy Z2)(T p:TypeId)(s:ds.size=21):F0 w ((d.alloc (.cells #[.string t',.int .i64 X] T)).alloc (.cells ds p)) d.heap.size cs ds t' X:=by
 have q:∀ (W:ZY) o,Z4 W.heap.size W (W.alloc o):=fun W o=>(ZR _ _).alloc (ZV _) o
 have v:=Held.new d #[.string t',.int .i64 X] T 2 rfl (by decide);have Q:=Held.new (d.alloc (.cells #[.string t',.int .i64 X] T)) ds p 21 s (by decide);have r:=ak (d.alloc (.cells #[.string t',.int .i64 X] T)) ds p (0,0);have S:(d.alloc (.cells #[.string t',.int .i64 X] T)).heap.size=d.heap.size+1:=by simp
 rw[S] at Q r;have g:=(h.below (q d (.cells #[.string t',.int .i64 X] T))).below (q _ (.cells ds p));exact⟨g.r0,am (q _ _) (ak d _ T (0,0)) (Xp 1),r,g.h0,v.below (q _ _),Q,g.h2,g.h3,g.bel,h.h3.lt⟩
theorem F0.pick(h:F0 w wr b cs ds t x):row wr w.heap.size=cs/\row wr b=#[.string t,.int .i64 x]/\Held wr (w.heap.size+1+1) 33/\Held wr (w.heap.size+1+1+1) 2:=⟨h.r0,h.rb,h.h2,h.h3⟩
theorem uE{g0 i:Nat}{v:Z2}{l:Z1 Int}(h:IS W N l)(B:Nat)(o:∀ x,N.ownBlock=Z9 x->B<=x)(p:g0<B)(q:b<B):IS ((W.setCell ⟨g0,i,Z7⟩ v).setRow b c) N l :=
 h.keep B o (by simp) (fun k r _=>by rw[cP _ _ _ _ (by omega),ic (a:=⟨g0,i,Z7⟩) (by show k≠g0;omega)])
theorem vA{p q:Nat}{l:Z1 Int}(h:IS W N l)(B:Nat)(o:∀ x,N.ownBlock=Z9 x->B<=x)(r:p<B)(s:q<B):IS ((W.drew.setRow p c).setRow q c') N l :=
 h.keep B o (by simp) (fun k v _=>by rw[cP _ _ _ _ (by omega),cP _ _ _ _ (by omega)];rfl)
theorem su(r:g+1+1+1<b)(h:row W g=cs/\row W b=rd/\Held W (g+1+1) 33/\Held W (g+1+1+1) 2)(c:Zy Z2)(p:k=g+1+1/\c.size=33\/k=g+1+1+1/\c.size=2) :
 row (W.setRow k c) g=cs/\row (W.setRow k c) b=rd/\Held (W.setRow k c) (g+1+1) 33/\Held (W.setRow k c) (g+1+1+1) 2:=by
 refine⟨by rw[cT _ _ _ _ (by omega)];exact h.1,by rw[cT _ _ _ _ (by omega)];exact h.2.1,h.2.2.1.set c (fun e=>?_),h.2.2.2.set c (fun e=>?_)⟩
 .rcases p with ⟨_,o⟩|⟨q,_⟩
  .exact o
  .omega
 .rcases p with ⟨q,_⟩|⟨_,o⟩
  .omega
  .exact o
theorem Gw(h:F0 w wr b cs ds t x) :
 row ((wr.setRow (w.heap.size+1+1) cs).setRow (w.heap.size+1+1+1) #[.string t,.int .i64 x]) (w.heap.size+1+1)=cs/\row ((wr.setRow (w.heap.size+1+1) cs).setRow (w.heap.size+1+1+1) #[.string t,.int .i64 x]) (w.heap.size+1+1+1)=#[.string t,.int .i64 x]/\Z4 w.heap.size w ((wr.setRow (w.heap.size+1+1) cs).setRow (w.heap.size+1+1+1) #[.string t,.int .i64 x]):=by
 have k:=h.h3.set (g':=w.heap.size+1+1) cs (fun e=>absurd e (by omega));exact⟨by rw[cT _ _ _ _ (by omega),au h.h2],au k _,ZA (ZA h.bel (by omega) _) (by omega) _⟩
theorem Gx(h:F0 w wr b cs ds t x) :
 row ((wr.setRow (w.heap.size+1+1+1) #[.string t,.int .i64 x]).setRow (w.heap.size+1+1) cs) (w.heap.size+1+1)=cs/\row ((wr.setRow (w.heap.size+1+1+1) #[.string t,.int .i64 x]).setRow (w.heap.size+1+1) cs) (w.heap.size+1+1+1)=#[.string t,.int .i64 x]/\Z4 w.heap.size w ((wr.setRow (w.heap.size+1+1+1) #[.string t,.int .i64 x]).setRow (w.heap.size+1+1) cs):=by
 have k:=h.h2.set (g':=w.heap.size+1+1+1) #[.string t,.int .i64 x] (fun e=>absurd e (by omega));exact⟨au k _,by rw[cT _ _ _ _ (by omega),au h.h3],ZA (ZA h.bel (by omega) _) (by omega) _⟩
theorem list14:∀ l:Z1 Int,l.length=14->∃ H B E I D A C G F J j u z m,l=[H,B,E,I,D,A,C,G,F,J,j,u,z,m]
 | [H,B,E,I,D,A,C,G,F,J,j,u,z,m],_=>⟨H,B,E,I,D,A,C,G,F,J,j,u,z,m,rfl⟩
def G14(W:ZY)(f a:Nat)(H B E I D A C G F J j u z m:Int):Prop:=W.cell? ⟨f,a+0,Z7⟩=Z9 (.int .i64 H)/\W.cell? ⟨f,a+1,Z7⟩=Z9 (.int .i64 B)/\W.cell? ⟨f,a+2,Z7⟩=Z9 (.int .i64 E)/\W.cell? ⟨f,a+3,Z7⟩=Z9 (.int .i64 I)/\W.cell? ⟨f,a+4,Z7⟩=Z9 (.int .i64 D)/\W.cell? ⟨f,a+5,Z7⟩=Z9 (.int .i64 A)/\W.cell? ⟨f,a+6,Z7⟩=Z9 (.int .i64 C)/\W.cell? ⟨f,a+7,Z7⟩=Z9 (.int .i64 G)/\W.cell? ⟨f,a+8,Z7⟩=Z9 (.int .i64 F)/\W.cell? ⟨f,a+9,Z7⟩=Z9 (.int .i64 J)/\W.cell? ⟨f,a+10,Z7⟩=Z9 (.int .i64 j)/\W.cell? ⟨f,a+11,Z7⟩=Z9 (.int .i64 u)/\W.cell? ⟨f,a+12,Z7⟩=Z9 (.int .i64 z)/\W.cell? ⟨f,a+13,Z7⟩=Z9 (.int .i64 m)
theorem G14.below(o:Z4 W.heap.size W e)(h:G14 W f a H B E I D A C G F J j u z m):G14 e f a H B E I D A C G F J j u z m:=⟨ai o h.1,ai o h.2.1,ai o h.2.2.1,ai o h.2.2.2.1,ai o h.2.2.2.2.1,ai o h.2.2.2.2.2.1,ai o h.2.2.2.2.2.2.1,ai o h.2.2.2.2.2.2.2.1,ai o h.2.2.2.2.2.2.2.2.1,ai o h.2.2.2.2.2.2.2.2.2.1,ai o h.2.2.2.2.2.2.2.2.2.2.1,ai o h.2.2.2.2.2.2.2.2.2.2.2.1,ai o h.2.2.2.2.2.2.2.2.2.2.2.2.1,ai o h.2.2.2.2.2.2.2.2.2.2.2.2.2⟩
theorem F0.setD(h:F0 w wr b cs ds t x)(o:Zy Z2)(p:o.size=21):F0 w (wr.setRow (b+1) o) b cs o t x:=by
 have k:=h.far;exact⟨by rw[cT _ _ _ _ (by omega)];exact h.r0,by rw[cT _ _ _ _ (by omega)];exact h.rb,au h.hd _,h.h0.set _ (fun e=>absurd e (by omega)),h.hb.set _ (fun e=>absurd e (by omega)),h.hd.set _ (fun _=>p),h.h2.set _ (fun e=>absurd e (by omega)),h.h3.set _ (fun e=>absurd e (by omega)),ZA h.bel (by omega) _,k⟩
theorem wF(v:Operand->Z2)(w:ZY)(dst x y t' pos af gd)(o:db (v x)=true)(p:Held w (bF (v x)) 21)(q:cV (v y)=true)(r:(bA (v y)).size=21)(s:bh (bA (v y)).toList=true) :
 (execOp v ⟨dst,.store 25 x y,t',pos,af,gd⟩).run Tryz.prog w=.ok .skip (w.setRow (bF (v x)) (bA (v y))) :=
 kN v w _ 20 (by kernel_rfl) dst x y t' pos af gd o p q r s
theorem S14.of(s:Z4 W.heap.size W w')(h:G14 W f a H B E I D A C G F J j u z m):w'.cell? ⟨f,a,Z7⟩=Z9 (.int .i64 H)/\w'.cell? ⟨f,a+1,Z7⟩=Z9 (.int .i64 B)/\w'.cell? ⟨f,a+2,Z7⟩=Z9 (.int .i64 E)/\w'.cell? ⟨f,a+3,Z7⟩=Z9 (.int .i64 I)/\w'.cell? ⟨f,a+4,Z7⟩=Z9 (.int .i64 D)/\w'.cell? ⟨f,a+5,Z7⟩=Z9 (.int .i64 A)/\w'.cell? ⟨f,a+6,Z7⟩=Z9 (.int .i64 C)/\w'.cell? ⟨f,a+7,Z7⟩=Z9 (.int .i64 G)/\w'.cell? ⟨f,a+8,Z7⟩=Z9 (.int .i64 F)/\w'.cell? ⟨f,a+9,Z7⟩=Z9 (.int .i64 J)/\w'.cell? ⟨f,a+10,Z7⟩=Z9 (.int .i64 j)/\w'.cell? ⟨f,a+11,Z7⟩=Z9 (.int .i64 u)/\w'.cell? ⟨f,a+12,Z7⟩=Z9 (.int .i64 z)/\w'.cell? ⟨f,a+13,Z7⟩=Z9 (.int .i64 m)/\Z4 W.heap.size W w':=by
 obtain⟨v,y,K,O,P,Q,R,S,T,U,o,p,q,r⟩:=G14.below s h;exact⟨v,y,K,O,P,Q,R,S,T,U,o,p,q,r,s⟩
attribute [local go_sem ↓] aZ bf bq jM jR fe qh wF qz
attribute [local go_sem] bn aS fx aH aK aT az aM ah bW aQ aL aP aO aR aY aW
-- PRINTED BY mkrg0.py
theorem rfields0(w:ZY)(hl:l.size<=1000) :
 Calls Tryz.prog 311 #[.agg (zlit 0 h),.agg #[.string l,.int .i64 0]] w fun r w'=>∃ (N:Z2) (t:Z6),r=.returned (.tuple #[.agg ((ew (Zi 0 h) (Z5 l,0)).1.vals N (.slice Z7 0 0)),.agg #[.string t,.int .i64 (ew (Zi 0 h) (Z5 l,0)).2.2.2]])/\IS w' N (ew (Zi 0 h) (Z5 l,0)).2.1/\Z5 t=(ew (Zi 0 h) (Z5 l,0)).2.2.1/\Z4 w.heap.size w w'/\(∀ y,N.ownBlock=Z9 y->w.heap.size<=y):=by
 obtain⟨s0,a5⟩:∃ s0:Z1 ZM × Nat,s0=(Z5 l,0):=⟨_,rfl⟩;have m0:s0.1.length<=1000:=by rw[a5];simp only[ZZ];exact hl
 obtain⟨ns,s1,a7⟩:∃ (v:Z1 Int) (s:Z1 ZM × Nat),rL s0 14=(v,s):=⟨_,_,rfl⟩;have m1:s1.1.length<=1000:=by have:=mO s0 14;rw[a7] at this;simp only at this;omega
 have b0:ns.length=14:=by have:=qG s0 14;rw[a7] at this;exact this
 obtain⟨v2,s2,b2⟩:∃ (v:Bool) (s:Z1 ZM × Nat),Rd.boo s1=(v,s):=⟨_,_,rfl⟩;have m2:s2.1.length<=1000:=by have:=Rd.boo_len s1;rw[b2] at this;simp only at this;omega
 obtain⟨v3,s3,b3⟩:∃ (v:Int) (s:Z1 ZM × Nat),rN s2=(v,s):=⟨_,_,rfl⟩;have m3:s3.1.length<=1000:=by have:=il s2;rw[b3] at this;simp only at this;omega
 obtain⟨v4,s4,b4⟩:∃ (v:Z1 ZM) (s:Z1 ZM × Nat),Rd.txt 8 s3=(v,s):=⟨_,_,rfl⟩;have m4:s4.1.length<=1000:=by have:=(Rd.txt_len 8 s3).1;rw[b4] at this;simp only at this;omega
 obtain⟨v5,s5,b5⟩:∃ (v:Z1 ZM) (s:Z1 ZM × Nat),Rd.txt 8 s4=(v,s):=⟨_,_,rfl⟩;have m5:s5.1.length<=1000:=by have:=(Rd.txt_len 8 s4).1;rw[b5] at this;simp only at this;omega
 obtain⟨v6,s6,b6⟩:∃ (v:Int) (s:Z1 ZM × Nat),rN s5=(v,s):=⟨_,_,rfl⟩;have m6:s6.1.length<=1000:=by have:=il s5;rw[b6] at this;simp only at this;omega
 obtain⟨v7,s7,b7⟩:∃ (v:Int) (s:Z1 ZM × Nat),rN s6=(v,s):=⟨_,_,rfl⟩;have m7:s7.1.length<=1000:=by have:=il s6;rw[b7] at this;simp only at this;omega
 obtain⟨v8,s8,b8⟩:∃ (v:Bool) (s:Z1 ZM × Nat),Rd.boo s7=(v,s):=⟨_,_,rfl⟩;have m8:s8.1.length<=1000:=by have:=Rd.boo_len s7;rw[b8] at this;simp only at this;omega
 obtain⟨v9,s9,a8⟩:∃ (v:Nat) (s:Z1 ZM × Nat),Rd.cnt 4 s8=(v,s):=⟨_,_,rfl⟩;have m9:s9.1.length<=1000:=by have:=Rd.cnt_len 4 s8;rw[a8] at this;simp only at this;omega
 have gs:v9<=4:=by have:=Rd.cnt_le 4 s8;rw[a8] at this;exact this
 obtain⟨ls,a0,a3⟩:∃ (v:Z1 Int) (s:Z1 ZM × Nat),rL s9 v9=(v,s):=⟨_,_,rfl⟩;have gw:a0.1.length<=1000:=by have:=mO s9 v9;rw[a3] at this;simp only at this;omega
 obtain⟨a9,a1,a4⟩:∃ (v:Int) (s:Z1 ZM × Nat),rN a0=(v,s):=⟨_,_,rfl⟩;have gx:a1.1.length<=1000:=by have:=il a0;rw[a4] at this;simp only at this;omega
 obtain⟨H,B,E,I,D,A,C,G,F,J,j,u,z,m,rfl⟩:=list14 ns b0;clear b0;obtain⟨eF,b1⟩:∃ eF:En,({ Zi 0 h with d0:=H,d1:=B,d2:=E,d3:=I,d4:=D,d5:=A,d6:=C,d7:=G,d8:=F,d9:=J,d10:=j,d11:=u,d12:=z,d13:=m,uq:=v2,cls:=v3,vol:=⟨v4.toArray⟩,own:=⟨v5.toArray⟩,cr:=v6,ex:=v7,ar:=v8,used:=a9 }:En)=eF:=⟨_,rfl⟩
 have cb:ew (Zi 0 h) (Z5 l,0)=(eF,ls,a1):=by
  rw[<-a5,<-b1];unfold ew;simp only[a7,b2,b3,b4,b5,b6,b7,b8,a8,a3,a4]
  rfl
 rw[cb];have ba:=lh b1;clear cb b1;have hS:=FW.start w (zlit 0 h) (zlit 0 ⟨#[]⟩) l s0.2 29 326 29 326 rfl rfl;have e0:s0.2=0:=by rw[a5]
 have cd:Z5 l=s0.1:=by rw[a5]
 have x0:l.size<=10000:=by omega
 have Q:=fun W=>rlist l s0.2 14 W x0 (by decide)
 rw[show (Z5 l,s0.2)=s0 by rw[cd],a7] at Q;simp only[show (((14:Nat):Int))=(14:Int) from rfl] at Q
 rw[e0] at hS Q;clear e0 cd a5 hl;unfold zlit at hS;simp only[show (((0:Nat):Int))=(0:Int) from rfl] at hS Q
 have HS:=lh hS;have V:=lh Q;clear hS Q;unfold zlit;go_enter Tryz.func311,Tryz.ntmps311
 go_upto_region 1 with fail
 generalize Z:((((w.alloc _).alloc _).alloc _).alloc _)=W0 at HS |-;clear Z;have HS:Hid (FW w W0 (zlit 0 h) l 0):=HS;have r0:=HS.o.r0;have r1:=HS.o.r1;simp only[show (((0:Nat):Int))=(0:Int) from rfl] at r1
 have n0:=ae r0 0 (.int .i64 0) rfl;go_upto_region 4 with (go_at_call 331;(with_reducible refine (V.o _).mono ?_);rintro _ d ⟨v,t1,rfl,hI,X,U,ho⟩;have P:=HS.o.below U;have o:=lh P;have bk:=lh X;have HI:=lh hI;clear P U X ho hI)
 clear r0 r1 n0 HS V;have hI:=HI.o;obtain⟨av,cv,rfl,-,hc⟩:=hI;obtain⟨f,a,rfl,ei,O⟩:=hc (Zl rfl);have g0:d.cell? ⟨f,a+0,Z7⟩=Z9 (.int .i64 H):=O 0 (Zl rfl);have g1:d.cell? ⟨f,a+1,Z7⟩=Z9 (.int .i64 B):=O 1 (Zl rfl);have g2:d.cell? ⟨f,a+2,Z7⟩=Z9 (.int .i64 E):=O 2 (Zl rfl);have g3:d.cell? ⟨f,a+3,Z7⟩=Z9 (.int .i64 I):=O 3 (Zl rfl);have g4:d.cell? ⟨f,a+4,Z7⟩=Z9 (.int .i64 D):=O 4 (Zl rfl);have g5:d.cell? ⟨f,a+5,Z7⟩=Z9 (.int .i64 A):=O 5 (Zl rfl);have g6:d.cell? ⟨f,a+6,Z7⟩=Z9 (.int .i64 C):=O 6 (Zl rfl);have g7:d.cell? ⟨f,a+7,Z7⟩=Z9 (.int .i64 G):=O 7 (Zl rfl);have g8:d.cell? ⟨f,a+8,Z7⟩=Z9 (.int .i64 F):=O 8 (Zl rfl);have g9:d.cell? ⟨f,a+9,Z7⟩=Z9 (.int .i64 J):=O 9 (Zl rfl);have c6:d.cell? ⟨f,a+10,Z7⟩=Z9 (.int .i64 j):=O 10 (Zl rfl);have c7:d.cell? ⟨f,a+11,Z7⟩=Z9 (.int .i64 u):=O 11 (Zl rfl);have c8:d.cell? ⟨f,a+12,Z7⟩=Z9 (.int .i64 z):=O 12 (Zl rfl);have c9:d.cell? ⟨f,a+13,Z7⟩=Z9 (.int .i64 m):=O 13 (Zl rfl);clear O HI hc;have ee:w.heap.size+1+1+1<d.heap.size:=o.o.h3.lt;have G0:G14 d f a H B E I D A C G F J j u z m:=⟨g0,g1,g2,g3,g4,g5,g6,g7,g8,g9,c6,c7,c8,c9⟩;have BB:Z4 (d.alloc (.cells #[.string t1,.int .i64 s1.2] 326)).heap.size (d.alloc (.cells #[.string t1,.int .i64 s1.2] 326)) (d.alloc (.cells #[.string t1,.int .i64 s1.2] 326)).drew:=Y3 (ZR _ _);have G1:=G14.below ((ZR d.heap.size d).alloc (ZV _) (.cells #[.string t1,.int .i64 s1.2] 326)) G0;have S4:=S14.of BB G1;clear g0 g1 g2 g3 g4 g5 g6 g7 g8 g9 c6 c7 c8 c9;refine wp_region_held_drew (S:=fun w'=>w'.cell? ⟨f,a,Z7⟩=Z9 (.int .i64 H)/\w'.cell? ⟨f,a+1,Z7⟩=Z9 (.int .i64 B)/\w'.cell? ⟨f,a+2,Z7⟩=Z9 (.int .i64 E)/\w'.cell? ⟨f,a+3,Z7⟩=Z9 (.int .i64 I)/\w'.cell? ⟨f,a+4,Z7⟩=Z9 (.int .i64 D)/\w'.cell? ⟨f,a+5,Z7⟩=Z9 (.int .i64 A)/\w'.cell? ⟨f,a+6,Z7⟩=Z9 (.int .i64 C)/\w'.cell? ⟨f,a+7,Z7⟩=Z9 (.int .i64 G)/\w'.cell? ⟨f,a+8,Z7⟩=Z9 (.int .i64 F)/\w'.cell? ⟨f,a+9,Z7⟩=Z9 (.int .i64 J)/\w'.cell? ⟨f,a+10,Z7⟩=Z9 (.int .i64 j)/\w'.cell? ⟨f,a+11,Z7⟩=Z9 (.int .i64 u)/\w'.cell? ⟨f,a+12,Z7⟩=Z9 (.int .i64 z)/\w'.cell? ⟨f,a+13,Z7⟩=Z9 (.int .i64 m)/\Z4 (d.alloc (.cells #[.string t1,.int .i64 s1.2] 326)).heap.size (d.alloc (.cells #[.string t1,.int .i64 s1.2] 326)) w') (by kernel_rfl) ?_ (fun hHeld=>?_)
 .exact S4
 (refine rgy (i:=0) (Z9 22) ?_;(try simp only[ZL,pz]))
 (refine rgy (i:=1) (Z9 23) ?_;(try simp only[ZL,pz]))
 (refine rgy (i:=2) (Z9 24) ?_;(try simp only[ZL,pz]))
 (refine rgy (i:=3) (Z9 25) ?_;(try simp only[ZL,pz]))
 (refine rgy (i:=4) (Z9 26) ?_;(try simp only[ZL,pz]))
 (refine rgy (i:=5) (Z9 27) ?_;(try simp only[ZL,pz]))
 (refine rgy (i:=6) (Z9 28) ?_;(try simp only[ZL,pz]))
 (refine rgy (i:=7) (Z9 29) ?_;(try simp only[ZL,pz]))
 (refine rgy (i:=8) (Z9 30) ?_;(try simp only[ZL,pz]))
 (refine rgy (i:=9) (Z9 31) ?_;(try simp only[ZL,pz]))
 (refine rgy (i:=10) (Z9 32) ?_;(try simp only[ZL,pz]))
 (refine rgy (i:=11) (Z9 33) ?_;(try simp only[ZL,pz]))
 (refine rgy (i:=12) (Z9 34) ?_;(try simp only[ZL,pz]))
 (refine rgy (i:=13) (Z9 35) ?_;(try simp only[ZL,pz]))
 (refine rgy (i:=14) (Z9 36) ?_;(try simp only[ZL,pz]))
 (refine rgy (i:=15) (Z9 37) ?_;(try simp only[ZL,pz]))
 (refine rgy (i:=16) (Z9 38) ?_;(try simp only[ZL,pz]))
 (refine rgy (i:=17) (Z9 39) ?_;(try simp only[ZL,pz]))
 (refine rgy (i:=18) (Z9 40) ?_;(try simp only[ZL,pz]))
 (refine rgy (i:=19) (Z9 41) ?_;(try simp only[ZL,pz]))
 (refine rgy (i:=20) (Z9 42) ?_;(try simp only[ZL,pz]))
 (refine rgy (i:=21) (Z9 43) ?_;(try simp only[ZL,pz]))
 (refine rgy (i:=22) (Z9 44) ?_;(try simp only[ZL,pz]))
 (refine rgy (i:=23) (Z9 45) ?_;(try simp only[ZL,pz]))
 (refine rgy (i:=24) (Z9 46) ?_;(try simp only[ZL,pz]))
 (refine rgy (i:=25) (Z9 47) ?_;(try simp only[ZL,pz]))
 (refine rgy (i:=26) (Z9 48) ?_;(try simp only[ZL,pz]))
 (refine rgy (i:=27) (Z9 49) ?_;(try simp only[ZL,pz]))
 (refine rgy (i:=28) (Z9 50) ?_;(try simp only[ZL,pz]))
 (refine rgy (i:=29) (Z9 51) ?_;(try simp only[ZL,pz]))
 (refine rgy (i:=30) (Z9 52) ?_;(try simp only[ZL,pz]))
 (refine rgy (i:=31) (Z9 53) ?_;(try simp only[ZL,pz]))
 (refine rgy (i:=32) (Z9 54) ?_;(try simp only[ZL,pz]))
 (refine rgy (i:=33) (Z9 55) ?_;(try simp only[ZL,pz]))
 (refine rgy (i:=34) (Z9 56) ?_;(try simp only[ZL,pz]))
 (refine rgy (i:=35) (Z9 57) ?_;(try simp only[ZL,pz]))
 (refine rgy (i:=36) (Z9 58) ?_;(try simp only[ZL,pz]))
 (refine rgy (i:=37) (Z9 59) ?_;(try simp only[ZL,pz]))
 (refine rgy (i:=38) (Z9 60) ?_;(try simp only[ZL,pz]))
 (refine rgy (i:=39) (Z9 61) ?_;(try simp only[ZL,pz]))
 (refine rgy (i:=40) (Z9 62) ?_;(try simp only[ZL,pz]))
 (refine rgy (i:=41) (Z9 63) ?_;(try simp only[ZL,pz]))
 (refine rgy (i:=42) (Z9 64) ?_;(try simp only[ZL,pz]))
 refine rgb (i:=43) (by kernel_rfl) rfl (fun K hK=>?_)
 go_simp
 have HZ:=(F0.start o.o t1 s1.2 (#[.int .i64 0,.int .i64 0,.int .i64 0,.int .i64 0,.int .i64 0,.int .i64 0,.int .i64 0,.int .i64 0,.int .i64 0,.int .i64 0,.int .i64 0,.int .i64 0,.int .i64 0,.int .i64 0,.bool ZW,.int .i64 0,.string ⟨#[]⟩,.string ⟨#[]⟩,.int .i64 0,.int .i64 0,.bool ZW]) 326 25 rfl).below (Y3 (ZR _ _));have BZ:Z4 (d.alloc (.cells #[.string t1,.int .i64 s1.2] 326)).heap.size (d.alloc (.cells #[.string t1,.int .i64 s1.2] 326)) ((d.alloc (.cells #[.string t1,.int .i64 s1.2] 326)).alloc (.cells (#[.int .i64 0,.int .i64 0,.int .i64 0,.int .i64 0,.int .i64 0,.int .i64 0,.int .i64 0,.int .i64 0,.int .i64 0,.int .i64 0,.int .i64 0,.int .i64 0,.int .i64 0,.int .i64 0,.bool ZW,.int .i64 0,.string ⟨#[]⟩,.string ⟨#[]⟩,.int .i64 0,.int .i64 0,.bool ZW]) 25)).drew:=Y3 ((ZR _ _).alloc (ZV _) _);refine hK.out _ _ (S14.of BZ G1) (fun hHeld=>?_)
 (clear hK K;(try simp only[ZL,pz]))
 generalize Z:World.drew (VC (VC d _) _)=W3 at HZ BZ hHeld |-;clear Z;have al:bh (#[.int .i64 H,.int .i64 B,.int .i64 E,.int .i64 I,.int .i64 D,.int .i64 A,.int .i64 C,.int .i64 G,.int .i64 F,.int .i64 J,.int .i64 j,.int .i64 u,.int .i64 z,.int .i64 m,.bool ZW,.int .i64 0,.string ⟨#[]⟩,.string ⟨#[]⟩,.int .i64 0,.int .i64 0,.bool ZW]:Zy Z2).toList=true:=by simp [aL,aQ,aP,aR,aO]
 have ao:=HZ.hd;have b9:Z4 (d.alloc (.cells #[.string t1,.int .i64 s1.2] 326)).heap.size (d.alloc (.cells #[.string t1,.int .i64 s1.2] 326)) (W3.setRow (d.heap.size+1) (#[.int .i64 H,.int .i64 B,.int .i64 E,.int .i64 I,.int .i64 D,.int .i64 A,.int .i64 C,.int .i64 G,.int .i64 F,.int .i64 J,.int .i64 j,.int .i64 u,.int .i64 z,.int .i64 m,.bool ZW,.int .i64 0,.string ⟨#[]⟩,.string ⟨#[]⟩,.int .i64 0,.int .i64 0,.bool ZW])):=ZA BZ (by simp) _;refine lS (i:=44) Z7 (W3.setRow (d.heap.size+1) (#[.int .i64 H,.int .i64 B,.int .i64 E,.int .i64 I,.int .i64 D,.int .i64 A,.int .i64 C,.int .i64 G,.int .i64 F,.int .i64 J,.int .i64 j,.int .i64 u,.int .i64 z,.int .i64 m,.bool ZW,.int .i64 0,.string ⟨#[]⟩,.string ⟨#[]⟩,.int .i64 0,.int .i64 0,.bool ZW])) rfl rfl (by kernel_rfl) (by kernel_rfl) (wF _ _ _ (.tmp 8) (.tmp 64) _ _ _ _ rfl ao rfl rfl al) (S14.of b9 G1) ?_
 (try simp only[ZL,Zt,Ze,Zd])
 refine wpAnyH_done (by kernel_rfl) ?_ _
 have R:=lh (HZ.setD (#[.int .i64 H,.int .i64 B,.int .i64 E,.int .i64 I,.int .i64 D,.int .i64 A,.int .i64 C,.int .i64 G,.int .i64 F,.int .i64 J,.int .i64 j,.int .i64 u,.int .i64 z,.int .i64 m,.bool ZW,.int .i64 0,.string ⟨#[]⟩,.string ⟨#[]⟩,.int .i64 0,.int .i64 0,.bool ZW]) rfl);clear hHeld HZ BZ b9 al ao S4 G0 G1 BB o ei;generalize Z:YO _ _ _=W4 at R |-;clear Z;generalize hB:d.heap.size=b at R ee |-;clear hB;generalize hD:(#[.int .i64 H,.int .i64 B,.int .i64 E,.int .i64 I,.int .i64 D,.int .i64 A,.int .i64 C,.int .i64 G,.int .i64 F,.int .i64 J,.int .i64 j,.int .i64 u,.int .i64 z,.int .i64 m,.bool ZW,.int .i64 0,.string ⟨#[]⟩,.string ⟨#[]⟩,.int .i64 0,.int .i64 0,.bool ZW]:Zy Z2)=D0 at R;have gd:D0.size=21:=by rw[<-hD];rfl
 have dl:=lh hD;clear hD;generalize Y:zlit 0 h=C0 at R;have ce:C0.size=33:=by rw[<-Y];rfl
 have cw:=lh Y;clear Y;have x1:t1.size<=10000:=by rw[<-ZZ,bk.o];omega
 have Q:=fun W=>mQ t1 s1.2 W x1
 rw[show (Z5 t1,s1.2)=s1 by rw[bk.o],b2] at Q;simp only at Q
 have V:=lh Q;clear Q;have rb:=R.o.rb;obtain⟨y1,el⟩:∃ y,D0[14]?=Z9 y:=⟨_,Zu (by omega)⟩;go_upto_region 6 with (go_at_call 332;(with_reducible refine (V.o _).mono ?_);rintro _ w4 ⟨t2,rfl,X,U⟩;have P:=R.o.below U;have o:=lh P;have bp:=lh X;have cc:=ae P.rd 14 _ el;have ff:=P.hd.2.2;have q1:=fun v=>bG P.hb (b+1) 14 v;clear P U X)
 have T:=o.o.step 14 (.bool v2) t2 s2.2;generalize Z:YO (Ys _ _ _) _ _=W4 at T |-;clear Z cc ff q1 rb V R o;have ck:(D0.setIfInBounds 14 (.bool v2)).size=21:=by simpa using gd
 generalize Y:D0.setIfInBounds 14 (.bool v2)=D1 at T ck;have dm:=lh Y;have R:=lh T;clear Y T;have x2:t2.size<=10000:=by rw[<-ZZ,bp.o];omega
 have Q:=fun W=>rread t2 s2.2 W x2
 rw[show (Z5 t2,s2.2)=s2 by rw[bp.o],b3] at Q;simp only at Q
 have V:=lh Q;clear Q;have rb:=R.o.rb;obtain⟨y2,em⟩:∃ y,D1[15]?=Z9 y:=⟨_,Zu (by omega)⟩;go_upto_region 7 with (go_at_call 333;(with_reducible refine (V.o _).mono ?_);rintro _ L ⟨t3,rfl,X,U⟩;have P:=R.o.below U;have o:=lh P;have br:=lh X;have cc:=ae P.rd 15 _ em;have ff:=P.hd.2.2;have q1:=fun v=>bG P.hb (b+1) 15 v;clear P U X)
 have T:=o.o.step 15 (.int .i64 v3) t3 s3.2;generalize Z:YO (Ys _ _ _) _ _=W5 at T |-;clear Z cc ff q1 rb V R o;have cm:(D1.setIfInBounds 15 (.int .i64 v3)).size=21:=by simpa using ck
 generalize Y:D1.setIfInBounds 15 (.int .i64 v3)=D2 at T cm;have dq:=lh Y;have R:=lh T;clear Y T;have x3:t3.size<=10000:=by rw[<-ZZ,br.o];omega
 have Q:=fun W=>ko t3 s3.2 8 W x3 (by decide)
 rw[show (Z5 t3,s3.2)=s3 by rw[br.o],b4] at Q;simp only[show (((8:Nat):Int))=(8:Int) from rfl] at Q
 have V:=lh Q;clear Q;have rb:=R.o.rb;obtain⟨y3,en⟩:∃ y,D2[16]?=Z9 y:=⟨_,Zu (by omega)⟩;go_upto_region 8 with (go_at_call 334;(with_reducible refine (V.o _).mono ?_);rintro _ w6 ⟨u4,t4,rfl,hu,X,U⟩;have P:=R.o.below U;have o:=lh P;have bs:=lh X;have e7:=lh hu;have cc:=ae P.rd 16 _ en;have ff:=P.hd.2.2;have q1:=fun v=>bG P.hb (b+1) 16 v;clear P U X hu)
 have T:=o.o.step 16 (.string u4) t4 s4.2;generalize Z:YO (Ys _ _ _) _ _=W6 at T |-;clear Z cc ff q1 rb V R o;have cn:(D2.setIfInBounds 16 (.string u4)).size=21:=by simpa using cm
 generalize Y:D2.setIfInBounds 16 (.string u4)=D3 at T cn;have du:=lh Y;have R:=lh T;clear Y T;have x4:t4.size<=10000:=by rw[<-ZZ,bs.o];omega
 have Q:=fun W=>ko t4 s4.2 8 W x4 (by decide)
 rw[show (Z5 t4,s4.2)=s4 by rw[bs.o],b5] at Q;simp only[show (((8:Nat):Int))=(8:Int) from rfl] at Q
 have V:=lh Q;clear Q;have rb:=R.o.rb;obtain⟨y4,ep⟩:∃ y,D3[17]?=Z9 y:=⟨_,Zu (by omega)⟩;go_upto_region 9 with (go_at_call 334;(with_reducible refine (V.o _).mono ?_);rintro _ w7 ⟨u5,t5,rfl,hu,X,U⟩;have P:=R.o.below U;have o:=lh P;have c0:=lh X;have e8:=lh hu;have cc:=ae P.rd 17 _ ep;have ff:=P.hd.2.2;have q1:=fun v=>bG P.hb (b+1) 17 v;clear P U X hu)
 have T:=o.o.step 17 (.string u5) t5 s5.2;generalize Z:YO (Ys _ _ _) _ _=W7 at T |-;clear Z cc ff q1 rb V R o;have cp:(D3.setIfInBounds 17 (.string u5)).size=21:=by simpa using cn
 generalize Y:D3.setIfInBounds 17 (.string u5)=D4 at T cp;have e3:=lh Y;have R:=lh T;clear Y T;have x5:t5.size<=10000:=by rw[<-ZZ,c0.o];omega
 have Q:=fun W=>rread t5 s5.2 W x5
 rw[show (Z5 t5,s5.2)=s5 by rw[c0.o],b6] at Q;simp only at Q
 have V:=lh Q;clear Q;have rb:=R.o.rb;obtain⟨y5,er⟩:∃ y,D4[18]?=Z9 y:=⟨_,Zu (by omega)⟩;go_upto_region 10 with (go_at_call 333;(with_reducible refine (V.o _).mono ?_);rintro _ w8 ⟨t6,rfl,X,U⟩;have P:=R.o.below U;have o:=lh P;have c1:=lh X;have cc:=ae P.rd 18 _ er;have ff:=P.hd.2.2;have q1:=fun v=>bG P.hb (b+1) 18 v;clear P U X)
 have T:=o.o.step 18 (.int .i64 v6) t6 s6.2;generalize Z:YO (Ys _ _ _) _ _=W8 at T |-;clear Z cc ff q1 rb V R o;have cq:(D4.setIfInBounds 18 (.int .i64 v6)).size=21:=by simpa using cp
 generalize Y:D4.setIfInBounds 18 (.int .i64 v6)=D5 at T cq;have e4:=lh Y;have R:=lh T;clear Y T;have x6:t6.size<=10000:=by rw[<-ZZ,c1.o];omega
 have Q:=fun W=>rread t6 s6.2 W x6
 rw[show (Z5 t6,s6.2)=s6 by rw[c1.o],b7] at Q;simp only at Q
 have V:=lh Q;clear Q;have rb:=R.o.rb;obtain⟨y6,es⟩:∃ y,D5[19]?=Z9 y:=⟨_,Zu (by omega)⟩;go_upto_region 11 with (go_at_call 333;(with_reducible refine (V.o _).mono ?_);rintro _ w9 ⟨t7,rfl,X,U⟩;have P:=R.o.below U;have o:=lh P;have c2:=lh X;have cc:=ae P.rd 19 _ es;have ff:=P.hd.2.2;have q1:=fun v=>bG P.hb (b+1) 19 v;clear P U X)
 have T:=o.o.step 19 (.int .i64 v7) t7 s7.2;generalize Z:YO (Ys _ _ _) _ _=W9 at T |-;clear Z cc ff q1 rb V R o;have ct:(D5.setIfInBounds 19 (.int .i64 v7)).size=21:=by simpa using cq
 generalize Y:D5.setIfInBounds 19 (.int .i64 v7)=D6 at T ct;have e5:=lh Y;have R:=lh T;clear Y T;have x7:t7.size<=10000:=by rw[<-ZZ,c2.o];omega
 have Q:=fun W=>mQ t7 s7.2 W x7
 rw[show (Z5 t7,s7.2)=s7 by rw[c2.o],b8] at Q;simp only at Q
 have V:=lh Q;clear Q;have rb:=R.o.rb;obtain⟨y7,et⟩:∃ y,D6[20]?=Z9 y:=⟨_,Zu (by omega)⟩;go_upto_region 12 with (go_at_call 332;(with_reducible refine (V.o _).mono ?_);rintro _ gy ⟨t8,rfl,X,U⟩;have P:=R.o.below U;have o:=lh P;have c3:=lh X;have cc:=ae P.rd 20 _ et;have ff:=P.hd.2.2;have q1:=fun v=>bG P.hb (b+1) 20 v;clear P U X)
 have T:=o.o.step 20 (.bool v8) t8 s8.2;generalize Z:YO (Ys _ _ _) _ _=gl at T |-;clear Z cc ff q1 rb V R o;have gf:(D6.setIfInBounds 20 (.bool v8)).size=21:=by simpa using ct
 generalize Y:D6.setIfInBounds 20 (.bool v8)=D7 at T gf;have e6:=lh Y;have R:=lh T;clear Y T;have x8:t8.size<=10000:=by rw[<-ZZ,c3.o];omega
 have Q:=fun W=>pe t8 s8.2 4 W x8 (by decide)
 rw[show (Z5 t8,s8.2)=s8 by rw[c3.o],a8] at Q;simp only[show (((4:Nat):Int))=(4:Int) from rfl] at Q
 have V:=lh Q;clear Q;have rb:=R.o.rb;go_upto_region 13 with (go_at_call 335;(with_reducible refine (V.o _).mono ?_);rintro _ gz ⟨t9,rfl,X,U⟩;have P:=R.o.below U;have o:=lh P;have c4:=lh X;have q1:=P.hb;clear P U X)
 have T:=o.o.read t9 s9.2;generalize Z:YO _ _ _=gn at T |-;clear Z q1 rb V R o;have R:=lh T;clear T
 have ca:D7=eF.dat:=by
  rw[<-ba.o,<-e6.o,<-e5.o,<-e4.o,<-e3.o,<-du.o,<-dq.o,<-dm.o,<-dl.o];rw[show u4=⟨v4.toArray⟩ from XR (e7.o.trans (X1 _).symm),show u5=⟨v5.toArray⟩ from XR (e8.o.trans (X1 _).symm)];unfold En.dat Zi En.zero;simp only[Zt,Zd,Ze]
 rw[ca] at R;clear ca;have rd:=R.o.rd;have h0:=R.o.h0;have zd:=bW eF;have od:=gO eF;go_upto_region 14 with fail
 have T:=R.o.desc ce;generalize Z:YO _ _ _=e9 at T |-;clear Z rd h0 zd od R;have cg:(over C0 2 eF.dat.toList).size=33:=by rw[jW];exact ce
 generalize Y:over C0 2 eF.dat.toList=C1 at T cg;have cz:=lh Y;have R:=lh T;clear Y T;have x9:t9.size<=10000:=by rw[<-ZZ,c4.o];omega
 have Q:=fun W=>rlist t9 s9.2 v9 W x9 (by omega)
 rw[show (Z5 t9,s9.2)=s9 by rw[c4.o],a3] at Q;simp only at Q
 have V:=lh Q;clear Q;have rb:=R.o.rb;obtain⟨y8,ev⟩:∃ y,C1[23]?=Z9 y:=⟨_,Zu (by omega)⟩;go_upto_region 15 with (go_at_call 331;(with_reducible refine (V.o _).mono ?_);rintro _ h1 ⟨N,a6,rfl,hI,X,U,ho⟩;have HI:=lh hI;have HO:=lh ho;obtain⟨aa,ac,rfl,-,-⟩:=hI;have P:=R.o.below U;have o:=lh P;have ab:=lh X;have cc:=ae P.r0 23 _ ev;have ff:=P.h0.2.2;have q1:=fun v=>bG P.hb w.heap.size 23 v;clear P U X ho)
 have zW:=R.o.hd.lt;have af:=R.o.far;have I3:=uE (g0:=w.heap.size) (b:=b) (i:=23) (v:=.slice aa ls.length ac) (c:=#[.string a6,.int .i64 a0.2]) HI.o _ HO.o (by omega) (by omega);have T:=o.o.stepE 23 (.slice aa ls.length ac) a6 a0.2;generalize Z:YO (Ys _ _ _) _ _=go at T I3 |-;clear Z cc ff q1 rb V R o;have gc:(C1.setIfInBounds 23 (.slice aa ls.length ac)).size=33:=by simpa using cg
 generalize Y:C1.setIfInBounds 23 (.slice aa ls.length ac)=C2 at T gc;have dj:=lh Y;have R:=lh T;have bb:=lh I3;clear Y T I3 HI;generalize e9.heap.size=gh at HO zW;have gb:a6.size<=10000:=by rw[<-ZZ,ab.o];omega
 have Q:=fun W=>rread a6 a0.2 W gb
 rw[show (Z5 a6,a0.2)=a0 by rw[ab.o],a4] at Q;simp only at Q
 have V:=lh Q;clear Q;have rb:=R.o.rb;obtain⟨y9,ga⟩:∃ y,C2[24]?=Z9 y:=⟨_,Zu (by omega)⟩;go_upto_region 16 with (go_at_call 333;(with_reducible refine (V.o _).mono ?_);rintro _ h2 ⟨a2,rfl,X,U⟩;have P:=R.o.below U;have o:=lh P;have ad:=lh X;have bc:=lh (bb.o.below U);have cc:=ae P.r0 24 _ ga;have ff:=P.h0.2.2;have q1:=fun v=>bG P.hb w.heap.size 24 v;clear P U X)
 have I5:=uE (g0:=w.heap.size) (b:=b) (i:=24) (v:=.int .i64 a9) (c:=#[.string a2,.int .i64 a1.2]) bc.o _ HO.o (by omega) (by omega);have T:=o.o.stepE 24 (.int .i64 a9) a2 a1.2;generalize Z:YO (Ys _ _ _) _ _=c5 at T I5 |-;clear Z cc ff q1 rb V R o
 have hF:C2.setIfInBounds 24 (.int .i64 a9)=eF.vals (.slice aa ls.length ac) (.slice Z7 0 0):=by
  rw[<-dj.o,<-cz.o,<-cw.o];have e:=qT eF aa ls.length ac;rw[<-ba.o] at e |-;exact e
 rw[hF] at T;have R:=lh T;have be:=lh I5;clear hF T I5 bb bc;have gg:=ay eF (.slice aa ls.length ac) (.slice Z7 0 0) rfl rfl;have HP:=R.o.pick;go_region_held3 (fun w'=>row w' w.heap.size=eF.vals (.slice aa ls.length ac) (.slice Z7 0 0)/\row w' b=#[.string a2,.int .i64 a1.2]/\Held w' (w.heap.size+1+1) 33/\Held w' (w.heap.size+1+1+1) 2) (first|assumption|exact HP|exact su af (by assumption) _ (Or.inl ⟨rfl,ah _ _ _⟩)|exact su af (by assumption) _ (Or.inr ⟨rfl,rfl⟩)) (fail)
 have FD:=R.o.below (Y3 (ZR c5.heap.size c5));have TA:=lh (Gw FD);have TB:=lh (Gx FD);have IA:=lh (vA (c:=eF.vals (.slice aa ls.length ac) (.slice Z7 0 0)) (c':=#[.string a2,.int .i64 a1.2]) be.o _ HO.o (p:=w.heap.size+1+1) (q:=w.heap.size+1+1+1) (by omega) (by omega));have IB:=lh (vA (c':=eF.vals (.slice aa ls.length ac) (.slice Z7 0 0)) (c:=#[.string a2,.int .i64 a1.2]) be.o _ HO.o (p:=w.heap.size+1+1+1) (q:=w.heap.size+1+1) (by omega) (by omega));have bi:Hid (∀ y,(Value.slice aa ls.length ac).ownBlock=Z9 y->w.heap.size<=y):=lh (fun y hy=>by have:=HO.o y hy;omega)
 all_goals
  go_wp2_with fail
  first
  | (refine ZD (ie (n:=32) (n':=1) rfl Tryz.underlying29 rfl (by kernel_rfl) Tryz.underlying326 rfl (by kernel_rfl) _ _ (w.heap.size+1+1) (w.heap.size+1+1+1) rfl rfl (by rw[TA.o.1];exact ah _ _ _) (by rw[TA.o.2.1];rfl)) rfl ?_
     rw[TA.o.1,TA.o.2.1];exact⟨_,a2,rfl,IA.o,ad.o,TA.o.2.2,bi.o⟩)
  | (refine ZD (ie (n:=32) (n':=1) rfl Tryz.underlying29 rfl (by kernel_rfl) Tryz.underlying326 rfl (by kernel_rfl) _ _ (w.heap.size+1+1) (w.heap.size+1+1+1) rfl rfl (by rw[TB.o.1];exact ah _ _ _) (by rw[TB.o.2.1];rfl)) rfl ?_
     rw[TB.o.1,TB.o.2.1];exact⟨_,a2,rfl,IB.o,ad.o,TB.o.2.2,bi.o⟩)
end
end Go.Proofs.YtnkjliahpeebjaaGreatDoor
