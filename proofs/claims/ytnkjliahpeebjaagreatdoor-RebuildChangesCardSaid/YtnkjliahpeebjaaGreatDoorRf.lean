/- Catalogs. -/
import Derived.Test.YtnkjliahpeebjaaGreatDoorRy
import Derived.Test.YtnkjliahpeebjaaGreatDoorAcA
import Derived.Test.YtnkjliahpeebjaaGreatDoorSaL
set_option maxRecDepth 8000
set_option maxHeartbeats 8000000
open Option renaming some->Z9,none->Z7
open _root_ renaming ByteArray->Z6,List->Z1,UInt8->ZM,Array->Zy
open Go.Proofs.YtnkjliahpeebjaaGreatDoor.Ds renaming bl->Z5,bl_length->ZZ
open Go.RowKit renaming Below->Z4
open Go renaming Value->Z2,World->ZY,Calls->ZH,bodyPost_ret->ZD,below_setRow->ZA,heap_alloc_new->Zs,TypeId->Y2,setCell_eq_setRow->WZ
open Nat renaming le_refl->ZV,zero_lt_succ->Xp
open Go.RowKit.Below renaming refl->ZR,drew->Y3
open Array renaming getElem?_eq_getElem->Zu
open List renaming setIfInBounds_toArray->Zt,set_cons_zero->Ze,set_cons_succ->Zd
open Go.Proofs.YtnkjliahpeebjaaGreatDoor.En renaming base->Zi,zero->YS,vals->VP
open Go.World renaming setRow->YO,setCell->Ys
namespace Go.Proofs.YtnkjliahpeebjaaGreatDoor
open Go.RowKit
variable(b a l:Z6){n g:Nat}{w wr d w':ZY}{s:Z1 ZM × Nat}{t:Z6}{cs f:Zy Z2}{out:Z2}{c' x k:Nat}
section
attribute [local go_sem ↓] jM jR
attribute [local go_sem] bn aS aH aK aT ak aI aw az aM aQ aL aP aO aR
theorem rread(x:Nat)(w:ZY)(z:b.size<=10000):ZH Tryz.prog 333 #[.agg #[.string b,.int .i64 x]] w fun r w'=>∃ t:Z6,r=.returned (.tuple #[.int .i64 (rN (Z5 b,x)).1,.agg #[.string t,.int .i64 (rN (Z5 b,x)).2.2]])/\Z5 t=(rN (Z5 b,x)).2.1/\Z4 w.heap.size w w':=by
 have q:Held ((w.alloc (.cells #[.string b,.int .i64 x] 326)).alloc (.cells #[.string ⟨#[]⟩,.int .i64 0] 326)) (w.heap.size+1) 2:=by
  have:=Held.new (w.alloc (.cells #[.string b,.int .i64 x] 326)) #[.string ⟨#[]⟩,.int .i64 0] 326 2 rfl (by decide);simpa using this
 have p:Held ((w.alloc (.cells #[.string b,.int .i64 x] 326)).alloc (.cells #[.string ⟨#[]⟩,.int .i64 0] 326)) w.heap.size 2:=(Held.new w #[.string b,.int .i64 x] 326 2 rfl (by decide)).below ((ZR _ _).alloc (ZV _) _);have m:=fun W=>sM b x W z
 have j:=Rd.num_lt (Z5 b,x);unfold rN rclip;generalize Rd.num (Z5 b,x)=A at m j |-;obtain⟨v,l,e⟩:=A;simp only at m j |-
 have N:=lh m;clear m;by_cases u:1099511627776<v
 .rw[if_pos u];have E:decide ((1099511627776:Int)<(v:Int))=true:=by rw[decide_eq_true_eq];omega
  clear j;go_enter Tryz.func333,Tryz.ntmps333
  go_wp2_with (go_at_call 342;(with_reducible refine (N.o _).mono ?_);rintro _ C ⟨t,rfl,i,h⟩;have K:=p.below h;have o:=q.below h;have B:=below2 h;have T:=lh i;have R:=fun c=>au K c;have H:=fun c=>o.set (g':=w.heap.size) c (fun e=>absurd e (by omega));clear h i)
  go_region
  all_goals
   go_wp2_with fail
   refine ZD (dE (n:=1) rfl Tryz.underlying326 rfl (by kernel_rfl) _ _ (w.heap.size+1) rfl (by first|(rw[au (H _).drew];rfl)|(rw[au (H _)];rfl))) rfl ?_
   (first|rw[au (H _).drew]|rw[au (H _)])
   exact⟨t,rfl,T.o,ZA (by first|exact ZA B (ZV _) _|exact Y3 (ZA B (ZV _) _)) (by omega) _⟩
 .rw[if_neg u];have E:decide ((1099511627776:Int)<(v:Int))=false:=by rw[decide_eq_false_iff_not];omega
  have y:IntKind.i64.wrap (v:Int)=(v:Int):=IntWalk.i64_in _ ⟨by omega,by omega⟩;clear j;go_enter Tryz.func333,Tryz.ntmps333
  go_wp2_with (go_at_call 342;(with_reducible refine (N.o _).mono ?_);rintro _ C ⟨t,rfl,i,h⟩;have K:=p.below h;have o:=q.below h;have B:=below2 h;have T:=lh i;have R:=fun c=>au K c;have H:=fun c=>o.set (g':=w.heap.size) c (fun e=>absurd e (by omega));clear h i)
  go_region
  all_goals
   go_wp2_with fail
   refine ZD (dE (n:=1) rfl Tryz.underlying326 rfl (by kernel_rfl) _ _ (w.heap.size+1) rfl (by first|(rw[au (H _).drew];rfl)|(rw[au (H _)];rfl))) rfl ?_
   (first|rw[au (H _).drew]|rw[au (H _)])
   exact⟨t,rfl,T.o,ZA (by first|exact ZA B (ZV _) _|exact Y3 (ZA B (ZV _) _)) (by omega) _⟩
theorem xo:Tryz.prog.info? 3=Z9 ((Tryz.prog.info? 3).getD default):=by kernel_rfl
theorem vw:((Tryz.prog.info? 3).getD default).zero=Z9 (.int .i64 0):=by kernel_rfl
theorem vx:((Tryz.prog.info? 3).getD default).size=1:=by kernel_rfl
theorem vy:((Tryz.prog.info? 3).getD default).bytes=8:=by kernel_rfl
structure RLs (w wr:ZY) (s:Z1 ZM × Nat) (k:Nat) (t:Z6) (out:Z2):Prop where
 own:wr.ownsRow (w.heap.size+2) 3 1 out k (iv (rL s k).1)
 txt:Z5 t=(rL s k).2.1
 row0:row wr w.heap.size=#[.string t,.int .i64 (rL s k).2.2]
 h0:Held wr w.heap.size 2
 h1:Held wr (w.heap.size+1) 2
 bel:Z4 w.heap.size w wr
 sz:w.heap.size+2<=wr.heap.size
theorem RLs.start(w:ZY)(b:Z6)(x:Nat)(T c:Y2):RLs w (((w.alloc (.cells #[.string b,.int .i64 x] T)).alloc (.cells #[.string ⟨#[]⟩,.int .i64 0] c)).alloc (.cells #[] 3)) (Z5 b,x) 0 b (.slice (Z9 ⟨w.heap.size+1+1,0,Z7⟩) 0 0):=by
 have B:Z4 (w.alloc (.cells #[.string b,.int .i64 x] T)).heap.size (w.alloc (.cells #[.string b,.int .i64 x] T)) (((w.alloc (.cells #[.string b,.int .i64 x] T)).alloc (.cells #[.string ⟨#[]⟩,.int .i64 0] c)).alloc (.cells #[] 3)):=by exact aB
 have e:Z4 ((w.alloc (.cells #[.string b,.int .i64 x] T)).alloc (.cells #[.string ⟨#[]⟩,.int .i64 0] c)).heap.size ((w.alloc (.cells #[.string b,.int .i64 x] T)).alloc (.cells #[.string ⟨#[]⟩,.int .i64 0] c)) (((w.alloc (.cells #[.string b,.int .i64 x] T)).alloc (.cells #[.string ⟨#[]⟩,.int .i64 0] c)).alloc (.cells #[] 3)):=by exact aB
 have q:=Held.new (w.alloc (.cells #[.string b,.int .i64 x] T)) #[.string ⟨#[]⟩,.int .i64 0] c 2 rfl (by decide);rw[show (w.alloc (.cells #[.string b,.int .i64 x] T)).heap.size=w.heap.size+1 by simp] at q;refine⟨?_,rfl,am B (ak w _ _ _) (Xp 1),(Held.new w _ T 2 rfl (by decide)).below B,q.below e,by exact aB,by simp⟩
 exact⟨rfl,.inr ⟨w.heap.size+1+1,0,#[],rfl,ZV _,by have:=Zs ((w.alloc (.cells #[.string b,.int .i64 x] T)).alloc (.cells #[.string ⟨#[]⟩,.int .i64 0] c)) (.cells #[] 3);simpa using this,ZV _,by unfold maxLen;omega,rfl,rfl⟩⟩
theorem nw(w:ZY)(o:Obj)(i:Nat)(h:i<w.heap.size):(w.alloc o).heap[i]?=w.heap[i]?:=((ZR w.heap.size w).alloc (ZV _) o).block i h
theorem RLs.own_far(h:RLs w wr s k t out):∀ y,out.ownBlock=Z9 y->w.heap.size+2<=y/\y<wr.heap.size:=(NW.owns h.own).2.2
theorem RLs.own_mid(h:RLs w wr s k t out)(H:Z4 wr.heap.size wr d)(c:Zy Z2)(o O:Obj) :
 (((d.alloc o).setRow w.heap.size c).alloc O).ownsRow (w.heap.size+2) 3 1 out k (iv (rL s k).1):=by
 refine mr h.own fun x e=>?_
 obtain⟨Y,y⟩:=h.own_far x e;have z:=H.size;rw[nw _ _ _ (by simp;omega),cP _ _ _ _ (by omega),nw _ _ _ (by omega)];exact H.block x y
theorem RLs.step{T:Z6}{A:Option Addr}{O:Obj}{u:Y2}(h:RLs w wr s k t out)(v:Z4 wr.heap.size wr d)(D:Z5 T=(rN (rL s k).2).2.1)(p:w'.ownsRow (w.heap.size+2) 3 1 (.slice A (k+1) c') (k+1) (iv (rL s k).1++[.int .i64 (rN (rL s k).2).1]))(c:(((d.alloc O).setRow w.heap.size #[.string T,.int .i64 (rN (rL s k).2).2.2]).alloc (.cells #[.int .i64 (rN (rL s k).2).1] u)).grownBy w' out.ownBlock):RLs w w' s (k+1) T (.slice A (k+1) c'):=by
 have z:=v.size;have Z:=h.sz;have E:=c.size;simp at E
 have B:Z4 d.heap.size d (d.alloc O):=(ZR _ _).alloc (ZV _) _;have k0:=(h.h0.below v).below B;have k1:=(h.h1.below v).below B;have C:∀ x:ZY,Z4 x.heap.size x (x.alloc (.cells #[.int .i64 (rN (rL s k).2).1] u)):=fun x=>(ZR _ _).alloc (ZV _) _
 have o:∀ j,j<w.heap.size+2->Z9 j≠out.ownBlock:=fun j y e=>by have:=(h.own_far j e.symm).1;omega
 have m:∀ j,j<w.heap.size+2->j<(((d.alloc O).setRow w.heap.size #[.string T,.int .i64 (rN (rL s k).2).2.2]).alloc (.cells #[.int .i64 (rN (rL s k).2).1] u)).heap.size:=fun j y=>by simp;omega
 have H:=fun j (y:j<w.heap.size+2)=>c.block j (m j y) (o j y)
 have r:row w' w.heap.size=#[.string T,.int .i64 (rN (rL s k).2).2.2]:=by
  unfold row;rw[H _ (by omega),nw _ _ _ (by simp;omega)];exact au k0 _
 have e1:rL s (k+1)=((rL s k).1++[(rN (rL s k).2).1],(rN (rL s k).2).2):=rfl;refine⟨?_,by rw[e1];exact D,by rw[e1];exact r,?_,?_,?_,by omega⟩
 .rw[e1];unfold iv;rw[List.map_append];exact p
 .exact ((k0.set _ (fun _=>rfl)).below (C _)).of_block (H _ (by omega))
 .exact ((k1.set _ (fun e=>absurd e (by omega))).below (C _)).of_block (H _ (by omega))
 .have q:Z4 w.heap.size w (((d.alloc O).setRow w.heap.size #[.string T,.int .i64 (rN (rL s k).2).2.2]).alloc (.cells #[.int .i64 (rN (rL s k).2).1] u)):=by
   refine Below.alloc (ZA (((h.bel.trans (v.mono (by omega))).alloc (by omega) _)) (ZV _) _) ?_ _
   simp;omega
  refine q.trans ⟨c.os,c.tape,c.output,c.size,fun i F=>c.block i (m i (by omega)) (o i (by omega))⟩
theorem DJ(w:ZY)(n:Int)(t:Y2)(k:Nat)(H:k=w.heap.size):CS (w.alloc (.cells #[.int .i64 n] t)) 1 (.slice (Z9 ⟨k,0,Z7⟩) 1 1) 1 [.int .i64 n]:=by
 subst H;refine⟨_,1,rfl,rfl,fun _=>⟨_,rfl,fun j u h=>?_⟩⟩
 have:j=0:=by
  rcases j with _|j
  .rfl
  .simp at h
 subst this;have e:u=.int .i64 n:=by simpa using h.symm
 subst e;rw[Addr.add_mid];exact (cell_of_row _ w.heap.size (0+0) _ t (0,0) (Zs w _)).trans rfl
theorem BL{B e:Nat}{v:Z2}{X:Z1 Z2}(h:w.ownsRow B e 1 v n X):∃ a c,v=.slice a n c:=by
 rcases h.2 with ⟨rfl,rfl⟩|⟨g,C,r,rfl,_⟩
 .exact⟨Z7,0,rfl⟩
 .exact⟨_,C,rfl⟩
theorem rlist(x n:Nat)(w:ZY)(K:b.size<=10000)(hn:n<=1000) :
 ZH Tryz.prog 331 #[.agg #[.string b,.int .i64 x],.int .i64 n] w fun r w'=>∃ (v:Z2) (t:Z6),r=.returned (.tuple #[v,.agg #[.string t,.int .i64 (rL (Z5 b,x) n).2.2]])/\IS w' v (rL (Z5 b,x) n).1/\Z5 t=(rL (Z5 b,x) n).2.1/\Z4 w.heap.size w w'/\(∀ y,v.ownBlock=Z9 y->w.heap.size<=y):=by
 have e:=RLs.start w b x 326 326;have T:=lh e;have h:∀ k,(rL (Z5 b,x) k).2.1.length<=10000:=fun k=>Nat.le_trans (mO (Z5 b,x) k) (by simp only[ZZ];exact K)
 have R:=lh h;clear e h K;generalize C:(Z5 b,x)=s at T R |-;clear C;go_enter Tryz.func331,Tryz.ntmps331
 go_wp2_with fail
 go_loopw [6,7,8,9] (fun out i _ _ wr=>∃ (k:Nat) (t:Z6),k<=n/\i=.int .i64 k/\RLs w wr s k t out) (fun _ i _ _ _=>n - (intOf i).toNat)
 case atStart=>exact⟨0,b,by omega,rfl,T.o⟩
 case round =>
  clear T;obtain⟨k,t,Y,rfl,S⟩:=hrel;have H:=lh S;have Q:=S.row0;have m:t.size<=10000:=by rw[<-ZZ,S.txt];exact R.o k
  obtain⟨G,cv,rfl⟩:=BL S.own;by_cases P:k<n
  .have F:=lh (fun W=>rread t (rL s k).2.2 W m);have I:(Z5 t,(rL s k).2.2)=(rL s k).2:=by rw[S.txt]
   rw[I] at F;have z:=S.sz;clear S I m
   go_wp2_with first|go_at_call 333;(with_reducible refine (F.o _).mono ?_);rintro _ d ⟨O,rfl,L,p⟩;have E:=lh p;have q:=lh L;have q0:=(H.o.h0.below p).below ((ZR _ _).alloc (ZV _) (.cells #[.string O,.int .i64 (rN (rL s k).2).2.2] 326));have z2:=p.size;clear p L|at_builtin;refine dQ _ rfl (.tmp 22) (.tmp 24) 26 3 _ _ 1 8 rfl Tryz.underlying26 xo vw vx vy rfl (by decide) (w.heap.size+2) (.slice G k cv) _ k 1 (iv (rL s k).1) _ rfl (H.o.own_mid E.o _ _ _) rfl (DJ _ _ _ _ (by simp)) (fun u N=>by simp at N;subst N;rfl) (by unfold maxLen;omega) (by omega) (by simp;omega) ?_;intro U c' w5 c J B;have X:=lh (H.o.step E.o q.o c J);clear c J B
   go_roundw
   case rel=>exact⟨k+1,O,by omega,by go_num,X.o⟩
   case measure=>simp [intOf];omega
  .obtain rfl:k=n:=by omega
   have o:=S.h1;have Z:(rL s k).1.length=k:=qG s k;clear S;go_wp2_with fail
   go_region
   all_goals
    go_wp2_with fail
    refine ZD (dE (n:=1) rfl Tryz.underlying326 rfl (by kernel_rfl) _ _ (w.heap.size+1) rfl (by first|(rw[au o.drew];rfl)|(rw[au o];rfl))) rfl ?_
    (first|rw[au o.drew]|rw[au o])
    refine⟨_,t,rfl,?_,H.o.txt,ZA (by first|exact H.o.bel|exact Below.drew H.o.bel) (by omega) _,fun y D=>by have:=(H.o.own_far y D).1;omega⟩
    have A:IS wr (.slice G k cv) (rL s k).1:=(NW.owns H.o.own).1.is (by omega);refine IS.keep A (w.heap.size+2) (fun y D=>(H.o.own_far y D).1) (by simp) (fun j V _=>?_)
    rw[cP _ _ _ _ (by omega)];rfl
end
section
theorem bG(h:Held w g n)(G i:Nat)(v:Z2):Held (w.setCell ⟨G,i,Z7⟩ v) g n:=by
 by_cases e:G=g
 .subst e;obtain⟨t,F,H⟩:=fR h;rw[WZ w G i _ t F v H];exact h.set _ (fun _=>by simpa using h.1)
 .exact h.of_block (ic (a:=⟨G,i,Z7⟩) (fun q=>e q.symm))
theorem kO(w:ZY)(g G i:Nat)(v:Z2)(h:g≠G):row (w.setCell ⟨G,i,Z7⟩ v) g=row w g:=by
 unfold row;rw[ic (a:=⟨G,i,Z7⟩) h]
theorem jU(h:Held w g n)(i:Nat)(v:Z2):row (w.setCell ⟨g,i,Z7⟩ v) g=(row w g).setIfInBounds i v:=by
 obtain⟨t,F,H⟩:=fR h;rw[WZ w g i _ t F v H];exact au h _
structure FW (w wr:ZY) (cs:Zy Z2) (t:Z6) (x:Nat):Prop where
 r0:row wr w.heap.size=cs
 r1:row wr (w.heap.size+1)=#[.string t,.int .i64 x]
 h0:Held wr w.heap.size 33
 h1:Held wr (w.heap.size+1) 2
 h2:Held wr (w.heap.size+1+1) 33
 h3:Held wr (w.heap.size+1+1+1) 2
 bel:Z4 w.heap.size w wr
theorem FW.start(w:ZY)(cs z:Zy Z2)(l:Z6)(x:Nat)(T c e h:Y2)(H:cs.size=33)(j:z.size=33):FW w ((((w.alloc (.cells cs T)).alloc (.cells #[.string l,.int .i64 x] c)).alloc (.cells z e)).alloc (.cells #[.string ⟨#[]⟩,.int .i64 0] h)) cs l x:=by
 have b:∀ (W:ZY) o,Z4 W.heap.size W (W.alloc o):=fun W o=>(ZR _ _).alloc (ZV _) o
 have m:=Held.new w cs T 33 H (by decide);have q:=Held.new (w.alloc (.cells cs T)) #[.string l,.int .i64 x] c 2 rfl (by decide);have Q:=Held.new ((w.alloc (.cells cs T)).alloc (.cells #[.string l,.int .i64 x] c)) z e 33 j (by decide);have i:=Held.new (((w.alloc (.cells cs T)).alloc (.cells #[.string l,.int .i64 x] c)).alloc (.cells z e)) #[.string ⟨#[]⟩,.int .i64 0] h 2 rfl (by decide);have R:=ak w cs T (0,0);have r:=ak (w.alloc (.cells cs T)) #[.string l,.int .i64 x] c (0,0);have S:(w.alloc (.cells cs T)).heap.size=w.heap.size+1:=by simp
 have p:((w.alloc (.cells cs T)).alloc (.cells #[.string l,.int .i64 x] c)).heap.size=w.heap.size+1+1:=by simp
 have u:(((w.alloc (.cells cs T)).alloc (.cells #[.string l,.int .i64 x] c)).alloc (.cells z e)).heap.size=w.heap.size+1+1+1:=by simp
 rw[S] at q r;rw[p] at Q;rw[u] at i;exact⟨am (b _ _) (am (b _ _) (am (b _ _) R (by omega)) (by omega)) (by omega),am (b _ _) (am (b _ _) r (Xp 1)) (Xp 1),((m.below (b _ _)).below (b _ _)).below (b _ _),(q.below (b _ _)).below (b _ _),Q.below (b _ _),i,by exact aB⟩
theorem FW.below(h:FW w wr cs t x)(H:Z4 wr.heap.size wr d):FW w d cs t x :=
 ⟨am H h.r0 (by rw[<-h.r0,h.h0.1];decide),am H h.r1 (Xp 1),h.h0.below H,h.h1.below H,h.h2.below H,h.h3.below H,bt h.bel H⟩
theorem FW.step(h:FW w d cs t x)(i:Nat)(v:Z2)(T:Z6)(X:Nat):FW w ((d.setCell ⟨w.heap.size,i,Z7⟩ v).setRow (w.heap.size+1) #[.string T,.int .i64 X]) (cs.setIfInBounds i v) T X:=by
 have k1:=bG h.h1 w.heap.size i v;refine⟨?_,au k1 _,(bG h.h0 _ _ _).set _ (fun e=>absurd e (by omega)),k1.set _ (fun _=>rfl),(bG h.h2 _ _ _).set _ (fun e=>absurd e (by omega)),(bG h.h3 _ _ _).set _ (fun e=>absurd e (by omega)),ZA (Below.setCell h.bel (ZV _) _) (by omega) _⟩
 rw[cT _ _ _ _ (by omega),jU h.h0,h.r0]
attribute [local go_sem ↓] aZ bf bq jM jR
attribute [local go_sem] bn aS aH aK aT az aM ah aQ aL aP aO aR aY aW
theorem FW.pick(h:FW w wr cs t x):row wr w.heap.size=cs/\row wr (w.heap.size+1)=#[.string t,.int .i64 x]/\Held wr (w.heap.size+1+1) 33/\Held wr (w.heap.size+1+1+1) 2:=⟨h.r0,h.r1,h.h2,h.h3⟩
theorem iQ{W:ZY}(h:row W g=cs/\row W (g+1)=f/\Held W (g+1+1) 33/\Held W (g+1+1+1) 2)(c:Zy Z2)(i:k=g+1+1/\c.size=33\/k=g+1+1+1/\c.size=2) :
 row (W.setRow k c) g=cs/\row (W.setRow k c) (g+1)=f/\Held (W.setRow k c) (g+1+1) 33/\Held (W.setRow k c) (g+1+1+1) 2:=by
 refine⟨by rw[cT _ _ _ _ (by omega)];exact h.1,by rw[cT _ _ _ _ (by omega)];exact h.2.1,h.2.2.1.set c (fun e=>?_),h.2.2.2.set c (fun e=>?_)⟩
 .rcases i with ⟨_,H⟩|⟨j,_⟩
  .exact H
  .omega
 .rcases i with ⟨j,_⟩|⟨_,H⟩
  .omega
  .exact H
theorem nC(h:FW w wr cs t x) :
 row ((wr.setRow (w.heap.size+1+1) cs).setRow (w.heap.size+1+1+1) #[.string t,.int .i64 x]) (w.heap.size+1+1)=cs/\row ((wr.setRow (w.heap.size+1+1) cs).setRow (w.heap.size+1+1+1) #[.string t,.int .i64 x]) (w.heap.size+1+1+1)=#[.string t,.int .i64 x]/\Z4 w.heap.size w ((wr.setRow (w.heap.size+1+1) cs).setRow (w.heap.size+1+1+1) #[.string t,.int .i64 x]):=by
 have k:=h.h3.set (g':=w.heap.size+1+1) cs (fun e=>absurd e (by omega));exact⟨by rw[cT _ _ _ _ (by omega),au h.h2],au k _,ZA (ZA h.bel (by omega) _) (by omega) _⟩
theorem nD(h:FW w wr cs t x) :
 row ((wr.setRow (w.heap.size+1+1+1) #[.string t,.int .i64 x]).setRow (w.heap.size+1+1) cs) (w.heap.size+1+1)=cs/\row ((wr.setRow (w.heap.size+1+1+1) #[.string t,.int .i64 x]).setRow (w.heap.size+1+1) cs) (w.heap.size+1+1+1)=#[.string t,.int .i64 x]/\Z4 w.heap.size w ((wr.setRow (w.heap.size+1+1+1) #[.string t,.int .i64 x]).setRow (w.heap.size+1+1) cs):=by
 have k:=h.h2.set (g':=w.heap.size+1+1+1) #[.string t,.int .i64 x] (fun e=>absurd e (by omega));exact⟨au k _,by rw[cT _ _ _ _ (by omega),au h.h3],ZA (ZA h.bel (by omega) _) (by omega) _⟩
-- PRINTED BY mkrf.py
theorem rfields2(w:ZY)(Z:l.size<=1000) :
 ZH Tryz.prog 311 #[.agg (zlit 2 a),.agg #[.string l,.int .i64 0]] w fun r w'=>∃ (t:Z6),r=.returned (.tuple #[.agg ((fM (Zi 2 a) (Z5 l,0)).1.vals (.slice Z7 0 0) (.slice Z7 0 0)),.agg #[.string t,.int .i64 (fM (Zi 2 a) (Z5 l,0)).2.2]])/\Z5 t=(fM (Zi 2 a) (Z5 l,0)).2.1/\Z4 w.heap.size w w':=by
 obtain⟨S,h⟩:∃ S:Z1 ZM × Nat,S=(Z5 l,0):=⟨_,rfl⟩;have m0:S.1.length<=1000:=by rw[h];simp only[ZZ];exact Z
 obtain⟨v1,D,i⟩:∃ (v:Z1 ZM) (s:Z1 ZM × Nat),Rd.txt 31 S=(v,s):=⟨_,_,rfl⟩;have m1:D.1.length<=1000:=by have:=(Rd.txt_len 31 S).1;rw[i] at this;simp only at this;omega
 obtain⟨E,F⟩:∃ E:En,({ Zi 2 a with target:=⟨v1.toArray⟩ }:En)=E:=⟨_,rfl⟩
 have u:fM (Zi 2 a) (Z5 l,0)=(E,D):=by
  rw[<-h,<-F];unfold fM;simp only[i]
 have K:=lh F;rw[u];clear u F;have q:=FW.start w (zlit 2 a) (zlit 0 ⟨#[]⟩) l S.2 29 326 29 326 rfl rfl;have N:S.2=0:=by rw[h]
 have z:Z5 l=S.1:=by rw[h]
 rw[N] at q;have J:=lh N;have o:=lh z;clear N z h Z;unfold zlit at q;simp only[show (((0:Nat):Int))=(0:Int) from rfl] at q
 have H:=lh q;clear q;unfold zlit;go_enter Tryz.func311,Tryz.ntmps311
 go_upto_region 1 with fail
 generalize O:((((w.alloc _).alloc _).alloc _).alloc _)=W0 at H |-;clear O;have H:Hid (FW w W0 (zlit 2 a) l 0):=H;have r0:=H.o.r0;have n0:=ae r0 0 (.int .i64 2) rfl;go_upto_region 24 with fail
 clear r0 n0;generalize e:zlit 2 a=C at H;have G:=lh e;have z0:C.size=33:=by rw[<-e];rfl
 have x0:l.size<=10000:=by rw[<-ZZ,o.o];omega
 clear e;have j:=fun W=>ko l S.2 31 W x0 (by decide)
 rw[show (Z5 l,S.2)=S by rw[o.o],i] at j;simp only[show (((31:Nat):Int))=(31:Int) from rfl] at j
 rw[J.o] at j;simp only[show (((0:Nat):Int))=(0:Int) from rfl] at j
 have U:=lh j;clear j;have r1:=H.o.r1;simp only[show (((0:Nat):Int))=(0:Int) from rfl] at r1
 obtain⟨y0,P⟩:∃ y,C[29]?=Z9 y:=⟨_,Zu (by omega)⟩;go_upto_region 25 with (go_at_call 334;(with_reducible refine (U.o _).mono ?_);rintro _ d ⟨u1,Q,rfl,hu,ht,Y⟩;have p:=H.o.below Y;have m:=lh p;have c:=lh ht;have L:=lh hu;have cc:=ae p.r0 29 _ P;have ff:=p.h0.2.2;have q1:=fun v=>bG p.h1 w.heap.size 29 v;clear p Y ht hu)
 have A:=m.o.step 29 (.string u1) Q D.2;generalize O:YO (Ys _ _ _) _ _=V at A |-;clear O cc ff q1 r1 U H m;have z1:(C.setIfInBounds 29 (.string u1)).size=33:=by simpa using z0
 generalize X:C.setIfInBounds 29 (.string u1)=C1 at A z1;have I:=lh X;have H:=lh A;have x1:Q.size<=10000:=by rw[<-ZZ,c.o];omega
 clear X A
 have hF:C1=E.vals (.slice Z7 0 0) (.slice Z7 0 0):=by
  rw[<-K.o,<-I.o,<-G.o];rw[show u1=⟨v1.toArray⟩ from Ds.bl_inj (L.o.trans (Ds.bl_mk _).symm)];unfold zlit VP Zi YS;simp only[Zt,Zd,Ze]
 rw[hF] at H;have a0:=ay E (.slice Z7 0 0) (.slice Z7 0 0) rfl rfl;clear hF;have HP:=H.o.pick;go_region_held3 (fun w'=>row w' w.heap.size=E.vals (.slice Z7 0 0) (.slice Z7 0 0)/\row w' (w.heap.size+1)=#[.string Q,.int .i64 D.2]/\Held w' (w.heap.size+1+1) 33/\Held w' (w.heap.size+1+1+1) 2) (first|assumption|exact HP|exact iQ (by assumption) _ (Or.inl ⟨rfl,ah _ _ _⟩)|exact iQ (by assumption) _ (Or.inr ⟨rfl,rfl⟩)) (fail)
 have R:=H.o.below (Y3 (ZR V.heap.size V));have T:=lh (nC R);have B:=lh (nD R)
 all_goals
  go_wp2_with fail
  first
  | (refine ZD (ie (n:=32) (n':=1) rfl Tryz.underlying29 rfl (by kernel_rfl) Tryz.underlying326 rfl (by kernel_rfl) _ _ (w.heap.size+1+1) (w.heap.size+1+1+1) rfl rfl (by rw[T.o.1];exact ah _ _ _) (by rw[T.o.2.1];rfl)) rfl ?_
     rw[T.o.1,T.o.2.1];exact⟨_,rfl,c.o,T.o.2.2⟩)
  | (refine ZD (ie (n:=32) (n':=1) rfl Tryz.underlying29 rfl (by kernel_rfl) Tryz.underlying326 rfl (by kernel_rfl) _ _ (w.heap.size+1+1) (w.heap.size+1+1+1) rfl rfl (by rw[B.o.1];exact ah _ _ _) (by rw[B.o.2.1];rfl)) rfl ?_
     rw[B.o.1,B.o.2.1];exact⟨_,rfl,c.o,B.o.2.2⟩)
theorem rfields3(w:ZY)(Z:l.size<=1000) :
 ZH Tryz.prog 311 #[.agg (zlit 3 a),.agg #[.string l,.int .i64 0]] w fun r w'=>∃ (t:Z6),r=.returned (.tuple #[.agg ((fN (Zi 3 a) (Z5 l,0)).1.vals (.slice Z7 0 0) (.slice Z7 0 0)),.agg #[.string t,.int .i64 (fN (Zi 3 a) (Z5 l,0)).2.2]])/\Z5 t=(fN (Zi 3 a) (Z5 l,0)).2.1/\Z4 w.heap.size w w':=by
 obtain⟨S,h⟩:∃ S:Z1 ZM × Nat,S=(Z5 l,0):=⟨_,rfl⟩;have m0:S.1.length<=1000:=by rw[h];simp only[ZZ];exact Z
 obtain⟨V,D,i⟩:∃ (v:Int) (s:Z1 ZM × Nat),rN S=(v,s):=⟨_,_,rfl⟩;have m1:D.1.length<=1000:=by have:=il S;rw[i] at this;simp only at this;omega
 obtain⟨E,F⟩:∃ E:En,({ Zi 3 a with cat:=V }:En)=E:=⟨_,rfl⟩
 have u:fN (Zi 3 a) (Z5 l,0)=(E,D):=by
  rw[<-h,<-F];unfold fN;simp only[i]
 have K:=lh F;rw[u];clear u F;have q:=FW.start w (zlit 3 a) (zlit 0 ⟨#[]⟩) l S.2 29 326 29 326 rfl rfl;have L:S.2=0:=by rw[h]
 have z:Z5 l=S.1:=by rw[h]
 rw[L] at q;have J:=lh L;have o:=lh z;clear L z h Z;unfold zlit at q;simp only[show (((0:Nat):Int))=(0:Int) from rfl] at q
 have H:=lh q;clear q;unfold zlit;go_enter Tryz.func311,Tryz.ntmps311
 go_upto_region 1 with fail
 generalize N:((((w.alloc _).alloc _).alloc _).alloc _)=W0 at H |-;clear N;have H:Hid (FW w W0 (zlit 3 a) l 0):=H;have r0:=H.o.r0;have n0:=ae r0 0 (.int .i64 3) rfl;go_upto_region 27 with fail
 clear r0 n0;generalize e:zlit 3 a=C at H;have G:=lh e;have z0:C.size=33:=by rw[<-e];rfl
 have x0:l.size<=10000:=by rw[<-ZZ,o.o];omega
 clear e;have j:=fun W=>rread l S.2 W x0
 rw[show (Z5 l,S.2)=S by rw[o.o],i] at j;simp only at j
 rw[J.o] at j;simp only[show (((0:Nat):Int))=(0:Int) from rfl] at j
 have R:=lh j;clear j;have r1:=H.o.r1;simp only[show (((0:Nat):Int))=(0:Int) from rfl] at r1
 obtain⟨y0,O⟩:∃ y,C[30]?=Z9 y:=⟨_,Zu (by omega)⟩;go_upto_region 28 with (go_at_call 333;(with_reducible refine (R.o _).mono ?_);rintro _ d ⟨P,rfl,ht,Y⟩;have p:=H.o.below Y;have m:=lh p;have c:=lh ht;have cc:=ae p.r0 30 _ O;have ff:=p.h0.2.2;have q1:=fun v=>bG p.h1 w.heap.size 30 v;clear p Y ht)
 have A:=m.o.step 30 (.int .i64 V) P D.2;generalize N:YO (Ys _ _ _) _ _=U at A |-;clear N cc ff q1 r1 R H m;have z1:(C.setIfInBounds 30 (.int .i64 V)).size=33:=by simpa using z0
 generalize X:C.setIfInBounds 30 (.int .i64 V)=C1 at A z1;have I:=lh X;have H:=lh A;have x1:P.size<=10000:=by rw[<-ZZ,c.o];omega
 clear X A
 have hF:C1=E.vals (.slice Z7 0 0) (.slice Z7 0 0):=by
  rw[<-K.o,<-I.o,<-G.o];unfold zlit VP Zi YS;simp only[Zt,Zd,Ze]
 rw[hF] at H;have a0:=ay E (.slice Z7 0 0) (.slice Z7 0 0) rfl rfl;clear hF;have HP:=H.o.pick;go_region_held3 (fun w'=>row w' w.heap.size=E.vals (.slice Z7 0 0) (.slice Z7 0 0)/\row w' (w.heap.size+1)=#[.string P,.int .i64 D.2]/\Held w' (w.heap.size+1+1) 33/\Held w' (w.heap.size+1+1+1) 2) (first|assumption|exact HP|exact iQ (by assumption) _ (Or.inl ⟨rfl,ah _ _ _⟩)|exact iQ (by assumption) _ (Or.inr ⟨rfl,rfl⟩)) (fail)
 have Q:=H.o.below (Y3 (ZR U.heap.size U));have T:=lh (nC Q);have B:=lh (nD Q)
 all_goals
  go_wp2_with fail
  first
  | (refine ZD (ie (n:=32) (n':=1) rfl Tryz.underlying29 rfl (by kernel_rfl) Tryz.underlying326 rfl (by kernel_rfl) _ _ (w.heap.size+1+1) (w.heap.size+1+1+1) rfl rfl (by rw[T.o.1];exact ah _ _ _) (by rw[T.o.2.1];rfl)) rfl ?_
     rw[T.o.1,T.o.2.1];exact⟨_,rfl,c.o,T.o.2.2⟩)
  | (refine ZD (ie (n:=32) (n':=1) rfl Tryz.underlying29 rfl (by kernel_rfl) Tryz.underlying326 rfl (by kernel_rfl) _ _ (w.heap.size+1+1) (w.heap.size+1+1+1) rfl rfl (by rw[B.o.1];exact ah _ _ _) (by rw[B.o.2.1];rfl)) rfl ?_
     rw[B.o.1,B.o.2.1];exact⟨_,rfl,c.o,B.o.2.2⟩)
theorem rfields1(w:ZY)(hl:l.size<=1000) :
 ZH Tryz.prog 311 #[.agg (zlit 1 a),.agg #[.string l,.int .i64 0]] w fun r w'=>∃ (t:Z6),r=.returned (.tuple #[.agg ((fo (Zi 1 a) (Z5 l,0)).1.vals (.slice Z7 0 0) (.slice Z7 0 0)),.agg #[.string t,.int .i64 (fo (Zi 1 a) (Z5 l,0)).2.2]])/\Z5 t=(fo (Zi 1 a) (Z5 l,0)).2.1/\Z4 w.heap.size w w':=by
 obtain⟨o,j⟩:∃ o:Z1 ZM × Nat,o=(Z5 l,0):=⟨_,rfl⟩;have m0:o.1.length<=1000:=by rw[j];simp only[ZZ];exact hl
 obtain⟨v1,J,D⟩:∃ (v:Int) (s:Z1 ZM × Nat),rN o=(v,s):=⟨_,_,rfl⟩;have m1:J.1.length<=1000:=by have:=il o;rw[D] at this;simp only at this;omega
 obtain⟨v2,K,E⟩:∃ (v:Int) (s:Z1 ZM × Nat),rN J=(v,s):=⟨_,_,rfl⟩;have m2:K.1.length<=1000:=by have:=il J;rw[E] at this;simp only at this;omega
 obtain⟨v3,L,G⟩:∃ (v:Bool) (s:Z1 ZM × Nat),Rd.boo K=(v,s):=⟨_,_,rfl⟩;have m3:L.1.length<=1000:=by have:=Rd.boo_len K;rw[G] at this;simp only at this;omega
 obtain⟨v4,s4,I⟩:∃ (v:Z1 ZM) (s:Z1 ZM × Nat),Rd.txt 8 L=(v,s):=⟨_,_,rfl⟩;have m4:s4.1.length<=1000:=by have:=(Rd.txt_len 8 L).1;rw[I] at this;simp only at this;omega
 obtain⟨N,B⟩:∃ N:En,({ Zi 1 a with lim:=v1,last:=v2,em:=v3,owner:=⟨v4.toArray⟩ }:En)=N:=⟨_,rfl⟩
 have Z:fo (Zi 1 a) (Z5 l,0)=(N,s4):=by
  rw[<-j,<-B];unfold fo;simp only[D,E,G,I]
 have a7:=lh B;rw[Z];clear Z B;have Y:=FW.start w (zlit 1 a) (zlit 0 ⟨#[]⟩) l o.2 29 326 29 326 rfl rfl;have e0:o.2=0:=by rw[j]
 have a0:Z5 l=o.1:=by rw[j]
 rw[e0] at Y;have a6:=lh e0;have O:=lh a0;clear e0 a0 j hl;unfold zlit at Y;simp only[show (((0:Nat):Int))=(0:Int) from rfl] at Y
 have H:=lh Y;clear Y;unfold zlit;go_enter Tryz.func311,Tryz.ntmps311
 go_upto_region 1 with fail
 generalize p:((((w.alloc _).alloc _).alloc _).alloc _)=W0 at H |-;clear p;have H:Hid (FW w W0 (zlit 1 a) l 0):=H;have r0:=H.o.r0;have n0:=ae r0 0 (.int .i64 1) rfl;go_upto_region 18 with fail
 clear r0 n0;generalize A:zlit 1 a=C0 at H;have a1:=lh A;have z0:C0.size=33:=by rw[<-A];rfl
 have x0:l.size<=10000:=by rw[<-ZZ,O.o];omega
 clear A;have h:=fun W=>rread l o.2 W x0
 rw[show (Z5 l,o.2)=o by rw[O.o],D] at h;simp only at h
 rw[a6.o] at h;simp only[show (((0:Nat):Int))=(0:Int) from rfl] at h
 have R:=lh h;clear h;have q:=H.o.r1;simp only[show (((0:Nat):Int))=(0:Int) from rfl] at q
 obtain⟨y0,a9⟩:∃ y,C0[25]?=Z9 y:=⟨_,Zu (by omega)⟩;go_upto_region 19 with (go_at_call 333;(with_reducible refine (R.o _).mono ?_);rintro _ d ⟨t1,rfl,m,i⟩;have S:=H.o.below i;have c:=lh S;have P:=lh m;have z:=ae S.r0 25 _ a9;have F:=S.h0.2.2;have Q:=fun v=>bG S.h1 w.heap.size 25 v;clear S i m)
 have e:=c.o.step 25 (.int .i64 v1) t1 J.2;generalize p:YO (Ys _ _ _) _ _=W1 at e |-;clear p z F Q q R H c;have z1:(C0.setIfInBounds 25 (.int .i64 v1)).size=33:=by simpa using z0
 generalize C:C0.setIfInBounds 25 (.int .i64 v1)=C1 at e z1;have a2:=lh C;have H:=lh e;have x1:t1.size<=10000:=by rw[<-ZZ,P.o];omega
 clear C e;have h:=fun W=>rread t1 J.2 W x1
 rw[show (Z5 t1,J.2)=J by rw[P.o],E] at h;simp only at h
 have R:=lh h;clear h;have q:=H.o.r1;obtain⟨y1,aa⟩:∃ y,C1[26]?=Z9 y:=⟨_,Zu (by omega)⟩;go_upto_region 20 with (go_at_call 333;(with_reducible refine (R.o _).mono ?_);rintro _ w3 ⟨t2,rfl,m,i⟩;have S:=H.o.below i;have c:=lh S;have T:=lh m;have z:=ae S.r0 26 _ aa;have F:=S.h0.2.2;have Q:=fun v=>bG S.h1 w.heap.size 26 v;clear S i m)
 have e:=c.o.step 26 (.int .i64 v2) t2 K.2;generalize p:YO (Ys _ _ _) _ _=W2 at e |-;clear p z F Q q R H c;have z2:(C1.setIfInBounds 26 (.int .i64 v2)).size=33:=by simpa using z1
 generalize C:C1.setIfInBounds 26 (.int .i64 v2)=C2 at e z2;have a3:=lh C;have H:=lh e;have x2:t2.size<=10000:=by rw[<-ZZ,T.o];omega
 clear C e;have h:=fun W=>mQ t2 K.2 W x2
 rw[show (Z5 t2,K.2)=K by rw[T.o],G] at h;simp only at h
 have R:=lh h;clear h;have q:=H.o.r1;obtain⟨y2,ab⟩:∃ y,C2[27]?=Z9 y:=⟨_,Zu (by omega)⟩;go_upto_region 21 with (go_at_call 332;(with_reducible refine (R.o _).mono ?_);rintro _ w4 ⟨t3,rfl,m,i⟩;have S:=H.o.below i;have c:=lh S;have U:=lh m;have z:=ae S.r0 27 _ ab;have F:=S.h0.2.2;have Q:=fun v=>bG S.h1 w.heap.size 27 v;clear S i m)
 have e:=c.o.step 27 (.bool v3) t3 L.2;generalize p:YO (Ys _ _ _) _ _=W3 at e |-;clear p z F Q q R H c;have z3:(C2.setIfInBounds 27 (.bool v3)).size=33:=by simpa using z2
 generalize C:C2.setIfInBounds 27 (.bool v3)=C3 at e z3;have a4:=lh C;have H:=lh e;have x3:t3.size<=10000:=by rw[<-ZZ,U.o];omega
 clear C e;have h:=fun W=>ko t3 L.2 8 W x3 (by decide)
 rw[show (Z5 t3,L.2)=L by rw[U.o],I] at h;simp only[show (((8:Nat):Int))=(8:Int) from rfl] at h
 have R:=lh h;clear h;have q:=H.o.r1;obtain⟨y3,ac⟩:∃ y,C3[28]?=Z9 y:=⟨_,Zu (by omega)⟩;go_upto_region 22 with (go_at_call 334;(with_reducible refine (R.o _).mono ?_);rintro _ w5 ⟨u4,t4,rfl,hu,m,i⟩;have S:=H.o.below i;have c:=lh S;have u:=lh m;have a8:=lh hu;have z:=ae S.r0 28 _ ac;have F:=S.h0.2.2;have Q:=fun v=>bG S.h1 w.heap.size 28 v;clear S i m hu)
 have e:=c.o.step 28 (.string u4) t4 s4.2;generalize p:YO (Ys _ _ _) _ _=W4 at e |-;clear p z F Q q R H c;have z4:(C3.setIfInBounds 28 (.string u4)).size=33:=by simpa using z3
 generalize C:C3.setIfInBounds 28 (.string u4)=C4 at e z4;have a5:=lh C;have H:=lh e;have x4:t4.size<=10000:=by rw[<-ZZ,u.o];omega
 clear C e
 have hF:C4=N.vals (.slice Z7 0 0) (.slice Z7 0 0):=by
  rw[<-a7.o,<-a5.o,<-a4.o,<-a3.o,<-a2.o,<-a1.o];rw[show u4=⟨v4.toArray⟩ from Ds.bl_inj (a8.o.trans (Ds.bl_mk _).symm)];unfold zlit VP Zi YS;simp only[Zt,Zd,Ze]
 rw[hF] at H;have ad:=ay N (.slice Z7 0 0) (.slice Z7 0 0) rfl rfl;clear hF;have HP:=H.o.pick;go_region_held3 (fun w'=>row w' w.heap.size=N.vals (.slice Z7 0 0) (.slice Z7 0 0)/\row w' (w.heap.size+1)=#[.string t4,.int .i64 s4.2]/\Held w' (w.heap.size+1+1) 33/\Held w' (w.heap.size+1+1+1) 2) (first|assumption|exact HP|exact iQ (by assumption) _ (Or.inl ⟨rfl,ah _ _ _⟩)|exact iQ (by assumption) _ (Or.inr ⟨rfl,rfl⟩)) (fail)
 have FD:=H.o.below (Y3 (ZR W4.heap.size W4));have V:=lh (nC FD);have X:=lh (nD FD)
 all_goals
  go_wp2_with fail
  first
  | (refine ZD (ie (n:=32) (n':=1) rfl Tryz.underlying29 rfl (by kernel_rfl) Tryz.underlying326 rfl (by kernel_rfl) _ _ (w.heap.size+1+1) (w.heap.size+1+1+1) rfl rfl (by rw[V.o.1];exact ah _ _ _) (by rw[V.o.2.1];rfl)) rfl ?_
     rw[V.o.1,V.o.2.1];exact⟨_,rfl,u.o,V.o.2.2⟩)
  | (refine ZD (ie (n:=32) (n':=1) rfl Tryz.underlying29 rfl (by kernel_rfl) Tryz.underlying326 rfl (by kernel_rfl) _ _ (w.heap.size+1+1) (w.heap.size+1+1+1) rfl rfl (by rw[X.o.1];exact ah _ _ _) (by rw[X.o.2.1];rfl)) rfl ?_
     rw[X.o.1,X.o.2.1];exact⟨_,rfl,u.o,X.o.2.2⟩)
end
end Go.Proofs.YtnkjliahpeebjaaGreatDoor
