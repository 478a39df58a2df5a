/- Catalogs. -/
import Derived.Test.YtnkjliahpeebjaaGreatDoorFoC
set_option maxRecDepth 8000
set_option maxHeartbeats 1600000
open Option renaming some->Z9,none->Z8
open Go.Proofs.Tryz renaming prog->Z6
open Nat renaming le_refl->ZS,le_trans->ZD
open Go renaming Calls->ZJ
open Go.Proofs.YtnkjliahpeebjaaGreatDoor.Rd renaming num->YV,txt->X5,boo->XJ,num_len->Wn
namespace Go.Proofs.YtnkjliahpeebjaaGreatDoor
open Go.RowKit
variable(c a g:Nat)(s:List UInt8 × Nat)(e:En)(b:Value)(w:World)
theorem Cj(h:RS w c a g s (e.vals (.slice Z8 0 0) b))(hs:s.1.length<=1000)(f:Hid (cntv 4 (clip (YV (XJ (sq (X5 200 (X5 200 (YV (XJ (sq s 14)).2).2).2).2 2)).2).1)=0)) :
 ZJ Z6 156 #[.pointer (Z9 ⟨c,0,Z8⟩),.pointer (Z9 ⟨g,0,Z8⟩)] w fun r d=>r=.returned (.tuple #[])/\∃ A,RS d c a g (dR e s).2.2 ((dR e s).1.vals A b)/\(IS d A (dR e s).2.1/\∀ x,A.ownBlock=Z9 x->w.heap.size<=x)/\G2 w d a g:=by
 obtain⟨D,q0⟩:∃ S,S=sq s 14:=⟨_,rfl⟩;obtain⟨E0,r0⟩:∃ E,E=setD e (nq s):=⟨_,rfl⟩;obtain⟨q,q1⟩:∃ S,S=(XJ D).2:=⟨_,rfl⟩;obtain⟨E1,r1⟩:∃ E:En,E=E0.sUq (XJ D).1:=⟨_,rfl⟩;obtain⟨t,q2⟩:∃ S,S=(YV q).2:=⟨_,rfl⟩;obtain⟨E2,r2⟩:∃ E:En,E=E1.sCls (clip (YV q).1):=⟨_,rfl⟩;obtain⟨u,q3⟩:∃ S,S=(X5 200 t).2:=⟨_,rfl⟩;obtain⟨E3,r3⟩:∃ E:En,E=E2.sVol ⟨(X5 200 t).1.toArray⟩:=⟨_,rfl⟩;obtain⟨j,q4⟩:∃ S,S=(X5 200 u).2:=⟨_,rfl⟩;obtain⟨F,r4⟩:∃ E:En,E=E3.sOwn ⟨(X5 200 u).1.toArray⟩:=⟨_,rfl⟩;obtain⟨n,q5⟩:∃ S,S=sq j 2:=⟨_,rfl⟩;obtain⟨C,r5⟩:∃ E:En,E=F.sCE (nq j 0) (nq j 1):=⟨_,rfl⟩;obtain⟨y,q6⟩:∃ S,S=(XJ n).2:=⟨_,rfl⟩;obtain⟨l,r6⟩:∃ E:En,E=C.sAr (XJ n).1:=⟨_,rfl⟩;obtain⟨z,q7⟩:∃ S,S=(YV y).2:=⟨_,rfl⟩;obtain⟨m,qm⟩:∃ m,m=cntv 4 (clip (YV y).1):=⟨_,rfl⟩;obtain⟨o,q8⟩:∃ S,S=(cI z m).2:=⟨_,rfl⟩;obtain⟨L8,p8⟩:∃ L,L=(cI z m).1:=⟨_,rfl⟩;obtain⟨E9,r9⟩:∃ E:En,E=l.sUsed (clip (YV o).1):=⟨_,rfl⟩
 have p:dR e s=(E9,L8,(YV o).2):=by
  rw[r9,r6,r5,r4,r3,r2,r1,r0,p8,q8,qm,q7,q6,q5,q4,q3,q2,q1,q0];rfl
 have b0:D.1.length<=1000:=by rw[q0];exact ZD (jG s 14) hs
 have b1:q.1.length<=1000:=by rw[q1];exact ZD (Rd.boo_len D) b0
 have b2:t.1.length<=1000:=by rw[q2];exact ZD (Wn q) b1
 have b3:u.1.length<=1000:=by rw[q3];exact ZD (Rd.txt_len 200 t).1 b2
 have b4:j.1.length<=1000:=by rw[q4];exact ZD (Rd.txt_len 200 u).1 b3
 have b5:n.1.length<=1000:=by rw[q5];exact ZD (jG j 2) b4
 have b6:y.1.length<=1000:=by rw[q6];exact ZD (Rd.boo_len n) b5
 have b7:z.1.length<=1000:=by rw[q7];exact ZD (Wn y) b6
 have bk:∀ k,(cI z k).2.1.length<=10000:=fun k=>by rw[kA];have:=jG z k;omega
 have b8:o.1.length<=10000:=by rw[q8];exact bk m
 have av:m<=5:=by rw[qm];unfold cntv;split <;> omega
 have f:m=0:=by
  rw[qm,q6,q5,q4,q3,q2,q1,q0];exact f.o
 have hc:ZJ Z6 160 #[.pointer (Z9 ⟨c,0,Z8⟩),.slice (Z9 ⟨w.heap.size,0,Z8⟩) 14 14] ((w.alloc (.cells #[.pointer (Z9 ⟨g,2,Z8⟩),.pointer (Z9 ⟨g,3,Z8⟩),.pointer (Z9 ⟨g,4,Z8⟩),.pointer (Z9 ⟨g,5,Z8⟩),.pointer (Z9 ⟨g,6,Z8⟩),.pointer (Z9 ⟨g,7,Z8⟩),.pointer (Z9 ⟨g,8,Z8⟩),.pointer (Z9 ⟨g,9,Z8⟩),.pointer (Z9 ⟨g,10,Z8⟩),.pointer (Z9 ⟨g,11,Z8⟩),.pointer (Z9 ⟨g,12,Z8⟩),.pointer (Z9 ⟨g,13,Z8⟩),.pointer (Z9 ⟨g,14,Z8⟩),.pointer (Z9 ⟨g,15,Z8⟩)] 212)).drew) fun r d=>r=.returned (.tuple #[])/\RS d c a g (dI os14 s (e.vals (.slice Z8 0 0) b)).2 (dI os14 s (e.vals (.slice Z8 0 0) b)).1/\G2 ((w.alloc (.cells #[.pointer (Z9 ⟨g,2,Z8⟩),.pointer (Z9 ⟨g,3,Z8⟩),.pointer (Z9 ⟨g,4,Z8⟩),.pointer (Z9 ⟨g,5,Z8⟩),.pointer (Z9 ⟨g,6,Z8⟩),.pointer (Z9 ⟨g,7,Z8⟩),.pointer (Z9 ⟨g,8,Z8⟩),.pointer (Z9 ⟨g,9,Z8⟩),.pointer (Z9 ⟨g,10,Z8⟩),.pointer (Z9 ⟨g,11,Z8⟩),.pointer (Z9 ⟨g,12,Z8⟩),.pointer (Z9 ⟨g,13,Z8⟩),.pointer (Z9 ⟨g,14,Z8⟩),.pointer (Z9 ⟨g,15,Z8⟩)] 212)).drew) d a g:=kQ c a g w.heap.size 14 os14 s (e.vals (.slice Z8 0 0) b) _ (h.below (((Below.refl _ _).alloc (ZS _) _).drew)) (PS.new w g os14 212) (by have:=h.2.2.2.2.2.2.2;omega) (by have:=h.2.2.1.2.2;omega) (fun k hk=>by
  rw[ah];have:∀ k (hk:k<os14.length),os14[k]<33:=by decide
  exact this k hk) (by decide) (by omega)
 rw[ub,<-q0,<-r0] at hc
 have c1:∀ W,RS W c a g D (E0.vals (.slice Z8 0 0) b)->ZJ Z6 161 #[.pointer (Z9 ⟨c,0,Z8⟩),.pointer (Z9 ⟨g,16,Z8⟩)] W fun r d=>r=.returned (.tuple #[])/\RS d c a g q (E1.vals (.slice Z8 0 0) b)/\G2 W d a g:=fun W H=>by
  have:=ll c a g 16 _ D _ W H (by omega) (pQ E0 _ b);rw[wn,<-q1] at this;rw[r1];exact this
 have c2:∀ W,RS W c a g q (E1.vals (.slice Z8 0 0) b)->ZJ Z6 172 #[.pointer (Z9 ⟨c,0,Z8⟩),.pointer (Z9 ⟨g,17,Z8⟩)] W fun r d=>r=.returned (.tuple #[])/\RS d c a g t (E2.vals (.slice Z8 0 0) b)/\G2 W d a g:=fun W H=>by
  have:=jt c a g 17 _ q _ W H (by omega) (pR E1 _ b);rw[ws,<-q2] at this;rw[r2];exact this
 have c3:∀ W,RS W c a g t (E2.vals (.slice Z8 0 0) b)->ZJ Z6 162 #[.pointer (Z9 ⟨c,0,Z8⟩),.pointer (Z9 ⟨g,18,Z8⟩)] W fun r d=>r=.returned (.tuple #[])/\RS d c a g u (E3.vals (.slice Z8 0 0) b)/\G2 W d a g:=fun W H=>by
  have:=jE c a g 18 _ t _ W H (by omega) (pS E2 _ b);rw[wt,<-q3] at this;rw[r3];exact this
 have c4:∀ W,RS W c a g u (E3.vals (.slice Z8 0 0) b)->ZJ Z6 162 #[.pointer (Z9 ⟨c,0,Z8⟩),.pointer (Z9 ⟨g,19,Z8⟩)] W fun r d=>r=.returned (.tuple #[])/\RS d c a g j (F.vals (.slice Z8 0 0) b)/\G2 W d a g:=fun W H=>by
  have:=jE c a g 19 _ u _ W H (by omega) (pT E3 _ b);rw[wu,<-q4] at this;rw[r4];exact this
 have c5:∀ W,RS W c a g j (F.vals (.slice Z8 0 0) b)->ZJ Z6 160 #[.pointer (Z9 ⟨c,0,Z8⟩),.slice (Z9 ⟨W.heap.size,0,Z8⟩) 2 2] ((W.alloc (.cells #[.pointer (Z9 ⟨g,20,Z8⟩),.pointer (Z9 ⟨g,21,Z8⟩)] 212)).drew) fun r d=>r=.returned (.tuple #[])/\RS d c a g n (C.vals (.slice Z8 0 0) b)/\G2 ((W.alloc (.cells #[.pointer (Z9 ⟨g,20,Z8⟩),.pointer (Z9 ⟨g,21,Z8⟩)] 212)).drew) d a g:=fun W H=>by
  have e1:dI [20,21] j (F.vals (.slice Z8 0 0) b)=(C.vals (.slice Z8 0 0) b,n):=by
   simp only[dI]
   rw[wv,ww,r5,q5];rfl
  have:=kQ c a g W.heap.size 2 [20,21] j (F.vals (.slice Z8 0 0) b) _ (H.below (((Below.refl _ _).alloc (ZS _) _).drew)) (PS.new W g [20,21] 212) (by have:=H.2.2.2.2.2.2.2;omega) (by have:=H.2.2.1.2.2;omega) (fun k hk=>by
   rw[ah];rcases (by simp at hk;omega:k=0\/k=1) with rfl|rfl <;> simp) (by decide) (by omega)
  rw[e1] at this;exact this
 have c6:∀ W,RS W c a g n (C.vals (.slice Z8 0 0) b)->ZJ Z6 161 #[.pointer (Z9 ⟨c,0,Z8⟩),.pointer (Z9 ⟨g,22,Z8⟩)] W fun r d=>r=.returned (.tuple #[])/\RS d c a g y (l.vals (.slice Z8 0 0) b)/\G2 W d a g:=fun W H=>by
  have:=ll c a g 22 _ n _ W H (by omega) (pU C _ b);rw[wA,<-q6] at this;rw[r6];exact this
 have c7:∀ W,RS W c a g y (l.vals (.slice Z8 0 0) b)->ZJ Z6 232 #[.pointer (Z9 ⟨c,0,Z8⟩),.int .i64 0,.int .i64 4] W fun r d=>r=.returned (.int .i64 0)/\RS d c a g z (l.vals (.slice Z8 0 0) b)/\G2 W d a g:=fun W H=>by
  have:=pc c a g 4 0 y _ W H (by omega) (by omega);rw[<-qm,<-q7,f] at this;exact this
 have c9:∀ W A,RS W c a g o (l.vals A b)->ZJ Z6 172 #[.pointer (Z9 ⟨c,0,Z8⟩),.pointer (Z9 ⟨g,24,Z8⟩)] W fun r d=>r=.returned (.tuple #[])/\RS d c a g (YV o).2 (E9.vals A b)/\G2 W d a g:=fun W A H=>by
  have:=jt c a g 24 _ o _ W H b8 (cM l _ b);rw[wC] at this;rw[r9];exact this
 have v:=cf l (.slice Z8 0 0) b;have a0:=lh hc;have C1:=lh c1;have C2:=lh c2;have C3:=lh c3;have C4:=lh c4;have C5:=lh c5;have C6:=lh c6;have C7:=lh c7;have C9:=lh c9;have V:=lh v;have HB:=lh bk;have Q8:=lh q8;have P8:=lh p8;have b9:=h.2.2.2.2.2.2.1;have bb:=h.2.2.2.2.2.2.2;have ba:=h.2.2.1.2.2;rw[p];have ac:Hid (o=z):=lh (by rw[q8,f];rfl);have ab:Hid (L8=[]):=lh (by rw[p8,f];rfl);clear hc c1 c2 c3 c4 c5 c6 c7 c9 v bk p q0 q1 q2 q3 q4 q5 q6 q7 q8 p8 qm r0 r1 r2 r3 r4 r5 r6 r9 b0 b1 b2 b3 b4 b5 b6 b7 b8 h f av;go_enter Tryz.func156,Tryz.ntmps156
 go_wp2_with fail
 go_region_law (first|(go_simp;go_at_call 160;(with_reducible refine a0.o.mono ?_);rintro _ w1 ⟨rfl,af,G⟩))
 all_goals
  have a1:=lh (lk.trans G);clear G
  go_wp2_with first|go_at_call 161;(with_reducible refine (C1.o _ af).mono ?_);rintro _ w2 ⟨rfl,ag,I⟩;have a2:=lh (a1.o.trans I);clear I|go_at_call 172;(with_reducible refine (C2.o _ ag).mono ?_);rintro _ w3 ⟨rfl,al,J⟩;have a3:=lh (a2.o.trans J);clear J|go_at_call 162;(with_reducible refine (C3.o _ al).mono ?_);rintro _ w4 ⟨rfl,ao,K⟩;have a4:=lh (a3.o.trans K);clear K|go_at_call 162;(with_reducible refine (C4.o _ ao).mono ?_);rintro _ w5 ⟨rfl,ar,N⟩;have a5:=lh (a4.o.trans N);clear N
  go_region_law (first|(go_simp;go_at_call 160;(with_reducible refine (C5.o _ ar).mono ?_);rintro _ w6 ⟨rfl,U,O⟩))
  all_goals
   have a6:=lh (a5.o.trans (lk.trans O));clear O;have v:=U.2.2.1.cell 23 _ (cf C _ b)
   go_wp2_with first|go_at_call 161;(with_reducible refine (C6.o _ U).mono ?_);rintro _ w7 ⟨rfl,X,P⟩;have v:=X.2.2.1.cell 23 _ V.o;have a7:=lh (a6.o.trans P);clear P|go_at_call 232;(with_reducible refine (C7.o _ X).mono ?_);rintro _ w8 ⟨rfl,B,Q⟩;have v:=B.2.2.1.cell 23 _ V.o;have k1:w8.cell? ⟨c,1,Z8⟩=Z9 (.pointer (Z9 ⟨a,0,Z8⟩)):=B.1;have a8:=lh (a7.o.trans Q);clear Q
   go_loopw [115] (fun i wr=>i=.int .i64 0/\RS wr c a g o (l.vals (.slice Z8 0 0) b)/\G2 w wr a g) (fun i _=>0)
   case atStart=>exact⟨rfl,by rw[ac.o];exact B,a8.o⟩
   case round =>
    obtain⟨rfl,Z,T⟩:=hrel;have aa:=lh T;have v:=Z.2.2.1.cell 23 _ V.o;clear T;go_wp2_with (go_at_call 172;(with_reducible refine (C9.o _ _ Z).mono ?_);rintro _ w9 ⟨rfl,Y,R⟩;have ad:=lh Y;have a9:=lh (aa.o.trans R);clear R Y)
    go_end0
    exact⟨rfl,_,ad.o,⟨by rw[ab.o];exact IS.nil _,fun _ h=>by cases h⟩,a9.o⟩
theorem Ck(h:RS w c a g s (e.vals (.slice Z8 0 0) b))(hs:s.1.length<=1000)(K:0<cntv 4 (clip (YV (XJ (sq (X5 200 (X5 200 (YV (XJ (sq s 14)).2).2).2).2 2)).2).1)) :
 ZJ Z6 156 #[.pointer (Z9 ⟨c,0,Z8⟩),.pointer (Z9 ⟨g,0,Z8⟩)] w fun r d=>r=.returned (.tuple #[])/\∃ A,RS d c a g (dR e s).2.2 ((dR e s).1.vals A b)/\(IS d A (dR e s).2.1/\∀ x,A.ownBlock=Z9 x->w.heap.size<=x)/\G2 w d a g:=by
 obtain⟨P,q0⟩:∃ S,S=sq s 14:=⟨_,rfl⟩;obtain⟨E0,r0⟩:∃ E,E=setD e (nq s):=⟨_,rfl⟩;obtain⟨z,q1⟩:∃ S,S=(XJ P).2:=⟨_,rfl⟩;obtain⟨E1,r1⟩:∃ E:En,E=E0.sUq (XJ P).1:=⟨_,rfl⟩;obtain⟨B,q2⟩:∃ S,S=(YV z).2:=⟨_,rfl⟩;obtain⟨E2,r2⟩:∃ E:En,E=E1.sCls (clip (YV z).1):=⟨_,rfl⟩;obtain⟨C,q3⟩:∃ S,S=(X5 200 B).2:=⟨_,rfl⟩;obtain⟨E3,r3⟩:∃ E:En,E=E2.sVol ⟨(X5 200 B).1.toArray⟩:=⟨_,rfl⟩;obtain⟨q,q4⟩:∃ S,S=(X5 200 C).2:=⟨_,rfl⟩;obtain⟨R,r4⟩:∃ E:En,E=E3.sOwn ⟨(X5 200 C).1.toArray⟩:=⟨_,rfl⟩;obtain⟨t,q5⟩:∃ S,S=sq q 2:=⟨_,rfl⟩;obtain⟨O,r5⟩:∃ E:En,E=R.sCE (nq q 0) (nq q 1):=⟨_,rfl⟩;obtain⟨D,q6⟩:∃ S,S=(XJ t).2:=⟨_,rfl⟩;obtain⟨p,r6⟩:∃ E:En,E=O.sAr (XJ t).1:=⟨_,rfl⟩;obtain⟨n,q7⟩:∃ S,S=(YV D).2:=⟨_,rfl⟩;obtain⟨m,qm⟩:∃ m,m=cntv 4 (clip (YV D).1):=⟨_,rfl⟩;obtain⟨F,q8⟩:∃ S,S=(cI n m).2:=⟨_,rfl⟩;obtain⟨L8,p8⟩:∃ L,L=(cI n m).1:=⟨_,rfl⟩;obtain⟨E9,r9⟩:∃ E:En,E=p.sUsed (clip (YV F).1):=⟨_,rfl⟩
 have u:dR e s=(E9,L8,(YV F).2):=by
  rw[r9,r6,r5,r4,r3,r2,r1,r0,p8,q8,qm,q7,q6,q5,q4,q3,q2,q1,q0];rfl
 have b0:P.1.length<=1000:=by rw[q0];exact ZD (jG s 14) hs
 have b1:z.1.length<=1000:=by rw[q1];exact ZD (Rd.boo_len P) b0
 have b2:B.1.length<=1000:=by rw[q2];exact ZD (Wn z) b1
 have b3:C.1.length<=1000:=by rw[q3];exact ZD (Rd.txt_len 200 B).1 b2
 have b4:q.1.length<=1000:=by rw[q4];exact ZD (Rd.txt_len 200 C).1 b3
 have b5:t.1.length<=1000:=by rw[q5];exact ZD (jG q 2) b4
 have b6:D.1.length<=1000:=by rw[q6];exact ZD (Rd.boo_len t) b5
 have b7:n.1.length<=1000:=by rw[q7];exact ZD (Wn D) b6
 have bk:∀ k,(cI n k).2.1.length<=10000:=fun k=>by rw[kA];have:=jG n k;omega
 have b8:F.1.length<=10000:=by rw[q8];exact bk m
 have ck:m<=5:=by rw[qm];unfold cntv;split <;> omega
 have K:0<m:=by
  rw[qm,q6,q5,q4,q3,q2,q1,q0];exact K
 have Q:ZJ Z6 160 #[.pointer (Z9 ⟨c,0,Z8⟩),.slice (Z9 ⟨w.heap.size,0,Z8⟩) 14 14] ((w.alloc (.cells #[.pointer (Z9 ⟨g,2,Z8⟩),.pointer (Z9 ⟨g,3,Z8⟩),.pointer (Z9 ⟨g,4,Z8⟩),.pointer (Z9 ⟨g,5,Z8⟩),.pointer (Z9 ⟨g,6,Z8⟩),.pointer (Z9 ⟨g,7,Z8⟩),.pointer (Z9 ⟨g,8,Z8⟩),.pointer (Z9 ⟨g,9,Z8⟩),.pointer (Z9 ⟨g,10,Z8⟩),.pointer (Z9 ⟨g,11,Z8⟩),.pointer (Z9 ⟨g,12,Z8⟩),.pointer (Z9 ⟨g,13,Z8⟩),.pointer (Z9 ⟨g,14,Z8⟩),.pointer (Z9 ⟨g,15,Z8⟩)] 212)).drew) fun r d=>r=.returned (.tuple #[])/\RS d c a g (dI os14 s (e.vals (.slice Z8 0 0) b)).2 (dI os14 s (e.vals (.slice Z8 0 0) b)).1/\G2 ((w.alloc (.cells #[.pointer (Z9 ⟨g,2,Z8⟩),.pointer (Z9 ⟨g,3,Z8⟩),.pointer (Z9 ⟨g,4,Z8⟩),.pointer (Z9 ⟨g,5,Z8⟩),.pointer (Z9 ⟨g,6,Z8⟩),.pointer (Z9 ⟨g,7,Z8⟩),.pointer (Z9 ⟨g,8,Z8⟩),.pointer (Z9 ⟨g,9,Z8⟩),.pointer (Z9 ⟨g,10,Z8⟩),.pointer (Z9 ⟨g,11,Z8⟩),.pointer (Z9 ⟨g,12,Z8⟩),.pointer (Z9 ⟨g,13,Z8⟩),.pointer (Z9 ⟨g,14,Z8⟩),.pointer (Z9 ⟨g,15,Z8⟩)] 212)).drew) d a g:=kQ c a g w.heap.size 14 os14 s (e.vals (.slice Z8 0 0) b) _ (h.below (((Below.refl _ _).alloc (ZS _) _).drew)) (PS.new w g os14 212) (by have:=h.2.2.2.2.2.2.2;omega) (by have:=h.2.2.1.2.2;omega) (fun k hk=>by
  rw[ah];have:∀ k (hk:k<os14.length),os14[k]<33:=by decide
  exact this k hk) (by decide) (by omega)
 rw[ub,<-q0,<-r0] at Q
 have c1:∀ W,RS W c a g P (E0.vals (.slice Z8 0 0) b)->ZJ Z6 161 #[.pointer (Z9 ⟨c,0,Z8⟩),.pointer (Z9 ⟨g,16,Z8⟩)] W fun r d=>r=.returned (.tuple #[])/\RS d c a g z (E1.vals (.slice Z8 0 0) b)/\G2 W d a g:=fun W f=>by
  have:=ll c a g 16 _ P _ W f (by omega) (pQ E0 _ b);rw[wn,<-q1] at this;rw[r1];exact this
 have c2:∀ W,RS W c a g z (E1.vals (.slice Z8 0 0) b)->ZJ Z6 172 #[.pointer (Z9 ⟨c,0,Z8⟩),.pointer (Z9 ⟨g,17,Z8⟩)] W fun r d=>r=.returned (.tuple #[])/\RS d c a g B (E2.vals (.slice Z8 0 0) b)/\G2 W d a g:=fun W f=>by
  have:=jt c a g 17 _ z _ W f (by omega) (pR E1 _ b);rw[ws,<-q2] at this;rw[r2];exact this
 have c3:∀ W,RS W c a g B (E2.vals (.slice Z8 0 0) b)->ZJ Z6 162 #[.pointer (Z9 ⟨c,0,Z8⟩),.pointer (Z9 ⟨g,18,Z8⟩)] W fun r d=>r=.returned (.tuple #[])/\RS d c a g C (E3.vals (.slice Z8 0 0) b)/\G2 W d a g:=fun W f=>by
  have:=jE c a g 18 _ B _ W f (by omega) (pS E2 _ b);rw[wt,<-q3] at this;rw[r3];exact this
 have c4:∀ W,RS W c a g C (E3.vals (.slice Z8 0 0) b)->ZJ Z6 162 #[.pointer (Z9 ⟨c,0,Z8⟩),.pointer (Z9 ⟨g,19,Z8⟩)] W fun r d=>r=.returned (.tuple #[])/\RS d c a g q (R.vals (.slice Z8 0 0) b)/\G2 W d a g:=fun W f=>by
  have:=jE c a g 19 _ C _ W f (by omega) (pT E3 _ b);rw[wu,<-q4] at this;rw[r4];exact this
 have c5:∀ W,RS W c a g q (R.vals (.slice Z8 0 0) b)->ZJ Z6 160 #[.pointer (Z9 ⟨c,0,Z8⟩),.slice (Z9 ⟨W.heap.size,0,Z8⟩) 2 2] ((W.alloc (.cells #[.pointer (Z9 ⟨g,20,Z8⟩),.pointer (Z9 ⟨g,21,Z8⟩)] 212)).drew) fun r d=>r=.returned (.tuple #[])/\RS d c a g t (O.vals (.slice Z8 0 0) b)/\G2 ((W.alloc (.cells #[.pointer (Z9 ⟨g,20,Z8⟩),.pointer (Z9 ⟨g,21,Z8⟩)] 212)).drew) d a g:=fun W f=>by
  have e1:dI [20,21] q (R.vals (.slice Z8 0 0) b)=(O.vals (.slice Z8 0 0) b,t):=by
   simp only[dI]
   rw[wv,ww,r5,q5];rfl
  have:=kQ c a g W.heap.size 2 [20,21] q (R.vals (.slice Z8 0 0) b) _ (f.below (((Below.refl _ _).alloc (ZS _) _).drew)) (PS.new W g [20,21] 212) (by have:=f.2.2.2.2.2.2.2;omega) (by have:=f.2.2.1.2.2;omega) (fun k hk=>by
   rw[ah];rcases (by simp at hk;omega:k=0\/k=1) with rfl|rfl <;> simp) (by decide) (by omega)
  rw[e1] at this;exact this
 have c6:∀ W,RS W c a g t (O.vals (.slice Z8 0 0) b)->ZJ Z6 161 #[.pointer (Z9 ⟨c,0,Z8⟩),.pointer (Z9 ⟨g,22,Z8⟩)] W fun r d=>r=.returned (.tuple #[])/\RS d c a g D (p.vals (.slice Z8 0 0) b)/\G2 W d a g:=fun W f=>by
  have:=ll c a g 22 _ t _ W f (by omega) (pU O _ b);rw[wA,<-q6] at this;rw[r6];exact this
 have c7:∀ W,RS W c a g D (p.vals (.slice Z8 0 0) b)->ZJ Z6 232 #[.pointer (Z9 ⟨c,0,Z8⟩),.int .i64 0,.int .i64 4] W fun r d=>r=.returned (.int .i64 m)/\RS d c a g n (p.vals (.slice Z8 0 0) b)/\G2 W d a g:=fun W f=>by
  have:=pc c a g 4 0 D _ W f (by omega) (by omega);rw[<-qm,<-q7] at this;exact this
 have c9:∀ W A,RS W c a g F (p.vals A b)->ZJ Z6 172 #[.pointer (Z9 ⟨c,0,Z8⟩),.pointer (Z9 ⟨g,24,Z8⟩)] W fun r d=>r=.returned (.tuple #[])/\RS d c a g (YV F).2 (E9.vals A b)/\G2 W d a g:=fun W A f=>by
  have:=jt c a g 24 _ F _ W f b8 (cM p _ b);rw[wC] at this;rw[r9];exact this
 have v:=cf p (.slice Z8 0 0) b;have ag:=lh Q;have C1:=lh c1;have C2:=lh c2;have C3:=lh c3;have C4:=lh c4;have C5:=lh c5;have C6:=lh c6;have C7:=lh c7;have C9:=lh c9;have V:=lh v;have HB:=lh bk;have Q8:=lh q8;have P8:=lh p8;have cd:=h.2.2.2.2.2.2.1;have cg:=h.2.2.2.2.2.2.2;have ce:=h.2.2.1.2.2;rw[u];have d0:decide ((0:Int)<(m:Int))=true:=by rw[decide_eq_true_eq];omega
 obtain⟨i0,hi,ac,ad,af⟩:=info_parts EQ;have HI:=lh hi;have br:=lh ac;have bs:=lh ad;have HM:Hid (i0.bytes*m<=281474976710656):=lh (by rw[af];omega);have ab:m<=maxLen:=by unfold maxLen;omega
 have HX:=lh ab;clear hi ac ad af ab;clear Q c1 c2 c3 c4 c5 c6 c7 c9 v bk u q0 q1 q2 q3 q4 q5 q6 q7 q8 p8 qm r0 r1 r2 r3 r4 r5 r6 r9 b0 b1 b2 b3 b4 b5 b6 b7 b8 h;go_enter Tryz.func156,Tryz.ntmps156
 go_wp2_with fail
 go_region_law (first|(go_simp;go_at_call 160;(with_reducible refine ag.o.mono ?_);rintro _ w1 ⟨rfl,c0,U⟩))
 all_goals
  have al:=lh (lk.trans U);clear U
  go_wp2_with first|go_at_call 161;(with_reducible refine (C1.o _ c0).mono ?_);rintro _ w2 ⟨rfl,c8,X⟩;have ao:=lh (al.o.trans X);clear X|go_at_call 172;(with_reducible refine (C2.o _ c8).mono ?_);rintro _ w3 ⟨rfl,ca,Y⟩;have ar:=lh (ao.o.trans Y);clear Y|go_at_call 162;(with_reducible refine (C3.o _ ca).mono ?_);rintro _ w4 ⟨rfl,cb,Z⟩;have av:=lh (ar.o.trans Z);clear Z|go_at_call 162;(with_reducible refine (C4.o _ cb).mono ?_);rintro _ w5 ⟨rfl,cc,a0⟩;have b9:=lh (av.o.trans a0);clear a0
  go_region_law (first|(go_simp;go_at_call 160;(with_reducible refine (C5.o _ cc).mono ?_);rintro _ w6 ⟨rfl,a5,a1⟩))
  all_goals
   have ba:=lh (b9.o.trans (lk.trans a1));clear a1;have v:=a5.2.2.1.cell 23 _ (cf O _ b)
   go_wp2_with first|go_at_call 161;(with_reducible refine (C6.o _ a5).mono ?_);rintro _ w7 ⟨rfl,a6,a2⟩;have v:=a6.2.2.1.cell 23 _ V.o;have bb:=lh (ba.o.trans a2);clear a2|go_at_call 232;(with_reducible refine (C7.o _ a6).mono ?_);rintro _ w8 ⟨rfl,J,a3⟩;have v:=J.2.2.1.cell 23 _ V.o;have k1:w8.cell? ⟨c,1,Z8⟩=Z9 (.pointer (Z9 ⟨a,0,Z8⟩)):=J.1;have bc:=lh (bb.o.trans a3);clear a3|at_make;refine wpList_make_full _ rfl _ _ 26 rfl w8.heap.size 3 i0 (.int .i64 0) 1 Tryz.underlying26 HI.o br.o bs.o _ _ _ _ m rfl rfl (by omega) (by omega) HM.o HX.o (ZS _) ?_;intro w9 y o;have l:=lh (EZ J bc.o y o K);clear y o;have f0:=l.o.1;have ch:=l.o.2.1
   go_loopw [115] (fun i wr=>∃ (k G:Nat),k<=m/\i=.int .i64 k/\RS wr c a g (cI n k).2 (p.vals (.slice (Z9 ⟨G,0,Z8⟩) m m) b)/\w.heap.size<=G/\NB wr G m (fun j=>if j<k then nq n j else 0)/\G2 w wr a g) (fun i _=>m - (intOf i).toNat)
   case atStart=>exact⟨0,_,Nat.zero_le _,rfl,l.o.2.2.1,l.o.2.2.2.1,l.o.2.2.2.2.1,l.o.2.2.2.2.2⟩
   case round =>
    obtain⟨k,G,hk,rfl,H,hB,N,a4⟩:=hrel;have T:=lh a4;have v:=H.2.2.1.cell 23 _ (cf p (.slice (Z9 ⟨G,0,Z8⟩) m m) b);clear a4;by_cases aa:k<m
    .have cA:=N.1 k aa;have Q:=mm c a ⟨G,k,Z8⟩ _ (cI n k).2 wr (HB.o k) H.1 H.2.1 H.2.2.2.2.2.2.2 cA (N.2.1 k) N.2.2 (by show G≠a;omega);have HC:=lh Q;have HW:=lh H;have HN:=lh N;clear Q H N cA;go_wp2_with (go_at_call 172;(with_reducible refine HC.o.mono ?_);rintro _ w9 ⟨rfl,wy,hR,hG,rfl⟩;have HS:=lh (Fa HW.o cd cg ce hB HN.o T.o hR hG aa);clear hR hG)
     go_roundw
     case rel=>exact⟨k+1,G,by omega,by go_num,HS.o.1,hB,HS.o.2.1,HS.o.2.2⟩
     case measure=>simp [intOf];omega
    .have a9:k=m:=by omega
     have a7:RS wr c a g F (p.vals (.slice (Z9 ⟨G,0,Z8⟩) m m) b):=by
      rw[a9] at H;rw[Q8.o];exact H
     have hL:L8.length=m:=by rw[P8.o];exact jD n m
     have bp:=lh (F5 n k m L8 P8.o a9);have HN:=lh N;clear H N;go_wp2_with (go_at_call 172;(with_reducible refine (C9.o _ _ a7).mono ?_);rintro _ w9 ⟨rfl,a8,I⟩;have bi:=lh a8;have be:=lh (HN.o.g2 I (by omega) (by omega));have bd:=lh (T.o.trans I);clear I a8)
     go_end0
     exact⟨rfl,_,bi.o,⟨be.o.is hL (by omega) bp.o,fun x hx=>by cases hx;exact hB⟩,bd.o⟩
end Go.Proofs.YtnkjliahpeebjaaGreatDoor
