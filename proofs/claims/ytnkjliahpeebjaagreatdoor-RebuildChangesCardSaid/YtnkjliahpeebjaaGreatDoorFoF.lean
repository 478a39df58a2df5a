/- Catalogs. -/
import Derived.Test.YtnkjliahpeebjaaGreatDoorFoC
set_option maxRecDepth 8000
set_option maxHeartbeats 1600000
open Option renaming some->Z9,none->Z7
open Go.Proofs.Tryz renaming prog->Z8
open Nat renaming le_refl->ZV,le_trans->ZC
open Go renaming Calls->ZH
open Go.Proofs.YtnkjliahpeebjaaGreatDoor.Rd renaming num->YZ,txt->Yu,boo->Yb,txt_len->WR,boo_len->Wa,num_len->V9
namespace Go.Proofs.YtnkjliahpeebjaaGreatDoor
open Go.RowKit
variable(c a g:Nat)(s:List UInt8 × Nat)(e:En)(gr:Value)(w:World)
theorem Cj(h:RS w c a g s (e.vals (.slice Z7 0 0) gr))(hs:s.1.length<=1000)(d:Hid (cntv 4 (clip (YZ (Yb (sq (Yu 200 (Yu 200 (YZ (Yb (sq s 14)).2).2).2).2 2)).2).1)=0)) :
 ZH Z8 156 #[.pointer (Z9 ⟨c,0,Z7⟩),.pointer (Z9 ⟨g,0,Z7⟩)] w fun r b=>r=.returned (.tuple #[])/\∃ A,RS b c a g (dR e s).2.2 ((dR e s).1.vals A gr)/\(IS b A (dR e s).2.1/\∀ x,A.ownBlock=Z9 x->w.heap.size<=x)/\G2 w b a g:=by
 obtain⟨C,Z⟩:∃ S,S=sq s 14:=⟨_,rfl⟩;obtain⟨E0,r0⟩:∃ E,E=setD e (nq s):=⟨_,rfl⟩;obtain⟨p,q1⟩:∃ S,S=(Yb C).2:=⟨_,rfl⟩;obtain⟨E1,r1⟩:∃ E:En,E=E0.sUq (Yb C).1:=⟨_,rfl⟩;obtain⟨q,q2⟩:∃ S,S=(YZ p).2:=⟨_,rfl⟩;obtain⟨E2,r2⟩:∃ E:En,E=E1.sCls (clip (YZ p).1):=⟨_,rfl⟩;obtain⟨t,q3⟩:∃ S,S=(Yu 200 q).2:=⟨_,rfl⟩;obtain⟨E3,r3⟩:∃ E:En,E=E2.sVol ⟨(Yu 200 q).1.toArray⟩:=⟨_,rfl⟩;obtain⟨f,q4⟩:∃ S,S=(Yu 200 t).2:=⟨_,rfl⟩;obtain⟨D,r4⟩:∃ E:En,E=E3.sOwn ⟨(Yu 200 t).1.toArray⟩:=⟨_,rfl⟩;obtain⟨l,q5⟩:∃ S,S=sq f 2:=⟨_,rfl⟩;obtain⟨B,r5⟩:∃ E:En,E=D.sCE (nq f 0) (nq f 1):=⟨_,rfl⟩;obtain⟨u,q6⟩:∃ S,S=(Yb l).2:=⟨_,rfl⟩;obtain⟨j,r6⟩:∃ E:En,E=B.sAr (Yb l).1:=⟨_,rfl⟩;obtain⟨y,q7⟩:∃ S,S=(YZ u).2:=⟨_,rfl⟩;obtain⟨m,qm⟩:∃ m,m=cntv 4 (clip (YZ u).1):=⟨_,rfl⟩;obtain⟨n,q8⟩:∃ S,S=(cI y m).2:=⟨_,rfl⟩;obtain⟨L8,p8⟩:∃ L,L=(cI y m).1:=⟨_,rfl⟩;obtain⟨E9,r9⟩:∃ E:En,E=j.sUsed (clip (YZ n).1):=⟨_,rfl⟩
 have o:dR e s=(E9,L8,(YZ n).2):=by
  rw[r9,r6,r5,r4,r3,r2,r1,r0,p8,q8,qm,q7,q6,q5,q4,q3,q2,q1,Z];rfl
 have b0:C.1.length<=1000:=by rw[Z];exact ZC (jG s 14) hs
 have b1:p.1.length<=1000:=by rw[q1];exact ZC (Wa C) b0
 have b2:q.1.length<=1000:=by rw[q2];exact ZC (V9 p) b1
 have b3:t.1.length<=1000:=by rw[q3];exact ZC (WR 200 q).1 b2
 have b4:f.1.length<=1000:=by rw[q4];exact ZC (WR 200 t).1 b3
 have b5:l.1.length<=1000:=by rw[q5];exact ZC (jG f 2) b4
 have b6:u.1.length<=1000:=by rw[q6];exact ZC (Wa l) b5
 have b7:y.1.length<=1000:=by rw[q7];exact ZC (V9 u) b6
 have bk:∀ k,(cI y k).2.1.length<=10000:=fun k=>by rw[kA];have:=jG y k;omega
 have b8:n.1.length<=10000:=by rw[q8];exact bk m
 have b9:m<=5:=by rw[qm];unfold cntv;split <;> omega
 have d:m=0:=by
  rw[qm,q6,q5,q4,q3,q2,q1,Z];exact d.o
 have hc:ZH Z8 160 #[.pointer (Z9 ⟨c,0,Z7⟩),.slice (Z9 ⟨w.heap.size,0,Z7⟩) 14 14] ((w.alloc (.cells #[.pointer (Z9 ⟨g,2,Z7⟩),.pointer (Z9 ⟨g,3,Z7⟩),.pointer (Z9 ⟨g,4,Z7⟩),.pointer (Z9 ⟨g,5,Z7⟩),.pointer (Z9 ⟨g,6,Z7⟩),.pointer (Z9 ⟨g,7,Z7⟩),.pointer (Z9 ⟨g,8,Z7⟩),.pointer (Z9 ⟨g,9,Z7⟩),.pointer (Z9 ⟨g,10,Z7⟩),.pointer (Z9 ⟨g,11,Z7⟩),.pointer (Z9 ⟨g,12,Z7⟩),.pointer (Z9 ⟨g,13,Z7⟩),.pointer (Z9 ⟨g,14,Z7⟩),.pointer (Z9 ⟨g,15,Z7⟩)] 212)).drew) fun r b=>r=.returned (.tuple #[])/\RS b c a g (dI os14 s (e.vals (.slice Z7 0 0) gr)).2 (dI os14 s (e.vals (.slice Z7 0 0) gr)).1/\G2 ((w.alloc (.cells #[.pointer (Z9 ⟨g,2,Z7⟩),.pointer (Z9 ⟨g,3,Z7⟩),.pointer (Z9 ⟨g,4,Z7⟩),.pointer (Z9 ⟨g,5,Z7⟩),.pointer (Z9 ⟨g,6,Z7⟩),.pointer (Z9 ⟨g,7,Z7⟩),.pointer (Z9 ⟨g,8,Z7⟩),.pointer (Z9 ⟨g,9,Z7⟩),.pointer (Z9 ⟨g,10,Z7⟩),.pointer (Z9 ⟨g,11,Z7⟩),.pointer (Z9 ⟨g,12,Z7⟩),.pointer (Z9 ⟨g,13,Z7⟩),.pointer (Z9 ⟨g,14,Z7⟩),.pointer (Z9 ⟨g,15,Z7⟩)] 212)).drew) b a g:=kQ c a g w.heap.size 14 os14 s (e.vals (.slice Z7 0 0) gr) _ (h.below (((Below.refl _ _).alloc (ZV _) _).drew)) (PS.new w g os14 212) (by have:=h.2.2.2.2.2.2.2;omega) (by have:=h.2.2.1.2.2;omega) (fun k hk=>by
  rw[ah];have:∀ k (hk:k<os14.length),os14[k]<33:=by decide
  exact this k hk) (by decide) (by omega)
 rw[ub,<-Z,<-r0] at hc
 have c1:∀ W,RS W c a g C (E0.vals (.slice Z7 0 0) gr)->ZH Z8 161 #[.pointer (Z9 ⟨c,0,Z7⟩),.pointer (Z9 ⟨g,16,Z7⟩)] W fun r b=>r=.returned (.tuple #[])/\RS b c a g p (E1.vals (.slice Z7 0 0) gr)/\G2 W b a g:=fun W H=>by
  have:=ll c a g 16 _ C _ W H (by omega) (pQ E0 _ gr);rw[wn,<-q1] at this;rw[r1];exact this
 have c2:∀ W,RS W c a g p (E1.vals (.slice Z7 0 0) gr)->ZH Z8 172 #[.pointer (Z9 ⟨c,0,Z7⟩),.pointer (Z9 ⟨g,17,Z7⟩)] W fun r b=>r=.returned (.tuple #[])/\RS b c a g q (E2.vals (.slice Z7 0 0) gr)/\G2 W b a g:=fun W H=>by
  have:=jt c a g 17 _ p _ W H (by omega) (pR E1 _ gr);rw[ws,<-q2] at this;rw[r2];exact this
 have c3:∀ W,RS W c a g q (E2.vals (.slice Z7 0 0) gr)->ZH Z8 162 #[.pointer (Z9 ⟨c,0,Z7⟩),.pointer (Z9 ⟨g,18,Z7⟩)] W fun r b=>r=.returned (.tuple #[])/\RS b c a g t (E3.vals (.slice Z7 0 0) gr)/\G2 W b a g:=fun W H=>by
  have:=jE c a g 18 _ q _ W H (by omega) (pS E2 _ gr);rw[wt,<-q3] at this;rw[r3];exact this
 have c4:∀ W,RS W c a g t (E3.vals (.slice Z7 0 0) gr)->ZH Z8 162 #[.pointer (Z9 ⟨c,0,Z7⟩),.pointer (Z9 ⟨g,19,Z7⟩)] W fun r b=>r=.returned (.tuple #[])/\RS b c a g f (D.vals (.slice Z7 0 0) gr)/\G2 W b a g:=fun W H=>by
  have:=jE c a g 19 _ t _ W H (by omega) (pT E3 _ gr);rw[wu,<-q4] at this;rw[r4];exact this
 have c5:∀ W,RS W c a g f (D.vals (.slice Z7 0 0) gr)->ZH Z8 160 #[.pointer (Z9 ⟨c,0,Z7⟩),.slice (Z9 ⟨W.heap.size,0,Z7⟩) 2 2] ((W.alloc (.cells #[.pointer (Z9 ⟨g,20,Z7⟩),.pointer (Z9 ⟨g,21,Z7⟩)] 212)).drew) fun r b=>r=.returned (.tuple #[])/\RS b c a g l (B.vals (.slice Z7 0 0) gr)/\G2 ((W.alloc (.cells #[.pointer (Z9 ⟨g,20,Z7⟩),.pointer (Z9 ⟨g,21,Z7⟩)] 212)).drew) b a g:=fun W H=>by
  have e1:dI [20,21] f (D.vals (.slice Z7 0 0) gr)=(B.vals (.slice Z7 0 0) gr,l):=by
   simp only[dI]
   rw[wv,ww,r5,q5];rfl
  have:=kQ c a g W.heap.size 2 [20,21] f (D.vals (.slice Z7 0 0) gr) _ (H.below (((Below.refl _ _).alloc (ZV _) _).drew)) (PS.new W g [20,21] 212) (by have:=H.2.2.2.2.2.2.2;omega) (by have:=H.2.2.1.2.2;omega) (fun k hk=>by
   rw[ah];rcases (by simp at hk;omega:k=0\/k=1) with rfl|rfl <;> simp) (by decide) (by omega)
  rw[e1] at this;exact this
 have c6:∀ W,RS W c a g l (B.vals (.slice Z7 0 0) gr)->ZH Z8 161 #[.pointer (Z9 ⟨c,0,Z7⟩),.pointer (Z9 ⟨g,22,Z7⟩)] W fun r b=>r=.returned (.tuple #[])/\RS b c a g u (j.vals (.slice Z7 0 0) gr)/\G2 W b a g:=fun W H=>by
  have:=ll c a g 22 _ l _ W H (by omega) (pU B _ gr);rw[wA,<-q6] at this;rw[r6];exact this
 have c7:∀ W,RS W c a g u (j.vals (.slice Z7 0 0) gr)->ZH Z8 232 #[.pointer (Z9 ⟨c,0,Z7⟩),.int .i64 0,.int .i64 4] W fun r b=>r=.returned (.int .i64 0)/\RS b c a g y (j.vals (.slice Z7 0 0) gr)/\G2 W b a g:=fun W H=>by
  have:=pc c a g 4 0 u _ W H (by omega) (by omega);rw[<-qm,<-q7,d] at this;exact this
 have c9:∀ W A,RS W c a g n (j.vals A gr)->ZH Z8 172 #[.pointer (Z9 ⟨c,0,Z7⟩),.pointer (Z9 ⟨g,24,Z7⟩)] W fun r b=>r=.returned (.tuple #[])/\RS b c a g (YZ n).2 (E9.vals A gr)/\G2 W b a g:=fun W A H=>by
  have:=jt c a g 24 _ n _ W H b8 (cM j _ gr);rw[wC] at this;rw[r9];exact this
 have v:=cf j (.slice Z7 0 0) gr;have a0:=lh hc;have C1:=lh c1;have C2:=lh c2;have C3:=lh c3;have C4:=lh c4;have C5:=lh c5;have C6:=lh c6;have C7:=lh c7;have C9:=lh c9;have V:=lh v;have HB:=lh bk;have Q8:=lh q8;have P8:=lh p8;have ba:=h.2.2.2.2.2.2.1;have bc:=h.2.2.2.2.2.2.2;have bb:=h.2.2.1.2.2;rw[o];have ac:Hid (n=y):=lh (by rw[q8,d];rfl);have ab:Hid (L8=[]):=lh (by rw[p8,d];rfl);clear hc c1 c2 c3 c4 c5 c6 c7 c9 v bk o Z q1 q2 q3 q4 q5 q6 q7 q8 p8 qm r0 r1 r2 r3 r4 r5 r6 r9 b0 b1 b2 b3 b4 b5 b6 b7 b8 h d b9;go_enter Tryz.func156,Tryz.ntmps156
 go_wp2_with fail
 go_region_law (first|(go_simp;go_at_call 160;(with_reducible refine a0.o.mono ?_);rintro _ w1 ⟨rfl,af,F⟩))
 all_goals
  have a1:=lh (lk.trans F);clear F
  go_wp2_with first|go_at_call 161;(with_reducible refine (C1.o _ af).mono ?_);rintro _ w2 ⟨rfl,al,G⟩;have a2:=lh (a1.o.trans G);clear G|go_at_call 172;(with_reducible refine (C2.o _ al).mono ?_);rintro _ w3 ⟨rfl,ao,I⟩;have a3:=lh (a2.o.trans I);clear I|go_at_call 162;(with_reducible refine (C3.o _ ao).mono ?_);rintro _ w4 ⟨rfl,ar,J⟩;have a4:=lh (a3.o.trans J);clear J|go_at_call 162;(with_reducible refine (C4.o _ ar).mono ?_);rintro _ w5 ⟨rfl,av,K⟩;have a5:=lh (a4.o.trans K);clear K
  go_region_law (first|(go_simp;go_at_call 160;(with_reducible refine (C5.o _ av).mono ?_);rintro _ w6 ⟨rfl,T,N⟩))
  all_goals
   have a6:=lh (a5.o.trans (lk.trans N));clear N;have v:=T.2.2.1.cell 23 _ (cf B _ gr)
   go_wp2_with first|go_at_call 161;(with_reducible refine (C6.o _ T).mono ?_);rintro _ w7 ⟨rfl,U,O⟩;have v:=U.2.2.1.cell 23 _ V.o;have a7:=lh (a6.o.trans O);clear O|go_at_call 232;(with_reducible refine (C7.o _ U).mono ?_);rintro _ w8 ⟨rfl,z,P⟩;have v:=z.2.2.1.cell 23 _ V.o;have k1:w8.cell? ⟨c,1,Z7⟩=Z9 (.pointer (Z9 ⟨a,0,Z7⟩)):=z.1;have a8:=lh (a7.o.trans P);clear P
   go_loopw [115] (fun i wr=>i=.int .i64 0/\RS wr c a g n (j.vals (.slice Z7 0 0) gr)/\G2 w wr a g) (fun i _=>0)
   case atStart=>exact⟨rfl,by rw[ac.o];exact z,a8.o⟩
   case round =>
    obtain⟨rfl,Y,R⟩:=hrel;have aa:=lh R;have v:=Y.2.2.1.cell 23 _ V.o;clear R;go_wp2_with (go_at_call 172;(with_reducible refine (C9.o _ _ Y).mono ?_);rintro _ w9 ⟨rfl,X,Q⟩;have ad:=lh X;have a9:=lh (aa.o.trans Q);clear Q X)
    go_end0
    exact⟨rfl,_,ad.o,⟨by rw[ab.o];exact IS.nil _,fun _ h=>by cases h⟩,a9.o⟩
theorem Ck(h:RS w c a g s (e.vals (.slice Z7 0 0) gr))(hs:s.1.length<=1000)(J:0<cntv 4 (clip (YZ (Yb (sq (Yu 200 (Yu 200 (YZ (Yb (sq s 14)).2).2).2).2 2)).2).1)) :
 ZH Z8 156 #[.pointer (Z9 ⟨c,0,Z7⟩),.pointer (Z9 ⟨g,0,Z7⟩)] w fun r b=>r=.returned (.tuple #[])/\∃ A,RS b c a g (dR e s).2.2 ((dR e s).1.vals A gr)/\(IS b A (dR e s).2.1/\∀ x,A.ownBlock=Z9 x->w.heap.size<=x)/\G2 w b a g:=by
 obtain⟨O,q0⟩:∃ S,S=sq s 14:=⟨_,rfl⟩;obtain⟨E0,r0⟩:∃ E,E=setD e (nq s):=⟨_,rfl⟩;obtain⟨y,q1⟩:∃ S,S=(Yb O).2:=⟨_,rfl⟩;obtain⟨E1,r1⟩:∃ E:En,E=E0.sUq (Yb O).1:=⟨_,rfl⟩;obtain⟨z,q2⟩:∃ S,S=(YZ y).2:=⟨_,rfl⟩;obtain⟨E2,r2⟩:∃ E:En,E=E1.sCls (clip (YZ y).1):=⟨_,rfl⟩;obtain⟨B,q3⟩:∃ S,S=(Yu 200 z).2:=⟨_,rfl⟩;obtain⟨E3,r3⟩:∃ E:En,E=E2.sVol ⟨(Yu 200 z).1.toArray⟩:=⟨_,rfl⟩;obtain⟨p,q4⟩:∃ S,S=(Yu 200 B).2:=⟨_,rfl⟩;obtain⟨Q,r4⟩:∃ E:En,E=E3.sOwn ⟨(Yu 200 B).1.toArray⟩:=⟨_,rfl⟩;obtain⟨q,q5⟩:∃ S,S=sq p 2:=⟨_,rfl⟩;obtain⟨K,r5⟩:∃ E:En,E=Q.sCE (nq p 0) (nq p 1):=⟨_,rfl⟩;obtain⟨C,q6⟩:∃ S,S=(Yb q).2:=⟨_,rfl⟩;obtain⟨o,r6⟩:∃ E:En,E=K.sAr (Yb q).1:=⟨_,rfl⟩;obtain⟨l,q7⟩:∃ S,S=(YZ C).2:=⟨_,rfl⟩;obtain⟨m,qm⟩:∃ m,m=cntv 4 (clip (YZ C).1):=⟨_,rfl⟩;obtain⟨D,q8⟩:∃ S,S=(cI l m).2:=⟨_,rfl⟩;obtain⟨L8,p8⟩:∃ L,L=(cI l m).1:=⟨_,rfl⟩;obtain⟨E9,r9⟩:∃ E:En,E=o.sUsed (clip (YZ D).1):=⟨_,rfl⟩
 have t:dR e s=(E9,L8,(YZ D).2):=by
  rw[r9,r6,r5,r4,r3,r2,r1,r0,p8,q8,qm,q7,q6,q5,q4,q3,q2,q1,q0];rfl
 have b0:O.1.length<=1000:=by rw[q0];exact ZC (jG s 14) hs
 have b1:y.1.length<=1000:=by rw[q1];exact ZC (Wa O) b0
 have b2:z.1.length<=1000:=by rw[q2];exact ZC (V9 y) b1
 have b3:B.1.length<=1000:=by rw[q3];exact ZC (WR 200 z).1 b2
 have b4:p.1.length<=1000:=by rw[q4];exact ZC (WR 200 B).1 b3
 have b5:q.1.length<=1000:=by rw[q5];exact ZC (jG p 2) b4
 have b6:C.1.length<=1000:=by rw[q6];exact ZC (Wa q) b5
 have b7:l.1.length<=1000:=by rw[q7];exact ZC (V9 C) b6
 have bk:∀ k,(cI l k).2.1.length<=10000:=fun k=>by rw[kA];have:=jG l k;omega
 have b8:D.1.length<=10000:=by rw[q8];exact bk m
 have cn:m<=5:=by rw[qm];unfold cntv;split <;> omega
 have J:0<m:=by
  rw[qm,q6,q5,q4,q3,q2,q1,q0];exact J
 have P:ZH Z8 160 #[.pointer (Z9 ⟨c,0,Z7⟩),.slice (Z9 ⟨w.heap.size,0,Z7⟩) 14 14] ((w.alloc (.cells #[.pointer (Z9 ⟨g,2,Z7⟩),.pointer (Z9 ⟨g,3,Z7⟩),.pointer (Z9 ⟨g,4,Z7⟩),.pointer (Z9 ⟨g,5,Z7⟩),.pointer (Z9 ⟨g,6,Z7⟩),.pointer (Z9 ⟨g,7,Z7⟩),.pointer (Z9 ⟨g,8,Z7⟩),.pointer (Z9 ⟨g,9,Z7⟩),.pointer (Z9 ⟨g,10,Z7⟩),.pointer (Z9 ⟨g,11,Z7⟩),.pointer (Z9 ⟨g,12,Z7⟩),.pointer (Z9 ⟨g,13,Z7⟩),.pointer (Z9 ⟨g,14,Z7⟩),.pointer (Z9 ⟨g,15,Z7⟩)] 212)).drew) fun r b=>r=.returned (.tuple #[])/\RS b c a g (dI os14 s (e.vals (.slice Z7 0 0) gr)).2 (dI os14 s (e.vals (.slice Z7 0 0) gr)).1/\G2 ((w.alloc (.cells #[.pointer (Z9 ⟨g,2,Z7⟩),.pointer (Z9 ⟨g,3,Z7⟩),.pointer (Z9 ⟨g,4,Z7⟩),.pointer (Z9 ⟨g,5,Z7⟩),.pointer (Z9 ⟨g,6,Z7⟩),.pointer (Z9 ⟨g,7,Z7⟩),.pointer (Z9 ⟨g,8,Z7⟩),.pointer (Z9 ⟨g,9,Z7⟩),.pointer (Z9 ⟨g,10,Z7⟩),.pointer (Z9 ⟨g,11,Z7⟩),.pointer (Z9 ⟨g,12,Z7⟩),.pointer (Z9 ⟨g,13,Z7⟩),.pointer (Z9 ⟨g,14,Z7⟩),.pointer (Z9 ⟨g,15,Z7⟩)] 212)).drew) b a g:=kQ c a g w.heap.size 14 os14 s (e.vals (.slice Z7 0 0) gr) _ (h.below (((Below.refl _ _).alloc (ZV _) _).drew)) (PS.new w g os14 212) (by have:=h.2.2.2.2.2.2.2;omega) (by have:=h.2.2.1.2.2;omega) (fun k hk=>by
  rw[ah];have:∀ k (hk:k<os14.length),os14[k]<33:=by decide
  exact this k hk) (by decide) (by omega)
 rw[ub,<-q0,<-r0] at P
 have c1:∀ W,RS W c a g O (E0.vals (.slice Z7 0 0) gr)->ZH Z8 161 #[.pointer (Z9 ⟨c,0,Z7⟩),.pointer (Z9 ⟨g,16,Z7⟩)] W fun r b=>r=.returned (.tuple #[])/\RS b c a g y (E1.vals (.slice Z7 0 0) gr)/\G2 W b a g:=fun W d=>by
  have:=ll c a g 16 _ O _ W d (by omega) (pQ E0 _ gr);rw[wn,<-q1] at this;rw[r1];exact this
 have c2:∀ W,RS W c a g y (E1.vals (.slice Z7 0 0) gr)->ZH Z8 172 #[.pointer (Z9 ⟨c,0,Z7⟩),.pointer (Z9 ⟨g,17,Z7⟩)] W fun r b=>r=.returned (.tuple #[])/\RS b c a g z (E2.vals (.slice Z7 0 0) gr)/\G2 W b a g:=fun W d=>by
  have:=jt c a g 17 _ y _ W d (by omega) (pR E1 _ gr);rw[ws,<-q2] at this;rw[r2];exact this
 have c3:∀ W,RS W c a g z (E2.vals (.slice Z7 0 0) gr)->ZH Z8 162 #[.pointer (Z9 ⟨c,0,Z7⟩),.pointer (Z9 ⟨g,18,Z7⟩)] W fun r b=>r=.returned (.tuple #[])/\RS b c a g B (E3.vals (.slice Z7 0 0) gr)/\G2 W b a g:=fun W d=>by
  have:=jE c a g 18 _ z _ W d (by omega) (pS E2 _ gr);rw[wt,<-q3] at this;rw[r3];exact this
 have c4:∀ W,RS W c a g B (E3.vals (.slice Z7 0 0) gr)->ZH Z8 162 #[.pointer (Z9 ⟨c,0,Z7⟩),.pointer (Z9 ⟨g,19,Z7⟩)] W fun r b=>r=.returned (.tuple #[])/\RS b c a g p (Q.vals (.slice Z7 0 0) gr)/\G2 W b a g:=fun W d=>by
  have:=jE c a g 19 _ B _ W d (by omega) (pT E3 _ gr);rw[wu,<-q4] at this;rw[r4];exact this
 have c5:∀ W,RS W c a g p (Q.vals (.slice Z7 0 0) gr)->ZH Z8 160 #[.pointer (Z9 ⟨c,0,Z7⟩),.slice (Z9 ⟨W.heap.size,0,Z7⟩) 2 2] ((W.alloc (.cells #[.pointer (Z9 ⟨g,20,Z7⟩),.pointer (Z9 ⟨g,21,Z7⟩)] 212)).drew) fun r b=>r=.returned (.tuple #[])/\RS b c a g q (K.vals (.slice Z7 0 0) gr)/\G2 ((W.alloc (.cells #[.pointer (Z9 ⟨g,20,Z7⟩),.pointer (Z9 ⟨g,21,Z7⟩)] 212)).drew) b a g:=fun W d=>by
  have e1:dI [20,21] p (Q.vals (.slice Z7 0 0) gr)=(K.vals (.slice Z7 0 0) gr,q):=by
   simp only[dI]
   rw[wv,ww,r5,q5];rfl
  have:=kQ c a g W.heap.size 2 [20,21] p (Q.vals (.slice Z7 0 0) gr) _ (d.below (((Below.refl _ _).alloc (ZV _) _).drew)) (PS.new W g [20,21] 212) (by have:=d.2.2.2.2.2.2.2;omega) (by have:=d.2.2.1.2.2;omega) (fun k hk=>by
   rw[ah];rcases (by simp at hk;omega:k=0\/k=1) with rfl|rfl <;> simp) (by decide) (by omega)
  rw[e1] at this;exact this
 have c6:∀ W,RS W c a g q (K.vals (.slice Z7 0 0) gr)->ZH Z8 161 #[.pointer (Z9 ⟨c,0,Z7⟩),.pointer (Z9 ⟨g,22,Z7⟩)] W fun r b=>r=.returned (.tuple #[])/\RS b c a g C (o.vals (.slice Z7 0 0) gr)/\G2 W b a g:=fun W d=>by
  have:=ll c a g 22 _ q _ W d (by omega) (pU K _ gr);rw[wA,<-q6] at this;rw[r6];exact this
 have c7:∀ W,RS W c a g C (o.vals (.slice Z7 0 0) gr)->ZH Z8 232 #[.pointer (Z9 ⟨c,0,Z7⟩),.int .i64 0,.int .i64 4] W fun r b=>r=.returned (.int .i64 m)/\RS b c a g l (o.vals (.slice Z7 0 0) gr)/\G2 W b a g:=fun W d=>by
  have:=pc c a g 4 0 C _ W d (by omega) (by omega);rw[<-qm,<-q7] at this;exact this
 have c9:∀ W A,RS W c a g D (o.vals A gr)->ZH Z8 172 #[.pointer (Z9 ⟨c,0,Z7⟩),.pointer (Z9 ⟨g,24,Z7⟩)] W fun r b=>r=.returned (.tuple #[])/\RS b c a g (YZ D).2 (E9.vals A gr)/\G2 W b a g:=fun W A d=>by
  have:=jt c a g 24 _ D _ W d b8 (cM o _ gr);rw[wC] at this;rw[r9];exact this
 have v:=cf o (.slice Z7 0 0) gr;have af:=lh P;have C1:=lh c1;have C2:=lh c2;have C3:=lh c3;have C4:=lh c4;have C5:=lh c5;have C6:=lh c6;have C7:=lh c7;have C9:=lh c9;have V:=lh v;have HB:=lh bk;have Q8:=lh q8;have P8:=lh p8;have ce:=h.2.2.2.2.2.2.1;have ck:=h.2.2.2.2.2.2.2;have cg:=h.2.2.1.2.2;rw[t];have d0:decide ((0:Int)<(m:Int))=true:=by rw[decide_eq_true_eq];omega
 obtain⟨i0,hi,ab,ac,ad⟩:=info_parts EQ;have HI:=lh hi;have bs:=lh ab;have c0:=lh ac;have HM:Hid (i0.bytes*m<=281474976710656):=lh (by rw[ad];omega);have aa:m<=maxLen:=by unfold maxLen;omega
 have HX:=lh aa;clear hi ab ac ad aa;clear P c1 c2 c3 c4 c5 c6 c7 c9 v bk t q0 q1 q2 q3 q4 q5 q6 q7 q8 p8 qm r0 r1 r2 r3 r4 r5 r6 r9 b0 b1 b2 b3 b4 b5 b6 b7 b8 h;go_enter Tryz.func156,Tryz.ntmps156
 go_wp2_with fail
 go_region_law (first|(go_simp;go_at_call 160;(with_reducible refine af.o.mono ?_);rintro _ w1 ⟨rfl,c8,T⟩))
 all_goals
  have al:=lh (lk.trans T);clear T
  go_wp2_with first|go_at_call 161;(with_reducible refine (C1.o _ c8).mono ?_);rintro _ w2 ⟨rfl,ca,U⟩;have ao:=lh (al.o.trans U);clear U|go_at_call 172;(with_reducible refine (C2.o _ ca).mono ?_);rintro _ w3 ⟨rfl,cb,X⟩;have ar:=lh (ao.o.trans X);clear X|go_at_call 162;(with_reducible refine (C3.o _ cb).mono ?_);rintro _ w4 ⟨rfl,cc,Y⟩;have av:=lh (ar.o.trans Y);clear Y|go_at_call 162;(with_reducible refine (C4.o _ cc).mono ?_);rintro _ w5 ⟨rfl,cd,Z⟩;have b9:=lh (av.o.trans Z);clear Z
  go_region_law (first|(go_simp;go_at_call 160;(with_reducible refine (C5.o _ cd).mono ?_);rintro _ w6 ⟨rfl,a4,a0⟩))
  all_goals
   have ba:=lh (b9.o.trans (lk.trans a0));clear a0;have v:=a4.2.2.1.cell 23 _ (cf K _ gr)
   go_wp2_with first|go_at_call 161;(with_reducible refine (C6.o _ a4).mono ?_);rintro _ w7 ⟨rfl,a5,a1⟩;have v:=a5.2.2.1.cell 23 _ V.o;have bb:=lh (ba.o.trans a1);clear a1|go_at_call 232;(with_reducible refine (C7.o _ a5).mono ?_);rintro _ w8 ⟨rfl,I,a2⟩;have v:=I.2.2.1.cell 23 _ V.o;have k1:w8.cell? ⟨c,1,Z7⟩=Z9 (.pointer (Z9 ⟨a,0,Z7⟩)):=I.1;have bc:=lh (bb.o.trans a2);clear a2|at_make;refine wpList_make_full _ rfl _ _ 26 rfl w8.heap.size 3 i0 (.int .i64 0) 1 Tryz.underlying26 HI.o bs.o c0.o _ _ _ _ m rfl rfl (by omega) (by omega) HM.o HX.o (ZV _) ?_;intro w9 u n;have f:=lh (EZ I bc.o u n J);clear u n;have f0:=f.o.1;have cm:=f.o.2.1
   go_loopw [115] (fun i wr=>∃ (k G:Nat),k<=m/\i=.int .i64 k/\RS wr c a g (cI l k).2 (o.vals (.slice (Z9 ⟨G,0,Z7⟩) m m) gr)/\w.heap.size<=G/\NB wr G m (fun j=>if j<k then nq l j else 0)/\G2 w wr a g) (fun i _=>m - (intOf i).toNat)
   case atStart=>exact⟨0,_,Nat.zero_le _,rfl,f.o.2.2.1,f.o.2.2.2.1,f.o.2.2.2.2.1,f.o.2.2.2.2.2⟩
   case round =>
    obtain⟨k,G,hk,rfl,H,hB,N,a3⟩:=hrel;have R:=lh a3;have v:=H.2.2.1.cell 23 _ (cf o (.slice (Z9 ⟨G,0,Z7⟩) m m) gr);clear a3;by_cases a9:k<m
    .have cA:=N.1 k a9;have P:=mm c a ⟨G,k,Z7⟩ _ (cI l k).2 wr (HB.o k) H.1 H.2.1 H.2.2.2.2.2.2.2 cA (N.2.1 k) N.2.2 (by show G≠a;omega);have HC:=lh P;have HW:=lh H;have HN:=lh N;clear P H N cA;go_wp2_with (go_at_call 172;(with_reducible refine HC.o.mono ?_);rintro _ w9 ⟨rfl,wy,hR,hG,rfl⟩;have HS:=lh (Fa HW.o ce ck cg hB HN.o R.o hR hG a9);clear hR hG)
     go_roundw
     case rel=>exact⟨k+1,G,by omega,by go_num,HS.o.1,hB,HS.o.2.1,HS.o.2.2⟩
     case measure=>simp [intOf];omega
    .have a8:k=m:=by omega
     have a6:RS wr c a g D (o.vals (.slice (Z9 ⟨G,0,Z7⟩) m m) gr):=by
      rw[a8] at H;rw[Q8.o];exact H
     have hL:L8.length=m:=by rw[P8.o];exact jD l m
     have br:=lh (F5 l k m L8 P8.o a8);have HN:=lh N;clear H N;go_wp2_with (go_at_call 172;(with_reducible refine (C9.o _ _ a6).mono ?_);rintro _ w9 ⟨rfl,a7,F⟩;have bp:=lh a7;have bi:=lh (HN.o.g2 F (by omega) (by omega));have be:=lh (R.o.trans F);clear F a7)
     go_end0
     exact⟨rfl,_,bp.o,⟨bi.o.is hL (by omega) br.o,fun x hx=>by cases hx;exact hB⟩,be.o⟩
end Go.Proofs.YtnkjliahpeebjaaGreatDoor
