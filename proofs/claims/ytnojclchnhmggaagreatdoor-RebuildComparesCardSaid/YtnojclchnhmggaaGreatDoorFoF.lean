/- Contracts of package entry: a data set with alternates, read. Printed by wip/mkfoe.py. -/
import Derived.Test.YtnojclchnhmggaaGreatDoorFoC
namespace Go.Proofs.YtnojclchnhmggaaGreatDoor
open Go.RowKit
set_option maxRecDepth 8000
set_option maxHeartbeats 1600000
section
theorem fr_data0 (c rb g:Nat) (s:List UInt8 × Nat) (e:En) (gr:Value) (w:World) (h:RS w c rb g s (e.vals (.slice none 0 0) gr)) (hs:s.1.length<=1000) (hm0:Hid (cntv 4 (clip (Rd.num (Rd.boo (sq (Rd.txt 200 (Rd.txt 200 (Rd.num (Rd.boo (sq s 14)).2).2).2).2 2)).2).1)=0)) :
  Calls Tryz.prog 126 #[.pointer (some ⟨c,0,none⟩),.pointer (some ⟨g,0,none⟩)] w fun r w'=>r=.returned (.tuple #[])∧∃ al',RS w' c rb g (rdData e s).2.2 ((rdData e s).1.vals al' gr)∧(IS w' al' (rdData e s).2.1∧∀ x,al'.ownBlock=some x->w.heap.size<=x)∧G2 w w' rb g:=by
 obtain⟨S0,q0⟩:∃ S,S=sq s 14:=⟨_,rfl⟩
 obtain⟨E0,r0⟩:∃ E,E=setD e (nq s):=⟨_,rfl⟩
 obtain⟨S1,q1⟩:∃ S,S=(Rd.boo S0).2:=⟨_,rfl⟩
 obtain⟨E1,r1⟩:∃ E:En,E=E0.sUq (Rd.boo S0).1:=⟨_,rfl⟩
 obtain⟨S2,q2⟩:∃ S,S=(Rd.num S1).2:=⟨_,rfl⟩
 obtain⟨E2,r2⟩:∃ E:En,E=E1.sCls (clip (Rd.num S1).1):=⟨_,rfl⟩
 obtain⟨S3,q3⟩:∃ S,S=(Rd.txt 200 S2).2:=⟨_,rfl⟩
 obtain⟨E3,r3⟩:∃ E:En,E=E2.sVol ⟨(Rd.txt 200 S2).1.toArray⟩:=⟨_,rfl⟩
 obtain⟨S4,q4⟩:∃ S,S=(Rd.txt 200 S3).2:=⟨_,rfl⟩
 obtain⟨E4,r4⟩:∃ E:En,E=E3.sOwn ⟨(Rd.txt 200 S3).1.toArray⟩:=⟨_,rfl⟩
 obtain⟨S5,q5⟩:∃ S,S=sq S4 2:=⟨_,rfl⟩
 obtain⟨E5,r5⟩:∃ E:En,E=E4.sCE (nq S4 0) (nq S4 1):=⟨_,rfl⟩
 obtain⟨S6,q6⟩:∃ S,S=(Rd.boo S5).2:=⟨_,rfl⟩
 obtain⟨E6,r6⟩:∃ E:En,E=E5.sAr (Rd.boo S5).1:=⟨_,rfl⟩
 obtain⟨S7,q7⟩:∃ S,S=(Rd.num S6).2:=⟨_,rfl⟩
 obtain⟨m,qm⟩:∃ m,m=cntv 4 (clip (Rd.num S6).1):=⟨_,rfl⟩
 obtain⟨S8,q8⟩:∃ S,S=(rdN S7 m).2:=⟨_,rfl⟩
 obtain⟨L8,p8⟩:∃ L,L=(rdN S7 m).1:=⟨_,rfl⟩
 obtain⟨E9,r9⟩:∃ E:En,E=E6.sUsed (clip (Rd.num S8).1):=⟨_,rfl⟩
 have efin:rdData e s=(E9,L8,(Rd.num S8).2):=by
  rw[r9,r6,r5,r4,r3,r2,r1,r0,p8,q8,qm,q7,q6,q5,q4,q3,q2,q1,q0];rfl
 have b0:S0.1.length<=1000:=by rw[q0];exact Nat.le_trans (sq_len s 14) hs
 have b1:S1.1.length<=1000:=by rw[q1];exact Nat.le_trans (Rd.boo_len S0) b0
 have b2:S2.1.length<=1000:=by rw[q2];exact Nat.le_trans (Rd.num_len S1) b1
 have b3:S3.1.length<=1000:=by rw[q3];exact Nat.le_trans (Rd.txt_len 200 S2).1 b2
 have b4:S4.1.length<=1000:=by rw[q4];exact Nat.le_trans (Rd.txt_len 200 S3).1 b3
 have b5:S5.1.length<=1000:=by rw[q5];exact Nat.le_trans (sq_len S4 2) b4
 have b6:S6.1.length<=1000:=by rw[q6];exact Nat.le_trans (Rd.boo_len S5) b5
 have b7:S7.1.length<=1000:=by rw[q7];exact Nat.le_trans (Rd.num_len S6) b6
 have bk:∀ k,(rdN S7 k).2.1.length<=10000:=fun k=>by rw[rdN_sq];have:=sq_len S7 k;omega
 have b8:S8.1.length<=10000:=by rw[q8];exact bk m
 have hm5:m<=5:=by rw[qm];unfold cntv;split <;> omega
 have hm0:m=0:=by
  rw[qm,q6,q5,q4,q3,q2,q1,q0];exact hm0.out
 have hc:Calls Tryz.prog 130 #[.pointer (some ⟨c,0,none⟩),.slice (some ⟨w.heap.size,0,none⟩) 14 14] ((w.alloc (.cells #[.pointer (some ⟨g,2,none⟩),.pointer (some ⟨g,3,none⟩),.pointer (some ⟨g,4,none⟩),.pointer (some ⟨g,5,none⟩),.pointer (some ⟨g,6,none⟩),.pointer (some ⟨g,7,none⟩),.pointer (some ⟨g,8,none⟩),.pointer (some ⟨g,9,none⟩),.pointer (some ⟨g,10,none⟩),.pointer (some ⟨g,11,none⟩),.pointer (some ⟨g,12,none⟩),.pointer (some ⟨g,13,none⟩),.pointer (some ⟨g,14,none⟩),.pointer (some ⟨g,15,none⟩)] 183)).drew) fun r w'=>r=.returned (.tuple #[])∧RS w' c rb g (rdNums os14 s (e.vals (.slice none 0 0) gr)).2 (rdNums os14 s (e.vals (.slice none 0 0) gr)).1∧G2 ((w.alloc (.cells #[.pointer (some ⟨g,2,none⟩),.pointer (some ⟨g,3,none⟩),.pointer (some ⟨g,4,none⟩),.pointer (some ⟨g,5,none⟩),.pointer (some ⟨g,6,none⟩),.pointer (some ⟨g,7,none⟩),.pointer (some ⟨g,8,none⟩),.pointer (some ⟨g,9,none⟩),.pointer (some ⟨g,10,none⟩),.pointer (some ⟨g,11,none⟩),.pointer (some ⟨g,12,none⟩),.pointer (some ⟨g,13,none⟩),.pointer (some ⟨g,14,none⟩),.pointer (some ⟨g,15,none⟩)] 183)).drew) w' rb g:=rs_numbers c rb g w.heap.size 14 os14 s (e.vals (.slice none 0 0) gr) _ (h.below (((Below.refl _ _).alloc (Nat.le_refl _) _).drew)) (PS.new w g os14 183) (by have:=h.2.2.2.2.2.2.2;omega) (by have:=h.2.2.1.2.2;omega) (fun k hk=>by
  rw[vals_size]
  have:∀ k (hk:k<os14.length),os14[k]<33:=by decide
  exact this k hk) (by decide) (by omega)
 rw[rdNums14,<-q0,<-r0] at hc
 have c1:∀ W,RS W c rb g S0 (E0.vals (.slice none 0 0) gr)->Calls Tryz.prog 131 #[.pointer (some ⟨c,0,none⟩),.pointer (some ⟨g,16,none⟩)] W fun r w'=>r=.returned (.tuple #[])∧RS w' c rb g S1 (E1.vals (.slice none 0 0) gr)∧G2 W w' rb g:=fun W hW=>by
  have:=rs_truth c rb g 16 _ S0 _ W hW (by omega) (vals_16 E0 _ gr)
  rw[set_16,<-q1] at this;rw[r1];exact this
 have c2:∀ W,RS W c rb g S1 (E1.vals (.slice none 0 0) gr)->Calls Tryz.prog 142 #[.pointer (some ⟨c,0,none⟩),.pointer (some ⟨g,17,none⟩)] W fun r w'=>r=.returned (.tuple #[])∧RS w' c rb g S2 (E2.vals (.slice none 0 0) gr)∧G2 W w' rb g:=fun W hW=>by
  have:=rs_number c rb g 17 _ S1 _ W hW (by omega) (vals_17 E1 _ gr)
  rw[set_17,<-q2] at this;rw[r2];exact this
 have c3:∀ W,RS W c rb g S2 (E2.vals (.slice none 0 0) gr)->Calls Tryz.prog 132 #[.pointer (some ⟨c,0,none⟩),.pointer (some ⟨g,18,none⟩)] W fun r w'=>r=.returned (.tuple #[])∧RS w' c rb g S3 (E3.vals (.slice none 0 0) gr)∧G2 W w' rb g:=fun W hW=>by
  have:=rs_text c rb g 18 _ S2 _ W hW (by omega) (vals_18 E2 _ gr)
  rw[set_18,<-q3] at this;rw[r3];exact this
 have c4:∀ W,RS W c rb g S3 (E3.vals (.slice none 0 0) gr)->Calls Tryz.prog 132 #[.pointer (some ⟨c,0,none⟩),.pointer (some ⟨g,19,none⟩)] W fun r w'=>r=.returned (.tuple #[])∧RS w' c rb g S4 (E4.vals (.slice none 0 0) gr)∧G2 W w' rb g:=fun W hW=>by
  have:=rs_text c rb g 19 _ S3 _ W hW (by omega) (vals_19 E3 _ gr)
  rw[set_19,<-q4] at this;rw[r4];exact this
 have c5:∀ W,RS W c rb g S4 (E4.vals (.slice none 0 0) gr)->Calls Tryz.prog 130 #[.pointer (some ⟨c,0,none⟩),.slice (some ⟨W.heap.size,0,none⟩) 2 2] ((W.alloc (.cells #[.pointer (some ⟨g,20,none⟩),.pointer (some ⟨g,21,none⟩)] 183)).drew) fun r w'=>r=.returned (.tuple #[])∧RS w' c rb g S5 (E5.vals (.slice none 0 0) gr)∧G2 ((W.alloc (.cells #[.pointer (some ⟨g,20,none⟩),.pointer (some ⟨g,21,none⟩)] 183)).drew) w' rb g:=fun W hW=>by
  have e1:rdNums [20,21] S4 (E4.vals (.slice none 0 0) gr)=(E5.vals (.slice none 0 0) gr,S5):=by
   simp only[rdNums]
   rw[set_20,set_21,r5,q5];rfl
  have:=rs_numbers c rb g W.heap.size 2 [20,21] S4 (E4.vals (.slice none 0 0) gr) _ (hW.below (((Below.refl _ _).alloc (Nat.le_refl _) _).drew)) (PS.new W g [20,21] 183) (by have:=hW.2.2.2.2.2.2.2;omega) (by have:=hW.2.2.1.2.2;omega) (fun k hk=>by
   rw[vals_size];rcases (by simp at hk;omega:k=0∨k=1) with rfl | rfl <;> simp) (by decide) (by omega)
  rw[e1] at this;exact this
 have c6:∀ W,RS W c rb g S5 (E5.vals (.slice none 0 0) gr)->Calls Tryz.prog 131 #[.pointer (some ⟨c,0,none⟩),.pointer (some ⟨g,22,none⟩)] W fun r w'=>r=.returned (.tuple #[])∧RS w' c rb g S6 (E6.vals (.slice none 0 0) gr)∧G2 W w' rb g:=fun W hW=>by
  have:=rs_truth c rb g 22 _ S5 _ W hW (by omega) (vals_22 E5 _ gr)
  rw[set_22,<-q6] at this;rw[r6];exact this
 have c7:∀ W,RS W c rb g S6 (E6.vals (.slice none 0 0) gr)->Calls Tryz.prog 206 #[.pointer (some ⟨c,0,none⟩),.int .i64 0,.int .i64 4] W fun r w'=>r=.returned (.int .i64 0)∧RS w' c rb g S7 (E6.vals (.slice none 0 0) gr)∧G2 W w' rb g:=fun W hW=>by
  have:=rs_count c rb g 4 0 S6 _ W hW (by omega) (by omega)
  rw[<-qm,<-q7,hm0] at this;exact this
 have c9:∀ W al',RS W c rb g S8 (E6.vals al' gr)->Calls Tryz.prog 142 #[.pointer (some ⟨c,0,none⟩),.pointer (some ⟨g,24,none⟩)] W fun r w'=>r=.returned (.tuple #[])∧RS w' c rb g (Rd.num S8).2 (E9.vals al' gr)∧G2 W w' rb g:=fun W al' hW=>by
  have:=rs_number c rb g 24 _ S8 _ W hW b8 (vals_24 E6 _ gr)
  rw[set_24] at this;rw[r9];exact this
 have v23:=vals_23 E6 (.slice none 0 0) gr
 have HC0:=Lib.hid hc
 have C1:=Lib.hid c1
 have C2:=Lib.hid c2
 have C3:=Lib.hid c3
 have C4:=Lib.hid c4
 have C5:=Lib.hid c5
 have C6:=Lib.hid c6
 have C7:=Lib.hid c7
 have C9:=Lib.hid c9
 have V23:=Lib.hid v23
 have HB:=Lib.hid bk
 have Q8:=Lib.hid q8
 have P8:=Lib.hid p8
 have hcw:=h.2.2.2.2.2.2.1
 have hrw:=h.2.2.2.2.2.2.2
 have hgw:=h.2.2.1.2.2
 rw[efin]
 have HS8:Hid (S8=S7):=Lib.hid (by rw[q8,hm0];rfl)
 have HL8:Hid (L8=[]):=Lib.hid (by rw[p8,hm0];rfl)
 clear hc c1 c2 c3 c4 c5 c6 c7 c9 v23 bk efin q0 q1 q2 q3 q4 q5 q6 q7 q8 p8 qm r0 r1 r2 r3 r4 r5 r6 r9 b0 b1 b2 b3 b4 b5 b6 b7 b8 h hm0 hm5
 go_enter Tryz.func126,Tryz.ntmps126
 go_wp2_with fail
 go_region_law (first | (go_simp;go_at_call 130;(with_reducible refine HC0.out.mono ?_);rintro _ w1 ⟨rfl,hW1,hG1⟩))
 all_goals
  have HG1:=Lib.hid (rs_grown.trans hG1)
  clear hG1
  go_wp2_with (first
   | (go_at_call 131;(with_reducible refine (C1.out _ hW1).mono ?_);rintro _ w2 ⟨rfl,hW2,hG2⟩;have HG2:=Lib.hid (HG1.out.trans hG2);clear hG2)
   | (go_at_call 142;(with_reducible refine (C2.out _ hW2).mono ?_);rintro _ w3 ⟨rfl,hW3,hG3⟩;have HG3:=Lib.hid (HG2.out.trans hG3);clear hG3)
   | (go_at_call 132;(with_reducible refine (C3.out _ hW3).mono ?_);rintro _ w4 ⟨rfl,hW4,hG4⟩;have HG4:=Lib.hid (HG3.out.trans hG4);clear hG4)
   | (go_at_call 132;(with_reducible refine (C4.out _ hW4).mono ?_);rintro _ w5 ⟨rfl,hW5,hG5⟩;have HG5:=Lib.hid (HG4.out.trans hG5);clear hG5))
  go_region_law (first | (go_simp;go_at_call 130;(with_reducible refine (C5.out _ hW5).mono ?_);rintro _ w6 ⟨rfl,hW6,hG6⟩))
  all_goals
   have HG6:=Lib.hid (HG5.out.trans (rs_grown.trans hG6))
   clear hG6
   have v23:=hW6.2.2.1.cell 23 _ (vals_23 E5 _ gr)
   go_wp2_with (first
    | (go_at_call 131;(with_reducible refine (C6.out _ hW6).mono ?_);rintro _ w7 ⟨rfl,hW7,hG7⟩;have v23:=hW7.2.2.1.cell 23 _ V23.out;have HG7:=Lib.hid (HG6.out.trans hG7);clear hG7)
    | (go_at_call 206;(with_reducible refine (C7.out _ hW7).mono ?_);rintro _ w8 ⟨rfl,hW8,hG8⟩;have v23:=hW8.2.2.1.cell 23 _ V23.out;have k1:w8.cell? ⟨c,1,none⟩=some (.pointer (some ⟨rb,0,none⟩)):=hW8.1;have HG8:=Lib.hid (HG7.out.trans hG8);clear hG8))
   go_loopw [115] (fun i wr=>i=.int .i64 0∧RS wr c rb g S8 (E6.vals (.slice none 0 0) gr)∧G2 w wr rb g) (fun i _=>0)
   case atStart=>exact⟨rfl,by rw[HS8.out];exact hW8,HG8.out⟩
   case round =>
    obtain⟨rfl,hWr,hGr⟩:=hrel
    have HGr:=Lib.hid hGr
    have v23:=hWr.2.2.1.cell 23 _ V23.out
    clear hGr
    go_wp2_with (go_at_call 142;(with_reducible refine (C9.out _ _ hWr).mono ?_);rintro _ w9 ⟨rfl,hW9,hG9⟩;have HW9:=Lib.hid hW9;have HG9:=Lib.hid (HGr.out.trans hG9);clear hG9 hW9)
    go_end0
    exact⟨rfl,_,HW9.out,⟨by rw[HL8.out];exact IS.nil _,fun _ h=>by cases h⟩,HG9.out⟩
end
section
theorem fr_data1 (c rb g:Nat) (s:List UInt8 × Nat) (e:En) (gr:Value) (w:World) (h:RS w c rb g s (e.vals (.slice none 0 0) gr)) (hs:s.1.length<=1000) (hm0:0<cntv 4 (clip (Rd.num (Rd.boo (sq (Rd.txt 200 (Rd.txt 200 (Rd.num (Rd.boo (sq s 14)).2).2).2).2 2)).2).1)) :
  Calls Tryz.prog 126 #[.pointer (some ⟨c,0,none⟩),.pointer (some ⟨g,0,none⟩)] w fun r w'=>r=.returned (.tuple #[])∧∃ al',RS w' c rb g (rdData e s).2.2 ((rdData e s).1.vals al' gr)∧(IS w' al' (rdData e s).2.1∧∀ x,al'.ownBlock=some x->w.heap.size<=x)∧G2 w w' rb g:=by
 obtain⟨S0,q0⟩:∃ S,S=sq s 14:=⟨_,rfl⟩
 obtain⟨E0,r0⟩:∃ E,E=setD e (nq s):=⟨_,rfl⟩
 obtain⟨S1,q1⟩:∃ S,S=(Rd.boo S0).2:=⟨_,rfl⟩
 obtain⟨E1,r1⟩:∃ E:En,E=E0.sUq (Rd.boo S0).1:=⟨_,rfl⟩
 obtain⟨S2,q2⟩:∃ S,S=(Rd.num S1).2:=⟨_,rfl⟩
 obtain⟨E2,r2⟩:∃ E:En,E=E1.sCls (clip (Rd.num S1).1):=⟨_,rfl⟩
 obtain⟨S3,q3⟩:∃ S,S=(Rd.txt 200 S2).2:=⟨_,rfl⟩
 obtain⟨E3,r3⟩:∃ E:En,E=E2.sVol ⟨(Rd.txt 200 S2).1.toArray⟩:=⟨_,rfl⟩
 obtain⟨S4,q4⟩:∃ S,S=(Rd.txt 200 S3).2:=⟨_,rfl⟩
 obtain⟨E4,r4⟩:∃ E:En,E=E3.sOwn ⟨(Rd.txt 200 S3).1.toArray⟩:=⟨_,rfl⟩
 obtain⟨S5,q5⟩:∃ S,S=sq S4 2:=⟨_,rfl⟩
 obtain⟨E5,r5⟩:∃ E:En,E=E4.sCE (nq S4 0) (nq S4 1):=⟨_,rfl⟩
 obtain⟨S6,q6⟩:∃ S,S=(Rd.boo S5).2:=⟨_,rfl⟩
 obtain⟨E6,r6⟩:∃ E:En,E=E5.sAr (Rd.boo S5).1:=⟨_,rfl⟩
 obtain⟨S7,q7⟩:∃ S,S=(Rd.num S6).2:=⟨_,rfl⟩
 obtain⟨m,qm⟩:∃ m,m=cntv 4 (clip (Rd.num S6).1):=⟨_,rfl⟩
 obtain⟨S8,q8⟩:∃ S,S=(rdN S7 m).2:=⟨_,rfl⟩
 obtain⟨L8,p8⟩:∃ L,L=(rdN S7 m).1:=⟨_,rfl⟩
 obtain⟨E9,r9⟩:∃ E:En,E=E6.sUsed (clip (Rd.num S8).1):=⟨_,rfl⟩
 have efin:rdData e s=(E9,L8,(Rd.num S8).2):=by
  rw[r9,r6,r5,r4,r3,r2,r1,r0,p8,q8,qm,q7,q6,q5,q4,q3,q2,q1,q0];rfl
 have b0:S0.1.length<=1000:=by rw[q0];exact Nat.le_trans (sq_len s 14) hs
 have b1:S1.1.length<=1000:=by rw[q1];exact Nat.le_trans (Rd.boo_len S0) b0
 have b2:S2.1.length<=1000:=by rw[q2];exact Nat.le_trans (Rd.num_len S1) b1
 have b3:S3.1.length<=1000:=by rw[q3];exact Nat.le_trans (Rd.txt_len 200 S2).1 b2
 have b4:S4.1.length<=1000:=by rw[q4];exact Nat.le_trans (Rd.txt_len 200 S3).1 b3
 have b5:S5.1.length<=1000:=by rw[q5];exact Nat.le_trans (sq_len S4 2) b4
 have b6:S6.1.length<=1000:=by rw[q6];exact Nat.le_trans (Rd.boo_len S5) b5
 have b7:S7.1.length<=1000:=by rw[q7];exact Nat.le_trans (Rd.num_len S6) b6
 have bk:∀ k,(rdN S7 k).2.1.length<=10000:=fun k=>by rw[rdN_sq];have:=sq_len S7 k;omega
 have b8:S8.1.length<=10000:=by rw[q8];exact bk m
 have hm5:m<=5:=by rw[qm];unfold cntv;split <;> omega
 have hm0:0<m:=by
  rw[qm,q6,q5,q4,q3,q2,q1,q0];exact hm0
 have hc:Calls Tryz.prog 130 #[.pointer (some ⟨c,0,none⟩),.slice (some ⟨w.heap.size,0,none⟩) 14 14] ((w.alloc (.cells #[.pointer (some ⟨g,2,none⟩),.pointer (some ⟨g,3,none⟩),.pointer (some ⟨g,4,none⟩),.pointer (some ⟨g,5,none⟩),.pointer (some ⟨g,6,none⟩),.pointer (some ⟨g,7,none⟩),.pointer (some ⟨g,8,none⟩),.pointer (some ⟨g,9,none⟩),.pointer (some ⟨g,10,none⟩),.pointer (some ⟨g,11,none⟩),.pointer (some ⟨g,12,none⟩),.pointer (some ⟨g,13,none⟩),.pointer (some ⟨g,14,none⟩),.pointer (some ⟨g,15,none⟩)] 183)).drew) fun r w'=>r=.returned (.tuple #[])∧RS w' c rb g (rdNums os14 s (e.vals (.slice none 0 0) gr)).2 (rdNums os14 s (e.vals (.slice none 0 0) gr)).1∧G2 ((w.alloc (.cells #[.pointer (some ⟨g,2,none⟩),.pointer (some ⟨g,3,none⟩),.pointer (some ⟨g,4,none⟩),.pointer (some ⟨g,5,none⟩),.pointer (some ⟨g,6,none⟩),.pointer (some ⟨g,7,none⟩),.pointer (some ⟨g,8,none⟩),.pointer (some ⟨g,9,none⟩),.pointer (some ⟨g,10,none⟩),.pointer (some ⟨g,11,none⟩),.pointer (some ⟨g,12,none⟩),.pointer (some ⟨g,13,none⟩),.pointer (some ⟨g,14,none⟩),.pointer (some ⟨g,15,none⟩)] 183)).drew) w' rb g:=rs_numbers c rb g w.heap.size 14 os14 s (e.vals (.slice none 0 0) gr) _ (h.below (((Below.refl _ _).alloc (Nat.le_refl _) _).drew)) (PS.new w g os14 183) (by have:=h.2.2.2.2.2.2.2;omega) (by have:=h.2.2.1.2.2;omega) (fun k hk=>by
  rw[vals_size]
  have:∀ k (hk:k<os14.length),os14[k]<33:=by decide
  exact this k hk) (by decide) (by omega)
 rw[rdNums14,<-q0,<-r0] at hc
 have c1:∀ W,RS W c rb g S0 (E0.vals (.slice none 0 0) gr)->Calls Tryz.prog 131 #[.pointer (some ⟨c,0,none⟩),.pointer (some ⟨g,16,none⟩)] W fun r w'=>r=.returned (.tuple #[])∧RS w' c rb g S1 (E1.vals (.slice none 0 0) gr)∧G2 W w' rb g:=fun W hW=>by
  have:=rs_truth c rb g 16 _ S0 _ W hW (by omega) (vals_16 E0 _ gr)
  rw[set_16,<-q1] at this;rw[r1];exact this
 have c2:∀ W,RS W c rb g S1 (E1.vals (.slice none 0 0) gr)->Calls Tryz.prog 142 #[.pointer (some ⟨c,0,none⟩),.pointer (some ⟨g,17,none⟩)] W fun r w'=>r=.returned (.tuple #[])∧RS w' c rb g S2 (E2.vals (.slice none 0 0) gr)∧G2 W w' rb g:=fun W hW=>by
  have:=rs_number c rb g 17 _ S1 _ W hW (by omega) (vals_17 E1 _ gr)
  rw[set_17,<-q2] at this;rw[r2];exact this
 have c3:∀ W,RS W c rb g S2 (E2.vals (.slice none 0 0) gr)->Calls Tryz.prog 132 #[.pointer (some ⟨c,0,none⟩),.pointer (some ⟨g,18,none⟩)] W fun r w'=>r=.returned (.tuple #[])∧RS w' c rb g S3 (E3.vals (.slice none 0 0) gr)∧G2 W w' rb g:=fun W hW=>by
  have:=rs_text c rb g 18 _ S2 _ W hW (by omega) (vals_18 E2 _ gr)
  rw[set_18,<-q3] at this;rw[r3];exact this
 have c4:∀ W,RS W c rb g S3 (E3.vals (.slice none 0 0) gr)->Calls Tryz.prog 132 #[.pointer (some ⟨c,0,none⟩),.pointer (some ⟨g,19,none⟩)] W fun r w'=>r=.returned (.tuple #[])∧RS w' c rb g S4 (E4.vals (.slice none 0 0) gr)∧G2 W w' rb g:=fun W hW=>by
  have:=rs_text c rb g 19 _ S3 _ W hW (by omega) (vals_19 E3 _ gr)
  rw[set_19,<-q4] at this;rw[r4];exact this
 have c5:∀ W,RS W c rb g S4 (E4.vals (.slice none 0 0) gr)->Calls Tryz.prog 130 #[.pointer (some ⟨c,0,none⟩),.slice (some ⟨W.heap.size,0,none⟩) 2 2] ((W.alloc (.cells #[.pointer (some ⟨g,20,none⟩),.pointer (some ⟨g,21,none⟩)] 183)).drew) fun r w'=>r=.returned (.tuple #[])∧RS w' c rb g S5 (E5.vals (.slice none 0 0) gr)∧G2 ((W.alloc (.cells #[.pointer (some ⟨g,20,none⟩),.pointer (some ⟨g,21,none⟩)] 183)).drew) w' rb g:=fun W hW=>by
  have e1:rdNums [20,21] S4 (E4.vals (.slice none 0 0) gr)=(E5.vals (.slice none 0 0) gr,S5):=by
   simp only[rdNums]
   rw[set_20,set_21,r5,q5];rfl
  have:=rs_numbers c rb g W.heap.size 2 [20,21] S4 (E4.vals (.slice none 0 0) gr) _ (hW.below (((Below.refl _ _).alloc (Nat.le_refl _) _).drew)) (PS.new W g [20,21] 183) (by have:=hW.2.2.2.2.2.2.2;omega) (by have:=hW.2.2.1.2.2;omega) (fun k hk=>by
   rw[vals_size];rcases (by simp at hk;omega:k=0∨k=1) with rfl | rfl <;> simp) (by decide) (by omega)
  rw[e1] at this;exact this
 have c6:∀ W,RS W c rb g S5 (E5.vals (.slice none 0 0) gr)->Calls Tryz.prog 131 #[.pointer (some ⟨c,0,none⟩),.pointer (some ⟨g,22,none⟩)] W fun r w'=>r=.returned (.tuple #[])∧RS w' c rb g S6 (E6.vals (.slice none 0 0) gr)∧G2 W w' rb g:=fun W hW=>by
  have:=rs_truth c rb g 22 _ S5 _ W hW (by omega) (vals_22 E5 _ gr)
  rw[set_22,<-q6] at this;rw[r6];exact this
 have c7:∀ W,RS W c rb g S6 (E6.vals (.slice none 0 0) gr)->Calls Tryz.prog 206 #[.pointer (some ⟨c,0,none⟩),.int .i64 0,.int .i64 4] W fun r w'=>r=.returned (.int .i64 m)∧RS w' c rb g S7 (E6.vals (.slice none 0 0) gr)∧G2 W w' rb g:=fun W hW=>by
  have:=rs_count c rb g 4 0 S6 _ W hW (by omega) (by omega)
  rw[<-qm,<-q7] at this;exact this
 have c9:∀ W al',RS W c rb g S8 (E6.vals al' gr)->Calls Tryz.prog 142 #[.pointer (some ⟨c,0,none⟩),.pointer (some ⟨g,24,none⟩)] W fun r w'=>r=.returned (.tuple #[])∧RS w' c rb g (Rd.num S8).2 (E9.vals al' gr)∧G2 W w' rb g:=fun W al' hW=>by
  have:=rs_number c rb g 24 _ S8 _ W hW b8 (vals_24 E6 _ gr)
  rw[set_24] at this;rw[r9];exact this
 have v23:=vals_23 E6 (.slice none 0 0) gr
 have HC0:=Lib.hid hc
 have C1:=Lib.hid c1
 have C2:=Lib.hid c2
 have C3:=Lib.hid c3
 have C4:=Lib.hid c4
 have C5:=Lib.hid c5
 have C6:=Lib.hid c6
 have C7:=Lib.hid c7
 have C9:=Lib.hid c9
 have V23:=Lib.hid v23
 have HB:=Lib.hid bk
 have Q8:=Lib.hid q8
 have P8:=Lib.hid p8
 have hcw:=h.2.2.2.2.2.2.1
 have hrw:=h.2.2.2.2.2.2.2
 have hgw:=h.2.2.1.2.2
 rw[efin]
 have d0:decide ((0:Int)<(m:Int))=true:=by rw[decide_eq_true_eq];omega
 obtain⟨i0,hi,hz0,hz1,hz2⟩:=info_parts intInfo
 have HI:=Lib.hid hi
 have HZ0:=Lib.hid hz0
 have HZ1:=Lib.hid hz1
 have HM:Hid (i0.bytes*m<=281474976710656):=Lib.hid (by rw[hz2];omega)
 have hmx:m<=maxLen:=by unfold maxLen;omega
 have HX:=Lib.hid hmx
 clear hi hz0 hz1 hz2 hmx
 clear hc c1 c2 c3 c4 c5 c6 c7 c9 v23 bk efin q0 q1 q2 q3 q4 q5 q6 q7 q8 p8 qm r0 r1 r2 r3 r4 r5 r6 r9 b0 b1 b2 b3 b4 b5 b6 b7 b8 h
 go_enter Tryz.func126,Tryz.ntmps126
 go_wp2_with fail
 go_region_law (first | (go_simp;go_at_call 130;(with_reducible refine HC0.out.mono ?_);rintro _ w1 ⟨rfl,hW1,hG1⟩))
 all_goals
  have HG1:=Lib.hid (rs_grown.trans hG1)
  clear hG1
  go_wp2_with (first
   | (go_at_call 131;(with_reducible refine (C1.out _ hW1).mono ?_);rintro _ w2 ⟨rfl,hW2,hG2⟩;have HG2:=Lib.hid (HG1.out.trans hG2);clear hG2)
   | (go_at_call 142;(with_reducible refine (C2.out _ hW2).mono ?_);rintro _ w3 ⟨rfl,hW3,hG3⟩;have HG3:=Lib.hid (HG2.out.trans hG3);clear hG3)
   | (go_at_call 132;(with_reducible refine (C3.out _ hW3).mono ?_);rintro _ w4 ⟨rfl,hW4,hG4⟩;have HG4:=Lib.hid (HG3.out.trans hG4);clear hG4)
   | (go_at_call 132;(with_reducible refine (C4.out _ hW4).mono ?_);rintro _ w5 ⟨rfl,hW5,hG5⟩;have HG5:=Lib.hid (HG4.out.trans hG5);clear hG5))
  go_region_law (first | (go_simp;go_at_call 130;(with_reducible refine (C5.out _ hW5).mono ?_);rintro _ w6 ⟨rfl,hW6,hG6⟩))
  all_goals
   have HG6:=Lib.hid (HG5.out.trans (rs_grown.trans hG6))
   clear hG6
   have v23:=hW6.2.2.1.cell 23 _ (vals_23 E5 _ gr)
   go_wp2_with (first
    | (go_at_call 131;(with_reducible refine (C6.out _ hW6).mono ?_);rintro _ w7 ⟨rfl,hW7,hG7⟩;have v23:=hW7.2.2.1.cell 23 _ V23.out;have HG7:=Lib.hid (HG6.out.trans hG7);clear hG7)
    | (go_at_call 206;(with_reducible refine (C7.out _ hW7).mono ?_);rintro _ w8 ⟨rfl,hW8,hG8⟩;have v23:=hW8.2.2.1.cell 23 _ V23.out;have k1:w8.cell? ⟨c,1,none⟩=some (.pointer (some ⟨rb,0,none⟩)):=hW8.1;have HG8:=Lib.hid (HG7.out.trans hG8);clear hG8)
    | (at_make;refine wpList_make_full _ rfl _ _ 25 rfl w8.heap.size 3 i0 (.int .i64 0) 1 Tryz.underlying25 HI.out HZ0.out HZ1.out _ _ _ _ m rfl rfl (by omega) (by omega) HM.out HX.out (Nat.le_refl _) ?_;intro w9 hown hgrow;have HS9:=Lib.hid (d_made hW8 HG8.out hown hgrow hm0);clear hown hgrow;have f0:=HS9.out.1;have c23:=HS9.out.2.1))
   go_loopw [115] (fun i wr=>∃ (k gb:Nat),k<=m∧i=.int .i64 k∧RS wr c rb g (rdN S7 k).2 (E6.vals (.slice (some ⟨gb,0,none⟩) m m) gr)∧w.heap.size<=gb∧NB wr gb m (fun j=>if j<k then nq S7 j else 0)∧G2 w wr rb g) (fun i _=>m - (intOf i).toNat)
   case atStart=>exact⟨0,_,Nat.zero_le _,rfl,HS9.out.2.2.1,HS9.out.2.2.2.1,HS9.out.2.2.2.2.1,HS9.out.2.2.2.2.2⟩
   case round =>
    obtain⟨k,gb,hk,rfl,hWr,hB,hN,hGr⟩:=hrel
    have HGr:=Lib.hid hGr
    have v23:=hWr.2.2.1.cell 23 _ (vals_23 E6 (.slice (some ⟨gb,0,none⟩) m m) gr)
    clear hGr
    by_cases hlt:k<m
    · have cA:=hN.1 k hlt
      have hc:=ci_number c rb ⟨gb,k,none⟩ _ (rdN S7 k).2 wr (HB.out k) hWr.1 hWr.2.1 hWr.2.2.2.2.2.2.2 cA (hN.2.1 k) hN.2.2 (by show gb≠rb;omega)
      have HC:=Lib.hid hc
      have HW:=Lib.hid hWr
      have HN:=Lib.hid hN
      clear hc hWr hN cA
      go_wp2_with (go_at_call 142;(with_reducible refine HC.out.mono ?_);rintro _ w9 ⟨rfl,wy,hR,hG,rfl⟩;have HS:=Lib.hid (d_step HW.out hcw hrw hgw hB HN.out HGr.out hR hG hlt);clear hR hG)
      go_roundw
      case rel=>exact⟨k+1,gb,by omega,by go_num,HS.out.1,hB,HS.out.2.1,HS.out.2.2⟩
      case measure=>simp [intOf];omega
    · have hkm:k=m:=by omega
      have hW8':RS wr c rb g S8 (E6.vals (.slice (some ⟨gb,0,none⟩) m m) gr):=by
       rw[hkm] at hWr;rw[Q8.out];exact hWr
      have hL:L8.length=m:=by rw[P8.out];exact rdN_len S7 m
      have HX8:=Lib.hid (rdN_ix S7 k m L8 P8.out hkm)
      have HN:=Lib.hid hN
      clear hWr hN
      go_wp2_with (go_at_call 142;(with_reducible refine (C9.out _ _ hW8').mono ?_);rintro _ w9 ⟨rfl,hW9,hG9⟩;have HW9:=Lib.hid hW9;have HI9:=Lib.hid (HN.out.g2 hG9 (by omega) (by omega));have HG9:=Lib.hid (HGr.out.trans hG9);clear hG9 hW9)
      go_end0
      exact⟨rfl,_,HW9.out,⟨HI9.out.is hL (by omega) HX8.out,fun x hx=>by cases hx;exact hB⟩,HG9.out⟩
end
end Go.Proofs.YtnojclchnhmggaaGreatDoor
