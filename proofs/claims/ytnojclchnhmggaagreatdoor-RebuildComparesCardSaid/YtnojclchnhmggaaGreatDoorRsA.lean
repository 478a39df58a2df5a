/- Contracts of the references: dasdref33.Same, where the first entry has alternates, however many, and the second has none. -/
import Derived.Test.YtnojclchnhmggaaGreatDoorSaC
import Derived.BigGuardPart
import Derived.BigCall
namespace Go.Proofs.YtnojclchnhmggaaGreatDoor
open Go.RowKit
set_option maxHeartbeats 16000000
section
set_option maxRecDepth 4000
theorem rints_lens (a1 a2:Option Addr) (n1 n2 c1 c2:Nat) (w:World) (hn:n1≠n2) :
  Calls Tryz.prog 153 #[.slice a1 n1 c1,.slice a2 n2 c2] w fun e w'=>e=.returned (.bool false)∧w=w':=by
 have e2:((n1:Int)==(n2:Int))=false:=by rw[beq_eq_false_iff_ne];omega
 have e1:(n1==n2)=false:=by simpa using hn
 clear hn
 go_enter Tryz.func153,Tryz.ntmps153
 go_wp2_with fail
 go_ret
 exact⟨rfl,rfl⟩
theorem rints (v1 v2:Value) (l1 l2:List Int) (w:World) (h1:IS w v1 l1) (h2:IS w v2 l2) :
  Calls Tryz.prog 153 #[v1,v2] w fun e w'=>e=.returned (.bool (decide (l1=l2)))∧Below w.heap.size w w':=by
 obtain⟨a1,c1,rfl,hz1,hc1⟩:=h1
 obtain⟨a2,c2,rfl,hz2,hc2⟩:=h2
 by_cases hn:l1.length=l2.length
 rotate_left
 · refine (rints_lens a1 a2 l1.length l2.length c1 c2 w hn).mono ?_
   rintro e w' ⟨rfl,rfl⟩
   exact⟨ret_bool (by rw[eq_comm,decide_eq_false_iff_not];intro e;exact hn (by rw[e])),Below.refl _ _⟩
 have H1:=Lib.hid hc1
 have H2:=Lib.hid hc2
 have HN:=Lib.hid hn
 clear hc1 hc2
 rw[<-hn]
 clear hn
 go_enter Tryz.func153,Tryz.ntmps153
 go_wp2_with fail
 go_loopw [5] (fun i wr=>∃ k:Nat,k<=l1.length∧i=.int .i64 k∧l1.take k=l2.take k∧∃ q,wr=w.drewN q) (fun i _=>l1.length - (intOf i).toNat)
 case atStart=>exact⟨0,Nat.zero_le _,rfl,rfl,0,rfl⟩
 case round =>
  obtain⟨k,hk,rfl,he,q,rfl⟩:=hrel
  have HE:=Lib.hid he
  clear he
  by_cases hlt:k<l1.length
  · have hk2:k<l2.length:=by rw[<-HN.out];exact hlt
    obtain⟨b1,o1,rfl,-,p⟩:=H1.out (by omega)
    obtain⟨b2,o2,rfl,-,r⟩:=H2.out (by omega)
    have p1:=p k hlt
    have p2:=r k hk2
    have i0:(0:Int)<=(k:Int):=by omega
    have i1:(k:Int)<(l1.length:Int):=by omega
    clear p r
    by_cases hd:l1[k]=l2[k]
    · have HD:=Lib.hid hd
      have hq:(l1[k]==l2[k])=true:=by simpa using hd
      have hq2:(l1[k] != l2[k])=false:=by simpa using hd
      clear hd
      go_wp2_with fail
      go_quiet (fail)
      go_wp2_with fail
      go_roundw
      case rel =>
       refine⟨k+1,by omega,by go_num,?_,_,rfl⟩
       rw[List.take_succ_eq_append_getElem hlt,List.take_succ_eq_append_getElem hk2,HE.out,HD.out]
      case measure=>simp [intOf];omega
    · have HD:=Lib.hid hd
      have hq:(l1[k]==l2[k])=false:=by simpa using hd
      have hq2:(l1[k] != l2[k])=true:=by simpa using hd
      clear hd
      go_wp2_with fail
      go_quiet (fail)
      go_wp2_with fail
      go_ret
      exact⟨ret_bool (by
       symm
       rw[decide_eq_false_iff_not]
       intro e
       subst e
       exact HD.out rfl),below_drewN (below_drewN (Below.refl _ _) _) _⟩
  · go_wp2_with fail
    go_ret
    exact⟨ret_bool (by
     symm
     rw[decide_eq_true_eq]
     have:=HE.out
     rw[List.take_of_length_le (by omega),List.take_of_length_le (by rw[<-HN.out];omega)] at this
     exact this),below_drewN (Below.refl _ _) _⟩
end
section
set_option maxRecDepth 8000
attribute [local go_sem ↓ high] ldDat dat_eql
attribute [local go_sem] isDat_mk headOf_mk row_new row_new2 row_new2' row_drew row_drewN vals_size vals_dat vals_0 vals_1 vals_23 vals_24 vals_25 vals_26 vals_27 vals_28 vals_29 vals_30 vals_31 vals_32
theorem GS.at {w:World} {a:Option Addr} {n c:Nat} {l:List Gr} (h:GS w (.slice a n c) l) (h0:0<l.length):∃ b o,a=some ⟨b,o,none⟩∧∀ k (h:k<l.length),w.cell? ⟨b,o+k*3,none⟩=some (.string l[k].1)∧w.cell? ⟨b,o+k*3+1,none⟩=some (.bool l[k].2.1)∧w.cell? ⟨b,o+k*3+2,none⟩=some (.int .i64 l[k].2.2):=by
 obtain⟨a',c',e,-,h⟩:=h
 obtain⟨rfl,-,rfl⟩:a=a'∧n=l.length∧c=c':=by simpa using e
 obtain⟨b,o,h1,-,h2⟩:=h h0
 exact⟨b,o,h1,h2⟩
theorem rsame_lens (e f:En) (al1 al2:Value) (a1 a2:Option Addr) (n1 n2 c1 c2:Nat) (w:World) (hn:n1≠n2) :
  Calls Tryz.prog 63 #[.agg (e.vals al1 (.slice a1 n1 c1)),.agg (f.vals al2 (.slice a2 n2 c2))] w fun r w'=>r=.returned (.bool false)∧Below w.heap.size w w':=by
 have e2:((n1:Int)==(n2:Int))=false:=by rw[beq_eq_false_iff_ne];omega
 have e3:((n1:Int) != (n2:Int))=true:=by rw[bne_iff_ne];omega
 clear hn
 go_enter Tryz.func63,Tryz.ntmps63
 go_wp2_with fail
 go_ret
 exact⟨rfl,by exact belA⟩
theorem rsame_gr (e f:En) (al1 al2:Value) (a1 a2:Option Addr) (c1 c2:Nat) (g1 g2:List Gr) (w:World) (hn:g1.length=g2.length) (h3:GS w (.slice a1 g1.length c1) g1) (h4:GS w (.slice a2 g2.length c2) g2) (hne:g1≠g2) :
  Calls Tryz.prog 63 #[.agg (e.vals al1 (.slice a1 g1.length c1)),.agg (f.vals al2 (.slice a2 g2.length c2))] w fun r w'=>r=.returned (.bool false)∧Below w.heap.size w w':=by
 have HN:=Lib.hid hn
 have HNE:=Lib.hid hne
 rw[<-hn] at h4 ⊢
 clear hn hne
 have hz:g1.length<=1000000:=by obtain⟨_,_,e,hz,-⟩:=h3;exact hz
 have hal:Below w.heap.size w ((w.alloc (.cells (e.vals al1 (.slice a1 g1.length c1)) 28)).alloc (.cells (f.vals al2 (.slice a2 g1.length c2)) 28)):=by exact belA
 have H3:=Lib.hid (h3.below hal)
 have H4:=Lib.hid (h4.below hal)
 clear h3 h4
 go_enter Tryz.func63,Tryz.ntmps63
 simp only[List.append_eq,List.cons_append,List.nil_append]
 go_wp2_with fail
 go_loopw [5] (fun i wr=>∃ k:Nat,k<=g1.length∧i=.int .i64 k∧g1.take k=g2.take k∧∃ q,wr=((w.alloc (.cells (e.vals al1 (.slice a1 g1.length c1)) 28)).alloc (.cells (f.vals al2 (.slice a2 g1.length c2)) 28)).drewN q) (fun i _=>g1.length - (intOf i).toNat)
 case atStart=>exact⟨0,Nat.zero_le _,rfl,rfl,0,rfl⟩
 case round =>
  obtain⟨k,hk,rfl,he,q,rfl⟩:=hrel
  have HE:=Lib.hid he
  clear he
  by_cases hlt:k<g1.length
  · have hk2:k<g2.length:=by rw[<-HN.out];exact hlt
    obtain⟨b1,o1,rfl,p⟩:=GS.at H3.out (by omega)
    obtain⟨b2,o2,rfl,r⟩:=GS.at H4.out (by omega)
    obtain⟨p1,p2,p3⟩:=p k hlt
    obtain⟨r1,r2,r3⟩:=r k hk2
    have hq:=fun W=>gr_neq g1[k] g2[k] W
    clear p r
    by_cases hd:g1[k]=g2[k]
    · have HD:=Lib.hid hd
      rw[decide_eq_true hd] at hq
      clear hd
      go_wp2_with fail
      go_quiet (fail)
      go_wp2_with fail
      go_roundw
      case rel =>
       refine⟨k+1,by omega,by go_num,?_,_,rfl⟩
       rw[List.take_succ_eq_append_getElem hlt,List.take_succ_eq_append_getElem hk2,HE.out,HD.out]
      case measure=>simp [intOf];omega
    · rw[decide_eq_false hd] at hq
      clear hd
      go_wp2_with fail
      go_quiet (fail)
      go_wp2_with fail
      go_ret
      exact⟨rfl,below_drewN (below_drewN hal _) _⟩
  · exact absurd (by
     have:=HE.out
     rw[List.take_of_length_le (by omega),List.take_of_length_le (by rw[<-HN.out];omega)] at this
     exact this) HNE.out
theorem rsame_g (e f:En) (al1 al2:Value) (a1 a2:Option Addr) (c1 c2:Nat) (g:List Gr) (li:Bool) (w:World) (h3:GS w (.slice a1 g.length c1) g) (h4:GS w (.slice a2 g.length c2) g) (hi:∀ W,Below w.heap.size w W->Calls Tryz.prog 153 #[al1,al2] W fun r w'=>r=.returned (.bool li)∧Below W.heap.size W w') :
  Calls Tryz.prog 63 #[.agg (e.vals al1 (.slice a1 g.length c1)),.agg (f.vals al2 (.slice a2 g.length c2))] w fun r w'=>r=.returned (.bool ((e.kind==f.kind)&&(e.name.toList==f.name.toList)&&datEq e f&&li&&(e.used==f.used)&&(e.lim==f.lim)&&(e.last==f.last)&&(e.em==f.em)&&(e.owner.toList==f.owner.toList)&&(e.target.toList==f.target.toList)&&(e.cat==f.cat)&&(e.lev==f.lev)))∧Below w.heap.size w w':=by
 obtain⟨t0,E0⟩:∃ t,(e.kind==f.kind)=t:=⟨_,rfl⟩
 obtain⟨t1,E1⟩:∃ t,(e.name.toList==f.name.toList)=t:=⟨_,rfl⟩
 obtain⟨t2,E2⟩:∃ t,datEq e f=t:=⟨_,rfl⟩
 obtain⟨t4,E4⟩:∃ t,(e.used==f.used)=t:=⟨_,rfl⟩
 obtain⟨t5,E5⟩:∃ t,(e.lim==f.lim)=t:=⟨_,rfl⟩
 obtain⟨t6,E6⟩:∃ t,(e.last==f.last)=t:=⟨_,rfl⟩
 obtain⟨t7,E7⟩:∃ t,(e.em==f.em)=t:=⟨_,rfl⟩
 obtain⟨t8,E8⟩:∃ t,(e.owner.toList==f.owner.toList)=t:=⟨_,rfl⟩
 obtain⟨t9,E9⟩:∃ t,(e.target.toList==f.target.toList)=t:=⟨_,rfl⟩
 obtain⟨t10,E10⟩:∃ t,(e.cat==f.cat)=t:=⟨_,rfl⟩
 obtain⟨t11,E11⟩:∃ t,(e.lev==f.lev)=t:=⟨_,rfl⟩
 rw[E0,E1,E2,E4,E5,E6,E7,E8,E9,E10,E11]
 obtain⟨q,hq⟩:∃ q,(t0&&t1&&t2&&li&&t4&&t5&&t6&&t7&&t8&&t9&&t10&&t11)=q:=⟨_,rfl⟩
 rw[hq]
 have HQ:=Lib.hid hq
 have HE:=Lib.hid (⟨E0,E1,E2,E4,E5,E6,E7,E8,E9,E10,E11⟩:_∧_∧_∧_∧_∧_∧_∧_∧_∧_∧_)
 have hz:g.length<=1000000:=by obtain⟨_,_,e,hz,-⟩:=h3;exact hz
 have hal:Below w.heap.size w ((w.alloc (.cells (e.vals al1 (.slice a1 g.length c1)) 28)).alloc (.cells (f.vals al2 (.slice a2 g.length c2)) 28)):=by exact belA
 have H3:=Lib.hid (h3.below hal)
 have H4:=Lib.hid (h4.below hal)
 have HI:=Lib.hid hi
 clear hi hq h3 h4 E0 E1 E2 E4 E5 E6 E7 E8 E9 E10 E11
 go_enter Tryz.func63,Tryz.ntmps63
 simp only[List.append_eq,List.cons_append,List.nil_append]
 go_wp2_with fail
 go_loopw [5] (fun i wr=>∃ k:Nat,k<=g.length∧i=.int .i64 k∧∃ q,wr=((w.alloc (.cells (e.vals al1 (.slice a1 g.length c1)) 28)).alloc (.cells (f.vals al2 (.slice a2 g.length c2)) 28)).drewN q) (fun i _=>g.length - (intOf i).toNat)
 case atStart=>exact⟨0,Nat.zero_le _,rfl,0,rfl⟩
 case round =>
  obtain⟨k,hk,rfl,q,rfl⟩:=hrel
  by_cases hlt:k<g.length
  · obtain⟨b1,o1,rfl,p⟩:=GS.at H3.out (by omega)
    obtain⟨b2,o2,rfl,r⟩:=GS.at H4.out (by omega)
    obtain⟨p1,p2,p3⟩:=p k hlt
    obtain⟨r1,r2,r3⟩:=r k hlt
    have hq:=fun W=>gr_neq g[k] g[k] W
    rw[decide_eq_true rfl] at hq
    clear p r
    go_wp2_with fail
    go_quiet (fail)
    go_wp2_with fail
    go_roundw
    case rel=>exact⟨k+1,by omega,by go_num,_,rfl⟩
    case measure=>simp [intOf];omega
  · have B:=below_drewN hal q
    obtain⟨E0,E1,E2,E4,E5,E6,E7,E8,E9,E10,E11⟩:=HE.out
    clear hal HE
    cases t0;rotate_left;cases t1;rotate_left;cases t2;rotate_left;cases li;rotate_left;cases t4;rotate_left;cases t5;rotate_left;cases t6;rotate_left;cases t7;rotate_left;cases t8;rotate_left;cases t9;rotate_left;cases t10;rotate_left;cases t11
    all_goals
     go_wp2_with (go_at_call 153;(with_reducible refine (HI.out _ (by exact belA)).mono ?_);rintro _ w1 ⟨rfl,hb⟩;obtain⟨hc1,hf1⟩:=bcell hb;have B:=bt (show Below w.heap.size w _ by exact belA) hb)
     go_ret
     exact⟨by rw[<-HQ.out];rfl,B⟩
theorem rsame (e f:En) (al1 gr1 al2 gr2:Value) (l1 l2:List Int) (g1 g2:List Gr) (w:World) (h1:IS w al1 l1) (h2:IS w al2 l2) (h3:GS w gr1 g1) (h4:GS w gr2 g2) :
  Calls Tryz.prog 63 #[.agg (e.vals al1 gr1),.agg (f.vals al2 gr2)] w fun r w'=>r=.returned (.bool (sameE e f l1 l2 g1 g2))∧Below w.heap.size w w':=by
 obtain⟨a1,c1,rfl,-⟩:=id h3
 obtain⟨a2,c2,rfl,-⟩:=id h4
 unfold sameE
 by_cases hg:g1=g2
 rotate_left
 · rw[decide_eq_false hg,Bool.and_false]
   by_cases hn:g1.length=g2.length
   · exact rsame_gr e f al1 al2 a1 a2 c1 c2 g1 g2 w hn h3 h4 hg
   · exact rsame_lens e f al1 al2 a1 a2 _ _ c1 c2 w hn
 subst hg
 rw[decide_eq_true rfl,Bool.and_true]
 exact rsame_g e f al1 al2 a1 a2 c1 c2 g1 _ w h3 h4 fun W b=>rints al1 al2 l1 l2 W (h1.below b) (h2.below b)
end
section
set_option maxRecDepth 8000
attribute [local go_sem ↓ high] ldDat dat_eql
attribute [local go_sem] isDat_mk headOf_mk row_new row_new2 row_new2' row_drew row_drewN vals_size vals_dat vals_0 vals_1 vals_23 vals_24 vals_25 vals_26 vals_27 vals_28 vals_29 vals_30 vals_31 vals_32
end
end Go.Proofs.YtnojclchnhmggaaGreatDoor
