/- Contracts of the references: dasdref33.used at a data set. Printed by wip/mkrx.py. -/
import Derived.Test.YtnojclchnhmggaaGreatDoorEc
import Derived.Test.YtnojclchnhmggaaGreatDoorBoA
import Derived.Test.YtnojclchnhmggaaGreatDoorCalE
import Derived.Test.YtnojclchnhmggaaGreatDoorRsB
import Derived.Test.YtnojclchnhmggaaGreatDoorRsA
import Derived.Test.YtnojclchnhmggaaGreatDoorAcA
import Derived.Test.YtnojclchnhmggaaGreatDoorVaG
import Derived.Test.YtnojclchnhmggaaGreatDoorSaC
import Derived.Test.YtnojclchnhmggaaGreatDoorVaE
namespace Go.Proofs.YtnojclchnhmggaaGreatDoor
open Go.RowKit
set_option maxHeartbeats 4000000
section
set_option maxRecDepth 4000
theorem key_byte (k:Nat) (hk:k<=4):Ds.bl ((⟨#[68,71,65,67,80]⟩:ByteArray).extract k (k+1))=[Ek.letter k]:=by
 obtain rfl | rfl | rfl | rfl | rfl:k=0∨k=1∨k=2∨k=3∨k=4:=by omega
 all_goals rfl
theorem rkey (k:Int) (s:ByteArray) (w:World) :
  Calls Tryz.prog 75 #[.int .i64 k,.string s] w fun r w'=>∃ t,r=.returned (.string t)∧Ds.bl t=Ek.key k (Ds.bl s)∧w'=w:=by
 by_cases hk:0<=k∧k<=4∧s.size<=31
 · obtain⟨h0,h4,h31⟩:=hk
   obtain⟨m,rfl⟩:=Int.eq_ofNat_of_zero_le h0
   have D:=Lib.hid (Ek.key_yes m (Ds.bl s) ⟨h0,h4⟩ (by rw[Ds.bl_length];exact h31))
   have hc:=key_byte m (by omega)
   have hcz:((⟨#[68,71,65,67,80]⟩:ByteArray).extract m (m+1)).size=1:=by rw[<-Ds.bl_length,hc];rfl
   have HC:=Lib.hid hc
   clear hc
   have hw1:IntKind.i64.wrap ((m:Int)+1)=(m:Int)+1:=IntWalk.i64_in _ ⟨by omega,by omega⟩
   have hn1:((m:Int)+1).toNat=m+1:=by omega
   go_enter Tryz.func75,Tryz.ntmps75
   go_wp2_with fail
   go_loopw [5] (fun v wr=>∃ (j:Nat) (t:ByteArray),j<=31 - s.size∧t.size=1+s.size+j∧v=.string t∧Hid (Ds.bl t=Ek.letter m::Ds.bl s++List.replicate j 32)∧wr=w) (fun v _=>32 - strLen v)
   case atStart =>
    refine⟨0,_,Nat.zero_le _,?_,rfl,Lib.hid ?_,rfl⟩
    · rw[ByteArray.size_append];simp only[hn1] at *;omega
    · rw[Ds.bl_append];first | rw[HC.out] | (simp only[hn1];rw[HC.out])
      simp
   case round =>
    obtain⟨j,t,hj,hz,rfl,HT,rfl⟩:=hrel
    by_cases h:t.size<32
    · go_wp2_with fail
      go_roundw
      case rel =>
       refine⟨j+1,_,by omega,?_,rfl,Lib.hid ?_,trivial⟩
       · rw[ByteArray.size_append,hz];rfl
       · rw[Ds.bl_append,HT.out,List.replicate_succ',<-List.append_assoc];rfl
      case measure =>
       show 32 - (t++(⟨#[32]⟩:ByteArray)).size<32 - t.size
       rw[ByteArray.size_append]
       have:(⟨#[32]⟩:ByteArray).size=1:=rfl
       omega
    · go_wp2_with fail
      go_ret
      refine⟨t,rfl,?_,rfl⟩
      rw[D.out,HT.out]
      unfold Ek.pad
      rw[Ds.bl_length,show j=31 - s.size by omega];rfl
 · have D:=Lib.hid (show Ek.key k (Ds.bl s)=[] by unfold Ek.key Ek.isKind;rw[if_neg (by rw[Ds.bl_length];simp;omega)])
   go_enter Tryz.func75,Tryz.ntmps75
   go_wp2_with fail
   all_goals
    first
     | (go_ret
        exact⟨_,rfl,by rw[D.out];rfl,rfl⟩)
     | (exfalso;omega)
end
section
set_option maxRecDepth 8000
attribute [local go_sem ↓] ldEnt stEnt stEntRow
attribute [local go_sem] Held_drew isHead_mk headOf_mk cellsOfV_mk isAggV_mk row_new row_new2 row_new2' row_drew row_drewN vals_size allOne_nil allOne_cons one_int one_bool one_string one_pointer one_slice vals_0 vals_1 vals_25 vals_26 vals_27 vals_28 vals_29 vals_30 vals_31 vals_32
theorem used4 (e:En) (al:Value) (a:Option Addr) (n c:Nat) (w:World) (hk:e.kind=4) :
  Calls Tryz.prog 108 #[.agg (e.vals al (.slice a n c))] w fun r w'=>r=.returned (.agg ((onlyP e).vals (.slice none 0 0) (.slice a n c)))∧Below w.heap.size w w':=by
 have k0:(e.kind==0)=false:=by rw[hk];rfl
 have k1:(e.kind==1)=false:=by rw[hk];rfl
 have k2:(e.kind==2)=false:=by rw[hk];rfl
 have k3:(e.kind==3)=false:=by rw[hk];rfl
 have k4:(e.kind==4)=true:=by rw[hk];rfl
 clear hk
 have HH:=held3b w (e.vals al (.slice a n c))
 have R3:=row3c' w (e.vals al (.slice a n c))
 go_enter Tryz.func108,Tryz.ntmps108
 go_wp2_with fail
 go_region
 all_goals
  go_wp2_with fail
  refine bodyPost_ret (res_row1 (n:=32) rfl Tryz.underlying28 rfl (by kernel_rfl) _ _ (w.heap.size+1) rfl (by rw[row_setRow (HH _ _ _ _ _ rfl)];rfl)) rfl ?_
  rw[row_setRow (HH _ _ _ _ _ rfl)]
  exact⟨by unfold onlyP En.vals;rfl,below_setRow (by exact belA) (show w.heap.size<=w.heap.size+1 by omega) _⟩
end
section
set_option maxRecDepth 8000
theorem rlevel (n:Int) (w:World):Calls Tryz.prog 117 #[.int .i64 n] w fun r w'=>r=.returned (.bool (Vp.rng 0 3 [n]))∧w=w':=by
 have e:Vp.rng 0 3 [n]=(decide (0<=n)&&decide (n<=3)):=by unfold Vp.rng;simp
 rw[e]
 by_cases h:0<=n
 · have e1:decide (0<=n)=true:=decide_eq_true h
   rw[e1]
   go_enter Tryz.func117,Tryz.ntmps117
   go_wp2_with fail
   go_ret
   exact⟨rfl,rfl⟩
 · have e1:decide (0<=n)=false:=decide_eq_false h
   rw[e1]
   go_enter Tryz.func117,Tryz.ntmps117
   go_wp2_with fail
   go_ret
   exact⟨rfl,rfl⟩
theorem among_next (k:ByteArray × Bool) (l:List Gr) (i:Nat) (hi:i<l.length):Vp.among k ((l.take (i+1)).map Vp.gk)=(Vp.among k ((l.take i).map Vp.gk) || decide (k=Vp.gk l[i])):=by
 unfold Vp.among
 rw[List.take_succ_eq_append_getElem hi,List.map_append,List.any_append]
 simp
theorem among_mono (k:ByteArray × Bool) (l:List Gr) (i j:Nat) (hij:i<=j) (h:Vp.among k ((l.take i).map Vp.gk)=true):Vp.among k ((l.take j).map Vp.gk)=true:=by
 rw[among_iff] at h ⊢
 obtain⟨x,hx,e⟩:=List.mem_map.1 h
 exact List.mem_map.2 ⟨x,(List.take_subset_take_left l hij) hx,e⟩
theorem grAt_eq (l:List Gr) (i:Nat) (hi:i<l.length):Vp.grAt l i=(Vp.word (Ds.bl l[i].1)&&(Vp.rng 0 3 [l[i].2.2]&&!Vp.among (Vp.gk l[i]) ((l.take i).map Vp.gk))):=by
 unfold Vp.grAt;rw[List.getElem?_eq_getElem hi]
theorem grs_next (l:List Gr) (k:Nat) (hk:k<l.length):Ds.rest (Vp.grAt l) (List.range l.length) k=(Vp.grAt l k&&Ds.rest (Vp.grAt l) (List.range l.length) (k+1)):=by
 have:=Ds.rest_next (Vp.grAt l) (List.range l.length) k (by simpa using hk)
 simpa using this
theorem gk_eq (a b:Gr):decide (Vp.gk a=Vp.gk b)=(decide (a.1=b.1)&&(a.2.1==b.2.1)):=by
 unfold Vp.gk
 rw[Bool.eq_iff_iff,decide_eq_true_eq,Bool.and_eq_true,decide_eq_true_eq,beq_iff_eq,Prod.mk.injEq]
theorem rgrants (v:Value) (l:List Gr) (w:World) (h:GS w v l) :
  Calls Tryz.prog 118 #[v] w fun r w'=>r=.returned (.bool (Vp.grs l&&decide (l.length<=8)))∧Below w.heap.size w w':=by
 obtain⟨a,c,rfl,hz,-⟩:=id h
 have HG:=Lib.hid h
 clear h
 go_enter Tryz.func118,Tryz.ntmps118
 go_wp2_with fail
 go_loopw [3] (fun i wr=>∃ k:Nat,k<=l.length∧i=.int .i64 k∧Vp.grs l=Ds.rest (Vp.grAt l) (List.range l.length) k∧Below w.heap.size w wr) (fun i _=>l.length - (intOf i).toNat)
 case atStart=>exact⟨0,Nat.zero_le _,rfl,rfl,Below.refl _ _⟩
 case round =>
  obtain⟨k,hk,rfl,hq,B⟩:=hrel
  by_cases hlt:k<l.length
  · obtain⟨b,o,rfl,pg⟩:=GS.at (HG.out.below B) (by omega)
    obtain⟨p0,p1,p2⟩:=pg k hlt
    have hr:=grs_next l k hlt
    rw[grAt_eq l k hlt] at hr
    have hqu:=fun W=>rqual l[k].1 W
    have hle:=fun W=>rlevel l[k].2.2 W
    clear pg
    cases hw:Vp.word (Ds.bl l[k].1)
    · rw[hw] at hr hqu
      have HR:=Lib.hid (hq.trans hr)
      have HQ:=Lib.hid hqu
      clear hr hqu hle hq
      go_wp2_with (first | (go_at_call 200;(with_reducible refine (HQ.out _).mono ?_);rintro _ w2 ⟨rfl,hb⟩))
      go_ret
      exact⟨ret_bool (by rw[HR.out];rfl),bt B hb⟩
    cases hlv:Vp.rng 0 3 [l[k].2.2]
    · rw[hw] at hr hqu
      rw[hlv] at hr hle
      have HR:=Lib.hid (hq.trans hr)
      have HQ:=Lib.hid hqu
      have HL:=Lib.hid hle
      clear hr hqu hle hq
      go_wp2_with (first | (go_at_call 200;(with_reducible refine (HQ.out _).mono ?_);rintro _ w2 ⟨rfl,hb⟩;have p2:=below_cell hb p2) | (go_at_call 117;(with_reducible refine (HL.out _).mono ?_);rintro _ w3 ⟨rfl,rfl⟩))
      go_ret
      exact⟨ret_bool (by rw[HR.out];rfl),bt B hb⟩
    rw[hw] at hr hqu
    rw[hlv] at hr hle
    rw[Bool.true_and,Bool.true_and] at hr
    have HR:=Lib.hid (hq.trans hr)
    have HQ:=Lib.hid hqu
    have HL:=Lib.hid hle
    clear hr hqu hle hq
    go_wp2_with (first | (go_at_call 200;(with_reducible refine (HQ.out _).mono ?_);rintro _ w2 ⟨rfl,hb⟩;have B2:=bt B hb;have q0:=below_cell hb p0;have q1:=below_cell hb p1;have p2:=below_cell hb p2) | (go_at_call 117;(with_reducible refine (HL.out _).mono ?_);rintro _ w3 ⟨rfl,rfl⟩))
    go_loopw [4] (fun j wr=>∃ i:Nat,i<=k∧j=.int .i64 i∧Vp.among (Vp.gk l[k]) ((l.take i).map Vp.gk)=false∧∃ q,wr=w2.drewN q) (fun j _=>k - (intOf j).toNat)
    case atStart=>exact⟨0,Nat.zero_le _,rfl,rfl,0,rfl⟩
    case round =>
     obtain⟨i,hi,rfl,ham,q,rfl⟩:=hrel
     by_cases hik:i<k
     · obtain⟨b',o',e',pg⟩:=GS.at (HG.out.below B2) (by omega)
       cases e'
       obtain⟨r0,r1,r2⟩:=pg i (by omega)
       clear pg
       have hn:=among_next (Vp.gk l[k]) l i (by omega)
       rw[gk_eq,ham,Bool.false_or] at hn
       have i1:(0:Int)<=(i:Int):=by omega
       have i2:(i:Int)<(l.length:Int):=by omega
       have k1:(0:Int)<=(k:Int):=by omega
       have k2:(k:Int)<(l.length:Int):=by omega
       have tq:(l[i].1.toList==l[k].1.toList)=decide (l[k].1=l[i].1):=by rw[Bool.eq_iff_iff,beq_iff_eq,decide_eq_true_eq,tl_inj];exact eq_comm
       have hmo:=among_mono (Vp.gk l[k]) l (i+1) k (by omega)
       by_cases hs:l[k].1=l[i].1
       · rw[decide_eq_true hs] at tq hn
         rw[Bool.true_and] at hn
         by_cases hg:l[k].2.1=l[i].2.1
         · have tg:(l[i].2.1==l[k].2.1)=true:=by rw[beq_iff_eq];exact hg.symm
           have tg2:(l[k].2.1==l[i].2.1)=true:=by rw[beq_iff_eq];exact hg
           rw[tg2] at hn
           have HF:=Lib.hid (hmo hn)
           clear hn hmo hs hg tg2 ham
           go_wp2_with fail
           go_quiet (fail)
           go_wp2_with fail
           go_ret
           exact⟨ret_bool (by rw[HR.out,HF.out];rfl),below_drewN (below_drewN B2 _) _⟩
         · have tg:(l[i].2.1==l[k].2.1)=false:=by rw[beq_eq_false_iff_ne];exact fun e=>hg e.symm
           have tg2:(l[k].2.1==l[i].2.1)=false:=by rw[beq_eq_false_iff_ne];exact hg
           rw[tg2] at hn
           have HN:=Lib.hid hn
           clear hn hmo hs hg tg2 ham
           go_wp2_with fail
           go_quiet (fail)
           go_wp2_with fail
           go_roundw
           case rel=>exact⟨i+1,by omega,by go_num,HN.out,_,rfl⟩
           case measure=>simp [intOf];omega
       · rw[decide_eq_false hs] at tq hn
         rw[Bool.false_and] at hn
         have HN:=Lib.hid hn
         clear hn hmo hs ham
         go_wp2_with fail
         go_quiet (fail)
         go_wp2_with fail
         go_roundw
         case rel=>exact⟨i+1,by omega,by go_num,HN.out,_,rfl⟩
         case measure=>simp [intOf];omega
     · obtain rfl:i=k:=by omega
       have HF:=Lib.hid ham
       clear ham
       go_wp2_with fail
       go_roundw
       case rel=>exact⟨i+1,by omega,by go_num,by rw[HR.out,HF.out];rfl,below_drewN B2 _⟩
       case measure=>simp [intOf];omega
  · obtain rfl:k=l.length:=by omega
    have e:=hq.trans (Ds.rest_end (Vp.grAt l) (List.range l.length) l.length (by simp))
    have E:=Lib.hid e
    clear e hq
    go_wp2_with fail
    go_ret
    exact⟨ret_bool (by rw[E.out,Bool.true_and,Bool.eq_iff_iff,decide_eq_true_eq,decide_eq_true_eq];omega),B⟩
end
section
set_option maxRecDepth 8000
def profR (e:En) (g2:List Gr):Bool:=Ds.pat (Ds.bl e.name)&&(Vp.rng 0 3 [e.lev]&&(Vp.own (Ds.bl e.owner)&&(Vp.grs g2&&decide (g2.length<=8))))
attribute [local go_sem ↓] ldEnt stEnt stEntRow
attribute [local go_sem] Held_drew isHead_mk headOf_mk cellsOfV_mk isAggV_mk row_new row_new2 row_new2' row_drew row_drewN vals_size allOne_nil allOne_cons one_int one_bool one_string one_pointer one_slice vals_0 vals_1 vals_25 vals_26 vals_27 vals_28 vals_31 vals_32
theorem rvalid4 (e:En) (al:Value) (a:Option Addr) (n c:Nat) (g2:List Gr) (b:Bool) (w:World) (hk:e.kind=4) (h2:GS w (.slice a n c) g2) (hsz:e.name.size<=60)
  (hs:∀ W,Below w.heap.size w W->Calls Tryz.prog 63 #[.agg (e.vals al (.slice a n c)),.agg ((onlyP e).vals (.slice none 0 0) (.slice a n c))] W fun r w'=>r=.returned (.bool b)∧Below W.heap.size W w') :
  Calls Tryz.prog 48 #[.agg (e.vals al (.slice a n c))] w fun r w'=>r=.returned (.bool (b&&profR e g2))∧Below w.heap.size w w':=by
 have hu:=fun W=>used4 e al a n c W hk
 have hg:=fun W (B:Below w.heap.size w W)=>rgrants (.slice a n c) g2 W (h2.below B)
 have k0:(e.kind==0)=false:=by rw[hk];rfl
 have k1:(e.kind==1)=false:=by rw[hk];rfl
 have k2:(e.kind==2)=false:=by rw[hk];rfl
 have k3:(e.kind==3)=false:=by rw[hk];rfl
 have k4:(e.kind==4)=true:=by rw[hk];rfl
 have HU:=Lib.hid hu
 have HS:=Lib.hid hs
 clear hk hu hs h2
 have B0:∀ t,Below w.heap.size w (w.alloc (.cells (e.vals al (.slice a n c)) t)).drew:=fun t=>by exact belA
 have R0:∀ t,row (w.alloc (.cells (e.vals al (.slice a n c)) t)).drew w.heap.size=e.vals al (.slice a n c):=fun t=>by rw[row_drew];exact row_new w _ t _
 cases b
 · rw[Bool.false_and]
   go_enter Tryz.func48,Tryz.ntmps48
   go_wp2_with fail
   go_region_held3 (fun w'=>row w' w.heap.size=e.vals al (.slice a n c)∧Below w.heap.size w w') (first | exact⟨R0 _,B0 _⟩ | exact keep1 hb (by assumption) (by simp [vals_size])) (first | (go_at_call 108;(with_reducible refine (HU.out _).mono ?_);rintro e w2 ⟨rfl,hb⟩) | (go_at_call 63;(with_reducible refine (HS.out _ (by assumption:row _ _=_∧Below _ _ _).2).mono ?_);rintro e w3 ⟨rfl,hb⟩))
   all_goals
    go_wp2_with fail
    go_ret
    exact⟨rfl,(by assumption:row _ _=_∧Below _ _ _).2⟩
 · rw[Bool.true_and]
   unfold profR
   have hp:=fun W=>rds_pat e.name W
   have hl:=fun W=>rlevel e.lev W
   have ho:=fun W=>rowner e.owner W
   generalize Ds.pat (Ds.bl e.name)=c0 at hp ⊢
   generalize Vp.rng 0 3 [e.lev]=c1 at hl ⊢
   generalize Vp.own (Ds.bl e.owner)=c2 at ho ⊢
   generalize (Vp.grs g2&&decide (g2.length<=8))=c3 at hg ⊢
   have HP:=Lib.hid hp
   have HL:=Lib.hid hl
   have HO:=Lib.hid ho
   have HG:=Lib.hid hg
   clear hp hl ho hg
   go_enter Tryz.func48,Tryz.ntmps48
   go_wp2_with fail
   go_region_held3 (fun w'=>row w' w.heap.size=e.vals al (.slice a n c)∧Below w.heap.size w w') (first | exact⟨R0 _,B0 _⟩ | exact keep1 hb (by assumption) (by simp [vals_size])) (first | (go_at_call 108;(with_reducible refine (HU.out _).mono ?_);rintro e w2 ⟨rfl,hb⟩) | (go_at_call 63;(with_reducible refine (HS.out _ (by assumption:row _ _=_∧Below _ _ _).2).mono ?_);rintro e w3 ⟨rfl,hb⟩))
   all_goals
    obtain⟨R,B⟩:=(by assumption:row _ _=_∧Below _ _ _)
    have n0:=cell_row R 0 _ (vals_0 e al _)
    have n1:=cell_row R 1 _ (vals_1 e al _)
    go_upto_region 15 with (first
     | (go_at_call 98;(with_reducible refine (rds_Valid e.name _).mono ?_);rintro _ w5 ⟨rfl,hb⟩;have R:=row_below hb R (by simp [vals_size]);have n0:=cell_row R 0 _ (vals_0 e al _);have n1:=cell_row R 1 _ (vals_1 e al _);have B:=bt B hb;clear hb)
     | (go_at_call 109;(with_reducible refine (rds_split e.name _ hsz).mono ?_);rintro _ w6 ⟨rfl,hb⟩;have R:=row_below hb R (by simp [vals_size]);have n0:=cell_row R 0 _ (vals_0 e al _);have n1:=cell_row R 1 _ (vals_1 e al _);have B:=bt B hb;clear hb))
    have v8:=cell_row R 28 _ (vals_28 e al _)
    have v31:=cell_row R 31 _ (vals_31 e al _)
    have v32:=cell_row R 32 _ (vals_32 e al _)
    cases c0
    · go_wp2_with (first | (go_at_call 116;(with_reducible refine (HP.out _).mono ?_);rintro _ w7 ⟨rfl,hb⟩;have R:=row_below hb R (by simp [vals_size]);have n1:=cell_row R 1 _ (vals_1 e al _);have v8:=cell_row R 28 _ (vals_28 e al _);have v31:=cell_row R 31 _ (vals_31 e al _);have v32:=cell_row R 32 _ (vals_32 e al _);have B:=bt B hb;clear hb))
      go_ret
      exact⟨rfl,B⟩
    cases c1
    · go_wp2_with (first | (go_at_call 116;(with_reducible refine (HP.out _).mono ?_);rintro _ w7 ⟨rfl,hb⟩;have R:=row_below hb R (by simp [vals_size]);have n1:=cell_row R 1 _ (vals_1 e al _);have v8:=cell_row R 28 _ (vals_28 e al _);have v31:=cell_row R 31 _ (vals_31 e al _);have v32:=cell_row R 32 _ (vals_32 e al _);have B:=bt B hb;clear hb) | (go_at_call 117;(with_reducible refine (HL.out _).mono ?_);rintro _ w8 ⟨rfl,rfl⟩))
      go_ret
      exact⟨rfl,B⟩
    cases c2
    · go_wp2_with (first | (go_at_call 116;(with_reducible refine (HP.out _).mono ?_);rintro _ w7 ⟨rfl,hb⟩;have R:=row_below hb R (by simp [vals_size]);have n1:=cell_row R 1 _ (vals_1 e al _);have v8:=cell_row R 28 _ (vals_28 e al _);have v31:=cell_row R 31 _ (vals_31 e al _);have v32:=cell_row R 32 _ (vals_32 e al _);have B:=bt B hb;clear hb) | (go_at_call 117;(with_reducible refine (HL.out _).mono ?_);rintro _ w8 ⟨rfl,rfl⟩) | (go_at_call 114;(with_reducible refine (HO.out _).mono ?_);rintro _ w9 ⟨rfl,hb⟩;have R:=row_below hb R (by simp [vals_size]);have n1:=cell_row R 1 _ (vals_1 e al _);have v8:=cell_row R 28 _ (vals_28 e al _);have v31:=cell_row R 31 _ (vals_31 e al _);have v32:=cell_row R 32 _ (vals_32 e al _);have B:=bt B hb;clear hb))
      go_ret
      exact⟨rfl,B⟩
    · go_wp2_with (first | (go_at_call 116;(with_reducible refine (HP.out _).mono ?_);rintro _ w7 ⟨rfl,hb⟩;have R:=row_below hb R (by simp [vals_size]);have n1:=cell_row R 1 _ (vals_1 e al _);have v8:=cell_row R 28 _ (vals_28 e al _);have v31:=cell_row R 31 _ (vals_31 e al _);have v32:=cell_row R 32 _ (vals_32 e al _);have B:=bt B hb;clear hb) | (go_at_call 117;(with_reducible refine (HL.out _).mono ?_);rintro _ w8 ⟨rfl,rfl⟩) | (go_at_call 114;(with_reducible refine (HO.out _).mono ?_);rintro _ w9 ⟨rfl,hb⟩;have R:=row_below hb R (by simp [vals_size]);have n1:=cell_row R 1 _ (vals_1 e al _);have v8:=cell_row R 28 _ (vals_28 e al _);have v31:=cell_row R 31 _ (vals_31 e al _);have v32:=cell_row R 32 _ (vals_32 e al _);have B:=bt B hb;clear hb) | (go_at_call 118;(with_reducible refine (HG.out _ B).mono ?_);rintro _ w10 ⟨rfl,hb⟩;have B:=bt B hb;clear hb))
      go_ret
      exact⟨rfl,B⟩
end
section
set_option maxRecDepth 8000
end
section
set_option maxRecDepth 8000
attribute [local go_sem ↓] ldEnt stEnt stEntRow
attribute [local go_sem] Held_drew isHead_mk headOf_mk cellsOfV_mk isAggV_mk row_new row_new2 row_new2' row_drew row_drewN vals_size allOne_nil allOne_cons one_int one_bool one_string one_pointer one_slice vals_0 vals_1 vals_25 vals_26 vals_27 vals_28 vals_29 vals_30 vals_31 vals_32
theorem held3n (w:World) (c:Array Value):∀ (z x:Array Value) (t t1 t2:TypeId),z.size=33->Held (((w.alloc (.cells c t)).alloc (.cells z t1)).alloc (.cells x t2)) (w.heap.size+1) 33:=fun z x t t1 t2 hz=>by
 have h:=EB.new (w.alloc (.cells c t)) z t1
 rw[show (w.alloc (.cells c t)).heap.size=w.heap.size+1 by simp] at h
 exact held_of (h.of_block (heap_alloc_old _ _ h.2.2) (by simp)) hz (by decide)
theorem row3cn (w:World) (c:Array Value):∀ (z x:Array Value) (t t1 t2:TypeId),row (((w.alloc (.cells c t)).alloc (.cells z t1)).alloc (.cells x t2)) (w.heap.size+1+1)=x:=fun z x t t1 t2=>by
 have h:=row_new ((w.alloc (.cells c t)).alloc (.cells z t1)) x t2 (0,0)
 simpa using h
theorem used2 (e:En) (al gr:Value) (w:World) (hk:e.kind=2) :
  Calls Tryz.prog 108 #[.agg (e.vals al gr)] w fun r w'=>r=.returned (.agg ((onlyA e).vals (.slice none 0 0) (.slice none 0 0)))∧Below w.heap.size w w':=by
 have k0:(e.kind==0)=false:=by rw[hk];rfl
 have k1:(e.kind==1)=false:=by rw[hk];rfl
 have k2:(e.kind==2)=true:=by rw[hk];rfl
 clear hk
 have HH:=held3n w (e.vals al gr)
 have R3:=row3cn w (e.vals al gr)
 go_enter Tryz.func108,Tryz.ntmps108
 go_wp2_with fail
 refine bodyPost_ret (res_row1 (n:=32) rfl Tryz.underlying28 rfl (by kernel_rfl) _ _ (w.heap.size+1) rfl (by rw[row_setRow (HH _ _ _ _ _ rfl)];rfl)) rfl ?_
 rw[row_setRow (HH _ _ _ _ _ rfl)]
 exact⟨by unfold onlyA En.vals;rfl,below_setRow (by exact belA) (show w.heap.size<=w.heap.size+1 by omega) _⟩
theorem used3 (e:En) (al gr:Value) (w:World) (hk:e.kind=3) :
  Calls Tryz.prog 108 #[.agg (e.vals al gr)] w fun r w'=>r=.returned (.agg ((onlyC e).vals (.slice none 0 0) (.slice none 0 0)))∧Below w.heap.size w w':=by
 have k0:(e.kind==0)=false:=by rw[hk];rfl
 have k1:(e.kind==1)=false:=by rw[hk];rfl
 have k2:(e.kind==2)=false:=by rw[hk];rfl
 have k3:(e.kind==3)=true:=by rw[hk];rfl
 clear hk
 have HH:=held3n w (e.vals al gr)
 have R3:=row3cn w (e.vals al gr)
 go_enter Tryz.func108,Tryz.ntmps108
 go_wp2_with fail
 refine bodyPost_ret (res_row1 (n:=32) rfl Tryz.underlying28 rfl (by kernel_rfl) _ _ (w.heap.size+1) rfl (by rw[row_setRow (HH _ _ _ _ _ rfl)];rfl)) rfl ?_
 rw[row_setRow (HH _ _ _ _ _ rfl)]
 exact⟨by unfold onlyC En.vals;rfl,below_setRow (by exact belA) (show w.heap.size<=w.heap.size+1 by omega) _⟩
theorem usedN (e:En) (al gr:Value) (w:World) (hk:¬ (0<=e.kind∧e.kind<=4)) :
  Calls Tryz.prog 108 #[.agg (e.vals al gr)] w fun r w'=>r=.returned (.agg ((onlyN e).vals (.slice none 0 0) (.slice none 0 0)))∧Below w.heap.size w w':=by
 have k0:(e.kind==0)=false:=by rw[beq_eq_false_iff_ne];omega
 have k1:(e.kind==1)=false:=by rw[beq_eq_false_iff_ne];omega
 have k2:(e.kind==2)=false:=by rw[beq_eq_false_iff_ne];omega
 have k3:(e.kind==3)=false:=by rw[beq_eq_false_iff_ne];omega
 have k4:(e.kind==4)=false:=by rw[beq_eq_false_iff_ne];omega
 clear hk
 have HH:=held3n w (e.vals al gr)
 have R3:=row3cn w (e.vals al gr)
 go_enter Tryz.func108,Tryz.ntmps108
 go_wp2_with fail
 refine bodyPost_ret (res_row1 (n:=32) rfl Tryz.underlying28 rfl (by kernel_rfl) _ _ (w.heap.size+1) rfl (by rw[row_setRow (HH _ _ _ _ _ rfl)];rfl)) rfl ?_
 rw[row_setRow (HH _ _ _ _ _ rfl)]
 exact⟨by unfold onlyN En.vals;rfl,below_setRow (by exact belA) (show w.heap.size<=w.heap.size+1 by omega) _⟩
end
section
set_option maxRecDepth 8000
set_option linter.unusedSimpArgs false
theorem rw_parts (s:ByteArray) (w:World) (hs:s.size<=1000) :
  Calls Tryz.prog 115 #[.string s] w fun e w'=>∃ (ps:List ByteArray) (g cap:Nat),ps.length=(Ds.pieces (Ds.bl s)).length∧e=.returned (.slice (some ⟨g,0,none⟩) ps.length cap)∧Below w.heap.size w w' :=
 (rds_parts s w hs).mono fun _ _ ⟨qs,q,g,cap,h1,_,_,_,h5,_,_,_,h9⟩=>⟨qs++[q],g,cap,by rw[<-h1];simp,by simpa using h5,h9⟩
attribute [local go_sem ↓] ldEnt stEnt stEntRow
attribute [local go_sem] Held_drew isHead_mk headOf_mk cellsOfV_mk isAggV_mk row_new row_new2 row_new2' row_drew row_drewN vals_size allOne_nil allOne_cons one_int one_bool one_string one_pointer one_slice vals_0 vals_1 vals_25 vals_26 vals_27 vals_28 vals_29 vals_30 vals_31 vals_32
theorem rvalid2 (e:En) (al gr:Value) (b:Bool) (w:World) (hk:e.kind=2) (hsz:e.name.size<=60)
  (hs:∀ W,Below w.heap.size w W->Calls Tryz.prog 63 #[.agg (e.vals al gr),.agg ((onlyA e).vals (.slice none 0 0) (.slice none 0 0))] W fun r w'=>r=.returned (.bool b)∧Below W.heap.size W w') :
  Calls Tryz.prog 48 #[.agg (e.vals al gr)] w fun r w'=>r=.returned (.bool (b&&(Vp.nameA (Ds.bl e.name)&&Vp.ali e)))∧Below w.heap.size w w':=by
 have hu:=fun W=>used2 e al gr W hk
 have k0:(e.kind==0)=false:=by rw[hk];rfl
 have k1:(e.kind==1)=false:=by rw[hk];rfl
 have k2:(e.kind==2)=true:=by rw[hk];rfl
 have HU:=Lib.hid hu
 have HS:=Lib.hid hs
 clear hk hu hs
 have B0:∀ t,Below w.heap.size w (w.alloc (.cells (e.vals al gr) t)).drew:=fun t=>by exact belA
 have R0:∀ t,row (w.alloc (.cells (e.vals al gr) t)).drew w.heap.size=e.vals al gr:=fun t=>by rw[row_drew];exact row_new w _ t _
 cases b
 · rw[Bool.false_and]
   go_enter Tryz.func48,Tryz.ntmps48
   go_wp2_with fail
   go_region_held3 (fun w'=>row w' w.heap.size=e.vals al gr∧Below w.heap.size w w') (first | exact⟨R0 _,B0 _⟩ | exact keep1 hb (by assumption) (by simp [vals_size])) (first | (go_at_call 108;(with_reducible refine (HU.out _).mono ?_);rintro e w2 ⟨rfl,hb⟩) | (go_at_call 63;(with_reducible refine (HS.out _ (by assumption:row _ _=_∧Below _ _ _).2).mono ?_);rintro e w3 ⟨rfl,hb⟩))
   all_goals
    go_wp2_with fail
    go_ret
    exact⟨rfl,(by assumption:row _ _=_∧Below _ _ _).2⟩
 · rw[Bool.true_and]
   have hn:=fun W=>rds_Valid e.name W
   have hsp:=fun W=>rds_split e.name W hsz
   have ht:=fun W=>rds_Valid e.target W
   unfold Vp.nameA Vp.ali
   generalize Ds.name (Ds.bl e.name)=c0 at hn ⊢
   generalize Ds.gen (Ds.bl e.name)=c1 at hsp ⊢
   generalize Ds.name (Ds.bl e.target)=c2 at ht ⊢
   generalize (⟨(Ds.splG (Ds.bl e.name)).toArray⟩:ByteArray)=sg at hsp
   generalize Ds.splN (Ds.bl e.name)=sn at hsp
   have HN:=Lib.hid hn
   have HSP:=Lib.hid hsp
   have HT:=Lib.hid ht
   clear hn hsp ht
   go_enter Tryz.func48,Tryz.ntmps48
   go_wp2_with fail
   go_region_held3 (fun w'=>row w' w.heap.size=e.vals al gr∧Below w.heap.size w w') (first | exact⟨R0 _,B0 _⟩ | exact keep1 hb (by assumption) (by simp [vals_size])) (first | (go_at_call 108;(with_reducible refine (HU.out _).mono ?_);rintro e w2 ⟨rfl,hb⟩) | (go_at_call 63;(with_reducible refine (HS.out _ (by assumption:row _ _=_∧Below _ _ _).2).mono ?_);rintro e w3 ⟨rfl,hb⟩))
   all_goals
    obtain⟨R,B⟩:=(by assumption:row _ _=_∧Below _ _ _)
    have v0:=cell_row R 0 _ (vals_0 e al gr)
    have v1:=cell_row R 1 _ (vals_1 e al gr)
    go_upto_region 11 with (first
     | (go_at_call 98;(with_reducible refine (HN.out _).mono ?_);rintro _ w5 ⟨rfl,hb⟩;have R:=row_below hb R (by simp [vals_size]);have v0:=cell_row R 0 _ (vals_0 e al gr);have v1:=cell_row R 1 _ (vals_1 e al gr);have B:=bt B hb;clear hb)
     | (go_at_call 109;(with_reducible refine (HSP.out _).mono ?_);rintro _ w6 ⟨rfl,hb⟩;have R:=row_below hb R (by simp [vals_size]);have v0:=cell_row R 0 _ (vals_0 e al gr);have v1:=cell_row R 1 _ (vals_1 e al gr);have B:=bt B hb;clear hb))
    have v29:=cell_row R 29 _ (vals_29 e al gr)
    cases c0
    · go_wp2_with fail
      go_ret
      exact⟨rfl,B⟩
    cases c1
    rotate_left
    · go_wp2_with fail
      go_ret
      exact⟨rfl,B⟩
    cases c2
    · go_wp2_with ((with_reducible refine (HT.out _).mono ?_);rintro _ w7 ⟨rfl,hb⟩;have R:=row_below hb R (by simp [vals_size]);have v1:=cell_row R 1 _ (vals_1 e al gr);have v29:=cell_row R 29 _ (vals_29 e al gr);have B:=bt B hb;clear hb)
      go_ret
      exact⟨rfl,B⟩
    · go_wp2_with ((with_reducible refine (HT.out _).mono ?_);rintro _ w7 ⟨rfl,hb⟩;have R:=row_below hb R (by simp [vals_size]);have v1:=cell_row R 1 _ (vals_1 e al gr);have v29:=cell_row R 29 _ (vals_29 e al gr);have B:=bt B hb;clear hb)
      go_ret
      exact⟨ret_bool (by simp [bne]),B⟩
theorem rvalid3 (e:En) (al gr:Value) (b:Bool) (w:World) (hk:e.kind=3) (hsz:e.name.size<=60)
  (hs:∀ W,Below w.heap.size w W->Calls Tryz.prog 63 #[.agg (e.vals al gr),.agg ((onlyC e).vals (.slice none 0 0) (.slice none 0 0))] W fun r w'=>r=.returned (.bool b)∧Below W.heap.size W w') :
  Calls Tryz.prog 48 #[.agg (e.vals al gr)] w fun r w'=>r=.returned (.bool (b&&(Vp.nameC (Ds.bl e.name)&&Vp.cat e)))∧Below w.heap.size w w':=by
 have hu:=fun W=>used3 e al gr W hk
 have k0:(e.kind==0)=false:=by rw[hk];rfl
 have k1:(e.kind==1)=false:=by rw[hk];rfl
 have k2:(e.kind==2)=false:=by rw[hk];rfl
 have k3:(e.kind==3)=true:=by rw[hk];rfl
 have HU:=Lib.hid hu
 have HS:=Lib.hid hs
 clear hk hu hs
 have B0:∀ t,Below w.heap.size w (w.alloc (.cells (e.vals al gr) t)).drew:=fun t=>by exact belA
 have R0:∀ t,row (w.alloc (.cells (e.vals al gr) t)).drew w.heap.size=e.vals al gr:=fun t=>by rw[row_drew];exact row_new w _ t _
 cases b
 · rw[Bool.false_and]
   go_enter Tryz.func48,Tryz.ntmps48
   go_wp2_with fail
   go_region_held3 (fun w'=>row w' w.heap.size=e.vals al gr∧Below w.heap.size w w') (first | exact⟨R0 _,B0 _⟩ | exact keep1 hb (by assumption) (by simp [vals_size])) (first | (go_at_call 108;(with_reducible refine (HU.out _).mono ?_);rintro e w2 ⟨rfl,hb⟩) | (go_at_call 63;(with_reducible refine (HS.out _ (by assumption:row _ _=_∧Below _ _ _).2).mono ?_);rintro e w3 ⟨rfl,hb⟩))
   all_goals
    go_wp2_with fail
    go_ret
    exact⟨rfl,(by assumption:row _ _=_∧Below _ _ _).2⟩
 · rw[Bool.true_and]
   have hn:=fun W=>rds_Valid e.name W
   have hsp:=fun W=>rds_split e.name W hsz
   have hq:=fun W=>rw_parts e.name W (by omega)
   unfold Vp.nameC Vp.cat
   rw[show Vp.rng 1 15 [e.cat]=(decide (1<=e.cat)&&decide (e.cat<=15)) by simp [Vp.rng]]
   generalize (⟨(Ds.splG (Ds.bl e.name)).toArray⟩:ByteArray)=sg at hsp
   generalize Ds.splN (Ds.bl e.name)=sn at hsp
   generalize Ds.gen (Ds.bl e.name)=c1 at hsp
   cases hc:Ds.name (Ds.bl e.name)
   · rw[hc] at hn
     have HN:=Lib.hid hn
     have HSP:=Lib.hid hsp
     clear hn hsp hq hc
     go_enter Tryz.func48,Tryz.ntmps48
     go_wp2_with fail
     go_region_held3 (fun w'=>row w' w.heap.size=e.vals al gr∧Below w.heap.size w w') (first | exact⟨R0 _,B0 _⟩ | exact keep1 hb (by assumption) (by simp [vals_size])) (first | (go_at_call 108;(with_reducible refine (HU.out _).mono ?_);rintro e w2 ⟨rfl,hb⟩) | (go_at_call 63;(with_reducible refine (HS.out _ (by assumption:row _ _=_∧Below _ _ _).2).mono ?_);rintro e w3 ⟨rfl,hb⟩))
     all_goals
      obtain⟨R,B⟩:=(by assumption:row _ _=_∧Below _ _ _)
      have v0:=cell_row R 0 _ (vals_0 e al gr)
      have v1:=cell_row R 1 _ (vals_1 e al gr)
      go_wp2_with (first
       | (go_at_call 98;(with_reducible refine (HN.out _).mono ?_);rintro _ w5 ⟨rfl,hb⟩;have R:=row_below hb R (by simp [vals_size]);have v0:=cell_row R 0 _ (vals_0 e al gr);have v1:=cell_row R 1 _ (vals_1 e al gr);have B:=bt B hb;clear hb)
       | (go_at_call 109;(with_reducible refine (HSP.out _).mono ?_);rintro _ w6 ⟨rfl,hb⟩;have R:=row_below hb R (by simp [vals_size]);have v0:=cell_row R 0 _ (vals_0 e al gr);have v1:=cell_row R 1 _ (vals_1 e al gr);have B:=bt B hb;clear hb))
      go_ret
      exact⟨rfl,B⟩
   · rw[hc] at hn
     have HN:=Lib.hid hn
     have HSP:=Lib.hid hsp
     have HQ:=Lib.hid hq
     have d1:decide (1<=e.cat)=true∨decide (1<=e.cat)=false:=by cases decide (1<=e.cat) <;> simp
     generalize hpl:(Ds.pieces (Ds.bl e.name)).length=pl
     have HPL:=Lib.hid hpl
     clear hn hsp hq hc hpl
     go_enter Tryz.func48,Tryz.ntmps48
     go_wp2_with fail
     go_region_held3 (fun w'=>row w' w.heap.size=e.vals al gr∧Below w.heap.size w w') (first | exact⟨R0 _,B0 _⟩ | exact keep1 hb (by assumption) (by simp [vals_size])) (first | (go_at_call 108;(with_reducible refine (HU.out _).mono ?_);rintro e w2 ⟨rfl,hb⟩) | (go_at_call 63;(with_reducible refine (HS.out _ (by assumption:row _ _=_∧Below _ _ _).2).mono ?_);rintro e w3 ⟨rfl,hb⟩))
     all_goals
      obtain⟨R,B⟩:=(by assumption:row _ _=_∧Below _ _ _)
      have v0:=cell_row R 0 _ (vals_0 e al gr)
      have v1:=cell_row R 1 _ (vals_1 e al gr)
      go_upto_region 13 with (first
       | (go_at_call 98;(with_reducible refine (HN.out _).mono ?_);rintro _ w5 ⟨rfl,hb⟩;have R:=row_below hb R (by simp [vals_size]);have v0:=cell_row R 0 _ (vals_0 e al gr);have v1:=cell_row R 1 _ (vals_1 e al gr);have B:=bt B hb;clear hb)
       | (go_at_call 109;(with_reducible refine (HSP.out _).mono ?_);rintro _ w6 ⟨rfl,hb⟩;have R:=row_below hb R (by simp [vals_size]);have v0:=cell_row R 0 _ (vals_0 e al gr);have v1:=cell_row R 1 _ (vals_1 e al gr);have B:=bt B hb;clear hb))
      have v30:=cell_row R 30 _ (vals_30 e al gr)
      by_cases p1:1<=e.cat
      · have d1:decide (1<=e.cat)=true:=decide_eq_true p1
        go_wp2_with (go_at_call 115;(refine (HQ.out _).mono ?_);rintro _ w7 ⟨ps,qb,qc,hp,rfl,hb⟩;have HPS:=Lib.hid (hp.trans HPL.out);clear hp;have R:=row_below hb R (by simp [vals_size]);have v30:=cell_row R 30 _ (vals_30 e al gr);have B:=bt B hb;clear hb;rcases Nat.lt_or_ge 2 ps.length with hl | hl;(have f2:decide ((ps.length:Int)<=2)=false:=(by rw[decide_eq_false_iff_not];omega));rotate_left 1;(have f2:decide ((ps.length:Int)<=2)=true:=(by rw[decide_eq_true_eq];omega));rotate_left 1)
        all_goals
         go_ret
         exact⟨ret_bool (by have:=HPS.out;subst this;simp [p1];omega),B⟩
      · have d1:decide (1<=e.cat)=false:=decide_eq_false p1
        go_wp2_with (go_at_call 115;(refine (HQ.out _).mono ?_);rintro _ w7 ⟨ps,qb,qc,hp,rfl,hb⟩;have HPS:=Lib.hid (hp.trans HPL.out);clear hp;have R:=row_below hb R (by simp [vals_size]);have v30:=cell_row R 30 _ (vals_30 e al gr);have B:=bt B hb;clear hb;rcases Nat.lt_or_ge 2 ps.length with hl | hl;(have f2:decide ((ps.length:Int)<=2)=false:=(by rw[decide_eq_false_iff_not];omega));rotate_left 1;(have f2:decide ((ps.length:Int)<=2)=true:=(by rw[decide_eq_true_eq];omega));rotate_left 1)
        all_goals
         go_ret
         exact⟨ret_bool (by have:=HPS.out;subst this;simp [p1];omega),B⟩
theorem rvalidN (e:En) (al gr:Value) (b:Bool) (w:World) (hk:¬ (0<=e.kind∧e.kind<=4)) (hsz:e.name.size<=60)
  (hs:∀ W,Below w.heap.size w W->Calls Tryz.prog 63 #[.agg (e.vals al gr),.agg ((onlyN e).vals (.slice none 0 0) (.slice none 0 0))] W fun r w'=>r=.returned (.bool b)∧Below W.heap.size W w') :
  Calls Tryz.prog 48 #[.agg (e.vals al gr)] w fun r w'=>r=.returned (.bool (b&&false))∧Below w.heap.size w w':=by
 have hu:=fun W=>usedN e al gr W hk
 have k0:(e.kind==0)=false:=by rw[beq_eq_false_iff_ne];omega
 have k1:(e.kind==1)=false:=by rw[beq_eq_false_iff_ne];omega
 have k2:(e.kind==2)=false:=by rw[beq_eq_false_iff_ne];omega
 have k3:(e.kind==3)=false:=by rw[beq_eq_false_iff_ne];omega
 have k4:(e.kind==4)=false:=by rw[beq_eq_false_iff_ne];omega
 have HU:=Lib.hid hu
 have HS:=Lib.hid hs
 clear hk hu hs
 have B0:∀ t,Below w.heap.size w (w.alloc (.cells (e.vals al gr) t)).drew:=fun t=>by exact belA
 have R0:∀ t,row (w.alloc (.cells (e.vals al gr) t)).drew w.heap.size=e.vals al gr:=fun t=>by rw[row_drew];exact row_new w _ t _
 cases b
 · rw[Bool.false_and]
   go_enter Tryz.func48,Tryz.ntmps48
   go_wp2_with fail
   go_region_held3 (fun w'=>row w' w.heap.size=e.vals al gr∧Below w.heap.size w w') (first | exact⟨R0 _,B0 _⟩ | exact keep1 hb (by assumption) (by simp [vals_size])) (first | (go_at_call 108;(with_reducible refine (HU.out _).mono ?_);rintro e w2 ⟨rfl,hb⟩) | (go_at_call 63;(with_reducible refine (HS.out _ (by assumption:row _ _=_∧Below _ _ _).2).mono ?_);rintro e w3 ⟨rfl,hb⟩))
   all_goals
    go_wp2_with fail
    go_ret
    exact⟨rfl,(by assumption:row _ _=_∧Below _ _ _).2⟩
 · rw[Bool.true_and]
   have hn:=fun W=>rds_Valid e.name W
   have hsp:=fun W=>rds_split e.name W hsz
   generalize (⟨(Ds.splG (Ds.bl e.name)).toArray⟩:ByteArray)=sg at hsp
   have HN:=Lib.hid hn
   have HSP:=Lib.hid hsp
   clear hn hsp
   go_enter Tryz.func48,Tryz.ntmps48
   go_wp2_with fail
   go_region_held3 (fun w'=>row w' w.heap.size=e.vals al gr∧Below w.heap.size w w') (first | exact⟨R0 _,B0 _⟩ | exact keep1 hb (by assumption) (by simp [vals_size])) (first | (go_at_call 108;(with_reducible refine (HU.out _).mono ?_);rintro e w2 ⟨rfl,hb⟩) | (go_at_call 63;(with_reducible refine (HS.out _ (by assumption:row _ _=_∧Below _ _ _).2).mono ?_);rintro e w3 ⟨rfl,hb⟩))
   all_goals
    obtain⟨R,B⟩:=(by assumption:row _ _=_∧Below _ _ _)
    have v0:=cell_row R 0 _ (vals_0 e al gr)
    have v1:=cell_row R 1 _ (vals_1 e al gr)
    go_wp2_with (first
     | (go_at_call 98;(with_reducible refine (HN.out _).mono ?_);rintro _ w5 ⟨rfl,hb⟩;have R:=row_below hb R (by simp [vals_size]);have v0:=cell_row R 0 _ (vals_0 e al gr);have v1:=cell_row R 1 _ (vals_1 e al gr);have B:=bt B hb;clear hb)
     | (go_at_call 109;(with_reducible refine (HSP.out _).mono ?_);rintro _ w6 ⟨rfl,hb⟩;have R:=row_below hb R (by simp [vals_size]);have v0:=cell_row R 0 _ (vals_0 e al gr);have v1:=cell_row R 1 _ (vals_1 e al gr);have B:=bt B hb;clear hb))
    go_ret
    exact⟨rfl,B⟩
end
section
set_option maxRecDepth 8000
set_option linter.unusedSimpArgs false
theorem stDatF (ev:Operand->Value) (w:World) (dst x y t' pos af gd) (h1:isDat (ev x)=true) (h2:Held w (headOf (ev x)) 33) (h3:isAggV (ev y)=true) (h4:(cellsOfV (ev y)).size=21) (h5:allOne (cellsOfV (ev y)).toList=true) :
  (execOp ev ⟨dst,.store 24 x y,t',pos,af,gd⟩).run Tryz.prog w=.ok .skip (w.setRow (headOf (ev x)) (over (row w (headOf (ev x))) 2 (cellsOfV (ev y)).toList)):=by
 obtain⟨cs,hc⟩:∃ cs,ev y=.agg cs:=by
  unfold isAggV at h3
  split at h3
  · rename_i g h;exact⟨g,h⟩
  · cases h3
 obtain⟨g,hg⟩:∃ g,ev x=.pointer (some ⟨g,2,none⟩):=by
  unfold isDat at h1
  split at h1
  · rename_i g h;exact⟨g,h⟩
  · cases h1
 rw[hc,cellsOfV_mk] at h4 h5
 have h5:cs.all (·.oneCell')=true:=by rw[<-Array.all_toList];exact allOne_all _ h5
 rw[hg,headOf_mk] at h2 ⊢
 simp only at h2 ⊢
 obtain⟨t,fr,hb⟩:=held_block h2
 have hs:=run_storeVar_mid (P:=Tryz.prog) w g 2 24 cs (fun j hj=>by
  have hlt:2+j<(row w g).size:=by rw[h2.1];omega
  have hx:(row w g)[2+j]?=some (row w g)[2+j]:=Array.getElem?_eq_getElem hlt
  exact⟨by rw[cell_of_row w g (2+j) _ t fr hb,hx];rfl,h2.2.2 _⟩) (by rw[h4];kernel_rfl) h5
 rw[setCells_over' g t fr cs.toList 2 w (row w g) hb (by intro e;have:=congrArg List.length e;simp at this;rw[this] at h4;simp at h4)] at hs
 unfold execOp
 simp only[hg,hc,cellsOfV_mk,Instr.storeAt,Instr.sureAddr,Sem.run_bind,Sem.run_pure,Result.andThen_ok,hs]
def U0 (w w':World) (cs c:Array Value):Prop:=row w' w.heap.size=cs∧row w' (w.heap.size+1+1)=c∧c.size=33∧(∀ o,w'.frozen? ⟨w.heap.size+1+1,o,none⟩=false)∧Held w' (w.heap.size+1) 33∧Below w.heap.size w w'
theorem U0.held {w w':World} {cs c:Array Value} (h:U0 w w' cs c):Held w' (w.heap.size+1+1) 33:=⟨by rw[h.2.1];exact h.2.2.1,by decide,h.2.2.2.1⟩
theorem set_held' {w:World} {g n:Nat} (h:Held w g n) (i:Nat) (v:Value):w.setCell ⟨g,i,none⟩ v=w.setRow g ((row w g).setIfInBounds i v):=by
 obtain⟨t,fr,hb⟩:=held_block h
 exact setCell_eq_setRow w g i _ t fr v hb
theorem held_oth' {w:World} {g g' n:Nat} {c:Array Value} (h:Held w g n) (hne:g≠g'):Held (w.setRow g' c) g n :=
 h.of_block (setRow_block w g' g c hne)
theorem U0.set {w w':World} {cs c c':Array Value} (h:U0 w w' cs c) (hz:c'.size=33):U0 w (w'.setRow (w.heap.size+1+1) c') cs c':=by
 have hH:=h.held
 refine⟨?_,row_setRow hH _,hz,fun o=>?_,held_oth' h.2.2.2.2.1 (by omega),below_setRow h.2.2.2.2.2 (by omega) _⟩
 · have:=h.1
   unfold row at *
   rw[setRow_block _ _ _ _ (by omega)];exact this
 · obtain⟨t,fr,hb⟩:=held_block hH
   have h1:=hH.2.2 o
   unfold World.frozen? at h1 ⊢
   rw[hb] at h1
   rw[setRow_heap w' _ _ c' t fr hb]
   exact h1
theorem U0.dat {w w':World} {cs c:Array Value} (h:U0 w w' cs c) (vs:List Value):U0 w (w'.setRow (w.heap.size+1+1) (over (row w' (w.heap.size+1+1)) 2 vs)) cs (over c 2 vs):=by
 rw[h.2.1]
 exact h.set (by rw[over_size];exact h.2.2.1)
theorem U0.cell {w w':World} {cs c:Array Value} (h:U0 w w' cs c) (i:Nat) (v:Value):U0 w (w'.setCell ⟨w.heap.size+1+1,i,none⟩ v) cs (c.setIfInBounds i v):=by
 rw[set_held' h.held,h.2.1]
 exact h.set (by simpa using h.2.2.1)
theorem U0.at {w w':World} {cs c:Array Value} (h:U0 w w' cs c) (i:Nat) (hi:i<33):w'.cell? ⟨w.heap.size+1+1,i,none⟩=some (c[i]'(by rw[h.2.2.1];exact hi)):=cell_row h.2.1 i _ (Array.getElem?_eq_getElem _)
theorem U0.start (w:World) (cs z x:Array Value) (t t1 t2:TypeId) (hc:0<cs.size) (hz:z.size=33) (hx:x.size=33):U0 w (((w.alloc (.cells cs t)).alloc (.cells z t1)).alloc (.cells x t2)).drew cs x:=by
 have h:=EB.new ((w.alloc (.cells cs t)).alloc (.cells z t1)) x t2
 rw[show ((w.alloc (.cells cs t)).alloc (.cells z t1)).heap.size=w.heap.size+1+1 by simp] at h
 have r:row ((((w.alloc (.cells cs t)).alloc (.cells z t1)).alloc (.cells x t2))) w.heap.size=cs:=row_below (w:=w.alloc (.cells cs t)) (by exact belA) (row_new w cs t (0,0)) hc
 exact⟨r,h.1,hx,h.2.1,held3b w cs z x t t1 t2 hz,by exact belA⟩
attribute [local go_sem ↓] ldEnt stEnt stEntRow ldDat stDatF
attribute [local go_sem] Held_drew isHead_mk isDat_mk headOf_mk cellsOfV_mk isAggV_mk row_new row_new2 row_new2' row_drew row_drewN vals_size dat_size dat_one allOne_nil allOne_cons one_int one_bool one_string one_pointer one_slice vals_0 vals_1 vals_23 vals_24
theorem hF0 (e:En) (a:Option Addr) (n c:Nat):(((over (zlit e.kind e.name) 2 e.dat.toList).setIfInBounds 23 (.slice a n c)).setIfInBounds 24 (.int .i64 e.used))=(onlyD e).vals (.slice a n c) (.slice none 0 0):=by
 unfold zlit onlyD En.dat En.vals
 simp only[over,List.setIfInBounds_toArray,List.set_cons_succ,List.set_cons_zero,Nat.reduceAdd]
 rfl
theorem used0 (e:En) (a:Option Addr) (n c:Nat) (gr:Value) (w:World) (hk:e.kind=0) :
  Calls Tryz.prog 108 #[.agg (e.vals (.slice a n c) gr)] w fun r w'=>r=.returned (.agg ((onlyD e).vals (.slice a n c) (.slice none 0 0)))∧Below w.heap.size w w':=by
 have k0:(e.kind==0)=true:=by rw[hk];rfl
 clear hk
 have HH:=held3b w (e.vals (.slice a n c) gr)
 have R3:=row3c' w (e.vals (.slice a n c) gr)
 go_enter Tryz.func108,Tryz.ntmps108
 go_upto_region 4 with fail
 refine wp_region_held_drew (S:=fun w'=>row w' w.heap.size=e.vals (.slice a n c) gr∧w'.cell? ⟨w.heap.size,23,none⟩=some (.slice a n c)∧w'.cell? ⟨w.heap.size,24,none⟩=some (.int .i64 e.used)∧Below w.heap.size w w') (by kernel_rfl) ?_ (fun hHeld=>?_)
 · have U:=U0.start w (e.vals (.slice a n c) gr) (zlit 0 ⟨#[]⟩) (zlit e.kind e.name) 28 28 28 (by rw[vals_size];decide) rfl rfl
   exact⟨U.1,cell_row U.1 23 _ (vals_23 _ _ _),cell_row U.1 24 _ (vals_24 _ _ _),U.2.2.2.2.2⟩
 have U:=U0.start w (e.vals (.slice a n c) gr) (zlit 0 ⟨#[]⟩) (zlit e.kind e.name) 28 28 28 (by rw[vals_size];decide) rfl rfl
 clear HH R3
 revert hHeld
 generalize hw1:World.drew _=w1
 intro hHeld
 have U:U0 w w1 (e.vals (.slice a n c) gr) (zlit e.kind e.name):=by rw[<-hw1];exact U
 clear hw1
 (refine rgy (i:=0) (some 13) ?_;(try simp only[Act.put,pz]))
 refine rg_y (i:=1) (some 14) (v:=.agg e.dat) rfl rfl (by kernel_rfl) (by kernel_rfl) (by kernel_rfl) (fun _ _ _ h=>h) (by kernel_rfl) (fun W hSw=>?_) (by assumption) ?_
 · refine (ldDat _ W _ _ _ _ _ _ rfl (by show (row W w.heap.size).size=33;rw[hSw.1];exact vals_size _ _ _)).trans ?_
   show Result.ok (Next.value (.agg ((row W w.heap.size).extract 2 23))) W=_
   rw[hSw.1,vals_dat]
 (try simp only[Act.put,List.setIfInBounds_toArray,List.set_cons_zero,List.set_cons_succ])
 (refine rgy (i:=2) (some 15) ?_;(try simp only[Act.put,pz]))
 (refine rgy (i:=3) (some 16) ?_;(try simp only[Act.put,pz]))
 (refine rgy (i:=4) (some 17) ?_;(try simp only[Act.put,pz]))
 (refine rgy (i:=5) (some 18) ?_;(try simp only[Act.put,pz]))
 (refine rgy (i:=6) (some 19) ?_;(try simp only[Act.put,pz]))
 have U2:=U.dat e.dat.toList
 refine rg_t (i:=7) none (w1.setRow (w.heap.size+1+1) (over (row w1 (w.heap.size+1+1)) 2 e.dat.toList)) rfl rfl (by kernel_rfl) (by kernel_rfl) (stDatF _ _ _ (.tmp 19) (.tmp 14) _ _ _ _ rfl U.held rfl (dat_size e) (dat_one e)) ⟨U2.1,cell_row U2.1 23 _ (vals_23 _ _ _),cell_row U2.1 24 _ (vals_24 _ _ _),U2.2.2.2.2.2⟩ ?_
 (try simp only[Act.put,List.setIfInBounds_toArray,List.set_cons_zero,List.set_cons_succ])
 have hHeld:row _ w.heap.size=e.vals (.slice a n c) gr∧World.cell? _ ⟨w.heap.size,23,none⟩=some (.slice a n c)∧World.cell? _ ⟨w.heap.size,24,none⟩=some (.int .i64 e.used)∧Below w.heap.size w _:=⟨U2.1,cell_row U2.1 23 _ (vals_23 _ _ _),cell_row U2.1 24 _ (vals_24 _ _ _),U2.2.2.2.2.2⟩
 revert U2 hHeld
 generalize (World.setRow _ _ _:World)=wq7
 intro U2 hHeld
 clear U
 have U:=U2
 clear U2
 (refine rgy (i:=8) (some 20) ?_;(try simp only[Act.put,pz]))
 have hc9:=U.at 23 (by decide)
 have hf9:=U.2.2.2.1
 have U2:=U.cell 23 (.slice a n c)
 refine rg_t (i:=9) none (World.setCell wq7 ⟨w.heap.size+1+1,23,none⟩ (.slice a n c)) rfl rfl (by kernel_rfl) (by kernel_rfl) (by go_simp) ⟨U2.1,cell_row U2.1 23 _ (vals_23 _ _ _),cell_row U2.1 24 _ (vals_24 _ _ _),U2.2.2.2.2.2⟩ ?_
 (try simp only[Act.put,List.setIfInBounds_toArray,List.set_cons_zero,List.set_cons_succ])
 have hHeld:row _ w.heap.size=e.vals (.slice a n c) gr∧World.cell? _ ⟨w.heap.size,23,none⟩=some (.slice a n c)∧World.cell? _ ⟨w.heap.size,24,none⟩=some (.int .i64 e.used)∧Below w.heap.size w _:=⟨U2.1,cell_row U2.1 23 _ (vals_23 _ _ _),cell_row U2.1 24 _ (vals_24 _ _ _),U2.2.2.2.2.2⟩
 revert U2 hHeld
 generalize (World.setCell _ _ _:World)=wq9
 intro U2 hHeld
 clear hc9 hf9 U
 have U:=U2
 clear U2
 (refine rgy (i:=10) (some 21) ?_;(try simp only[Act.put,pz]))
 have hc11:=U.at 24 (by decide)
 have hf11:=U.2.2.2.1
 have U2:=U.cell 24 (.int .i64 e.used)
 refine rg_t (i:=11) none (World.setCell wq9 ⟨w.heap.size+1+1,24,none⟩ (.int .i64 e.used)) rfl rfl (by kernel_rfl) (by kernel_rfl) (by go_simp) ⟨U2.1,cell_row U2.1 23 _ (vals_23 _ _ _),cell_row U2.1 24 _ (vals_24 _ _ _),U2.2.2.2.2.2⟩ ?_
 (try simp only[Act.put,List.setIfInBounds_toArray,List.set_cons_zero,List.set_cons_succ])
 have hHeld:row _ w.heap.size=e.vals (.slice a n c) gr∧World.cell? _ ⟨w.heap.size,23,none⟩=some (.slice a n c)∧World.cell? _ ⟨w.heap.size,24,none⟩=some (.int .i64 e.used)∧Below w.heap.size w _:=⟨U2.1,cell_row U2.1 23 _ (vals_23 _ _ _),cell_row U2.1 24 _ (vals_24 _ _ _),U2.2.2.2.2.2⟩
 revert U2 hHeld
 generalize (World.setCell _ _ _:World)=wq11
 intro U2 hHeld
 clear hc11 hf11 U
 have U:=U2
 clear U2
 refine wpAnyH_done (by kernel_rfl) ?_ _
 have hF:=hF0 e a n c
 rw[hF] at U
 have hone:=vals_one (onlyD e) (.slice a n c) (.slice none 0 0) rfl rfl
 have R:=U.2.1
 have HG:=U.2.2.2.2.1
 have HB:=U.2.2.2.2.2
 clear hF U hHeld
 go_wp2_with fail
 refine bodyPost_ret (res_row1 (n:=32) rfl Tryz.underlying28 rfl (by kernel_rfl) _ _ (w.heap.size+1) rfl (by rw[row_setRow HG];exact vals_size _ _ _)) rfl ?_
 rw[row_setRow HG]
 exact⟨rfl,below_setRow HB (show w.heap.size<=w.heap.size+1 by omega) _⟩
end
end Go.Proofs.YtnojclchnhmggaaGreatDoor
