/- Several texts in one: RkA RkB RkC RkD Rv. -/
import Derived.Test.YtpldecfgjpmmkaaGreatDoorEc
import Derived.Test.YtpldecfgjpmmkaaGreatDoorBoA
import Derived.Test.YtpldecfgjpmmkaaGreatDoorCalE
import Derived.Test.YtpldecfgjpmmkaaGreatDoorRsB
import Derived.Test.YtpldecfgjpmmkaaGreatDoorRsA
import Derived.Test.YtpldecfgjpmmkaaGreatDoorAcA
section
/- Contracts of the reference of chapter 33: Key, stored, level, owner, alternates. -/
namespace Go.Proofs.YtpldecfgjpmmkaaGreatDoor
open Go.RowKit
set_option maxHeartbeats 800000
set_option maxRecDepth 4000
theorem key_byte (k:Nat) (hk:k≤4):Ds.bl ((⟨#[68,71,65,67,80]⟩:ByteArray).extract k (k+1))=[Ek.letter k]:=by
 obtain rfl | rfl | rfl | rfl | rfl:k=0∨k=1∨k=2∨k=3∨k=4:=by omega
 all_goals rfl
theorem rkey (k:Int) (s:ByteArray) (w:World) :
  Calls Tryz.prog 77 #[.int .i64 k,.string s] w fun r w'=>∃ t,r=.returned (.string t)∧Ds.bl t=Ek.key k (Ds.bl s)∧w'=w:=by
 by_cases hk:0≤k∧k≤4∧s.size≤31
 · obtain⟨h0,h4,h31⟩:=hk
   obtain⟨m,rfl⟩:=Int.eq_ofNat_of_zero_le h0
   have D:=Lib.hid (Ek.key_yes m (Ds.bl s) ⟨h0,h4⟩ (by rw[Ds.bl_length];exact h31))
   have hc:=key_byte m (by omega)
   have hcz:((⟨#[68,71,65,67,80]⟩:ByteArray).extract m (m+1)).size=1:=by rw[← Ds.bl_length,hc];rfl
   have HC:=Lib.hid hc
   clear hc
   have hw1:IntKind.i64.wrap ((m:Int)+1)=(m:Int)+1:=IntWalk.i64_in _ ⟨by omega,by omega⟩
   have hn1:((m:Int)+1).toNat=m+1:=by omega
   go_enter Tryz.func77,Tryz.ntmps77
   go_wp2_with fail
   go_loopw [5] (fun v wr=>∃ (j:Nat) (t:ByteArray),j≤31 - s.size∧t.size=1+s.size+j∧v=.string t∧Hid (Ds.bl t=Ek.letter m::Ds.bl s++List.replicate j 32)∧wr=w) (fun v _=>32 - strLen v)
   case atStart =>
    refine⟨0,_,Nat.zero_le _,?_,rfl,Lib.hid ?_,rfl⟩
    · rw[ByteArray.size_append];simp only[hn1] at *;omega
    · rw[Ds.bl_append];first | rw[HC.out] | (simp only[hn1];rw[HC.out])
      simp
   case round =>
    obtain⟨j,t,hj,hz,rfl,HT,rfl⟩:=hrel
    by_cases h:t.size<32
    · go_wp2_with fail
      go_roundw
      case rel =>
       refine⟨j+1,_,by omega,?_,rfl,Lib.hid ?_,trivial⟩
       · rw[ByteArray.size_append,hz];rfl
       · rw[Ds.bl_append,HT.out,List.replicate_succ',← List.append_assoc];rfl
      case measure =>
       show 32 - (t++(⟨#[32]⟩:ByteArray)).size<32 - t.size
       rw[ByteArray.size_append]
       have:(⟨#[32]⟩:ByteArray).size=1:=rfl
       omega
    · go_wp2_with fail
      go_ret
      refine⟨t,rfl,?_,rfl⟩
      rw[D.out,HT.out]
      unfold Ek.pad
      rw[Ds.bl_length,show j=31 - s.size by omega];rfl
 · have D:=Lib.hid (show Ek.key k (Ds.bl s)=[] by unfold Ek.key Ek.isKind;rw[if_neg (by rw[Ds.bl_length];simp;omega)])
   go_enter Tryz.func77,Tryz.ntmps77
   go_wp2_with fail
   all_goals
    first
     | (go_ret
        exact⟨_,rfl,by rw[D.out];rfl,rfl⟩)
     | (exfalso;omega)
end Go.Proofs.YtpldecfgjpmmkaaGreatDoor
end
section
/- Contracts of the references: dasdref33.used at kinds 0, 2, 3, 4 and beyond. -/
namespace Go.Proofs.YtpldecfgjpmmkaaGreatDoor
open Go.RowKit
set_option maxHeartbeats 800000
set_option maxRecDepth 8000
attribute [local go_sem ↓] ldEnt stEnt stEntRow
attribute [local go_sem] Held_drew isHead_mk headOf_mk cellsOfV_mk isAggV_mk row_new row_new2 row_new2' row_drew row_drewN vals_size allOne_nil allOne_cons one_int one_bool one_string one_pointer one_slice vals_0 vals_1 vals_25 vals_26 vals_27 vals_28 vals_29 vals_30 vals_31 vals_32
theorem used4 (e:En) (al:Value) (a:Option Addr) (n c:Nat) (w:World) (hk:e.kind=4) :
  Calls Tryz.prog 66 #[.agg (e.vals al (.slice a n c))] w fun r w'=>r=.returned (.agg ((onlyP e).vals (.slice none 0 0) (.slice a n c)))∧Below w.heap.size w w':=by
 have k0:(e.kind==0)=false:=by rw[hk];rfl
 have k1:(e.kind==1)=false:=by rw[hk];rfl
 have k2:(e.kind==2)=false:=by rw[hk];rfl
 have k3:(e.kind==3)=false:=by rw[hk];rfl
 have k4:(e.kind==4)=true:=by rw[hk];rfl
 clear hk
 have HH:=held3b w (e.vals al (.slice a n c))
 have R3:=row3c' w (e.vals al (.slice a n c))
 go_enter Tryz.func66,Tryz.ntmps66
 go_wp2_with fail
 go_region
 all_goals
  go_wp2_with fail
  refine bodyPost_ret (res_row1 (n:=32) rfl Tryz.underlying28 rfl (by kernel_rfl) _ _ (w.heap.size+1) rfl (by rw[row_setRow (HH _ _ _ _ _ rfl)];rfl)) rfl ?_
  rw[row_setRow (HH _ _ _ _ _ rfl)]
  exact⟨by unfold onlyP En.vals;rfl,below_setRow (by exact belA) (show w.heap.size≤w.heap.size+1 by omega) _⟩
end Go.Proofs.YtpldecfgjpmmkaaGreatDoor
end
section
/- Contracts of the reference of chapter 33: level, grants. -/
namespace Go.Proofs.YtpldecfgjpmmkaaGreatDoor
open Go.RowKit
set_option maxHeartbeats 4000000
set_option maxRecDepth 8000
theorem rlevel (n:Int) (w:World):Calls Tryz.prog 75 #[.int .i64 n] w fun r w'=>r=.returned (.bool (Vp.rng 0 3 [n]))∧w=w':=by
 have e:Vp.rng 0 3 [n]=(decide (0≤n)&&decide (n≤3)):=by unfold Vp.rng;simp
 rw[e]
 by_cases h:0≤n
 · have e1:decide (0≤n)=true:=decide_eq_true h
   rw[e1]
   go_enter Tryz.func75,Tryz.ntmps75
   go_wp2_with fail
   go_ret
   exact⟨rfl,rfl⟩
 · have e1:decide (0≤n)=false:=decide_eq_false h
   rw[e1]
   go_enter Tryz.func75,Tryz.ntmps75
   go_wp2_with fail
   go_ret
   exact⟨rfl,rfl⟩
theorem among_next (k:ByteArray × Bool) (l:List Gr) (i:Nat) (hi:i<l.length):Vp.among k ((l.take (i+1)).map Vp.gk)=(Vp.among k ((l.take i).map Vp.gk) || decide (k=Vp.gk l[i])):=by
 unfold Vp.among
 rw[List.take_succ_eq_append_getElem hi,List.map_append,List.any_append]
 simp
theorem among_mono (k:ByteArray × Bool) (l:List Gr) (i j:Nat) (hij:i≤j) (h:Vp.among k ((l.take i).map Vp.gk)=true):Vp.among k ((l.take j).map Vp.gk)=true:=by
 rw[among_iff] at h ⊢
 obtain⟨x,hx,e⟩:=List.mem_map.1 h
 exact List.mem_map.2 ⟨x,(List.take_subset_take_left l hij) hx,e⟩
theorem grAt_eq (l:List Gr) (i:Nat) (hi:i<l.length):Vp.grAt l i=(Vp.word (Ds.bl l[i].1)&&(Vp.rng 0 3 [l[i].2.2]&&!Vp.among (Vp.gk l[i]) ((l.take i).map Vp.gk))):=by
 unfold Vp.grAt;rw[List.getElem?_eq_getElem hi]
theorem grs_next (l:List Gr) (k:Nat) (hk:k<l.length):Ds.rest (Vp.grAt l) (List.range l.length) k=(Vp.grAt l k&&Ds.rest (Vp.grAt l) (List.range l.length) (k+1)):=by
 have:=Ds.rest_next (Vp.grAt l) (List.range l.length) k (by simpa using hk)
 simpa using this
theorem gk_eq (a b:Gr):decide (Vp.gk a=Vp.gk b)=(decide (a.1=b.1)&&(a.2.1==b.2.1)):=by
 unfold Vp.gk
 rw[Bool.eq_iff_iff,decide_eq_true_eq,Bool.and_eq_true,decide_eq_true_eq,beq_iff_eq,Prod.mk.injEq]
theorem rgrants (v:Value) (l:List Gr) (w:World) (h:GS w v l) :
  Calls Tryz.prog 76 #[v] w fun r w'=>r=.returned (.bool (Vp.grs l&&decide (l.length≤8)))∧Below w.heap.size w w':=by
 obtain⟨a,c,rfl,hz,-⟩:=id h
 have HG:=Lib.hid h
 clear h
 go_enter Tryz.func76,Tryz.ntmps76
 go_wp2_with fail
 go_loopw [3] (fun i wr=>∃ k:Nat,k≤l.length∧i=.int .i64 k∧Vp.grs l=Ds.rest (Vp.grAt l) (List.range l.length) k∧Below w.heap.size w wr) (fun i _=>l.length - (intOf i).toNat)
 case atStart=>exact⟨0,Nat.zero_le _,rfl,rfl,Below.refl _ _⟩
 case round =>
  obtain⟨k,hk,rfl,hq,B⟩:=hrel
  by_cases hlt:k<l.length
  · obtain⟨b,o,rfl,pg⟩:=GS.at (HG.out.below B) (by omega)
    obtain⟨p0,p1,p2⟩:=pg k hlt
    have hr:=grs_next l k hlt
    rw[grAt_eq l k hlt] at hr
    have hqu:=fun W=>rqual l[k].1 W
    have hle:=fun W=>rlevel l[k].2.2 W
    clear pg
    cases hw:Vp.word (Ds.bl l[k].1)
    · rw[hw] at hr hqu
      have HR:=Lib.hid (hq.trans hr)
      have HQ:=Lib.hid hqu
      clear hr hqu hle hq
      go_wp2_with (first | (go_at_call 134;(with_reducible refine (HQ.out _).mono ?_);rintro _ w2 ⟨rfl,hb⟩))
      go_ret
      exact⟨ret_bool (by rw[HR.out];rfl),bt B hb⟩
    cases hlv:Vp.rng 0 3 [l[k].2.2]
    · rw[hw] at hr hqu
      rw[hlv] at hr hle
      have HR:=Lib.hid (hq.trans hr)
      have HQ:=Lib.hid hqu
      have HL:=Lib.hid hle
      clear hr hqu hle hq
      go_wp2_with (first | (go_at_call 134;(with_reducible refine (HQ.out _).mono ?_);rintro _ w2 ⟨rfl,hb⟩;have p2:=below_cell hb p2) | (go_at_call 75;(with_reducible refine (HL.out _).mono ?_);rintro _ w3 ⟨rfl,rfl⟩))
      go_ret
      exact⟨ret_bool (by rw[HR.out];rfl),bt B hb⟩
    rw[hw] at hr hqu
    rw[hlv] at hr hle
    rw[Bool.true_and,Bool.true_and] at hr
    have HR:=Lib.hid (hq.trans hr)
    have HQ:=Lib.hid hqu
    have HL:=Lib.hid hle
    clear hr hqu hle hq
    go_wp2_with (first | (go_at_call 134;(with_reducible refine (HQ.out _).mono ?_);rintro _ w2 ⟨rfl,hb⟩;have B2:=bt B hb;have q0:=below_cell hb p0;have q1:=below_cell hb p1;have p2:=below_cell hb p2) | (go_at_call 75;(with_reducible refine (HL.out _).mono ?_);rintro _ w3 ⟨rfl,rfl⟩))
    go_loopw [4] (fun j wr=>∃ i:Nat,i≤k∧j=.int .i64 i∧Vp.among (Vp.gk l[k]) ((l.take i).map Vp.gk)=false∧∃ q,wr=w2.drewN q) (fun j _=>k - (intOf j).toNat)
    case atStart=>exact⟨0,Nat.zero_le _,rfl,rfl,0,rfl⟩
    case round =>
     obtain⟨i,hi,rfl,ham,q,rfl⟩:=hrel
     by_cases hik:i<k
     · obtain⟨b',o',e',pg⟩:=GS.at (HG.out.below B2) (by omega)
       cases e'
       obtain⟨r0,r1,r2⟩:=pg i (by omega)
       clear pg
       have hn:=among_next (Vp.gk l[k]) l i (by omega)
       rw[gk_eq,ham,Bool.false_or] at hn
       have i1:(0:Int)≤(i:Int):=by omega
       have i2:(i:Int)<(l.length:Int):=by omega
       have k1:(0:Int)≤(k:Int):=by omega
       have k2:(k:Int)<(l.length:Int):=by omega
       have tq:(l[i].1.toList==l[k].1.toList)=decide (l[k].1=l[i].1):=by rw[Bool.eq_iff_iff,beq_iff_eq,decide_eq_true_eq,tl_inj];exact eq_comm
       have hmo:=among_mono (Vp.gk l[k]) l (i+1) k (by omega)
       by_cases hs:l[k].1=l[i].1
       · rw[decide_eq_true hs] at tq hn
         rw[Bool.true_and] at hn
         by_cases hg:l[k].2.1=l[i].2.1
         · have tg:(l[i].2.1==l[k].2.1)=true:=by rw[beq_iff_eq];exact hg.symm
           have tg2:(l[k].2.1==l[i].2.1)=true:=by rw[beq_iff_eq];exact hg
           rw[tg2] at hn
           have HF:=Lib.hid (hmo hn)
           clear hn hmo hs hg tg2 ham
           go_wp2_with fail
           go_quiet (fail)
           go_wp2_with fail
           go_ret
           exact⟨ret_bool (by rw[HR.out,HF.out];rfl),below_drewN (below_drewN B2 _) _⟩
         · have tg:(l[i].2.1==l[k].2.1)=false:=by rw[beq_eq_false_iff_ne];exact fun e=>hg e.symm
           have tg2:(l[k].2.1==l[i].2.1)=false:=by rw[beq_eq_false_iff_ne];exact hg
           rw[tg2] at hn
           have HN:=Lib.hid hn
           clear hn hmo hs hg tg2 ham
           go_wp2_with fail
           go_quiet (fail)
           go_wp2_with fail
           go_roundw
           case rel=>exact⟨i+1,by omega,by go_num,HN.out,_,rfl⟩
           case measure=>simp [intOf];omega
       · rw[decide_eq_false hs] at tq hn
         rw[Bool.false_and] at hn
         have HN:=Lib.hid hn
         clear hn hmo hs ham
         go_wp2_with fail
         go_quiet (fail)
         go_wp2_with fail
         go_roundw
         case rel=>exact⟨i+1,by omega,by go_num,HN.out,_,rfl⟩
         case measure=>simp [intOf];omega
     · obtain rfl:i=k:=by omega
       have HF:=Lib.hid ham
       clear ham
       go_wp2_with fail
       go_roundw
       case rel=>exact⟨i+1,by omega,by go_num,by rw[HR.out,HF.out];rfl,below_drewN B2 _⟩
       case measure=>simp [intOf];omega
  · obtain rfl:k=l.length:=by omega
    have e:=hq.trans (Ds.rest_end (Vp.grAt l) (List.range l.length) l.length (by simp))
    have E:=Lib.hid e
    clear e hq
    go_wp2_with fail
    go_ret
    exact⟨ret_bool (by rw[E.out,Bool.true_and,Bool.eq_iff_iff,decide_eq_true_eq,decide_eq_true_eq];omega),B⟩
end Go.Proofs.YtpldecfgjpmmkaaGreatDoor
end
section
/- Contracts of the references: dasdref33.Valid at a profile. -/
namespace Go.Proofs.YtpldecfgjpmmkaaGreatDoor
open Go.RowKit
set_option maxHeartbeats 4000000
set_option maxRecDepth 8000
def profR (e:En) (g2:List Gr):Bool:=Ds.pat (Ds.bl e.name)&&(Vp.rng 0 3 [e.lev]&&(Vp.own (Ds.bl e.owner)&&(Vp.grs g2&&decide (g2.length≤8))))
attribute [local go_sem ↓] ldEnt stEnt stEntRow
attribute [local go_sem] Held_drew isHead_mk headOf_mk cellsOfV_mk isAggV_mk row_new row_new2 row_new2' row_drew row_drewN vals_size allOne_nil allOne_cons one_int one_bool one_string one_pointer one_slice vals_0 vals_1 vals_25 vals_26 vals_27 vals_28 vals_31 vals_32
theorem rvalid4 (e:En) (al:Value) (a:Option Addr) (n c:Nat) (g2:List Gr) (b:Bool) (w:World) (hk:e.kind=4) (h2:GS w (.slice a n c) g2) (hsz:e.name.size≤60)
  (hs:∀ W,Below w.heap.size w W→Calls Tryz.prog 65 #[.agg (e.vals al (.slice a n c)),.agg ((onlyP e).vals (.slice none 0 0) (.slice a n c))] W fun r w'=>r=.returned (.bool b)∧Below W.heap.size W w') :
  Calls Tryz.prog 35 #[.agg (e.vals al (.slice a n c))] w fun r w'=>r=.returned (.bool (b&&profR e g2))∧Below w.heap.size w w':=by
 have hu:=fun W=>used4 e al a n c W hk
 have hg:=fun W (B:Below w.heap.size w W)=>rgrants (.slice a n c) g2 W (h2.below B)
 have k0:(e.kind==0)=false:=by rw[hk];rfl
 have k1:(e.kind==1)=false:=by rw[hk];rfl
 have k2:(e.kind==2)=false:=by rw[hk];rfl
 have k3:(e.kind==3)=false:=by rw[hk];rfl
 have k4:(e.kind==4)=true:=by rw[hk];rfl
 have HU:=Lib.hid hu
 have HS:=Lib.hid hs
 clear hk hu hs h2
 have B0:∀ t,Below w.heap.size w (w.alloc (.cells (e.vals al (.slice a n c)) t)).drew:=fun t=>by exact belA
 have R0:∀ t,row (w.alloc (.cells (e.vals al (.slice a n c)) t)).drew w.heap.size=e.vals al (.slice a n c):=fun t=>by rw[row_drew];exact row_new w _ t _
 cases b
 · rw[Bool.false_and]
   go_enter Tryz.func35,Tryz.ntmps35
   go_wp2_with fail
   go_region_held3 (fun w'=>row w' w.heap.size=e.vals al (.slice a n c)∧Below w.heap.size w w') (first | exact⟨R0 _,B0 _⟩ | exact keep1 hb (by assumption) (by simp [vals_size])) (first | (go_at_call 66;(with_reducible refine (HU.out _).mono ?_);rintro e w2 ⟨rfl,hb⟩) | (go_at_call 65;(with_reducible refine (HS.out _ (by assumption:row _ _=_∧Below _ _ _).2).mono ?_);rintro e w3 ⟨rfl,hb⟩))
   all_goals
    go_wp2_with fail
    go_ret
    exact⟨rfl,(by assumption:row _ _=_∧Below _ _ _).2⟩
 · rw[Bool.true_and]
   unfold profR
   have hp:=fun W=>rds_pat e.name W
   have hl:=fun W=>rlevel e.lev W
   have ho:=fun W=>rowner e.owner W
   generalize Ds.pat (Ds.bl e.name)=c0 at hp ⊢
   generalize Vp.rng 0 3 [e.lev]=c1 at hl ⊢
   generalize Vp.own (Ds.bl e.owner)=c2 at ho ⊢
   generalize (Vp.grs g2&&decide (g2.length≤8))=c3 at hg ⊢
   have HP:=Lib.hid hp
   have HL:=Lib.hid hl
   have HO:=Lib.hid ho
   have HG:=Lib.hid hg
   clear hp hl ho hg
   go_enter Tryz.func35,Tryz.ntmps35
   go_wp2_with fail
   go_region_held3 (fun w'=>row w' w.heap.size=e.vals al (.slice a n c)∧Below w.heap.size w w') (first | exact⟨R0 _,B0 _⟩ | exact keep1 hb (by assumption) (by simp [vals_size])) (first | (go_at_call 66;(with_reducible refine (HU.out _).mono ?_);rintro e w2 ⟨rfl,hb⟩) | (go_at_call 65;(with_reducible refine (HS.out _ (by assumption:row _ _=_∧Below _ _ _).2).mono ?_);rintro e w3 ⟨rfl,hb⟩))
   all_goals
    obtain⟨R,B⟩:=(by assumption:row _ _=_∧Below _ _ _)
    have n0:=cell_row R 0 _ (vals_0 e al _)
    have n1:=cell_row R 1 _ (vals_1 e al _)
    go_upto_region 15 with (first
     | (go_at_call 67;(with_reducible refine (rds_Valid e.name _).mono ?_);rintro _ w5 ⟨rfl,hb⟩;have R:=row_below hb R (by simp [vals_size]);have n0:=cell_row R 0 _ (vals_0 e al _);have n1:=cell_row R 1 _ (vals_1 e al _);have B:=bt B hb;clear hb)
     | (go_at_call 39;(with_reducible refine (rds_split e.name _ hsz).mono ?_);rintro _ w6 ⟨rfl,hb⟩;have R:=row_below hb R (by simp [vals_size]);have n0:=cell_row R 0 _ (vals_0 e al _);have n1:=cell_row R 1 _ (vals_1 e al _);have B:=bt B hb;clear hb))
    have v8:=cell_row R 28 _ (vals_28 e al _)
    have v31:=cell_row R 31 _ (vals_31 e al _)
    have v32:=cell_row R 32 _ (vals_32 e al _)
    cases c0
    · go_wp2_with (first | (go_at_call 74;(with_reducible refine (HP.out _).mono ?_);rintro _ w7 ⟨rfl,hb⟩;have R:=row_below hb R (by simp [vals_size]);have n1:=cell_row R 1 _ (vals_1 e al _);have v8:=cell_row R 28 _ (vals_28 e al _);have v31:=cell_row R 31 _ (vals_31 e al _);have v32:=cell_row R 32 _ (vals_32 e al _);have B:=bt B hb;clear hb))
      go_ret
      exact⟨rfl,B⟩
    cases c1
    · go_wp2_with (first | (go_at_call 74;(with_reducible refine (HP.out _).mono ?_);rintro _ w7 ⟨rfl,hb⟩;have R:=row_below hb R (by simp [vals_size]);have n1:=cell_row R 1 _ (vals_1 e al _);have v8:=cell_row R 28 _ (vals_28 e al _);have v31:=cell_row R 31 _ (vals_31 e al _);have v32:=cell_row R 32 _ (vals_32 e al _);have B:=bt B hb;clear hb) | (go_at_call 75;(with_reducible refine (HL.out _).mono ?_);rintro _ w8 ⟨rfl,rfl⟩))
      go_ret
      exact⟨rfl,B⟩
    cases c2
    · go_wp2_with (first | (go_at_call 74;(with_reducible refine (HP.out _).mono ?_);rintro _ w7 ⟨rfl,hb⟩;have R:=row_below hb R (by simp [vals_size]);have n1:=cell_row R 1 _ (vals_1 e al _);have v8:=cell_row R 28 _ (vals_28 e al _);have v31:=cell_row R 31 _ (vals_31 e al _);have v32:=cell_row R 32 _ (vals_32 e al _);have B:=bt B hb;clear hb) | (go_at_call 75;(with_reducible refine (HL.out _).mono ?_);rintro _ w8 ⟨rfl,rfl⟩) | (go_at_call 72;(with_reducible refine (HO.out _).mono ?_);rintro _ w9 ⟨rfl,hb⟩;have R:=row_below hb R (by simp [vals_size]);have n1:=cell_row R 1 _ (vals_1 e al _);have v8:=cell_row R 28 _ (vals_28 e al _);have v31:=cell_row R 31 _ (vals_31 e al _);have v32:=cell_row R 32 _ (vals_32 e al _);have B:=bt B hb;clear hb))
      go_ret
      exact⟨rfl,B⟩
    · go_wp2_with (first | (go_at_call 74;(with_reducible refine (HP.out _).mono ?_);rintro _ w7 ⟨rfl,hb⟩;have R:=row_below hb R (by simp [vals_size]);have n1:=cell_row R 1 _ (vals_1 e al _);have v8:=cell_row R 28 _ (vals_28 e al _);have v31:=cell_row R 31 _ (vals_31 e al _);have v32:=cell_row R 32 _ (vals_32 e al _);have B:=bt B hb;clear hb) | (go_at_call 75;(with_reducible refine (HL.out _).mono ?_);rintro _ w8 ⟨rfl,rfl⟩) | (go_at_call 72;(with_reducible refine (HO.out _).mono ?_);rintro _ w9 ⟨rfl,hb⟩;have R:=row_below hb R (by simp [vals_size]);have n1:=cell_row R 1 _ (vals_1 e al _);have v8:=cell_row R 28 _ (vals_28 e al _);have v31:=cell_row R 31 _ (vals_31 e al _);have v32:=cell_row R 32 _ (vals_32 e al _);have B:=bt B hb;clear hb) | (go_at_call 76;(with_reducible refine (HG.out _ B).mono ?_);rintro _ w10 ⟨rfl,hb⟩;have B:=bt B hb;clear hb))
      go_ret
      exact⟨rfl,B⟩
end Go.Proofs.YtpldecfgjpmmkaaGreatDoor
end
section
/- Contracts of the reference of chapter 33: Valid at a profile of a list. -/
namespace Go.Proofs.YtpldecfgjpmmkaaGreatDoor
open Go.RowKit
set_option maxHeartbeats 800000
set_option maxRecDepth 8000
end Go.Proofs.YtpldecfgjpmmkaaGreatDoor
end
