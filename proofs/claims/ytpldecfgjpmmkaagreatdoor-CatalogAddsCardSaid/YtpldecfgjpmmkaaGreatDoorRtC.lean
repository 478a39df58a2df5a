/- Several texts in one: Rt RtB RtC. -/
import Derived.Test.YtpldecfgjpmmkaaGreatDoorRuC
import Derived.Test.YtpldecfgjpmmkaaGreatDoorRv
import Derived.Test.YtpldecfgjpmmkaaGreatDoorCalE
import Derived.BigQuiet
import Derived.Test.YtpldecfgjpmmkaaGreatDoorRnC
import Derived.Test.YtpldecfgjpmmkaaGreatDoorEc
section
/- Contracts of the reference of chapter 33: Numbers, stored, set, alternates; Valid at a data set. Printed by wip/mkrt.py. -/
namespace Go.Proofs.YtpldecfgjpmmkaaGreatDoor
open Go.RowKit
set_option maxHeartbeats 8000000
set_option maxRecDepth 8000
set_option linter.unusedSimpArgs false
theorem is_new (W:World) (l:List Int) (t:TypeId) (h:l.length≤1000000):IS (W.alloc (.cells (l.map (Value.int .i64)).toArray t)) (.slice (some ⟨W.heap.size,0,none⟩) l.length l.length) l :=
 ⟨_,l.length,rfl,h,fun _=>⟨W.heap.size,0,rfl,by simp,fun k hk=>by
  rw[cell_of_row _ W.heap.size (0+k) _ t (0,0) (heap_alloc_new W _)]
  simp [hk]⟩⟩
theorem ldDatH (ev:Operand→Value) (w:World) (dst x t pos af gd) (h1:isHead (ev x)=true) (h2:(row w (headOf (ev x))).size=21) :
  (execOp ev ⟨dst,.load 24 x,t,pos,af,gd⟩).run Tryz.prog w=.ok (.value (.agg (row w (headOf (ev x))))) w :=
 exec_load_row ev w _ 20 _ Tryz.underlying24 rfl (by kernel_rfl) dst x t pos af gd h1 h2
attribute [local go_sem ↓] ldEnt stEnt stEntRow ldDat stDat ldDatH
attribute [local go_sem] Held_drew isHead_mk headOf_mk cellsOfV_mk isAggV_mk isDat_mk row_new row_new2 row_new2' row_drew row_drewN vals_size vals_dat dat_size allOne_nil allOne_cons one_int one_bool one_string one_pointer one_slice vals_0 vals_1 vals_23 vals_24
theorem rnums (e:En) (w:World):Calls Tryz.prog 132 #[.agg e.dat] w fun r w'=>∃ v,r=.returned v∧IS w' v (numD e)∧Below w.heap.size w w':=by
 have R:=row_new w e.dat 24 (0,0)
 have n0:=cell_row R 0 _ (dat_0 e)
 have n1:=cell_row R 1 _ (dat_1 e)
 have n2:=cell_row R 2 _ (dat_2 e)
 have n3:=cell_row R 3 _ (dat_3 e)
 have n4:=cell_row R 4 _ (dat_4 e)
 have n5:=cell_row R 5 _ (dat_5 e)
 have n6:=cell_row R 6 _ (dat_6 e)
 have n7:=cell_row R 7 _ (dat_7 e)
 have n8:=cell_row R 8 _ (dat_8 e)
 have n9:=cell_row R 9 _ (dat_9 e)
 have n10:=cell_row R 10 _ (dat_10 e)
 have n11:=cell_row R 11 _ (dat_11 e)
 have n12:=cell_row R 12 _ (dat_12 e)
 have n13:=cell_row R 13 _ (dat_13 e)
 have hi:IS ((w.alloc (.cells e.dat 24)).alloc (.cells #[Value.int .i64 e.d0,Value.int .i64 e.d1,Value.int .i64 e.d2,Value.int .i64 e.d3,Value.int .i64 e.d4,Value.int .i64 e.d5,Value.int .i64 e.d6,Value.int .i64 e.d7,Value.int .i64 e.d8,Value.int .i64 e.d9,Value.int .i64 e.d10,Value.int .i64 e.d11,Value.int .i64 e.d12,Value.int .i64 e.d13] 3)) (.slice (some ⟨w.heap.size+1,0,none⟩) 14 14) (numD e):=by
  have:=is_new (w.alloc (.cells e.dat 24)) (numD e) 3 (Nat.le_of_ble_eq_true rfl)
  simpa [numD] using this
 have HI:=Lib.hid hi
 clear hi R
 go_enter Tryz.func132,Tryz.ntmps132
 go_wp2_with fail
 go_ret
 exact⟨_,rfl,HI.out,by exact belA⟩
def inR (n:Int):Bool:=decide (0≤n)&&decide (n≤1099511627776)
theorem rstored (n:Int) (w:World):Calls Tryz.prog 133 #[.int .i64 n] w fun r w'=>r=.returned (.bool (inR n))∧w=w':=by
 unfold inR
 generalize h0:decide (0≤n)=c0
 generalize h1:decide (n≤1099511627776)=c1
 cases c0
 · go_enter Tryz.func133,Tryz.ntmps133
   go_wp2_with fail
   go_ret
   exact⟨rfl,rfl⟩
 · go_enter Tryz.func133,Tryz.ntmps133
   go_wp2_with fail
   go_ret
   exact⟨rfl,rfl⟩
def setR (e:En):Bool:=(numD e).all inR&&(decide (1≤e.d0)&&(decide (e.d1≤3)&&(decide (e.d2≤2)&&(decide (0≤e.cls)&&(decide (e.cls≤3)&&(Vp.own (Ds.bl e.vol)&&(Vp.own (Ds.bl e.own)&&(Cal.isDay e.cr&&Cal.isDay e.ex))))))))
theorem rset (e:En) (w:World):Calls Tryz.prog 68 #[.agg e.dat] w fun r w'=>r=.returned (.bool (setR e))∧Below w.heap.size w w':=by
 have R0:=row_new w e.dat 24 (0,0)
 have hd1:=dat_one e
 have hn:=fun W=>rnums e W
 have HN:=Lib.hid hn
 have hall:∀ k,(∀ j (h:j<(numD e).length),j<k→inR (numD e)[j]=true)→k=(numD e).length→(numD e).all inR=true:=fun k h hk=>by
  rw[List.all_eq_true]
  intro n hn
  obtain⟨j,hj,rfl⟩:=List.getElem_of_mem hn
  exact h j hj (by omega)
 have hno:∀ j (h:j<(numD e).length),inR (numD e)[j]=false→(numD e).all inR=false:=fun j h hf=>by
  rw[Bool.eq_false_iff];intro ha
  rw[List.all_eq_true] at ha
  rw[ha _ (List.getElem_mem h)] at hf;cases hf
 have HALL:=Lib.hid hall
 have HNO:=Lib.hid hno
 clear hn hall hno
 unfold setR
 generalize hns:numD e=ns at HN HALL HNO ⊢
 clear hns
 generalize hca:ns.all inR=ca at HALL HNO ⊢
 clear hca
 have hO1:=fun W=>rowner e.vol W
 have hO2:=fun W=>rowner e.own W
 have hD1:=fun W=>refIsDay e.cr W
 have hD2:=fun W=>refIsDay e.ex W
 generalize h0:decide (1≤e.d0)=c0
 generalize h1:decide (e.d1≤3)=c1
 generalize h2:decide (e.d2≤2)=c2
 generalize h3:decide (0≤e.cls)=c3
 generalize h4:decide (e.cls≤3)=c4
 generalize Vp.own (Ds.bl e.vol)=c5 at hO1 ⊢
 generalize Vp.own (Ds.bl e.own)=c6 at hO2 ⊢
 generalize Cal.isDay e.cr=c7 at hD1 ⊢
 generalize Cal.isDay e.ex=c8 at hD2 ⊢
 have HO1:=Lib.hid hO1
 have HO2:=Lib.hid hO2
 have HD1:=Lib.hid hD1
 have HD2:=Lib.hid hD2
 clear hO1 hO2 hD1 hD2
 go_enter Tryz.func68,Tryz.ntmps68
 go_wp2_with (go_at_call 132;(with_reducible refine (HN.out _).mono ?_);rintro _ w1 ⟨v,rfl,hI,hb⟩;have HI:=Lib.hid hI;have R1:=row_below hb R0 (by rw[dat_size];decide);have B1:=below1 hb;clear hb hI)
 obtain⟨av,cv,rfl,hz,hc⟩:=HI.out
 have HC:=Lib.hid hc
 clear hc HN R0
 go_loopw [4] (fun i wr=>∃ k:Nat,k≤ns.length∧i=.int .i64 k∧(∀ j (h:j<ns.length),j<k→inR ns[j]=true)∧row wr w.heap.size=e.dat∧Below w.heap.size w wr∧wr=w1) (fun i _=>ns.length - (intOf i).toNat)
 case atStart=>exact⟨0,by omega,rfl,fun j _ h=>absurd h (by omega),R1,B1,rfl⟩
 case round =>
  clear R1 B1
  obtain⟨k,hk,rfl,hok,R1,B1,rfl⟩:=hrel
  have HOK:=Lib.hid hok
  clear hok
  by_cases hlt:k<ns.length
  · obtain⟨b,o,rfl,hb,hcell⟩:=HC.out (by omega)
    have c0:=hcell k (by omega)
    cases hin:inR (ns[k]'(by omega))
    · obtain rfl:=HNO.out k (by omega) hin
      have HS:=Lib.hid (fun W=>by have:=rstored (ns[k]'(by omega)) W;rw[hin] at this;exact this)
      generalize (ns[k]'(by omega))=x at c0 HS
      clear hcell hin
      go_wp2_with (go_at_call 133;(with_reducible refine (HS.out _).mono ?_);rintro _ w2 ⟨rfl,rfl⟩)
      go_ret
      exact⟨rfl,B1⟩
    · have HS:=Lib.hid (fun W=>by have:=rstored (ns[k]'(by omega)) W;rw[hin] at this;exact this)
      have HIN:=Lib.hid hin
      have HK:Hid (∀ j (h:j<ns.length),j<k+1→inR ns[j]=true):=Lib.hid (fun j h hj=>by
       rcases Nat.lt_or_ge j k with q | q
       · exact HOK.out j h q
       · obtain rfl:j=k:=by omega
         exact HIN.out)
      clear hin HIN
      generalize (ns[k]'(by omega))=x at c0 HS
      clear hcell
      go_wp2_with (go_at_call 133;(with_reducible refine (HS.out _).mono ?_);rintro _ w2 ⟨rfl,rfl⟩)
      go_roundw
      case rel =>
       exact⟨k+1,by omega,by go_num,fun j h hj=>HK.out j h hj,R1,B1,trivial⟩
      case measure=>simp [intOf];omega
  · obtain rfl:k=ns.length:=by omega
    obtain rfl:=HALL.out _ HOK.out rfl
    clear HALL HNO HOK HC HI
    have n0:=cell_row R1 0 _ (dat_0 e)
    have n1:=cell_row R1 1 _ (dat_1 e)
    have n2:=cell_row R1 2 _ (dat_2 e)
    have n15:=cell_row R1 15 _ (dat_15 e)
    have n16:=cell_row R1 16 _ (dat_16 e)
    have n17:=cell_row R1 17 _ (dat_17 e)
    have n18:=cell_row R1 18 _ (dat_18 e)
    have n19:=cell_row R1 19 _ (dat_19 e)
    cases c0
    · go_wp2_with (first
       | (go_at_call 72;have b6:=B2;clear b6;(with_reducible refine (HO2.out _).mono ?_);rintro _ w3 ⟨rfl,hb⟩;have R3:=row_below hb R2 (by rw[dat_size];decide);have n18:=cell_row R3 18 _ (dat_18 e);have n19:=cell_row R3 19 _ (dat_19 e);have B3:=bt B2 hb;clear hb)
       | (go_at_call 72;(with_reducible refine (HO1.out _).mono ?_);rintro _ w2 ⟨rfl,hb⟩;have R2:=row_below hb R1 (by rw[dat_size];decide);have n17:=cell_row R2 17 _ (dat_17 e);have B2:=bt B1 hb;clear hb)
       | (go_at_call 70;first | ((with_reducible refine (HD1.out _).mono ?_);rintro _ w4 ⟨rfl,rfl⟩) | ((with_reducible refine (HD2.out _).mono ?_);rintro _ w5 ⟨rfl,rfl⟩)))
      go_ret
      exact⟨rfl,by first | exact B3 | exact B2 | exact B1⟩
    cases c1
    · go_wp2_with (first
       | (go_at_call 72;have b6:=B2;clear b6;(with_reducible refine (HO2.out _).mono ?_);rintro _ w3 ⟨rfl,hb⟩;have R3:=row_below hb R2 (by rw[dat_size];decide);have n18:=cell_row R3 18 _ (dat_18 e);have n19:=cell_row R3 19 _ (dat_19 e);have B3:=bt B2 hb;clear hb)
       | (go_at_call 72;(with_reducible refine (HO1.out _).mono ?_);rintro _ w2 ⟨rfl,hb⟩;have R2:=row_below hb R1 (by rw[dat_size];decide);have n17:=cell_row R2 17 _ (dat_17 e);have B2:=bt B1 hb;clear hb)
       | (go_at_call 70;first | ((with_reducible refine (HD1.out _).mono ?_);rintro _ w4 ⟨rfl,rfl⟩) | ((with_reducible refine (HD2.out _).mono ?_);rintro _ w5 ⟨rfl,rfl⟩)))
      go_ret
      exact⟨rfl,by first | exact B3 | exact B2 | exact B1⟩
    cases c2
    · go_wp2_with (first
       | (go_at_call 72;have b6:=B2;clear b6;(with_reducible refine (HO2.out _).mono ?_);rintro _ w3 ⟨rfl,hb⟩;have R3:=row_below hb R2 (by rw[dat_size];decide);have n18:=cell_row R3 18 _ (dat_18 e);have n19:=cell_row R3 19 _ (dat_19 e);have B3:=bt B2 hb;clear hb)
       | (go_at_call 72;(with_reducible refine (HO1.out _).mono ?_);rintro _ w2 ⟨rfl,hb⟩;have R2:=row_below hb R1 (by rw[dat_size];decide);have n17:=cell_row R2 17 _ (dat_17 e);have B2:=bt B1 hb;clear hb)
       | (go_at_call 70;first | ((with_reducible refine (HD1.out _).mono ?_);rintro _ w4 ⟨rfl,rfl⟩) | ((with_reducible refine (HD2.out _).mono ?_);rintro _ w5 ⟨rfl,rfl⟩)))
      go_ret
      exact⟨rfl,by first | exact B3 | exact B2 | exact B1⟩
    cases c3
    · go_wp2_with (first
       | (go_at_call 72;have b6:=B2;clear b6;(with_reducible refine (HO2.out _).mono ?_);rintro _ w3 ⟨rfl,hb⟩;have R3:=row_below hb R2 (by rw[dat_size];decide);have n18:=cell_row R3 18 _ (dat_18 e);have n19:=cell_row R3 19 _ (dat_19 e);have B3:=bt B2 hb;clear hb)
       | (go_at_call 72;(with_reducible refine (HO1.out _).mono ?_);rintro _ w2 ⟨rfl,hb⟩;have R2:=row_below hb R1 (by rw[dat_size];decide);have n17:=cell_row R2 17 _ (dat_17 e);have B2:=bt B1 hb;clear hb)
       | (go_at_call 70;first | ((with_reducible refine (HD1.out _).mono ?_);rintro _ w4 ⟨rfl,rfl⟩) | ((with_reducible refine (HD2.out _).mono ?_);rintro _ w5 ⟨rfl,rfl⟩)))
      go_ret
      exact⟨rfl,by first | exact B3 | exact B2 | exact B1⟩
    cases c4
    · go_wp2_with (first
       | (go_at_call 72;have b6:=B2;clear b6;(with_reducible refine (HO2.out _).mono ?_);rintro _ w3 ⟨rfl,hb⟩;have R3:=row_below hb R2 (by rw[dat_size];decide);have n18:=cell_row R3 18 _ (dat_18 e);have n19:=cell_row R3 19 _ (dat_19 e);have B3:=bt B2 hb;clear hb)
       | (go_at_call 72;(with_reducible refine (HO1.out _).mono ?_);rintro _ w2 ⟨rfl,hb⟩;have R2:=row_below hb R1 (by rw[dat_size];decide);have n17:=cell_row R2 17 _ (dat_17 e);have B2:=bt B1 hb;clear hb)
       | (go_at_call 70;first | ((with_reducible refine (HD1.out _).mono ?_);rintro _ w4 ⟨rfl,rfl⟩) | ((with_reducible refine (HD2.out _).mono ?_);rintro _ w5 ⟨rfl,rfl⟩)))
      go_ret
      exact⟨rfl,by first | exact B3 | exact B2 | exact B1⟩
    cases c5
    · go_wp2_with (first
       | (go_at_call 72;have b6:=B2;clear b6;(with_reducible refine (HO2.out _).mono ?_);rintro _ w3 ⟨rfl,hb⟩;have R3:=row_below hb R2 (by rw[dat_size];decide);have n18:=cell_row R3 18 _ (dat_18 e);have n19:=cell_row R3 19 _ (dat_19 e);have B3:=bt B2 hb;clear hb)
       | (go_at_call 72;(with_reducible refine (HO1.out _).mono ?_);rintro _ w2 ⟨rfl,hb⟩;have R2:=row_below hb R1 (by rw[dat_size];decide);have n17:=cell_row R2 17 _ (dat_17 e);have B2:=bt B1 hb;clear hb)
       | (go_at_call 70;first | ((with_reducible refine (HD1.out _).mono ?_);rintro _ w4 ⟨rfl,rfl⟩) | ((with_reducible refine (HD2.out _).mono ?_);rintro _ w5 ⟨rfl,rfl⟩)))
      go_ret
      exact⟨rfl,by first | exact B3 | exact B2 | exact B1⟩
    cases c6
    · go_wp2_with (first
       | (go_at_call 72;have b6:=B2;clear b6;(with_reducible refine (HO2.out _).mono ?_);rintro _ w3 ⟨rfl,hb⟩;have R3:=row_below hb R2 (by rw[dat_size];decide);have n18:=cell_row R3 18 _ (dat_18 e);have n19:=cell_row R3 19 _ (dat_19 e);have B3:=bt B2 hb;clear hb)
       | (go_at_call 72;(with_reducible refine (HO1.out _).mono ?_);rintro _ w2 ⟨rfl,hb⟩;have R2:=row_below hb R1 (by rw[dat_size];decide);have n17:=cell_row R2 17 _ (dat_17 e);have B2:=bt B1 hb;clear hb)
       | (go_at_call 70;first | ((with_reducible refine (HD1.out _).mono ?_);rintro _ w4 ⟨rfl,rfl⟩) | ((with_reducible refine (HD2.out _).mono ?_);rintro _ w5 ⟨rfl,rfl⟩)))
      go_ret
      exact⟨rfl,by first | exact B3 | exact B2 | exact B1⟩
    cases c7
    · go_wp2_with (first
       | (go_at_call 72;have b6:=B2;clear b6;(with_reducible refine (HO2.out _).mono ?_);rintro _ w3 ⟨rfl,hb⟩;have R3:=row_below hb R2 (by rw[dat_size];decide);have n18:=cell_row R3 18 _ (dat_18 e);have n19:=cell_row R3 19 _ (dat_19 e);have B3:=bt B2 hb;clear hb)
       | (go_at_call 72;(with_reducible refine (HO1.out _).mono ?_);rintro _ w2 ⟨rfl,hb⟩;have R2:=row_below hb R1 (by rw[dat_size];decide);have n17:=cell_row R2 17 _ (dat_17 e);have B2:=bt B1 hb;clear hb)
       | (go_at_call 70;first | ((with_reducible refine (HD1.out _).mono ?_);rintro _ w4 ⟨rfl,rfl⟩) | ((with_reducible refine (HD2.out _).mono ?_);rintro _ w5 ⟨rfl,rfl⟩)))
      go_ret
      exact⟨rfl,by first | exact B3 | exact B2 | exact B1⟩
    cases c8
    · go_wp2_with (first
       | (go_at_call 72;have b6:=B2;clear b6;(with_reducible refine (HO2.out _).mono ?_);rintro _ w3 ⟨rfl,hb⟩;have R3:=row_below hb R2 (by rw[dat_size];decide);have n18:=cell_row R3 18 _ (dat_18 e);have n19:=cell_row R3 19 _ (dat_19 e);have B3:=bt B2 hb;clear hb)
       | (go_at_call 72;(with_reducible refine (HO1.out _).mono ?_);rintro _ w2 ⟨rfl,hb⟩;have R2:=row_below hb R1 (by rw[dat_size];decide);have n17:=cell_row R2 17 _ (dat_17 e);have B2:=bt B1 hb;clear hb)
       | (go_at_call 70;first | ((with_reducible refine (HD1.out _).mono ?_);rintro _ w4 ⟨rfl,rfl⟩) | ((with_reducible refine (HD2.out _).mono ?_);rintro _ w5 ⟨rfl,rfl⟩)))
      go_ret
      exact⟨rfl,by first | exact B3 | exact B2 | exact B1⟩
    go_wp2_with (first
     | (go_at_call 72;have b6:=B2;clear b6;(with_reducible refine (HO2.out _).mono ?_);rintro _ w3 ⟨rfl,hb⟩;have R3:=row_below hb R2 (by rw[dat_size];decide);have n18:=cell_row R3 18 _ (dat_18 e);have n19:=cell_row R3 19 _ (dat_19 e);have B3:=bt B2 hb;clear hb)
     | (go_at_call 72;(with_reducible refine (HO1.out _).mono ?_);rintro _ w2 ⟨rfl,hb⟩;have R2:=row_below hb R1 (by rw[dat_size];decide);have n17:=cell_row R2 17 _ (dat_17 e);have B2:=bt B1 hb;clear hb)
     | (go_at_call 70;first | ((with_reducible refine (HD1.out _).mono ?_);rintro _ w4 ⟨rfl,rfl⟩) | ((with_reducible refine (HD2.out _).mono ?_);rintro _ w5 ⟨rfl,rfl⟩)))
    go_ret
    exact⟨rfl,B3⟩
theorem ralts (v:Value) (l:List Int) (w:World) (h:IS w v l):Calls Tryz.prog 69 #[v] w fun r w'=>r=.returned (.bool (Vp.alts l&&decide (l.length≤4)))∧Below w.heap.size w w':=by
 obtain⟨av,cv,rfl,hz,hc⟩:=id h
 have HC:=Lib.hid hc
 have hbad:=alts_bad l
 have hall:=alts_all l
 have hval:=altAt_val l
 have HBAD:=Lib.hid hbad
 have HALL:=Lib.hid hall
 have HVAL:=Lib.hid hval
 clear hc h hbad hall hval
 generalize hca:Vp.alts l=ca at HBAD HALL ⊢
 clear hca
 go_enter Tryz.func69,Tryz.ntmps69
 go_wp2_with fail
 go_loopw [3] (fun i wr=>∃ k:Nat,k≤l.length∧i=.int .i64 k∧(∀ j,j<k→Vp.altAt l j=true)∧Below w.heap.size w wr) (fun i _=>l.length - (intOf i).toNat)
 case atStart=>exact⟨0,by omega,rfl,fun j h=>absurd h (by omega),Below.refl _ _⟩
 case round =>
  obtain⟨k,hk,rfl,hok,B1⟩:=hrel
  have HOK:=Lib.hid hok
  clear hok
  by_cases hlt:k<l.length
  · obtain⟨b,o,rfl,hb,hcell⟩:=HC.out (by omega)
    have c0:=(B1.cell (p:=⟨b,o+k,none⟩) hb).trans (hcell k hlt)
    have hv:=HVAL.out k hlt l[k] rfl
    have HCELL:=Lib.hid hcell
    have hprev:∀ i,k=i+1→∃ m,l.getD (k - 1) 0=m∧wr.cell? ⟨b,o+i,none⟩=some (.int .i64 m):=fun i hi=>⟨_,rfl,by
     subst hi
     rw[(B1.cell (p:=⟨b,o+i,none⟩) hb).trans (HCELL.out i (by omega))]
     simp [show i<l.length by omega]⟩
    have HPREV:=Lib.hid hprev
    clear hprev hcell
    generalize l[k]=x at c0 hv
    cases g0:decide (x<1)
    rotate_left 1
    · have q:ca=false:=HBAD.out k hlt (by rw[hv,decide_eq_false (by have:=of_decide_eq_true g0;omega)];simp)
      subst q
      clear hv HBAD HALL HVAL HOK HPREV HCELL
      go_upto_region 4 with fail
      go_quiet (fail)
      go_wp2_with fail
      go_ret
      exact⟨rfl,below_drewN B1 _⟩
    cases g1:decide (1099511627776<x)
    rotate_left 1
    · have q:ca=false:=HBAD.out k hlt (by rw[hv,decide_eq_false (p:=x≤_) (by have:=of_decide_eq_true g1;omega)];simp)
      subst q
      clear hv HBAD HALL HVAL HOK HPREV HCELL
      go_upto_region 4 with fail
      go_quiet (fail)
      go_wp2_with fail
      go_ret
      exact⟨rfl,below_drewN B1 _⟩
    have hv2:Vp.altAt l k=(decide (k=0) || decide (l.getD (k - 1) 0<x)):=by
     rw[hv,decide_eq_true (p:=1≤x) (by have:=of_decide_eq_false g0;omega),decide_eq_true (p:=x≤_) (by have:=of_decide_eq_false g1;omega),Bool.true_and,Bool.true_and]
    clear hv HVAL
    cases k with
    | zero =>
      simp only[Nat.add_zero] at c0
      have HK:Hid (∀ j,j<0+1→Vp.altAt l j=true):=Lib.hid (fun j hj=>by
       obtain rfl:j=0:=by omega
       rw[hv2];rfl)
      clear hv2 HBAD HALL HOK HPREV HCELL
      go_upto_region 4 with fail
      go_quiet (fail)
      go_wp2_with fail
      go_roundw
      case rel=>exact⟨0+1,by omega,by go_num,HK.out,below_drewN B1 _⟩
      case measure=>simp [intOf];omega
    | succ i =>
      obtain⟨m,hm,cm⟩:=HPREV.out i rfl
      rw[hm] at hv2
      have e1:IntKind.i64.wrap (((i+1:Nat):Int) - 1)=(i:Int):=by rw[IntKind.wrap_i64];omega
      cases g2:decide (x≤m)
      rotate_left 1
      · have q:ca=false:=HBAD.out (i+1) hlt (by rw[hv2,decide_eq_false (p:=m<x) (by have:=of_decide_eq_true g2;omega)];simp)
        subst q
        clear hv2 HBAD HALL HOK HPREV HCELL
        go_upto_region 4 with fail
        go_quiet (fail)
        go_wp2_with fail
        go_ret
        exact⟨rfl,below_drewN B1 _⟩
      · have HK:Hid (∀ j,j<i+1+1→Vp.altAt l j=true):=Lib.hid (fun j hj=>by
         rcases Nat.lt_or_ge j (i+1) with q | q
         · exact HOK.out j q
         · obtain rfl:j=i+1:=by omega
           rw[hv2,decide_eq_true (p:=m<x) (by have:=of_decide_eq_false g2;omega)];simp)
        clear hv2 HBAD HALL HOK HPREV HCELL
        go_upto_region 4 with fail
        go_quiet (fail)
        go_wp2_with fail
        go_roundw
        case rel=>exact⟨i+1+1,by omega,by go_num,HK.out,below_drewN B1 _⟩
        case measure=>simp [intOf];omega
  · obtain rfl:k=l.length:=by omega
    obtain rfl:ca=true:=HALL.out HOK.out
    have e1:decide ((l.length:Int)≤4)=decide (l.length≤4):=by rw[Bool.eq_iff_iff,decide_eq_true_eq,decide_eq_true_eq];omega
    go_wp2_with fail
    go_ret
    exact⟨by first | rfl | (rw[Bool.true_and]) | (rw[Bool.true_and,← e1]),B1⟩
end Go.Proofs.YtpldecfgjpmmkaaGreatDoor
end
section
/- Contract of the reference of chapter 33: Valid at a data set. -/
namespace Go.Proofs.YtpldecfgjpmmkaaGreatDoor
open Go.RowKit
set_option maxHeartbeats 8000000
set_option maxRecDepth 8000
attribute [local go_sem ↓] ldEnt stEnt stEntRow ldDat
attribute [local go_sem] Held_drew isHead_mk headOf_mk cellsOfV_mk isAggV_mk isDat_mk row_new row_new2 row_new2' row_drew row_drewN vals_size vals_dat dat_size allOne_nil allOne_cons one_int one_bool one_string one_pointer one_slice vals_0 vals_1 vals_23 vals_24
theorem rvalid0 (e:En) (c2:Bool) (a:Option Addr) (n c:Nat) (gr:Value) (b:Bool) (w:World) (hk:e.kind=0) (hg:∀ W,Below w.heap.size w W→Calls Tryz.prog 69 #[.slice a n c] W fun r w'=>r=.returned (.bool c2)∧Below W.heap.size W w') (hsz:e.name.size≤60)
  (hs:∀ W,Below w.heap.size w W→Calls Tryz.prog 65 #[.agg (e.vals (.slice a n c) gr),.agg ((onlyD e).vals (.slice a n c) (.slice none 0 0))] W fun r w'=>r=.returned (.bool b)∧Below W.heap.size W w') :
  Calls Tryz.prog 35 #[.agg (e.vals (.slice a n c) gr)] w fun r w'=>r=.returned (.bool (b&&(Ds.name (Ds.bl e.name)&&(setR e&&(c2&&Cal.isDay e.used)))))∧Below w.heap.size w w':=by
 have hu:=fun W=>used0 e a n c gr W hk
 have k0:(e.kind==0)=true:=by rw[hk];rfl
 have HU:=Lib.hid hu
 have HS:=Lib.hid hs
 clear hk hu hs
 have B0:∀ t,Below w.heap.size w (w.alloc (.cells (e.vals (.slice a n c) gr) t)).drew:=fun t=>by exact belA
 have R0:∀ t,row (w.alloc (.cells (e.vals (.slice a n c) gr) t)).drew w.heap.size=e.vals (.slice a n c) gr:=fun t=>by rw[row_drew];exact row_new w _ t _
 cases b
 · rw[Bool.false_and]
   go_enter Tryz.func35,Tryz.ntmps35
   go_wp2_with fail
   go_region_held3 (fun w'=>row w' w.heap.size=e.vals (.slice a n c) gr∧Below w.heap.size w w') (first | exact⟨R0 _,B0 _⟩ | exact keep1 hb (by assumption) (by simp [vals_size])) (first | (go_at_call 66;(with_reducible refine (HU.out _).mono ?_);rintro e w2 ⟨rfl,hb⟩) | (go_at_call 65;(with_reducible refine (HS.out _ (by assumption:row _ _=_∧Below _ _ _).2).mono ?_);rintro e w3 ⟨rfl,hb⟩))
   all_goals
    go_wp2_with fail
    go_ret
    exact⟨rfl,(by assumption:row _ _=_∧Below _ _ _).2⟩
 · rw[Bool.true_and]
   have hn:=fun W=>rds_Valid e.name W
   have hsp:=fun W=>rds_split e.name W hsz
   have hs:=fun W=>rset e W
   have hd:=fun W=>refIsDay e.used W
   generalize Ds.name (Ds.bl e.name)=c0 at hn ⊢
   generalize setR e=c1 at hs ⊢
   generalize Cal.isDay e.used=c3 at hd ⊢
   have HN:=Lib.hid hn
   have HSP:=Lib.hid hsp
   have HST:=Lib.hid hs
   have HG:=Lib.hid hg
   have HD:=Lib.hid hd
   clear hn hsp hs hg hd
   go_enter Tryz.func35,Tryz.ntmps35
   go_wp2_with fail
   go_region_held3 (fun w'=>row w' w.heap.size=e.vals (.slice a n c) gr∧Below w.heap.size w w') (first | exact⟨R0 _,B0 _⟩ | exact keep1 hb (by assumption) (by simp [vals_size])) (first | (go_at_call 66;(with_reducible refine (HU.out _).mono ?_);rintro e w2 ⟨rfl,hb⟩) | (go_at_call 65;(with_reducible refine (HS.out _ (by assumption:row _ _=_∧Below _ _ _).2).mono ?_);rintro e w3 ⟨rfl,hb⟩))
   all_goals
    obtain⟨R,B⟩:=(by assumption:row _ _=_∧Below _ _ _)
    have n0:=cell_row R 0 _ (vals_0 e (.slice a n c) gr)
    have n1:=cell_row R 1 _ (vals_1 e (.slice a n c) gr)
    go_upto_region 7 with (first
     | (go_at_call 67;(with_reducible refine (HN.out _).mono ?_);rintro _ w5 ⟨rfl,hb⟩;have R:=row_below hb R (by simp [vals_size]);have n0:=cell_row R 0 _ (vals_0 e (.slice a n c) gr);have n1:=cell_row R 1 _ (vals_1 e (.slice a n c) gr);have B:=bt B hb;clear hb)
     | (go_at_call 39;(with_reducible refine (HSP.out _).mono ?_);rintro _ w6 ⟨rfl,hb⟩;have R:=row_below hb R (by simp [vals_size]);have n0:=cell_row R 0 _ (vals_0 e (.slice a n c) gr);have n1:=cell_row R 1 _ (vals_1 e (.slice a n c) gr);have B:=bt B hb;clear hb))
    have v23:=cell_row R 23 _ (vals_23 e (.slice a n c) gr)
    have v24:=cell_row R 24 _ (vals_24 e (.slice a n c) gr)
    have hrs:(row w6 w.heap.size).size=33:=by rw[R];exact vals_size _ _ _
    cases c0
    · go_wp2_with fail
      go_ret
      exact⟨rfl,B⟩
    cases c1
    · go_wp2_with (go_at_call 68;(with_reducible refine (HST.out _).mono ?_);rintro _ w7 ⟨rfl,hb⟩;have B:=bt B hb;clear hb)
      go_ret
      exact⟨rfl,B⟩
    cases c2
    · go_wp2_with (first | (go_at_call 68;(with_reducible refine (HST.out _).mono ?_);rintro _ w7 ⟨rfl,hb⟩;have R:=row_below hb R (by simp [vals_size]);have v23:=cell_row R 23 _ (vals_23 e (.slice a n c) gr);have v24:=cell_row R 24 _ (vals_24 e (.slice a n c) gr);have B:=bt B hb;clear hb) | (go_at_call 69;(with_reducible refine (HG.out _ B).mono ?_);rintro _ w8 ⟨rfl,hb⟩;have B:=bt B hb;clear hb))
      go_ret
      exact⟨rfl,B⟩
    · go_wp2_with (first | (go_at_call 68;(with_reducible refine (HST.out _).mono ?_);rintro _ w7 ⟨rfl,hb⟩;have R:=row_below hb R (by simp [vals_size]);have v23:=cell_row R 23 _ (vals_23 e (.slice a n c) gr);have v24:=cell_row R 24 _ (vals_24 e (.slice a n c) gr);have B:=bt B hb;clear hb) | (go_at_call 69;(with_reducible refine (HG.out _ B).mono ?_);rintro _ w8 ⟨rfl,hb⟩;have R:=row_below hb R (by simp [vals_size]);have v24:=cell_row R 24 _ (vals_24 e (.slice a n c) gr);have B:=bt B hb;clear hb) | (go_at_call 70;(with_reducible refine (HD.out _).mono ?_);rintro _ w9 ⟨rfl,rfl⟩))
      go_ret
      exact⟨rfl,B⟩
theorem setR_dat (e:En) (l:List Int):(setR e&&((Vp.alts l&&decide (l.length≤4))&&Cal.isDay e.used))=Vp.dat e l:=by
 unfold setR Vp.dat Vp.rng Vp.days numD inR
 simp only[List.all_cons,List.all_nil,Bool.and_true]
 generalize Vp.alts l=q0
 generalize Vp.own (Ds.bl e.vol)=q1
 generalize Vp.own (Ds.bl e.own)=q2
 generalize Cal.isDay e.cr=q3
 generalize Cal.isDay e.ex=q4
 generalize Cal.isDay e.used=q5
 rw[Bool.eq_iff_iff]
 simp only[Bool.and_eq_true,decide_eq_true_eq]
 constructor
 · intro h
   refine⟨h.2.1.1,⟨?_,?_,?_,?_,?_,?_,?_,?_,?_,?_,?_⟩,?_,?_,?_,?_,?_,?_,⟨?_,?_,?_⟩,?_⟩ <;> first | exact h.2.2 | exact h.2.1.2 | (obtain⟨⟨⟨_,_,_,_,_,_,_,_,_,_,_,_,_,_⟩,_,_,_,_,_,_,_,_,_⟩,⟨_,_⟩,_⟩:=h;first | assumption | omega)
 · intro h
   obtain⟨h0,⟨_,_,_,_,_,_,_,_,_,_,_⟩,_,_,_,_,_,_,⟨_,_,_⟩,_⟩:=h
   refine⟨⟨⟨?_,?_,?_,?_,?_,?_,?_,?_,?_,?_,?_,?_,?_,?_⟩,?_,?_,?_,?_,?_,?_,?_,?_,?_⟩,⟨?_,?_⟩,?_⟩ <;> first | assumption | omega
end Go.Proofs.YtpldecfgjpmmkaaGreatDoor
end
section
/- Contracts of the reference of chapter 33: Valid at whatever entry; Body at kinds 1, 2, 3. -/
namespace Go.Proofs.YtpldecfgjpmmkaaGreatDoor
open Go.RowKit
set_option maxHeartbeats 8000000
set_option maxRecDepth 8000
theorem rva_any (x:Fu) (al gr:Value) (w:World) (hsz:x.1.name.size≤60) (h1:IS w al x.2.1) (h2:GS w gr x.2.2) :
  Calls Tryz.prog 35 #[.agg (x.1.vals al gr)] w fun r w'=>r=.returned (.bool (okX x))∧Below w.heap.size w w':=by
 obtain⟨e,l,g⟩:=x
 simp only at hsz h1 h2 ⊢
 obtain⟨a,c,rfl,hz,-⟩:=id h1
 obtain⟨a2,c2,rfl,hz2,-⟩:=id h2
 have hN:∀ f:En,∀ W,Below w.heap.size w W→Calls Tryz.prog 65 #[.agg (e.vals (.slice a l.length c) (.slice a2 g.length c2)),.agg (f.vals (.slice none 0 0) (.slice none 0 0))] W fun r w'=>r=.returned (.bool (sameE f e [] l [] g))∧Below W.heap.size W w':=fun f W B=>by
  have:=rsame e f (.slice a l.length c) (.slice a2 g.length c2) (.slice none 0 0) (.slice none 0 0) l [] g [] W (h1.below B) (IS.nil W) (h2.below B) (GS.nil W)
  rw[sameE_comm] at this
  exact this
 unfold okX
 simp only
 split
 · rename_i hk
   have hs:=fun W (B:Below w.heap.size w W)=>rsame e (onlyD e) (.slice a l.length c) (.slice a2 g.length c2) (.slice a l.length c) (.slice none 0 0) l l g [] W (h1.below B) (h1.below B) (h2.below B) (GS.nil W)
   refine (rvalid0 e _ a l.length c (.slice a2 g.length c2) _ w hk (fun W B=>ralts (.slice a l.length c) l W (h1.below B)) hsz hs).mono ?_
   rintro r w' ⟨rfl,hb⟩
   refine⟨ret_bool ?_,hb⟩
   unfold okD
   rw[← setR_dat,sameE_comm (onlyD e) e]
   generalize (setR e&&((Vp.alts l&&decide (l.length≤4))&&Cal.isDay e.used))=q0
   generalize Ds.name (Ds.bl e.name)=q1
   generalize sameE e (onlyD e) l l g []=q2
   cases q0 <;> cases q1 <;> cases q2 <;> rfl
 split
 · rename_i hk
   exact rvalid1 e _ _ l g w hk h1 h2 hsz
 split
 · rename_i hk
   refine (rvalid2 e _ _ _ w hk hsz (hN (onlyA e))).mono ?_
   rintro r w' ⟨rfl,hb⟩
   refine⟨ret_bool ?_,hb⟩
   unfold okA
   generalize Vp.nameA (Ds.bl e.name)=q0
   generalize Vp.ali e=q1
   generalize sameE (onlyA e) e [] l [] g=q2
   cases q0 <;> cases q1 <;> cases q2 <;> rfl
 split
 · rename_i hk
   refine (rvalid3 e _ _ _ w hk hsz (hN (onlyC e))).mono ?_
   rintro r w' ⟨rfl,hb⟩
   refine⟨ret_bool ?_,hb⟩
   unfold okC
   generalize Vp.nameC (Ds.bl e.name)=q0
   generalize Vp.cat e=q1
   generalize sameE (onlyC e) e [] l [] g=q2
   cases q0 <;> cases q1 <;> cases q2 <;> rfl
 split
 · rename_i hk
   have hs:=fun W (B:Below w.heap.size w W)=>rsame e (onlyP e) (.slice a l.length c) (.slice a2 g.length c2) (.slice none 0 0) (.slice a2 g.length c2) l [] g g W (h1.below B) (IS.nil W) (h2.below B) (h2.below B)
   refine (rvalid4 e _ a2 g.length c2 g _ w hk h2 hsz hs).mono ?_
   rintro r w' ⟨rfl,hb⟩
   refine⟨ret_bool ?_,hb⟩
   unfold okP profR Vp.prof
   rw[sameE_comm (onlyP e) e]
   generalize Ds.pat (Ds.bl e.name)=q0
   generalize Vp.rng 0 3 [e.lev]=q1
   generalize Vp.own (Ds.bl e.owner)=q2
   generalize Vp.grs g=q3
   generalize decide (g.length≤8)=q4
   generalize sameE e (onlyP e) l [] g g=q5
   cases q0 <;> cases q1 <;> cases q2 <;> cases q3 <;> cases q4 <;> cases q5 <;> rfl
 · refine (rvalidN e _ _ _ w (by omega) hsz (hN (onlyN e))).mono ?_
   rintro r w' ⟨rfl,hb⟩
   exact⟨ret_bool (Bool.and_false _),hb⟩
end Go.Proofs.YtpldecfgjpmmkaaGreatDoor
end
