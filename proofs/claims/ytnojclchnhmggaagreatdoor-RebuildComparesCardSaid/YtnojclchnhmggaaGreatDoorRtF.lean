/- Contracts of the reference of chapter 33: Body and Encode at whatever entry. -/
import Derived.Test.YtnojclchnhmggaaGreatDoorRuC
import Derived.Test.YtnojclchnhmggaaGreatDoorCalE
import Derived.BigQuiet
import Derived.Test.YtnojclchnhmggaaGreatDoorRnC
import Derived.Test.YtnojclchnhmggaaGreatDoorEc
import Derived.Test.YtnojclchnhmggaaGreatDoorAcA
namespace Go.Proofs.YtnojclchnhmggaaGreatDoor
open Go.RowKit
set_option maxRecDepth 8000
section
set_option maxHeartbeats 8000000
set_option linter.unusedSimpArgs false
theorem is_new (W:World) (l:List Int) (t:TypeId) (h:l.length<=1000000):IS (W.alloc (.cells (l.map (Value.int .i64)).toArray t)) (.slice (some ⟨W.heap.size,0,none⟩) l.length l.length) l :=
 ⟨_,l.length,rfl,h,fun _=>⟨W.heap.size,0,rfl,by simp,fun k hk=>by
  rw[cell_of_row _ W.heap.size (0+k) _ t (0,0) (heap_alloc_new W _)]
  simp [hk]⟩⟩
theorem ldDatH (ev:Operand->Value) (w:World) (dst x t pos af gd) (h1:isHead (ev x)=true) (h2:(row w (headOf (ev x))).size=21) :
  (execOp ev ⟨dst,.load 24 x,t,pos,af,gd⟩).run Tryz.prog w=.ok (.value (.agg (row w (headOf (ev x))))) w :=
 exec_load_row ev w _ 20 _ Tryz.underlying24 rfl (by kernel_rfl) dst x t pos af gd h1 h2
attribute [local go_sem ↓] ldEnt stEnt stEntRow ldDat stDat ldDatH
attribute [local go_sem] Held_drew isHead_mk headOf_mk cellsOfV_mk isAggV_mk isDat_mk row_new row_new2 row_new2' row_drew row_drewN vals_size vals_dat dat_size allOne_nil allOne_cons one_int one_bool one_string one_pointer one_slice vals_0 vals_1 vals_23 vals_24
theorem rnums (e:En) (w:World):Calls Tryz.prog 198 #[.agg e.dat] w fun r w'=>∃ v,r=.returned v∧IS w' v (numD e)∧Below w.heap.size w w':=by
 have R:=row_new w e.dat 24 (0,0)
 have n0:=cell_row R 0 _ (dat_0 e)
 have n1:=cell_row R 1 _ (dat_1 e)
 have n2:=cell_row R 2 _ (dat_2 e)
 have n3:=cell_row R 3 _ (dat_3 e)
 have n4:=cell_row R 4 _ (dat_4 e)
 have n5:=cell_row R 5 _ (dat_5 e)
 have n6:=cell_row R 6 _ (dat_6 e)
 have n7:=cell_row R 7 _ (dat_7 e)
 have n8:=cell_row R 8 _ (dat_8 e)
 have n9:=cell_row R 9 _ (dat_9 e)
 have n10:=cell_row R 10 _ (dat_10 e)
 have n11:=cell_row R 11 _ (dat_11 e)
 have n12:=cell_row R 12 _ (dat_12 e)
 have n13:=cell_row R 13 _ (dat_13 e)
 have hi:IS ((w.alloc (.cells e.dat 24)).alloc (.cells #[Value.int .i64 e.d0,Value.int .i64 e.d1,Value.int .i64 e.d2,Value.int .i64 e.d3,Value.int .i64 e.d4,Value.int .i64 e.d5,Value.int .i64 e.d6,Value.int .i64 e.d7,Value.int .i64 e.d8,Value.int .i64 e.d9,Value.int .i64 e.d10,Value.int .i64 e.d11,Value.int .i64 e.d12,Value.int .i64 e.d13] 3)) (.slice (some ⟨w.heap.size+1,0,none⟩) 14 14) (numD e):=by
  have:=is_new (w.alloc (.cells e.dat 24)) (numD e) 3 (Nat.le_of_ble_eq_true rfl)
  simpa [numD] using this
 have HI:=Lib.hid hi
 clear hi R
 go_enter Tryz.func198,Tryz.ntmps198
 go_wp2_with fail
 go_ret
 exact⟨_,rfl,HI.out,by exact belA⟩
def inR (n:Int):Bool:=decide (0<=n)&&decide (n<=1099511627776)
theorem rstored (n:Int) (w:World):Calls Tryz.prog 199 #[.int .i64 n] w fun r w'=>r=.returned (.bool (inR n))∧w=w':=by
 unfold inR
 generalize h0:decide (0<=n)=c0
 generalize h1:decide (n<=1099511627776)=c1
 cases c0
 · go_enter Tryz.func199,Tryz.ntmps199
   go_wp2_with fail
   go_ret
   exact⟨rfl,rfl⟩
 · go_enter Tryz.func199,Tryz.ntmps199
   go_wp2_with fail
   go_ret
   exact⟨rfl,rfl⟩
def setR (e:En):Bool:=(numD e).all inR&&(decide (1<=e.d0)&&(decide (e.d1<=3)&&(decide (e.d2<=2)&&(decide (0<=e.cls)&&(decide (e.cls<=3)&&(Vp.own (Ds.bl e.vol)&&(Vp.own (Ds.bl e.own)&&(Cal.isDay e.cr&&Cal.isDay e.ex))))))))
theorem rset (e:En) (w:World):Calls Tryz.prog 110 #[.agg e.dat] w fun r w'=>r=.returned (.bool (setR e))∧Below w.heap.size w w':=by
 have R0:=row_new w e.dat 24 (0,0)
 have hd1:=dat_one e
 have hn:=fun W=>rnums e W
 have HN:=Lib.hid hn
 have hall:∀ k,(∀ j (h:j<(numD e).length),j<k->inR (numD e)[j]=true)->k=(numD e).length->(numD e).all inR=true:=fun k h hk=>by
  rw[List.all_eq_true]
  intro n hn
  obtain⟨j,hj,rfl⟩:=List.getElem_of_mem hn
  exact h j hj (by omega)
 have hno:∀ j (h:j<(numD e).length),inR (numD e)[j]=false->(numD e).all inR=false:=fun j h hf=>by
  rw[Bool.eq_false_iff];intro ha
  rw[List.all_eq_true] at ha
  rw[ha _ (List.getElem_mem h)] at hf;cases hf
 have HALL:=Lib.hid hall
 have HNO:=Lib.hid hno
 clear hn hall hno
 unfold setR
 generalize hns:numD e=ns at HN HALL HNO ⊢
 clear hns
 generalize hca:ns.all inR=ca at HALL HNO ⊢
 clear hca
 have hO1:=fun W=>rowner e.vol W
 have hO2:=fun W=>rowner e.own W
 have hD1:=fun W=>refIsDay e.cr W
 have hD2:=fun W=>refIsDay e.ex W
 generalize h0:decide (1<=e.d0)=c0
 generalize h1:decide (e.d1<=3)=c1
 generalize h2:decide (e.d2<=2)=c2
 generalize h3:decide (0<=e.cls)=c3
 generalize h4:decide (e.cls<=3)=c4
 generalize Vp.own (Ds.bl e.vol)=c5 at hO1 ⊢
 generalize Vp.own (Ds.bl e.own)=c6 at hO2 ⊢
 generalize Cal.isDay e.cr=c7 at hD1 ⊢
 generalize Cal.isDay e.ex=c8 at hD2 ⊢
 have HO1:=Lib.hid hO1
 have HO2:=Lib.hid hO2
 have HD1:=Lib.hid hD1
 have HD2:=Lib.hid hD2
 clear hO1 hO2 hD1 hD2
 go_enter Tryz.func110,Tryz.ntmps110
 go_wp2_with (go_at_call 198;(with_reducible refine (HN.out _).mono ?_);rintro _ w1 ⟨v,rfl,hI,hb⟩;have HI:=Lib.hid hI;have R1:=row_below hb R0 (by rw[dat_size];decide);have B1:=below1 hb;clear hb hI)
 obtain⟨av,cv,rfl,hz,hc⟩:=HI.out
 have HC:=Lib.hid hc
 clear hc HN R0
 go_loopw [4] (fun i wr=>∃ k:Nat,k<=ns.length∧i=.int .i64 k∧(∀ j (h:j<ns.length),j<k->inR ns[j]=true)∧row wr w.heap.size=e.dat∧Below w.heap.size w wr∧wr=w1) (fun i _=>ns.length - (intOf i).toNat)
 case atStart=>exact⟨0,by omega,rfl,fun j _ h=>absurd h (by omega),R1,B1,rfl⟩
 case round =>
  clear R1 B1
  obtain⟨k,hk,rfl,hok,R1,B1,rfl⟩:=hrel
  have HOK:=Lib.hid hok
  clear hok
  by_cases hlt:k<ns.length
  · obtain⟨b,o,rfl,hb,hcell⟩:=HC.out (by omega)
    have c0:=hcell k (by omega)
    cases hin:inR (ns[k]'(by omega))
    · obtain rfl:=HNO.out k (by omega) hin
      have HS:=Lib.hid (fun W=>by have:=rstored (ns[k]'(by omega)) W;rw[hin] at this;exact this)
      generalize (ns[k]'(by omega))=x at c0 HS
      clear hcell hin
      go_wp2_with (go_at_call 199;(with_reducible refine (HS.out _).mono ?_);rintro _ w2 ⟨rfl,rfl⟩)
      go_ret
      exact⟨rfl,B1⟩
    · have HS:=Lib.hid (fun W=>by have:=rstored (ns[k]'(by omega)) W;rw[hin] at this;exact this)
      have HIN:=Lib.hid hin
      have HK:Hid (∀ j (h:j<ns.length),j<k+1->inR ns[j]=true):=Lib.hid (fun j h hj=>by
       rcases Nat.lt_or_ge j k with q | q
       · exact HOK.out j h q
       · obtain rfl:j=k:=by omega
         exact HIN.out)
      clear hin HIN
      generalize (ns[k]'(by omega))=x at c0 HS
      clear hcell
      go_wp2_with (go_at_call 199;(with_reducible refine (HS.out _).mono ?_);rintro _ w2 ⟨rfl,rfl⟩)
      go_roundw
      case rel =>
       exact⟨k+1,by omega,by go_num,fun j h hj=>HK.out j h hj,R1,B1,trivial⟩
      case measure=>simp [intOf];omega
  · obtain rfl:k=ns.length:=by omega
    obtain rfl:=HALL.out _ HOK.out rfl
    clear HALL HNO HOK HC HI
    have n0:=cell_row R1 0 _ (dat_0 e)
    have n1:=cell_row R1 1 _ (dat_1 e)
    have n2:=cell_row R1 2 _ (dat_2 e)
    have n15:=cell_row R1 15 _ (dat_15 e)
    have n16:=cell_row R1 16 _ (dat_16 e)
    have n17:=cell_row R1 17 _ (dat_17 e)
    have n18:=cell_row R1 18 _ (dat_18 e)
    have n19:=cell_row R1 19 _ (dat_19 e)
    cases c0
    · go_wp2_with (first
       | (go_at_call 114;have b6:=B2;clear b6;(with_reducible refine (HO2.out _).mono ?_);rintro _ w3 ⟨rfl,hb⟩;have R3:=row_below hb R2 (by rw[dat_size];decide);have n18:=cell_row R3 18 _ (dat_18 e);have n19:=cell_row R3 19 _ (dat_19 e);have B3:=bt B2 hb;clear hb)
       | (go_at_call 114;(with_reducible refine (HO1.out _).mono ?_);rintro _ w2 ⟨rfl,hb⟩;have R2:=row_below hb R1 (by rw[dat_size];decide);have n17:=cell_row R2 17 _ (dat_17 e);have B2:=bt B1 hb;clear hb)
       | (go_at_call 112;first | ((with_reducible refine (HD1.out _).mono ?_);rintro _ w4 ⟨rfl,rfl⟩) | ((with_reducible refine (HD2.out _).mono ?_);rintro _ w5 ⟨rfl,rfl⟩)))
      go_ret
      exact⟨rfl,by first | exact B3 | exact B2 | exact B1⟩
    cases c1
    · go_wp2_with (first
       | (go_at_call 114;have b6:=B2;clear b6;(with_reducible refine (HO2.out _).mono ?_);rintro _ w3 ⟨rfl,hb⟩;have R3:=row_below hb R2 (by rw[dat_size];decide);have n18:=cell_row R3 18 _ (dat_18 e);have n19:=cell_row R3 19 _ (dat_19 e);have B3:=bt B2 hb;clear hb)
       | (go_at_call 114;(with_reducible refine (HO1.out _).mono ?_);rintro _ w2 ⟨rfl,hb⟩;have R2:=row_below hb R1 (by rw[dat_size];decide);have n17:=cell_row R2 17 _ (dat_17 e);have B2:=bt B1 hb;clear hb)
       | (go_at_call 112;first | ((with_reducible refine (HD1.out _).mono ?_);rintro _ w4 ⟨rfl,rfl⟩) | ((with_reducible refine (HD2.out _).mono ?_);rintro _ w5 ⟨rfl,rfl⟩)))
      go_ret
      exact⟨rfl,by first | exact B3 | exact B2 | exact B1⟩
    cases c2
    · go_wp2_with (first
       | (go_at_call 114;have b6:=B2;clear b6;(with_reducible refine (HO2.out _).mono ?_);rintro _ w3 ⟨rfl,hb⟩;have R3:=row_below hb R2 (by rw[dat_size];decide);have n18:=cell_row R3 18 _ (dat_18 e);have n19:=cell_row R3 19 _ (dat_19 e);have B3:=bt B2 hb;clear hb)
       | (go_at_call 114;(with_reducible refine (HO1.out _).mono ?_);rintro _ w2 ⟨rfl,hb⟩;have R2:=row_below hb R1 (by rw[dat_size];decide);have n17:=cell_row R2 17 _ (dat_17 e);have B2:=bt B1 hb;clear hb)
       | (go_at_call 112;first | ((with_reducible refine (HD1.out _).mono ?_);rintro _ w4 ⟨rfl,rfl⟩) | ((with_reducible refine (HD2.out _).mono ?_);rintro _ w5 ⟨rfl,rfl⟩)))
      go_ret
      exact⟨rfl,by first | exact B3 | exact B2 | exact B1⟩
    cases c3
    · go_wp2_with (first
       | (go_at_call 114;have b6:=B2;clear b6;(with_reducible refine (HO2.out _).mono ?_);rintro _ w3 ⟨rfl,hb⟩;have R3:=row_below hb R2 (by rw[dat_size];decide);have n18:=cell_row R3 18 _ (dat_18 e);have n19:=cell_row R3 19 _ (dat_19 e);have B3:=bt B2 hb;clear hb)
       | (go_at_call 114;(with_reducible refine (HO1.out _).mono ?_);rintro _ w2 ⟨rfl,hb⟩;have R2:=row_below hb R1 (by rw[dat_size];decide);have n17:=cell_row R2 17 _ (dat_17 e);have B2:=bt B1 hb;clear hb)
       | (go_at_call 112;first | ((with_reducible refine (HD1.out _).mono ?_);rintro _ w4 ⟨rfl,rfl⟩) | ((with_reducible refine (HD2.out _).mono ?_);rintro _ w5 ⟨rfl,rfl⟩)))
      go_ret
      exact⟨rfl,by first | exact B3 | exact B2 | exact B1⟩
    cases c4
    · go_wp2_with (first
       | (go_at_call 114;have b6:=B2;clear b6;(with_reducible refine (HO2.out _).mono ?_);rintro _ w3 ⟨rfl,hb⟩;have R3:=row_below hb R2 (by rw[dat_size];decide);have n18:=cell_row R3 18 _ (dat_18 e);have n19:=cell_row R3 19 _ (dat_19 e);have B3:=bt B2 hb;clear hb)
       | (go_at_call 114;(with_reducible refine (HO1.out _).mono ?_);rintro _ w2 ⟨rfl,hb⟩;have R2:=row_below hb R1 (by rw[dat_size];decide);have n17:=cell_row R2 17 _ (dat_17 e);have B2:=bt B1 hb;clear hb)
       | (go_at_call 112;first | ((with_reducible refine (HD1.out _).mono ?_);rintro _ w4 ⟨rfl,rfl⟩) | ((with_reducible refine (HD2.out _).mono ?_);rintro _ w5 ⟨rfl,rfl⟩)))
      go_ret
      exact⟨rfl,by first | exact B3 | exact B2 | exact B1⟩
    cases c5
    · go_wp2_with (first
       | (go_at_call 114;have b6:=B2;clear b6;(with_reducible refine (HO2.out _).mono ?_);rintro _ w3 ⟨rfl,hb⟩;have R3:=row_below hb R2 (by rw[dat_size];decide);have n18:=cell_row R3 18 _ (dat_18 e);have n19:=cell_row R3 19 _ (dat_19 e);have B3:=bt B2 hb;clear hb)
       | (go_at_call 114;(with_reducible refine (HO1.out _).mono ?_);rintro _ w2 ⟨rfl,hb⟩;have R2:=row_below hb R1 (by rw[dat_size];decide);have n17:=cell_row R2 17 _ (dat_17 e);have B2:=bt B1 hb;clear hb)
       | (go_at_call 112;first | ((with_reducible refine (HD1.out _).mono ?_);rintro _ w4 ⟨rfl,rfl⟩) | ((with_reducible refine (HD2.out _).mono ?_);rintro _ w5 ⟨rfl,rfl⟩)))
      go_ret
      exact⟨rfl,by first | exact B3 | exact B2 | exact B1⟩
    cases c6
    · go_wp2_with (first
       | (go_at_call 114;have b6:=B2;clear b6;(with_reducible refine (HO2.out _).mono ?_);rintro _ w3 ⟨rfl,hb⟩;have R3:=row_below hb R2 (by rw[dat_size];decide);have n18:=cell_row R3 18 _ (dat_18 e);have n19:=cell_row R3 19 _ (dat_19 e);have B3:=bt B2 hb;clear hb)
       | (go_at_call 114;(with_reducible refine (HO1.out _).mono ?_);rintro _ w2 ⟨rfl,hb⟩;have R2:=row_below hb R1 (by rw[dat_size];decide);have n17:=cell_row R2 17 _ (dat_17 e);have B2:=bt B1 hb;clear hb)
       | (go_at_call 112;first | ((with_reducible refine (HD1.out _).mono ?_);rintro _ w4 ⟨rfl,rfl⟩) | ((with_reducible refine (HD2.out _).mono ?_);rintro _ w5 ⟨rfl,rfl⟩)))
      go_ret
      exact⟨rfl,by first | exact B3 | exact B2 | exact B1⟩
    cases c7
    · go_wp2_with (first
       | (go_at_call 114;have b6:=B2;clear b6;(with_reducible refine (HO2.out _).mono ?_);rintro _ w3 ⟨rfl,hb⟩;have R3:=row_below hb R2 (by rw[dat_size];decide);have n18:=cell_row R3 18 _ (dat_18 e);have n19:=cell_row R3 19 _ (dat_19 e);have B3:=bt B2 hb;clear hb)
       | (go_at_call 114;(with_reducible refine (HO1.out _).mono ?_);rintro _ w2 ⟨rfl,hb⟩;have R2:=row_below hb R1 (by rw[dat_size];decide);have n17:=cell_row R2 17 _ (dat_17 e);have B2:=bt B1 hb;clear hb)
       | (go_at_call 112;first | ((with_reducible refine (HD1.out _).mono ?_);rintro _ w4 ⟨rfl,rfl⟩) | ((with_reducible refine (HD2.out _).mono ?_);rintro _ w5 ⟨rfl,rfl⟩)))
      go_ret
      exact⟨rfl,by first | exact B3 | exact B2 | exact B1⟩
    cases c8
    · go_wp2_with (first
       | (go_at_call 114;have b6:=B2;clear b6;(with_reducible refine (HO2.out _).mono ?_);rintro _ w3 ⟨rfl,hb⟩;have R3:=row_below hb R2 (by rw[dat_size];decide);have n18:=cell_row R3 18 _ (dat_18 e);have n19:=cell_row R3 19 _ (dat_19 e);have B3:=bt B2 hb;clear hb)
       | (go_at_call 114;(with_reducible refine (HO1.out _).mono ?_);rintro _ w2 ⟨rfl,hb⟩;have R2:=row_below hb R1 (by rw[dat_size];decide);have n17:=cell_row R2 17 _ (dat_17 e);have B2:=bt B1 hb;clear hb)
       | (go_at_call 112;first | ((with_reducible refine (HD1.out _).mono ?_);rintro _ w4 ⟨rfl,rfl⟩) | ((with_reducible refine (HD2.out _).mono ?_);rintro _ w5 ⟨rfl,rfl⟩)))
      go_ret
      exact⟨rfl,by first | exact B3 | exact B2 | exact B1⟩
    go_wp2_with (first
     | (go_at_call 114;have b6:=B2;clear b6;(with_reducible refine (HO2.out _).mono ?_);rintro _ w3 ⟨rfl,hb⟩;have R3:=row_below hb R2 (by rw[dat_size];decide);have n18:=cell_row R3 18 _ (dat_18 e);have n19:=cell_row R3 19 _ (dat_19 e);have B3:=bt B2 hb;clear hb)
     | (go_at_call 114;(with_reducible refine (HO1.out _).mono ?_);rintro _ w2 ⟨rfl,hb⟩;have R2:=row_below hb R1 (by rw[dat_size];decide);have n17:=cell_row R2 17 _ (dat_17 e);have B2:=bt B1 hb;clear hb)
     | (go_at_call 112;first | ((with_reducible refine (HD1.out _).mono ?_);rintro _ w4 ⟨rfl,rfl⟩) | ((with_reducible refine (HD2.out _).mono ?_);rintro _ w5 ⟨rfl,rfl⟩)))
    go_ret
    exact⟨rfl,B3⟩
theorem ralts (v:Value) (l:List Int) (w:World) (h:IS w v l):Calls Tryz.prog 111 #[v] w fun r w'=>r=.returned (.bool (Vp.alts l&&decide (l.length<=4)))∧Below w.heap.size w w':=by
 obtain⟨av,cv,rfl,hz,hc⟩:=id h
 have HC:=Lib.hid hc
 have hbad:=alts_bad l
 have hall:=alts_all l
 have hval:=altAt_val l
 have HBAD:=Lib.hid hbad
 have HALL:=Lib.hid hall
 have HVAL:=Lib.hid hval
 clear hc h hbad hall hval
 generalize hca:Vp.alts l=ca at HBAD HALL ⊢
 clear hca
 go_enter Tryz.func111,Tryz.ntmps111
 go_wp2_with fail
 go_loopw [3] (fun i wr=>∃ k:Nat,k<=l.length∧i=.int .i64 k∧(∀ j,j<k->Vp.altAt l j=true)∧Below w.heap.size w wr) (fun i _=>l.length - (intOf i).toNat)
 case atStart=>exact⟨0,by omega,rfl,fun j h=>absurd h (by omega),Below.refl _ _⟩
 case round =>
  obtain⟨k,hk,rfl,hok,B1⟩:=hrel
  have HOK:=Lib.hid hok
  clear hok
  by_cases hlt:k<l.length
  · obtain⟨b,o,rfl,hb,hcell⟩:=HC.out (by omega)
    have c0:=(B1.cell (p:=⟨b,o+k,none⟩) hb).trans (hcell k hlt)
    have hv:=HVAL.out k hlt l[k] rfl
    have HCELL:=Lib.hid hcell
    have hprev:∀ i,k=i+1->∃ m,l.getD (k - 1) 0=m∧wr.cell? ⟨b,o+i,none⟩=some (.int .i64 m):=fun i hi=>⟨_,rfl,by
     subst hi
     rw[(B1.cell (p:=⟨b,o+i,none⟩) hb).trans (HCELL.out i (by omega))]
     simp [show i<l.length by omega]⟩
    have HPREV:=Lib.hid hprev
    clear hprev hcell
    generalize l[k]=x at c0 hv
    cases g0:decide (x<1)
    rotate_left 1
    · have q:ca=false:=HBAD.out k hlt (by rw[hv,decide_eq_false (by have:=of_decide_eq_true g0;omega)];simp)
      subst q
      clear hv HBAD HALL HVAL HOK HPREV HCELL
      go_upto_region 4 with fail
      go_quiet (fail)
      go_wp2_with fail
      go_ret
      exact⟨rfl,below_drewN B1 _⟩
    cases g1:decide (1099511627776<x)
    rotate_left 1
    · have q:ca=false:=HBAD.out k hlt (by rw[hv,decide_eq_false (p:=x<=_) (by have:=of_decide_eq_true g1;omega)];simp)
      subst q
      clear hv HBAD HALL HVAL HOK HPREV HCELL
      go_upto_region 4 with fail
      go_quiet (fail)
      go_wp2_with fail
      go_ret
      exact⟨rfl,below_drewN B1 _⟩
    have hv2:Vp.altAt l k=(decide (k=0) || decide (l.getD (k - 1) 0<x)):=by
     rw[hv,decide_eq_true (p:=1<=x) (by have:=of_decide_eq_false g0;omega),decide_eq_true (p:=x<=_) (by have:=of_decide_eq_false g1;omega),Bool.true_and,Bool.true_and]
    clear hv HVAL
    cases k with
    | zero =>
      simp only[Nat.add_zero] at c0
      have HK:Hid (∀ j,j<0+1->Vp.altAt l j=true):=Lib.hid (fun j hj=>by
       obtain rfl:j=0:=by omega
       rw[hv2];rfl)
      clear hv2 HBAD HALL HOK HPREV HCELL
      go_upto_region 4 with fail
      go_quiet (fail)
      go_wp2_with fail
      go_roundw
      case rel=>exact⟨0+1,by omega,by go_num,HK.out,below_drewN B1 _⟩
      case measure=>simp [intOf];omega
    | succ i =>
      obtain⟨m,hm,cm⟩:=HPREV.out i rfl
      rw[hm] at hv2
      have e1:IntKind.i64.wrap (((i+1:Nat):Int) - 1)=(i:Int):=by rw[IntKind.wrap_i64];omega
      cases g2:decide (x<=m)
      rotate_left 1
      · have q:ca=false:=HBAD.out (i+1) hlt (by rw[hv2,decide_eq_false (p:=m<x) (by have:=of_decide_eq_true g2;omega)];simp)
        subst q
        clear hv2 HBAD HALL HOK HPREV HCELL
        go_upto_region 4 with fail
        go_quiet (fail)
        go_wp2_with fail
        go_ret
        exact⟨rfl,below_drewN B1 _⟩
      · have HK:Hid (∀ j,j<i+1+1->Vp.altAt l j=true):=Lib.hid (fun j hj=>by
         rcases Nat.lt_or_ge j (i+1) with q | q
         · exact HOK.out j q
         · obtain rfl:j=i+1:=by omega
           rw[hv2,decide_eq_true (p:=m<x) (by have:=of_decide_eq_false g2;omega)];simp)
        clear hv2 HBAD HALL HOK HPREV HCELL
        go_upto_region 4 with fail
        go_quiet (fail)
        go_wp2_with fail
        go_roundw
        case rel=>exact⟨i+1+1,by omega,by go_num,HK.out,below_drewN B1 _⟩
        case measure=>simp [intOf];omega
  · obtain rfl:k=l.length:=by omega
    obtain rfl:ca=true:=HALL.out HOK.out
    have e1:decide ((l.length:Int)<=4)=decide (l.length<=4):=by rw[Bool.eq_iff_iff,decide_eq_true_eq,decide_eq_true_eq];omega
    go_wp2_with fail
    go_ret
    exact⟨by first | rfl | (rw[Bool.true_and]) | (rw[Bool.true_and,<-e1]),B1⟩
end
section
set_option maxHeartbeats 8000000
attribute [local go_sem ↓] ldEnt stEnt stEntRow ldDat
attribute [local go_sem] Held_drew isHead_mk headOf_mk cellsOfV_mk isAggV_mk isDat_mk row_new row_new2 row_new2' row_drew row_drewN vals_size vals_dat dat_size allOne_nil allOne_cons one_int one_bool one_string one_pointer one_slice vals_0 vals_1 vals_23 vals_24
theorem rvalid0 (e:En) (c2:Bool) (a:Option Addr) (n c:Nat) (gr:Value) (b:Bool) (w:World) (hk:e.kind=0) (hg:∀ W,Below w.heap.size w W->Calls Tryz.prog 111 #[.slice a n c] W fun r w'=>r=.returned (.bool c2)∧Below W.heap.size W w') (hsz:e.name.size<=60)
  (hs:∀ W,Below w.heap.size w W->Calls Tryz.prog 63 #[.agg (e.vals (.slice a n c) gr),.agg ((onlyD e).vals (.slice a n c) (.slice none 0 0))] W fun r w'=>r=.returned (.bool b)∧Below W.heap.size W w') :
  Calls Tryz.prog 48 #[.agg (e.vals (.slice a n c) gr)] w fun r w'=>r=.returned (.bool (b&&(Ds.name (Ds.bl e.name)&&(setR e&&(c2&&Cal.isDay e.used)))))∧Below w.heap.size w w':=by
 have hu:=fun W=>used0 e a n c gr W hk
 have k0:(e.kind==0)=true:=by rw[hk];rfl
 have HU:=Lib.hid hu
 have HS:=Lib.hid hs
 clear hk hu hs
 have B0:∀ t,Below w.heap.size w (w.alloc (.cells (e.vals (.slice a n c) gr) t)).drew:=fun t=>by exact belA
 have R0:∀ t,row (w.alloc (.cells (e.vals (.slice a n c) gr) t)).drew w.heap.size=e.vals (.slice a n c) gr:=fun t=>by rw[row_drew];exact row_new w _ t _
 cases b
 · rw[Bool.false_and]
   go_enter Tryz.func48,Tryz.ntmps48
   go_wp2_with fail
   go_region_held3 (fun w'=>row w' w.heap.size=e.vals (.slice a n c) gr∧Below w.heap.size w w') (first | exact⟨R0 _,B0 _⟩ | exact keep1 hb (by assumption) (by simp [vals_size])) (first | (go_at_call 108;(with_reducible refine (HU.out _).mono ?_);rintro e w2 ⟨rfl,hb⟩) | (go_at_call 63;(with_reducible refine (HS.out _ (by assumption:row _ _=_∧Below _ _ _).2).mono ?_);rintro e w3 ⟨rfl,hb⟩))
   all_goals
    go_wp2_with fail
    go_ret
    exact⟨rfl,(by assumption:row _ _=_∧Below _ _ _).2⟩
 · rw[Bool.true_and]
   have hn:=fun W=>rds_Valid e.name W
   have hsp:=fun W=>rds_split e.name W hsz
   have hs:=fun W=>rset e W
   have hd:=fun W=>refIsDay e.used W
   generalize Ds.name (Ds.bl e.name)=c0 at hn ⊢
   generalize setR e=c1 at hs ⊢
   generalize Cal.isDay e.used=c3 at hd ⊢
   have HN:=Lib.hid hn
   have HSP:=Lib.hid hsp
   have HST:=Lib.hid hs
   have HG:=Lib.hid hg
   have HD:=Lib.hid hd
   clear hn hsp hs hg hd
   go_enter Tryz.func48,Tryz.ntmps48
   go_wp2_with fail
   go_region_held3 (fun w'=>row w' w.heap.size=e.vals (.slice a n c) gr∧Below w.heap.size w w') (first | exact⟨R0 _,B0 _⟩ | exact keep1 hb (by assumption) (by simp [vals_size])) (first | (go_at_call 108;(with_reducible refine (HU.out _).mono ?_);rintro e w2 ⟨rfl,hb⟩) | (go_at_call 63;(with_reducible refine (HS.out _ (by assumption:row _ _=_∧Below _ _ _).2).mono ?_);rintro e w3 ⟨rfl,hb⟩))
   all_goals
    obtain⟨R,B⟩:=(by assumption:row _ _=_∧Below _ _ _)
    have n0:=cell_row R 0 _ (vals_0 e (.slice a n c) gr)
    have n1:=cell_row R 1 _ (vals_1 e (.slice a n c) gr)
    go_upto_region 7 with (first
     | (go_at_call 98;(with_reducible refine (HN.out _).mono ?_);rintro _ w5 ⟨rfl,hb⟩;have R:=row_below hb R (by simp [vals_size]);have n0:=cell_row R 0 _ (vals_0 e (.slice a n c) gr);have n1:=cell_row R 1 _ (vals_1 e (.slice a n c) gr);have B:=bt B hb;clear hb)
     | (go_at_call 109;(with_reducible refine (HSP.out _).mono ?_);rintro _ w6 ⟨rfl,hb⟩;have R:=row_below hb R (by simp [vals_size]);have n0:=cell_row R 0 _ (vals_0 e (.slice a n c) gr);have n1:=cell_row R 1 _ (vals_1 e (.slice a n c) gr);have B:=bt B hb;clear hb))
    have v23:=cell_row R 23 _ (vals_23 e (.slice a n c) gr)
    have v24:=cell_row R 24 _ (vals_24 e (.slice a n c) gr)
    have hrs:(row w6 w.heap.size).size=33:=by rw[R];exact vals_size _ _ _
    cases c0
    · go_wp2_with fail
      go_ret
      exact⟨rfl,B⟩
    cases c1
    · go_wp2_with (go_at_call 110;(with_reducible refine (HST.out _).mono ?_);rintro _ w7 ⟨rfl,hb⟩;have B:=bt B hb;clear hb)
      go_ret
      exact⟨rfl,B⟩
    cases c2
    · go_wp2_with (first | (go_at_call 110;(with_reducible refine (HST.out _).mono ?_);rintro _ w7 ⟨rfl,hb⟩;have R:=row_below hb R (by simp [vals_size]);have v23:=cell_row R 23 _ (vals_23 e (.slice a n c) gr);have v24:=cell_row R 24 _ (vals_24 e (.slice a n c) gr);have B:=bt B hb;clear hb) | (go_at_call 111;(with_reducible refine (HG.out _ B).mono ?_);rintro _ w8 ⟨rfl,hb⟩;have B:=bt B hb;clear hb))
      go_ret
      exact⟨rfl,B⟩
    · go_wp2_with (first | (go_at_call 110;(with_reducible refine (HST.out _).mono ?_);rintro _ w7 ⟨rfl,hb⟩;have R:=row_below hb R (by simp [vals_size]);have v23:=cell_row R 23 _ (vals_23 e (.slice a n c) gr);have v24:=cell_row R 24 _ (vals_24 e (.slice a n c) gr);have B:=bt B hb;clear hb) | (go_at_call 111;(with_reducible refine (HG.out _ B).mono ?_);rintro _ w8 ⟨rfl,hb⟩;have R:=row_below hb R (by simp [vals_size]);have v24:=cell_row R 24 _ (vals_24 e (.slice a n c) gr);have B:=bt B hb;clear hb) | (go_at_call 112;(with_reducible refine (HD.out _).mono ?_);rintro _ w9 ⟨rfl,rfl⟩))
      go_ret
      exact⟨rfl,B⟩
theorem setR_dat (e:En) (l:List Int):(setR e&&((Vp.alts l&&decide (l.length<=4))&&Cal.isDay e.used))=Vp.dat e l:=by
 unfold setR Vp.dat Vp.rng Vp.days numD inR
 simp only[List.all_cons,List.all_nil,Bool.and_true]
 generalize Vp.alts l=q0
 generalize Vp.own (Ds.bl e.vol)=q1
 generalize Vp.own (Ds.bl e.own)=q2
 generalize Cal.isDay e.cr=q3
 generalize Cal.isDay e.ex=q4
 generalize Cal.isDay e.used=q5
 rw[Bool.eq_iff_iff]
 simp only[Bool.and_eq_true,decide_eq_true_eq]
 constructor
 · intro h
   refine⟨h.2.1.1,⟨?_,?_,?_,?_,?_,?_,?_,?_,?_,?_,?_⟩,?_,?_,?_,?_,?_,?_,⟨?_,?_,?_⟩,?_⟩ <;> first | exact h.2.2 | exact h.2.1.2 | (obtain⟨⟨⟨_,_,_,_,_,_,_,_,_,_,_,_,_,_⟩,_,_,_,_,_,_,_,_,_⟩,⟨_,_⟩,_⟩:=h;first | assumption | omega)
 · intro h
   obtain⟨h0,⟨_,_,_,_,_,_,_,_,_,_,_⟩,_,_,_,_,_,_,⟨_,_,_⟩,_⟩:=h
   refine⟨⟨⟨?_,?_,?_,?_,?_,?_,?_,?_,?_,?_,?_,?_,?_,?_⟩,?_,?_,?_,?_,?_,?_,?_,?_,?_⟩,⟨?_,?_⟩,?_⟩ <;> first | assumption | omega
end
section
set_option maxHeartbeats 8000000
theorem rva_any (x:Fu) (al gr:Value) (w:World) (hsz:x.1.name.size<=60) (h1:IS w al x.2.1) (h2:GS w gr x.2.2) :
  Calls Tryz.prog 48 #[.agg (x.1.vals al gr)] w fun r w'=>r=.returned (.bool (okX x))∧Below w.heap.size w w':=by
 obtain⟨e,l,g⟩:=x
 simp only at hsz h1 h2 ⊢
 obtain⟨a,c,rfl,hz,-⟩:=id h1
 obtain⟨a2,c2,rfl,hz2,-⟩:=id h2
 have hN:∀ f:En,∀ W,Below w.heap.size w W->Calls Tryz.prog 63 #[.agg (e.vals (.slice a l.length c) (.slice a2 g.length c2)),.agg (f.vals (.slice none 0 0) (.slice none 0 0))] W fun r w'=>r=.returned (.bool (sameE f e [] l [] g))∧Below W.heap.size W w':=fun f W B=>by
  have:=rsame e f (.slice a l.length c) (.slice a2 g.length c2) (.slice none 0 0) (.slice none 0 0) l [] g [] W (h1.below B) (IS.nil W) (h2.below B) (GS.nil W)
  rw[sameE_comm] at this
  exact this
 unfold okX
 simp only
 split
 · rename_i hk
   have hs:=fun W (B:Below w.heap.size w W)=>rsame e (onlyD e) (.slice a l.length c) (.slice a2 g.length c2) (.slice a l.length c) (.slice none 0 0) l l g [] W (h1.below B) (h1.below B) (h2.below B) (GS.nil W)
   refine (rvalid0 e _ a l.length c (.slice a2 g.length c2) _ w hk (fun W B=>ralts (.slice a l.length c) l W (h1.below B)) hsz hs).mono ?_
   rintro r w' ⟨rfl,hb⟩
   refine⟨ret_bool ?_,hb⟩
   unfold okD
   rw[<-setR_dat,sameE_comm (onlyD e) e]
   generalize (setR e&&((Vp.alts l&&decide (l.length<=4))&&Cal.isDay e.used))=q0
   generalize Ds.name (Ds.bl e.name)=q1
   generalize sameE e (onlyD e) l l g []=q2
   cases q0 <;> cases q1 <;> cases q2 <;> rfl
 split
 · rename_i hk
   exact rvalid1 e _ _ l g w hk h1 h2 hsz
 split
 · rename_i hk
   refine (rvalid2 e _ _ _ w hk hsz (hN (onlyA e))).mono ?_
   rintro r w' ⟨rfl,hb⟩
   refine⟨ret_bool ?_,hb⟩
   unfold okA
   generalize Vp.nameA (Ds.bl e.name)=q0
   generalize Vp.ali e=q1
   generalize sameE (onlyA e) e [] l [] g=q2
   cases q0 <;> cases q1 <;> cases q2 <;> rfl
 split
 · rename_i hk
   refine (rvalid3 e _ _ _ w hk hsz (hN (onlyC e))).mono ?_
   rintro r w' ⟨rfl,hb⟩
   refine⟨ret_bool ?_,hb⟩
   unfold okC
   generalize Vp.nameC (Ds.bl e.name)=q0
   generalize Vp.cat e=q1
   generalize sameE (onlyC e) e [] l [] g=q2
   cases q0 <;> cases q1 <;> cases q2 <;> rfl
 split
 · rename_i hk
   have hs:=fun W (B:Below w.heap.size w W)=>rsame e (onlyP e) (.slice a l.length c) (.slice a2 g.length c2) (.slice none 0 0) (.slice a2 g.length c2) l [] g g W (h1.below B) (IS.nil W) (h2.below B) (h2.below B)
   refine (rvalid4 e _ a2 g.length c2 g _ w hk h2 hsz hs).mono ?_
   rintro r w' ⟨rfl,hb⟩
   refine⟨ret_bool ?_,hb⟩
   unfold okP profR Vp.prof
   rw[sameE_comm (onlyP e) e]
   generalize Ds.pat (Ds.bl e.name)=q0
   generalize Vp.rng 0 3 [e.lev]=q1
   generalize Vp.own (Ds.bl e.owner)=q2
   generalize Vp.grs g=q3
   generalize decide (g.length<=8)=q4
   generalize sameE e (onlyP e) l [] g g=q5
   cases q0 <;> cases q1 <;> cases q2 <;> cases q3 <;> cases q4 <;> cases q5 <;> rfl
 · refine (rvalidN e _ _ _ w (by omega) hsz (hN (onlyN e))).mono ?_
   rintro r w' ⟨rfl,hb⟩
   exact⟨ret_bool (Bool.and_false _),hb⟩
end
section
def unl (n:Nat) (listed:Array Bool):Nat:=(List.range n).countP (fun i=>!listed.getD i true)
theorem countP_ltR {α:Type} (p q:α->Bool):∀ (l:List α),(∀ x∈l,p x=true->q x=true)->(∃ x∈l,q x=true∧p x=false)->l.countP p<l.countP q
 | [],_,h=>by obtain⟨x,hx,_⟩:=h;cases hx
 | y::r,hpq,h=>by
   have hle:r.countP p<=r.countP q:=List.countP_mono_left (fun x hx hp=>hpq x (List.mem_cons_of_mem _ hx) hp)
   rw[List.countP_cons,List.countP_cons]
   obtain⟨x,hx,h1,h2⟩:=h
   rcases List.mem_cons.1 hx with rfl | hx
   · rw[if_pos h1,if_neg (by rw[h2];simp)];omega
   · have ih:=countP_ltR p q r (fun z hz=>hpq z (List.mem_cons_of_mem _ hz)) ⟨x,hx,h1,h2⟩
     have hy:=hpq y List.mem_cons_self
     cases hp:p y
     · cases q y <;> simp <;> omega
     · rw[hy hp];simp;omega
theorem unl_set (n:Nat) (listed:Array Bool) (i:Nat) (hi:i<n) (hs:listed.size=n) (h:listed.getD i true=false):unl n (listed.setIfInBounds i true)<unl n listed:=by
 unfold unl
 refine countP_ltR _ _ _ (fun x _ hp=>?_) ⟨i,List.mem_range.2 hi,by rw[h];rfl,?_⟩
 · by_cases e:x=i
   · subst e;rw[h];rfl
   · have:(listed.setIfInBounds i true).getD x true=listed.getD x true:=by
      simp [Array.getD_eq_getD_getElem?,show ¬ i=x from fun q=>e q.symm]
     rw[this] at hp;exact hp
 · have:(listed.setIfInBounds i true).getD i true=true:=by
    simp [Array.getD_eq_getD_getElem?,hs,hi]
   rw[this];rfl
variable {P:Program} {ops:Array Oper} {Q:Exit->Act->World->Prop}
def Ranked (ops:Array Oper) (rank:Nat->Nat):Bool:=(List.range ops.size).all fun i=>((ops[i]?).map (·.after.all fun e=>!Region.binds .any e || (decide (rank e.on<rank i)&&decide (e.on<ops.size)))).getD false
theorem some_ready (rank:Nat->Nat) (hr:Ranked ops rank=true) (listed:Array Bool) (hs:listed.size=ops.size):∀ (n i:Nat),rank i<=n->i<ops.size->listed.getD i true=false->∃ j,j∈Region.ready .any ops listed:=by
 intro n
 induction n with
 | zero=>intro i h1 h2 h3;exact some_ready_aux i h1 h2 h3 (fun j hj=>by omega)
 | succ n ih=>intro i h1 h2 h3;exact some_ready_aux i h1 h2 h3 (fun j hj=>ih j (by omega))
where
 some_ready_aux {m:Nat} (i:Nat) (h1:rank i<=m) (h2:i<ops.size) (h3:listed.getD i true=false) (ih:∀ j,rank j<rank i->j<ops.size->listed.getD j true=false->∃ j,j∈Region.ready .any ops listed):∃ j,j∈Region.ready .any ops listed:=by
  have ho:ops[i]?=some ops[i]:=Array.getElem?_eq_getElem h2
  by_cases hall:∀ e∈ops[i].after,Region.binds .any e=true->listed.getD e.on false=true
  · exact⟨i,mem_ready.2 ⟨h3,_,ho,hall⟩⟩
  · have:∃ e,e∈ops[i].after∧Region.binds .any e=true∧listed.getD e.on false≠true:=by
     refine Classical.byContradiction fun hno=>hall fun e he hb=>Classical.byContradiction fun hn=>hno ⟨e,he,hb,hn⟩
    obtain⟨e,he,hb,hn⟩:=this
    unfold Ranked at hr
    rw[List.all_eq_true] at hr
    have h4:=hr i (List.mem_range.2 h2)
    rw[ho] at h4
    simp only[Option.map_some,Option.getD_some] at h4
    rw[Array.all_eq_true_iff_forall_mem] at h4
    have h5:=h4 e he
    rw[hb] at h5
    simp only[Bool.not_true,Bool.false_or,Bool.and_eq_true,decide_eq_true_eq] at h5
    refine ih e.on h5.1 h5.2 ?_
    have hlt:e.on<listed.size:=by omega
    rw[Array.getD_eq_getD_getElem?,Array.getElem?_eq_getElem hlt] at hn ⊢
    simpa using hn
theorem region_inv_any (I:Array Bool->Act->World->Prop) (rank:Nat->Nat) (hr:Ranked ops rank=true)
  (step:∀ (listed:Array Bool) (a:Act) (w:World) (i:Nat) (o:Oper),listed.size=ops.size->ops[i]?=some o->(∀ e∈o.after,Region.binds .any e=true->listed.getD e.on false=true)->I listed a w ->
    ∀ K:Act->World->Prop,(∀ a' w',I (listed.setIfInBounds i true) a' w'->K a' w')->if Region.wanted o (yielded ops a.tmps)=true then Oper.wp P o a w K Q else K (a.put o.dst undef) w)
  (done:∀ (listed:Array Bool) (a:Act) (w:World),(∀ i,i<ops.size->listed.getD i false=true)->I listed a w->Q .normal a w) :
  ∀ (fuel:Nat) (listed:Array Bool) (a:Act) (w:World),listed.size=ops.size->unl ops.size listed<=fuel->I listed a w->wpAnyH P .any ops Q (fun _=>True) fuel listed a w
 | 0,listed,a,w,hs,hu,hI=>by
   have hall:∀ i,i<ops.size->listed.getD i false=true:=fun i hi=>by
    have:unl ops.size listed=0:=by omega
    unfold unl at this
    rw[List.countP_eq_zero] at this
    have:=this i (List.mem_range.2 hi)
    have hlt:i<listed.size:=by omega
    rw[Array.getD_eq_getD_getElem?,Array.getElem?_eq_getElem hlt] at this ⊢
    simpa using this
   refine⟨?_,done listed a w hall hI⟩
   refine List.eq_nil_iff_forall_not_mem.2 fun j hj=>?_
   obtain⟨h1,o,ho,-⟩:=mem_ready.1 hj
   have hlt:j<ops.size:=by
    rcases Nat.lt_or_ge j ops.size with h | h
    · exact h
    · rw[Array.getElem?_eq_none h] at ho;cases ho
   have:=hall j hlt
   have hlt2:j<listed.size:=by omega
   rw[Array.getD_eq_getD_getElem?,Array.getElem?_eq_getElem hlt2] at this h1
   simp only[Option.getD_some] at this h1
   rw[this] at h1;cases h1
 | fuel+1,listed,a,w,hs,hu,hI=>by
   refine⟨fun hno=>?_,fun i hi=>?_⟩
   · refine done listed a w (fun i hi=>?_) hI
     refine Classical.byContradiction fun hn=>?_
     have hlt2:i<listed.size:=by omega
     have h3:listed.getD i true=false:=by
      rw[Array.getD_eq_getD_getElem?,Array.getElem?_eq_getElem hlt2] at hn ⊢
      simpa using hn
     obtain⟨j,hj⟩:=some_ready rank hr listed hs _ i (Nat.le_refl _) hi h3
     rw[hno] at hj;cases hj
   · obtain⟨h1,o,ho,hd⟩:=mem_ready.1 hi
     have hlt:i<ops.size:=by
      rcases Nat.lt_or_ge i ops.size with h | h
      · exact h
      · rw[Array.getElem?_eq_none h] at ho;cases ho
     refine wpOp_step ho (fun K hK=>step listed a w i o hs ho hd hI K (fun a' w' hI'=>hK a' w' ⟨trivial,?_⟩))
     exact region_inv_any I rank hr step done fuel _ a' w' (by simpa using hs) (by have:=unl_set ops.size listed i hlt hs h1;omega) hI'
theorem region_inv {id:Nat} {a0:Act} {w0:World} (I:Array Bool->Act->World->Prop) (rank:Nat->Nat) (hm:P.follows .mixedOrders=true) (hr:Ranked ops rank=true)
  (h0:I (Array.replicate ops.size false) a0 w0.drew)
  (step:∀ (listed:Array Bool) (a:Act) (w:World) (i:Nat) (o:Oper),listed.size=ops.size->ops[i]?=some o->(∀ e∈o.after,Region.binds .any e=true->listed.getD e.on false=true)->I listed a w ->
    ∀ K:Act->World->Prop,(∀ a' w',I (listed.setIfInBounds i true) a' w'->K a' w')->if Region.wanted o (yielded ops a.tmps)=true then Oper.wp P o a w K Q else K (a.put o.dst undef) w)
  (done:∀ (listed:Array Bool) (a:Act) (w:World),(∀ i,i<ops.size->listed.getD i false=true)->I listed a w->Q .normal a w) :
  (Code.region id ops true).wp P Q a0 w0 :=
 wp_region_held hm (region_inv_any I rank hr step done ops.size _ a0 _ (by simp) (by
  unfold unl
  exact Nat.le_trans List.countP_le_length (by simp)) h0)
end
section
set_option maxHeartbeats 8000000
theorem keepBt {W w1 w2:World} {p0 p1:Addr} {v0 v1:Value} (hb:Below w1.heap.size w1 w2) (s:w1.cell? p0=some v0∧w1.cell? p1=some v1∧Hid (Below W.heap.size W w1)) :
  w2.cell? p0=some v0∧w2.cell? p1=some v1∧Hid (Below W.heap.size W w2):=⟨below_cell hb s.1,below_cell hb s.2.1,Lib.hid (bt s.2.2.out hb)⟩
theorem keep4 {W w1 w2:World} {p0 p1 p2 p3:Addr} {v0 v1 v2 v3:Value} (hb:Below w1.heap.size w1 w2) (s:w1.cell? p0=some v0∧w1.cell? p1=some v1∧w1.cell? p2=some v2∧w1.cell? p3=some v3∧Hid (Below W.heap.size W w1)) :
  w2.cell? p0=some v0∧w2.cell? p1=some v1∧w2.cell? p2=some v2∧w2.cell? p3=some v3∧Hid (Below W.heap.size W w2):=⟨below_cell hb s.1,below_cell hb s.2.1,below_cell hb s.2.2.1,below_cell hb s.2.2.2.1,Lib.hid (bt s.2.2.2.2.out hb)⟩
theorem is_two1 (w:World) (n m:Int) (t:TypeId):IS (w.alloc (.cells #[.int .i64 n,.int .i64 m] t)) (.slice (some ⟨w.heap.size,0,none⟩) 2 2) [n,m]:=by
 have:=is_new w [n,m] t (Nat.le_of_ble_eq_true rfl)
 simpa using this
theorem is_twoA (W:World) (n m:Int) (t:TypeId) (k:Nat) (hk:k=W.heap.size):IS (W.alloc (.cells #[.int .i64 n,.int .i64 m] t)) (.slice (some ⟨k,0,none⟩) 2 2) [n,m]:=by
 subst hk;exact is_two1 W n m t
theorem is_twoD (W:World) (n m:Int) (t:TypeId) (k:Nat) (hk:k=W.heap.size):IS (W.alloc (.cells #[.int .i64 n,.int .i64 m] t)).drew (.slice (some ⟨k,0,none⟩) 2 2) [n,m]:=by
 subst hk;exact (is_two1 W n m t).below (Below.drew (Below.refl _ _))
theorem belowT (w:World) (a b:Obj):Below w.heap.size w ((w.alloc a).alloc b):=by exact belA
theorem nums2 {n m:Int} (h:0<=n∧n<=1099511627776) (h':0<=m∧m<=1099511627776):numsOk [n,m]:=fun x hx=>by
 rcases List.mem_cons.1 hx with rfl | hx
 · exact h
 · rw[List.mem_singleton] at hx;subst hx;exact h'
attribute [local go_sem ↓] ldEnt stEnt stEntRow ldDat stDat
attribute [local go_sem] Held_drew isHead_mk headOf_mk cellsOfV_mk isAggV_mk isDat_mk row_new row_new2 row_new2' row_drew row_drewN vals_size vals_dat dat_size allOne_nil allOne_cons one_int one_bool one_string one_pointer one_slice vals_0 vals_1 vals_25 vals_26 vals_27 vals_28 vals_29 vals_30 vals_31 vals_32
theorem rbody2 (e:En) (al gr:Value) (w:World) (hk:e.kind=2) (hz:e.target.size<=1000) :
  Calls Tryz.prog 195 #[.agg (e.vals al gr)] w fun r w'=>∃ t,r=.returned (.string t)∧Ds.bl t=bodyA e∧Below w.heap.size w w':=by
 have k0:(e.kind==0)=false:=by rw[hk];rfl
 have k1:(e.kind==1)=false:=by rw[hk];rfl
 have k2:(e.kind==2)=true:=by rw[hk];rfl
 have hd1:=dat_one e
 have HT:=Lib.hid (fun W=>rtext e.target W hz)
 have HA:Hid (Ds.bl (encB e.target.size++e.target)=bodyA e):=Lib.hid (by rw[Ds.bl_append,encB_bl];rfl)
 clear hk hz
 generalize encB e.target.size++e.target=A1 at HT HA
 have R:=row_new2 w (e.vals al gr) 28 (0,0) (.cells e.dat 24)
 have n29:=cell_row R 29 _ (vals_29 e al gr)
 go_enter Tryz.func195,Tryz.ntmps195
 go_wp2_with (go_at_call 246;(with_reducible refine (HT.out _).mono ?_);rintro _ w3 ⟨rfl,hb⟩;have B:=below2 hb;clear hb)
 go_ret
 exact⟨_,rfl,HA.out,B⟩
theorem rbody3 (e:En) (al gr:Value) (w:World) (hk:e.kind=3) (hc:0<=e.cat∧e.cat<=1099511627776) :
  Calls Tryz.prog 195 #[.agg (e.vals al gr)] w fun r w'=>∃ t,r=.returned (.string t)∧Ds.bl t=bodyC e∧Below w.heap.size w w':=by
 have k0:(e.kind==0)=false:=by rw[hk];rfl
 have k1:(e.kind==1)=false:=by rw[hk];rfl
 have k2:(e.kind==2)=false:=by rw[hk];rfl
 have k3:(e.kind==3)=true:=by rw[hk];rfl
 have hd1:=dat_one e
 have HN1:=Lib.hid (fun W v (h:IS W v [e.cat])=>rnumbers v [e.cat] W h (Nat.le_of_ble_eq_true rfl) (nums1 hc))
 have HA:Hid (Ds.bl (encsB [e.cat])=bodyC e):=Lib.hid (by rw[encsB_bl];simp [encs,bodyC])
 clear hk hc
 generalize encsB [e.cat]=A1 at HN1 HA
 have R:=row_new2 w (e.vals al gr) 28 (0,0) (.cells e.dat 24)
 have n30:=cell_row R 30 _ (vals_30 e al gr)
 go_enter Tryz.func195,Tryz.ntmps195
 go_wp2_with (go_at_call 257;(refine (HN1.out _ _ ?_).mono ?_);(focus ((repeat (first | (with_reducible refine is_oneA _ _ _ _ ?_;first | with_reducible rfl | (simp;done)) | (with_reducible refine is_oneD _ _ _ _ ?_;first | with_reducible rfl | (simp;done)) | (with_reducible refine is_twoA _ _ _ _ _ ?_;first | with_reducible rfl | (simp;done)) | (with_reducible refine is_twoD _ _ _ _ _ ?_;first | with_reducible rfl | (simp;done)) | (with_reducible apply IS.below;rotate_left 1;with_reducible assumption) | (with_reducible refine IS.below ?_ (below_al _ _)) | (with_reducible refine is_drew ?_)));done));rintro _ w3 ⟨rfl,hb⟩;have B:=bt (belowT w (.cells (e.vals al gr) 28) (.cells e.dat 24)) (below1 hb);clear hb)
 go_ret
 exact⟨_,rfl,HA.out,B⟩
theorem rbody1 (e:En) (al gr:Value) (w:World) (hk:e.kind=1) (h1:0<=e.lim∧e.lim<=1099511627776) (h2:0<=e.last∧e.last<=1099511627776) (hz:e.owner.size<=1000) :
  Calls Tryz.prog 195 #[.agg (e.vals al gr)] w fun r w'=>∃ t,r=.returned (.string t)∧Ds.bl t=bodyG e∧Below w.heap.size w w':=by
 have k0:(e.kind==0)=false:=by rw[hk];rfl
 have k1:(e.kind==1)=true:=by rw[hk];rfl
 have hd1:=dat_one e
 have HN1:=Lib.hid (fun W v (h:IS W v [e.lim,e.last])=>rnumbers v [e.lim,e.last] W h (Nat.le_of_ble_eq_true rfl) (nums2 h1 h2))
 have HT:=Lib.hid (fun W=>rtext e.owner W hz)
 have HB:=Lib.hid (fun W=>rbool e.em W)
 have z1:=encsB_size [e.lim,e.last] (nums2 h1 h2)
 have z2:(⟨#[tb e.em]⟩:ByteArray).size=1:=rfl
 have z3:(encB e.owner.size++e.owner).size<=1010:=by rw[ByteArray.size_append];have:=encB_size e.owner.size (by omega);omega
 simp only[List.length_cons,List.length_nil] at z1
 clear hk h1 h2 hz
 generalize hA1:encsB [e.lim,e.last]=A1 at HN1 z1
 generalize hA2:(⟨#[tb e.em]⟩:ByteArray)=A2 at HB z2
 generalize hA3:encB e.owner.size++e.owner=A3 at HT z3
 have HA:Hid (Ds.bl ((A1++A2)++A3)=bodyG e):=Lib.hid (by
  rw[<-hA1,<-hA2,<-hA3,Ds.bl_append,Ds.bl_append,Ds.bl_append,encsB_bl,encB_bl];simp [encs,bodyG,Ds.bl])
 clear hA1 hA2 hA3
 have l1:¬ 9223372036854775807<A1.size+A2.size:=by omega
 have l2:¬ 9223372036854775807<A1.size+A2.size+A3.size:=by omega
 have l3:¬ 9223372036854775807<(A1++A2).size+A3.size:=by rw[ByteArray.size_append];omega
 clear z1 z2 z3
 go_enter Tryz.func195,Tryz.ntmps195
 go_upto_region 7 with fail
 have W0:∀ W,W=((w.alloc (.cells (e.vals al gr) 28)).alloc (.cells e.dat 24))->W.drew.cell? ⟨w.heap.size,25,none⟩=some (.int .i64 e.lim)∧W.drew.cell? ⟨w.heap.size,26,none⟩=some (.int .i64 e.last)∧W.drew.cell? ⟨w.heap.size,27,none⟩=some (.bool e.em)∧W.drew.cell? ⟨w.heap.size,28,none⟩=some (.string e.owner)∧Hid (Below w.heap.size w W.drew):=fun W hW=>by
  subst hW
  have R:=row_new2 w (e.vals al gr) 28 (0,0) (.cells e.dat 24)
  exact⟨cell_row R 25 _ (vals_25 _ _ _),cell_row R 26 _ (vals_26 _ _ _),cell_row R 27 _ (vals_27 _ _ _),cell_row R 28 _ (vals_28 _ _ _),Lib.hid (by exact belA)⟩
 go_region_held3 (fun w'=>w'.cell? ⟨w.heap.size,25,none⟩=some (.int .i64 e.lim)∧w'.cell? ⟨w.heap.size,26,none⟩=some (.int .i64 e.last)∧w'.cell? ⟨w.heap.size,27,none⟩=some (.bool e.em)∧w'.cell? ⟨w.heap.size,28,none⟩=some (.string e.owner)∧Hid (Below w.heap.size w w')) (first | assumption | exact W0 _ rfl | exact keep4 hb (by assumption) | exact keep4 (below_al _ _) (by assumption)) (first
   | (go_at_call 257;(refine (HN1.out _ _ ?_).mono ?_);(focus ((repeat (first | (with_reducible refine is_oneA _ _ _ _ ?_;first | with_reducible rfl | (simp;done)) | (with_reducible refine is_oneD _ _ _ _ ?_;first | with_reducible rfl | (simp;done)) | (with_reducible refine is_twoA _ _ _ _ _ ?_;first | with_reducible rfl | (simp;done)) | (with_reducible refine is_twoD _ _ _ _ _ ?_;first | with_reducible rfl | (simp;done)) | (with_reducible apply IS.below;rotate_left 1;with_reducible assumption) | (with_reducible refine IS.below ?_ (below_al _ _)) | (with_reducible refine is_drew ?_)));done));rintro _ w3 ⟨rfl,hb⟩)
   | (go_at_call 246;(with_reducible refine (HT.out _).mono ?_);rintro _ w3 ⟨rfl,hb⟩)
   | (go_at_call 258;(with_reducible refine (HB.out _).mono ?_);rintro _ w3 ⟨rfl,rfl⟩))
 all_goals
  obtain⟨_,_,_,_,hB⟩:=(by assumption:_∧_∧_∧_∧Hid _)
  go_wp2_with fail
  go_ret
  exact⟨_,rfl,HA.out,hB.out⟩
end
section
set_option maxHeartbeats 16000000
set_option linter.unusedSimpArgs false
attribute [local go_sem ↓] ldEnt stEnt stEntRow ldDat stDat ldDatH
attribute [local go_sem] Held_drew isHead_mk headOf_mk cellsOfV_mk isAggV_mk isDat_mk row_new row_new2 row_new2' row_drew row_drewN vals_size vals_dat dat_size allOne_nil allOne_cons one_int one_bool one_string one_pointer one_slice vals_0 vals_1 vals_23 vals_24
def SD (w:World) (e:En) (a:Option Addr) (n c:Nat) (w':World):Prop:=row w' (w.heap.size+1)=e.dat∧w'.cell? ⟨w.heap.size+1,14,none⟩=some (.bool e.uq)∧w'.cell? ⟨w.heap.size+1,15,none⟩=some (.int .i64 e.cls)∧w'.cell? ⟨w.heap.size+1,16,none⟩=some (.string e.vol)∧w'.cell? ⟨w.heap.size+1,17,none⟩=some (.string e.own)∧w'.cell? ⟨w.heap.size+1,18,none⟩=some (.int .i64 e.cr)∧w'.cell? ⟨w.heap.size+1,19,none⟩=some (.int .i64 e.ex)∧w'.cell? ⟨w.heap.size+1,20,none⟩=some (.bool e.ar)∧w'.cell? ⟨w.heap.size,23,none⟩=some (.slice a n c)∧w'.cell? ⟨w.heap.size,24,none⟩=some (.int .i64 e.used)∧Hid (Below w.heap.size w w')
theorem SD.keep {w:World} {e:En} {a:Option Addr} {n c:Nat} {w1 w2:World} (h:SD w e a n c w1) (hb:Below w1.heap.size w1 w2):SD w e a n c w2:=⟨row_below hb h.1 (by rw[dat_size];decide),below_cell hb h.2.1,below_cell hb h.2.2.1,below_cell hb h.2.2.2.1,below_cell hb h.2.2.2.2.1,below_cell hb h.2.2.2.2.2.1,below_cell hb h.2.2.2.2.2.2.1,below_cell hb h.2.2.2.2.2.2.2.1,below_cell hb h.2.2.2.2.2.2.2.2.1,below_cell hb h.2.2.2.2.2.2.2.2.2.1,Lib.hid (bt h.2.2.2.2.2.2.2.2.2.2.out hb)⟩
def upd (u:Nat->Value) (d:Nat) (v:Value):Nat->Value:=fun t=>if t=d then v else u t
def frB (w:World) (e:En) (a:Option Addr) (n c:Nat) (gr:Value) (u:Nat->Value):Array Value:=#[.agg (e.vals (.slice a n c) gr),.pointer (some ⟨w.heap.size,0,none⟩),.string ⟨#[]⟩,.pointer (some ⟨w.heap.size+1,0,none⟩),u 4,undef,undef,.pointer (some ⟨w.heap.size,2,none⟩),.agg e.dat,.pointer (some ⟨w.heap.size,0,none⟩),.int .i64 e.kind,.bool true,.bool true,u 13,u 14,u 15,u 16,u 17,u 18,u 19,u 20,u 21,u 22,u 23,u 24,u 25,u 26,u 27,u 28,u 29,u 30,u 31,u 32,u 33,u 34,u 35,u 36,u 37,u 38,u 39,u 40,u 41,u 42,u 43,undef,undef,undef,undef,undef,undef,undef,undef,undef,undef,undef,undef,undef,undef,undef,undef,undef,undef,undef,undef,undef,undef,undef,undef,undef,undef,undef,undef,undef,undef,undef,undef,undef,undef,undef,undef,undef,undef,undef,undef,undef,undef,undef,undef,undef,undef,undef,undef,undef,undef,undef,undef,undef,undef,undef,undef,undef,undef,undef,undef,undef,undef,undef,undef,undef,undef,undef,undef,undef,undef,undef,undef,undef,undef,undef,undef,undef,undef,undef,undef,undef,undef,undef,undef,undef,undef,undef,undef,undef,undef,undef]
def FB (w:World) (e:En) (A0 A1 A2 A3 A4 A5 A6:ByteArray):Nat->Value->World->Prop
 | 0,v,_=>v=.agg e.dat
 | 1,v,W=>IS W v (numD e)
 | 2,v,_=>v=.string A0
 | 3,v,_=>v=.pointer (some ⟨w.heap.size+1,14,none⟩)
 | 4,v,_=>v=.bool e.uq
 | 5,v,_=>v=.string A1
 | 6,v,_=>v=.string (A0++A1)
 | 7,v,_=>v=.pointer (some ⟨w.heap.size+1,15,none⟩)
 | 8,v,_=>v=.int .i64 e.cls
 | 9,v,W=>IS W v [e.cls]
 | 10,v,_=>v=.string A2
 | 11,v,_=>v=.string ((A0++A1)++A2)
 | 12,v,_=>v=.pointer (some ⟨w.heap.size+1,16,none⟩)
 | 13,v,_=>v=.string e.vol
 | 14,v,_=>v=.string A3
 | 15,v,_=>v=.string (((A0++A1)++A2)++A3)
 | 16,v,_=>v=.pointer (some ⟨w.heap.size+1,17,none⟩)
 | 17,v,_=>v=.string e.own
 | 18,v,_=>v=.string A4
 | 19,v,_=>v=.string ((((A0++A1)++A2)++A3)++A4)
 | 20,v,_=>v=.pointer (some ⟨w.heap.size+1,18,none⟩)
 | 21,v,_=>v=.int .i64 e.cr
 | 22,v,_=>v=.pointer (some ⟨w.heap.size+1,19,none⟩)
 | 23,v,_=>v=.int .i64 e.ex
 | 24,v,W=>IS W v [e.cr,e.ex]
 | 25,v,_=>v=.string A5
 | 26,v,_=>v=.string (((((A0++A1)++A2)++A3)++A4)++A5)
 | 27,v,_=>v=.pointer (some ⟨w.heap.size+1,20,none⟩)
 | 28,v,_=>v=.bool e.ar
 | 29,v,_=>v=.string A6
 | 30,v,_=>v=.string ((((((A0++A1)++A2)++A3)++A4)++A5)++A6)
 | 31,v,_=>v=.string ((((((A0++A1)++A2)++A3)++A4)++A5)++A6)
 | _,_,_=>True
def dB (k:Nat):Nat:=if k=31 then 4 else k+13
theorem FB.below {w:World} {e:En} {A0 A1 A2 A3 A4 A5 A6:ByteArray} {k:Nat} {v:Value} {W W':World} (h:FB w e A0 A1 A2 A3 A4 A5 A6 k v W) (hb:Below W.heap.size W W'):FB w e A0 A1 A2 A3 A4 A5 A6 k v W':=by
 unfold FB at h ⊢
 split at h <;> first | exact h | exact IS.below h hb
def IVB (w:World) (e:En) (a:Option Addr) (n c:Nat) (gr:Value) (A0 A1 A2 A3 A4 A5 A6:ByteArray) (listed:Array Bool) (x:Act) (W:World):Prop:=∃ u,x={ tmps:=frB w e a n c gr u,defers:=[] }∧listed.size=32∧SD w e a n c W∧∀ k,k<32->listed.getD k false=true->FB w e A0 A1 A2 A3 A4 A5 A6 k (u (dB k)) W
theorem IVB.put {w:World} {e:En} {a:Option Addr} {n c:Nat} {gr:Value} {A0 A1 A2 A3 A4 A5 A6:ByteArray} {listed:Array Bool} {W W':World} {u:Nat->Value} (hs:listed.size=32) (hSD:SD w e a n c W) (hF:∀ k,k<32->listed.getD k false=true->FB w e A0 A1 A2 A3 A4 A5 A6 k (u (dB k)) W)
  (k:Nat) (hk:k<32) (v:Value) (hb:Below W.heap.size W W') (hv:FB w e A0 A1 A2 A3 A4 A5 A6 k v W'):IVB w e a n c gr A0 A1 A2 A3 A4 A5 A6 (listed.setIfInBounds k true) { tmps:=frB w e a n c gr (upd u (dB k) v),defers:=[] } W':=by
 refine⟨_,rfl,by simpa using hs,hSD.keep hb,fun j hj hl=>?_⟩
 by_cases h:j=k
 · subst h;unfold upd;rw[if_pos rfl];exact hv
 · have h1:(listed.setIfInBounds k true).getD j false=listed.getD j false:=by
    simp [Array.getD_eq_getD_getElem?,show ¬ k=j from fun q=>h q.symm]
   rw[h1] at hl
   unfold upd
   rw[if_neg (by unfold dB;split <;> split <;> omega)]
   exact (hF j hj hl).below hb
theorem rbody0 (e:En) (a:Option Addr) (n c:Nat) (l:List Int) (gr:Value) (w:World) (hk:e.kind=0) (hI:IS w (.slice a n c) l) (hd:DatOk e l) (hv:e.vol.size<=1000) (ho:e.own.size<=1000) :
  Calls Tryz.prog 195 #[.agg (e.vals (.slice a n c) gr)] w fun r w'=>∃ t,r=.returned (.string t)∧Ds.bl t=bodyDx e l∧Below w.heap.size w w':=by
 obtain⟨hn,hcl,-,-,hcr,hex,hl,hl4,hu⟩:=hd
 have k0:(e.kind==0)=true:=by rw[hk];rfl
 have hd1:=dat_one e
 obtain⟨a',c',e',hz,-⟩:=id hI
 obtain⟨rfl,rfl,rfl⟩:a=a'∧n=l.length∧c=c':=by injection e' with x y z;exact⟨x,y,z⟩
 clear e'
 have HNU:=Lib.hid (fun W=>rnums e W)
 have HN0:=Lib.hid (fun W v (h:IS W v (numD e))=>rnumbers v (numD e) W h (Nat.le_of_ble_eq_true rfl) hn)
 have HB1:=Lib.hid (fun W=>rbool e.uq W)
 have HN2:=Lib.hid (fun W v (h:IS W v [e.cls])=>rnumbers v [e.cls] W h (Nat.le_of_ble_eq_true rfl) (nums1 hcl))
 have HT3:=Lib.hid (fun W=>rtext e.vol W hv)
 have HT4:=Lib.hid (fun W=>rtext e.own W ho)
 have HN5:=Lib.hid (fun W v (h:IS W v [e.cr,e.ex])=>rnumbers v [e.cr,e.ex] W h (Nat.le_of_ble_eq_true rfl) (nums2 hcr hex))
 have HB6:=Lib.hid (fun W=>rbool e.ar W)
 have HN7:=Lib.hid (fun W v (h:IS W v [(l.length:Int)])=>rnumbers v [(l.length:Int)] W h (Nat.le_of_ble_eq_true rfl) (nums1 ⟨by omega,by omega⟩))
 have HN8:=Lib.hid (fun W (B:Below w.heap.size w W)=>rnumbers (.slice a l.length c) l W (hI.below B) (by omega) hl)
 have HN9:=Lib.hid (fun W v (h:IS W v [e.used])=>rnumbers v [e.used] W h (Nat.le_of_ble_eq_true rfl) (nums1 hu))
 have z0:=encsB_size (numD e) hn
 have z1:(⟨#[tb e.uq]⟩:ByteArray).size<=1:=Nat.le_refl 1
 have z2:=encsB_size [e.cls] (nums1 hcl)
 have z3:(encB e.vol.size++e.vol).size<=1010:=by rw[ByteArray.size_append];have:=encB_size e.vol.size (by omega);omega
 have z4:(encB e.own.size++e.own).size<=1010:=by rw[ByteArray.size_append];have:=encB_size e.own.size (by omega);omega
 have z5:=encsB_size [e.cr,e.ex] (nums2 hcr hex)
 have z6:(⟨#[tb e.ar]⟩:ByteArray).size<=1:=Nat.le_refl 1
 have z7:=encsB_size [(l.length:Int)] (nums1 ⟨by omega,by omega⟩)
 have z8:=encsB_size l hl
 have z9:=encsB_size [e.used] (nums1 hu)
 have hn14:(numD e).length=14:=rfl
 rw[hn14] at z0
 simp only[List.length_cons,List.length_nil] at z2 z5 z7 z9
 clear hk hI hn hcl hcr hex hl hu hv ho hn14
 generalize hA0:encsB (numD e)=A0 at HN0 z0
 generalize hA1:(⟨#[tb e.uq]⟩:ByteArray)=A1 at HB1 z1
 generalize hA2:encsB [e.cls]=A2 at HN2 z2
 generalize hA3:encB e.vol.size++e.vol=A3 at HT3 z3
 generalize hA4:encB e.own.size++e.own=A4 at HT4 z4
 generalize hA5:encsB [e.cr,e.ex]=A5 at HN5 z5
 generalize hA6:(⟨#[tb e.ar]⟩:ByteArray)=A6 at HB6 z6
 generalize hA7:encsB [(l.length:Int)]=A7 at HN7 z7
 generalize hA8:encsB l=A8 at HN8 z8
 generalize hA9:encsB [e.used]=A9 at HN9 z9
 have HA:Hid (Ds.bl (((((((((A0++A1)++A2)++A3)++A4)++A5)++A6)++A7)++A8)++A9)=bodyDx e l):=Lib.hid (by
  rw[<-hA0,<-hA1,<-hA2,<-hA3,<-hA4,<-hA5,<-hA6,<-hA7,<-hA8,<-hA9]
  simp only[Ds.bl_append,encsB_bl,encB_bl]
  unfold bodyDx bodyD
  simp [encs,Ds.bl])
 clear hA0 hA1 hA2 hA3 hA4 hA5 hA6 hA7 hA8 hA9
 have l1:¬ 9223372036854775807<A0.size+A1.size:=by omega
 have l2:¬ 9223372036854775807<A0.size+A1.size+A2.size:=by omega
 have l3:¬ 9223372036854775807<A0.size+A1.size+A2.size+A3.size:=by omega
 have l4:¬ 9223372036854775807<A0.size+A1.size+A2.size+A3.size+A4.size:=by omega
 have l5:¬ 9223372036854775807<A0.size+A1.size+A2.size+A3.size+A4.size+A5.size:=by omega
 have l6:¬ 9223372036854775807<A0.size+A1.size+A2.size+A3.size+A4.size+A5.size+A6.size:=by omega
 have zs:((((((A0++A1)++A2)++A3)++A4)++A5)++A6).size<=3000:=by simp only[ByteArray.size_append];omega
 generalize hS:((((((A0++A1)++A2)++A3)++A4)++A5)++A6)=s at HA zs
 have HS:=Lib.hid hS
 have m1:¬ 9223372036854775807<s.size+A7.size:=by omega
 have m2:¬ 9223372036854775807<s.size+A7.size+A8.size:=by omega
 have m3:¬ 9223372036854775807<s.size+A7.size+A8.size+A9.size:=by omega
 clear hS zs z0 z1 z2 z3 z4 z5 z6 z7 z8 z9
 have R1:=row_new2 w (e.vals (.slice a l.length c) gr) 28 (0,0) (.cells e.dat 24)
 have R2:=row_new2' w e.dat 24 (0,0) (.cells (e.vals (.slice a l.length c) gr) 28)
 have W0:SD w e a l.length c ((w.alloc (.cells (e.vals (.slice a l.length c) gr) 28)).alloc (.cells e.dat 24)).drew:=⟨R2,cell_row R2 14 _ (dat_14 e),cell_row R2 15 _ (dat_15 e),cell_row R2 16 _ (dat_16 e),cell_row R2 17 _ (dat_17 e),cell_row R2 18 _ (dat_18 e),cell_row R2 19 _ (dat_19 e),cell_row R2 20 _ (dat_20 e),cell_row R1 23 _ (vals_23 _ _ _),cell_row R1 24 _ (vals_24 _ _ _),Lib.hid (by exact belA)⟩
 clear R1 R2
 go_enter Tryz.func195,Tryz.ntmps195
 go_upto_region 4 with fail
 go_cut [1,4] (fun t1 t4 wx=>t1=.pointer (some ⟨w.heap.size,0,none⟩)∧t4=.string s∧SD w e a l.length c wx)
 case first =>
  refine region_inv (IVB w e a l.length c gr A0 A1 A2 A3 A4 A5 A6) id (by kernel_rfl) (by kernel_rfl) ⟨fun _=>undef,rfl,rfl,W0,fun k _ h=>by simp [Array.getD_eq_getD_getElem?,Array.getElem?_replicate] at h;split at h <;> simp at h⟩ ?_ ?_
  · rintro listed x W i o hs ho hd ⟨u,rfl,hs2,hSD,hF⟩ K hK
    have hi:i<32:=by
     rcases Nat.lt_or_ge i 32 with h | h
     · exact h
     · rw[Array.getElem?_eq_none (by simpa using h)] at ho;cases ho
    have HSD:=Lib.hid hSD
    have HF:=Lib.hid hF
    have HK:=Lib.hid hK
    obtain⟨q0,q14,q15,q16,q17,q18,q19,q20,q23,q24,qB⟩:=hSD
    have hz21:(row W (w.heap.size+1)).size=21:=by rw[q0];exact dat_size e
    clear hF hK hs W0
    rcases (by omega:i=0∨i=1∨i=2∨i=3∨i=4∨i=5∨i=6∨i=7∨i=8∨i=9∨i=10∨i=11∨i=12∨i=13∨i=14∨i=15∨i=16∨i=17∨i=18∨i=19∨i=20∨i=21∨i=22∨i=23∨i=24∨i=25∨i=26∨i=27∨i=28∨i=29∨i=30∨i=31) with rfl | rfl | rfl | rfl | rfl | rfl | rfl | rfl | rfl | rfl | rfl | rfl | rfl | rfl | rfl | rfl | rfl | rfl | rfl | rfl | rfl | rfl | rfl | rfl | rfl | rfl | rfl | rfl | rfl | rfl | rfl | rfl
    · simp at ho;subst ho
      clear hd
      unfold frB
      go_simp
      refine HK.out _ _ ?_
      refine Eq.mp (congrArg (fun t=>IVB w e a l.length c gr A0 A1 A2 A3 A4 A5 A6 (listed.setIfInBounds 0 true) { tmps:=t,defers:=[] } _) ?_) (IVB.put (gr:=gr) hs2 HSD.out HF.out 0 (by decide) (.agg e.dat) (Below.refl _ _) rfl)
      unfold frB upd dB
      simp only[reduceIte,Nat.reduceEqDiff,Nat.reduceAdd]
    · have f0:(u 13)=.agg e.dat:=HF.out 0 (by decide) (hd ⟨0,.data⟩ (by simp at ho;subst ho;simp) rfl)
      simp at ho;subst ho
      clear hd
      unfold frB
      go_simp
      (go_at_call 198;(with_reducible refine (HNU.out _).mono ?_);rintro _ w3 ⟨v,rfl,hI3,hb⟩)
      go_wp2_with fail
      refine HK.out _ _ ?_
      refine Eq.mp (congrArg (fun t=>IVB w e a l.length c gr A0 A1 A2 A3 A4 A5 A6 (listed.setIfInBounds 1 true) { tmps:=t,defers:=[] } _) ?_) (IVB.put (gr:=gr) hs2 HSD.out HF.out 1 (by decide) v hb hI3)
      unfold frB upd dB
      simp only[f0,reduceIte,Nat.reduceEqDiff,Nat.reduceAdd]
    · have f1:IS W (u 14) (numD e):=HF.out 1 (by decide) (hd ⟨1,.data⟩ (by simp at ho;subst ho;simp) rfl)
      simp at ho;subst ho
      clear hd
      unfold frB
      go_simp
      (go_at_call 257;(refine (HN0.out _ _ f1).mono ?_);rintro _ w3 ⟨rfl,hb⟩)
      go_wp2_with fail
      refine HK.out _ _ ?_
      refine Eq.mp (congrArg (fun t=>IVB w e a l.length c gr A0 A1 A2 A3 A4 A5 A6 (listed.setIfInBounds 2 true) { tmps:=t,defers:=[] } _) ?_) (IVB.put (gr:=gr) hs2 HSD.out HF.out 2 (by decide) (.string A0) hb rfl)
      unfold frB upd dB
      simp only[f1,reduceIte,Nat.reduceEqDiff,Nat.reduceAdd]
    · simp at ho;subst ho
      clear hd
      unfold frB
      go_simp
      refine HK.out _ _ ?_
      refine Eq.mp (congrArg (fun t=>IVB w e a l.length c gr A0 A1 A2 A3 A4 A5 A6 (listed.setIfInBounds 3 true) { tmps:=t,defers:=[] } _) ?_) (IVB.put (gr:=gr) hs2 HSD.out HF.out 3 (by decide) (.pointer (some ⟨w.heap.size+1,14,none⟩)) (Below.refl _ _) rfl)
      unfold frB upd dB
      simp only[reduceIte,Nat.reduceEqDiff,Nat.reduceAdd]
    · have f3:(u 16)=.pointer (some ⟨w.heap.size+1,14,none⟩):=HF.out 3 (by decide) (hd ⟨3,.data⟩ (by simp at ho;subst ho;simp) rfl)
      simp at ho;subst ho
      clear hd
      unfold frB
      go_simp
      refine HK.out _ _ ?_
      refine Eq.mp (congrArg (fun t=>IVB w e a l.length c gr A0 A1 A2 A3 A4 A5 A6 (listed.setIfInBounds 4 true) { tmps:=t,defers:=[] } _) ?_) (IVB.put (gr:=gr) hs2 HSD.out HF.out 4 (by decide) (.bool e.uq) (Below.refl _ _) rfl)
      unfold frB upd dB
      simp only[f3,reduceIte,Nat.reduceEqDiff,Nat.reduceAdd]
    · have f4:(u 17)=.bool e.uq:=HF.out 4 (by decide) (hd ⟨4,.data⟩ (by simp at ho;subst ho;simp) rfl)
      simp at ho;subst ho
      clear hd
      unfold frB
      go_simp
      (go_at_call 258;(with_reducible refine (HB1.out _).mono ?_);rintro _ w3 ⟨rfl,rfl⟩)
      go_wp2_with fail
      refine HK.out _ _ ?_
      refine Eq.mp (congrArg (fun t=>IVB w e a l.length c gr A0 A1 A2 A3 A4 A5 A6 (listed.setIfInBounds 5 true) { tmps:=t,defers:=[] } _) ?_) (IVB.put (gr:=gr) hs2 HSD.out HF.out 5 (by decide) (.string A1) (Below.refl _ _) rfl)
      unfold frB upd dB
      simp only[f4,reduceIte,Nat.reduceEqDiff,Nat.reduceAdd]
    · have f2:(u 15)=.string A0:=HF.out 2 (by decide) (hd ⟨2,.data⟩ (by simp at ho;subst ho;simp) rfl)
      have f5:(u 18)=.string A1:=HF.out 5 (by decide) (hd ⟨5,.data⟩ (by simp at ho;subst ho;simp) rfl)
      simp at ho;subst ho
      clear hd
      unfold frB
      go_simp
      refine HK.out _ _ ?_
      refine Eq.mp (congrArg (fun t=>IVB w e a l.length c gr A0 A1 A2 A3 A4 A5 A6 (listed.setIfInBounds 6 true) { tmps:=t,defers:=[] } _) ?_) (IVB.put (gr:=gr) hs2 HSD.out HF.out 6 (by decide) (.string (A0++A1)) (Below.refl _ _) rfl)
      unfold frB upd dB
      simp only[f2,f5,reduceIte,Nat.reduceEqDiff,Nat.reduceAdd]
    · simp at ho;subst ho
      clear hd
      unfold frB
      go_simp
      refine HK.out _ _ ?_
      refine Eq.mp (congrArg (fun t=>IVB w e a l.length c gr A0 A1 A2 A3 A4 A5 A6 (listed.setIfInBounds 7 true) { tmps:=t,defers:=[] } _) ?_) (IVB.put (gr:=gr) hs2 HSD.out HF.out 7 (by decide) (.pointer (some ⟨w.heap.size+1,15,none⟩)) (Below.refl _ _) rfl)
      unfold frB upd dB
      simp only[reduceIte,Nat.reduceEqDiff,Nat.reduceAdd]
    · have f7:(u 20)=.pointer (some ⟨w.heap.size+1,15,none⟩):=HF.out 7 (by decide) (hd ⟨7,.data⟩ (by simp at ho;subst ho;simp) rfl)
      simp at ho;subst ho
      clear hd
      unfold frB
      go_simp
      refine HK.out _ _ ?_
      refine Eq.mp (congrArg (fun t=>IVB w e a l.length c gr A0 A1 A2 A3 A4 A5 A6 (listed.setIfInBounds 8 true) { tmps:=t,defers:=[] } _) ?_) (IVB.put (gr:=gr) hs2 HSD.out HF.out 8 (by decide) (.int .i64 e.cls) (Below.refl _ _) rfl)
      unfold frB upd dB
      simp only[f7,reduceIte,Nat.reduceEqDiff,Nat.reduceAdd]
    · have f8:(u 21)=.int .i64 e.cls:=HF.out 8 (by decide) (hd ⟨8,.data⟩ (by simp at ho;subst ho;simp) rfl)
      simp at ho;subst ho
      clear hd
      unfold frB
      go_simp
      refine HK.out _ _ ?_
      refine Eq.mp (congrArg (fun t=>IVB w e a l.length c gr A0 A1 A2 A3 A4 A5 A6 (listed.setIfInBounds 9 true) { tmps:=t,defers:=[] } _) ?_) (IVB.put (gr:=gr) hs2 HSD.out HF.out 9 (by decide) (.slice (some ⟨W.heap.size,0,none⟩) 1 1) (below_al _ _) (is_one1 _ _ _))
      unfold frB upd dB
      simp only[f8,reduceIte,Nat.reduceEqDiff,Nat.reduceAdd]
    · have f9:IS W (u 22) [e.cls]:=HF.out 9 (by decide) (hd ⟨9,.data⟩ (by simp at ho;subst ho;simp) rfl)
      simp at ho;subst ho
      clear hd
      unfold frB
      go_simp
      (go_at_call 257;(refine (HN2.out _ _ f9).mono ?_);rintro _ w3 ⟨rfl,hb⟩)
      go_wp2_with fail
      refine HK.out _ _ ?_
      refine Eq.mp (congrArg (fun t=>IVB w e a l.length c gr A0 A1 A2 A3 A4 A5 A6 (listed.setIfInBounds 10 true) { tmps:=t,defers:=[] } _) ?_) (IVB.put (gr:=gr) hs2 HSD.out HF.out 10 (by decide) (.string A2) hb rfl)
      unfold frB upd dB
      simp only[f9,reduceIte,Nat.reduceEqDiff,Nat.reduceAdd]
    · have f6:(u 19)=.string (A0++A1):=HF.out 6 (by decide) (hd ⟨6,.data⟩ (by simp at ho;subst ho;simp) rfl)
      have f10:(u 23)=.string A2:=HF.out 10 (by decide) (hd ⟨10,.data⟩ (by simp at ho;subst ho;simp) rfl)
      simp at ho;subst ho
      clear hd
      unfold frB
      go_simp
      refine HK.out _ _ ?_
      refine Eq.mp (congrArg (fun t=>IVB w e a l.length c gr A0 A1 A2 A3 A4 A5 A6 (listed.setIfInBounds 11 true) { tmps:=t,defers:=[] } _) ?_) (IVB.put (gr:=gr) hs2 HSD.out HF.out 11 (by decide) (.string ((A0++A1)++A2)) (Below.refl _ _) rfl)
      unfold frB upd dB
      simp only[f6,f10,reduceIte,Nat.reduceEqDiff,Nat.reduceAdd]
    · simp at ho;subst ho
      clear hd
      unfold frB
      go_simp
      refine HK.out _ _ ?_
      refine Eq.mp (congrArg (fun t=>IVB w e a l.length c gr A0 A1 A2 A3 A4 A5 A6 (listed.setIfInBounds 12 true) { tmps:=t,defers:=[] } _) ?_) (IVB.put (gr:=gr) hs2 HSD.out HF.out 12 (by decide) (.pointer (some ⟨w.heap.size+1,16,none⟩)) (Below.refl _ _) rfl)
      unfold frB upd dB
      simp only[reduceIte,Nat.reduceEqDiff,Nat.reduceAdd]
    · have f12:(u 25)=.pointer (some ⟨w.heap.size+1,16,none⟩):=HF.out 12 (by decide) (hd ⟨12,.data⟩ (by simp at ho;subst ho;simp) rfl)
      simp at ho;subst ho
      clear hd
      unfold frB
      go_simp
      refine HK.out _ _ ?_
      refine Eq.mp (congrArg (fun t=>IVB w e a l.length c gr A0 A1 A2 A3 A4 A5 A6 (listed.setIfInBounds 13 true) { tmps:=t,defers:=[] } _) ?_) (IVB.put (gr:=gr) hs2 HSD.out HF.out 13 (by decide) (.string e.vol) (Below.refl _ _) rfl)
      unfold frB upd dB
      simp only[f12,reduceIte,Nat.reduceEqDiff,Nat.reduceAdd]
    · have f13:(u 26)=.string e.vol:=HF.out 13 (by decide) (hd ⟨13,.data⟩ (by simp at ho;subst ho;simp) rfl)
      simp at ho;subst ho
      clear hd
      unfold frB
      go_simp
      (go_at_call 246;(with_reducible refine (HT3.out _).mono ?_);rintro _ w3 ⟨rfl,hb⟩)
      go_wp2_with fail
      refine HK.out _ _ ?_
      refine Eq.mp (congrArg (fun t=>IVB w e a l.length c gr A0 A1 A2 A3 A4 A5 A6 (listed.setIfInBounds 14 true) { tmps:=t,defers:=[] } _) ?_) (IVB.put (gr:=gr) hs2 HSD.out HF.out 14 (by decide) (.string A3) hb rfl)
      unfold frB upd dB
      simp only[f13,reduceIte,Nat.reduceEqDiff,Nat.reduceAdd]
    · have f11:(u 24)=.string ((A0++A1)++A2):=HF.out 11 (by decide) (hd ⟨11,.data⟩ (by simp at ho;subst ho;simp) rfl)
      have f14:(u 27)=.string A3:=HF.out 14 (by decide) (hd ⟨14,.data⟩ (by simp at ho;subst ho;simp) rfl)
      simp at ho;subst ho
      clear hd
      unfold frB
      go_simp
      refine HK.out _ _ ?_
      refine Eq.mp (congrArg (fun t=>IVB w e a l.length c gr A0 A1 A2 A3 A4 A5 A6 (listed.setIfInBounds 15 true) { tmps:=t,defers:=[] } _) ?_) (IVB.put (gr:=gr) hs2 HSD.out HF.out 15 (by decide) (.string (((A0++A1)++A2)++A3)) (Below.refl _ _) rfl)
      unfold frB upd dB
      simp only[f11,f14,reduceIte,Nat.reduceEqDiff,Nat.reduceAdd]
    · simp at ho;subst ho
      clear hd
      unfold frB
      go_simp
      refine HK.out _ _ ?_
      refine Eq.mp (congrArg (fun t=>IVB w e a l.length c gr A0 A1 A2 A3 A4 A5 A6 (listed.setIfInBounds 16 true) { tmps:=t,defers:=[] } _) ?_) (IVB.put (gr:=gr) hs2 HSD.out HF.out 16 (by decide) (.pointer (some ⟨w.heap.size+1,17,none⟩)) (Below.refl _ _) rfl)
      unfold frB upd dB
      simp only[reduceIte,Nat.reduceEqDiff,Nat.reduceAdd]
    · have f16:(u 29)=.pointer (some ⟨w.heap.size+1,17,none⟩):=HF.out 16 (by decide) (hd ⟨16,.data⟩ (by simp at ho;subst ho;simp) rfl)
      simp at ho;subst ho
      clear hd
      unfold frB
      go_simp
      refine HK.out _ _ ?_
      refine Eq.mp (congrArg (fun t=>IVB w e a l.length c gr A0 A1 A2 A3 A4 A5 A6 (listed.setIfInBounds 17 true) { tmps:=t,defers:=[] } _) ?_) (IVB.put (gr:=gr) hs2 HSD.out HF.out 17 (by decide) (.string e.own) (Below.refl _ _) rfl)
      unfold frB upd dB
      simp only[f16,reduceIte,Nat.reduceEqDiff,Nat.reduceAdd]
    · have f17:(u 30)=.string e.own:=HF.out 17 (by decide) (hd ⟨17,.data⟩ (by simp at ho;subst ho;simp) rfl)
      simp at ho;subst ho
      clear hd
      unfold frB
      go_simp
      (go_at_call 246;(with_reducible refine (HT4.out _).mono ?_);rintro _ w3 ⟨rfl,hb⟩)
      go_wp2_with fail
      refine HK.out _ _ ?_
      refine Eq.mp (congrArg (fun t=>IVB w e a l.length c gr A0 A1 A2 A3 A4 A5 A6 (listed.setIfInBounds 18 true) { tmps:=t,defers:=[] } _) ?_) (IVB.put (gr:=gr) hs2 HSD.out HF.out 18 (by decide) (.string A4) hb rfl)
      unfold frB upd dB
      simp only[f17,reduceIte,Nat.reduceEqDiff,Nat.reduceAdd]
    · have f15:(u 28)=.string (((A0++A1)++A2)++A3):=HF.out 15 (by decide) (hd ⟨15,.data⟩ (by simp at ho;subst ho;simp) rfl)
      have f18:(u 31)=.string A4:=HF.out 18 (by decide) (hd ⟨18,.data⟩ (by simp at ho;subst ho;simp) rfl)
      simp at ho;subst ho
      clear hd
      unfold frB
      go_simp
      refine HK.out _ _ ?_
      refine Eq.mp (congrArg (fun t=>IVB w e a l.length c gr A0 A1 A2 A3 A4 A5 A6 (listed.setIfInBounds 19 true) { tmps:=t,defers:=[] } _) ?_) (IVB.put (gr:=gr) hs2 HSD.out HF.out 19 (by decide) (.string ((((A0++A1)++A2)++A3)++A4)) (Below.refl _ _) rfl)
      unfold frB upd dB
      simp only[f15,f18,reduceIte,Nat.reduceEqDiff,Nat.reduceAdd]
    · simp at ho;subst ho
      clear hd
      unfold frB
      go_simp
      refine HK.out _ _ ?_
      refine Eq.mp (congrArg (fun t=>IVB w e a l.length c gr A0 A1 A2 A3 A4 A5 A6 (listed.setIfInBounds 20 true) { tmps:=t,defers:=[] } _) ?_) (IVB.put (gr:=gr) hs2 HSD.out HF.out 20 (by decide) (.pointer (some ⟨w.heap.size+1,18,none⟩)) (Below.refl _ _) rfl)
      unfold frB upd dB
      simp only[reduceIte,Nat.reduceEqDiff,Nat.reduceAdd]
    · have f20:(u 33)=.pointer (some ⟨w.heap.size+1,18,none⟩):=HF.out 20 (by decide) (hd ⟨20,.data⟩ (by simp at ho;subst ho;simp) rfl)
      simp at ho;subst ho
      clear hd
      unfold frB
      go_simp
      refine HK.out _ _ ?_
      refine Eq.mp (congrArg (fun t=>IVB w e a l.length c gr A0 A1 A2 A3 A4 A5 A6 (listed.setIfInBounds 21 true) { tmps:=t,defers:=[] } _) ?_) (IVB.put (gr:=gr) hs2 HSD.out HF.out 21 (by decide) (.int .i64 e.cr) (Below.refl _ _) rfl)
      unfold frB upd dB
      simp only[f20,reduceIte,Nat.reduceEqDiff,Nat.reduceAdd]
    · simp at ho;subst ho
      clear hd
      unfold frB
      go_simp
      refine HK.out _ _ ?_
      refine Eq.mp (congrArg (fun t=>IVB w e a l.length c gr A0 A1 A2 A3 A4 A5 A6 (listed.setIfInBounds 22 true) { tmps:=t,defers:=[] } _) ?_) (IVB.put (gr:=gr) hs2 HSD.out HF.out 22 (by decide) (.pointer (some ⟨w.heap.size+1,19,none⟩)) (Below.refl _ _) rfl)
      unfold frB upd dB
      simp only[reduceIte,Nat.reduceEqDiff,Nat.reduceAdd]
    · have f22:(u 35)=.pointer (some ⟨w.heap.size+1,19,none⟩):=HF.out 22 (by decide) (hd ⟨22,.data⟩ (by simp at ho;subst ho;simp) rfl)
      simp at ho;subst ho
      clear hd
      unfold frB
      go_simp
      refine HK.out _ _ ?_
      refine Eq.mp (congrArg (fun t=>IVB w e a l.length c gr A0 A1 A2 A3 A4 A5 A6 (listed.setIfInBounds 23 true) { tmps:=t,defers:=[] } _) ?_) (IVB.put (gr:=gr) hs2 HSD.out HF.out 23 (by decide) (.int .i64 e.ex) (Below.refl _ _) rfl)
      unfold frB upd dB
      simp only[f22,reduceIte,Nat.reduceEqDiff,Nat.reduceAdd]
    · have f21:(u 34)=.int .i64 e.cr:=HF.out 21 (by decide) (hd ⟨21,.data⟩ (by simp at ho;subst ho;simp) rfl)
      have f23:(u 36)=.int .i64 e.ex:=HF.out 23 (by decide) (hd ⟨23,.data⟩ (by simp at ho;subst ho;simp) rfl)
      simp at ho;subst ho
      clear hd
      unfold frB
      go_simp
      refine HK.out _ _ ?_
      refine Eq.mp (congrArg (fun t=>IVB w e a l.length c gr A0 A1 A2 A3 A4 A5 A6 (listed.setIfInBounds 24 true) { tmps:=t,defers:=[] } _) ?_) (IVB.put (gr:=gr) hs2 HSD.out HF.out 24 (by decide) (.slice (some ⟨W.heap.size,0,none⟩) 2 2) (below_al _ _) (is_two1 _ _ _ _))
      unfold frB upd dB
      simp only[f21,f23,reduceIte,Nat.reduceEqDiff,Nat.reduceAdd]
    · have f24:IS W (u 37) [e.cr,e.ex]:=HF.out 24 (by decide) (hd ⟨24,.data⟩ (by simp at ho;subst ho;simp) rfl)
      simp at ho;subst ho
      clear hd
      unfold frB
      go_simp
      (go_at_call 257;(refine (HN5.out _ _ f24).mono ?_);rintro _ w3 ⟨rfl,hb⟩)
      go_wp2_with fail
      refine HK.out _ _ ?_
      refine Eq.mp (congrArg (fun t=>IVB w e a l.length c gr A0 A1 A2 A3 A4 A5 A6 (listed.setIfInBounds 25 true) { tmps:=t,defers:=[] } _) ?_) (IVB.put (gr:=gr) hs2 HSD.out HF.out 25 (by decide) (.string A5) hb rfl)
      unfold frB upd dB
      simp only[f24,reduceIte,Nat.reduceEqDiff,Nat.reduceAdd]
    · have f19:(u 32)=.string ((((A0++A1)++A2)++A3)++A4):=HF.out 19 (by decide) (hd ⟨19,.data⟩ (by simp at ho;subst ho;simp) rfl)
      have f25:(u 38)=.string A5:=HF.out 25 (by decide) (hd ⟨25,.data⟩ (by simp at ho;subst ho;simp) rfl)
      simp at ho;subst ho
      clear hd
      unfold frB
      go_simp
      refine HK.out _ _ ?_
      refine Eq.mp (congrArg (fun t=>IVB w e a l.length c gr A0 A1 A2 A3 A4 A5 A6 (listed.setIfInBounds 26 true) { tmps:=t,defers:=[] } _) ?_) (IVB.put (gr:=gr) hs2 HSD.out HF.out 26 (by decide) (.string (((((A0++A1)++A2)++A3)++A4)++A5)) (Below.refl _ _) rfl)
      unfold frB upd dB
      simp only[f19,f25,reduceIte,Nat.reduceEqDiff,Nat.reduceAdd]
    · simp at ho;subst ho
      clear hd
      unfold frB
      go_simp
      refine HK.out _ _ ?_
      refine Eq.mp (congrArg (fun t=>IVB w e a l.length c gr A0 A1 A2 A3 A4 A5 A6 (listed.setIfInBounds 27 true) { tmps:=t,defers:=[] } _) ?_) (IVB.put (gr:=gr) hs2 HSD.out HF.out 27 (by decide) (.pointer (some ⟨w.heap.size+1,20,none⟩)) (Below.refl _ _) rfl)
      unfold frB upd dB
      simp only[reduceIte,Nat.reduceEqDiff,Nat.reduceAdd]
    · have f27:(u 40)=.pointer (some ⟨w.heap.size+1,20,none⟩):=HF.out 27 (by decide) (hd ⟨27,.data⟩ (by simp at ho;subst ho;simp) rfl)
      simp at ho;subst ho
      clear hd
      unfold frB
      go_simp
      refine HK.out _ _ ?_
      refine Eq.mp (congrArg (fun t=>IVB w e a l.length c gr A0 A1 A2 A3 A4 A5 A6 (listed.setIfInBounds 28 true) { tmps:=t,defers:=[] } _) ?_) (IVB.put (gr:=gr) hs2 HSD.out HF.out 28 (by decide) (.bool e.ar) (Below.refl _ _) rfl)
      unfold frB upd dB
      simp only[f27,reduceIte,Nat.reduceEqDiff,Nat.reduceAdd]
    · have f28:(u 41)=.bool e.ar:=HF.out 28 (by decide) (hd ⟨28,.data⟩ (by simp at ho;subst ho;simp) rfl)
      simp at ho;subst ho
      clear hd
      unfold frB
      go_simp
      (go_at_call 258;(with_reducible refine (HB6.out _).mono ?_);rintro _ w3 ⟨rfl,rfl⟩)
      go_wp2_with fail
      refine HK.out _ _ ?_
      refine Eq.mp (congrArg (fun t=>IVB w e a l.length c gr A0 A1 A2 A3 A4 A5 A6 (listed.setIfInBounds 29 true) { tmps:=t,defers:=[] } _) ?_) (IVB.put (gr:=gr) hs2 HSD.out HF.out 29 (by decide) (.string A6) (Below.refl _ _) rfl)
      unfold frB upd dB
      simp only[f28,reduceIte,Nat.reduceEqDiff,Nat.reduceAdd]
    · have f26:(u 39)=.string (((((A0++A1)++A2)++A3)++A4)++A5):=HF.out 26 (by decide) (hd ⟨26,.data⟩ (by simp at ho;subst ho;simp) rfl)
      have f29:(u 42)=.string A6:=HF.out 29 (by decide) (hd ⟨29,.data⟩ (by simp at ho;subst ho;simp) rfl)
      simp at ho;subst ho
      clear hd
      unfold frB
      go_simp
      refine HK.out _ _ ?_
      refine Eq.mp (congrArg (fun t=>IVB w e a l.length c gr A0 A1 A2 A3 A4 A5 A6 (listed.setIfInBounds 30 true) { tmps:=t,defers:=[] } _) ?_) (IVB.put (gr:=gr) hs2 HSD.out HF.out 30 (by decide) (.string ((((((A0++A1)++A2)++A3)++A4)++A5)++A6)) (Below.refl _ _) rfl)
      unfold frB upd dB
      simp only[f26,f29,reduceIte,Nat.reduceEqDiff,Nat.reduceAdd]
    · have f30:(u 43)=.string ((((((A0++A1)++A2)++A3)++A4)++A5)++A6):=HF.out 30 (by decide) (hd ⟨30,.data⟩ (by simp at ho;subst ho;simp) rfl)
      simp at ho;subst ho
      clear hd
      unfold frB
      go_simp
      refine HK.out _ _ ?_
      refine Eq.mp (congrArg (fun t=>IVB w e a l.length c gr A0 A1 A2 A3 A4 A5 A6 (listed.setIfInBounds 31 true) { tmps:=t,defers:=[] } _) ?_) (IVB.put (gr:=gr) hs2 HSD.out HF.out 31 (by decide) (.string ((((((A0++A1)++A2)++A3)++A4)++A5)++A6)) (Below.refl _ _) rfl)
      unfold frB upd dB
      simp only[f30,reduceIte,Nat.reduceEqDiff,Nat.reduceAdd]
  · rintro listed x W hall ⟨u,rfl,-,hSD,hF⟩
    have f31:=hF 31 (by decide) (hall 31 (by decide))
    simp only[FB,dB] at f31
    rw[HS.out] at f31
    clear hF hall
    unfold frB
    go_wp2_with fail
    go_meet
    exact⟨rfl,f31,hSD⟩
 case rest =>
  obtain⟨rfl,rfl,hSD⟩:=hcut
  clear W0 HNU HN0 HB1 HN2 HT3 HT4 HN5 HB6 HS l1 l2 l3 l4 l5 l6
  obtain⟨-,-,-,-,-,-,-,-,q23,q24,qB⟩:=hSD
  go_upto_region 5 with fail
  go_region_held3 (fun w'=>w'.cell? ⟨w.heap.size,23,none⟩=some (.slice a l.length c)∧w'.cell? ⟨w.heap.size,24,none⟩=some (.int .i64 e.used)∧Hid (Below w.heap.size w w')) (first | assumption | exact⟨q23,q24,Lib.hid (Below.drew qB.out)⟩ | exact keepBt hb (by assumption) | exact keepBt (below_al _ _) (by assumption)) (first
   | (go_at_call 257;(refine (HN7.out _ _ ?_).mono ?_);(focus ((repeat (first | (with_reducible assumption) | (with_reducible refine is_oneA _ _ _ _ ?_;first | with_reducible rfl | (simp;done)) | (with_reducible refine is_oneD _ _ _ _ ?_;first | with_reducible rfl | (simp;done)) | (with_reducible refine is_twoA _ _ _ _ _ ?_;first | with_reducible rfl | (simp;done)) | (with_reducible refine is_twoD _ _ _ _ _ ?_;first | with_reducible rfl | (simp;done)) | (with_reducible apply IS.below;rotate_left 1;with_reducible assumption) | (with_reducible refine IS.below ?_ (below_al _ _)) | (with_reducible refine is_drew ?_)));done));rintro _ w3 ⟨rfl,hb⟩)
   | (go_at_call 257;(refine (HN9.out _ _ ?_).mono ?_);(focus ((repeat (first | (with_reducible assumption) | (with_reducible refine is_oneA _ _ _ _ ?_;first | with_reducible rfl | (simp;done)) | (with_reducible refine is_oneD _ _ _ _ ?_;first | with_reducible rfl | (simp;done)) | (with_reducible refine is_twoA _ _ _ _ _ ?_;first | with_reducible rfl | (simp;done)) | (with_reducible refine is_twoD _ _ _ _ _ ?_;first | with_reducible rfl | (simp;done)) | (with_reducible apply IS.below;rotate_left 1;with_reducible assumption) | (with_reducible refine IS.below ?_ (below_al _ _)) | (with_reducible refine is_drew ?_)));done));rintro _ w3 ⟨rfl,hb⟩)
   | (go_at_call 257;(refine (HN8.out _ (by assumption:_∧_∧Hid (Below _ _ _)).2.2.out).mono ?_);rintro _ w3 ⟨rfl,hb⟩))
  all_goals
   obtain⟨_,_,hB⟩:=(by assumption:_∧_∧Hid (Below _ _ _))
   go_wp2_with fail
   go_ret
   exact⟨_,rfl,HA.out,hB.out⟩
end
section
set_option maxHeartbeats 1600000
theorem rbody_any (x:Fu) (al gr:Value) (w:World) (hx:okX x=true) (h1:IS w al x.2.1) (h2:GS w gr x.2.2) :
  Calls Tryz.prog 195 #[.agg (x.1.vals al gr)] w fun r w'=>∃ t,r=.returned (.string t)∧Ds.bl t=bodyX x∧Below w.heap.size w w':=by
 obtain⟨e,l,g⟩:=x
 obtain⟨a,c,rfl,-,-⟩:=id h1
 obtain⟨a2,c2,rfl,-,-⟩:=id h2
 unfold okX at hx
 unfold bodyX
 simp only at hx h1 h2 ⊢
 split at hx
 · rename_i hk
   rw[if_pos hk]
   unfold okD at hx
   simp only[Bool.and_eq_true] at hx
   have hd:=dat_ok e l hx.1.2
   exact rbody0 e a l.length c l _ w hk h1 hd.1 (Nat.le_trans hd.2.1.1 (by decide)) (Nat.le_trans hd.2.1.2 (by decide))
 rename_i k0
 rw[if_neg k0]
 split at hx
 · rename_i hk
   rw[if_pos hk]
   unfold okG at hx
   simp only[Bool.and_eq_true] at hx
   have hg:=hx.1.2
   unfold Vp.grp at hg
   simp only[Bool.and_eq_true] at hg
   have r1:=rng1 _ _ _ hg.1.1
   have r2:=rng1 _ _ _ hg.1.2
   have r3:=own8 _ hg.2
   rw[Ds.bl_length] at r3
   exact rbody1 e _ _ w hk (by omega) (by omega) (by omega)
 rename_i k1
 rw[if_neg k1]
 split at hx
 · rename_i hk
   rw[if_pos hk]
   unfold okA at hx
   simp only[Bool.and_eq_true] at hx
   have hs:=ali_size e hx.1.2
   exact rbody2 e _ _ w hk (by omega)
 rename_i k2
 rw[if_neg k2]
 split at hx
 · rename_i hk
   rw[if_pos hk]
   unfold okC at hx
   simp only[Bool.and_eq_true] at hx
   have r1:=rng1 _ _ _ hx.1.2
   exact rbody3 e _ _ w hk (by omega)
 rename_i k3
 rw[if_neg k3]
 split at hx
 · rename_i hk
   unfold okP at hx
   simp only[Bool.and_eq_true] at hx
   exact rbody4 e _ a2 g.length c2 g w hk h2 (prof_ok e g hx.1.2).1
 · cases hx
theorem renc_any (x:Fu) (al gr:Value) (w:World) (hsz:x.1.name.size<=60) (h1:IS w al x.2.1) (h2:GS w gr x.2.2) :
  Calls Tryz.prog 104 #[.agg (x.1.vals al gr)] w fun r w'=>∃ t,r=.returned (.tuple #[.string t,.int .i64 (if okX x=true then 0 else 1)])∧Ds.bl t=(if okX x=true then recX x else [])∧Below w.heap.size w w':=by
 have hone:=is_one h1
 have hb:okX x=true->(bodyX x).length<=100000∧(Ek.key x.1.kind (Ds.bl x.1.name)).length<=100∧∀ W,Below w.heap.size w W->Calls Tryz.prog 195 #[.agg (x.1.vals al gr)] W fun r w'=>∃ t,r=.returned (.string t)∧Ds.bl t=bodyX x∧Below W.heap.size W w':=fun hx =>
  ⟨Nat.le_trans (bodyX_len x hx) (by decide),by have:=keyX_len x hx;unfold keyX at this;omega,fun W B=>rbody_any x al gr W hx (h1.below B) (h2.below B)⟩
 have hv:=fun W (B:Below w.heap.size w W)=>rva_any x al gr W hsz (h1.below B) (h2.below B)
 obtain⟨a2,c2,rfl,-,-⟩:=id h2
 exact rencode x.1 al a2 _ c2 (okX x) (bodyX x) w hone hv hb
end
end Go.Proofs.YtnojclchnhmggaaGreatDoor
