/- Contract of the reference of chapter 37: Compare. -/
import Derived.Test.YtnojclchnhmggaaGreatDoorBn
import Derived.Test.YtnojclchnhmggaaGreatDoorRsA
import Derived.Test.YtnojclchnhmggaaGreatDoorSrt
import Derived.StillTailTactics
import Derived.Test.YtnojclchnhmggaaGreatDoorSaC
import Derived.Test.YtnojclchnhmggaaGreatDoorVaE
import Derived.Test.YtnojclchnhmggaaGreatDoorBo
namespace Go.Proofs.YtnojclchnhmggaaGreatDoor
open Go.RowKit
set_option maxRecDepth 8000
set_option maxHeartbeats 16000000
section
set_option linter.unusedSimpArgs false
attribute [local go_sem ↓] ldEnt stEntRow ldEntM
attribute [local go_sem ↓ high] stEnt
attribute [local go_sem] vals_size isHead_mk headOf_mk offOf_mk isPtr_mk cellsOfV_mk isAggV_mk row_new row_new2 row_new2' row_drew row_drewN allOne_nil allOne_cons one_int one_bool one_string one_pointer one_slice one_func
theorem rsame_fu (x:Fu) (al gr al2 gr2:Value) (w:World) (h1:IS w al x.2.1) (h2:GS w gr x.2.2) (h3:IS w al2 x.2.1) (h4:GS w gr2 x.2.2) :
  Calls Tryz.prog 63 #[.agg (x.1.vals al gr),.agg (x.1.vals al2 gr2)] w fun r w'=>r=.returned (.bool true)∧Below w.heap.size w w':=by
 have:=rsame x.1 x.1 al gr al2 gr2 x.2.1 x.2.1 x.2.2 x.2.2 w h1 h3 h2 h4
 rw[(sameE_eq x.1 x.1 x.2.1 x.2.1 x.2.2 x.2.2).2 ⟨rfl,rfl,rfl⟩] at this
 exact this
theorem r37_diffs (v1 v2:Value) (l:List Df) (w:World) (hl:l.length<=1000000) (h1:DF w v1 l) (h2:DF w v2 l) :
  Calls Tryz.prog 28 #[v1,v2] w fun r w'=>r=.returned (.bool true)∧Below w.heap.size w w':=by
 obtain⟨a1,c1,rfl,hc1⟩:=h1
 obtain⟨a2,c2,rfl,hc2⟩:=h2
 have H1:=Lib.hid hc1
 have H2:=Lib.hid hc2
 have t0:((l.length:Int) != (l.length:Int))=false:=by simp
 clear hc1 hc2
 go_enter Tryz.func28,Tryz.ntmps28
 go_wp2_with fail
 go_loopw [5] (fun i wr=>∃ k:Nat,k<=l.length∧i=.int .i64 k∧Hid (Below w.heap.size w wr)) (fun i _=>l.length - (intOf i).toNat)
 case atStart=>exact⟨0,Nat.zero_le _,rfl,Lib.hid (Below.refl _ _)⟩
 case round =>
  obtain⟨k,hk,rfl,HB⟩:=hrel
  by_cases hlt:k<l.length
  · obtain⟨g1,o1,rfl,b1,q1⟩:=H1.out (by omega)
    obtain⟨g2,o2,rfl,b2,q2⟩:=H2.out (by omega)
    have e1:=fun j u hu=>(HB.out.cell (p:=⟨g1,o1+k*4+j,none⟩) b1).trans (q1 k hlt j u hu)
    have e2:=fun j u hu=>(HB.out.cell (p:=⟨g2,o2+k*4+j,none⟩) b2).trans (q2 k hlt j u hu)
    generalize l[k]=y at e1 e2
    obtain⟨y0,y1,y2,y3⟩:=y
    have p0:wr.cell? ⟨g1,o1+k*4,none⟩=some (.int .i64 y0):=e1 0 _ rfl
    have p1:=e1 1 (.int .i64 y1) rfl
    have p2:=e1 2 (.string y2) rfl
    have p3:=e1 3 (.string y3) rfl
    have r0:wr.cell? ⟨g2,o2+k*4,none⟩=some (.int .i64 y0):=e2 0 _ rfl
    have r1:=e2 1 (.int .i64 y1) rfl
    have r2:=e2 2 (.string y2) rfl
    have r3:=e2 3 (.string y3) rfl
    have i1:(0:Int)<=(k:Int):=by omega
    have i2:(k:Int)<(l.length:Int):=by omega
    clear e1 e2 q1 q2
    go_wp2_with fail
    go_quiet (fail)
    go_wp2_with fail
    go_roundw
    case rel=>exact⟨k+1,by omega,by go_num,Lib.hid (HB.out.trans (bdr _ _ _))⟩
    case measure=>simp [intOf];omega
  · obtain rfl:k=l.length:=by omega
    go_wp2_with fail
    go_ret
    exact⟨rfl,HB.out⟩
theorem r34_entries (v1 v2:Value) (l:List Fu) (w:World) (h1:EL w v1 l) (h2:EL w v2 l) :
  Calls Tryz.prog 25 #[v1,v2] w fun r w'=>r=.returned (.bool true)∧Below w.heap.size w w':=by
 have h1':=h1
 have h2':=h2
 obtain⟨a1,c1,rfl,hl,-⟩:=h1'
 obtain⟨a2,c2,rfl,-,-⟩:=h2'
 have H1:=Lib.hid h1
 have H2:=Lib.hid h2
 have t0:((l.length:Int) != (l.length:Int))=false:=by simp
 clear h1 h2
 go_enter Tryz.func25,Tryz.ntmps25
 go_wp2_with fail
 go_loopw [5] (fun i wr=>∃ k:Nat,k<=l.length∧i=.int .i64 k∧Below w.heap.size w wr) (fun i _=>l.length - (intOf i).toNat)
 case atStart=>exact⟨0,Nat.zero_le _,rfl,by exact belA⟩
 case round =>
  obtain⟨k,hk,rfl,B⟩:=hrel
  by_cases hlt:k<l.length
  · obtain⟨_,_,e,-,q1⟩:=H1.out.below B
    injection e with e1 e2 e3
    subst e1 e3
    obtain⟨_,_,e,-,q2⟩:=H2.out.below B
    injection e with e4 e5 e6
    subst e4 e6
    obtain⟨b,o,al,gr,rfl,hb,hmid,hI,hG⟩:=q1 k hlt
    obtain⟨b',o',al',gr',rfl,hb',hmid',hI',hG'⟩:=q2 k hlt
    generalize l[k]=x at hmid hmid' hI hG hI' hG'
    have HS:=Lib.hid (fun W (b:Below wr.heap.size wr W)=>rsame_fu x al gr al' gr' W (hI.below b) (hG.below b) (hI'.below b) (hG'.below b))
    have hone:=vals_one x.1 al gr (is_one hI) (gs_one hG)
    have hone':=vals_one x.1 al' gr' (is_one hI') (gs_one hG')
    have i1:(0:Int)<=(k:Int):=by omega
    have i2:(k:Int)<(l.length:Int):=by omega
    have BB:=Lib.hid B
    have hz:(mid wr b (o+k*33)).size=33:=by rw[hmid];exact vals_size _ _ _
    have hz':(mid wr b' (o'+k*33)).size=33:=by rw[hmid'];exact vals_size _ _ _
    clear q1 q2 e2 e5 B hI hG hI' hG'
    go_upto_region 6 with fail
    refine wp_region_still_tail 8 (by kernel_rfl) (by kernel_rfl) ?_
    simp only[List.take_succ_cons,List.take_zero,List.drop_succ_cons,List.drop_zero]
    change wpStill _ _ wr.drew (fun a'=>wpList _ _ _ _ a' wr.drew) _ _
    obtain⟨w3,hw3⟩:∃ w3:World,wr.drew=w3:=⟨_,rfl⟩
    rw[hw3]
    have B2:=Lib.hid (show Below wr.heap.size wr w3 by rw[<-hw3];exact Below.drew (Below.refl wr.heap.size wr))
    have m1:mid w3 b (o+k*33)=x.1.vals al gr:=by rw[<-hw3];exact hmid
    have m2:mid w3 b' (o'+k*33)=x.1.vals al' gr':=by rw[<-hw3];exact hmid'
    have m3:(mid w3 b (o+k*33)).size=33:=by rw[<-hw3];exact hz
    have m4:(mid w3 b' (o'+k*33)).size=33:=by rw[<-hw3];exact hz'
    clear hw3
    repeat still_step
    try refine wpStill_nil ?_
    go_wp2_with (go_at_call 63;(refine (HS.out _ B2.out).mono ?_);rintro _ w2 ⟨rfl,hb⟩;have B3:=Lib.hid (bt B2.out hb))
    go_roundw
    case rel=>exact⟨k+1,by omega,by go_num,bt BB.out B3.out⟩
    case measure=>simp [intOf];omega
  · obtain rfl:k=l.length:=by omega
    go_wp2_with fail
    go_ret
    exact⟨rfl,B⟩
end
section
def midD (w:World) (b o:Nat):Array Value:=(row w b).extract o (o+21)
theorem midD_mid {w:World} {b o:Nat} {e:En} {al gr:Value} (h:mid w b o=e.vals al gr):midD w b (o+2)=e.dat:=by
 rw[<-vals_dat e al gr,<-h]
 unfold midD mid
 rw[Array.extract_extract]
 congr 1
 omega
theorem ldDatM (ev:Operand->Value) (w:World) (dst x t pos af gd) (h1:isPtr (ev x)=true) (h2:(midD w (headOf (ev x)) (offOf (ev x))).size=21) :
  (execOp ev ⟨dst,.load 24 x,t,pos,af,gd⟩).run Tryz.prog w=.ok (.value (.agg (midD w (headOf (ev x)) (offOf (ev x))))) w:=by
 obtain⟨g,o,hg⟩:∃ g o,ev x=.pointer (some ⟨g,o,none⟩):=by
  unfold isPtr at h1
  split at h1
  · rename_i g o h;exact⟨g,o,h⟩
  · cases h1
 rw[hg,headOf_mk,offOf_mk] at h2 ⊢
 simp only at h2 ⊢
 unfold execOp
 have hc:w.rangeAt g o (midD w g o).toList:=fun j v hv=>by
  rw[Array.getElem?_toList] at hv
  unfold midD at hv
  rw[Array.getElem?_extract] at hv
  split at hv
  · exact cell_row rfl (o+j) v hv
  · cases hv
 have hl:(midD w g o).toList.length=21:=by simpa using h2
 have hr:=run_loadAt_mid (P:=Tryz.prog) w g o 24 _ _ hc Tryz.underlying24 rfl (by rw[hl];kernel_rfl)
 simp only[hg,Sem.run_bind,hr,Result.andThen_ok,Sem.run_pure,Array.toArray_toList]
end
section
set_option linter.unusedSimpArgs false
theorem lab_snoc {L:List Lb} {j:Nat} (h:j<L.length) (id:Int) (vol:ByteArray):lab (L.take (j+1)) id vol=(lab (L.take j) id vol || decide (L[j].1=id∧L[j].2.1=vol)):=by
 unfold lab
 rw[List.take_succ_eq_append_getElem h,List.any_append,List.any_cons,List.any_nil,Bool.or_false]
theorem srtL_snoc (l:List Df) (x:Df):srtL ltD (l++[x])=insL ltD (srtL ltD l) x:=by
 unfold srtL
 rw[List.foldl_append,List.foldl_cons,List.foldl_nil]
def lastD (E:List Fu) (x:Lb):Df × Bool:=match fstE E x.1 with
 | none=>((1,x.1,x.2.1,⟨#[]⟩),true)
 | some e=>if e.1.vol=x.2.1 then ((2,x.1,x.2.1,e.1.name),!noteIs (Ds.bl x.2.2) e) else ((3,x.1,x.2.1,e.1.name),true)
theorem dif2_last (E:List Fu) (x:Lb):dif2 E x=if (lastD E x).2=true then [(lastD E x).1] else []:=by
 unfold dif2 lastD
 cases fstE E x.1 with
 | none=>rfl
 | some e =>
   dsimp only
   by_cases h:e.1.vol=x.2.1
   · simp only[if_pos h]
     cases noteIs (Ds.bl x.2.2) e <;> rfl
   · simp only[if_neg h];rfl
theorem last_skip {E:List Fu} {j:Nat} (h:j<E.length) (x:Lb) (hn:¬ (E[j].1.kind=0∧E[j].1.d0=x.1)):lastD (E.drop j) x=lastD (E.drop (j+1)) x:=by
 unfold lastD fstE
 rw[List.drop_eq_getElem_cons h,List.find?_cons,decide_eq_false hn]
theorem last_hit {E:List Fu} {j:Nat} (h:j<E.length) (x:Lb) (hn:E[j].1.kind=0∧E[j].1.d0=x.1):lastD (E.drop j) x=if E[j].1.vol=x.2.1 then ((2,x.1,x.2.1,E[j].1.name),!noteIs (Ds.bl x.2.2) E[j]) else ((3,x.1,x.2.1,E[j].1.name),true):=by
 unfold lastD fstE
 rw[List.drop_eq_getElem_cons h,List.find?_cons,decide_eq_true hn]
theorem last_id (E:List Fu) (x:Lb):(lastD E x).1.2.1=x.1∧(lastD E x).1.2.2.1=x.2.1:=by
 unfold lastD
 split
 · exact⟨rfl,rfl⟩
 · split <;> exact⟨rfl,rfl⟩
attribute [local go_sem ↓] ldEnt stEntRow ldEntM ldDatM stDat
attribute [local go_sem ↓ high] stEnt
attribute [local go_sem] hz_n hz_a hz_b held_en held_a held_n Held_drew isHead_mk headOf_mk offOf_mk isPtr_mk cellsOfV_mk isAggV_mk row_new row_new2 row_new2' row_drew row_drewN vals_size allOne_nil allOne_cons one_int one_bool one_string one_pointer one_slice one_func TE.en_size TE.one dat_size dat_one
theorem r37_compare (v u:Value) (E:List Fu) (L:List Lb) (w:World) (hE:EL w v E) (hS:RwS w u L) (hn:E.length+L.length<=1000) (hsz:∀ x∈L,x.2.2.size<=1000) :
  Calls Tryz.prog 30 #[v,u] w fun r w'=>∃ v',r=.returned v'∧DF w' v' (diffR E L)∧Below w.heap.size w w':=by
 have hE':=hE
 obtain⟨a1,c1,rfl,-,-⟩:=hE'
 obtain⟨va,vc,rfl,hz,hcell⟩:=hS
 have HE:=Lib.hid hE
 have HC:=Lib.hid hcell
 have HP:=Lib.hid (fun (id:Int) (s:ByteArray) (hs:s.size<=1000) W=>(rn_parse_o s W hs).mono (fun _ _ h=>h.te id))
 have HSZ:=Lib.hid hsz
 have HIN:=Lib.hid (fun l x g c base W h1 h2=>r37_insert l x g c base W h1 h2)
 have HO0:Hid ((w.alloc (.cells #[] 98)).ownsRow w.heap.size 98 4 (.slice (some ⟨w.heap.size,0,none⟩) 0 0) 0 []):=Lib.hid (own_zeroR rfl (Nat.le_refl _))
 have HB0:Hid (Below w.heap.size w (w.alloc (.cells #[] 98))):=Lib.hid (below_al' _ _)
 clear hcell hsz hE
 go_enter Tryz.func30,Tryz.ntmps30
 go_wp2_with fail
 go_loopw [5,6] (fun v i wr=>∃ (k g c:Nat) (d:List Df),k<=E.length∧i=.int .i64 k∧v=.slice (some ⟨g,0,none⟩) d.length c∧Hid (srtL ltD ((E.take k).flatMap (dif1 L))=d)∧Hid (Below w.heap.size w wr)∧Hid (wr.ownsRow w.heap.size 98 4 (.slice (some ⟨g,0,none⟩) d.length c) d.length (tcs dc d))∧d.length<=k) (fun _ i _=>E.length - (intOf i).toNat)
 case atStart=>exact⟨0,w.heap.size,0,[],Nat.zero_le _,rfl,rfl,Lib.hid rfl,HB0,HO0,Nat.le_refl _⟩
 case round =>
  clear HO0 HB0
  obtain⟨k,g,c,d,hk,rfl,rfl,HD,HB,HO,hdl⟩:=hrel
  have zr:=HB.out.size
  have i1:(0:Int)<=(k:Int):=by omega
  by_cases hlt:k<E.length
  · obtain⟨_,_,e,-,q0⟩:=HE.out
    injection e with e1 e2 e3
    subst e1 e3
    obtain⟨b,o,al,gr,rfl,hb,hmid,-,-⟩:=q0 k hlt
    have HDn:=Lib.hid (dif1_snoc L hlt)
    generalize E[k]=x at hmid HDn
    have m0:mid wr b (o+k*33)=x.1.vals al gr:=mid_below HB.out hmid (by rw[vals_size];decide)
    have md:midD wr b (o+k*33+2)=x.1.dat:=midD_mid m0
    have md2:(midD wr b (o+k*33+2)).size=21:=by rw[md];exact dat_size _
    have y0:wr.cell? ⟨b,o+k*33,none⟩=some (.int .i64 x.1.kind):=cell_mid m0 0 _ (vals_0 _ _ _)
    have i2:(k:Int)<(E.length:Int):=by omega
    have yn:wr.cell? ⟨b,o+k*33+1,none⟩=some (.string x.1.name):=cell_mid m0 1 _ (vals_1 _ _ _)
    have hgl:=(own_base HO.out g rfl).2
    clear hmid q0 e2 m0
    have R:=row_new wr x.1.dat 24 (0,0)
    have y1:=(below_al' wr (.cells x.1.dat 24)).cell (block_lt_of_cell y0) |>.trans y0
    go_wp2_with fail
    rename World=>W0
    have dd0:=cell_row R 0 _ (dat_0 _)
    have dd16:=cell_row R 16 _ (dat_16 _)
    have HB1:=Lib.hid (bt HB.out (below_al' W0 (.cells x.1.dat 24)))
    clear md md2 R
    go_loopw [8,9] (fun s i wr=>∃ j:Nat,j<=L.length∧i=.int .i64 j∧s=.bool ((x.1.kind != 0) || lab (L.take j) x.1.d0 x.1.vol)∧Hid (Below (W0.alloc (.cells x.1.dat 24)).heap.size (W0.alloc (.cells x.1.dat 24)) wr)) (fun _ i _=>L.length - (intOf i).toNat)
    case atStart=>exact⟨0,Nat.zero_le _,rfl,(by simp [lab]),Lib.hid (Below.refl _ _)⟩
    case round =>
     obtain⟨j,hj,rfl,rfl,HBj⟩:=hrel
     have j1:(0:Int)<=(j:Int):=by omega
     have w0:=below_cell HBj.out dd0
     have w16:=below_cell HBj.out dd16
     have HBw:=Lib.hid (bt HB1.out HBj.out)
     by_cases hjl:j<L.length
     · obtain⟨b2,o2,rfl,hb2,hcell⟩:=HC.out (by omega)
       obtain⟨p0,p1,-⟩:=hcell j hjl
       have p0:=(HBw.out.cell (p:=⟨b2,o2+j*3,none⟩) hb2).trans p0
       have p1:=(HBw.out.cell (p:=⟨b2,o2+j*3+1,none⟩) hb2).trans p1
       have hl:=lab_snoc hjl x.1.d0 x.1.vol
       generalize L[j]=y at p0 p1 hl
       obtain⟨r0,r1,r2⟩:=y
       dsimp only at p0 p1 hl
       have j2:(j:Int)<(L.length:Int):=by omega
       have hl2:((x.1.kind != 0) || lab (L.take (j+1)) x.1.d0 x.1.vol)=(((x.1.kind != 0) || lab (L.take j) x.1.d0 x.1.vol) || decide (r0=x.1.d0∧r1=x.1.vol)):=by rw[hl,Bool.or_assoc]
       have HL2:=Lib.hid hl2
       clear hl hl2 hcell dd0 dd16 y0 y1 yn
       generalize ((x.1.kind != 0) || lab (L.take j) x.1.d0 x.1.vol)=sb at HL2 ⊢
       cases sb
       rotate_left
       · go_upto_region 10 with fail
         go_quiet (fail)
         go_wp2_with fail
         go_roundw
         case rel=>exact⟨j+1,by omega,by go_num,by rw[HL2.out];rfl,Lib.hid (bt HBj.out (bdr _ _ _))⟩
         case measure=>simp [intOf];omega
       · by_cases h1:r0=x.1.d0
         rotate_left
         · have t1:(r0==x.1.d0)=false:=beq_eq_false_iff_ne.2 h1
           have HL3:=Lib.hid (HL2.out.trans (by rw[decide_eq_false (fun q=>h1 q.1),Bool.or_false]))
           clear h1
           go_upto_region 10 with fail
           go_quiet (fail)
           go_wp2_with fail
           go_roundw
           case rel=>exact⟨j+1,by omega,by go_num,by rw[HL3.out],Lib.hid (bt HBj.out (bdr _ _ _))⟩
           case measure=>simp [intOf];omega
         · have t1:(r0==x.1.d0)=true:=by rw[h1];simp
           have t2:=tl_beq r1 x.1.vol
           have HL3:=Lib.hid (HL2.out.trans (show _=decide (r1=x.1.vol) by rw[Bool.false_or];exact decide_eq_decide.2 ⟨fun q=>q.2,fun q=>⟨h1,q⟩⟩))
           clear h1
           go_upto_region 10 with fail
           go_quiet (fail)
           go_wp2_with fail
           go_roundw
           case rel=>exact⟨j+1,by omega,by go_num,by rw[HL3.out],Lib.hid (bt HBj.out (bdr _ _ _))⟩
           case measure=>simp [intOf];omega
     · obtain rfl:j=L.length:=by omega
       have hlf:lab (L.take L.length) x.1.d0 x.1.vol=lab L x.1.d0 x.1.vol:=by rw[List.take_length]
       rw[hlf]
       have hdf:dif1 L x=if ((x.1.kind != 0) || lab L x.1.d0 x.1.vol)=true then [] else [(0,x.1.d0,x.1.vol,x.1.name)]:=by
        unfold dif1
        by_cases hk0:x.1.kind=0
        · rw[show (x.1.kind != 0)=false by rw[hk0];rfl,Bool.false_or]
          cases lab L x.1.d0 x.1.vol
          · rw[if_pos ⟨hk0,rfl⟩];rfl
          · rw[if_neg (fun q=>by cases q.2),if_pos rfl]
        · rw[if_neg (fun q=>hk0 q.1),show (x.1.kind != 0)=true from bne_iff_ne.2 hk0,Bool.true_or,if_pos rfl]
       have HDF:=Lib.hid hdf
       have HBww:=Lib.hid (show Below W0.heap.size W0 wr from (bt (below_al' W0 (.cells x.1.dat 24)) HBj.out))
       clear hlf hdf
       generalize ((x.1.kind != 0) || lab L x.1.d0 x.1.vol)=sb at HDF ⊢
       cases sb
       rotate_left
       · have HD2:Hid (srtL ltD ((E.take (k+1)).flatMap (dif1 L))=d):=Lib.hid (by rw[HDn.out,HDF.out,if_pos rfl,List.append_nil];exact HD.out)
         go_wp2_with fail
         go_roundw
         case rel=>exact⟨k+1,g,c,d,by omega,by go_num,rfl,HD2,HBw,Lib.hid (own_keep HO.out (fun x hx=>HBww.out.block x (own_base HO.out x hx).2)),by omega⟩
         case measure=>simp [intOf];omega
       · have HD2:Hid (srtL ltD ((E.take (k+1)).flatMap (dif1 L))=insL ltD d (0,x.1.d0,x.1.vol,x.1.name)):=Lib.hid (by rw[HDn.out,HDF.out,if_neg (by decide),srtL_snoc,HD.out])
         have yn2:=(HBww.out.cell (block_lt_of_cell yn)).trans yn
         go_upto_region 12 with fail
         refine wp_region_still_tail 11 (by kernel_rfl) (by kernel_rfl) ?_
         simp only[List.take_succ_cons,List.take_zero,List.drop_succ_cons,List.drop_zero]
         change wpStill _ _ wr.drew (fun a'=>wpList _ _ _ _ a' wr.drew) _ _
         obtain⟨w6,hw6⟩:∃ w6:World,wr.drew=w6:=⟨_,rfl⟩
         rw[hw6]
         have B6:Below wr.heap.size wr w6:=by rw[<-hw6];exact Below.drew (Below.refl _ _)
         clear hw6
         have v0:=(B6.cell (block_lt_of_cell w0)).trans w0
         have v16:=(B6.cell (block_lt_of_cell w16)).trans w16
         have yn6:=(B6.cell (block_lt_of_cell yn2)).trans yn2
         have HO6:=Lib.hid (own_keep HO.out (fun x hx=>(bt HBww.out B6).block x (own_base HO.out x hx).2))
         have HB6:=Lib.hid (bt HBw.out B6)
         clear w0 w16 yn yn2 dd0 dd16 y0 y1
         repeat still_step
         try refine wpStill_nil ?_
         go_wp2_with (go_at_call 78;(refine (HIN.out d (0,x.1.d0,x.1.vol,x.1.name) g c w.heap.size w6 (by omega) HO6.out).mono ?_);rintro _ w7 ⟨g',c',rfl,hown,hb7⟩;have HO7:=Lib.hid (own_le hown HB6.out.size);have HB7:=Lib.hid (bt HB6.out hb7);clear hown hb7)
         go_roundw
         case rel=>exact⟨k+1,g',c',_,by omega,by go_num,rfl,HD2,HB7,HO7,by rw[insL_len];omega⟩
         case measure=>simp [intOf];omega
  · obtain rfl:k=E.length:=by omega
    have HD0:Hid (srtL ltD (E.flatMap (dif1 L))=d):=Lib.hid (by have:=HD.out;rwa [List.take_length] at this)
    clear HD
    go_wp2_with fail
    go_loopw [5,10] (fun v i wr=>∃ (k g c:Nat) (d:List Df),k<=L.length∧i=.int .i64 k∧v=.slice (some ⟨g,0,none⟩) d.length c∧Hid (srtL ltD (E.flatMap (dif1 L)++(L.take k).flatMap (dif2 E))=d)∧Hid (Below w.heap.size w wr)∧Hid (wr.ownsRow w.heap.size 98 4 (.slice (some ⟨g,0,none⟩) d.length c) d.length (tcs dc d))∧d.length<=E.length+k) (fun _ i _=>L.length - (intOf i).toNat)
    case atStart=>exact⟨0,g,c,d,Nat.zero_le _,rfl,rfl,Lib.hid (by rw[<-HD0.out];simp),HB,HO,hdl⟩
    case round =>
     clear HD0 HB HO
     obtain⟨k,g,c,d,hk,rfl,rfl,HD,HB,HO,hdl⟩:=hrel
     have zr:=HB.out.size
     have i1:(0:Int)<=(k:Int):=by omega
     by_cases hlt:k<L.length
     · obtain⟨b,o,rfl,hb,hcell⟩:=HC.out (by omega)
       obtain⟨p0,p1,p2⟩:=hcell k hlt
       have hD:=dif2_snoc E hlt
       have hs:=HSZ.out _ (List.getElem_mem hlt)
       have HL:=Lib.hid (fun W (B:Below w.heap.size w W)=>And.intro ((B.cell (p:=⟨b,o+k*3,none⟩) hb).trans p0) (And.intro ((B.cell (p:=⟨b,o+k*3+1,none⟩) hb).trans p1) ((B.cell (p:=⟨b,o+k*3+2,none⟩) hb).trans p2)))
       generalize L[k]=x at HL hD hs
       obtain⟨x0,x1,x2⟩:=x
       dsimp only at HL hD hs
       have HDn:=Lib.hid hD
       have HPP:=Lib.hid (HP.out 0 x2 hs)
       have i2:(k:Int)<(L.length:Int):=by omega
       clear hD hs hcell p0 p1 p2
       go_upto_region 16 with fail
       obtain⟨q0,q1,q2⟩:=HL.out wr HB.out
       go_region_held3 (fun w'=>w'.cell? ⟨b,o+k*3,none⟩=some (.int .i64 x0)∧w'.cell? ⟨b,o+k*3+1,none⟩=some (.string x1)) (first | exact⟨q0,q1⟩ | exact⟨below_cell (below_al' wr.drew _) q0,below_cell (below_al' wr.drew _) q1⟩) (fail)
       all_goals
        rename_i hq
        clear hq q0 q1 q2
        obtain⟨W0,hW0⟩:∃ W0,W0=wr:=⟨_,rfl⟩
        subst hW0
        generalize hW1:World.drew (World.alloc W0 _)=W1
        obtain⟨BW1,RW1,KW1⟩:Below W0.heap.size W0 W1∧row W1 W0.heap.size=#[.int .i64 1,.int .i64 x0,.string x1,.string ⟨#[]⟩]∧Held W1 W0.heap.size 4:=by
         rw[<-hW1]
         exact⟨(below_al' W0 _).drew,row_below (Below.drew (Below.refl _ _)) (row_new W0 _ _ (0,0)) (Nat.zero_lt_succ 3),(Held.new W0 _ _ 4 rfl (by decide)).below (Below.drew (Below.refl _ _))⟩
        have zW1:W0.heap.size<W1.heap.size:=by rw[<-hW1];simp
        clear hW1
        go_wp2_with fail
        go_loopw [12,13] (fun f i wr2=>∃ j:Nat,j<=E.length∧i=.int .i64 ((j:Int) - 1)∧f=.bool (lastD (E.drop j) (x0,x1,x2)).2∧Hid (Below W0.heap.size W0 wr2)∧Hid (row wr2 W0.heap.size=dc (lastD (E.drop j) (x0,x1,x2)).1)∧Hid (Held wr2 W0.heap.size 4)) (fun _ i _=>(intOf i+1).toNat)
        case atStart=>exact⟨E.length,Nat.le_refl _,rfl,(by rw[List.drop_length];rfl),Lib.hid BW1,Lib.hid (by rw[List.drop_length];exact RW1),Lib.hid KW1⟩
        case round =>
         obtain⟨j,hj,hi,rfl,HB2,HR2,HK2⟩:=hrel
         have HBw:=Lib.hid (bt HB.out HB2.out)
         rcases Nat.eq_zero_or_pos j with rfl | hpos
         · rw[show ((0:Nat):Int) - 1=-1 by omega] at hi
           subst hi
           rw[List.drop_zero] at HR2 ⊢
           have hD:=HDn.out
           rw[dif2_last] at hD
           generalize lastD E (x0,x1,x2)=q at HR2 hD ⊢
           obtain⟨⟨z0,z1,z2,z3⟩,fl⟩:=q
           dsimp only at HR2 hD ⊢
           cases fl
           · have HD2:Hid (srtL ltD (E.flatMap (dif1 L)++(L.take (k+1)).flatMap (dif2 E))=d):=Lib.hid (by rw[hD,if_neg (by decide),List.append_nil];exact HD.out)
             clear hD
             go_wp2_with fail
             go_roundw
             case rel=>exact⟨k+1,g,c,d,by omega,by go_num,rfl,HD2,HBw,Lib.hid (own_keep HO.out (fun x hx=>HB2.out.block x (own_base HO.out x hx).2)),by omega⟩
             case measure=>simp [intOf] <;> omega
           · have HD2:Hid (srtL ltD (E.flatMap (dif1 L)++(L.take (k+1)).flatMap (dif2 E))=insL ltD d (z0,z1,z2,z3)):=Lib.hid (by rw[hD,if_pos rfl,<-List.append_assoc,srtL_snoc,HD.out])
             have cc0:=cell_row HR2.out 0 _ rfl
             have cc1:=cell_row HR2.out 1 _ rfl
             have cc2:=cell_row HR2.out 2 _ rfl
             have cc3:=cell_row HR2.out 3 _ rfl
             have HO6:=Lib.hid (own_keep HO.out (fun x hx=>HB2.out.block x (own_base HO.out x hx).2))
             have zn:d.length<=1000:=by omega
             clear hD
             go_wp2_with (go_at_call 78;(refine (HIN.out d (z0,z1,z2,z3) g c w.heap.size wr zn HO6.out).mono ?_);rintro _ w7 ⟨g',c',rfl,hown,hb7⟩;have HO7:=Lib.hid (own_le hown HBw.out.size);have HB7:=Lib.hid (bt HBw.out hb7);clear hown hb7)
             go_roundw
             case rel=>exact⟨k+1,g',c',_,by omega,by go_num,rfl,HD2,HB7,HO7,by rw[insL_len];omega⟩
             case measure=>simp [intOf] <;> omega
         · obtain⟨m,rfl⟩:∃ m,j=m+1:=⟨j - 1,by omega⟩
           rw[show ((m+1:Nat):Int) - 1=(m:Int) by omega] at hi
           subst hi
           have hml:m<E.length:=by omega
           obtain⟨_,_,e,-,q0⟩:=HE.out
           injection e with e1 e2 e3
           subst e1 e3
           obtain⟨b2,o2,al,gr,rfl,hb2,hmid,hI,hG⟩:=q0 m hml
           have hSK:=last_skip hml (x0,x1,x2)
           have hHT:=last_hit hml (x0,x1,x2)
           have hone:=vals_one E[m].1 al gr (is_one hI) (gs_one hG)
           generalize E[m]=y at hmid hI hG hSK hHT hone
           have m0:mid wr b2 (o2+m*33)=y.1.vals al gr:=mid_below HBw.out hmid (by rw[vals_size];decide)
           have m1:(mid wr b2 (o2+m*33)).size=33:=by rw[m0];exact vals_size _ _ _
           have j1:(0:Int)<=(m:Int):=by omega
           have j2:(m:Int)<(E.length:Int):=by omega
           obtain⟨W2,hW2⟩:∃ W2,W2=wr.alloc (.cells (y.1.vals al gr) 28):=⟨_,rfl⟩
           obtain⟨BW2,RW2,zW2⟩:Below wr.heap.size wr W2∧row W2 wr.heap.size=y.1.vals al gr∧wr.heap.size<W2.heap.size:=by
            rw[hW2]
            exact⟨below_al' wr _,row_new wr _ _ (0,0),by simp⟩
           have HB3:=Lib.hid (bt HB2.out BW2)
           have zB2:=HB2.out.size
           have HR3:=Lib.hid ((row_below BW2 HR2.out (Nat.zero_lt_succ 3)))
           have HK3:=Lib.hid (HK2.out.below BW2)
           have HW3:=Lib.hid (bt HBw.out BW2)
           have HIG:=Lib.hid (fun W (B:Below w.heap.size w W)=>And.intro (hI.below B) (hG.below B))
           have HGLT:W0.heap.size<wr.heap.size:=block_lt_of_cell (cell_row HR2.out 0 _ rfl)
           have HRW:=Lib.hid RW2
           have n0:=cell_row RW2 0 _ (vals_0 _ _ _)
           have n2:=cell_row RW2 2 _ (vals_2 _ _ _)
           obtain⟨q0',-,-⟩:=HL.out W2 HW3.out
           clear hmid q0 e2 hI hG HR2 HK2 RW2
           go_upto_region 22 with fail
           rw[<-hW2]
           clear hW2 m0 m1
           have HSK:=Lib.hid hSK
           have HHT:=Lib.hid hHT
           clear hSK hHT
           by_cases hk0:y.1.kind=0
           rotate_left
           · have t0:(y.1.kind != 0)=true:=bne_iff_ne.2 hk0
             have HE2:Hid (lastD (E.drop m) (x0,x1,x2)=lastD (E.drop (m+1)) (x0,x1,x2)):=Lib.hid (HSK.out (fun q=>hk0 q.1))
             clear hk0
             go_quiet (fail)
             go_wp2_with fail
             go_roundw
             case rel=>exact⟨m,by omega,by go_num,by rw[HE2.out],Lib.hid (bt HB3.out (bdr _ _ _)),Lib.hid (by rw[HE2.out];exact HR3.out),Lib.hid (HK3.out.below (bdr _ _ _))⟩
             case measure=>simp [intOf] <;> omega
           have t0:(y.1.kind != 0)=false:=by rw[hk0];rfl
           by_cases hd0:y.1.d0=x0
           rotate_left
           · have t1:(y.1.d0 != x0)=true:=bne_iff_ne.2 hd0
             have HE2:Hid (lastD (E.drop m) (x0,x1,x2)=lastD (E.drop (m+1)) (x0,x1,x2)):=Lib.hid (HSK.out (fun q=>hd0 q.2))
             clear hk0 hd0
             go_quiet (fail)
             go_wp2_with fail
             go_roundw
             case rel=>exact⟨m,by omega,by go_num,by rw[HE2.out],Lib.hid (bt HB3.out (bdr _ _ _)),Lib.hid (by rw[HE2.out];exact HR3.out),Lib.hid (HK3.out.below (bdr _ _ _))⟩
             case measure=>simp [intOf] <;> omega
           have t1:(y.1.d0 != x0)=false:=by rw[hd0];simp
           have HH2:=Lib.hid (HHT.out ⟨hk0,hd0⟩)
           clear hk0 hd0 HSK HHT
           go_quiet (fail)
           generalize hW3:W2.drewN nq=W3
           have BW3:Below W2.heap.size W2 W3:=by rw[<-hW3];exact bdr _ _ _
           clear hW3
           have HW4:=Lib.hid (bt HW3.out BW3)
           obtain⟨-,p1',p2'⟩:=HL.out W3 HW4.out
           have RY3:=Lib.hid (row_below BW3 HRW.out (by rw[vals_size];decide))
           have HK4:=Lib.hid (HK3.out.below BW3)
           have HB4:=Lib.hid (bt HB3.out BW3)
           have zW3:=BW3.size
           have hLI:=last_id (E.drop (m+1)) (x0,x1,x2)
           have D3:=row_below BW3 HR3.out (Nat.zero_lt_succ 3)
           generalize lastD (E.drop (m+1)) (x0,x1,x2)=q at D3 hLI ⊢
           obtain⟨⟨z0,z1,z2,z3⟩,zf⟩:=q
           have e1:x0=z1:=hLI.1.symm
           have e2:x1=z2:=hLI.2.symm
           subst e1 e2
           clear hLI
           have HD3:=Lib.hid (show row W3 W0.heap.size=#[.int .i64 z0,.int .i64 x0,.string x1,.string z3] from D3)
           clear D3 HR3 HK3 HB3 HRW n0 n2 q0'
           go_upto_region 24 with (go_at_call 73;(refine (HPP.out _).mono ?_);rintro _ w4 ⟨t,u,code,rfl,hR1,hR2,hH1,hH2,hb4,hi1,hi2,hc⟩;have HB5:=Lib.hid hb4;have T4:=Lib.hid hR1;have HH1:=Lib.hid hH1;have HCC:=Lib.hid hc;clear hR1 hR2 hH1 hH2 hb4 hi1 hi2 hc)
           generalize hW:World.setRow (World.setRow _ _ _) _ _=W5
           obtain⟨B5,X5,z5⟩:Below w4.heap.size w4 W5∧row W5 w4.heap.size=t.en∧w4.heap.size<W5.heap.size:=by
            rw[<-hW]
            exact⟨below_setRow (below_setRow (by exact belA) (Nat.le_refl _) _) (by omega) _,by rw[row_set_ne _ _ _ _ (by omega),row_p _ _ _ (hz_a _ _ _)],by simp;omega⟩
           clear hW
           have zw4:=HB5.out.size
           have BT:=bt HB5.out B5
           have RY5:=row_below BT RY3.out (by rw[vals_size];decide)
           have D5:=row_below BT HD3.out (Nat.zero_lt_succ 3)
           have K5:=HK4.out.below BT
           have B50:=bt HB4.out BT
           have T5:=T4.out.below B5
           have n1:=cell_row RY5 1 (.string y.1.name) (vals_1 _ _ _)
           have cc0:=cell_row D5 0 _ rfl
           have cc3:=cell_row D5 3 _ rfl
           have f0:=K5.2.2 0
           have f3:=K5.2.2 3
           have HX5:=Lib.hid X5
           have HRY5:=Lib.hid RY5
           have HD5:=Lib.hid D5
           have HK5:=Lib.hid K5
           have HB50:=Lib.hid B50
           have HT5:=Lib.hid T5
           clear X5 RY5 D5 K5 B50 T5 BT B5 T4 p1' p2'
           go_upto_region 25 with fail
           generalize hW6:World.setCell (World.setCell _ _ _) _ _=W6
           obtain⟨D6,K6,RY6,X6,B6,T6⟩:row W6 W0.heap.size=#[.int .i64 2,.int .i64 x0,.string x1,.string y.1.name]∧Held W6 W0.heap.size 4∧row W6 wr.heap.size=y.1.vals al gr∧row W6 w4.heap.size=t.en∧Below W0.heap.size W0 W6∧RdT W6 t:=by
            rw[<-hW6]
            refine⟨?_,heldSetCell (heldSetCell HK5.out _ _ _) _ _ _,?_,?_,(HB50.out.setCell (Nat.le_refl _) _).setCell (Nat.le_refl _) _,?_⟩
            · rw[row_setCell_eq (heldSetCell HK5.out _ _ _),row_setCell_eq HK5.out,HD5.out];rfl
            · rw[row_setCell_ne _ _ _ _ _ (by omega),row_setCell_ne _ _ _ _ _ (by omega)];exact HRY5.out
            · rw[row_setCell_ne _ _ _ _ _ (by omega),row_setCell_ne _ _ _ _ _ (by omega)];exact HX5.out
            · refine HT5.out.keep (HH1.out.far (show W0.heap.size<W3.heap.size by omega)) (by simp) fun y hy hne=>?_
              rw[setCell_other (fun e=>hne (by rw[e])),setCell_other (fun e=>hne (by rw[e]))]
           clear hW6 cc0 cc3 f0 f3 n1 HX5 HRY5 HD5 HK5 HB50 HT5
           have BW6:=Lib.hid (bt HB.out B6)
           have IG6:IS W6 al y.2.1∧GS W6 gr y.2.2:=HIG.out W6 BW6.out
           have HSM:=Lib.hid (rsame t.1.1.1 y.1 t.al t.gr al gr t.1.1.2.1 y.2.1 t.1.1.2.2 y.2.2 W6 T6.1 IG6.1 T6.2 IG6.2)
           clear IG6 T6
           obtain⟨nb,hnb⟩:∃ nb,(!noteIs (Ds.bl x2) y)=nb:=⟨_,rfl⟩
           rw[hnb] at HH2
           have hcc:=HCC.out
           unfold parC at hcc
           cases hp:parseX (Ds.bl x2) with
           | none =>
             rw[hp] at hcc
             injection hcc with g1 hcc
             injection hcc with g2 g3
             subst g3
             have hno:noteIs (Ds.bl x2) y=false:=by unfold noteIs;rw[hp]
             rw[hno] at hnb
             subst hnb
             clear hno g1 g2 hp HSM
             go_upto_region 26 with fail
             obtain⟨V,hV⟩:∃ V,V=W6:=⟨_,rfl⟩
             subst hV
             have BV:=Lib.hid B6
             have BVw:=BW6
             have DV:=Lib.hid D6
             have KV:=Lib.hid K6
             have RYV:=Lib.hid RY6
             clear B6 D6 K6 RY6 X6
             have nV18:=cell_row RYV.out 18 (.string y.1.vol) (vals_18 _ _ _)
             obtain⟨-,pV1,-⟩:=HL.out V BVw.out
             have tv:=tl_beq y.1.vol x1
             by_cases hv:y.1.vol=x1
             · rw[decide_eq_true hv] at tv
               have HH3:=Lib.hid (HH2.out.trans (if_pos hv))
               clear hv
               go_quiet (fail)
               go_wp2_with fail
               go_roundw
               case rel=>exact⟨m,by omega,by go_num,by rw[HH3.out] <;> rfl,Lib.hid (bt BV.out (bdr _ _ _)),Lib.hid (by rw[HH3.out];exact DV.out),Lib.hid (KV.out.below (bdr _ _ _))⟩
               case measure=>simp [intOf] <;> omega
             · rw[decide_eq_false hv] at tv
               have HH3:=Lib.hid (HH2.out.trans (if_neg hv))
               clear hv
               go_quiet (fail)
               generalize hV2:V.drewN nq=V2
               obtain⟨BV2,DV2,KV2⟩:Below W0.heap.size W0 V2∧row V2 W0.heap.size=#[.int .i64 2,.int .i64 x0,.string x1,.string y.1.name]∧Held V2 W0.heap.size 4:=by rw[<-hV2];exact⟨bt BV.out (bdr _ _ _),DV.out,KV.out.below (bdr _ _ _)⟩
               clear hV2
               have f0:=KV2.2.2 0
               have cc0:=cell_row DV2 0 _ rfl
               go_wp2_with fail
               go_roundw
               case rel=>exact⟨m,by omega,by go_num,by rw[HH3.out] <;> rfl,Lib.hid (BV2.setCell (Nat.le_refl _) _),Lib.hid (by rw[row_setCell_eq KV2,DV2,HH3.out];rfl),Lib.hid (heldSetCell KV2 _ _ _)⟩
               case measure=>simp [intOf] <;> omega
           | some p =>
             rw[hp] at hcc
             injection hcc with g1 hcc
             injection hcc with g2 g3
             subst g3
             have hno:noteIs (Ds.bl x2) y=sameE t.1.1.1 y.1 t.1.1.2.1 y.2.1 t.1.1.2.2 y.2.2:=by
              unfold noteIs
              rw[hp,<-g1]
             generalize sameE t.1.1.1 y.1 t.1.1.2.1 y.2.1 t.1.1.2.2 y.2.2=sb at hno HSM
             rw[hno] at hnb
             subst hnb
             clear hno g1 g2 hp
             go_upto_region 26 with (go_at_call 63;(refine HSM.out.mono ?_);rintro _ V ⟨rfl,hb7⟩;have BV:=Lib.hid (bt B6 hb7);have BVw:=Lib.hid (bt BW6.out hb7);have DV:=Lib.hid (row_below hb7 D6 (Nat.zero_lt_succ 3));have KV:=Lib.hid (K6.below hb7);have RYV:=Lib.hid (row_below hb7 RY6 (by rw[vals_size];decide));clear hb7)
             clear B6 D6 K6 RY6 X6
             have nV18:=cell_row RYV.out 18 (.string y.1.vol) (vals_18 _ _ _)
             obtain⟨-,pV1,-⟩:=HL.out V BVw.out
             have tv:=tl_beq y.1.vol x1
             by_cases hv:y.1.vol=x1
             · rw[decide_eq_true hv] at tv
               have HH3:=Lib.hid (HH2.out.trans (if_pos hv))
               clear hv
               go_quiet (fail)
               go_wp2_with fail
               go_roundw
               case rel=>exact⟨m,by omega,by go_num,by rw[HH3.out] <;> rfl,Lib.hid (bt BV.out (bdr _ _ _)),Lib.hid (by rw[HH3.out];exact DV.out),Lib.hid (KV.out.below (bdr _ _ _))⟩
               case measure=>simp [intOf] <;> omega
             · rw[decide_eq_false hv] at tv
               have HH3:=Lib.hid (HH2.out.trans (if_neg hv))
               clear hv
               go_quiet (fail)
               generalize hV2:V.drewN nq=V2
               obtain⟨BV2,DV2,KV2⟩:Below W0.heap.size W0 V2∧row V2 W0.heap.size=#[.int .i64 2,.int .i64 x0,.string x1,.string y.1.name]∧Held V2 W0.heap.size 4:=by rw[<-hV2];exact⟨bt BV.out (bdr _ _ _),DV.out,KV.out.below (bdr _ _ _)⟩
               clear hV2
               have f0:=KV2.2.2 0
               have cc0:=cell_row DV2 0 _ rfl
               go_wp2_with fail
               go_roundw
               case rel=>exact⟨m,by omega,by go_num,by rw[HH3.out] <;> rfl,Lib.hid (BV2.setCell (Nat.le_refl _) _),Lib.hid (by rw[row_setCell_eq KV2,DV2,HH3.out];rfl),Lib.hid (heldSetCell KV2 _ _ _)⟩
               case measure=>simp [intOf] <;> omega
     · obtain rfl:k=L.length:=by omega
       have hD:diffR E L=d:=by have:=HD.out;rwa [List.take_length] at this
       have HDD:=Lib.hid hD
       have HDF:=Lib.hid (DF.own HO.out)
       clear hD HD HC HP HSZ HE HIN
       go_wp2_with fail
       go_ret
       exact⟨_,rfl,by rw[HDD.out];exact HDF.out,HB.out⟩
end
end Go.Proofs.YtnojclchnhmggaaGreatDoor
