/- Contract of package rebuild: Entries. -/
import Derived.Test.YtnojclchnhmggaaGreatDoorBg
import Derived.Test.YtnojclchnhmggaaGreatDoorBn
import Derived.Test.YtnojclchnhmggaaGreatDoorAw7
import Derived.Test.YtnojclchnhmggaaGreatDoorBi1
namespace Go.Proofs.YtnojclchnhmggaaGreatDoor
open Go.RowKit
open Go.ChangeMaps (setBlock)
set_option maxHeartbeats 16000000
set_option maxRecDepth 8000
set_option linter.unusedSimpArgs false
theorem tput_sub {α κ:Type} [DecidableEq κ] {k:α->κ} {bet:α->α->Bool} {x:α} {l:List α} {Q:α->Prop} (hx:Q x) (hl:∀ y∈l,Q y):∀ y∈tput k bet l x,Q y:=tput_all Q k bet x hx l hl
structure EM (w wr:World) (ts us:List TE):Prop where
 b:Below w.heap.size w wr
 m0:wr.heap[w.heap.size]?=some (.map (gent sK (entV ts)) (entV ts).length)
 m1:wr.heap[w.heap.size+1]?=some (.map (gent sK (entV us)) (entV us).length)
 r0:∀ t∈ts,RdT wr t∧HiT (w.heap.size+2) t
 r1:∀ t∈us,RdT wr t∧HiT (w.heap.size+2) t
theorem EM.lt {w wr:World} {ts us:List TE} (h:EM w wr ts us):w.heap.size+1<wr.heap.size:=(Array.getElem?_eq_some_iff.1 h.m1).1
theorem EM.below {w wr w':World} {ts us:List TE} (h:EM w wr ts us) (hb:Below wr.heap.size wr w'):EM w w' ts us :=
 ⟨bt h.b hb,(hb.block _ (by have:=h.lt;omega)).trans h.m0,(hb.block _ h.lt).trans h.m1,fun t ht=>⟨(h.r0 t ht).1.below hb,(h.r0 t ht).2⟩,fun t ht=>⟨(h.r1 t ht).1.below hb,(h.r1 t ht).2⟩⟩
theorem RdT.grown {w w':World} {t:TE} {b m:Nat} (h:RdT w t∧HiT b t) (hg:w.grownBy w' (some m)) (hm:m<b):RdT w' t∧HiT b t :=
 ⟨h.1.keep (h.2.far hm) hg.size (fun y hy hne=>hg.block y hy (fun e=>hne e.symm)),h.2⟩
theorem EM.put0 {w wr w':World} {ts us:List TE} (h:EM w wr ts us) (bet:Tl->Tl->Bool) (t:TE) (hr:RdT wr t) (hh:HiT (w.heap.size+2) t) (h0:w'.heap[w.heap.size]?=some (.map (gent sK (entV (stT bet ts t))) (entV (stT bet ts t)).length)) (hg:wr.grownBy w' (some w.heap.size)):EM w w' (stT bet ts t) us :=
 ⟨h.b.trans (grown_below hg (Nat.le_refl _) h.b.size),h0,(hg.block _ h.lt (by intro e;have:=Option.some.inj e;omega)).trans h.m1,
  tput_sub (RdT.grown ⟨hr,hh⟩ hg (by omega)) (fun u hu=>RdT.grown (h.r0 u hu) hg (by omega)),fun u hu=>RdT.grown (h.r1 u hu) hg (by omega)⟩
theorem EM.put1 {w wr w':World} {ts us:List TE} (h:EM w wr ts us) (bet:Tl->Tl->Bool) (t:TE) (hr:RdT wr t) (hh:HiT (w.heap.size+2) t) (h0:w'.heap[w.heap.size+1]?=some (.map (gent sK (entV (stT bet us t))) (entV (stT bet us t)).length)) (hg:wr.grownBy w' (some (w.heap.size+1))):EM w w' ts (stT bet us t) :=
 ⟨h.b.trans (grown_below hg (by omega) h.b.size),(hg.block _ (by have:=h.lt;omega) (by intro e;have:=Option.some.inj e;omega)).trans h.m0,h0,
  fun u hu=>RdT.grown (h.r0 u hu) hg (by omega),tput_sub (RdT.grown ⟨hr,hh⟩ hg (by omega)) (fun u hu=>RdT.grown (h.r1 u hu) hg (by omega))⟩
theorem EM.start (w:World):EM w ((w.alloc (.map #[] 0)).alloc (.map #[] 0)) [] []:=by
 refine⟨by exact belA,?_,?_,(fun _ h=>by cases h),(fun _ h=>by cases h)⟩
 · exact (((Below.refl _ _).alloc (Nat.le_refl _) (.map #[] 0):Below (w.alloc (.map #[] 0)).heap.size (w.alloc (.map #[] 0)) _).block _ (by simp)).trans (heap_alloc_new w _)
 · have:=heap_alloc_new (w.alloc (.map #[] 0)) (.map #[] 0)
   rw[show (w.alloc (.map #[] 0)).heap.size=w.heap.size+1 by simp] at this
   exact this
theorem take_fold {L:List Lb} {k:Nat} (h:k<L.length) (st:List Tl × List Tl) (hst:(L.take k).foldl stP ([],[])=st):(L.take (k+1)).foldl stP ([],[])=stP st L[k]:=by
 rw[List.take_succ_eq_append_getElem h,List.foldl_append,hst,List.foldl_cons,List.foldl_nil]
theorem stP_no {st:List Tl × List Tl} {x:Lb} (h:tellX x=none):stP st x=st:=by unfold stP;rw[h]
theorem stP_yes {st:List Tl × List Tl} {x:Lb} {p:Fu × Fu} (h:tellX x=some p):stP st x=(tput tNm betS st.1 (p.1,x.1),if p.2.1.kind=1 then tput tNm betG st.2 (p.2,x.1) else st.2):=by unfold stP;rw[h]
theorem stP_y2 {ts us:List TE} {t u:TE} {x:Lb} {F:List Tl × List Tl} (hF:F=stP (ts.map Prod.fst,us.map Prod.fst) x) (h:tellX x=some (t.1.1,u.1.1)) (e1:(t.1.1,x.1)=t.1) (e2:(u.1.1,x.1)=u.1) :
  F=((stT betS ts t).map Prod.fst,if u.1.1.1.kind=1 then tput tNm betG (us.map Prod.fst) u.1 else us.map Prod.fst):=by
 rw[hF,stP_yes h,stT_fst,<-e1,<-e2]
theorem TE.cs_push (t:TE):t.en.push (.int .i64 t.1.2)=t.cs:=by unfold TE.cs TE.en;simp
attribute [local go_sem ↓] ldEnt stEntRow ldEntM ldTP stTP bldTP bldEnt
attribute [local go_sem ↓ high] stEnt
attribute [local go_sem] TE.cs_eq TE.cs_push hz_n hz_a hz_b held_en held_a held_n run_makeMap Held_drew isHead_mk headOf_mk offOf_mk isPtr_mk cellsOfV_mk isAggV_mk row_new row_new2 row_new2' row_drew row_drewN vals_size allOne_nil allOne_cons one_int one_bool one_string one_pointer one_slice one_func TE.cs_size TE.cs_one TE.en_size TE.one isIntW_mk
theorem re_ents1 (v:Value) (L:List Lb) (w:World) (hm:MaxL w) (hT:Tab w) (hS:RwS w v L) (hn:L.length<=100) (hsz:∀ x∈L,x.2.2.size<=1000) :
  Calls Tryz.prog 26 #[v] w fun r w'=>∃ v',r=.returned v'∧EL w' v' (entsR L)∧Below w.heap.size w w':=by
 obtain⟨va,vc,rfl,hz,hcell⟩:=hS
 have HC:=Lib.hid hcell
 have HP:=Lib.hid (fun (id:Int) (s:ByteArray) (hs:s.size<=1000) W (b:Below w.heap.size w W)=>(re_parse_o s W hs (hm.below b) (hT.below b)).mono (fun _ _ h=>h.te id))
 have HSZ:=Lib.hid hsz
 have HS0:=Lib.hid (EM.start w)
 have E1:=Lib.hid (fun ts t W h=>re_take betS 65 w.heap.size ts t W (enters_of Tryz.func65 (by kernel_rfl) rfl) re_bS h)
 have E2:=Lib.hid (fun ts t W h=>re_take betG 66 (w.heap.size+1) ts t W (enters_of Tryz.func66 (by kernel_rfl) rfl) re_bG h)
 clear hcell hm hT hsz
 go_enter Tryz.func26,Tryz.ntmps26
 go_wp2_with fail
 go_loopw [20] (fun i wr=>∃ (k:Nat) (ts us:List TE),k<=L.length∧i=.int .i64 k∧Hid ((L.take k).foldl stP ([],[])=(ts.map Prod.fst,us.map Prod.fst))∧EM w wr ts us) (fun i _=>L.length - (intOf i).toNat)
 case atStart=>exact⟨0,[],[],Nat.zero_le _,rfl,Lib.hid rfl,HS0.out⟩
 case round =>
  clear HS0
  obtain⟨k,ts,us,hk,rfl,HF,hM⟩:=hrel
  have HM:=Lib.hid hM
  have zr:=hM.lt
  by_cases hlt:k<L.length
  · obtain⟨b,o,rfl,hb,hcell⟩:=HC.out (by omega)
    obtain⟨p0,p1,p2⟩:=hcell k hlt
    have p0:=(hM.b.cell (p:=⟨b,o+k*3,none⟩) hb).trans p0
    have p1:=(hM.b.cell (p:=⟨b,o+k*3+1,none⟩) hb).trans p1
    have p2:=(hM.b.cell (p:=⟨b,o+k*3+2,none⟩) hb).trans p2
    have hF:=take_fold hlt _ HF.out
    have hs:=HSZ.out _ (List.getElem_mem hlt)
    generalize L[k]=x at p0 p1 p2 hF hs
    obtain⟨q0,q1,q2⟩:=x
    dsimp only at p0 p1 p2 hF hs
    have HF1:=Lib.hid hF
    have HPP:=Lib.hid (HP.out q0 q2 hs)
    have i1:(0:Int)<=(k:Int):=by omega
    have i2:(k:Int)<(L.length:Int):=by omega
    have N0:=fun o=>cell_row (row_new2 wr #[.int .i64 q0,.string q1,.string q2] 95 (0,0) o) 0 _ rfl
    have L0:=cell_row (row_new wr #[.int .i64 q0,.string q1,.string q2] 95 (0,0)) 2 _ rfl
    clear hF hs hcell hM HF
    go_upto_region 7 with (go_at_call 52;(refine (HPP.out _ (HM.out.below (below_al' _ _)).b).mono ?_);rintro _ w4 ⟨t,u,code,rfl,hR1,hR2,hH1,hH2,hb4,hi1,hi2,hc⟩;have z4:=hb4.size;have T4:=Lib.hid (And.intro hR1 (And.intro hH1 hi1));have U4:=Lib.hid (And.intro hR2 (And.intro hH2 hi2));have HCC:=Lib.hid hc;have M4:=Lib.hid ((HM.out.below (below_al' wr (.cells #[.int .i64 q0,.string q1,.string q2] 95))).below hb4);have LR4:=row_below hb4 (row_new wr #[.int .i64 q0,.string q1,.string q2] 95 (0,0)) (by show 0<3;decide);clear hR1 hR2 hH1 hH2 hb4 hi1 hi2 hc)
    generalize hW:World.setRow (World.setRow _ _ _) _ _=W5
    obtain⟨B5,X5,Y5⟩:Below w4.heap.size w4 W5∧row W5 w4.heap.size=t.en∧row W5 (w4.heap.size+1)=u.en:=by rw[<-hW];exact two_new w4 _ _ _ _ _ t.en_size u.en_size rfl rfl
    clear hW N0 L0
    have zb:w.heap.size+1<w4.heap.size∧wr.heap.size<w4.heap.size:=⟨by simp at z4;omega,by simp at z4;omega⟩
    have z5:w4.heap.size+1<W5.heap.size:=by
     rcases Nat.lt_or_ge (w4.heap.size+1) W5.heap.size with h | h
     · exact h
     · have e:=Y5;unfold row at e;rw[Array.getElem?_eq_none h] at e;exact absurd (congrArg Array.size e) (by rw[u.en_size];decide)
    have LR5:=row_below B5 LR4 (by show 0<3;decide)
    have n0:=cell_row LR5 0 (.int .i64 q0) rfl
    have n1:=cell_row LR5 1 (.string q1) rfl
    have x2:=cell_row X5 2 (.int .i64 t.1.1.1.d0) (vals_2 _ _ _)
    have x18:=cell_row X5 18 (.string t.1.1.1.vol) (vals_18 _ _ _)
    have M5:=Lib.hid (M4.out.below B5)
    have T5:=Lib.hid (T4.out.1.below B5)
    have U5:=Lib.hid (U4.out.1.below B5)
    have hHt:HiT (w.heap.size+2) t:=T4.out.2.1.mono (by simp;omega)
    have hHu:HiT (w.heap.size+2) u:=U4.out.2.1.mono (by simp;omega)
    have HH:=Lib.hid (And.intro hHt hHu)
    have hi1:=T4.out.2.2
    have hi2:=U4.out.2.2
    have hF:=HF1.out
    have hcc:=HCC.out
    clear T4 U4 HCC HF1 M4 HM LR4 hHt hHu p0 p1 p2
    unfold parC at hcc
    cases hp:parseX (Ds.bl q2) with
    | none =>
      rw[hp] at hcc
      injection hcc with e1 hcc
      injection hcc with e2 e3
      subst e3
      have HF2:=Lib.hid (hF.trans (stP_no (tell_p0 hp)))
      clear hF e1 e2 hi1 hi2 hp
      go_wp2_with fail
      go_roundw
      case rel=>exact⟨k+1,ts,us,by omega,by go_num,HF2,M5.out⟩
      case measure=>simp [intOf];omega
    | some p =>
      have hok:=par_ok hp
      rw[hp] at hcc
      injection hcc with e1 hcc
      injection hcc with e2 e3
      subst e3
      obtain⟨pa,pb⟩:=p
      dsimp only at e1 e2 hok
      subst e1 e2
      subst hi1
      have hcu:u.en.push (Value.int .i64 t.1.2)=u.cs:=by rw[<-hi2];exact u.cs_push
      have hue:=te_id hi2
      have tv:=tl_beq t.1.1.1.vol q1
      have HPA:=Lib.hid hp
      clear hp hi2
      by_cases hd:t.1.1.1.d0=t.1.2
      rotate_left
      · have HF2:=Lib.hid (hF.trans (stP_no (tell_pn HPA.out (fun q=>hd q.1))))
        have t1:(t.1.1.1.d0 != t.1.2)=true:=bne_iff_ne.2 hd
        clear hF hd hok hcu hue HPA
        go_wp2_with fail
        go_roundw
        case rel=>exact⟨k+1,ts,us,by omega,by go_num,HF2,M5.out⟩
        case measure=>simp [intOf];omega
      have t1:(t.1.1.1.d0 != t.1.2)=false:=by rw[hd];simp
      by_cases hv:t.1.1.1.vol=q1
      rotate_left
      · have HF2:=Lib.hid (hF.trans (stP_no (tell_pn HPA.out (fun q=>hv q.2))))
        rw[decide_eq_false hv] at tv
        clear hF hd hv hok hcu hue HPA
        go_wp2_with fail
        go_roundw
        case rel=>exact⟨k+1,ts,us,by omega,by go_num,HF2,M5.out⟩
        case measure=>simp [intOf];omega
      rw[decide_eq_true hv] at tv
      have HF2:Hid ((L.take (k+1)).foldl stP ([],[])=((stT betS ts t).map Prod.fst,if u.1.1.1.kind=1 then tput tNm betG (us.map Prod.fst) u.1 else us.map Prod.fst)):=Lib.hid (stP_y2 hF (tell_py HPA.out ⟨hd,hv⟩) (Prod.ext rfl rfl) hue)
      clear hue HPA
      clear hd hv hF
      by_cases hk1:u.1.1.1.kind=1
      · have hnm:u.1.1.1.name.toList.isEmpty=false:=by
         rcases hok.2.2 with q | ⟨q,-⟩
         · rw[q] at hk1;exact absurd hk1 (by decide)
         · have:=name_pos u.1.1 q hk1
           cases hq:u.1.1.1.name.toList.isEmpty
           · rfl
           · exact absurd (by have h2:=Lib.toList_data u.1.1.1.name;rw[List.isEmpty_iff.1 hq] at h2;exact h2.symm) this
        have t2:(u.1.1.1.kind==1)=true:=by rw[hk1];rfl
        have HF3:Hid ((L.take (k+1)).foldl stP ([],[])=((stT betS ts t).map Prod.fst,(stT betG us u).map Prod.fst)):=Lib.hid (by rw[HF2.out,if_pos hk1,stT_fst betG])
        clear HF2 hk1 hok
        go_wp2_with (first
         | ((with_reducible refine (E1.out ts t _ M5.out.m0).mono ?_);rintro _ w6 ⟨rfl,h0,hg⟩;have M6:=Lib.hid (M5.out.put0 betS t T5.out HH.out.1 h0 hg);have U6:=Lib.hid (RdT.grown ⟨U5.out,HH.out.2⟩ hg (by omega));have Y6:=(row_grown hg (by omega) (by intro e;have:=Option.some.inj e;omega)).trans Y5;have L6:=(row_grown hg (by omega) (by intro e;have:=Option.some.inj e;omega)).trans LR5;have y0:=cell_row Y6 0 (.int .i64 u.1.1.1.kind) (vals_0 _ _ _);have y1:=cell_row Y6 1 (.string u.1.1.1.name) (vals_1 _ _ _);have n6:=cell_row L6 0 (.int .i64 t.1.2) rfl;clear h0 hg)
         | ((with_reducible refine (E2.out us u _ M6.out.m1).mono ?_);rintro _ w7 ⟨rfl,h0,hg⟩;have M7:=Lib.hid (M6.out.put1 betG u U6.out.1 HH.out.2 h0 hg);clear h0 hg))
        go_roundw
        case rel=>exact⟨k+1,stT betS ts t,stT betG us u,by omega,by go_num,HF3,M7.out⟩
        case measure=>simp [intOf];omega
      · have t2:(u.1.1.1.kind==1)=false:=beq_eq_false_iff_ne.2 hk1
        have HF3:Hid ((L.take (k+1)).foldl stP ([],[])=((stT betS ts t).map Prod.fst,us.map Prod.fst)):=Lib.hid (by rw[HF2.out,if_neg hk1])
        clear HF2 hk1 hok
        go_wp2_with (first
         | ((with_reducible refine (E1.out ts t _ M5.out.m0).mono ?_);rintro _ w6 ⟨rfl,h0,hg⟩;have M6:=Lib.hid (M5.out.put0 betS t T5.out HH.out.1 h0 hg);have Y6:=(row_grown hg (by omega) (by intro e;have:=Option.some.inj e;omega)).trans Y5;have y0:=cell_row Y6 0 (.int .i64 u.1.1.1.kind) (vals_0 _ _ _);clear h0 hg))
        go_roundw
        case rel=>exact⟨k+1,stT betS ts t,us,by omega,by go_num,HF3,M6.out⟩
        case measure=>simp [intOf];omega
  · obtain rfl:k=L.length:=by omega
    have hA:allP L=(ts.map Prod.fst,us.map Prod.fst):=by have:=HF.out;rw[List.take_length] at this;exact this
    have hlen:ts.length+us.length<=200:=by
     have h1:=(allP_perm L).length_eq
     have h2:=allR_len L
     rw[hA] at h1
     simp only[List.length_append,List.length_map] at h1
     omega
    have HA:=Lib.hid hA
    clear hA HF E1 E2 HP HC HSZ
    go_wp2_with fail
    generalize hW1:World.alloc wr _=W1
    obtain⟨zW,c0,c1,hM1,hX⟩:W1.heap.size=wr.heap.size+1∧W1.cell? ⟨wr.heap.size,0,none⟩=some (.map (some w.heap.size))∧W1.cell? ⟨wr.heap.size,1,none⟩=some (.map (some (w.heap.size+1)))∧EM w W1 ts us∧∀ t∈ts++us,RdT W1 t:=by
     rw[<-hW1]
     have hm:=HM.out.below (below_al' wr (.cells #[.map (some w.heap.size),.map (some (w.heap.size+1))] 123))
     refine⟨by simp,cell_row (row_new wr _ _ (0,0)) 0 _ rfl,cell_row (row_new wr _ _ (0,0)) 1 _ rfl,hm,fun t ht=>?_⟩
     rcases List.mem_append.1 ht with h | h
     · exact (hm.r0 t h).1
     · exact (hm.r1 t h).1
    clear hW1 HM hM
    have HM1:=Lib.hid hM1
    have HX:=Lib.hid hX
    have HC0:=Lib.hid (And.intro c0 c1)
    clear hX c0 c1 hM1
    generalize wr.heap.size=N0 at zW HC0 ⊢
    go_loopw [11,76] (fun v j W=>∃ (n:Nat) (d:List TE),n<=2∧j=.int .i64 n∧Hid (d.Perm (selE ts us n))∧OU W1 W v d) (fun _ j _=>2 - (intOf j).toNat)
    case atStart=>exact⟨0,[],Nat.zero_le _,rfl,Lib.hid (.refl _),OU.start W1⟩
    case round =>
     rename World=>W
     obtain⟨n,d,hn2,rfl,HPM,hO⟩:=hrel
     have HO:=Lib.hid hO
     clear hO
     have i1:(0:Int)<=(n:Int):=by omega
     have hdl:d.length<=200:=by
      rw[HPM.out.length_eq]
      rcases n with _ | _ | n <;> simp [selE] <;> omega
     by_cases hlt:n<2
     · obtain⟨m,xs,hcell,hmap,hml,hpe,hxl⟩:∃ m xs,W.cell? ⟨N0,n,none⟩=some (.map (some m))∧W.heap[m]?=some (.map (gent sK (entV xs)) (entV xs).length)∧m<W1.heap.size∧selE ts us (n+1)=selE ts us n++xs∧d.length+xs.length<=200:=by
        have hd:=HPM.out.length_eq
        have z1:=HM1.out.lt
        have hz:N0<W1.heap.size:=by omega
        rcases n with _ | _ | n
        · refine⟨w.heap.size,ts,(HO.out.b.cell (p:=⟨N0,0,none⟩) hz).trans HC0.out.1,(HO.out.b.block _ (by omega)).trans HM1.out.m0,by omega,rfl,?_⟩
          simp [selE] at hd;rw[hd];simp;omega
        · refine⟨w.heap.size+1,us,(HO.out.b.cell (p:=⟨N0,1,none⟩) hz).trans HC0.out.2,(HO.out.b.block _ (by omega)).trans HM1.out.m1,by omega,rfl,?_⟩
          simp [selE] at hd;omega
        · omega
       have HMAP:=Lib.hid hmap
       have i2:(n:Int)<2:=by omega
       clear hmap
       go_wp2_with (at_range;refine mk_s.wrange _ rfl (.tmp 80) rfl m (entV xs) rfl HMAP.out ?_;intro w2 hG hB hz2;have HU0:=Lib.hid (HO.out.range hml hG hB);clear hG hB hz2)
       go_frame
       go_loopw [11] (fun v W2=>∃ vis:List Nat,RU W1 W2 m W.heap.size xs v vis (d++visL xs vis)∧(visL xs vis).length+lftE xs W2 W.heap.size<=xs.length) (fun _ W2=>lftE xs W2 W.heap.size)
       case atStart=>exact⟨[],by have:=HU0.out;simpa [visL] using this,by have:=lft_le xs w2 W.heap.size;simpa [visL] using this⟩
       case round =>
        clear HU0
        rename World=>W2
        obtain⟨vis,hU,hvl⟩:=hrel
        have HU:=Lib.hid hU
        clear hU
        go_wp2_with (first
         | (at_next;refine wnextE _ rfl _ rfl m W.heap.size xs vis rfl HU.out.g (fun hd=>?_) (fun t i w3 hw hen=>?_);rotate_left;have U3:=Lib.hid (HU.out.next hw.out.2.2.1 hw.out.2.2.2.2.1);have N3:=mid_told w3 t 125;have N4:(mid (w3.alloc (.cells t.cs 125)) w3.heap.size 0).size=33:=(by rw[N3];exact t.en_size);have hz3:=U3.out.o.b.size;have HVL:=Lib.hid (And.intro hvl (And.intro (hw.out.2.2.2.2.2 w3 hw.out.2.2.2.2.1) (congrArg List.length hw.out.2.1)));rotate_right)
         | (at_builtin;refine wp_appX _ rfl (.tmp 86) (.tmp 89) 48 28 _ _ 33 336 rfl Tryz.underlying48 en_i en_i0 en_i1 en_i2 (vals_size _ _ _) (by decide) W1.heap.size u11 (.slice (some ⟨w3.heap.size+1,0,none⟩) 1 1) (d++visL xs vis).length 1 (tcs TE.en (d++visL xs vis)) t.en.toList rfl (U3.out.below (by exact belA)).o.own rfl (cs_33 (by simp) t.en_size) (all1 t.one) (by have:=HVL.out.1;unfold maxLen;simp;omega) (by have:=HVL.out.1;simp;omega) (by simp;omega) ?_;intro a5 c5 w5 hown hg5 hat;have U5:=Lib.hid ((U3.out.below (by exact belA)).app hown hg5 hat);clear hown hg5 hat))
        · go_roundw
          case rel=>exact⟨n+1,d++visL xs vis,by omega,by go_num,Lib.hid (by rw[hpe];exact HPM.out.append hd.out),HU.out.o⟩
          case measure=>simp [intOf];omega
        · go_roundw
          case rel =>
           refine⟨vis++[i],by have h5:=U5.out;rw[List.length_append] at h5;rw[hw.out.2.1,<-List.append_assoc];exact h5,?_⟩
           have h1:=HVL.out
           rw[List.length_append,List.length_singleton] at h1
           have h2:lftE xs w5 W.heap.size=lftE xs w3 W.heap.size:=by unfold lftE;rw[U5.out.g.seen,hw.out.2.2.2.2.1.seen]
           omega
          case measure=>exact hw.out.2.2.2.2.2 _ U5.out.g
     · obtain rfl:n=2:=by omega
       go_wp2_with (go_at_call 69;(refine (re_sortT (HO.out.tje (fun t ht=>HX.out t (HPM.out.subset ht))) (by omega)).mono ?_);rintro _ w5 ⟨rfl,d',hp,hs,hEL,hgr⟩;have HEN:=Lib.hid (And.intro hp (And.intro hs (And.intro hEL hgr)));clear hp hs hEL hgr)
       go_ret
       obtain⟨hp,hs,hEL,hgr⟩:=HEN.out
       have hperm:(d'.map (fun t=>t.1.1)).Perm ((allP L).1.map Prod.fst++(allP L).2.map Prod.fst):=by
        rw[HA.out]
        have:=(hp.trans HPM.out).map (fun t:TE=>t.1.1)
        rw[show selE ts us 2=ts++us from rfl,List.map_append] at this
        rw[List.map_map,List.map_map]
        exact this
       have hsort:(d'.map (fun t:TE=>t.1.1)).Pairwise (fun a b=>ltK b a=false):=by
        rw[List.pairwise_map]
        exact hs
       have e:=ents_uni L (d'.map (fun t=>t.1.1)) hperm hsort
       rw[e] at hEL
       exact⟨_,rfl,hEL,(bt HM1.out.b HO.out.b).grown hgr (bt HM1.out.b HO.out.b).size (fun q hq=>Nat.le_trans HM1.out.b.size (own_base HO.out.own q hq).1)⟩
end Go.Proofs.YtnojclchnhmggaaGreatDoor
