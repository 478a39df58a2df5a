/- Several texts in one: Sq Rp Rq. -/
import Derived.Test.YtlmgolkgodfmpaaGreatDoorSo
import Derived.Test.YtlmgolkgodfmpaaGreatDoorChA
import Derived.Test.YtlmgolkgodfmpaaGreatDoorSrt
import Derived.Test.YtlmgolkgodfmpaaGreatDoorRm
import Derived.Test.YtlmgolkgodfmpaaGreatDoorRh
import Derived.StillTailTactics
section
/- The profiles of sorted rows: each is valid and has no alternates; what Check answers by them. No program in sight. -/
namespace Go.Proofs.YtlmgolkgodfmpaaGreatDoor
set_option maxHeartbeats 1600000
set_option maxRecDepth 8000
theorem key80 (y:Fu) (hx:okX y=true) (hk:(keyX y).head?=some 80):y.2.1=[]:=by
 have h4:y.1.kind=4:=by
  unfold keyX Ek.key at hk
  split at hk
  · unfold Ek.letter at hk
    simp only[List.head?_cons,Option.some.injEq] at hk
    (repeat' split at hk) <;> first | assumption | (exact absurd hk (by decide))
  · cases hk
 unfold okX at hx
 rw[if_neg (by omega),if_neg (by omega),if_neg (by omega),if_neg (by omega),if_pos h4] at hx
 unfold okP at hx
 simp only[Bool.and_eq_true] at hx
 exact ((sameE_eq _ _ _ _ _ _).1 hx.2).2.1.symm
theorem proR_q:∀ (S:List Rw) (out:List Fu),(∀ x∈S,(kyR x).head?=some 80)→(∀ y∈out,okX y=true∧y.2.1=[])→∀ y∈(proR S out).1,okX y=true∧y.2.1=[]
 | [],_,_,h=>h
 | x::S,out,hS,h=>by
   rw[proR]
   split
   · intro y hy;cases hy
   · rename_i y hd
     split
     · rename_i hk
       refine proR_q S _ (fun z hz=>hS z (by simp [hz])) fun z hz=>?_
       rcases List.mem_append.1 hz with hz | hz
       · exact h z hz
       · rw[List.mem_singleton] at hz;subst hz
         have hok:=(decX_sound _ _ hd).1
         exact⟨hok,key80 z hok (by rw[hk];exact hS x (by simp))⟩
     · intro y hy;cases hy
theorem proR_len:∀ (S:List Rw) (out:List Fu),(proR S out).1.length≤out.length+S.length
 | [],out=>Nat.le_add_right _ _
 | x::S,out=>by
   rw[proR,List.length_cons]
   split
   · simp
   · split
     · refine Nat.le_trans (proR_len S _) ?_
       rw[List.length_append,List.length_singleton];omega
     · simp
theorem srt_head (id:Int) (l:List Rw):∀ x∈srt id 80 l,(kyR x).head?=some 80:=fun x hx=>by
 have h:=(srt_mem id 80 l l.length x).1 (by rw[List.take_of_length_le (Nat.le_refl _)];exact hx)
 have h2:=h.2
 unfold inL at h2
 simp only[Bool.and_eq_true,decide_eq_true_eq] at h2
 exact h2.2
theorem srt_le (id:Int) (c:UInt8) (l:List Rw):(srt id c l).length≤l.length:=by
 have:=srt_len id c l l.length
 rwa [List.take_of_length_le (Nat.le_refl _)] at this
def chkR (P:List Fu × Int) (u:ByteArray) (gl:List ByteArray) (name:ByteArray) (need:Int):Int :=
 if Ds.name (Ds.bl name)=false∨need<0∨3<need then 1 else if need=0 then 0 else if P.2≠0 then P.2 else if lvl (P.1.map toEf) u gl name<need then 17 else 0
theorem chkF_ref (l:List Rw) (id cd ca:Int) (u:ByteArray) (gl:List ByteArray) (name:ByteArray) (need:Int) (hd:DstL l) (hca:0≤ca):(chkF l id 0 cd ca u gl name need).1=chkR (proR (srt id 80 l) []) u gl name need:=by
 have h:=proF_ref l id cd ca hd hca
 unfold chkF chkR
 split
 · rfl
 split
 · rfl
 simp only
 rw[h.1,h.2]
end Go.Proofs.YtlmgolkgodfmpaaGreatDoor
end
section
/- Contracts of the reference of chapter 34: Profiles, Entries, Check over rows. -/
namespace Go.Proofs.YtlmgolkgodfmpaaGreatDoor
open Go.RowKit
set_option maxHeartbeats 16000000
set_option maxRecDepth 8000
theorem HJ.startA (base:Nat) (w:World) (q:Nat) (hq:q=w.heap.size) (h:base≤w.heap.size):HJ base (w.alloc (.cells #[] 27)) (.slice (some ⟨q,0,none⟩) 0 0) [] []:=by
 subst hq
 exact⟨World.ownsRow_made w #[] 0 h (Nat.zero_le _) rfl,rfl,(fun _ h=>by cases h),(fun _ h=>by cases h),(fun _ _ _ h=>by simp at h)⟩
theorem rdec_some (s:ByteArray) (y:Fu) (w:World) (h:decX (Ds.bl s)=some y) :
  Calls Tryz.prog 100 #[.string s] w fun r w'=>∃ (a1:Option Addr) (c1:Nat) (a2:Option Addr) (c2:Nat),r=.returned (.tuple #[.agg (y.1.vals (.slice a1 y.2.1.length c1) (.slice a2 y.2.2.length c2)),.int .i64 0])∧IS w' (.slice a1 y.2.1.length c1) y.2.1∧GS w' (.slice a2 y.2.2.length c2) y.2.2∧Below w.heap.size w w'∧(∀ q,(Value.slice a1 y.2.1.length c1).ownBlock=some q→w.heap.size≤q)∧(∀ q,(Value.slice a2 y.2.2.length c2).ownBlock=some q→w.heap.size≤q):=by
 refine (rdec_any s w).mono ?_
 rintro _ w' ⟨x,al,gr,code,rfl,hI,hG,hb,hc,hf1,hf2⟩
 rcases hc with ⟨h1,rfl⟩ | ⟨h1,-,-⟩
 · obtain rfl:x=y:=Option.some.inj (h1.symm.trans h)
   obtain⟨a1,c1,rfl,-⟩:=id hI
   obtain⟨a2,c2,rfl,-⟩:=id hG
   exact⟨a1,c1,a2,c2,rfl,hI,hG,hb,hf1,hf2⟩
 · rw[h] at h1;cases h1
theorem rdec_none (s:ByteArray) (w:World) (h:decX (Ds.bl s)=none) :
  Calls Tryz.prog 100 #[.string s] w fun r w'=>∃ (a1:Option Addr) (c1:Nat) (a2:Option Addr) (c2:Nat),r=.returned (.tuple #[.agg (En.zero.vals (.slice a1 0 c1) (.slice a2 0 c2)),.int .i64 11])∧Below w.heap.size w w':=by
 refine (rdec_any s w).mono ?_
 rintro _ w' ⟨x,al,gr,code,rfl,hI,hG,hb,hc,hf1,hf2⟩
 rcases hc with ⟨h1,rfl⟩ | ⟨-,rfl,rfl⟩
 · rw[h] at h1;cases h1
 · obtain⟨a1,c1,rfl,-⟩:=id hI
   obtain⟨a2,c2,rfl,-⟩:=id hG
   exact⟨a1,c1,a2,c2,rfl,hb⟩
theorem rp_key (k:Int) (s:ByteArray) (w:World):Calls Tryz.prog 15 #[.int .i64 k,.string s] w fun r w'=>r=.returned (.string (keyZ k s))∧w'=w:=by
 refine (rkey k s w).mono ?_
 rintro _ w' ⟨t,rfl,ht,rfl⟩
 exact⟨ret_str (Ds.bl_inj (ht.trans (keyZ_bl k s).symm)),rfl⟩
def PrQ (w w':World) (R:List Fu × Int) (r:Ending):Prop :=
 ∃ hv rows,r=.returned (.tuple #[hv,.int .i64 R.2])∧HJ w.heap.size w' hv (R.1.map toEf) rows∧Below w.heap.size w w'
theorem proR_next {S:List Rw} {k:Nat} (h:k<S.length) (out:List Fu):proR (S.drop k) out=match decX (Ds.bl S[k].2.2) with | none=>([],11) | some y=>if keyX y=kyR S[k] then proR (S.drop (k+1)) (out++[y]) else ([],11):=by
 rw[List.drop_eq_getElem_cons h,proR]
 rfl
theorem below_yR {w w1:World} {o:Obj} (hb:Below (w.alloc o).heap.size (w.alloc o) w1):Below w.heap.size w w1:=((Below.refl _ _).alloc (Nat.le_refl _) _).trans (hb.mono (by simp))
structure KW (w w1 wr:World) (ov:Value):Prop where
 b:Below w.heap.size w wr
 s:w1.heap.size≤wr.heap.size
 k:∀ b,w.heap.size<b→b<w1.heap.size→wr.heap[b]?=w1.heap[b]?
 o:∀ b,ov.ownBlock=some b→b=w.heap.size∨w1.heap.size≤b
 z:w.heap.size≤w1.heap.size
theorem KW.below {w w1 wr w':World} {ov:Value} (h:KW w w1 wr ov) (hb:Below wr.heap.size wr w'):KW w w1 w' ov :=
 ⟨bt h.b hb,Nat.le_trans h.s hb.size,fun b h1 h2=>(hb.block b (Nat.lt_of_lt_of_le h2 h.s)).trans (h.k b h1 h2),h.o,h.z⟩
theorem KW.grown {w w1 wr w':World} {ov ov':Value} (h:KW w w1 wr ov) (hg:wr.grownBy w' ov.ownBlock) (ho:ov'.ownBlock=ov.ownBlock∨ov'.ownBlock=some wr.heap.size):KW w w1 w' ov':=by
 have hs:=h.s
 have hz:=h.z
 refine⟨h.b.trans (grown_keep hg (fun q hq=>?_) (by omega)),Nat.le_trans hs hg.size,fun b h1 h2=>(hg.block b (by omega) (fun e=>?_)).trans (h.k b h1 h2),fun b hb=>?_,h.z⟩
 · rcases h.o q hq with h | h <;> omega
 · rcases h.o b e.symm with h | h <;> omega
 · rcases ho with ho | ho
   · exact h.o b (ho ▸ hb)
   · rw[ho] at hb;cases hb;exact .inr hs
theorem KW.rws {w w1 wr:World} {ov sv:Value} {S:List Rw} (h:KW w w1 wr ov) (hS:RwS w1 sv S) (hv:∀ q,sv.ownBlock=some q→w.heap.size<q):RwS wr sv S :=
 hS.keep h.s (fun b hb hl=>h.k b (hv b hb) hl)
attribute [local go_sem ↓] ldEnt stEntRow bldEnt
attribute [local go_sem ↓ high] stEnt
attribute [local go_sem] Held_drew isHead_mk headOf_mk offOf_mk isPtr_mk cellsOfV_mk isAggV_mk row_new row_new2 row_new2' row_drew row_drewN vals_size allOne_nil allOne_cons one_int one_bool one_string one_pointer one_slice one_func vals_0 vals_1
theorem rprof (v:Value) (l:List Rw) (id:Int) (w:World) (hn:l.length≤1000) (hS:RwS w v l) :
  Calls Tryz.prog 37 #[v,.int .i64 id] w fun r w'=>PrQ w w' (proR (srt id 80 l) []) r:=by
 have hsl:=Nat.le_trans (srt_le id 80 l) hn
 have HSO:=Lib.hid (fun W (b:Below w.heap.size w W)=>rsort v l id 80 80 rfl W hn (hS.below b))
 generalize srt id 80 l=S at hsl HSO ⊢
 generalize hR:proR S []=R
 have HR:=Lib.hid hR
 have HJ0:=Lib.hid (HJ.startA w.heap.size w w.heap.size rfl (Nat.le_refl _))
 obtain⟨a0,c0,rfl,-⟩:=_root_.id hS
 clear hR hS
 go_enter Tryz.func37,Tryz.ntmps37
 go_upto_region 3 with (go_at_call 99;(with_reducible refine (HSO.out _ (by exact belA)).mono ?_);rintro _ w1 ⟨sv,rfl,hV,hvo,hb⟩;have HV:=Lib.hid hV;have HVO:=Lib.hid (show ∀ q,sv.ownBlock=some q→w.heap.size<q from fun q hq=>by have:=hvo q hq;simp at this;omega);have HJ1:=Lib.hid (HJ0.out.below hb);have HK0:=Lib.hid (show KW w w1 w1 (.slice (some ⟨w.heap.size,0,none⟩) 0 0) from ⟨below_yR hb,Nat.le_refl _,fun _ _ _=>rfl,fun b hq=>.inl (by cases hq;rfl),(below_yR hb).size⟩);clear hV hvo hb)
 obtain⟨va,vc,rfl,-⟩:=_root_.id HV.out
 clear HJ0 HSO
 go_wp2_with fail
 go_loopw [6,8] (fun ov kv wr=>∃ (k:Nat) (out:List Fu) (rows:List (Array Value)),k≤S.length∧kv=.int .i64 k∧Hid (proR (S.drop k) out=R)∧out.length≤k∧HJ w.heap.size wr ov (out.map toEf) rows∧KW w w1 wr ov) (fun _ kv _=>S.length - (intOf kv).toNat)
 case atStart=>exact⟨0,[],[],Nat.zero_le _,rfl,HR,Nat.le_refl _,HJ1.out,HK0.out⟩
 case round =>
  obtain⟨k,out,rows,hk,rfl,HP,ho,hJ,hK⟩:=hrel
  obtain⟨oa,oc,rfl⟩:=owns_sl hJ.own
  rw[List.length_map] at hJ hK
  obtain⟨_,_,e,-,hc⟩:=hK.rws HV.out HVO.out
  injection e with e1 e2 e3
  subst e1 e3
  have HJk:=Lib.hid hJ
  have HKk:=Lib.hid hK
  clear hJ hK e2
  by_cases hlt:k<S.length
  · obtain⟨b,o,rfl,hb,hcell⟩:=hc (by omega)
    obtain⟨p0,p1,p2⟩:=hcell k hlt
    have i1:(0:Int)≤(k:Int):=by omega
    have i2:(k:Int)<(S.length:Int):=by omega
    have hP:=HP.out
    rw[proR_next hlt] at hP
    generalize S[k]=x at p0 p1 p2 hP
    obtain⟨xi,xk,xr⟩:=x
    simp only[kyR] at p0 p1 p2 hP
    clear hcell hc HP
    cases hdx:decX (Ds.bl xr) with
    | none =>
      rw[hdx] at hP
      simp only at hP
      have HPP:=Lib.hid hP
      have HD:=Lib.hid (fun W=>rdec_none xr W hdx)
      clear hP hdx
      go_wp2_with (go_at_call 100;(refine (HD.out _).mono ?_);rintro _ w3 ⟨a1,c1,a2,c2,rfl,hb3⟩;have hone:=vals_one En.zero (.slice a1 0 c1) (.slice a2 0 c2) rfl rfl;have B3:=Lib.hid ((HKk.out.below hb3).below (below_al' w3 (.cells (En.zero.vals (.slice a1 0 c1) (.slice a2 0 c2)) 27)));clear hb3)
      go_quiet (fail)
      go_wp2_with fail
      go_ret2
      exact⟨.slice none 0 0,[],by rw[← HPP.out];rfl,by rw[← HPP.out];exact HJ.start _ _,below_drewN B3.out.b _⟩
    | some y =>
      rw[hdx] at hP
      simp only at hP
      have hky:=keyZ_eq y xk
      have hkn:((keyZ y.1.kind y.1.name).toList != xk.toList)=!(decide (keyX y=Ds.bl xk)):=by rw[← hky];rfl
      have hg8:=okX_gs y (decX_sound _ _ hdx).1
      have HD:=Lib.hid (fun W=>rdec_some xr y W hdx)
      have HK:=Lib.hid (fun W=>rp_key y.1.kind y.1.name W)
      clear hdx
      generalize keyZ y.1.kind y.1.name=kz at hky hkn HK
      by_cases hk2:keyX y=Ds.bl xk
      · rw[if_pos hk2] at hP
        rw[decide_eq_true hk2] at hky hkn
        have hkn:(kz.toList != xk.toList)=false:=hkn
        have HPP:=Lib.hid hP
        clear hP hk2
        go_upto_region 7 with (go_at_call 100;(refine (HD.out _).mono ?_);rintro _ w3 ⟨a1,c1,a2,c2,rfl,hI,hGs,hb3,hf1,hf2⟩;have hone:=vals_one y.1 (.slice a1 y.2.1.length c1) (.slice a2 y.2.2.length c2) rfl rfl;have B3:=Lib.hid hb3;have HI:=Lib.hid hI;have HGS:=Lib.hid hGs;have HF2:=Lib.hid hf2;have p1':=below_cell hb3 p1;have p1'':=below_cell (below_al' w3 (.cells (y.1.vals (.slice a1 y.2.1.length c1) (.slice a2 y.2.2.length c2)) 27)) p1';clear hI hGs hb3 hf1 hf2;have R0:=row_new w3 (y.1.vals (.slice a1 y.2.1.length c1) (.slice a2 y.2.2.length c2)) 27 (0,0);have N0:=cell_row R0 0 _ (vals_0 _ _ _);have N1:=cell_row R0 1 _ (vals_1 _ _ _);have KB:=Lib.hid ((HKk.out.below B3.out).below (below_al' w3 (.cells (y.1.vals (.slice a1 y.2.1.length c1) (.slice a2 y.2.2.length c2)) 27)));have B8:=Lib.hid (below_al' w3 (.cells (y.1.vals (.slice a1 y.2.1.length c1) (.slice a2 y.2.2.length c2)) 27)))
        generalize w3.alloc _=W8 at p1'' R0 N0 N1 KB B8 ⊢
        generalize w3.heap.size=q at R0 N0 N1 ⊢
        go_region_held3 (fun w'=>w'.cell? ⟨b,o+k*3+1,none⟩=some (.string xk)∧w'.cell? ⟨q,0,none⟩=some (.int .i64 y.1.kind)∧w'.cell? ⟨q,1,none⟩=some (.string y.1.name)) (first | exact⟨p1'',N0,N1⟩ | assumption) ((go_at_call 15;(with_reducible refine (HK.out _).mono ?_);rintro _ w4 ⟨rfl,rfl⟩))
        all_goals
         have z8:=KB.out.b.size
         have HJ8:=Lib.hid (HJk.out.below (bt B3.out B8.out.drew))
         have GS8:=Lib.hid (HGS.out.below B8.out.drew)
         have HJ5:=Lib.hid (HJ8.out.below (below_al' W8.drew (.cells (y.1.vals (.slice a1 y.2.1.length c1) (.slice a2 y.2.2.length c2)) 27)))
         go_wp2_with (at_builtin;refine wp_appX _ rfl (.tmp 45) (.tmp 47) 39 27 _ _ 33 336 rfl Tryz.underlying39 en_i en_i0 en_i1 en_i2 (vals_size _ _ _) (by decide) w.heap.size (.slice oa out.length oc) (.slice (some ⟨W8.heap.size,0,none⟩) 1 1) out.length 1 (ec rows) ((y.1.vals (.slice a1 y.2.1.length c1) (.slice a2 y.2.2.length c2))).toList rfl (map_own HJ5.out.own) rfl (cs_one rfl (vals_size _ _ _)) (all1 hone) (by unfold maxLen;omega) (by omega) (by simp;omega) ?_;intro a5 c5 w5 hown hg hat;have HOWN:=Lib.hid hown;have HGR:=Lib.hid hg;have HAT:=Lib.hid hat;clear hown hg hat)
         have hge:GJ w.heap.size (W8.drew.alloc (.cells (y.1.vals (.slice a1 y.2.1.length c1) (.slice a2 y.2.2.length c2)) 27)) (Value.slice oa out.length oc).ownBlock (y.1.vals (.slice a1 y.2.1.length c1) (.slice a2 y.2.2.length c2)) (toEf y):=by
          refine⟨a1,c1,a2,c2,rfl,?_,Nat.le_trans hg8 (by decide),rfl,GS8.out.below (below_al' _ _),fun h0 b' hb'=>⟨fun e=>?_,?_,?_⟩⟩
          · obtain⟨_,_,e,hz,-⟩:=HI.out
            show y.2.1.length≤_
            omega
          · have h1:=(own_base HJk.out.own b' e).2
            have h2:=HF2.out b' hb'
            omega
          · have h2:=HF2.out b' hb'
            have h3:=HKk.out.b.size
            omega
          · have h3:=gs_own_lt GS8.out h0 b' hb'
            simp at h3 ⊢;omega
         have HJ6:=Lib.hid (HJ5.out.snoc (x:=toEf y) (map_own' HOWN.out) HGR.out HAT.out (vals_size _ _ _) hone hge)
         have HK6:=Lib.hid (((KB.out.below (Below.drew (Below.refl _ _))).below (below_al' _ _)).grown HGR.out HAT.out)
         clear hge
         go_roundw
         case rel=>exact⟨k+1,out++[y],_,by omega,by go_num,HPP,by rw[List.length_append,List.length_singleton];omega,by rw[List.map_append];exact HJ6.out,HK6.out⟩
         case measure=>simp [intOf];omega
      · rw[if_neg hk2] at hP
        rw[decide_eq_false hk2] at hky hkn
        have hkn:(kz.toList != xk.toList)=true:=hkn
        have HPP:=Lib.hid hP
        clear hP hk2
        go_upto_region 7 with (go_at_call 100;(refine (HD.out _).mono ?_);rintro _ w3 ⟨a1,c1,a2,c2,rfl,hI,hGs,hb3,hf1,hf2⟩;have hone:=vals_one y.1 (.slice a1 y.2.1.length c1) (.slice a2 y.2.2.length c2) rfl rfl;have B3:=Lib.hid hb3;have HI:=Lib.hid hI;have HGS:=Lib.hid hGs;have HF2:=Lib.hid hf2;have p1':=below_cell hb3 p1;have p1'':=below_cell (below_al' w3 (.cells (y.1.vals (.slice a1 y.2.1.length c1) (.slice a2 y.2.2.length c2)) 27)) p1';clear hI hGs hb3 hf1 hf2;have R0:=row_new w3 (y.1.vals (.slice a1 y.2.1.length c1) (.slice a2 y.2.2.length c2)) 27 (0,0);have N0:=cell_row R0 0 _ (vals_0 _ _ _);have N1:=cell_row R0 1 _ (vals_1 _ _ _);have KB:=Lib.hid ((HKk.out.below B3.out).below (below_al' w3 (.cells (y.1.vals (.slice a1 y.2.1.length c1) (.slice a2 y.2.2.length c2)) 27)));have B8:=Lib.hid (below_al' w3 (.cells (y.1.vals (.slice a1 y.2.1.length c1) (.slice a2 y.2.2.length c2)) 27)))
        generalize w3.alloc _=W8 at p1'' R0 N0 N1 KB B8 ⊢
        generalize w3.heap.size=q at R0 N0 N1 ⊢
        go_region_held3 (fun w'=>w'.cell? ⟨b,o+k*3+1,none⟩=some (.string xk)∧w'.cell? ⟨q,0,none⟩=some (.int .i64 y.1.kind)∧w'.cell? ⟨q,1,none⟩=some (.string y.1.name)) (first | exact⟨p1'',N0,N1⟩ | assumption) ((go_at_call 15;(with_reducible refine (HK.out _).mono ?_);rintro _ w4 ⟨rfl,rfl⟩))
        all_goals
         go_wp2_with fail
         go_ret2
         exact⟨.slice none 0 0,[],by rw[← HPP.out];rfl,by rw[← HPP.out];exact HJ.start _ _,KB.out.b.drew⟩
  · obtain rfl:k=S.length:=by omega
    have hP:=HP.out
    rw[List.drop_eq_nil_of_le (Nat.le_refl _),proR] at hP
    have HPP:=Lib.hid hP
    clear hP HP
    go_wp2_with fail
    go_ret2
    exact⟨_,rows,by rw[← HPP.out];rfl,by rw[← HPP.out,List.length_map];exact HJk.out,HKk.out.b⟩
end Go.Proofs.YtlmgolkgodfmpaaGreatDoor
end
section
/- Contracts of the reference of chapter 34: Entries at two equal lists, Check. -/
namespace Go.Proofs.YtlmgolkgodfmpaaGreatDoor
open Go.RowKit
set_option maxHeartbeats 16000000
set_option maxRecDepth 8000
set_option linter.unusedSimpArgs false
theorem rsame_ef (x:Ef) (h0:x.n1=0) (a1 a2 b1 b2:Option Addr) (c1 c2 d1 d2:Nat) (w:World) (h1:GS w (.slice a2 x.n2 c2) x.gs) (h2:GS w (.slice b2 x.n2 d2) x.gs) :
  Calls Tryz.prog 13 #[.agg (x.e.vals (.slice a1 x.n1 c1) (.slice a2 x.n2 c2)),.agg (x.e.vals (.slice b1 x.n1 d1) (.slice b2 x.n2 d2))] w fun r w'=>r=.returned (.bool true)∧Below w.heap.size w w':=by
 have i:∀ a c,IS w (.slice a x.n1 c) []:=fun a c=>⟨a,c,by rw[h0];rfl,by simp,fun h=>by simp at h⟩
 have h:=rsame x.e x.e _ _ _ _ [] [] x.gs x.gs w (i a1 c1) (i b1 d1) h1 h2
 rw[(sameE_eq _ _ _ _ _ _).2 ⟨rfl,rfl,rfl⟩] at h
 exact h
attribute [local go_sem ↓] ldEnt stEnt stEntRow ldEntM
attribute [local go_sem] Held_drew isHead_mk headOf_mk offOf_mk isPtr_mk cellsOfV_mk isAggV_mk row_new row_new2 row_new2' row_drew row_drewN vals_size allOne_nil allOne_cons one_int one_bool one_string one_pointer one_slice
theorem rentries (n:Nat) (a1 a2:Option Addr) (c1 c2:Nat) (F G:Nat→Ef) (w:World) (h1:ES w a1 n F) (h2:ES w a2 n G) (hFG:∀ k,k<n→F k=G k∧(F k).n1=0∧(F k).n2≤1000) :
  Calls Tryz.prog 38 #[.slice a1 n c1,.slice a2 n c2] w fun r w'=>r=.returned (.bool true)∧Below w.heap.size w w':=by
 have H1:=Lib.hid h1
 have H2:=Lib.hid h2
 have hn63:=h1.1
 have HFG:=Lib.hid hFG
 clear h1 h2 hFG
 go_enter Tryz.func38,Tryz.ntmps38
 go_wp2_with fail
 go_loopw [5] (fun i wr=>∃ k:Nat,k≤n∧i=.int .i64 k∧Below w.heap.size w wr) (fun i _=>n - (intOf i).toNat)
 case atStart=>exact⟨0,Nat.zero_le _,rfl,by exact belA⟩
 case round =>
  obtain⟨k,hk,rfl,B⟩:=hrel
  by_cases hlt:k<n
  · obtain⟨b,o,rfl,hb,p1,q1,p2,q2,hmid,-,-,hg⟩:=(H1.out.below B).2 k hlt
    obtain⟨b',o',rfl,hb',p1',q1',p2',q2',hmid',-,-,hg'⟩:=(H2.out.below B).2 k hlt
    obtain⟨e,e1,e2⟩:=HFG.out k hlt
    rw[← e] at hmid' hg'
    generalize F k=x at hmid hmid' hg hg' e1 e2
    have HS:=Lib.hid (fun W (b:Below wr.heap.size wr W)=>rsame_ef x e1 p1 p2 p1' p2' q1 q2 q1' q2' W ((hg e2).2.below b) ((hg' e2).2.below b))
    have hone:=vals_one x.e (.slice p1 x.n1 q1) (.slice p2 x.n2 q2) rfl rfl
    have hone':=vals_one x.e (.slice p1' x.n1 q1') (.slice p2' x.n2 q2') rfl rfl
    have i1:(0:Int)≤(k:Int):=by omega
    have i2:(k:Int)<(n:Int):=by omega
    have BB:=Lib.hid B
    have hz:(mid wr b (o+k*33)).size=33:=by rw[hmid];exact vals_size _ _ _
    have hz':(mid wr b' (o'+k*33)).size=33:=by rw[hmid'];exact vals_size _ _ _
    clear hg hg' e B e1 e2
    go_upto_region 6 with fail
    refine wp_region_still_tail 8 (by kernel_rfl) (by kernel_rfl) ?_
    simp only[List.take_succ_cons,List.take_zero,List.drop_succ_cons,List.drop_zero]
    change wpStill _ _ wr.drew (fun a'=>wpList _ _ _ _ a' wr.drew) _ _
    obtain⟨w3,hw3⟩:∃ w3:World,wr.drew=w3:=⟨_,rfl⟩
    rw[hw3]
    have B2:=Lib.hid (show Below wr.heap.size wr w3 by rw[← hw3];exact Below.drew (Below.refl wr.heap.size wr))
    have m1:mid w3 b (o+k*33)=x.e.vals (.slice p1 x.n1 q1) (.slice p2 x.n2 q2):=by rw[← hw3];exact hmid
    have m2:mid w3 b' (o'+k*33)=x.e.vals (.slice p1' x.n1 q1') (.slice p2' x.n2 q2'):=by rw[← hw3];exact hmid'
    have m3:(mid w3 b (o+k*33)).size=33:=by rw[← hw3];exact hz
    have m4:(mid w3 b' (o'+k*33)).size=33:=by rw[← hw3];exact hz'
    clear hw3
    repeat still_step
    try refine wpStill_nil ?_
    go_wp2_with (go_at_call 13;(refine (HS.out _ B2.out).mono ?_);rintro _ w2 ⟨rfl,hb⟩;have B3:=Lib.hid (bt B2.out hb))
    go_roundw
    case rel=>exact⟨k+1,by omega,by go_num,bt BB.out B3.out⟩
    case measure=>simp [intOf];omega
  · obtain rfl:k=n:=by omega
    go_wp2_with fail
    go_ret
    exact⟨rfl,B⟩
theorem rcheck (v:Value) (l:List Rw) (id:Int) (u:ByteArray) (gv:Value) (gl:List ByteArray) (name:ByteArray) (need:Int) (w:World) (hl:l.length≤900) (hS:RwS w v l) (hgl:SS w gv gl) :
  Calls Tryz.prog 40 #[v,.int .i64 id,.string u,gv,.string name,.int .i64 need] w fun r w'=>r=.returned (.int .i64 (chkR (proR (srt id 80 l) []) u gl name need))∧Below w.heap.size w w':=by
 have HV:=Lib.hid (fun W=>rds_Valid name W)
 have hok:=proR_q (srt id 80 l) [] (srt_head id l) (fun y h=>by cases h)
 have hlen:=proR_len (srt id 80 l) []
 have hle:=srt_le id 80 l
 have hpr:=fun W (b:Below w.heap.size w W)=>rprof v l id W (by omega) (hS.below b)
 generalize proR (srt id 80 l) []=P at hok hlen hpr ⊢
 generalize hR:chkR P u gl name need=R
 unfold chkR at hR
 clear hS
 cases hn:Ds.name (Ds.bl name)
 · rw[if_pos (Or.inl hn)] at hR
   have HV1:=HV.out
   rw[hn] at HV1
   have HV2:=Lib.hid HV1
   subst hR
   clear HV HV1 hn
   go_enter Tryz.func40,Tryz.ntmps40
   go_wp2_with (go_at_call 50;(with_reducible refine (HV2.out _).mono ?_);rintro _ w2 ⟨rfl,hb⟩)
   go_ret
   exact⟨rfl,hb⟩
 have HV1:=HV.out
 rw[hn] at HV1
 have HV2:=Lib.hid HV1
 clear HV HV1
 by_cases h1:need<0
 · rw[if_pos (Or.inr (Or.inl h1))] at hR
   subst hR
   clear hn
   go_enter Tryz.func40,Tryz.ntmps40
   go_wp2_with (go_at_call 50;(with_reducible refine (HV2.out _).mono ?_);rintro _ w2 ⟨rfl,hb⟩)
   go_ret
   exact⟨rfl,hb⟩
 by_cases h2:3<need
 · rw[if_pos (Or.inr (Or.inr h2))] at hR
   subst hR
   clear hn
   go_enter Tryz.func40,Tryz.ntmps40
   go_wp2_with (go_at_call 50;(with_reducible refine (HV2.out _).mono ?_);rintro _ w2 ⟨rfl,hb⟩)
   go_ret
   exact⟨rfl,hb⟩
 rw[if_neg (by rw[hn];simp;omega)] at hR
 clear hn
 by_cases h3:need=0
 · rw[if_pos h3] at hR
   subst hR h3
   go_enter Tryz.func40,Tryz.ntmps40
   go_wp2_with (go_at_call 50;(with_reducible refine (HV2.out _).mono ?_);rintro _ w2 ⟨rfl,hb⟩)
   go_ret
   exact⟨rfl,hb⟩
 rw[if_neg h3] at hR
 have q3:(need==0)=false:=by rw[beq_eq_false_iff_ne];exact h3
 have q1:decide (need<0)=false:=decide_eq_false h1
 have q2:decide (3<need)=false:=decide_eq_false h2
 obtain⟨out,code⟩:=P
 simp only at hR hok hlen
 rw[List.length_nil] at hlen
 have HP:=Lib.hid hpr
 have HOK:=Lib.hid (fun y hy=>(hok y hy).1)
 have HGL:=Lib.hid hgl
 clear hpr hok hgl h3
 by_cases h4:code=0
 · rw[if_neg (by simp [h4])] at hR
   have q4:(code != 0)=false:=by rw[h4];rfl
   have q5:(code==0)=true:=by rw[h4];rfl
   have HR:=Lib.hid hR
   clear hR
   go_enter Tryz.func40,Tryz.ntmps40
   go_wp2_with (first
    | (go_at_call 50;(with_reducible refine (HV2.out _).mono ?_);rintro _ w2 ⟨rfl,hb⟩;have B2:=Lib.hid hb;clear hb)
    | (go_at_call 37;(refine (HP.out _ B2.out).mono ?_);rintro _ w3 ⟨hv,rows,rfl,hJ,hb3⟩;dsimp only at hJ;obtain⟨a,cc,G,rfl,hES,hlst,hn2⟩:=hJ.es (by rw[List.length_map];omega);have hbd:=chk_bd HOK.out hlst hn2;rw[List.length_map] at hES hlst hbd;have B3:=Lib.hid (bt B2.out hb3);have LV:=Lib.hid (fun W (b:Below w3.heap.size w3 W)=>rlevel34 a out.length cc G u name gv gl W (hES.below b) (by omega) hbd ((HGL.out.below B3.out).below b));rw[hlst] at LV;clear hJ hb3 hES hlst hn2 hbd)
    | (go_at_call 101;(with_reducible refine (LV.out _ (Below.refl _ _)).mono ?_);rintro _ w4 ⟨rfl,hb4⟩))
   all_goals
    go_ret
    exact⟨by rw[← HR.out];first | (rw[if_pos (by omega)];rfl) | (rw[if_neg (by omega)];rfl),bt B3.out hb4⟩
 · rw[if_pos h4] at hR
   have q4:(code != 0)=true:=by rw[bne_iff_ne];exact h4
   have q5:(code==0)=false:=by rw[beq_eq_false_iff_ne];exact h4
   subst hR
   go_enter Tryz.func40,Tryz.ntmps40
   go_wp2_with (first
    | (go_at_call 50;(with_reducible refine (HV2.out _).mono ?_);rintro _ w2 ⟨rfl,hb⟩;have B2:=Lib.hid hb;clear hb)
    | (go_at_call 37;(refine (HP.out _ B2.out).mono ?_);rintro _ w3 ⟨hv,rows,rfl,-,hb3⟩))
   go_ret
   exact⟨rfl,bt B2.out hb3⟩
end Go.Proofs.YtlmgolkgodfmpaaGreatDoor
end
