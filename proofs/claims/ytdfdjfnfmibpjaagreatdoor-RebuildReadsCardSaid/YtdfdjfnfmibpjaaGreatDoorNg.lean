/- Several texts in one: Nf Ng. -/
import Derived.Test.YtdfdjfnfmibpjaaGreatDoorNp
import Derived.Test.YtdfdjfnfmibpjaaGreatDoorRh
import Derived.Test.YtdfdjfnfmibpjaaGreatDoorDsR
section
/- Contracts of the reference of chapter 37: fits, Note. -/
namespace Go.Proofs.YtdfdjfnfmibpjaaGreatDoor
open Go.RowKit
set_option maxHeartbeats 8000000
set_option maxRecDepth 8000
set_option linter.unusedSimpArgs false
theorem recQ_size (x:Fu):(recQ x).size≤200:=by
 unfold recQ
 split
 · rename_i h
   rw[← Ds.bl_length,Ds.bl_mk]
   exact recX_len x h
 · decide
theorem name_pos (x:Fu) (h:okX x=true) (hk:x.1.kind=1):Ds.bl x.1.name≠[]:=by
 obtain⟨e,l,r⟩:=x
 simp only at hk
 unfold okX at h
 simp only[hk] at h
 rw[if_neg (by decide),if_pos trivial] at h
 unfold okG at h
 simp only[Bool.and_eq_true] at h
 intro e0
 simp only at e0
 rw[e0] at h
 exact absurd h.1.1 (by decide +kernel)
theorem noteS_txt (x g:Fu) (h:noteOk x g=true):(encB (recQ x).size++recQ x)++(encB (if Ds.gen (Ds.bl x.1.name)=true then recQ g else ⟨#[]⟩).size++(if Ds.gen (Ds.bl x.1.name)=true then recQ g else ⟨#[]⟩))=noteS x g:=by
 obtain⟨h1,h2,h3⟩:=noteOk_parts x g h
 refine Ds.bl_inj ?_
 have k1:Ds.bl (recQ x)=recX x:=by unfold recQ;rw[if_pos h1,Ds.bl_mk]
 have k2:Ds.bl (if Ds.gen (Ds.bl x.1.name)=true then recQ g else ⟨#[]⟩)=grpL x g:=by
  unfold grpL
  split
  · rename_i c
    unfold recQ
    rw[if_pos (fitG_yes _ _ h3 c).1,Ds.bl_mk]
  · rfl
 generalize (if Ds.gen (Ds.bl x.1.name)=true then recQ g else ⟨#[]⟩)=y at k2 ⊢
 rw[Ds.bl_append,Ds.bl_append,Ds.bl_append,encB_bl,encB_bl,← Ds.bl_length,← Ds.bl_length,k1,k2]
 unfold noteS
 rw[if_pos h,Ds.bl_mk]
 rfl
theorem note_grp (x g:Fu) (h:noteOk x g=true):g.1.name.toList.isEmpty=!(Ds.gen (Ds.bl x.1.name)):=by
 obtain⟨h1,h2,h3⟩:=noteOk_parts x g h
 cases hg:Ds.gen (Ds.bl x.1.name)
 · rw[fitG_no _ _ h3 hg]
   exact isEmpty_nil _ rfl
 · obtain⟨h4,h5⟩:=fitG_yes _ _ h3 hg
   exact isEmpty_of _ (by rw[← Ds.bl_length];exact List.length_pos_iff.2 (name_pos g h4 h5))
attribute [local go_sem ↓] ldEnt stEnt
attribute [local go_sem] isHead_mk headOf_mk cellsOfV_mk isAggV_mk row_new row_new2 row_new2' row_drew row_drewN vals_size allOne_nil allOne_cons one_int one_bool one_string one_pointer one_slice one_func
theorem rn_fits (x g:Fu) (al gr al2 gr2:Value) (w:World) (hxs:x.1.name.size≤60) (hgs:g.1.name.size≤60) (h1:IS w al x.2.1) (h2:GS w gr x.2.2) (h3:IS w al2 g.2.1) (h4:GS w gr2 g.2.2) :
  Calls Tryz.prog 188 #[.agg (x.1.vals al gr),.agg (g.1.vals al2 gr2)] w fun r w'=>r=.returned (.bool (noteOk x g))∧Below w.heap.size w w':=by
 have a1:=vals_one x.1 al gr (is_one h1) (gs_one h2)
 have a2:=vals_one g.1 al2 gr2 (is_one h3) (gs_one h4)
 have he:=fun W (B:Below w.heap.size w W)=>rva_any x al gr W hxs (h1.below B) (h2.below B)
 have hg:=fun W (B:Below w.heap.size w W)=>rva_any g al2 gr2 W hgs (h3.below B) (h4.below B)
 have hp:=fun W=>rds_split x.1.name W hxs
 have hsm:=fun W (B:Below w.heap.size w W)=>rsame g.1 En.zero al2 gr2 (.slice none 0 0) (.slice none 0 0) g.2.1 [] g.2.2 [] W (h3.below B) (IS.nil W) (h4.below B) (GS.nil W)
 rw[show En.zero.vals (.slice none 0 0) (.slice none 0 0)=zlit 0 ⟨#[]⟩ from (zlit_eq 0 ⟨#[]⟩).symm] at hsm
 unfold zlit at hsm
 have hok:noteOk x g=(okX x&&(decide (x.1.kind=0)&&(if Ds.gen (Ds.bl x.1.name)=true then okX g&&(decide (g.1.kind=1)&&decide (Ds.bl g.1.name=Ds.splG (Ds.bl x.1.name))) else sameE g.1 En.zero g.2.1 [] g.2.2 []))):=rfl
 have e1:=int_dec x.1.kind 0
 have e1':(x.1.kind != 0)=!(decide (x.1.kind=0)):=by rw[← e1];rfl
 have e3:=int_dec g.1.kind 1
 have e4:=tl_dec g.1.name ⟨(Ds.splG (Ds.bl x.1.name)).toArray⟩
 rw[show Ds.bl ⟨(Ds.splG (Ds.bl x.1.name)).toArray⟩=Ds.splG (Ds.bl x.1.name) from Ds.bl_mk _] at e4
 generalize noteOk x g=nok at hok ⊢
 subst hok
 generalize okX x=c0 at he ⊢
 generalize decide (x.1.kind=0)=c1 at e1 e1' ⊢
 generalize okX g=c2 at hg ⊢
 generalize decide (g.1.kind=1)=c3 at e3 ⊢
 generalize decide (Ds.bl g.1.name=Ds.splG (Ds.bl x.1.name))=c4 at e4 ⊢
 generalize sameE g.1 En.zero g.2.1 [] g.2.2 []=c5 at hsm ⊢
 generalize (⟨(Ds.splG (Ds.bl x.1.name)).toArray⟩:ByteArray)=sg at hp e4
 generalize Ds.gen (Ds.bl x.1.name)=ge at hp ⊢
 have B0:Below w.heap.size w ((w.alloc (.cells (x.1.vals al gr) 27)).alloc (.cells (g.1.vals al2 gr2) 27)):=by exact belA
 have R0:=row_new2 w (x.1.vals al gr) 27 (0,0) (.cells (g.1.vals al2 gr2) 27)
 have Q0:=row_new2' w (g.1.vals al2 gr2) 27 (0,0) (.cells (x.1.vals al gr) 27)
 have HE:=Lib.hid he
 have HG:=Lib.hid hg
 have HP:=Lib.hid hp
 have HS:=Lib.hid hsm
 clear he hg hp hsm h1 h2 h3 h4
 have x0:=cell_row R0 0 _ (vals_0 x.1 _ _)
 cases c1
 case' true=>cases c0
 case' true.true=>cases ge
 case' true.true.true=>cases c3
 case' true.true.true.true=>cases c4
 all_goals
  simp only[Bool.false_and,Bool.and_false,Bool.true_and,Bool.and_true,Bool.and_self,Bool.false_eq_true,if_false,if_true,Bool.not_true,Bool.not_false] at e1' ⊢
  go_enter Tryz.func188,Tryz.ntmps188
  go_wp2_with (first
   | (go_at_call 11;have b6:=B2;clear b6;(refine (HG.out _ B2).mono ?_);rintro _ w3 ⟨rfl,hb⟩;have B3:=bt B2 hb;clear hb)
   | (go_at_call 11;(refine (HE.out _ B0).mono ?_);rintro _ w1 ⟨rfl,hb⟩;have R1:=row_below hb R0 (by simp [vals_size]);have Q1:=row_below hb Q0 (by simp [vals_size]);have x1:=cell_row R1 1 _ (vals_1 x.1 _ _);have B1:=bt B0 hb;clear hb)
   | (go_at_call 52;(refine (HP.out _).mono ?_);rintro _ w2 ⟨rfl,hb⟩;have Q2:=row_below hb Q1 (by simp [vals_size]);have n0:=cell_row Q2 0 _ (vals_0 g.1 _ _);have n1:=cell_row Q2 1 _ (vals_1 g.1 _ _);have B2:=bt B1 hb;clear hb)
   | (go_at_call 13;(refine (HS.out _ B2).mono ?_);rintro _ w3 ⟨rfl,hb⟩;have B3:=bt B2 hb;clear hb))
  go_ret
  exact⟨rfl,by first | exact B3 | exact B2 | exact B1 | exact B0⟩
theorem rn_note (x g:Fu) (al gr al2 gr2:Value) (w:World) (hxs:x.1.name.size≤60) (hgs:g.1.name.size≤60) (h1:IS w al x.2.1) (h2:GS w gr x.2.2) (h3:IS w al2 g.2.1) (h4:GS w gr2 g.2.2) :
  Calls Tryz.prog 110 #[.agg (x.1.vals al gr),.agg (g.1.vals al2 gr2)] w fun r w'=>r=.returned (.tuple #[.string (noteS x g),.int .i64 (if noteOk x g=true then 0 else 1)])∧Below w.heap.size w w':=by
 have a1:=vals_one x.1 al gr (is_one h1) (gs_one h2)
 have a2:=vals_one g.1 al2 gr2 (is_one h3) (gs_one h4)
 have hf:=fun W (B:Below w.heap.size w W)=>rn_fits x g al gr al2 gr2 W hxs hgs (h1.below B) (h2.below B) (h3.below B) (h4.below B)
 have he:=fun W (B:Below w.heap.size w W)=>renc_q x al gr _ rfl W hxs (h1.below B) (h2.below B)
 have hg:=fun W (B:Below w.heap.size w W)=>renc_q g al2 gr2 _ rfl W hgs (h3.below B) (h4.below B)
 have z1:=recQ_size x
 have z2:=recQ_size g
 have y1:=encB_size (recQ x).size (by omega)
 have y2:=encB_size (recQ g).size (by omega)
 have y3:=encB_size 0 (by decide)
 have l1:¬ 9223372036854775807<(encB (recQ x).size).size+(recQ x).size+(encB 0).size:=by omega
 have l2:¬ 9223372036854775807<(encB (recQ x).size).size+(recQ x).size+((encB (recQ g).size).size+(recQ g).size):=by omega
 have hY:=noteS_txt x g
 have hN:=noteS_no x g
 have hgn:=note_grp x g
 generalize (if okX x=true then (0:Int) else 1)=c0 at he
 generalize (if okX g=true then (0:Int) else 1)=c2 at hg
 generalize recQ x=sx at he z1 y1 hY l1 l2
 generalize recQ g=sy at hg z2 y2 hY l2
 generalize noteS x g=ns at hY hN ⊢
 generalize noteOk x g=nok at hf hY hN hgn ⊢
 generalize Ds.gen (Ds.bl x.1.name)=ge at hY hgn
 have B0:Below w.heap.size w ((w.alloc (.cells (x.1.vals al gr) 27)).alloc (.cells (g.1.vals al2 gr2) 27)):=by exact belA
 have R0:=row_new2 w (x.1.vals al gr) 27 (0,0) (.cells (g.1.vals al2 gr2) 27)
 have Q0:=row_new2' w (g.1.vals al2 gr2) 27 (0,0) (.cells (x.1.vals al gr) 27)
 have HF:=Lib.hid hf
 have HE:=Lib.hid he
 have HG:=Lib.hid hg
 have HT:=Lib.hid (fun s (W:World) (h:s.size≤1000)=>rtext s W h)
 have HY:=Lib.hid hY
 have HN:=Lib.hid hN
 clear hf he hg h1 h2 h3 h4 hY hN
 cases nok
 case' true=>replace hgn:=hgn rfl
 case' true=>cases ge
 case' true.false=>replace hgn:g.1.name.toList.isEmpty=true:=hgn
 case' true.true=>replace hgn:g.1.name.toList.isEmpty=false:=hgn
 all_goals
  first
  | (obtain rfl:ns=⟨#[]⟩:=HN.out rfl)
  | (have hns:=HY.out rfl;simp only[Bool.false_eq_true,if_false,if_true] at hns;subst hns)
  clear HY HN
  go_enter Tryz.func110,Tryz.ntmps110
  go_wp2_with (first
   | (go_at_call 188;(refine (HF.out _ B0).mono ?_);rintro _ w1 ⟨rfl,hb⟩;have R1:=row_below hb R0 (by simp [vals_size]);have Q1:=row_below hb Q0 (by simp [vals_size]);have B1:=bt B0 hb;clear hb)
   | (go_at_call 160;have b6:=B2;clear b6;(refine (HG.out _ B2).mono ?_);rintro _ w3 ⟨rfl,hb⟩;have B3:=bt B2 hb;clear hb)
   | (go_at_call 160;(refine (HE.out _ B1).mono ?_);rintro _ w2 ⟨rfl,hb⟩;have Q2:=row_below hb Q1 (by simp [vals_size]);have n1:=cell_row Q2 1 _ (vals_1 g.1 _ _);have B2:=bt B1 hb;clear hb)
   | (go_at_call 189;have b6:=B4;clear b6;(refine (HT.out _ _ (by first | omega | decide)).mono ?_);rintro _ w5 ⟨rfl,hb⟩;have B5:=bt B4 hb;clear hb)
   | (go_at_call 189;(refine (HT.out _ _ (by omega)).mono ?_);rintro _ w4 ⟨rfl,hb⟩;have B4:=bt (by first | exact B3 | exact B2) hb;clear hb))
  go_ret2
  exact⟨rfl,by first | exact B5 | exact B1⟩
end Go.Proofs.YtdfdjfnfmibpjaaGreatDoor
end
section
/- Contract of the reference of chapter 37: Parse. -/
namespace Go.Proofs.YtdfdjfnfmibpjaaGreatDoor
open Go.RowKit
set_option maxHeartbeats 16000000
set_option maxRecDepth 8000
set_option linter.unusedSimpArgs false
theorem FNs.two {w W2 w3 w4:World} {rb:Nat} {x g:Fu} {al gr al2 gr2:Value} {t t':TypeId} (h2:PW w W2 rb) (hb3:Below W2.heap.size W2 w3) (hi:IS w3 al x.2.1) (hg:GS w3 gr x.2.2) (o1:∀ y,al.ownBlock=some y→W2.heap.size≤y) (o2:∀ y,gr.ownBlock=some y→W2.heap.size≤y) (hx:x.1.name.size≤60)
  (hb4:Below (w3.alloc (.cells (x.1.vals al gr) t)).heap.size (w3.alloc (.cells (x.1.vals al gr) t)) w4) (hi2:IS w4 al2 g.2.1) (hg2:GS w4 gr2 g.2.2) (o3:∀ y,al2.ownBlock=some y→(w3.alloc (.cells (x.1.vals al gr) t)).heap.size≤y) (o4:∀ y,gr2.ownBlock=some y→(w3.alloc (.cells (x.1.vals al gr) t)).heap.size≤y) (hgn:g.1.name.size≤60) :
  FNs w (w4.alloc (.cells (g.1.vals al2 gr2) t')) rb w3.heap.size w4.heap.size x g al gr al2 gr2:=by
 have P3:=h2.below hb3
 have P4:=((P3.alloc (.cells (x.1.vals al gr) t)).below hb4).alloc (.cells (g.1.vals al2 gr2) t')
 have z3:=hb3.size
 have z4:=hb4.size
 have zr:=h2.2.2.2.1
 have zl:=h2.lt
 simp at z4 o3 o4
 have b5:Below w4.heap.size w4 (w4.alloc (.cells (g.1.vals al2 gr2) t')):=(Below.refl _ _).alloc (Nat.le_refl _) _
 have b3:Below w3.heap.size w3 (w4.alloc (.cells (g.1.vals al2 gr2) t')):=bt (((Below.refl _ _).alloc (Nat.le_refl _) _).trans (hb4.mono (by simp))) b5
 refine⟨P4,?_,row_new _ _ _ _,hi.below b3,hg.below b3,hi2.below b5,hg2.below b5,by omega,by omega,by omega,by omega,fun y h=>by have:=o1 y h;omega,fun y h=>by have:=o2 y h;omega,fun y h=>by have:=o3 y h;omega,fun y h=>by have:=o4 y h;omega⟩
 exact row_below b5 (row_below hb4 (row_new w3 _ _ _) (by rw[vals_size];decide)) (by rw[vals_size];decide)
attribute [local go_sem ↓] ldEnt stEntRow ldRd stRd
attribute [local go_sem ↓ high] stEnt
attribute [local go_sem] Held_drew isHead_mk headOf_mk cellsOfV_mk isAggV_mk row_new row_new2 row_new2' row_drew row_drewN vals_size allOne_nil allOne_cons one_int one_bool one_string one_pointer one_slice hm_n
end Go.Proofs.YtdfdjfnfmibpjaaGreatDoor
end
