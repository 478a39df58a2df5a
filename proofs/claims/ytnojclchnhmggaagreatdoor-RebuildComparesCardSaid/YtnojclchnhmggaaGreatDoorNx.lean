/- Contract of the reference of chapter 37: put. Printed by wip/mknp3.py. -/
import Derived.Test.YtnojclchnhmggaaGreatDoorEc
import Derived.Test.YtnojclchnhmggaaGreatDoorDcA
import Derived.Test.YtnojclchnhmggaaGreatDoorRy
import Derived.Test.YtnojclchnhmggaaGreatDoorRh
import Derived.Test.YtnojclchnhmggaaGreatDoorDsR
import Derived.Test.YtnojclchnhmggaaGreatDoorGt
import Derived.Test.YtnojclchnhmggaaGreatDoorAcA
namespace Go.Proofs.YtnojclchnhmggaaGreatDoor
set_option maxRecDepth 8000
set_option maxHeartbeats 16000000
section
def wtx (s:List UInt8):List UInt8:=Wi.enc s.length++s
def zFu:Fu:=(En.zero,[],[])
def noGroup (g:Fu):Bool:=sameE g.1 En.zero g.2.1 [] g.2.2 []
theorem noGroup_eq (g:Fu) (h:noGroup g=true):g=zFu:=by
 obtain⟨e,l,r⟩:=g
 unfold noGroup at h
 obtain⟨h1,h2,h3⟩:=(sameE_eq _ _ _ _ _ _).1 h
 simp only at h1 h2 h3
 subst h1 h2 h3
 rfl
theorem noGroup_z:noGroup zFu=true:=(sameE_eq _ _ _ _ _ _).2 ⟨rfl,rfl,rfl⟩
def fitG (n:List UInt8) (g:Fu):Bool:=if Ds.gen n=true then okX g&&(decide (g.1.kind=1)&&decide (Ds.bl g.1.name=Ds.splG n)) else noGroup g
def noteOk (x g:Fu):Bool:=okX x&&(decide (x.1.kind=0)&&fitG (Ds.bl x.1.name) g)
def grpL (x g:Fu):List UInt8:=if Ds.gen (Ds.bl x.1.name)=true then recX g else []
def noteL (x g:Fu):List UInt8:=wtx (recX x)++wtx (grpL x g)
def noteX (x g:Fu):Option (List UInt8):=if noteOk x g=true then some (noteL x g) else none
theorem recG_len (g:Fu) (h:okX g=true) (hk:g.1.kind=1):(recX g).length<=60:=by
 have h1:=keyX_len g h
 obtain⟨e,l,r⟩:=g
 simp only at hk
 unfold okX at h
 simp only[hk] at h
 rw[if_neg (by decide),if_pos trivial] at h
 unfold okG at h
 simp only[Bool.and_eq_true] at h
 obtain⟨⟨-,h2⟩,-⟩:=h
 unfold Vp.grp at h2
 simp only[Bool.and_eq_true] at h2
 obtain⟨⟨q1,q2⟩,q3⟩:=h2
 have r1:=rng1 _ _ _ q1
 have r2:=rng1 _ _ _ q2
 have r3:=own8 _ q3
 have e1:=enc_small e.lim.toNat 0 (by omega)
 have e2:=enc_small e.last.toNat 1 (by omega)
 have e3:=enc_small e.owner.size 0 (by rw[Ds.bl_length] at r3;omega)
 unfold recX
 rw[List.length_append,h1]
 have e4:bodyX (e,l,r)=bodyG e:=by unfold bodyX;simp only[hk];rw[if_neg (by decide),if_pos trivial]
 rw[e4]
 unfold bodyG encs encs encs
 simp only[List.length_append,List.length_cons,List.length_nil] at *
 omega
theorem rec_ge (x:Fu) (h:okX x=true):32<=(recX x).length:=by
 unfold recX
 rw[List.length_append,keyX_len x h]
 omega
theorem fitG_yes (n:List UInt8) (g:Fu) (h:fitG n g=true) (hg:Ds.gen n=true):okX g=true∧g.1.kind=1:=by
 unfold fitG at h
 rw[if_pos hg] at h
 simp only[Bool.and_eq_true,decide_eq_true_eq] at h
 exact⟨h.1,h.2.1⟩
theorem fitG_no (n:List UInt8) (g:Fu) (h:fitG n g=true) (hg:Ds.gen n=false):g=zFu:=by
 unfold fitG at h
 rw[if_neg (by rw[hg];simp)] at h
 exact noGroup_eq g h
theorem noteOk_parts (x g:Fu) (h:noteOk x g=true):okX x=true∧x.1.kind=0∧fitG (Ds.bl x.1.name) g=true:=by
 unfold noteOk at h
 simp only[Bool.and_eq_true,decide_eq_true_eq] at h
 exact h
theorem grpL_len (x g:Fu) (h:noteOk x g=true):(grpL x g).length<=60:=by
 obtain⟨-,-,h3⟩:=noteOk_parts x g h
 unfold grpL
 split
 · rename_i c
   obtain⟨h4,h5⟩:=fitG_yes _ _ h3 c
   exact recG_len g h4 h5
 · simp
theorem note_len (x g:Fu) (h:noteOk x g=true):(noteL x g).length<=400:=by
 have h1:=recX_len x (noteOk_parts x g h).1
 have h2:=grpL_len x g h
 have e1:=enc_small (recX x).length 1 (by omega)
 have e2:=enc_small (grpL x g).length 0 (by omega)
 unfold noteL wtx
 simp only[List.length_append]
 omega
theorem grp_nil (x g:Fu) (h:noteOk x g=true):(if grpL x g=[] then some zFu else decX (grpL x g))=some g:=by
 obtain⟨-,-,h3⟩:=noteOk_parts x g h
 cases hg:Ds.gen (Ds.bl x.1.name)
 · rw[show grpL x g=[] by unfold grpL;rw[if_neg (by rw[hg];simp)],if_pos rfl,fitG_no _ _ h3 hg]
 · obtain⟨h4,h5⟩:=fitG_yes _ _ h3 hg
   rw[show grpL x g=recX g by unfold grpL;rw[if_pos hg]]
   have:=rec_ge g h4
   rw[if_neg (by intro e;rw[e] at this;simp at this),decX_rec g h4 (recX_len g h4)]
def parseX (s:List UInt8):Option (Fu × Fu) :=
 let a:=Rd.txt 200 (s,0)
 let b:=Rd.txt 200 a.2
 if Rd.fin b.2=0 then
  match decX a.1 with
  | none=>none
  | some x=>match (if b.1=[] then some zFu else decX b.1) with
    | none=>none
    | some g=>if noteX x g=some s then some (x,g) else none
 else none
theorem parse_note (x g:Fu) (h:noteOk x g=true):parseX (noteL x g)=some (x,g):=by
 obtain⟨h1,-,-⟩:=noteOk_parts x g h
 have l1:=recX_len x h1
 have l2:=grpL_len x g h
 have e1:Rd.txt 200 (noteL x g,0)=(recX x,(wtx (grpL x g),0)):=by
  unfold noteL wtx
  rw[List.append_assoc]
  exact Rd.txt_enc 200 (recX x) _ l1 (by omega)
 have e2:Rd.txt 200 (wtx (grpL x g),0)=(grpL x g,([],0)):=by
  have:=Rd.txt_enc 200 (grpL x g) [] (by omega) (by omega)
  rw[List.append_nil] at this
  exact this
 unfold parseX
 simp only[e1,e2]
 rw[if_pos (by rfl),decX_rec x h1 l1]
 simp only
 rw[grp_nil x g h]
 simp only
 rw[if_pos (by unfold noteX;rw[if_pos h])]
theorem parse_sound (s:List UInt8) (x g:Fu) (h:parseX s=some (x,g)):noteOk x g=true∧noteL x g=s:=by
 unfold parseX at h
 simp only at h
 split at h
 · split at h
   · cases h
   · split at h
     · cases h
     · split at h
       · rename_i c
         cases h
         unfold noteX at c
         split at c
         · rename_i c2
           exact⟨c2,Option.some.inj c⟩
         · cases c
       · cases h
 · cases h
end
section
open Go.RowKit
set_option linter.unusedSimpArgs false
theorem nw_group (s:ByteArray) (w:World) (hs:s.size<=1000) (hm:MaxL w) :
  Calls Tryz.prog 55 #[.string s] w fun r w'=>r=.returned (.tuple #[.string ⟨(Ds.splG (Ds.bl s)).toArray⟩,.bool (Ds.gen (Ds.bl s))])∧Below w.heap.size w w':=by
 have hp:=ds_split s w hs hm
 generalize (⟨(Ds.splG (Ds.bl s)).toArray⟩:ByteArray)=sg at hp ⊢
 generalize Ds.splN (Ds.bl s)=sn at hp
 generalize Ds.gen (Ds.bl s)=b at hp ⊢
 go_enter Tryz.func55,Tryz.ntmps55
 go_wp2_with (go_at_call 125;(with_reducible refine hp.mono ?_);rintro _ w1 ⟨rfl,B⟩)
 go_ret2
 exact⟨rfl,B⟩
theorem tl_dec (a b:ByteArray):(a.toList==b.toList)=decide (Ds.bl a=Ds.bl b):=by
 rw[Bool.eq_iff_iff,beq_iff_eq,decide_eq_true_eq,tl_inj]
 exact⟨fun h=>by rw[h],fun h=>Ds.bl_inj h⟩
theorem int_dec (a b:Int):(a==b)=decide (a=b):=by
 rw[Bool.eq_iff_iff,beq_iff_eq,decide_eq_true_eq]
def encS (x:Fu):ByteArray:=if okX x=true then ⟨(recX x).toArray⟩ else ⟨#[]⟩
theorem encS_size (x:Fu):(encS x).size<=200:=by
 unfold encS
 split
 · rename_i h
   rw[<-Ds.bl_length,Ds.bl_mk];exact recX_len x h
 · decide
theorem en_enc3 (x:Fu) (al gr:Value) (w:World) (hm:MaxL w) (hT:Tab w) (hsz:x.1.name.size<=1000) (h1:IS w al x.2.1) (h2:GS w gr x.2.2) :
  Calls Tryz.prog 61 #[.agg (x.1.vals al gr)] w fun r w'=>r=.returned (.tuple #[.string (encS x),.int .i64 (if okX x=true then 0 else 1)])∧Below w.heap.size w w':=by
 refine (en_encode x.1 al gr x.2.1 x.2.2 w hm hT hsz h1 h2).mono ?_
 rintro r w' ⟨t,rfl,ht,hb⟩
 have e:t=encS x:=by
  refine Ds.bl_inj (ht.trans ?_)
  unfold encS
  show (if okX x=true then recX x else [])=_
  split
  · rw[Ds.bl_mk]
  · rfl
 subst e
 exact⟨rfl,hb⟩
def txB (s t:ByteArray):ByteArray:=⟨(Ds.bl s++wtx (Ds.bl t)).toArray⟩
theorem txB_bl (s t:ByteArray):Ds.bl (txB s t)=Ds.bl s++wtx (Ds.bl t):=Ds.bl_mk _
theorem txB_size (s t:ByteArray) (h:t.size<=10000):(txB s t).size<=s.size+t.size+10:=by
 rw[<-Ds.bl_length,txB_bl,List.length_append,Ds.bl_length]
 unfold wtx
 rw[List.length_append,Ds.bl_length]
 have:=Wi.enc_len 9 t.size (by omega)
 omega
theorem ap_tx (s t:ByteArray) (w:World) (hs:s.size<=10000) (ht:t.size<=10000) :
  Calls Tryz.prog 121 #[.string s,.string t] w fun r w'=>r=.returned (.string (txB s t))∧Below w.heap.size w w':=by
 refine (ap_text s t w hs ht).mono ?_
 rintro r w' ⟨u,rfl,hu,hb⟩
 have e:u=txB s t:=Ds.bl_inj (hu.trans (by rw[txB_bl];unfold wtx;rw[Ds.bl_length]))
 subst e
 exact⟨rfl,hb⟩
def noteS (x g:Fu):ByteArray:=if noteOk x g=true then ⟨(noteL x g).toArray⟩ else ⟨#[]⟩
theorem noteS_yes (x g:Fu) (h:noteOk x g=true):txB (txB ⟨#[]⟩ (encS x)) (if Ds.gen (Ds.bl x.1.name)=true then encS g else ⟨#[]⟩)=noteS x g:=by
 obtain⟨h1,h2,h3⟩:=noteOk_parts x g h
 refine Ds.bl_inj ?_
 rw[txB_bl,txB_bl]
 unfold noteS
 rw[if_pos h,Ds.bl_mk]
 unfold noteL grpL
 rw[show Ds.bl (encS x)=recX x by unfold encS;rw[if_pos h1,Ds.bl_mk]]
 show wtx (recX x)++_=_
 congr 2
 split
 · rename_i c
   unfold encS
   rw[if_pos (fitG_yes _ _ h3 c).1,Ds.bl_mk]
 · rfl
theorem noteS_no (x g:Fu) (h:noteOk x g=false):noteS x g=⟨#[]⟩:=by
 unfold noteS
 rw[if_neg (by rw[h];simp)]
attribute [local go_sem ↓] ldEnt stEnt
attribute [local go_sem] isHead_mk headOf_mk cellsOfV_mk isAggV_mk row_new row_new2 row_new2' row_drew row_drewN vals_size allOne_nil allOne_cons one_int one_bool one_string one_pointer one_slice one_func
theorem re_note (x g:Fu) (al gr al2 gr2:Value) (w:World) (hm:MaxL w) (hT:Tab w) (hxs:x.1.name.size<=1000) (hgs:g.1.name.size<=1000) (h1:IS w al x.2.1) (h2:GS w gr x.2.2) (h3:IS w al2 g.2.1) (h4:GS w gr2 g.2.2) :
  Calls Tryz.prog 51 #[.agg (x.1.vals al gr),.agg (g.1.vals al2 gr2)] w fun r w'=>r=.returned (.tuple #[.string (noteS x g),.int .i64 (if noteOk x g=true then 0 else 1)])∧Below w.heap.size w w':=by
 have a1:=vals_one x.1 al gr (is_one h1) (gs_one h2)
 have a2:=vals_one g.1 al2 gr2 (is_one h3) (gs_one h4)
 have he:=fun W (B:Below w.heap.size w W)=>en_enc3 x al gr W (hm.below B) (hT.below B) hxs (h1.below B) (h2.below B)
 have hg:=fun W (B:Below w.heap.size w W)=>en_enc3 g al2 gr2 W (hm.below B) (hT.below B) hgs (h3.below B) (h4.below B)
 have hp:=fun W (B:Below w.heap.size w W)=>nw_group x.1.name W hxs (hm.below B)
 have hsm:=fun W (B:Below w.heap.size w W)=>en_same g.1 En.zero al2 gr2 (.slice none 0 0) (.slice none 0 0) g.2.1 [] g.2.2 [] W (h3.below B) (IS.nil W) (h4.below B) (GS.nil W)
 rw[show En.zero.vals (.slice none 0 0) (.slice none 0 0)=zlit 0 ⟨#[]⟩ from (zlit_eq 0 ⟨#[]⟩).symm] at hsm
 unfold zlit at hsm
 have z1:=encS_size x
 have z2:=encS_size g
 have hY:=noteS_yes x g
 have hN:=noteS_no x g
 have hok:noteOk x g=(okX x&&(decide (x.1.kind=0)&&(if Ds.gen (Ds.bl x.1.name)=true then okX g&&(decide (g.1.kind=1)&&decide (Ds.bl g.1.name=Ds.splG (Ds.bl x.1.name))) else sameE g.1 En.zero g.2.1 [] g.2.2 []))):=rfl
 have e1:=int_dec x.1.kind 0
 have e3:=int_dec g.1.kind 1
 have e4:=tl_dec g.1.name ⟨(Ds.splG (Ds.bl x.1.name)).toArray⟩
 rw[show Ds.bl ⟨(Ds.splG (Ds.bl x.1.name)).toArray⟩=Ds.splG (Ds.bl x.1.name) from Ds.bl_mk _] at e4
 have e3':(g.1.kind != 1)=!(decide (g.1.kind=1)):=by rw[<-e3];rfl
 have e4':(g.1.name.toList != (⟨(Ds.splG (Ds.bl x.1.name)).toArray⟩:ByteArray).toList)=!(decide (Ds.bl g.1.name=Ds.splG (Ds.bl x.1.name))):=by rw[<-e4];rfl
 generalize encS x=sx at he z1 hY
 generalize encS g=sy at hg z2 hY
 generalize noteS x g=ns at hY hN ⊢
 generalize noteOk x g=nok at hok hY hN ⊢
 subst hok
 generalize okX x=c0 at he hY hN ⊢
 generalize decide (x.1.kind=0)=c1 at e1 hY hN ⊢
 generalize okX g=c2 at hg hY hN ⊢
 generalize decide (g.1.kind=1)=c3 at e3 e3' hY hN ⊢
 generalize decide (Ds.bl g.1.name=Ds.splG (Ds.bl x.1.name))=c4 at e4 e4' hY hN ⊢
 generalize sameE g.1 En.zero g.2.1 [] g.2.2 []=c5 at hsm hY hN ⊢
 generalize (⟨(Ds.splG (Ds.bl x.1.name)).toArray⟩:ByteArray)=sg at hp e4 e4'
 generalize Ds.gen (Ds.bl x.1.name)=ge at hp hY hN ⊢
 have B0:Below w.heap.size w ((w.alloc (.cells (x.1.vals al gr) 28)).alloc (.cells (g.1.vals al2 gr2) 28)):=by exact belA
 have R0:=row_new2 w (x.1.vals al gr) 28 (0,0) (.cells (g.1.vals al2 gr2) 28)
 have Q0:=row_new2' w (g.1.vals al2 gr2) 28 (0,0) (.cells (x.1.vals al gr) 28)
 have HE:=Lib.hid he
 have HG:=Lib.hid hg
 have HP:=Lib.hid hp
 have HS:=Lib.hid hsm
 have HY:=Lib.hid hY
 have HN:=Lib.hid hN
 have HT:=Lib.hid (fun s t (W:World) (h:s.size<=10000) h'=>ap_tx s t W h h')
 have t0:(⟨#[]⟩:ByteArray).size=0:=rfl
 have z3:=txB_size ⟨#[]⟩ sx (by omega)
 clear he hg hp hsm hY hN h1 h2 h3 h4
 cases c0
 case' true=>cases c1
 case' true.true=>cases ge
 case' true.true.false=>cases c5
 case' true.true.true=>cases c2
 case' true.true.true.true=>cases c3
 case' true.true.true.true.true=>cases c4
 all_goals
  first
  | (obtain rfl:ns=⟨#[]⟩:=HN.out rfl)
  | (have hns:=HY.out rfl;simp only[Bool.false_eq_true,if_false,if_true] at hns;subst hns)
  simp only[Bool.false_and,Bool.and_false,Bool.true_and,Bool.and_true,Bool.and_self,Bool.false_eq_true,if_false,if_true,Bool.not_true,Bool.not_false] at e3' e4' ⊢
  simp only[Bool.false_eq_true,if_false,if_true] at HE HG
  clear HY HN
  go_enter Tryz.func51,Tryz.ntmps51
  go_wp2_with (first
   | (go_at_call 61;have b6:=B2;clear b6;(refine (HG.out _ B2).mono ?_);rintro _ w3 ⟨rfl,hb⟩;have Q3:=row_below hb Q2 (by simp [vals_size]);have n0:=cell_row Q3 0 _ (vals_0 g.1 _ _);have n1:=cell_row Q3 1 _ (vals_1 g.1 _ _);have B3:=bt B2 hb;clear hb)
   | (go_at_call 61;(refine (HE.out _ B0).mono ?_);rintro _ w1 ⟨rfl,hb⟩;have R1:=row_below hb R0 (by simp [vals_size]);have Q1:=row_below hb Q0 (by simp [vals_size]);have x0:=cell_row R1 0 _ (vals_0 x.1 _ _);have x1:=cell_row R1 1 _ (vals_1 x.1 _ _);have B1:=bt B0 hb;clear hb)
   | (go_at_call 55;(refine (HP.out _ B1).mono ?_);rintro _ w2 ⟨rfl,hb⟩;have Q2:=row_below hb Q1 (by simp [vals_size]);have B2:=bt B1 hb;clear hb)
   | (go_at_call 53;(refine (HS.out _ B2).mono ?_);rintro _ w3 ⟨rfl,hb⟩;have B3:=bt B2 hb;clear hb)
   | (go_at_call 121;have b6:=B4;clear b6;(refine (HT.out _ _ _ (by omega) (by omega)).mono ?_);rintro _ w5 ⟨rfl,hb⟩;have B5:=bt B4 hb;clear hb)
   | (go_at_call 121;(refine (HT.out _ _ _ (by omega) (by omega)).mono ?_);rintro _ w4 ⟨rfl,hb⟩;have B4:=bt B3 hb;clear hb))
  go_ret2
  exact⟨rfl,by first | exact B5 | exact B3 | exact B2 | exact B1⟩
end
section
open Go.RowKit
def ParR (w w':World) (s:List UInt8) (r:Ending):Prop:=∃ (x g:Fu) (al gr al2 gr2:Value) (code:Int),r=.returned (.tuple #[.agg (x.1.vals al gr),.agg (g.1.vals al2 gr2),.int .i64 code])∧IS w' al x.2.1∧GS w' gr x.2.2∧IS w' al2 g.2.1∧GS w' gr2 g.2.2∧Below w.heap.size w w'∧(parseX s=some (x,g)∧code=0∨parseX s=none∧x=zFu∧g=zFu∧code=11)
def ParRo (w w':World) (s:List UInt8) (r:Ending):Prop:=∃ (x g:Fu) (al gr al2 gr2:Value) (code:Int),r=.returned (.tuple #[.agg (x.1.vals al gr),.agg (g.1.vals al2 gr2),.int .i64 code])∧IS w' al x.2.1∧GS w' gr x.2.2∧IS w' al2 g.2.1∧GS w' gr2 g.2.2∧Below w.heap.size w w'∧(parseX s=some (x,g)∧code=0∨parseX s=none∧x=zFu∧g=zFu∧code=11) ∧
 (∀ y,al.ownBlock=some y->w.heap.size<=y)∧(∀ y,gr.ownBlock=some y->w.heap.size<=y)∧(∀ y,al2.ownBlock=some y->w.heap.size<=y)∧(∀ y,gr2.ownBlock=some y->w.heap.size<=y)
theorem ParRo.par {w w':World} {s:List UInt8} {r:Ending} (h:ParRo w w' s r):ParR w w' s r:=by
 obtain⟨x,g,al,gr,al2,gr2,code,h1,h2,h3,h4,h5,h6,h7,-⟩:=h
 exact⟨x,g,al,gr,al2,gr2,code,h1,h2,h3,h4,h5,h6,h7⟩
theorem ParRo.bad {w w':World} {s:List UInt8} (hp:parseX s=none) (hb:Below w.heap.size w w'):ParRo w w' s (.returned (.tuple #[.agg (zlit 0 ⟨#[]⟩),.agg (zlit 0 ⟨#[]⟩),.int .i64 11])):=by
 rw[zlit_eq]
 exact⟨zFu,zFu,.slice none 0 0,.slice none 0 0,.slice none 0 0,.slice none 0 0,11,rfl,IS.nil _,GS.nil _,IS.nil _,GS.nil _,hb,Or.inr ⟨hp,rfl,rfl,rfl⟩,(fun y hy=>by cases hy),(fun y hy=>by cases hy),(fun y hy=>by cases hy),(fun y hy=>by cases hy)⟩
theorem par_parts (s:List UInt8):∃ (a b:List UInt8) (r1 r2:List UInt8 × Nat),Rd.txt 200 (s,0)=(a,r1)∧Rd.txt 200 r1=(b,r2)∧a.length<=200∧b.length<=200∧r1.1.length<=s.length∧r2.1.length<=s.length ∧
  (Rd.fin r2≠0->parseX s=none)∧(Rd.fin r2=0->decX a=none->parseX s=none) ∧
  (∀ x g:Fu,Rd.fin r2=0->decX a=some x->(if b=[] then some zFu else decX b)=some g->parseX s=if noteX x g=some s then some (x,g) else none) ∧
  (∀ x:Fu,Rd.fin r2=0->decX a=some x->b≠[]->decX b=none->parseX s=none):=by
 have q1:=Rd.txt_len 200 (s,0)
 have q2:=Rd.txt_len 200 (Rd.txt 200 (s,0)).2
 refine⟨(Rd.txt 200 (s,0)).1,(Rd.txt 200 (Rd.txt 200 (s,0)).2).1,(Rd.txt 200 (s,0)).2,(Rd.txt 200 (Rd.txt 200 (s,0)).2).2,rfl,rfl,q1.2,q2.2,q1.1,Nat.le_trans q2.1 q1.1,?_,?_,?_,?_⟩
 · intro h;unfold parseX;simp only;rw[if_neg h]
 · intro h hd;unfold parseX;simp only;rw[if_pos h,hd]
 · intro x g h hd hg;unfold parseX;simp only;rw[if_pos h,hd];simp only;rw[hg]
 · intro x h hd hb hg;unfold parseX;simp only;rw[if_pos h,hd];simp only;rw[if_neg hb,hg]
def PW (w W:World) (rb:Nat):Prop:=Below w.heap.size w W∧Held W w.heap.size 33∧Held W (w.heap.size+1) 33∧w.heap.size+1<rb∧rb<W.heap.size
theorem PW.lt {w W:World} {rb:Nat} (h:PW w W rb):rb<W.heap.size:=h.2.2.2.2
theorem PW.bel {w W:World} {rb:Nat} (h:PW w W rb):Below w.heap.size w W:=h.1
theorem PW.r0 {w W:World} {rb:Nat} (h:PW w W rb):Held W w.heap.size 33:=h.2.1
theorem PW.r1 {w W:World} {rb:Nat} (h:PW w W rb):Held W (w.heap.size+1) 33:=h.2.2.1
theorem PW.grown {w W W':World} {rb:Nat} (h:PW w W rb) (hg:W.grownBy W' (some rb)):PW w W' rb:=by
 obtain⟨h1,h2,h3,h4,h5⟩:=h
 refine⟨h1.trans (grown_below hg (by omega) (by omega)),h2.of_block (hg.block _ h2.lt (by intro e;have:=Option.some.inj e;omega)),h3.of_block (hg.block _ h3.lt (by intro e;have:=Option.some.inj e;omega)),h4,Nat.lt_of_lt_of_le h5 hg.size⟩
theorem PW.below {w W W':World} {rb:Nat} (h:PW w W rb) (hb:Below W.heap.size W W'):PW w W' rb :=
 ⟨bt h.1 hb,h.2.1.below hb,h.2.2.1.below hb,h.2.2.2.1,Nat.lt_of_lt_of_le h.2.2.2.2 hb.size⟩
theorem PW.alloc {w W:World} {rb:Nat} (h:PW w W rb) (o:Obj):PW w (W.alloc o) rb:=h.below ((Below.refl _ _).alloc (Nat.le_refl _) o)
def P4 (W:World) (g p q:Nat) (xv gv:Array Value):Prop:=row W p=xv∧row W q=gv∧Held W g 33∧Held W (g+1) 33
theorem P4.set {W:World} {g p q k:Nat} {xv gv:Array Value} (h:P4 W g p q xv gv) (c:Array Value) (hc:c.size=33) (hp:g+1<p) (hq:g+1<q) (hk:k=g∨k=g+1):P4 (W.setRow k c) g p q xv gv :=
 ⟨by rw[row_set_ne _ _ _ _ (by omega)];exact h.1,by rw[row_set_ne _ _ _ _ (by omega)];exact h.2.1,h.2.2.1.set c (fun _=>hc),h.2.2.2.set c (fun _=>hc)⟩
def Two (w W W':World) (cx cg:Array Value):Prop:=row W' w.heap.size=cx∧row W' (w.heap.size+1)=cg∧Below w.heap.size w W'∧W'.heap.size=W.heap.size∧∀ j,w.heap.size+1<j->W'.heap[j]?=W.heap[j]?
theorem two_a {w W:World} {rb:Nat} (h:PW w W rb) (cx cg:Array Value) (h1:cx.size=33):Two w W ((W.setRow w.heap.size cx).setRow (w.heap.size+1) cg) cx cg:=by
 have hH:=(h.2.2.1.set (g':=w.heap.size) cx (fun _=>h1))
 refine⟨by rw[row_set_ne _ _ _ _ (by omega),row_setRow h.2.1],row_setRow hH _,below_setRow (below_setRow h.1 (Nat.le_refl _) _) (by omega) _,by simp,fun j hj=>?_⟩
 rw[setRow_block _ _ _ _ (by omega),setRow_block _ _ _ _ (by omega)]
theorem two_b {w W:World} {rb:Nat} (h:PW w W rb) (cx cg:Array Value) (h2:cg.size=33):Two w W ((W.setRow (w.heap.size+1) cg).setRow w.heap.size cx) cx cg:=by
 have hH:=(h.2.1.set (g':=w.heap.size+1) cg (fun _=>h2))
 refine⟨row_setRow hH _,by rw[row_set_ne _ _ _ _ (by omega),row_setRow h.2.2.1],below_setRow (below_setRow h.1 (by omega) _) (Nat.le_refl _) _,by simp,fun j hj=>?_⟩
 rw[setRow_block _ _ _ _ (by omega),setRow_block _ _ _ _ (by omega)]
theorem zlit_one:allOne (zlit 0 ⟨#[]⟩).toList=true:=rfl
theorem re_note3 (x g:Fu) (al gr al2 gr2:Value) (s:ByteArray) (w:World) (hm:MaxL w) (hT:Tab w) (hxs:x.1.name.size<=1000) (hgs:g.1.name.size<=1000) (h1:IS w al x.2.1) (h2:GS w gr x.2.2) (h3:IS w al2 g.2.1) (h4:GS w gr2 g.2.2) :
  Calls Tryz.prog 51 #[.agg (x.1.vals al gr),.agg (g.1.vals al2 gr2)] w fun r w'=>∃ t code,r=.returned (.tuple #[.string t,.int .i64 code])∧Below w.heap.size w w'∧((code=0∧(t.toList==s.toList)=true∧Hid (noteX x g=some (Ds.bl s)))∨(code=0∧(t.toList==s.toList)=false∧Hid (noteX x g≠some (Ds.bl s)))∨(code=1∧Hid (noteX x g≠some (Ds.bl s)))):=by
 refine (re_note x g al gr al2 gr2 w hm hT hxs hgs h1 h2 h3 h4).mono ?_
 rintro r w' ⟨rfl,hb⟩
 refine⟨_,_,rfl,hb,?_⟩
 cases hx:noteOk x g
 · refine Or.inr (Or.inr ⟨by simp,Lib.hid ?_⟩)
   unfold noteX;rw[if_neg (by rw[hx];simp)];intro e;cases e
 · have hn:noteX x g=some (Ds.bl (noteS x g)):=by unfold noteX noteS;rw[if_pos hx,if_pos hx,Ds.bl_mk]
   rw[hn,tl_dec]
   by_cases e:Ds.bl (noteS x g)=Ds.bl s
   · exact Or.inl ⟨by simp,decide_eq_true e,Lib.hid (by rw[e])⟩
   · exact Or.inr (Or.inl ⟨by simp,decide_eq_false e,Lib.hid (fun q=>e (Option.some.inj q))⟩)
theorem dec_gn {b:List UInt8} {g:Fu} {c:Int} (h:decX b=some g∧c=0∨decX b=none∧g=(En.zero,[],[])∧c=11):g.1.name.size<=1000:=by
 rcases h with ⟨h,_⟩ | ⟨_,rfl,_⟩
 · have:=(okX_name g (decX_sound _ _ h).1).1
   rw[Ds.bl_length] at this
   omega
 · decide
theorem below2' (w:World) (a b:Obj):Below w.heap.size w ((w.alloc a).alloc b):=by exact belA
theorem is_set {W:World} {v:Value} {l:List Int} {q:Nat} (h:IS W v l) (c:Array Value) (ho:∀ y,v.ownBlock=some y->y≠q):IS (W.setRow q c) v l:=by
 obtain⟨a,cc,rfl,h2,h3⟩:=h
 refine⟨a,cc,rfl,h2,fun h0=>?_⟩
 obtain⟨bb,o,rfl,hlt,hc⟩:=h3 h0
 refine⟨bb,o,rfl,by simpa using hlt,fun k hk=>?_⟩
 have hne:=ho bb rfl
 rw[World.cell?_of_block (a:=⟨bb,o+k,none⟩) (setRow_block W q bb c hne)]
 exact hc k hk
theorem gs_set {W:World} {v:Value} {l:List Gr} {q:Nat} (h:GS W v l) (c:Array Value) (ho:∀ y,v.ownBlock=some y->y≠q):GS (W.setRow q c) v l:=by
 obtain⟨a,cc,rfl,h2,h3⟩:=h
 refine⟨a,cc,rfl,h2,fun h0=>?_⟩
 obtain⟨bb,o,rfl,hlt,hc⟩:=h3 h0
 have hne:=ho bb rfl
 refine⟨bb,o,rfl,by simpa using hlt,fun k hk=>?_⟩
 have e:=fun j=>World.cell?_of_block (a:=⟨bb,j,none⟩) (setRow_block W q bb c hne)
 rw[e,e,e]
 exact hc k hk
structure FNs (w W:World) (rb p q:Nat) (x g:Fu) (al gr al2 gr2:Value):Prop where
 pw:PW w W rb
 rx:row W p=x.1.vals al gr
 rg:row W q=g.1.vals al2 gr2
 ix:IS W al x.2.1
 gx:GS W gr x.2.2
 ig:IS W al2 g.2.1
 gg:GS W gr2 g.2.2
 nx:x.1.name.size<=1000
 ng:g.1.name.size<=1000
 pp:w.heap.size+1<p
 qq:w.heap.size+1<q
 o1:∀ y,al.ownBlock=some y->w.heap.size+2<=y
 o2:∀ y,gr.ownBlock=some y->w.heap.size+2<=y
 o3:∀ y,al2.ownBlock=some y->w.heap.size+2<=y
 o4:∀ y,gr2.ownBlock=some y->w.heap.size+2<=y
theorem FNs.onex {w W:World} {rb p q:Nat} {x g:Fu} {al gr al2 gr2:Value} (h:FNs w W rb p q x g al gr al2 gr2):allOne (x.1.vals al gr).toList=true:=vals_one _ _ _ (is_one h.ix) (gs_one h.gx)
theorem FNs.oneg {w W:World} {rb p q:Nat} {x g:Fu} {al gr al2 gr2:Value} (h:FNs w W rb p q x g al gr al2 gr2):allOne (g.1.vals al2 gr2).toList=true:=vals_one _ _ _ (is_one h.ig) (gs_one h.gg)
theorem FNs.below {w W W':World} {rb p q:Nat} {x g:Fu} {al gr al2 gr2:Value} (h:FNs w W rb p q x g al gr al2 gr2) (hb:Below W.heap.size W W'):FNs w W' rb p q x g al gr al2 gr2 :=
 ⟨h.pw.below hb,row_below hb h.rx (by rw[vals_size];decide),row_below hb h.rg (by rw[vals_size];decide),h.ix.below hb,h.gx.below hb,h.ig.below hb,h.gg.below hb,h.nx,h.ng,h.pp,h.qq,h.o1,h.o2,h.o3,h.o4⟩
theorem FNs.p4 {w W:World} {rb p q:Nat} {x g:Fu} {al gr al2 gr2:Value} (h:FNs w W rb p q x g al gr al2 gr2):P4 W w.heap.size p q (x.1.vals al gr) (g.1.vals al2 gr2):=⟨h.rx,h.rg,h.pw.r0,h.pw.r1⟩
theorem FNs.start {w w3 w5:World} {rb:Nat} {x:Fu} {al gr:Value} {t t':TypeId} (h5:PW w w5 rb) (h35:rb<w3.heap.size) (hx:x.1.name.size<=1000) (hi:IS w5 al x.2.1) (hg:GS w5 gr x.2.2)
  (o1:∀ y,al.ownBlock=some y->w3.heap.size<=y) (o2:∀ y,gr.ownBlock=some y->w3.heap.size<=y) :
  FNs w ((w5.alloc (.cells (x.1.vals al gr) t)).alloc (.cells (zlit 0 ⟨#[]⟩) t')) rb w5.heap.size (w5.heap.size+1) x zFu al gr (.slice none 0 0) (.slice none 0 0)∧Held ((w5.alloc (.cells (x.1.vals al gr) t)).alloc (.cells (zlit 0 ⟨#[]⟩) t')) (w5.heap.size+1) 33:=by
 have b1:=below2' w5 (.cells (x.1.vals al gr) t) (.cells (zlit 0 ⟨#[]⟩) t')
 have z4:=h5.2.2.2.1
 have z5:=h5.lt
 refine⟨⟨h5.below b1,row_new2 _ _ _ _ _,?_,hi.below b1,hg.below b1,IS.nil _,GS.nil _,hx,by decide,by omega,by omega,fun y hy=>by have:=o1 y hy;omega,fun y hy=>by have:=o2 y hy;omega,(fun y hy=>by cases hy),(fun y hy=>by cases hy)⟩,?_⟩
 · rw[row_new2',zlit_eq];rfl
 · have:=Held.new (w5.alloc (.cells (x.1.vals al gr) t)) (zlit 0 ⟨#[]⟩) t' 33 rfl (by decide)
   simpa using this
theorem FNs.setg {w W W':World} {rb p q:Nat} {x g0 g:Fu} {al gr al0 gr0 al2 gr2:Value} (h:FNs w W rb p q x g0 al gr al0 gr0) (hb:Below W.heap.size W W') (hpq:p≠q) (hq:Held W' q 33) (hi:IS W' al2 g.2.1) (hg:GS W' gr2 g.2.2)
  (hn:g.1.name.size<=1000) (hqW:q<W.heap.size) {w5:World} (b5:Below w5.heap.size w5 W) (hq5:w5.heap.size<=q) (ix5:IS w5 al x.2.1) (gx5:GS w5 gr x.2.2) (o3:∀ y,al2.ownBlock=some y->W.heap.size<=y) (o4:∀ y,gr2.ownBlock=some y->W.heap.size<=y) :
  FNs w (W'.setRow q (g.1.vals al2 gr2)) rb p q x g al gr al2 gr2:=by
 have h':=h.below hb
 obtain⟨b1,b2,b3,b4,b6⟩:=h'.pw
 have hqq:=h.qq
 refine⟨⟨below_setRow b1 (by omega) _,b2.set _ (fun e=>by omega),b3.set _ (fun e=>by omega),b4,by simpa using b6⟩,?_,row_setRow hq _,?_,?_,?_,?_,h.nx,hn,h.pp,h.qq,h.o1,h.o2,fun y hy=>by have:=o3 y hy;omega,fun y hy=>by have:=o4 y hy;omega⟩
 · rw[row_set_ne _ _ _ _ hpq];exact h'.rx
 · exact ix5.below (below_setRow (bt b5 hb) hq5 _)
 · exact gx5.below (below_setRow (bt b5 hb) hq5 _)
 · exact is_set hi _ (fun y hy=>by have:=o3 y hy;omega)
 · exact gs_set hg _ (fun y hy=>by have:=o4 y hy;omega)
theorem FNs.doneo {w W W':World} {rb p q:Nat} {x g:Fu} {al gr al2 gr2:Value} {s:List UInt8} (h:FNs w W rb p q x g al gr al2 gr2) (hT:Two w W W' (x.1.vals al gr) (g.1.vals al2 gr2)) (hp:parseX s=some (x,g)) :
  ParRo w W' s (.returned (.tuple #[.agg (x.1.vals al gr),.agg (g.1.vals al2 gr2),.int .i64 0])):=by
 obtain⟨t1,t2,t3,t4,t5⟩:=hT
 have hk:∀ j,w.heap.size+2<=j->j<W.heap.size->W'.heap[j]?=W.heap[j]?:=fun j h1 _=>t5 j (by omega)
 exact⟨x,g,al,gr,al2,gr2,0,rfl,h.ix.keep _ h.o1 (by omega) hk,h.gx.keep _ h.o2 (by omega) hk,h.ig.keep _ h.o3 (by omega) hk,h.gg.keep _ h.o4 (by omega) hk,t3,Or.inl ⟨hp,rfl⟩,(fun y hy=>by have:=h.o1 y hy;omega),(fun y hy=>by have:=h.o2 y hy;omega),(fun y hy=>by have:=h.o3 y hy;omega),(fun y hy=>by have:=h.o4 y hy;omega)⟩
attribute [local go_sem ↓] ldEnt stEnt stEntRow
attribute [local go_sem] Held_drew isHead_mk headOf_mk cellsOfV_mk isAggV_mk row_new row_new2 row_new2' row_drew row_drewN vals_size allOne_nil allOne_cons one_int one_bool one_string one_pointer one_slice one_func
theorem re_parse_o (s:ByteArray) (w:World) (hs:s.size<=1000) (hm:MaxL w) (hT:Tab w) :
  Calls Tryz.prog 52 #[.string s] w fun r w'=>ParRo w w' (Ds.bl s) r:=by
 obtain⟨a,b,r1,r2,e1,e2,la,lb,l1,l2,p1,p2,p3,p4⟩:=par_parts (Ds.bl s)
 rw[Ds.bl_length] at l1 l2
 have HA:=Lib.hid (fun (rb:Nat) (W:World) (hb:rb<W.heap.size) (hR:RL W rb (Ds.bl s,0))=>rd_text rb 200 (Ds.bl s,0) W (by simp only[Ds.bl_length];omega) hb hR (by decide))
 have HB:=Lib.hid (fun (rb:Nat) (W:World) (hb:rb<W.heap.size) (hR:RL W rb r1)=>rd_text rb 200 r1 W (by omega) hb hR (by decide))
 rw[e1] at HA
 rw[e2] at HB
 simp only[show (((200:Nat):Int))=(200:Int) from rfl] at HA HB
 have HE:=Lib.hid (fun (rb:Nat) (W:World) (hR:RL W rb r2)=>rd_end rb r2 W hR)
 have HP1:=Lib.hid p1
 clear p1 e1 e2
 have HZ:Held ((w.alloc (.cells (zlit 0 ⟨#[]⟩) 28)).alloc (.cells (zlit 0 ⟨#[]⟩) 28)) (w.heap.size+1) 33:=by
  have:=Held.new (w.alloc (.cells (zlit 0 ⟨#[]⟩) 28)) (zlit 0 ⟨#[]⟩) 28 33 rfl (by decide)
  simpa using this
 have HY:Held ((w.alloc (.cells (zlit 0 ⟨#[]⟩) 28)).alloc (.cells (zlit 0 ⟨#[]⟩) 28)) w.heap.size 33:=(Held.new w (zlit 0 ⟨#[]⟩) 28 33 rfl (by decide)).below ((Below.refl _ _).alloc (Nat.le_refl _) _)
 have HV:=Lib.hid (RD.new s ((w.alloc (.cells (zlit 0 ⟨#[]⟩) 28)).alloc (.cells (zlit 0 ⟨#[]⟩) 28)))
 have hnr:=fun W=>new_reader s W
 have B0:Below w.heap.size w ((w.alloc (.cells (zlit 0 ⟨#[]⟩) 28)).alloc (.cells (zlit 0 ⟨#[]⟩) 28)):=by exact belA
 have s0:((w.alloc (.cells (zlit 0 ⟨#[]⟩) 28)).alloc (.cells (zlit 0 ⟨#[]⟩) 28)).heap.size=w.heap.size+1+1:=by simp
 unfold zlit at HV HZ HY B0 s0
 go_enter Tryz.func52,Tryz.ntmps52
 go_upto_region 1 with fail
 generalize hW:((w.alloc _).alloc _)=W0 at HV HZ HY B0 s0 ⊢
 clear hW
 have S0:=Lib.hid s0
 clear s0
 have Z0:=Lib.hid HY
 have Y0:=Lib.hid HZ
 clear HY HZ
 go_upto_region 2 with (go_at_call 60;(with_reducible refine (hnr _).mono ?_);rintro _ w1 ⟨rfl,h1⟩;have V1:=Lib.hid (show RL w1 W0.heap.size (Ds.bl s,0) from ⟨s,rfl,by rw[h1];exact HV.out⟩);have P1:=Lib.hid (show PW w w1 W0.heap.size from ⟨by rw[h1];exact B0.alloc B0.size _,by rw[h1];exact Z0.out.below ((Below.refl _ _).alloc (Nat.le_refl _) _),by rw[h1];exact Y0.out.below ((Below.refl _ _).alloc (Nat.le_refl _) _),by have:=S0.out;omega,by rw[h1];simp⟩);clear h1)
 clear HV B0 Z0 Y0 hnr S0
 generalize hrb:W0.heap.size=rb at V1 P1 ⊢
 clear hrb
 have HD:=Lib.hid (fun (t:ByteArray) (W:World) (hB:Below w.heap.size w W)=>en_decodeF t W (hm.below hB) (hT.below hB))
 have HN:=Lib.hid (fun (x g:Fu) (al gr al2 gr2:Value) (W:World) (hB:Below w.heap.size w W) hx hg h1 h2 h3 h4=>re_note3 x g al gr al2 gr2 s W (hm.below hB) (hT.below hB) hx hg h1 h2 h3 h4)
 by_cases hf:Rd.fin r2=0
 rotate_left
 · have hpn:=HP1.out hf
   have e0:(((Rd.fin r2:Nat):Int)==0)=false:=by rw[beq_eq_false_iff_ne];omega
   have HPN:=Lib.hid hpn
   clear p2 p3 p4 hf hpn HP1 HD HN
   go_upto_region 4 with (first
    | (go_at_call 122;have b6:=V2;clear b6;(with_reducible refine (HB.out rb _ P2.out.lt V2.out).mono ?_);rintro _ w3 ⟨tb,rfl,htb,hV,hg⟩;have V3:=Lib.hid hV;have P3:=Lib.hid (P2.out.grown hg);clear htb hV hg)
    | (go_at_call 122;(with_reducible refine (HA.out rb _ P1.out.lt V1.out).mono ?_);rintro _ w2 ⟨ta,rfl,hta,hV,hg⟩;have V2:=Lib.hid hV;have P2:=Lib.hid (P1.out.grown hg);clear hta hV hg)
    | (go_at_call 62;(with_reducible refine (HE.out rb _ V3.out).mono ?_);rintro _ w4 ⟨rfl,rfl⟩))
   clear HA HB HE
   have k1:=P3.out.r0
   have k2:∀ c,Held (w3.setRow w.heap.size c) (w.heap.size+1) 33:=fun c=>P3.out.r1.set c (fun e=>absurd e (by omega))
   have T:=two_a P3.out (zlit 0 ⟨#[]⟩) (zlit 0 ⟨#[]⟩) rfl
   unfold zlit at T
   have HT:=Lib.hid T
   clear T
   go_wp2_with fail
   refine bodyPost_ret (res_rr_tmp (n:=32) (n':=32) rfl Tryz.underlying28 rfl (by kernel_rfl) Tryz.underlying28 rfl (by kernel_rfl) _ _ w.heap.size (w.heap.size+1) rfl rfl (by rw[HT.out.1];rfl) (by rw[HT.out.2.1];rfl)) rfl ?_
   rw[HT.out.1,HT.out.2.1]
   exact ParRo.bad HPN.out HT.out.2.2.1
 have e0:(((Rd.fin r2:Nat):Int)==0)=true:=by rw[hf];rfl
 have H2:=Lib.hid (p2 hf)
 have H3:=Lib.hid (fun x g=>p3 x g hf)
 have H4:=Lib.hid (fun x=>p4 x hf)
 clear p2 p3 p4 hf HP1
 go_upto_region 5 with (first
   | (go_at_call 122;have b6:=V2;clear b6;(with_reducible refine (HB.out rb _ P2.out.lt V2.out).mono ?_);rintro _ w3 ⟨tb,rfl,htb,hV,hg⟩;have V3:=Lib.hid hV;have P3:=Lib.hid (P2.out.grown hg);have HTB:=Lib.hid htb;clear htb hV hg)
   | (go_at_call 122;(with_reducible refine (HA.out rb _ P1.out.lt V1.out).mono ?_);rintro _ w2 ⟨ta,rfl,hta,hV,hg⟩;have V2:=Lib.hid hV;have P2:=Lib.hid (P1.out.grown hg);have HTA:=Lib.hid hta;clear hta hV hg)
   | (go_at_call 62;(with_reducible refine (HE.out rb _ V3.out).mono ?_);rintro _ w4 ⟨rfl,rfl⟩))
 clear HA HB HE V1 V2 V3 P1 P2
 have HD1:=HD.out ta
 rw[HTA.out] at HD1
 have HD1:=Lib.hid HD1
 have HD2:=HD.out tb
 rw[HTB.out] at HD2
 have HD2:=Lib.hid HD2
 have hzo:=zlit_one
 unfold zlit at hzo
 go_upto_region 7 with (go_at_call 22;(with_reducible refine (HD1.out _ P3.out.bel).mono ?_);rintro _ w5 ⟨x,al,gr,code,rfl,hI,hG,hb,hcase,ho1,ho2⟩;have P5:=Lib.hid (P3.out.below hb);have hone:=vals_one x.1 al gr (is_one hI) (gs_one hG);have HI:=Lib.hid hI;have HG:=Lib.hid hG;have HO1:=Lib.hid ho1;have HO2:=Lib.hid ho2;have Z3:=Lib.hid (Nat.le_trans P3.out.lt (Nat.le_refl _));have z35:=hb.size;clear hI hG ho1 ho2 hb;rcases hcase with ⟨hd,rfl⟩ | ⟨hd,hx,rfl⟩;rotate_left 1;have HX:=Lib.hid hx;clear hx;rotate_left 1)
 -- PRINTED BY mknp.py
 rotate_left 1
 · have HPN:=Lib.hid (H2.out hd)
   have F6:=FNs.start (t:=28) (t':=28) P5.out Z3.out (by rw[HX.out];decide) HI.out HG.out HO1.out HO2.out
   have F7:w5.heap.size+1<((w5.alloc (.cells (x.1.vals al gr) 28)).alloc (.cells (zlit 0 ⟨#[]⟩) 28)).heap.size:=by simp
   unfold zlit at F6 F7
   have F8:=below2' w5 (.cells (x.1.vals al gr) 28) (.cells (zlit 0 ⟨#[]⟩) 28)
   unfold zlit at F8
   have FF:=Lib.hid (And.intro F6 (And.intro F7 F8))
   clear F6 F7 F8
   generalize hW6:((w5.alloc _).alloc _)=W6 at FF ⊢
   clear hW6
   have FN:=Lib.hid FF.out.1.1
   clear hd HX hone H2 H3 H4 HD HD1 HD2
   have rX:=FN.out.rx
   have rG:=FN.out.rg
   go_upto_region 10 with (go_at_call 51;(with_reducible refine (HN.out x zFu al gr (.slice none 0 0) (.slice none 0 0) _ FN.out.pw.bel FN.out.nx FN.out.ng FN.out.ix FN.out.gx FN.out.ig FN.out.gg).mono ?_);rintro _ w8 ⟨t,code,rfl,hb,hcase⟩;have FB:=Lib.hid hb;clear hb;rcases hcase with ⟨rfl,ht,hh⟩ | ⟨rfl,ht,hh⟩ | ⟨rfl,hh⟩)
   all_goals
    have F8:=Lib.hid (FN.out.below FB.out)
    clear rX rG FN FB
    have k1:=F8.out.pw.r0
    have k2:∀ c,Held (w8.setRow w.heap.size c) (w.heap.size+1) 33:=fun c=>F8.out.pw.r1.set c (fun e=>absurd e (by omega))
    have T:=two_a F8.out.pw (zlit 0 ⟨#[]⟩) (zlit 0 ⟨#[]⟩) rfl
    unfold zlit at T
    have HT:=Lib.hid T
    clear T
   all_goals
    go_wp2_with fail
    refine bodyPost_ret (res_rr_tmp (n:=32) (n':=32) rfl Tryz.underlying28 rfl (by kernel_rfl) Tryz.underlying28 rfl (by kernel_rfl) _ _ w.heap.size (w.heap.size+1) rfl rfl (by rw[HT.out.1];rfl) (by rw[HT.out.2.1];rfl)) rfl ?_
    rw[HT.out.1,HT.out.2.1]
    exact ParRo.bad (HPN.out) HT.out.2.2.1
 have hsx:=Lib.hid (Nat.le_trans (by have:=(okX_name x (decX_sound _ _ hd).1).1;rw[Ds.bl_length] at this;exact this) (by decide):x.1.name.size<=1000)
 have F6:=FNs.start (t:=28) (t':=28) P5.out Z3.out (hsx.out) HI.out HG.out HO1.out HO2.out
 have F7:w5.heap.size+1<((w5.alloc (.cells (x.1.vals al gr) 28)).alloc (.cells (zlit 0 ⟨#[]⟩) 28)).heap.size:=by simp
 unfold zlit at F6 F7
 have F8:=below2' w5 (.cells (x.1.vals al gr) 28) (.cells (zlit 0 ⟨#[]⟩) 28)
 unfold zlit at F8
 have FF:=Lib.hid (And.intro F6 (And.intro F7 F8))
 clear F6 F7 F8
 generalize hW6:((w5.alloc _).alloc _)=W6 at FF ⊢
 clear hW6
 by_cases hbn:b=[]
 · have h0:tb.size=0:=by rw[<-Ds.bl_length,HTB.out,hbn];rfl
   have e1:=isEmpty_nil tb h0
   have HPX:=Lib.hid (H3.out x zFu hd (by rw[if_pos hbn]))
   have FN:=Lib.hid FF.out.1.1
   clear h0 hbn hd hone H2 H3 H4 HD HD1 HD2
   have rX:=FN.out.rx
   have rG:=FN.out.rg
   go_upto_region 10 with (go_at_call 51;(with_reducible refine (HN.out x zFu al gr (.slice none 0 0) (.slice none 0 0) _ FN.out.pw.bel FN.out.nx FN.out.ng FN.out.ix FN.out.gx FN.out.ig FN.out.gg).mono ?_);rintro _ w8 ⟨t,code,rfl,hb,hcase⟩;have FB:=Lib.hid hb;clear hb;rcases hcase with ⟨rfl,ht,hh⟩ | ⟨rfl,ht,hh⟩ | ⟨rfl,hh⟩)
   all_goals
    have F8:=Lib.hid (FN.out.below FB.out)
    clear rX rG FN FB
    have k1:=F8.out.pw.r0
    have k2:∀ c,Held (w8.setRow w.heap.size c) (w.heap.size+1) 33:=fun c=>F8.out.pw.r1.set c (fun e=>absurd e (by omega))
    have T:=two_a F8.out.pw (zlit 0 ⟨#[]⟩) (zlit 0 ⟨#[]⟩) rfl
    unfold zlit at T
    have HT:=Lib.hid T
    clear T
   rotate_left 1
   iterate 2
    ·
     go_wp2_with fail
     refine bodyPost_ret (res_rr_tmp (n:=32) (n':=32) rfl Tryz.underlying28 rfl (by kernel_rfl) Tryz.underlying28 rfl (by kernel_rfl) _ _ w.heap.size (w.heap.size+1) rfl rfl (by rw[HT.out.1];rfl) (by rw[HT.out.2.1];rfl)) rfl ?_
     rw[HT.out.1,HT.out.2.1]
     exact ParRo.bad (by rw[HPX.out,if_neg hh.out]) HT.out.2.2.1
   clear HT k2
   have hX8:=F8.out.onex
   have hG8:=F8.out.oneg
   have q1:=F8.out.pp
   have q2:=F8.out.qq
   have HP4:P4 w8.drew w.heap.size w5.heap.size (w5.heap.size+1) _ _:=F8.out.p4
   go_upto_region 12 with fail
   go_region_held3 (fun w'=>row w' w5.heap.size=x.1.vals al gr∧row w' (w5.heap.size+1)=zFu.1.vals (.slice none 0 0) (.slice none 0 0)∧Held w' w.heap.size 33∧Held w' (w.heap.size+1) 33) (first | assumption | exact HP4 | exact P4.set (by assumption) _ (vals_size _ _ _) q1 q2 (Or.inl rfl) | exact P4.set (by assumption) _ (vals_size _ _ _) q1 q2 (Or.inr rfl)) (fail)
   have FD:=F8.out.below (Below.drew (Below.refl w8.heap.size w8))
   have TA:=Lib.hid (two_a FD.pw (x.1.vals al gr) (zFu.1.vals (.slice none 0 0) (.slice none 0 0)) (vals_size _ _ _))
   have TB:=Lib.hid (two_b FD.pw (x.1.vals al gr) (zFu.1.vals (.slice none 0 0) (.slice none 0 0)) (vals_size _ _ _))
   all_goals
    go_wp2_with fail
    first
    | (refine bodyPost_ret (res_rr_tmp (n:=32) (n':=32) rfl Tryz.underlying28 rfl (by kernel_rfl) Tryz.underlying28 rfl (by kernel_rfl) _ _ w.heap.size (w.heap.size+1) rfl rfl (by rw[TA.out.1];exact vals_size _ _ _) (by rw[TA.out.2.1];exact vals_size _ _ _)) rfl ?_
       rw[TA.out.1,TA.out.2.1]
       exact FD.doneo TA.out (by rw[HPX.out,if_pos hh.out]))
    | (refine bodyPost_ret (res_rr_tmp (n:=32) (n':=32) rfl Tryz.underlying28 rfl (by kernel_rfl) Tryz.underlying28 rfl (by kernel_rfl) _ _ w.heap.size (w.heap.size+1) rfl rfl (by rw[TB.out.1];exact vals_size _ _ _) (by rw[TB.out.2.1];exact vals_size _ _ _)) rfl ?_
       rw[TB.out.1,TB.out.2.1]
       exact FD.doneo TB.out (by rw[HPX.out,if_pos hh.out]))
 have h0:0<tb.size:=by rw[<-Ds.bl_length,HTB.out];exact List.length_pos_iff.2 hbn
 have e1:=isEmpty_of tb h0
 have k6:=FF.out.1.2
 go_upto_region 9 with (go_at_call 22;(with_reducible refine (HD2.out _ FF.out.1.1.pw.bel).mono ?_);rintro _ w7 ⟨g,al2,gr2,code2,rfl,hI2,hG2,hb7,hcase2,ho3,ho4⟩;have k7:=k6.below hb7;have HB7:=Lib.hid hb7;have hone2:=vals_one g.1 al2 gr2 (is_one hI2) (gs_one hG2);have HI2:=Lib.hid hI2;have HG2:=Lib.hid hG2;have HO3:=Lib.hid ho3;have HO4:=Lib.hid ho4;clear hI2 hG2 ho3 ho4 hb7;have HC2:=Lib.hid hcase2;have HGN:=Lib.hid (dec_gn hcase2);rcases hcase2 with ⟨hd2,rfl⟩ | ⟨hd2,hg2,rfl⟩;rotate_left 1;have HX2:=Lib.hid hg2;clear hg2;rotate_left 1)
 all_goals
  have FN:=Lib.hid (FF.out.1.1.setg HB7.out (by omega) k7 HI2.out HG2.out HGN.out FF.out.2.1 FF.out.2.2 (by omega) HI.out HG.out HO3.out HO4.out)
 rotate_left 1
 · have HPN:=Lib.hid (H4.out x hd hbn hd2)
   clear hd2 HX2 hd hone H2 H3 H4 HD HD1 HD2 HC2 HI HG k6 k7
   have rX:=FN.out.rx
   have rG:=FN.out.rg
   go_upto_region 10 with (go_at_call 51;(with_reducible refine (HN.out x g al gr al2 gr2 _ FN.out.pw.bel FN.out.nx FN.out.ng FN.out.ix FN.out.gx FN.out.ig FN.out.gg).mono ?_);rintro _ w8 ⟨t,code,rfl,hb,hcase⟩;have FB:=Lib.hid hb;clear hb;rcases hcase with ⟨rfl,ht,hh⟩ | ⟨rfl,ht,hh⟩ | ⟨rfl,hh⟩)
   all_goals
    have F8:=Lib.hid (FN.out.below FB.out)
    clear rX rG FN FB
    have k1:=F8.out.pw.r0
    have k2:∀ c,Held (w8.setRow w.heap.size c) (w.heap.size+1) 33:=fun c=>F8.out.pw.r1.set c (fun e=>absurd e (by omega))
    have T:=two_a F8.out.pw (zlit 0 ⟨#[]⟩) (zlit 0 ⟨#[]⟩) rfl
    unfold zlit at T
    have HT:=Lib.hid T
    clear T
   all_goals
    go_wp2_with fail
    refine bodyPost_ret (res_rr_tmp (n:=32) (n':=32) rfl Tryz.underlying28 rfl (by kernel_rfl) Tryz.underlying28 rfl (by kernel_rfl) _ _ w.heap.size (w.heap.size+1) rfl rfl (by rw[HT.out.1];rfl) (by rw[HT.out.2.1];rfl)) rfl ?_
    rw[HT.out.1,HT.out.2.1]
    exact ParRo.bad (HPN.out) HT.out.2.2.1
 have HPX:=Lib.hid (H3.out x g hd (by rw[if_neg hbn];exact hd2))
 clear hd2 hd hone H2 H3 H4 HD HD1 HD2 HC2 HI HG k6 k7
 have rX:=FN.out.rx
 have rG:=FN.out.rg
 go_upto_region 10 with (go_at_call 51;(with_reducible refine (HN.out x g al gr al2 gr2 _ FN.out.pw.bel FN.out.nx FN.out.ng FN.out.ix FN.out.gx FN.out.ig FN.out.gg).mono ?_);rintro _ w8 ⟨t,code,rfl,hb,hcase⟩;have FB:=Lib.hid hb;clear hb;rcases hcase with ⟨rfl,ht,hh⟩ | ⟨rfl,ht,hh⟩ | ⟨rfl,hh⟩)
 all_goals
  have F8:=Lib.hid (FN.out.below FB.out)
  clear rX rG FN FB
  have k1:=F8.out.pw.r0
  have k2:∀ c,Held (w8.setRow w.heap.size c) (w.heap.size+1) 33:=fun c=>F8.out.pw.r1.set c (fun e=>absurd e (by omega))
  have T:=two_a F8.out.pw (zlit 0 ⟨#[]⟩) (zlit 0 ⟨#[]⟩) rfl
  unfold zlit at T
  have HT:=Lib.hid T
  clear T
 rotate_left 1
 iterate 2
  ·
   go_wp2_with fail
   refine bodyPost_ret (res_rr_tmp (n:=32) (n':=32) rfl Tryz.underlying28 rfl (by kernel_rfl) Tryz.underlying28 rfl (by kernel_rfl) _ _ w.heap.size (w.heap.size+1) rfl rfl (by rw[HT.out.1];rfl) (by rw[HT.out.2.1];rfl)) rfl ?_
   rw[HT.out.1,HT.out.2.1]
   exact ParRo.bad (by rw[HPX.out,if_neg hh.out]) HT.out.2.2.1
 clear HT k2
 have hX8:=F8.out.onex
 have hG8:=F8.out.oneg
 have q1:=F8.out.pp
 have q2:=F8.out.qq
 have HP4:P4 w8.drew w.heap.size w5.heap.size (w5.heap.size+1) _ _:=F8.out.p4
 go_upto_region 12 with fail
 go_region_held3 (fun w'=>row w' w5.heap.size=x.1.vals al gr∧row w' (w5.heap.size+1)=g.1.vals al2 gr2∧Held w' w.heap.size 33∧Held w' (w.heap.size+1) 33) (first | assumption | exact HP4 | exact P4.set (by assumption) _ (vals_size _ _ _) q1 q2 (Or.inl rfl) | exact P4.set (by assumption) _ (vals_size _ _ _) q1 q2 (Or.inr rfl)) (fail)
 have FD:=F8.out.below (Below.drew (Below.refl w8.heap.size w8))
 have TA:=Lib.hid (two_a FD.pw (x.1.vals al gr) (g.1.vals al2 gr2) (vals_size _ _ _))
 have TB:=Lib.hid (two_b FD.pw (x.1.vals al gr) (g.1.vals al2 gr2) (vals_size _ _ _))
 all_goals
  go_wp2_with fail
  first
  | (refine bodyPost_ret (res_rr_tmp (n:=32) (n':=32) rfl Tryz.underlying28 rfl (by kernel_rfl) Tryz.underlying28 rfl (by kernel_rfl) _ _ w.heap.size (w.heap.size+1) rfl rfl (by rw[TA.out.1];exact vals_size _ _ _) (by rw[TA.out.2.1];exact vals_size _ _ _)) rfl ?_
     rw[TA.out.1,TA.out.2.1]
     exact FD.doneo TA.out (by rw[HPX.out,if_pos hh.out]))
  | (refine bodyPost_ret (res_rr_tmp (n:=32) (n':=32) rfl Tryz.underlying28 rfl (by kernel_rfl) Tryz.underlying28 rfl (by kernel_rfl) _ _ w.heap.size (w.heap.size+1) rfl rfl (by rw[TB.out.1];exact vals_size _ _ _) (by rw[TB.out.2.1];exact vals_size _ _ _)) rfl ?_
     rw[TB.out.1,TB.out.2.1]
     exact FD.doneo TB.out (by rw[HPX.out,if_pos hh.out]))
theorem re_parse (s:ByteArray) (w:World) (hs:s.size<=1000) (hm:MaxL w) (hT:Tab w) :
  Calls Tryz.prog 52 #[.string s] w fun r w'=>ParR w w' (Ds.bl s) r:=(re_parse_o s w hs hm hT).mono fun _ _ h=>h.par
end
section
open Go.RowKit
set_option linter.unusedSimpArgs false
theorem recQ_size (x:Fu):(recQ x).size<=200:=by
 unfold recQ
 split
 · rename_i h
   rw[<-Ds.bl_length,Ds.bl_mk]
   exact recX_len x h
 · decide
theorem name_pos (x:Fu) (h:okX x=true) (hk:x.1.kind=1):Ds.bl x.1.name≠[]:=by
 obtain⟨e,l,r⟩:=x
 simp only at hk
 unfold okX at h
 simp only[hk] at h
 rw[if_neg (by decide),if_pos trivial] at h
 unfold okG at h
 simp only[Bool.and_eq_true] at h
 intro e0
 simp only at e0
 rw[e0] at h
 exact absurd h.1.1 (by decide +kernel)
theorem noteS_txt (x g:Fu) (h:noteOk x g=true):(encB (recQ x).size++recQ x)++(encB (if Ds.gen (Ds.bl x.1.name)=true then recQ g else ⟨#[]⟩).size++(if Ds.gen (Ds.bl x.1.name)=true then recQ g else ⟨#[]⟩))=noteS x g:=by
 obtain⟨h1,h2,h3⟩:=noteOk_parts x g h
 refine Ds.bl_inj ?_
 have k1:Ds.bl (recQ x)=recX x:=by unfold recQ;rw[if_pos h1,Ds.bl_mk]
 have k2:Ds.bl (if Ds.gen (Ds.bl x.1.name)=true then recQ g else ⟨#[]⟩)=grpL x g:=by
  unfold grpL
  split
  · rename_i c
    unfold recQ
    rw[if_pos (fitG_yes _ _ h3 c).1,Ds.bl_mk]
  · rfl
 generalize (if Ds.gen (Ds.bl x.1.name)=true then recQ g else ⟨#[]⟩)=y at k2 ⊢
 rw[Ds.bl_append,Ds.bl_append,Ds.bl_append,encB_bl,encB_bl,<-Ds.bl_length,<-Ds.bl_length,k1,k2]
 unfold noteS
 rw[if_pos h,Ds.bl_mk]
 rfl
theorem note_grp (x g:Fu) (h:noteOk x g=true):g.1.name.toList.isEmpty=!(Ds.gen (Ds.bl x.1.name)):=by
 obtain⟨h1,h2,h3⟩:=noteOk_parts x g h
 cases hg:Ds.gen (Ds.bl x.1.name)
 · rw[fitG_no _ _ h3 hg]
   exact isEmpty_nil _ rfl
 · obtain⟨h4,h5⟩:=fitG_yes _ _ h3 hg
   exact isEmpty_of _ (by rw[<-Ds.bl_length];exact List.length_pos_iff.2 (name_pos g h4 h5))
attribute [local go_sem ↓] ldEnt stEnt
attribute [local go_sem] isHead_mk headOf_mk cellsOfV_mk isAggV_mk row_new row_new2 row_new2' row_drew row_drewN vals_size allOne_nil allOne_cons one_int one_bool one_string one_pointer one_slice one_func
theorem rn_fits (x g:Fu) (al gr al2 gr2:Value) (w:World) (hxs:x.1.name.size<=60) (hgs:g.1.name.size<=60) (h1:IS w al x.2.1) (h2:GS w gr x.2.2) (h3:IS w al2 g.2.1) (h4:GS w gr2 g.2.2) :
  Calls Tryz.prog 245 #[.agg (x.1.vals al gr),.agg (g.1.vals al2 gr2)] w fun r w'=>r=.returned (.bool (noteOk x g))∧Below w.heap.size w w':=by
 have a1:=vals_one x.1 al gr (is_one h1) (gs_one h2)
 have a2:=vals_one g.1 al2 gr2 (is_one h3) (gs_one h4)
 have he:=fun W (B:Below w.heap.size w W)=>rva_any x al gr W hxs (h1.below B) (h2.below B)
 have hg:=fun W (B:Below w.heap.size w W)=>rva_any g al2 gr2 W hgs (h3.below B) (h4.below B)
 have hp:=fun W=>rds_split x.1.name W hxs
 have hsm:=fun W (B:Below w.heap.size w W)=>rsame g.1 En.zero al2 gr2 (.slice none 0 0) (.slice none 0 0) g.2.1 [] g.2.2 [] W (h3.below B) (IS.nil W) (h4.below B) (GS.nil W)
 rw[show En.zero.vals (.slice none 0 0) (.slice none 0 0)=zlit 0 ⟨#[]⟩ from (zlit_eq 0 ⟨#[]⟩).symm] at hsm
 unfold zlit at hsm
 have hok:noteOk x g=(okX x&&(decide (x.1.kind=0)&&(if Ds.gen (Ds.bl x.1.name)=true then okX g&&(decide (g.1.kind=1)&&decide (Ds.bl g.1.name=Ds.splG (Ds.bl x.1.name))) else sameE g.1 En.zero g.2.1 [] g.2.2 []))):=rfl
 have e1:=int_dec x.1.kind 0
 have e1':(x.1.kind != 0)=!(decide (x.1.kind=0)):=by rw[<-e1];rfl
 have e3:=int_dec g.1.kind 1
 have e4:=tl_dec g.1.name ⟨(Ds.splG (Ds.bl x.1.name)).toArray⟩
 rw[show Ds.bl ⟨(Ds.splG (Ds.bl x.1.name)).toArray⟩=Ds.splG (Ds.bl x.1.name) from Ds.bl_mk _] at e4
 generalize noteOk x g=nok at hok ⊢
 subst hok
 generalize okX x=c0 at he ⊢
 generalize decide (x.1.kind=0)=c1 at e1 e1' ⊢
 generalize okX g=c2 at hg ⊢
 generalize decide (g.1.kind=1)=c3 at e3 ⊢
 generalize decide (Ds.bl g.1.name=Ds.splG (Ds.bl x.1.name))=c4 at e4 ⊢
 generalize sameE g.1 En.zero g.2.1 [] g.2.2 []=c5 at hsm ⊢
 generalize (⟨(Ds.splG (Ds.bl x.1.name)).toArray⟩:ByteArray)=sg at hp e4
 generalize Ds.gen (Ds.bl x.1.name)=ge at hp ⊢
 have B0:Below w.heap.size w ((w.alloc (.cells (x.1.vals al gr) 28)).alloc (.cells (g.1.vals al2 gr2) 28)):=by exact belA
 have R0:=row_new2 w (x.1.vals al gr) 28 (0,0) (.cells (g.1.vals al2 gr2) 28)
 have Q0:=row_new2' w (g.1.vals al2 gr2) 28 (0,0) (.cells (x.1.vals al gr) 28)
 have HE:=Lib.hid he
 have HG:=Lib.hid hg
 have HP:=Lib.hid hp
 have HS:=Lib.hid hsm
 clear he hg hp hsm h1 h2 h3 h4
 have x0:=cell_row R0 0 _ (vals_0 x.1 _ _)
 cases c1
 case' true=>cases c0
 case' true.true=>cases ge
 case' true.true.true=>cases c3
 case' true.true.true.true=>cases c4
 all_goals
  simp only[Bool.false_and,Bool.and_false,Bool.true_and,Bool.and_true,Bool.and_self,Bool.false_eq_true,if_false,if_true,Bool.not_true,Bool.not_false] at e1' ⊢
  go_enter Tryz.func245,Tryz.ntmps245
  go_wp2_with (first
   | (go_at_call 48;have b6:=B2;clear b6;(refine (HG.out _ B2).mono ?_);rintro _ w3 ⟨rfl,hb⟩;have B3:=bt B2 hb;clear hb)
   | (go_at_call 48;(refine (HE.out _ B0).mono ?_);rintro _ w1 ⟨rfl,hb⟩;have R1:=row_below hb R0 (by simp [vals_size]);have Q1:=row_below hb Q0 (by simp [vals_size]);have x1:=cell_row R1 1 _ (vals_1 x.1 _ _);have B1:=bt B0 hb;clear hb)
   | (go_at_call 109;(refine (HP.out _).mono ?_);rintro _ w2 ⟨rfl,hb⟩;have Q2:=row_below hb Q1 (by simp [vals_size]);have n0:=cell_row Q2 0 _ (vals_0 g.1 _ _);have n1:=cell_row Q2 1 _ (vals_1 g.1 _ _);have B2:=bt B1 hb;clear hb)
   | (go_at_call 63;(refine (HS.out _ B2).mono ?_);rintro _ w3 ⟨rfl,hb⟩;have B3:=bt B2 hb;clear hb))
  go_ret
  exact⟨rfl,by first | exact B3 | exact B2 | exact B1 | exact B0⟩
theorem rn_note (x g:Fu) (al gr al2 gr2:Value) (w:World) (hxs:x.1.name.size<=60) (hgs:g.1.name.size<=60) (h1:IS w al x.2.1) (h2:GS w gr x.2.2) (h3:IS w al2 g.2.1) (h4:GS w gr2 g.2.2) :
  Calls Tryz.prog 161 #[.agg (x.1.vals al gr),.agg (g.1.vals al2 gr2)] w fun r w'=>r=.returned (.tuple #[.string (noteS x g),.int .i64 (if noteOk x g=true then 0 else 1)])∧Below w.heap.size w w':=by
 have a1:=vals_one x.1 al gr (is_one h1) (gs_one h2)
 have a2:=vals_one g.1 al2 gr2 (is_one h3) (gs_one h4)
 have hf:=fun W (B:Below w.heap.size w W)=>rn_fits x g al gr al2 gr2 W hxs hgs (h1.below B) (h2.below B) (h3.below B) (h4.below B)
 have he:=fun W (B:Below w.heap.size w W)=>renc_q x al gr _ rfl W hxs (h1.below B) (h2.below B)
 have hg:=fun W (B:Below w.heap.size w W)=>renc_q g al2 gr2 _ rfl W hgs (h3.below B) (h4.below B)
 have z1:=recQ_size x
 have z2:=recQ_size g
 have y1:=encB_size (recQ x).size (by omega)
 have y2:=encB_size (recQ g).size (by omega)
 have y3:=encB_size 0 (by decide)
 have l1:¬ 9223372036854775807<(encB (recQ x).size).size+(recQ x).size+(encB 0).size:=by omega
 have l2:¬ 9223372036854775807<(encB (recQ x).size).size+(recQ x).size+((encB (recQ g).size).size+(recQ g).size):=by omega
 have hY:=noteS_txt x g
 have hN:=noteS_no x g
 have hgn:=note_grp x g
 generalize (if okX x=true then (0:Int) else 1)=c0 at he
 generalize (if okX g=true then (0:Int) else 1)=c2 at hg
 generalize recQ x=sx at he z1 y1 hY l1 l2
 generalize recQ g=sy at hg z2 y2 hY l2
 generalize noteS x g=ns at hY hN ⊢
 generalize noteOk x g=nok at hf hY hN hgn ⊢
 generalize Ds.gen (Ds.bl x.1.name)=ge at hY hgn
 have B0:Below w.heap.size w ((w.alloc (.cells (x.1.vals al gr) 28)).alloc (.cells (g.1.vals al2 gr2) 28)):=by exact belA
 have R0:=row_new2 w (x.1.vals al gr) 28 (0,0) (.cells (g.1.vals al2 gr2) 28)
 have Q0:=row_new2' w (g.1.vals al2 gr2) 28 (0,0) (.cells (x.1.vals al gr) 28)
 have HF:=Lib.hid hf
 have HE:=Lib.hid he
 have HG:=Lib.hid hg
 have HT:=Lib.hid (fun s (W:World) (h:s.size<=1000)=>rtext s W h)
 have HY:=Lib.hid hY
 have HN:=Lib.hid hN
 clear hf he hg h1 h2 h3 h4 hY hN
 cases nok
 case' true=>replace hgn:=hgn rfl
 case' true=>cases ge
 case' true.false=>replace hgn:g.1.name.toList.isEmpty=true:=hgn
 case' true.true=>replace hgn:g.1.name.toList.isEmpty=false:=hgn
 all_goals
  first
  | (obtain rfl:ns=⟨#[]⟩:=HN.out rfl)
  | (have hns:=HY.out rfl;simp only[Bool.false_eq_true,if_false,if_true] at hns;subst hns)
  clear HY HN
  go_enter Tryz.func161,Tryz.ntmps161
  go_wp2_with (first
   | (go_at_call 245;(refine (HF.out _ B0).mono ?_);rintro _ w1 ⟨rfl,hb⟩;have R1:=row_below hb R0 (by simp [vals_size]);have Q1:=row_below hb Q0 (by simp [vals_size]);have B1:=bt B0 hb;clear hb)
   | (go_at_call 104;have b6:=B2;clear b6;(refine (HG.out _ B2).mono ?_);rintro _ w3 ⟨rfl,hb⟩;have B3:=bt B2 hb;clear hb)
   | (go_at_call 104;(refine (HE.out _ B1).mono ?_);rintro _ w2 ⟨rfl,hb⟩;have Q2:=row_below hb Q1 (by simp [vals_size]);have n1:=cell_row Q2 1 _ (vals_1 g.1 _ _);have B2:=bt B1 hb;clear hb)
   | (go_at_call 246;have b6:=B4;clear b6;(refine (HT.out _ _ (by first | omega | decide)).mono ?_);rintro _ w5 ⟨rfl,hb⟩;have B5:=bt B4 hb;clear hb)
   | (go_at_call 246;(refine (HT.out _ _ (by omega)).mono ?_);rintro _ w4 ⟨rfl,hb⟩;have B4:=bt (by first | exact B3 | exact B2) hb;clear hb))
  go_ret2
  exact⟨rfl,by first | exact B5 | exact B1⟩
end
section
open Go.RowKit
set_option linter.unusedSimpArgs false
theorem ok_zeroZ:okX zFu=false:=by
 unfold okX
 rw[if_pos (show zFu.1.kind=0 from rfl)]
 unfold okD
 rw[show Ds.name (Ds.bl zFu.1.name)=false by decide +kernel]
 rfl
theorem noteX_z (g:Fu) (s:List UInt8):noteX zFu g≠some s:=by
 unfold noteX
 rw[if_neg (by unfold noteOk;rw[ok_zeroZ];simp)]
 intro h;cases h
theorem ref_parts (s:List UInt8):∃ (a b:List UInt8) (r1 r2:List UInt8 × Nat),Rd.txt 200 (s,0)=(a,r1)∧Rd.txt 200 r1=(b,r2)∧r1.1.length<=s.length ∧
  ∀ (x g:Fu) (c d:Int),(decX a=some x∧c=0∨decX a=none∧x=(En.zero,[],[])∧c=11)->(decX b=some g∧d=0∨decX b=none∧g=(En.zero,[],[])∧d=11) ->
   (Rd.fin r2=0->noteX x g=some s->parseX s=some (x,g))∧(¬ (Rd.fin r2=0∧noteX x g=some s)->parseX s=none):=by
 obtain⟨a,b,r1,r2,e1,e2,la,lb,l1,l2,p1,p2,p3,p4⟩:=par_parts s
 refine⟨a,b,r1,r2,e1,e2,l1,fun x g c d hx hg=>?_⟩
 by_cases hf:Rd.fin r2=0
 rotate_left
 · exact⟨fun h=>absurd h hf,fun _=>p1 hf⟩
 rcases hx with ⟨hx,-⟩ | ⟨hx,rfl,-⟩
 rotate_left
 · exact⟨fun _ h=>absurd h (noteX_z g s),fun _=>p2 hf hx⟩
 by_cases hb:b=[]
 · have hg2:(if b=[] then some zFu else decX b)=some g:=by
    rw[if_pos hb]
    rcases hg with ⟨hg,-⟩ | ⟨-,rfl,-⟩
    · subst hb
      have h2:=decX_sound _ _ hg
      have h3:=rec_ge g h2.1
      rw[h2.2] at h3
      simp at h3
    · rfl
   have:=p3 x g hf hx hg2
   exact⟨fun _ h=>by rw[this,if_pos h],fun h=>by rw[this,if_neg (fun q=>h ⟨hf,q⟩)]⟩
 · rcases hg with ⟨hg,-⟩ | ⟨hg,rfl,-⟩
   · have:=p3 x g hf hx (by rw[if_neg hb,hg])
     exact⟨fun _ h=>by rw[this,if_pos h],fun h=>by rw[this,if_neg (fun q=>h ⟨hf,q⟩)]⟩
   · refine⟨fun _ h=>absurd ?_ hb,fun _=>p4 x hf hx hb hg⟩
     unfold noteX at h
     split at h
     · rename_i hn
       obtain⟨h1,-,h3⟩:=noteOk_parts x _ hn
       have l3:=recX_len x h1
       have hgen:Ds.gen (Ds.bl x.1.name)=false:=by
        cases hq:Ds.gen (Ds.bl x.1.name)
        · rfl
        · have q1:=(fitG_yes _ _ h3 hq).1
          rw[show okX ((En.zero,[],[]):Fu)=false from ok_zeroZ] at q1
          cases q1
       have hgl:grpL x ((En.zero,[],[]):Fu)=[]:=by unfold grpL;rw[if_neg (by rw[hgen];simp)]
       have q:=Option.some.inj h
       have q1:Rd.txt 200 (s,0)=(recX x,(wtx [],0)):=by
        rw[<-q]
        unfold noteL
        rw[hgl]
        show Rd.txt 200 (wtx (recX x)++wtx [],0)=_
        unfold wtx
        rw[List.append_assoc]
        exact Rd.txt_enc 200 (recX x) _ l3 (by omega)
       rw[q1] at e1
       have q3:r1=(wtx [],0):=(Prod.mk.inj e1).2.symm
       have q2:Rd.txt 200 (wtx [],0)=([],([],0)):=by
        have:=Rd.txt_enc 200 [] [] (by decide) (by decide)
        rw[List.append_nil] at this
        exact this
       rw[q3,q2] at e2
       exact (Prod.mk.inj e2).1.symm
     · cases h
theorem rn_note3 (x g:Fu) (al gr al2 gr2:Value) (s:ByteArray) (w:World) (hxs:x.1.name.size<=60) (hgs:g.1.name.size<=60) (h1:IS w al x.2.1) (h2:GS w gr x.2.2) (h3:IS w al2 g.2.1) (h4:GS w gr2 g.2.2) :
  Calls Tryz.prog 161 #[.agg (x.1.vals al gr),.agg (g.1.vals al2 gr2)] w fun r w'=>∃ t code,r=.returned (.tuple #[.string t,.int .i64 code])∧Below w.heap.size w w'∧((code=0∧(t.toList==s.toList)=true∧Hid (noteX x g=some (Ds.bl s)))∨(code=0∧(t.toList==s.toList)=false∧Hid (noteX x g≠some (Ds.bl s)))∨(code=1∧Hid (noteX x g≠some (Ds.bl s)))):=by
 refine (rn_note x g al gr al2 gr2 w hxs hgs h1 h2 h3 h4).mono ?_
 rintro r w' ⟨rfl,hb⟩
 refine⟨_,_,rfl,hb,?_⟩
 cases hx:noteOk x g
 · refine Or.inr (Or.inr ⟨by simp,Lib.hid ?_⟩)
   unfold noteX;rw[if_neg (by rw[hx];simp)];intro e;cases e
 · have hn:Ds.bl (noteS x g)=noteL x g:=by unfold noteS;rw[if_pos hx,Ds.bl_mk]
   have hN:noteX x g=some (Ds.bl (noteS x g)):=by unfold noteX;rw[if_pos hx,hn]
   rw[hN,tl_dec]
   by_cases e:Ds.bl (noteS x g)=Ds.bl s
   · exact Or.inl ⟨by simp,decide_eq_true e,Lib.hid (by rw[e])⟩
   · exact Or.inr (Or.inl ⟨by simp,decide_eq_false e,Lib.hid (fun q=>e (Option.some.inj q))⟩)
theorem dec_gn60 {b:List UInt8} {g:Fu} {c:Int} (h:decX b=some g∧c=0∨decX b=none∧g=(En.zero,[],[])∧c=11):g.1.name.size<=60:=by
 rcases h with ⟨h,_⟩ | ⟨_,rfl,_⟩
 · have:=(okX_name g (decX_sound _ _ h).1).1
   rw[Ds.bl_length] at this
   omega
 · decide
theorem PW.setrb {w W:World} {rb:Nat} (h:PW w W rb) (c:Array Value):PW w (W.setRow rb c) rb:=by
 have h4:=h.2.2.2.1
 exact⟨below_setRow h.1 (by omega) _,h.2.1.set c (fun e=>absurd e (by omega)),h.2.2.1.set c (fun e=>absurd e (by omega)),h4,by simpa using h.2.2.2.2⟩
theorem pw_new {w W0 w1:World} (z c:Array Value) (t:TypeId) (B:Below w.heap.size w W0) (Z:Held W0 w.heap.size 33) (Y:Held W0 (w.heap.size+1) 33) (S:W0.heap.size=w.heap.size+1+1) (hb:Below W0.heap.size W0 w1) (hz:z.size=2) (hc:c.size=2) :
  let W:=(w1.alloc (.cells z t)).setRow w1.heap.size c
  PW w W w1.heap.size∧row W w1.heap.size=c∧Held W w1.heap.size 2:=by
 have hs:=hb.size
 have P:PW w (w1.alloc (.cells z t)) w1.heap.size:=⟨(bt B hb).alloc (by omega) _,held_a _ _ _ _ (Z.below hb),held_a _ _ _ _ (Y.below hb),by omega,by simp⟩
 have H:=held_m w1 z t hz
 exact⟨P.setrb c,row_setRow H _,H.set c (fun _=>hc)⟩
theorem FNs.two {w W2 w3 w4:World} {rb:Nat} {x g:Fu} {al gr al2 gr2:Value} {t t':TypeId} (h2:PW w W2 rb) (hb3:Below W2.heap.size W2 w3) (hi:IS w3 al x.2.1) (hg:GS w3 gr x.2.2) (o1:∀ y,al.ownBlock=some y->W2.heap.size<=y) (o2:∀ y,gr.ownBlock=some y->W2.heap.size<=y) (hx:x.1.name.size<=60)
  (hb4:Below (w3.alloc (.cells (x.1.vals al gr) t)).heap.size (w3.alloc (.cells (x.1.vals al gr) t)) w4) (hi2:IS w4 al2 g.2.1) (hg2:GS w4 gr2 g.2.2) (o3:∀ y,al2.ownBlock=some y->(w3.alloc (.cells (x.1.vals al gr) t)).heap.size<=y) (o4:∀ y,gr2.ownBlock=some y->(w3.alloc (.cells (x.1.vals al gr) t)).heap.size<=y) (hgn:g.1.name.size<=60) :
  FNs w (w4.alloc (.cells (g.1.vals al2 gr2) t')) rb w3.heap.size w4.heap.size x g al gr al2 gr2:=by
 have P3:=h2.below hb3
 have P4:=((P3.alloc (.cells (x.1.vals al gr) t)).below hb4).alloc (.cells (g.1.vals al2 gr2) t')
 have z3:=hb3.size
 have z4:=hb4.size
 have zr:=h2.2.2.2.1
 have zl:=h2.lt
 simp at z4 o3 o4
 have b5:Below w4.heap.size w4 (w4.alloc (.cells (g.1.vals al2 gr2) t')):=(Below.refl _ _).alloc (Nat.le_refl _) _
 have b3:Below w3.heap.size w3 (w4.alloc (.cells (g.1.vals al2 gr2) t')):=bt (((Below.refl _ _).alloc (Nat.le_refl _) _).trans (hb4.mono (by simp))) b5
 refine⟨P4,?_,row_new _ _ _ _,hi.below b3,hg.below b3,hi2.below b5,hg2.below b5,by omega,by omega,by omega,by omega,fun y h=>by have:=o1 y h;omega,fun y h=>by have:=o2 y h;omega,fun y h=>by have:=o3 y h;omega,fun y h=>by have:=o4 y h;omega⟩
 exact row_below b5 (row_below hb4 (row_new w3 _ _ _) (by rw[vals_size];decide)) (by rw[vals_size];decide)
attribute [local go_sem ↓] ldEnt stEntRow ldRd stRd
attribute [local go_sem ↓ high] stEnt
attribute [local go_sem] Held_drew isHead_mk headOf_mk cellsOfV_mk isAggV_mk row_new row_new2 row_new2' row_drew row_drewN vals_size allOne_nil allOne_cons one_int one_bool one_string one_pointer one_slice hm_n
theorem rn_parse_o (s:ByteArray) (w:World) (hs:s.size<=1000) :
  Calls Tryz.prog 73 #[.string s] w fun r w'=>ParRo w w' (Ds.bl s) r:=by
 obtain⟨a,b,r1,r2,e1,e2,l1,hP⟩:=ref_parts (Ds.bl s)
 rw[Ds.bl_length] at l1
 have HA:=Lib.hid (fun (W:World)=>ry_text s 0 200 W (by omega) (by decide))
 rw[e1] at HA
 have HB:=Lib.hid (fun (t:ByteArray) (ht:Ds.bl t=r1.1) (W:World)=>by
  have:=ry_text t r1.2 200 W (by rw[<-Ds.bl_length,ht];omega) (by decide)
  rw[ht,show (r1.1,r1.2)=r1 from rfl,e2] at this
  exact this)
 simp only[show (((200:Nat):Int))=(200:Int) from rfl,show (((0:Nat):Int))=(0:Int) from rfl] at HA HB
 have HE:=Lib.hid (fun (t:ByteArray) (ht:Ds.bl t=r2.1) (W:World)=>by
  have:=ry_end t r2.2 W
  rw[ht] at this
  exact this)
 have HPX:=Lib.hid hP
 clear hP e1 e2
 have HZ:Held ((w.alloc (.cells (zlit 0 ⟨#[]⟩) 28)).alloc (.cells (zlit 0 ⟨#[]⟩) 28)) (w.heap.size+1) 33:=by
  have:=Held.new (w.alloc (.cells (zlit 0 ⟨#[]⟩) 28)) (zlit 0 ⟨#[]⟩) 28 33 rfl (by decide)
  simpa using this
 have HY:Held ((w.alloc (.cells (zlit 0 ⟨#[]⟩) 28)).alloc (.cells (zlit 0 ⟨#[]⟩) 28)) w.heap.size 33:=(Held.new w (zlit 0 ⟨#[]⟩) 28 33 rfl (by decide)).below ((Below.refl _ _).alloc (Nat.le_refl _) _)
 have B0:Below w.heap.size w ((w.alloc (.cells (zlit 0 ⟨#[]⟩) 28)).alloc (.cells (zlit 0 ⟨#[]⟩) 28)):=by exact belA
 have s0:((w.alloc (.cells (zlit 0 ⟨#[]⟩) 28)).alloc (.cells (zlit 0 ⟨#[]⟩) 28)).heap.size=w.heap.size+1+1:=by simp
 unfold zlit at HZ HY B0 s0
 go_enter Tryz.func73,Tryz.ntmps73
 go_upto_region 1 with fail
 generalize hW:((w.alloc _).alloc _)=W0 at HZ HY B0 s0 ⊢
 clear hW
 have S0:=Lib.hid s0
 have Z0:=Lib.hid HY
 have Y0:=Lib.hid HZ
 have B00:=Lib.hid B0
 clear HY HZ s0 B0
 go_upto_region 2 with (go_at_call 159;(with_reducible refine (HA.out _).mono ?_);rintro _ w1 ⟨ta,t1,rfl,hta,ht1,hb⟩;have HTA:=Lib.hid hta;have HT1:=Lib.hid ht1;have HB1:=Lib.hid hb;clear hta ht1 hb)
 generalize hW:World.setRow _ _ _=W1
 obtain⟨P1,R1,K1⟩:PW w W1 w1.heap.size∧row W1 w1.heap.size=#[.string t1,.int .i64 (r1.2:Int)]∧Held W1 w1.heap.size 2:=by rw[<-hW];exact pw_new _ _ _ B00.out Z0.out Y0.out S0.out HB1.out rfl rfl
 clear hW
 have HP1:=Lib.hid P1
 clear P1 B00 Z0 Y0 S0 HB1 HA
 generalize w1.heap.size=rb at HP1 R1 K1 ⊢
 go_upto_region 3 with (go_at_call 159;(with_reducible refine (HB.out t1 HT1.out _).mono ?_);rintro _ w2 ⟨tb,t2,rfl,htb,ht2,hb⟩;have HTB:=Lib.hid htb;have HT2:=Lib.hid ht2;have K2:=K1.below hb;have HP2:=Lib.hid ((HP1.out.below hb).setrb #[.string t2,.int .i64 (r2.2:Int)]);clear htb ht2 hb)
 generalize hW:World.setRow _ _ _=W2 at HP2
 obtain⟨R2,K3⟩:row W2 rb=#[.string t2,.int .i64 (r2.2:Int)]∧Held W2 rb 2:=by rw[<-hW];exact⟨row_setRow K2 _,K2.set _ (fun _=>rfl)⟩
 clear hW K1 K2 R1 HP1 HB HT1
 have HD1:=Lib.hid (fun W=>rdec_any ta W)
 have HD2:=Lib.hid (fun W=>rdec_any tb W)
 rw[HTA.out] at HD1
 rw[HTB.out] at HD2
 have HC1:=Lib.hid HTA.out
 clear HC1
 go_upto_region 5 with (first
  | (go_at_call 160;have b6:=D3;clear b6;(with_reducible refine (HD2.out _).mono ?_);rintro _ w4 ⟨g,al2,gr2,d,rfl,hI,hG,hb,hcase,ho1,ho2⟩;have hone2:=vals_one g.1 al2 gr2 (is_one hI) (gs_one hG);have FN:=Lib.hid (FNs.two (t:=28) (t':=28) HP2.out D3.out.1 D3.out.2.1 D3.out.2.2.1 D3.out.2.2.2.1 D3.out.2.2.2.2.1 (dec_gn60 D3.out.2.2.2.2.2) hb hI hG ho1 ho2 (dec_gn60 hcase));have HN6:=Lib.hid (And.intro (dec_gn60 D3.out.2.2.2.2.2) (dec_gn60 hcase));have HQ:=Lib.hid (HPX.out x g c d D3.out.2.2.2.2.2 hcase);have R4:=row_below hb R3 (Nat.zero_lt_succ 1);clear hI hG hb hcase ho1 ho2)
  | (go_at_call 160;(with_reducible refine (HD1.out _).mono ?_);rintro _ w3 ⟨x,al,gr,c,rfl,hI,hG,hb,hcase,ho1,ho2⟩;have hone:=vals_one x.1 al gr (is_one hI) (gs_one hG);have D3:=Lib.hid (And.intro hb (And.intro hI (And.intro hG (And.intro ho1 (And.intro ho2 hcase)))));have R3:=row_a2 _ (.cells (x.1.vals al gr) 28) _ (K3.below hb);rw[row_below hb R2 (Nat.zero_lt_succ 1)] at R3;clear hI hG hb hcase ho1 ho2))
 have R5:=row_below ((Below.refl w4.heap.size w4).alloc (Nat.le_refl _) (.cells (g.1.vals al2 gr2) 28)) R4 (Nat.zero_lt_succ 1)
 clear D3 HD1 HD2 R2 R3 R4 K3 HPX HP2 HTA HTB
 generalize w4.alloc _=W6 at FN R5 ⊢
 have rX:=FN.out.rx
 have rG:=FN.out.rg
 have HN:=Lib.hid (fun W (B:Below W6.heap.size W6 W)=>rn_note3 x g al gr al2 gr2 s W HN6.out.1 HN6.out.2 (FN.out.ix.below B) (FN.out.gx.below B) (FN.out.ig.below B) (FN.out.gg.below B))
 go_upto_region 6 with (go_at_call 161;(with_reducible refine (HN.out _ (Below.refl _ _)).mono ?_);rintro _ w8 ⟨t,code,rfl,hb,hcase⟩;have R8:=row_below hb R5 (Nat.zero_lt_succ 1);have F8:=Lib.hid (FN.out.below hb);have rX8:=F8.out.rx;have rG8:=F8.out.rg;clear hb)
 clear R5 rX rG FN HN
 generalize hn:Rd.fin (r2.1,r2.2)=n at HE
 have HFN:=Lib.hid (show Rd.fin r2=n from hn)
 clear hn
 have hcs:((code=0∧(t.toList==s.toList)=true∧(t.toList != s.toList)=false∧((n:Int)==0)=true∧((n:Int) != 0)=false∧Hid (parseX (Ds.bl s)=some (x,g)))∨(Hid (parseX (Ds.bl s)=none)∧((((n:Int)==0)=false∧((n:Int) != 0)=true)∨(code=1∧((n:Int)==0)=true∧((n:Int) != 0)=false)∨(code=0∧(t.toList==s.toList)=false∧(t.toList != s.toList)=true∧((n:Int)==0)=true∧((n:Int) != 0)=false)))):=by
  have hQ:=HQ.out
  rw[HFN.out] at hQ
  by_cases hn0:n=0
  · subst hn0
    rcases hcase with ⟨rfl,ht,hh⟩ | ⟨rfl,ht,hh⟩ | ⟨rfl,hh⟩
    · exact Or.inl ⟨rfl,ht,by simp [bne,ht],rfl,rfl,Lib.hid (hQ.1 rfl hh.out)⟩
    · exact Or.inr ⟨Lib.hid (hQ.2 (fun q=>hh.out q.2)),Or.inr (Or.inr ⟨rfl,ht,by simp [bne,ht],rfl,rfl⟩)⟩
    · exact Or.inr ⟨Lib.hid (hQ.2 (fun q=>hh.out q.2)),Or.inr (Or.inl ⟨rfl,rfl,rfl⟩)⟩
  · have e:((n:Int)==0)=false:=by rw[beq_eq_false_iff_ne];omega
    exact Or.inr ⟨Lib.hid (hQ.2 (fun q=>hn0 q.1)),Or.inl ⟨e,by simp [bne,e]⟩⟩
 clear hcase HQ HFN
 have hX8:=F8.out.onex
 have hG8:=F8.out.oneg
 rcases hcs with ⟨rfl,q1,q2,q3,q4,hp⟩ | ⟨hp,hcs⟩
 rotate_left
 · rcases hcs with ⟨q3,q4⟩ | ⟨rfl,q3,q4⟩ | ⟨rfl,q1,q2,q3,q4⟩
   all_goals
    go_upto_region 7 with (go_at_call 162;(with_reducible refine (HE.out t2 HT2.out _).mono ?_);rintro _ w9 ⟨rfl,hb⟩;have F9:=Lib.hid (F8.out.below hb);clear hb)
    have k1:=F9.out.pw.r0
    have k2:∀ c,Held (w9.setRow w.heap.size c) (w.heap.size+1) 33:=fun c=>F9.out.pw.r1.set c (fun e=>absurd e (by omega))
    have T:=two_a F9.out.pw (zlit 0 ⟨#[]⟩) (zlit 0 ⟨#[]⟩) rfl
    unfold zlit at T
    have HT:=Lib.hid T
    clear T
    go_wp2_with fail
    refine bodyPost_ret (res_rr_tmp (n:=32) (n':=32) rfl Tryz.underlying28 rfl (by kernel_rfl) Tryz.underlying28 rfl (by kernel_rfl) _ _ w.heap.size (w.heap.size+1) rfl rfl (by rw[HT.out.1];rfl) (by rw[HT.out.2.1];rfl)) rfl ?_
    rw[HT.out.1,HT.out.2.1]
    exact ParRo.bad (hp.out) HT.out.2.2.1
 have z1:=F8.out.pp
 have z2:=F8.out.qq
 go_upto_region 8 with (go_at_call 162;(with_reducible refine (HE.out t2 HT2.out _).mono ?_);rintro _ w9 ⟨rfl,hb⟩;have F9:=Lib.hid (F8.out.below hb);have rX9:=F9.out.rx;have rG9:=F9.out.rg;have k1:=F9.out.pw.r0;clear hb)
 have HP4:P4 w9.drew w.heap.size w3.heap.size w4.heap.size _ _:=F9.out.p4
 go_region_held3 (fun w'=>row w' w3.heap.size=x.1.vals al gr∧row w' w4.heap.size=g.1.vals al2 gr2∧Held w' w.heap.size 33∧Held w' (w.heap.size+1) 33) (first | assumption | exact HP4 | exact P4.set (by assumption) _ (vals_size _ _ _) z1 z2 (Or.inl rfl) | exact P4.set (by assumption) _ (vals_size _ _ _) z1 z2 (Or.inr rfl)) (fail)
 have FD:=F9.out.below (Below.drew (Below.refl w9.heap.size w9))
 have TA:=Lib.hid (two_a FD.pw (x.1.vals al gr) (g.1.vals al2 gr2) (vals_size _ _ _))
 have TB:=Lib.hid (two_b FD.pw (x.1.vals al gr) (g.1.vals al2 gr2) (vals_size _ _ _))
 all_goals
  go_wp2_with fail
  first
  | (refine bodyPost_ret (res_rr_tmp (n:=32) (n':=32) rfl Tryz.underlying28 rfl (by kernel_rfl) Tryz.underlying28 rfl (by kernel_rfl) _ _ w.heap.size (w.heap.size+1) rfl rfl (by rw[TA.out.1];exact vals_size _ _ _) (by rw[TA.out.2.1];exact vals_size _ _ _)) rfl ?_
     rw[TA.out.1,TA.out.2.1]
     exact FD.doneo TA.out hp.out)
  | (refine bodyPost_ret (res_rr_tmp (n:=32) (n':=32) rfl Tryz.underlying28 rfl (by kernel_rfl) Tryz.underlying28 rfl (by kernel_rfl) _ _ w.heap.size (w.heap.size+1) rfl rfl (by rw[TB.out.1];exact vals_size _ _ _) (by rw[TB.out.2.1];exact vals_size _ _ _)) rfl ?_
     rw[TB.out.1,TB.out.2.1]
     exact FD.doneo TB.out hp.out)
end
section
open Go.RowKit
attribute [local go_sem ↓] ldEnt stEnt stEntRow bldEnt
attribute [local go_sem] Held_drew isHead_mk headOf_mk offOf_mk isPtr_mk cellsOfV_mk isAggV_mk row_new row_new2 row_new2' row_drew row_drewN vals_size allOne_nil allOne_cons one_int one_bool one_string one_pointer one_slice one_func vals_0 vals_1
end
section
open Go.RowKit
attribute [local go_sem ↓] ldEnt stEnt stEntRow bldEnt
attribute [local go_sem] Held_drew isHead_mk headOf_mk offOf_mk isPtr_mk cellsOfV_mk isAggV_mk row_new row_new2 row_new2' row_drew row_drewN vals_size allOne_nil allOne_cons one_int one_bool one_string one_pointer one_slice one_func vals_0 vals_1
end
section
open Go.RowKit
set_option linter.unusedSimpArgs false
abbrev Ch:=Int × Int × ByteArray × ByteArray × ByteArray
def putF (c:Ch):Option Fu :=
 if c.1=0∧1<=c.2.1∧c.2.1<=15 then (match decX (Ds.bl c.2.2.2.1) with
  | some y=>if keyX y=Ds.bl c.2.2.1 then some y else none
  | none=>none) else none
def PutR (w w':World) (o:Option Fu) (r:Ending):Prop:=∃ (x:Fu) (al gr:Value) (b:Bool),r=.returned (.tuple #[.agg (x.1.vals al gr),.bool b])∧IS w' al x.2.1∧GS w' gr x.2.2∧Below w.heap.size w w'∧(o=some x∧b=true∨o=none∧b=false)∧(∀ q,al.ownBlock=some q->w.heap.size<=q)∧(∀ q,gr.ownBlock=some q->w.heap.size<=q)
theorem PutR.put {w W:World} {o:Option Fu} {x:Fu} {al gr:Value} {b:Bool} (hH:Held W (w.heap.size+1) 33) (hb:Below w.heap.size w W) (hI:IS W al x.2.1) (hg:GS W gr x.2.2) (h1:∀ q,al.ownBlock=some q->w.heap.size+1<q) (h2:∀ q,gr.ownBlock=some q->w.heap.size+1<q) (ho:o=some x∧b=true∨o=none∧b=false) :
  PutR w (W.setRow (w.heap.size+1) (x.1.vals al gr)) o (.returned (.tuple #[.agg (row (W.setRow (w.heap.size+1) (x.1.vals al gr)) (w.heap.size+1)),.bool b])):=by
 have hk:∀ j,w.heap.size+1+1<=j->j<W.heap.size->(W.setRow (w.heap.size+1) (x.1.vals al gr)).heap[j]?=W.heap[j]?:=fun j h1 _=>setRow_block _ _ _ _ (by omega)
 exact⟨x,al,gr,b,congrArg (fun z=>Ending.returned (.tuple #[.agg z,.bool b])) (row_setRow hH _),hI.keep (w.heap.size+1+1) (fun y hy=>h1 y hy) (by simp) hk,hg.keep (w.heap.size+1+1) (fun y hy=>h2 y hy) (by simp) hk,below_setRow hb (by omega) _,ho,fun q hq=>by have:=h1 q hq;omega,fun q hq=>by have:=h2 q hq;omega⟩
theorem PutR.put0 {w W:World} (hH:Held W (w.heap.size+1) 33) (hb:Below w.heap.size w W) :
  PutR w (W.setRow (w.heap.size+1) (zlit 0 ⟨#[]⟩)) none (.returned (.tuple #[.agg (row (W.setRow (w.heap.size+1) (zlit 0 ⟨#[]⟩)) (w.heap.size+1)),.bool false])):=by
 rw[zlit_eq]
 exact PutR.put (x:=zF0) hH hb (IS.nil _) (GS.nil _) (fun _ h=>by cases h) (fun _ h=>by cases h) (Or.inr ⟨rfl,rfl⟩)
attribute [local go_sem ↓] ldEnt stEnt stEntRow bldEnt
attribute [local go_sem] Held_drew isHead_mk headOf_mk offOf_mk isPtr_mk cellsOfV_mk isAggV_mk row_new row_new2 row_new2' row_drew row_drewN vals_size allOne_nil allOne_cons one_int one_bool one_string one_pointer one_slice one_func vals_0 vals_1
end
section
open Go.RowKit
set_option linter.unusedSimpArgs false
attribute [local go_sem ↓] ldEnt stEnt stEntRow bldEnt
attribute [local go_sem] Held_drew isHead_mk headOf_mk offOf_mk isPtr_mk cellsOfV_mk isAggV_mk row_new row_new2 row_new2' row_drew row_drewN vals_size allOne_nil allOne_cons one_int one_bool one_string one_pointer one_slice one_func vals_0 vals_1
end
end Go.Proofs.YtnojclchnhmggaaGreatDoor
