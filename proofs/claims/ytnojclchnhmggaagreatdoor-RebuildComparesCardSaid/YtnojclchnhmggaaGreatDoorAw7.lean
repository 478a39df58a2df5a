/- The example of chapter 37; two entries among the arguments. -/
import Derived.Test.YtnojclchnhmggaaGreatDoorAcA
import Derived.Test.YtnojclchnhmggaaGreatDoorRuC
import Derived.Test.YtnojclchnhmggaaGreatDoorFrameEs
import Derived.Test.YtnojclchnhmggaaGreatDoorNo
namespace Go.Proofs.YtnojclchnhmggaaGreatDoor
section
open Go.RowKit
set_option maxHeartbeats 8000000
set_option maxRecDepth 8000
attribute [local go_sem ↓] ldEnt stEnt stEntRow ldEntM
attribute [local go_sem] Held_drew isHead_mk headOf_mk offOf_mk isPtr_mk cellsOfV_mk isAggV_mk row_new row_new2 row_new2' row_drew row_drewN vals_size allOne_nil allOne_cons one_int one_bool one_string one_pointer one_slice vals_0 vals_1 vals_18 vals_23 vals_29 vals_32
def few7P (F:Nat->Ef) (n:Nat) (m:Int):Prop:=(n:Int)<=m∧∀ k,k<n->(F k).e.name.size<=60∧(F k).n2<=12∧(F k).n1<=8
def Few7R (F:Nat->Ef) (n:Nat) (m:Int) (w w':World) (r:Ending):Prop:=∃ b:Bool,r=.returned (.bool b)∧(b=true->few7P F n m)∧Below w.heap.size w w'
theorem Few7R.no {F:Nat->Ef} {n:Nat} {m:Int} {w w':World} (h:Below w.heap.size w w'):Few7R F n m w w' (.returned (.bool false)):=⟨false,rfl,(fun h=>by cases h),h⟩
theorem few37 (a:Option Addr) (n c:Nat) (F:Nat->Ef) (m:Int) (w:World) (hES:ES w a n F) :
  Calls Tryz.prog 17 #[.slice a n c,.int .i64 m] w fun r w'=>Few7R F n m w w' r:=by
 have HES:=Lib.hid hES
 have hn63:=hES.1
 clear hES
 go_enter Tryz.func17,Tryz.ntmps17
 go_wp2_with fail
 go_loopw [9] (fun i wr=>∃ k:Nat,k<=n∧i=.int .i64 k∧(∀ j,j<k->(F j).e.name.size<=60∧(F j).n2<=12∧(F j).n1<=8)∧Below w.heap.size w wr) (fun i _=>n - (intOf i).toNat)
 case atStart=>exact⟨0,Nat.zero_le _,rfl,(fun j hj=>absurd hj (by omega)),by exact belA⟩
 case round =>
  obtain⟨k,hk,rfl,hok,B⟩:=hrel
  have HOK:=Lib.hid hok
  have z0:=B.size
  clear hok
  by_cases hlt:k<n
  · obtain⟨b,o,rfl,hb,a1,c1,a2,c2,hmid,h1,h2,-⟩:=(HES.out.below B).2 k hlt
    have hz:(mid wr b (o+k*33)).size=33:=by rw[hmid];exact vals_size _ _ _
    have hone:=vals_one (F k).e (.slice a1 (F k).n1 c1) (.slice a2 (F k).n2 c2) rfl rfl
    obtain⟨q0,e0⟩:∃ b,decide (60<((F k).e.name.size:Int))=b:=⟨_,rfl⟩
    obtain⟨q1,e1⟩:∃ b,decide (60<((F k).e.target.size:Int))=b:=⟨_,rfl⟩
    obtain⟨q2,e2⟩:∃ b,decide (12<((F k).n2:Int))=b:=⟨_,rfl⟩
    obtain⟨q3,e3⟩:∃ b,decide (8<((F k).n1:Int))=b:=⟨_,rfl⟩
    obtain⟨q4,e4⟩:∃ b,decide (40<((F k).e.vol.size:Int))=b:=⟨_,rfl⟩
    have HS:Hid (q0=false->q2=false->q3=false->(F k).e.name.size<=60∧(F k).n2<=12∧(F k).n1<=8):=Lib.hid (by
     rintro rfl rfl rfl
     rw[decide_eq_false_iff_not] at e0 e2 e3
     omega)
    cases q0
    cases q1
    cases q2
    cases q3
    cases q4
    · go_wp2_with fail
      go_roundw
      case rel =>
       refine⟨k+1,by omega,by go_num,fun j hj=>?_,by exact belA⟩
       rcases Nat.lt_or_ge j k with h | h
       · exact HOK.out j h
       · obtain rfl:j=k:=by omega
         exact HS.out rfl rfl rfl
      case measure=>simp [intOf];omega
    all_goals
     go_wp2_with fail
     go_ret
     exact Few7R.no (by exact belA)
  · obtain rfl:k=n:=by omega
    obtain⟨q0,e0⟩:∃ b,decide ((k:Int)<=m)=b:=⟨_,rfl⟩
    have HS:Hid (q0=true->(k:Int)<=m):=Lib.hid (by rintro rfl;exact of_decide_eq_true e0)
    go_wp2_with fail
    go_ret
    exact⟨_,rfl,fun h=>⟨HS.out h,HOK.out⟩,B⟩
end
section
open Go.ChangeShapes Go.WideShapes Go.RowKit
set_option maxRecDepth 100000
end
section
open Go.RowKit
set_option maxHeartbeats 16000000
set_option maxRecDepth 8000
set_option linter.unusedSimpArgs false
def lit37:Array Value:=#[.int .i64 0,.string ⟨#[80,65,89,46,77,65,83,84,69,82]⟩,.int .i64 130,.int .i64 0,.int .i64 0,.int .i64 0,.int .i64 0,.int .i64 0,.int .i64 0,.int .i64 0,.int .i64 0,.int .i64 0,.int .i64 0,.int .i64 0,.int .i64 0,.int .i64 0,.bool false,.int .i64 0,.string ⟨#[86,49]⟩,.string ⟨#[]⟩,.int .i64 0,.int .i64 0,.bool false,.slice none 0 0,.int .i64 0,.int .i64 0,.int .i64 0,.bool false,.string ⟨#[]⟩,.string ⟨#[]⟩,.int .i64 0,.int .i64 0,.slice none 0 0]
theorem lit37_eq:v37=lit37:=by unfold v37 En.vals;rfl
theorem ok37:okX x37=true:=by
 unfold okX
 rw[if_pos (show x37.1.kind=0 from rfl)]
 unfold okD
 rw[show sameE (onlyD x37.1) x37.1 x37.2.1 x37.2.1 [] x37.2.2=true from (sameE_eq _ _ _ _ _ _).2 ⟨by unfold onlyD x37 e37;rfl,rfl,rfl⟩]
 decide +kernel
theorem note37:noteOk x37 zFu=true:=by
 unfold noteOk fitG
 rw[ok37,noGroup_z,if_neg (by decide +kernel)]
 rfl
def s37:ByteArray:=noteS x37 zFu
theorem noteS_bl (x g:Fu) (h:noteOk x g=true):Ds.bl (noteS x g)=noteL x g:=by unfold noteS;rw[if_pos h,Ds.bl_mk]
theorem noteS_size (x g:Fu) (h:noteOk x g=true):(noteS x g).size<=400:=by rw[<-Ds.bl_length,noteS_bl x g h];exact note_len x g h
theorem note_yes (x g:Fu) (h:noteOk x g=true) (al gr al2 gr2:Value) (w:World) (hm:MaxL w) (hT:Tab w) (hxs:x.1.name.size<=1000) (hgs:g.1.name.size<=1000) (h1:IS w al x.2.1) (h2:GS w gr x.2.2) (h3:IS w al2 g.2.1) (h4:GS w gr2 g.2.2) :
  Calls Tryz.prog 51 #[.agg (x.1.vals al gr),.agg (g.1.vals al2 gr2)] w fun r w'=>r=.returned (.tuple #[.string (noteS x g),.int .i64 0])∧Below w.heap.size w w':=by
 have:=re_note x g al gr al2 gr2 w hm hT hxs hgs h1 h2 h3 h4
 rw[h] at this
 exact this
theorem parse_yes (s:ByteArray) (x g:Fu) (h:parseX (Ds.bl s)=some (x,g)) (w:World) (hs:s.size<=1000) (hm:MaxL w) (hT:Tab w) :
  Calls Tryz.prog 52 #[.string s] w fun r w'=>∃ al gr al2 gr2,r=.returned (.tuple #[.agg (x.1.vals al gr),.agg (g.1.vals al2 gr2),.int .i64 0])∧IS w' al x.2.1∧GS w' gr x.2.2∧IS w' al2 g.2.1∧GS w' gr2 g.2.2∧Below w.heap.size w w':=by
 refine (re_parse s w hs hm hT).mono ?_
 rintro r w' ⟨x',g',al,gr,al2,gr2,code,rfl,h1,h2,h3,h4,hb,h5⟩
 rw[h] at h5
 rcases h5 with ⟨h5,rfl⟩ | ⟨h5,-⟩
 · cases Option.some.inj h5
   exact⟨al,gr,al2,gr2,rfl,h1,h2,h3,h4,hb⟩
 · cases h5
theorem same_own (e:En) (l1:List Int) (l2:List Gr) (al gr al' gr':Value) (w:World) (h1:IS w al l1) (h2:GS w gr l2) (h3:IS w al' l1) (h4:GS w gr' l2) :
  Calls Tryz.prog 53 #[.agg (e.vals al gr),.agg (e.vals al' gr')] w fun r w'=>r=.returned (.bool true)∧Below w.heap.size w w':=by
 have:=en_same e e al gr al' gr' l1 l1 l2 l2 w h1 h3 h2 h4
 rw[(sameE_eq e e l1 l1 l2 l2).2 ⟨rfl,rfl,rfl⟩] at this
 exact this
theorem s37_parse:parseX (Ds.bl s37)=some (x37,zFu):=by unfold s37;rw[noteS_bl _ _ note37];exact parse_note _ _ note37
theorem two_new (w4:World) (t:TypeId) (c d zs ys:Array Value) (h1:c.size=33) (_:d.size=33) (hz:zs.size=33) (hy:ys.size=33):let W:=(((w4.alloc (.cells zs t)).alloc (.cells ys t)).setRow w4.heap.size c).setRow (w4.heap.size+1) d
  Below w4.heap.size w4 W∧row W w4.heap.size=c∧row W (w4.heap.size+1)=d:=by
 have k1:Held ((w4.alloc (.cells zs t)).alloc (.cells ys t)) w4.heap.size 33:=held_a _ _ _ _ (held_n _ _ _ hz)
 have k2:Held ((w4.alloc (.cells zs t)).alloc (.cells ys t)) (w4.heap.size+1) 33:=by
  have:=held_n (w4.alloc (.cells zs t)) ys t hy
  rwa [show (w4.alloc (.cells zs t)).heap.size=w4.heap.size+1 by simp] at this
 refine⟨below_setRow (below_setRow (by exact belA) (Nat.le_refl _) _) (by omega) _,?_,?_⟩
 · rw[row_set_ne _ _ _ _ (by omega),row_p _ _ _ k1]
 · exact row_p _ _ _ (k2.set _ (fun _=>h1))
attribute [local go_sem ↓] ldEnt stEntRow ldEntM bldEnt bldEnt2
attribute [local go_sem ↓ high] stEnt
attribute [local go_sem] Held_drew isHead_mk headOf_mk offOf_mk isPtr_mk cellsOfV_mk isAggV_mk row_new row_new2 row_new2' row_drew row_drewN vals_size allOne_nil allOne_cons one_int one_bool one_string one_pointer one_slice one_func hz_n hz_a hz_b held_v
theorem aw37 (w:World) (hm:MaxL w) (hT:Tab w):Calls Tryz.prog 16 #[] w fun r w'=>r=.returned (.bool true)∧Below w.heap.size w w':=by
 have h1:=fun W (b:Below w.heap.size w W)=>note_yes x37 zFu note37 (.slice none 0 0) (.slice none 0 0) (.slice none 0 0) (.slice none 0 0) W (hm.below b) (hT.below b) (Nat.le_of_ble_eq_true rfl) (Nat.le_of_ble_eq_true rfl) (IS.nil W) (GS.nil W) (IS.nil W) (GS.nil W)
 have e1:x37.1.vals (.slice none 0 0) (.slice none 0 0)=lit37:=lit37_eq
 have e2:zFu.1.vals (.slice none 0 0) (.slice none 0 0)=zlit 0 ⟨#[]⟩:=(zlit_eq 0 ⟨#[]⟩).symm
 rw[e1,e2] at h1
 have h2:=fun W (b:Below w.heap.size w W)=>parse_yes s37 x37 zFu s37_parse W (Nat.le_trans (noteS_size _ _ note37) (by decide)) (hm.below b) (hT.below b)
 have h3:=fun al gr W (i:IS W al []) (g:GS W gr [])=>same_own e37 [] [] (.slice none 0 0) (.slice none 0 0) al gr W (IS.nil W) (GS.nil W) i g
 rw[show e37.vals (.slice none 0 0) (.slice none 0 0)=lit37 from lit37_eq] at h3
 have hr:=fun t f=>row_new w lit37 t f
 have hz33:lit37.size=33:=rfl
 unfold lit37 zlit at h1
 change ∀ W,Below w.heap.size w W->Calls Tryz.prog 51 _ W (fun r w'=>r=.returned (.tuple #[.string s37,.int .i64 0])∧Below W.heap.size W w') at h1
 have H1:=Lib.hid h1
 have H2:=Lib.hid h2
 have H3:=Lib.hid h3
 clear h1 h2 h3 e1 e2
 generalize s37=sx at H1 H2
 go_enter Tryz.func16,Tryz.ntmps16
 go_upto_region 4 with (first
  | (go_at_call 51;(with_reducible refine (H1.out _ (by exact belA)).mono ?_);rintro _ w1 ⟨rfl,hb⟩;have R1:row w1 w.heap.size=lit37:=row_below hb (hr _ _) (by rw[hz33];decide);have B1:=Below.trans (show Below w.heap.size w _ by exact belA) (hb.mono (by simp));have z1:w.heap.size<w1.heap.size:=(by have:=hb.size;simp at this;omega);clear hb)
  | (go_at_call 52;(refine (H2.out _ B1).mono ?_);rintro _ w2 ⟨al,gr,al2,gr2,rfl,hI,hG,hI2,hG2,hb⟩;have R2:row w2 w.heap.size=lit37:=row_below hb R1 (by rw[hz33];decide);have B2:=bt B1 hb;have hone:=vals_one x37.1 al gr (is_one hI) (gs_one hG);have hone2:=vals_one zFu.1 al2 gr2 (is_one hI2) (gs_one hG2);have z2:w.heap.size<w2.heap.size:=(by have:=hb.size;omega);have HI:=Lib.hid hI;have HG:=Lib.hid hG;clear hb hI hG hI2 hG2))
 generalize hW:World.setRow (World.setRow _ _ _) _ _=W5
 obtain⟨B5,X5,-⟩:Below w2.heap.size w2 W5∧row W5 w2.heap.size=x37.1.vals al gr∧row W5 (w2.heap.size+1)=zFu.1.vals al2 gr2:=by rw[<-hW];exact two_new w2 _ _ _ _ _ (vals_size _ _ _) (vals_size _ _ _) rfl rfl
 clear hW
 have R5:=row_below B5 R2 (by rw[hz33];decide)
 have B25:=Lib.hid (bt B2 B5)
 have HX:=Lib.hid (fun W (b:Below w.heap.size w W)=>(H2.out W b).mono (R':=fun r w'=>∃ al gr al2 gr2,r=.returned (.tuple #[.agg (e37.vals al gr),.agg (En.zero.vals al2 gr2),.int .i64 0])∧IS w' al []∧GS w' gr []∧one al2=true∧one gr2=true∧Below W.heap.size W w') fun r w' ⟨a,b,c,d,h1,h2,h3,h4,h5,h6⟩=>⟨a,b,c,d,h1,h2,h3,is_one h4,gs_one h5,h6⟩)
 have HI5:=Lib.hid (HI.out.below B5)
 have HG5:=Lib.hid (HG.out.below B5)
 have m0:∀ o:Obj,mid ((W5.alloc (.cells lit37 28)).alloc o) W5.heap.size 0=v37:=fun o=>by
  unfold mid
  rw[row_new2,lit37_eq]
  rfl
 have HM:=Lib.hid m0
 clear m0 hr H1 H2 R1 R2
 unfold lit37 at R5
 unfold lit37 at hz33
 go_wp2_with (first
  | (go_at_call 29;(refine (cw_comp W5.heap.size (W5.heap.size+1) sx _ (by simp) (HM.out _) (row_new2' _ _ _ _ _) (fun W b=>HX.out W (bt (bt B25.out (below2' _ _ _)) b))).mono ?_);rintro _ w6 ⟨g,c,rfl,hcs,hb⟩;have B6:=Lib.hid (below2 hb);have c0:=hcs 0 _ rfl;have c1:=hcs 1 _ rfl;have c2:w6.cell? ⟨g,2,none⟩=some (.string ⟨#[86,50]⟩):=hcs 2 _ rfl;have c3:=hcs 3 _ rfl;have R6:=row_below B6.out R5 (by rw[hz33];decide);have X6:=row_below B6.out X5 (by rw[vals_size];decide);clear hcs hb)
  | (go_at_call 53;(refine (H3.out al gr _ (HI5.out.below B6.out) (HG5.out.below B6.out)).mono ?_);rintro _ w7 ⟨rfl,hb⟩;have c0:=(hb.cell (block_lt_of_cell c0)).trans c0;have c1:=(hb.cell (block_lt_of_cell c1)).trans c1;have c2:=(hb.cell (block_lt_of_cell c2)).trans c2;have c3:=(hb.cell (block_lt_of_cell c3)).trans c3;have B7:=Lib.hid (bt B6.out hb);clear hb))
 go_ret
 exact⟨rfl,bt B25.out B7.out⟩
structure Two2 (w:World) (e f:En) (a1 a2 b1 b2:Option Addr) (n1 c1 n2 c2 m1 d1 m2 d2:Nat):Prop where
 s1:n1<=9223372036854775807
 s2:n2<=9223372036854775807
 s3:m1<=9223372036854775807
 s4:m2<=9223372036854775807
 i1:n1<=1000->∃ l:List Int,l.length=n1∧IS w (.slice a1 n1 c1) l
 g1:n2<=1000->∃ l:List Gr,l.length=n2∧GS w (.slice a2 n2 c2) l
 i2:m1<=1000->∃ l:List Int,l.length=m1∧IS w (.slice b1 m1 d1) l
 g2:m2<=1000->∃ l:List Gr,l.length=m2∧GS w (.slice b2 m2 d2) l
end
end Go.Proofs.YtnojclchnhmggaaGreatDoor
