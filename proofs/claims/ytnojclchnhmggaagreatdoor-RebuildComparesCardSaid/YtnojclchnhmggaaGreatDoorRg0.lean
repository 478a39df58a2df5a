/- Contract of the reference of chapter 33: fields at a data set. -/
import Derived.Test.YtnojclchnhmggaaGreatDoorRf
import Derived.Test.YtnojclchnhmggaaGreatDoorAcA
import Derived.Test.YtnojclchnhmggaaGreatDoorRuC
import Derived.Test.YtnojclchnhmggaaGreatDoorRtF
namespace Go.Proofs.YtnojclchnhmggaaGreatDoor
open Go.RowKit
set_option maxRecDepth 8000
set_option maxHeartbeats 8000000
section
set_option linter.unusedSimpArgs false
theorem bel_al (w:World) (o:Obj):Below w.heap.size w (w.alloc o):=(Below.refl _ _).alloc (Nat.le_refl _) o
theorem FW.read {w w2:World} {cs:Array Value} {t:ByteArray} {x:Nat} (h:FW w w2 cs t x) (t':ByteArray) (x':Nat):FW w (w2.setRow (w.heap.size+1) #[.string t',.int .i64 x']) cs t' x' :=
 ⟨by rw[row_set_ne _ _ _ _ (by omega)];exact h.r0,row_setRow h.h1 _,h.h0.set _ (fun e=>absurd e (by omega)),h.h1.set _ (fun _=>rfl),h.h2.set _ (fun e=>absurd e (by omega)),h.h3.set _ (fun e=>absurd e (by omega)),below_setRow h.bel (by omega) _⟩
theorem FW.blocks {w w2 w5:World} {cs:Array Value} {t:ByteArray} {x:Nat} (h:FW w w2 cs t x) (hk:∀ j,j<w.heap.size+1+1+1+1->w5.heap[j]?=w2.heap[j]?) (hb:Below w.heap.size w w5):FW w w5 cs t x :=
 ⟨by unfold row;rw[hk _ (by omega)];exact h.r0,by unfold row;rw[hk _ (by omega)];exact h.r1,h.h0.of_block (hk _ (by omega)),h.h1.of_block (hk _ (by omega)),h.h2.of_block (hk _ (by omega)),h.h3.of_block (hk _ (by omega)),hb⟩
theorem FW.setE {w w2:World} {cs:Array Value} {t:ByteArray} {x:Nat} (h:FW w w2 cs t x) (i:Nat) (v:Value):FW w (w2.setCell ⟨w.heap.size,i,none⟩ v) (cs.setIfInBounds i v) t x :=
 ⟨by rw[row_setCell_eq h.h0,h.r0],by rw[row_setCell_ne _ _ _ _ _ (by omega)];exact h.r1,heldSetCell h.h0 _ _ _,heldSetCell h.h1 _ _ _,heldSetCell h.h2 _ _ _,heldSetCell h.h3 _ _ _,Below.setCell h.bel (Nat.le_refl _) _⟩
structure F4 (w wr:World) (g:Nat) (cs:Array Value) (d0 d1 d2:Value) (gr:Value) (k:Nat) (xs:List Value) (t:ByteArray) (x:Nat):Prop where
 f:FW w wr cs t x
 rg:row wr g=#[d0,d1,d2]
 hg:Held wr g 3
 far:w.heap.size+1+1+1<g
 own:wr.ownsRow (w.heap.size+1+1+1+1) 181 3 gr k xs
 lt:∀ y,gr.ownBlock=some y->y<g
theorem F4.below {w wr w2:World} {g:Nat} {cs:Array Value} {d0 d1 d2 gr:Value} {k:Nat} {xs:List Value} {t:ByteArray} {x:Nat} (h:F4 w wr g cs d0 d1 d2 gr k xs t x) (hb:Below wr.heap.size wr w2):F4 w w2 g cs d0 d1 d2 gr k xs t x :=
 ⟨h.f.below hb,row_below hb h.rg (Nat.zero_lt_succ 2),h.hg.below hb,h.far,own_keep h.own (fun y hy=>hb.block y (own_base h.own y hy).2),h.lt⟩
theorem F4.start {w wr:World} {cs:Array Value} {gr:Value} {k:Nat} {xs:List Value} {t:ByteArray} {x:Nat} (h:FW w wr cs t x) (own:wr.ownsRow (w.heap.size+1+1+1+1) 181 3 gr k xs) (d0 d1 d2:Value) (T:TypeId):F4 w (wr.alloc (.cells #[d0,d1,d2] T)) wr.heap.size cs d0 d1 d2 gr k xs t x:=by
 have bb:Below wr.heap.size wr (wr.alloc (.cells #[d0,d1,d2] T)):=(Below.refl _ _).alloc (Nat.le_refl _) _
 exact⟨h.below bb,row_new wr _ T (0,0),Held.new wr _ T 3 rfl (by decide),h.h3.lt,own_keep own (fun y hy=>bb.block y (own_base own y hy).2),fun y hy=>(own_base own y hy).2⟩
theorem F4.step {w w2:World} {g:Nat} {cs:Array Value} {d0 d1 d2 e0 e1 e2 gr:Value} {k:Nat} {xs:List Value} {t:ByteArray} {x:Nat} (h:F4 w w2 g cs d0 d1 d2 gr k xs t x) (i:Nat) (v:Value) (t':ByteArray) (x':Nat) (he:(#[d0,d1,d2]:Array Value).setIfInBounds i v=#[e0,e1,e2]):F4 w ((w2.setCell ⟨g,i,none⟩ v).setRow (w.heap.size+1) #[.string t',.int .i64 x']) g cs e0 e1 e2 gr k xs t' x':=by
 have k1:=h.far
 have hF:FW w (w2.setCell ⟨g,i,none⟩ v) cs t x :=
  ⟨by rw[row_setCell_ne _ _ _ _ _ (by omega)];exact h.f.r0,by rw[row_setCell_ne _ _ _ _ _ (by omega)];exact h.f.r1,heldSetCell h.f.h0 _ _ _,heldSetCell h.f.h1 _ _ _,heldSetCell h.f.h2 _ _ _,heldSetCell h.f.h3 _ _ _,Below.setCell h.f.bel (by show w.heap.size<=g;omega) _⟩
 refine⟨hF.read t' x',?_,(heldSetCell h.hg _ _ _).set _ (fun e=>absurd e (by omega)),k1,own_keep h.own (fun y hy=>?_),h.lt⟩
 · rw[row_set_ne _ _ _ _ (by omega),row_setCell_eq h.hg,h.rg,he]
 · have q1:=(own_base h.own y hy).1
   have q2:=h.lt y hy
   rw[setRow_block _ _ _ _ (by omega),setCell_other (a:=⟨g,i,none⟩) (by show y≠g;omega)]
theorem F4.done {w w2 w5:World} {g:Nat} {e:En} {al d0 d1 d2 gr gr':Value} {k:Nat} {xs news:List Value} {t:ByteArray} {x:Nat} {o:Obj} (h:F4 w w2 g (e.vals al gr) d0 d1 d2 gr k xs t x)
  (hown:w5.ownsRow (w.heap.size+1+1+1+1) 181 3 gr' (k+1) (xs++news)) (hg:(w2.alloc o).grownBy w5 gr.ownBlock):FW w (w5.setCell ⟨w.heap.size,32,none⟩ gr') (e.vals al gr') t x∧(w5.setCell ⟨w.heap.size,32,none⟩ gr').ownsRow (w.heap.size+1+1+1+1) 181 3 gr' (k+1) (xs++news):=by
 have bb:Below w2.heap.size w2 (w2.alloc o):=(Below.refl _ _).alloc (Nat.le_refl _) _
 have z3:=h.f.h3.lt
 have f1:=h.f.below bb
 have hne:∀ j,j<w.heap.size+1+1+1+1->some j≠gr.ownBlock:=fun j hj e=>by have:=(own_base h.own j e.symm).1;omega
 have f2:FW w w5 (e.vals al gr) t x:=f1.blocks (fun j hj=>hg.block j (by simp;omega) (hne j hj)) (f1.bel.grown hg (by simp;omega) (fun y hy=>by have:=(own_base h.own y hy).1;omega))
 have f3:=f2.setE 32 gr'
 rw[set_32] at f3
 refine⟨f3,own_keep hown (fun y hy=>setCell_other (a:=⟨w.heap.size,32,none⟩) (by have:=(own_base hown y hy).1;show y≠w.heap.size;omega))⟩
theorem cs_gr1 (W:World) (x:Gr) (t:TypeId) (k:Nat) (hk:k=W.heap.size):CS (W.alloc (.cells #[.string x.1,.bool x.2.1,.int .i64 x.2.2] t)) 3 (.slice (some ⟨k,0,none⟩) 1 1) 1 (gv [x]):=by
 subst hk
 refine⟨_,_,rfl,rfl,fun _=>⟨_,rfl,fun j u hu=>?_⟩⟩
 rw[Addr.add_lit,Nat.zero_add,cell_of_row _ W.heap.size j _ t (0,0) (heap_alloc_new W _)]
 have:gv [x]=(#[Value.string x.1,Value.bool x.2.1,Value.int .i64 x.2.2]:Array Value).toList:=rfl
 rw[this] at hu
 simpa using hu
theorem rGr_parts (s:List UInt8 × Nat) (a:List UInt8) (s1:List UInt8 × Nat) (b:Bool) (s2:List UInt8 × Nat) (n:Int) (s3:List UInt8 × Nat) (h1:Rd.txt 8 s=(a,s1)) (h2:Rd.boo s1=(b,s2)) (h3:rN s2=(n,s3)):rGr s=((⟨a.toArray⟩,b,n),s3):=by
 unfold rGr;simp only[h1,h2,h3]
attribute [local go_sem ↓] ldEnt stEnt stEntRow ldRd stRd
attribute [local go_sem] Held_drew isHead_mk headOf_mk cellsOfV_mk isAggV_mk row_drew row_drewN vals_size allOne_nil allOne_cons one_int one_bool one_string one_pointer one_slice
theorem rfields4 (nm l:ByteArray) (w:World) (hl:l.size<=1000) :
  Calls Tryz.prog 244 #[.agg (zlit 4 nm),.agg #[.string l,.int .i64 0]] w fun r w'=>∃ (gr:Value) (t:ByteArray),r=.returned (.tuple #[.agg ((rrP (En.base 4 nm) (Ds.bl l,0)).1.vals (.slice none 0 0) gr),.agg #[.string t,.int .i64 (rrP (En.base 4 nm) (Ds.bl l,0)).2.2.2]])∧GS w' gr (rrP (En.base 4 nm) (Ds.bl l,0)).2.1∧Ds.bl t=(rrP (En.base 4 nm) (Ds.bl l,0)).2.2.1∧Below w.heap.size w w'∧(∀ y,gr.ownBlock=some y->w.heap.size<=y):=by
 obtain⟨s0,hs0⟩:∃ s0:List UInt8 × Nat,s0=(Ds.bl l,0):=⟨_,rfl⟩
 have m0:s0.1.length<=1000:=by rw[hs0];simp only[Ds.bl_length];exact hl
 obtain⟨v1,s1,hp1⟩:∃ (v:Int) (s:List UInt8 × Nat),rN s0=(v,s):=⟨_,_,rfl⟩
 have m1:s1.1.length<=1000:=by have:=rN_len s0;rw[hp1] at this;simp only at this;omega
 obtain⟨v2,s2,hp2⟩:∃ (v:List UInt8) (s:List UInt8 × Nat),Rd.txt 8 s1=(v,s):=⟨_,_,rfl⟩
 have m2:s2.1.length<=1000:=by have:=(Rd.txt_len 8 s1).1;rw[hp2] at this;simp only at this;omega
 obtain⟨v3,s3,hp3⟩:∃ (v:Nat) (s:List UInt8 × Nat),Rd.cnt 8 s2=(v,s):=⟨_,_,rfl⟩
 have m3:s3.1.length<=1000:=by have:=Rd.cnt_len 8 s2;rw[hp3] at this;simp only at this;omega
 have hc8:v3<=8:=by have:=Rd.cnt_le 8 s2;rw[hp3] at this;exact this
 obtain⟨eF,hEF⟩:∃ eF:En,({ En.base 4 nm with lev:=v1,owner:=⟨v2.toArray⟩ }:En)=eF:=⟨_,rfl⟩
 have hrr:rrP (En.base 4 nm) (Ds.bl l,0)=(eF,(rGs s3 v3).1,(rGs s3 v3).2):=by
  rw[<-hs0,<-hEF]
  unfold rrP
  simp only[hp1,hp2,hp3]
 have HEF:=Lib.hid hEF
 rw[hrr]
 clear hrr hEF
 have hS:=FW.start w (zlit 4 nm) (zlit 0 ⟨#[]⟩) l s0.2 28 206 28 206 rfl rfl
 have e0:s0.2=0:=by rw[hs0]
 have ht0:Ds.bl l=s0.1:=by rw[hs0]
 rw[e0] at hS
 have HE0:=Lib.hid e0
 have HT0:=Lib.hid ht0
 clear e0 ht0 hs0 hl
 unfold zlit at hS
 simp only[show (((0:Nat):Int))=(0:Int) from rfl] at hS
 have HS:=Lib.hid hS
 clear hS
 unfold zlit
 go_enter Tryz.func244,Tryz.ntmps244
 go_upto_region 1 with fail
 generalize hW:((((w.alloc _).alloc _).alloc _).alloc _)=W0 at HS ⊢
 clear hW
 have HS:Hid (FW w W0 (zlit 4 nm) l 0):=HS
 have r0:=HS.out.r0
 have n0:=cell_row r0 0 (.int .i64 4) rfl
 go_upto_region 29 with fail
 clear r0 n0
 generalize hC0:zlit 4 nm=C0 at HS
 have HC0:=Lib.hid hC0
 have z0:C0.size=33:=by rw[<-hC0];rfl
 have x0:l.size<=10000:=by rw[<-Ds.bl_length,HT0.out];omega
 clear hC0
 have hr:=fun W=>rread l s0.2 W x0
 rw[show (Ds.bl l,s0.2)=s0 by rw[HT0.out],hp1] at hr
 simp only at hr
 rw[HE0.out] at hr
 simp only[show (((0:Nat):Int))=(0:Int) from rfl] at hr
 have HR:=Lib.hid hr
 clear hr
 have r1:=HS.out.r1
 simp only[show (((0:Nat):Int))=(0:Int) from rfl] at r1
 obtain⟨y0,hy0⟩:∃ y,C0[31]?=some y:=⟨_,Array.getElem?_eq_getElem (by omega)⟩
 go_upto_region 30 with (go_at_call 286;(with_reducible refine (HR.out _).mono ?_);rintro _ w2 ⟨t1,rfl,ht,hb⟩;have S2:=HS.out.below hb;have HS2:=Lib.hid S2;have HT1:=Lib.hid ht;have cc:=cell_row S2.r0 31 _ hy0;have ff:=S2.h0.2.2;have q1:=fun v=>heldSetCell S2.h1 w.heap.size 31 v;clear S2 hb ht)
 have S3:=HS2.out.step 31 (.int .i64 v1) t1 s1.2
 generalize hW:World.setRow (World.setCell _ _ _) _ _=W1 at S3 ⊢
 clear hW cc ff q1 r1 HR HS HS2
 have z1:(C0.setIfInBounds 31 (.int .i64 v1)).size=33:=by simpa using z0
 generalize hC:C0.setIfInBounds 31 (.int .i64 v1)=C1 at S3 z1
 have HC1:=Lib.hid hC
 have HS:=Lib.hid S3
 have x1:t1.size<=10000:=by rw[<-Ds.bl_length,HT1.out];omega
 clear hC S3
 have hr:=fun W=>ry_text t1 s1.2 8 W x1 (by decide)
 rw[show (Ds.bl t1,s1.2)=s1 by rw[HT1.out],hp2] at hr
 simp only[show (((8:Nat):Int))=(8:Int) from rfl] at hr
 have HR:=Lib.hid hr
 clear hr
 have r1:=HS.out.r1
 obtain⟨y1,hy1⟩:∃ y,C1[28]?=some y:=⟨_,Array.getElem?_eq_getElem (by omega)⟩
 go_upto_region 31 with (go_at_call 159;(with_reducible refine (HR.out _).mono ?_);rintro _ w3 ⟨u2,t2,rfl,hu,ht,hb⟩;have S2:=HS.out.below hb;have HS2:=Lib.hid S2;have HT2:=Lib.hid ht;have HU2:=Lib.hid hu;have cc:=cell_row S2.r0 28 _ hy1;have ff:=S2.h0.2.2;have q1:=fun v=>heldSetCell S2.h1 w.heap.size 28 v;clear S2 hb ht hu)
 have S3:=HS2.out.step 28 (.string u2) t2 s2.2
 generalize hW:World.setRow (World.setCell _ _ _) _ _=W2 at S3 ⊢
 clear hW cc ff q1 r1 HR HS HS2
 have z2:(C1.setIfInBounds 28 (.string u2)).size=33:=by simpa using z1
 generalize hC:C1.setIfInBounds 28 (.string u2)=C2 at S3 z2
 have HC2:=Lib.hid hC
 have HS:=Lib.hid S3
 have x2:t2.size<=10000:=by rw[<-Ds.bl_length,HT2.out];omega
 clear hC S3
 have hF:C2=eF.vals (.slice none 0 0) (.slice none 0 0):=by
  rw[<-HEF.out,<-HC2.out,<-HC1.out,<-HC0.out]
  rw[show u2=⟨v2.toArray⟩ from Ds.bl_inj (HU2.out.trans (Ds.bl_mk _).symm)]
  unfold zlit En.vals En.base En.zero
  simp only[List.setIfInBounds_toArray,List.set_cons_succ,List.set_cons_zero]
 rw[hF] at HS
 clear hF
 have hr:=fun W=>ry_count t2 s2.2 8 W x2 (by decide)
 rw[show (Ds.bl t2,s2.2)=s2 by rw[HT2.out],hp3] at hr
 simp only[show (((8:Nat):Int))=(8:Int) from rfl] at hr
 have HR:=Lib.hid hr
 clear hr
 have r1:=HS.out.r1
 go_upto_region 32 with (go_at_call 242;(with_reducible refine (HR.out _).mono ?_);rintro _ w4 ⟨t3,rfl,ht,hb⟩;have S2:=HS.out.below hb;have HS2:=Lib.hid S2;have HT3:=Lib.hid ht;have q1:=S2.h1;clear S2 hb ht)
 have S3:=HS2.out.read t3 s3.2
 generalize hW:World.setRow _ _ _=W3 at S3 ⊢
 clear hW r1 q1 HR HS HS2
 have HS:=Lib.hid S3
 clear S3 hp1 hp2 hp3 m0 m1 m2 x0 x1 x2 z0 z1 z2 hy0 hy1
 go_wp2_with fail
 go_loopw [11] (fun i wr=>∃ (k:Nat) (t:ByteArray) (gr:Value),k<=v3∧i=.int .i64 k∧FW w wr (eF.vals (.slice none 0 0) gr) t (rGs s3 k).2.2∧Ds.bl t=(rGs s3 k).2.1∧wr.ownsRow (w.heap.size+1+1+1+1) 181 3 gr k (gv (rGs s3 k).1)) (fun i _=>v3 - (intOf i).toNat)
 case atStart=>exact⟨0,t3,.slice none 0 0,Nat.zero_le _,rfl,HS.out,HT3.out,World.ownsRow_nil _ _ _ 3⟩
 case round =>
  clear HS HT3
  obtain⟨k,t,gr,hk,rfl,hS,ht,hown⟩:=hrel
  have HS:=Lib.hid hS
  have HT:=Lib.hid ht
  have HO:=Lib.hid hown
  have mk:(rGs s3 k).2.1.length<=1000:=Nat.le_trans (rGs_rest s3 k) m3
  clear hS ht hown
  by_cases hlt:k<v3
  · obtain⟨S,hSk⟩:∃ S,(rGs s3 k).2=S:=⟨_,rfl⟩
    rw[hSk] at HS HT mk
    obtain⟨gn,g1,hg1⟩:∃ (v:List UInt8) (s:List UInt8 × Nat),Rd.txt 8 S=(v,s):=⟨_,_,rfl⟩
    have n1:g1.1.length<=1000:=by have:=(Rd.txt_len 8 S).1;rw[hg1] at this;simp only at this;omega
    obtain⟨gb,g2,hg2⟩:∃ (v:Bool) (s:List UInt8 × Nat),Rd.boo g1=(v,s):=⟨_,_,rfl⟩
    have n2:g2.1.length<=1000:=by have:=Rd.boo_len g1;rw[hg2] at this;simp only at this;omega
    obtain⟨gl,g3,hg3⟩:∃ (v:Int) (s:List UInt8 × Nat),rN g2=(v,s):=⟨_,_,rfl⟩
    have HNX:Hid (rGs s3 (k+1)=((rGs s3 k).1++[((⟨gn.toArray⟩:ByteArray),gb,gl)],g3)):=Lib.hid (by rw[rGs,hSk,rGr_parts S gn g1 gb g2 gl g3 hg1 hg2 hg3])
    obtain⟨ga,gc,rfl⟩:=owns_sl HO.out
    go_upto_region 36 with fail
    have HG:=Lib.hid (F4.start HS.out HO.out (.string ⟨#[]⟩) (.bool false) (.int .i64 0) 181)
    generalize hW:World.alloc _ _=V0 at HG ⊢
    clear hW
    generalize wr.heap.size=b at HG ⊢
    have far:=HG.out.far
    have xa:t.size<=10000:=by rw[<-Ds.bl_length,HT.out];omega
    have hr:=fun W=>ry_text t S.2 8 W xa (by decide)
    rw[show (Ds.bl t,S.2)=S by rw[HT.out],hg1] at hr
    simp only[show (((8:Nat):Int))=(8:Int) from rfl] at hr
    have HR:=Lib.hid hr
    clear hr
    have r1:=HG.out.f.r1
    go_upto_region 37 with (go_at_call 159;(with_reducible refine (HR.out _).mono ?_);rintro _ v0 ⟨ua,ta,rfl,hu,ht,hb⟩;have S2:=HG.out.below hb;have HS2:=Lib.hid S2;have HTa:=Lib.hid ht;have HU:=Lib.hid hu;have cc:=cell_row S2.rg 0 _ rfl;have ff:=S2.hg.2.2;have q1:=fun v=>heldSetCell S2.f.h1 b 0 v;clear S2 hb ht hu)
    have S3:=HS2.out.step (e0:=(.string ua)) (e1:=(.bool false)) (e2:=(.int .i64 0)) 0 (.string ua) ta g1.2 rfl
    generalize hW:World.setRow (World.setCell _ _ _) _ _=V1 at S3 ⊢
    clear hW cc ff q1 r1 HR HG HS2
    have HG:=Lib.hid S3
    clear S3
    have xb:ta.size<=10000:=by rw[<-Ds.bl_length,HTa.out];omega
    have hr:=fun W=>ry_bool ta g1.2 W xb
    rw[show (Ds.bl ta,g1.2)=g1 by rw[HTa.out],hg2] at hr
    simp only at hr
    have HR:=Lib.hid hr
    clear hr
    have r1:=HG.out.f.r1
    go_upto_region 38 with (go_at_call 285;(with_reducible refine (HR.out _).mono ?_);rintro _ v1 ⟨tb,rfl,ht,hb⟩;have S2:=HG.out.below hb;have HS2:=Lib.hid S2;have HTb:=Lib.hid ht;have cc:=cell_row S2.rg 1 _ rfl;have ff:=S2.hg.2.2;have q1:=fun v=>heldSetCell S2.f.h1 b 1 v;clear S2 hb ht)
    have S3:=HS2.out.step (e0:=(.string ua)) (e1:=(.bool gb)) (e2:=(.int .i64 0)) 1 (.bool gb) tb g2.2 rfl
    generalize hW:World.setRow (World.setCell _ _ _) _ _=V2 at S3 ⊢
    clear hW cc ff q1 r1 HR HG HS2
    have HG:=Lib.hid S3
    clear S3
    have xc:tb.size<=10000:=by rw[<-Ds.bl_length,HTb.out];omega
    have hr:=fun W=>rread tb g2.2 W xc
    rw[show (Ds.bl tb,g2.2)=g2 by rw[HTb.out],hg3] at hr
    simp only at hr
    have HR:=Lib.hid hr
    clear hr
    have r1:=HG.out.f.r1
    go_upto_region 39 with (go_at_call 286;(with_reducible refine (HR.out _).mono ?_);rintro _ v2 ⟨tc,rfl,ht,hb⟩;have S2:=HG.out.below hb;have HS2:=Lib.hid S2;have HTc:=Lib.hid ht;have cc:=cell_row S2.rg 2 _ rfl;have ff:=S2.hg.2.2;have q1:=fun v=>heldSetCell S2.f.h1 b 2 v;clear S2 hb ht)
    have S3:=HS2.out.step (e0:=(.string ua)) (e1:=(.bool gb)) (e2:=(.int .i64 gl)) 2 (.int .i64 gl) tc g3.2 rfl
    generalize hW:World.setRow (World.setCell _ _ _) _ _=V3 at S3 ⊢
    clear hW cc ff q1 r1 HR HG HS2
    have HG:=Lib.hid S3
    clear S3
    have c0:=cell_row HG.out.rg 0 _ rfl
    have c1:=cell_row HG.out.rg 1 _ rfl
    have c2:=cell_row HG.out.rg 2 _ rfl
    have c32:=cell_row HG.out.f.r0 32 _ (vals_32 _ _ _)
    have ze:=HG.out.f.h3.lt
    have f32:∀ (w5:World),(V3.alloc (.cells #[.string ua,.bool gb,.int .i64 gl] 181)).grownBy w5 (Value.slice ga k gc).ownBlock->w5.cell? ⟨w.heap.size,32,none⟩=some (.slice ga k gc)∧∀ o,w5.frozen? ⟨w.heap.size,o,none⟩=false:=fun w5 hg=>by
     have hne:some w.heap.size≠(Value.slice ga k gc).ownBlock:=fun e=>by have:=(own_base HG.out.own _ e.symm).1;omega
     have hk:=hg.block w.heap.size (by simp;omega) hne
     rw[al_lt _ _ _ (by omega)] at hk
     exact⟨(World.cell?_of_block (w:=V3) (w':=w5) (a:=⟨w.heap.size,32,none⟩) hk).trans c32,(HG.out.f.h0.of_block hk).2.2⟩
    have HF32:=Lib.hid f32
    clear f32
    go_wp2_with (at_builtin;refine wp_appX _ rfl (.tmp 219) (.tmp 221) 26 181 _ _ 3 32 rfl Tryz.underlying26 gr_i gr_i0 gr_i1 gr_i2 rfl (by decide) (w.heap.size+1+1+1+1) (.slice ga k gc) (.slice (some ⟨V3.heap.size,0,none⟩) 1 1) k 1 (gv (rGs s3 k).1) (gv [(ua,gb,gl)]) rfl (own_keep HG.out.own (fun x hx=>(bel_al V3 _).block x (own_base HG.out.own x hx).2)) rfl (cs_gr1 V3 (ua,gb,gl) _ _ rfl) (gv_one _) (by unfold maxLen;omega) (by omega) (by simp;omega) ?_;intro a5 c5 w5 hown hg hat;have ND:=Lib.hid (HG.out.done hown hg);have nn:=HF32.out _ hg;have nc:=nn.1;have nf:=nn.2;clear nn hown hg hat)
    go_roundw
    case rel=>exact⟨k+1,tc,.slice a5 (k+1) c5,by omega,by go_num,by rw[HNX.out];exact ND.out.1,by rw[HNX.out];exact HTc.out,by rw[HNX.out,gv_app,show (⟨gn.toArray⟩:ByteArray)=ua from (Ds.bl_inj (HU.out.trans (Ds.bl_mk _).symm)).symm];exact ND.out.2⟩
    case measure=>simp [intOf];omega
  · obtain rfl:k=v3:=by omega
    obtain⟨ga,gc,rfl⟩:=owns_sl HO.out
    have hone:=vals_one eF (.slice none 0 0) (.slice ga k gc) rfl rfl
    have HP:=HS.out.pick
    go_upto_region 40 with fail
    go_region_held3 (fun w'=>row w' w.heap.size=eF.vals (.slice none 0 0) (.slice ga k gc)∧row w' (w.heap.size+1)=#[.string t,.int .i64 (rGs s3 k).2.2]∧Held w' (w.heap.size+1+1) 33∧Held w' (w.heap.size+1+1+1) 2) (first | assumption | exact HP | exact fin_keep (by assumption) _ (Or.inl ⟨rfl,vals_size _ _ _⟩) | exact fin_keep (by assumption) _ (Or.inr ⟨rfl,rfl⟩)) (fail)
    have FD:=HS.out.below (Below.drew (Below.refl wr.heap.size wr))
    have TA:=Lib.hid (fin_a FD)
    have TB:=Lib.hid (fin_b FD)
    have hb0:∀ y,(Value.slice ga k gc).ownBlock=some y->w.heap.size+1+1+1+1<=y:=fun y hy=>(own_base HO.out y hy).1
    have HB0:=Lib.hid hb0
    clear hb0
    all_goals
     go_wp2_with fail
     first
     | (refine bodyPost_ret (res_row_row (n:=32) (n':=1) rfl Tryz.underlying28 rfl (by kernel_rfl) Tryz.underlying206 rfl (by kernel_rfl) _ _ (w.heap.size+1+1) (w.heap.size+1+1+1) rfl rfl (by rw[TA.out.1];exact vals_size _ _ _) (by rw[TA.out.2.1];rfl)) rfl ?_
        rw[TA.out.1,TA.out.2.1]
        refine⟨_,t,rfl,?_,HT.out,TA.out.2.2,fun y hy=>by have:=HB0.out y hy;omega⟩)
     | (refine bodyPost_ret (res_row_row (n:=32) (n':=1) rfl Tryz.underlying28 rfl (by kernel_rfl) Tryz.underlying206 rfl (by kernel_rfl) _ _ (w.heap.size+1+1) (w.heap.size+1+1+1) rfl rfl (by rw[TB.out.1];exact vals_size _ _ _) (by rw[TB.out.2.1];rfl)) rfl ?_
        rw[TB.out.1,TB.out.2.1]
        refine⟨_,t,rfl,?_,HT.out,TB.out.2.2,fun y hy=>by have:=HB0.out y hy;omega⟩)
     refine gs_of_cells (by rw[rGs_len];omega) ?_
     rw[rGs_len]
     exact own_cells (own_keep HO.out (fun y hy=>by have:=HB0.out y hy;rw[setRow_block _ _ _ _ (by omega),setRow_block _ _ _ _ (by omega)];rfl))
end
section
set_option linter.unusedSimpArgs false
structure F0 (w wr:World) (b:Nat) (cs ds:Array Value) (t:ByteArray) (x:Nat):Prop where
 r0:row wr w.heap.size=cs
 rb:row wr b=#[.string t,.int .i64 x]
 rd:row wr (b+1)=ds
 h0:Held wr w.heap.size 33
 hb:Held wr b 2
 hd:Held wr (b+1) 21
 h2:Held wr (w.heap.size+1+1) 33
 h3:Held wr (w.heap.size+1+1+1) 2
 bel:Below w.heap.size w wr
 far:w.heap.size+1+1+1<b
theorem F0.below {w wr w2:World} {b:Nat} {cs ds:Array Value} {t:ByteArray} {x:Nat} (h:F0 w wr b cs ds t x) (hb:Below wr.heap.size wr w2):F0 w w2 b cs ds t x :=
 ⟨row_below hb h.r0 (by rw[<-h.r0,h.h0.1];decide),row_below hb h.rb (Nat.zero_lt_succ 1),row_below hb h.rd (by rw[<-h.rd,h.hd.1];decide),h.h0.below hb,h.hb.below hb,h.hd.below hb,h.h2.below hb,h.h3.below hb,bt h.bel hb,h.far⟩
theorem F0.step {w w2:World} {b:Nat} {cs ds:Array Value} {t:ByteArray} {x:Nat} (h:F0 w w2 b cs ds t x) (i:Nat) (v:Value) (t':ByteArray) (x':Nat):F0 w ((w2.setCell ⟨b+1,i,none⟩ v).setRow b #[.string t',.int .i64 x']) b cs (ds.setIfInBounds i v) t' x':=by
 have k:=h.far
 have kb:=heldSetCell h.hb (b+1) i v
 refine⟨?_,row_setRow kb _,?_,(heldSetCell h.h0 _ _ _).set _ (fun e=>absurd e (by omega)),kb.set _ (fun _=>rfl),(heldSetCell h.hd _ _ _).set _ (fun e=>absurd e (by omega)),(heldSetCell h.h2 _ _ _).set _ (fun e=>absurd e (by omega)),(heldSetCell h.h3 _ _ _).set _ (fun e=>absurd e (by omega)),below_setRow (Below.setCell h.bel (by show w.heap.size<=b+1;omega) _) (by omega) _,k⟩
 · rw[row_set_ne _ _ _ _ (by omega),row_setCell_ne _ _ _ _ _ (by omega),h.r0]
 · rw[row_set_ne _ _ _ _ (by omega),row_setCell_eq h.hd,h.rd]
theorem F0.stepE {w w2:World} {b:Nat} {cs ds:Array Value} {t:ByteArray} {x:Nat} (h:F0 w w2 b cs ds t x) (i:Nat) (v:Value) (t':ByteArray) (x':Nat):F0 w ((w2.setCell ⟨w.heap.size,i,none⟩ v).setRow b #[.string t',.int .i64 x']) b (cs.setIfInBounds i v) ds t' x':=by
 have k:=h.far
 have kb:=heldSetCell h.hb w.heap.size i v
 refine⟨?_,row_setRow kb _,?_,(heldSetCell h.h0 _ _ _).set _ (fun e=>absurd e (by omega)),kb.set _ (fun _=>rfl),(heldSetCell h.hd _ _ _).set _ (fun e=>absurd e (by omega)),(heldSetCell h.h2 _ _ _).set _ (fun e=>absurd e (by omega)),(heldSetCell h.h3 _ _ _).set _ (fun e=>absurd e (by omega)),below_setRow (Below.setCell h.bel (Nat.le_refl _) _) (by omega) _,k⟩
 · rw[row_set_ne _ _ _ _ (by omega),row_setCell_eq h.h0,h.r0]
 · rw[row_set_ne _ _ _ _ (by omega),row_setCell_ne _ _ _ _ _ (by omega),h.rd]
theorem F0.read {w w2:World} {b:Nat} {cs ds:Array Value} {t:ByteArray} {x:Nat} (h:F0 w w2 b cs ds t x) (t':ByteArray) (x':Nat):F0 w (w2.setRow b #[.string t',.int .i64 x']) b cs ds t' x':=by
 have k:=h.far
 exact⟨by rw[row_set_ne _ _ _ _ (by omega)];exact h.r0,row_setRow h.hb _,by rw[row_set_ne _ _ _ _ (by omega)];exact h.rd,h.h0.set _ (fun e=>absurd e (by omega)),h.hb.set _ (fun _=>rfl),h.hd.set _ (fun e=>absurd e (by omega)),h.h2.set _ (fun e=>absurd e (by omega)),h.h3.set _ (fun e=>absurd e (by omega)),below_setRow h.bel (by omega) _,k⟩
theorem F0.desc {w w2:World} {b:Nat} {cs ds:Array Value} {t:ByteArray} {x:Nat} (h:F0 w w2 b cs ds t x) (hc:cs.size=33):F0 w (w2.setRow w.heap.size (over (row w2 w.heap.size) 2 ds.toList)) b (over cs 2 ds.toList) ds t x:=by
 have k:=h.far
 rw[h.r0]
 exact⟨row_setRow h.h0 _,by rw[row_set_ne _ _ _ _ (by omega)];exact h.rb,by rw[row_set_ne _ _ _ _ (by omega)];exact h.rd,h.h0.set _ (fun _=>by rw[over_size];exact hc),h.hb.set _ (fun e=>absurd e (by omega)),h.hd.set _ (fun e=>absurd e (by omega)),h.h2.set _ (fun e=>absurd e (by omega)),h.h3.set _ (fun e=>absurd e (by omega)),below_setRow h.bel (Nat.le_refl _) _,k⟩
theorem F0.start {w w2:World} {cs:Array Value} {l:ByteArray} {x:Nat} (h:FW w w2 cs l x) (t':ByteArray) (x':Nat) (ds:Array Value) (T1 T2:TypeId) (hd:ds.size=21):F0 w ((w2.alloc (.cells #[.string t',.int .i64 x'] T1)).alloc (.cells ds T2)) w2.heap.size cs ds t' x':=by
 have bb:∀ (W:World) o,Below W.heap.size W (W.alloc o):=fun W o=>(Below.refl _ _).alloc (Nat.le_refl _) o
 have q0:=Held.new w2 #[.string t',.int .i64 x'] T1 2 rfl (by decide)
 have q1:=Held.new (w2.alloc (.cells #[.string t',.int .i64 x'] T1)) ds T2 21 hd (by decide)
 have r1:=row_new (w2.alloc (.cells #[.string t',.int .i64 x'] T1)) ds T2 (0,0)
 have s1:(w2.alloc (.cells #[.string t',.int .i64 x'] T1)).heap.size=w2.heap.size+1:=by simp
 rw[s1] at q1 r1
 have g:=(h.below (bb w2 (.cells #[.string t',.int .i64 x'] T1))).below (bb _ (.cells ds T2))
 exact⟨g.r0,row_below (bb _ _) (row_new w2 _ T1 (0,0)) (Nat.zero_lt_succ 1),r1,g.h0,q0.below (bb _ _),q1,g.h2,g.h3,g.bel,h.h3.lt⟩
theorem F0.pick {w wr:World} {b:Nat} {cs ds:Array Value} {t:ByteArray} {x:Nat} (h:F0 w wr b cs ds t x):row wr w.heap.size=cs∧row wr b=#[.string t,.int .i64 x]∧Held wr (w.heap.size+1+1) 33∧Held wr (w.heap.size+1+1+1) 2:=⟨h.r0,h.rb,h.h2,h.h3⟩
theorem is_step {W:World} {g0 b i:Nat} {v al:Value} {c:Array Value} {l:List Int} (h:IS W al l) (B:Nat) (ho:∀ x,al.ownBlock=some x->B<=x) (h1:g0<B) (h2:b<B):IS ((W.setCell ⟨g0,i,none⟩ v).setRow b c) al l :=
 h.keep B ho (by simp) (fun k hk _=>by rw[setRow_block _ _ _ _ (by omega),setCell_other (a:=⟨g0,i,none⟩) (by show k≠g0;omega)])
theorem is_fin {W:World} {p q:Nat} {al:Value} {c c':Array Value} {l:List Int} (h:IS W al l) (B:Nat) (ho:∀ x,al.ownBlock=some x->B<=x) (h1:p<B) (h2:q<B):IS ((W.drew.setRow p c).setRow q c') al l :=
 h.keep B ho (by simp) (fun k hk _=>by rw[setRow_block _ _ _ _ (by omega),setRow_block _ _ _ _ (by omega)];rfl)
theorem fin0_keep {W:World} {g b k:Nat} {cs rd:Array Value} (far:g+1+1+1<b) (h:row W g=cs∧row W b=rd∧Held W (g+1+1) 33∧Held W (g+1+1+1) 2) (c:Array Value) (hk:k=g+1+1∧c.size=33∨k=g+1+1+1∧c.size=2) :
  row (W.setRow k c) g=cs∧row (W.setRow k c) b=rd∧Held (W.setRow k c) (g+1+1) 33∧Held (W.setRow k c) (g+1+1+1) 2:=by
 refine⟨by rw[row_set_ne _ _ _ _ (by omega)];exact h.1,by rw[row_set_ne _ _ _ _ (by omega)];exact h.2.1,h.2.2.1.set c (fun e=>?_),h.2.2.2.set c (fun e=>?_)⟩
 · rcases hk with ⟨_,hc⟩ | ⟨h1,_⟩
   · exact hc
   · omega
 · rcases hk with ⟨h1,_⟩ | ⟨_,hc⟩
   · omega
   · exact hc
theorem fin0_a {w wr:World} {b:Nat} {cs ds:Array Value} {t:ByteArray} {x:Nat} (h:F0 w wr b cs ds t x) :
  row ((wr.setRow (w.heap.size+1+1) cs).setRow (w.heap.size+1+1+1) #[.string t,.int .i64 x]) (w.heap.size+1+1)=cs∧row ((wr.setRow (w.heap.size+1+1) cs).setRow (w.heap.size+1+1+1) #[.string t,.int .i64 x]) (w.heap.size+1+1+1)=#[.string t,.int .i64 x]∧Below w.heap.size w ((wr.setRow (w.heap.size+1+1) cs).setRow (w.heap.size+1+1+1) #[.string t,.int .i64 x]):=by
 have k:=h.h3.set (g':=w.heap.size+1+1) cs (fun e=>absurd e (by omega))
 exact⟨by rw[row_set_ne _ _ _ _ (by omega),row_setRow h.h2],row_setRow k _,below_setRow (below_setRow h.bel (by omega) _) (by omega) _⟩
theorem fin0_b {w wr:World} {b:Nat} {cs ds:Array Value} {t:ByteArray} {x:Nat} (h:F0 w wr b cs ds t x) :
  row ((wr.setRow (w.heap.size+1+1+1) #[.string t,.int .i64 x]).setRow (w.heap.size+1+1) cs) (w.heap.size+1+1)=cs∧row ((wr.setRow (w.heap.size+1+1+1) #[.string t,.int .i64 x]).setRow (w.heap.size+1+1) cs) (w.heap.size+1+1+1)=#[.string t,.int .i64 x]∧Below w.heap.size w ((wr.setRow (w.heap.size+1+1+1) #[.string t,.int .i64 x]).setRow (w.heap.size+1+1) cs):=by
 have k:=h.h2.set (g':=w.heap.size+1+1+1) #[.string t,.int .i64 x] (fun e=>absurd e (by omega))
 exact⟨row_setRow k _,by rw[row_set_ne _ _ _ _ (by omega),row_setRow h.h3],below_setRow (below_setRow h.bel (by omega) _) (by omega) _⟩
theorem list14:∀ l:List Int,l.length=14->∃ a0 a1 a2 a3 a4 a5 a6 a7 a8 a9 a10 a11 a12 a13,l=[a0,a1,a2,a3,a4,a5,a6,a7,a8,a9,a10,a11,a12,a13]
 | [a0,a1,a2,a3,a4,a5,a6,a7,a8,a9,a10,a11,a12,a13],_=>⟨a0,a1,a2,a3,a4,a5,a6,a7,a8,a9,a10,a11,a12,a13,rfl⟩
def G14 (W:World) (vb vo:Nat) (a0 a1 a2 a3 a4 a5 a6 a7 a8 a9 a10 a11 a12 a13:Int):Prop:=W.cell? ⟨vb,vo+0,none⟩=some (.int .i64 a0)∧W.cell? ⟨vb,vo+1,none⟩=some (.int .i64 a1)∧W.cell? ⟨vb,vo+2,none⟩=some (.int .i64 a2)∧W.cell? ⟨vb,vo+3,none⟩=some (.int .i64 a3)∧W.cell? ⟨vb,vo+4,none⟩=some (.int .i64 a4)∧W.cell? ⟨vb,vo+5,none⟩=some (.int .i64 a5)∧W.cell? ⟨vb,vo+6,none⟩=some (.int .i64 a6)∧W.cell? ⟨vb,vo+7,none⟩=some (.int .i64 a7)∧W.cell? ⟨vb,vo+8,none⟩=some (.int .i64 a8)∧W.cell? ⟨vb,vo+9,none⟩=some (.int .i64 a9)∧W.cell? ⟨vb,vo+10,none⟩=some (.int .i64 a10)∧W.cell? ⟨vb,vo+11,none⟩=some (.int .i64 a11)∧W.cell? ⟨vb,vo+12,none⟩=some (.int .i64 a12)∧W.cell? ⟨vb,vo+13,none⟩=some (.int .i64 a13)
theorem G14.below {W W':World} {vb vo:Nat} {a0 a1 a2 a3 a4 a5 a6 a7 a8 a9 a10 a11 a12 a13:Int} (hb:Below W.heap.size W W') (h:G14 W vb vo a0 a1 a2 a3 a4 a5 a6 a7 a8 a9 a10 a11 a12 a13):G14 W' vb vo a0 a1 a2 a3 a4 a5 a6 a7 a8 a9 a10 a11 a12 a13:=⟨below_cell hb h.1,below_cell hb h.2.1,below_cell hb h.2.2.1,below_cell hb h.2.2.2.1,below_cell hb h.2.2.2.2.1,below_cell hb h.2.2.2.2.2.1,below_cell hb h.2.2.2.2.2.2.1,below_cell hb h.2.2.2.2.2.2.2.1,below_cell hb h.2.2.2.2.2.2.2.2.1,below_cell hb h.2.2.2.2.2.2.2.2.2.1,below_cell hb h.2.2.2.2.2.2.2.2.2.2.1,below_cell hb h.2.2.2.2.2.2.2.2.2.2.2.1,below_cell hb h.2.2.2.2.2.2.2.2.2.2.2.2.1,below_cell hb h.2.2.2.2.2.2.2.2.2.2.2.2.2⟩
theorem F0.setD {w wr:World} {b:Nat} {cs ds:Array Value} {t:ByteArray} {x:Nat} (h:F0 w wr b cs ds t x) (ds':Array Value) (hz:ds'.size=21):F0 w (wr.setRow (b+1) ds') b cs ds' t x:=by
 have k:=h.far
 exact⟨by rw[row_set_ne _ _ _ _ (by omega)];exact h.r0,by rw[row_set_ne _ _ _ _ (by omega)];exact h.rb,row_setRow h.hd _,h.h0.set _ (fun e=>absurd e (by omega)),h.hb.set _ (fun e=>absurd e (by omega)),h.hd.set _ (fun _=>hz),h.h2.set _ (fun e=>absurd e (by omega)),h.h3.set _ (fun e=>absurd e (by omega)),below_setRow h.bel (by omega) _,k⟩
theorem stDatR (ev:Operand->Value) (w:World) (dst x y t' pos af gd) (h1:isHead (ev x)=true) (h2:Held w (headOf (ev x)) 21) (h3:isAggV (ev y)=true) (h4:(cellsOfV (ev y)).size=21) (h5:allOne (cellsOfV (ev y)).toList=true) :
  (execOp ev ⟨dst,.store 24 x y,t',pos,af,gd⟩).run Tryz.prog w=.ok .skip (w.setRow (headOf (ev x)) (cellsOfV (ev y))) :=
 exec_store_row ev w _ 20 (by kernel_rfl) dst x y t' pos af gd h1 h2 h3 h4 h5
theorem S14.of {W w':World} {vb vo:Nat} {a0 a1 a2 a3 a4 a5 a6 a7 a8 a9 a10 a11 a12 a13:Int} (hb:Below W.heap.size W w') (h:G14 W vb vo a0 a1 a2 a3 a4 a5 a6 a7 a8 a9 a10 a11 a12 a13):w'.cell? ⟨vb,vo,none⟩=some (.int .i64 a0)∧w'.cell? ⟨vb,vo+1,none⟩=some (.int .i64 a1)∧w'.cell? ⟨vb,vo+2,none⟩=some (.int .i64 a2)∧w'.cell? ⟨vb,vo+3,none⟩=some (.int .i64 a3)∧w'.cell? ⟨vb,vo+4,none⟩=some (.int .i64 a4)∧w'.cell? ⟨vb,vo+5,none⟩=some (.int .i64 a5)∧w'.cell? ⟨vb,vo+6,none⟩=some (.int .i64 a6)∧w'.cell? ⟨vb,vo+7,none⟩=some (.int .i64 a7)∧w'.cell? ⟨vb,vo+8,none⟩=some (.int .i64 a8)∧w'.cell? ⟨vb,vo+9,none⟩=some (.int .i64 a9)∧w'.cell? ⟨vb,vo+10,none⟩=some (.int .i64 a10)∧w'.cell? ⟨vb,vo+11,none⟩=some (.int .i64 a11)∧w'.cell? ⟨vb,vo+12,none⟩=some (.int .i64 a12)∧w'.cell? ⟨vb,vo+13,none⟩=some (.int .i64 a13)∧Below W.heap.size W w':=by
 obtain⟨h0,h1,h2,h3,h4,h5,h6,h7,h8,h9,h10,h11,h12,h13⟩:=G14.below hb h
 exact⟨h0,h1,h2,h3,h4,h5,h6,h7,h8,h9,h10,h11,h12,h13,hb⟩
attribute [local go_sem ↓] ldEnt stEnt stEntRow ldRd stRd ldDat ldDatH stDatR stDatF
attribute [local go_sem] Held_drew isHead_mk isDat_mk headOf_mk cellsOfV_mk isAggV_mk row_drew row_drewN vals_size dat_size allOne_nil allOne_cons one_int one_bool one_string one_pointer one_slice
-- PRINTED BY mkrg0.py
theorem rfields0 (nm l:ByteArray) (w:World) (hl:l.size<=1000) :
  Calls Tryz.prog 244 #[.agg (zlit 0 nm),.agg #[.string l,.int .i64 0]] w fun r w'=>∃ (al:Value) (t:ByteArray),r=.returned (.tuple #[.agg ((rrD (En.base 0 nm) (Ds.bl l,0)).1.vals al (.slice none 0 0)),.agg #[.string t,.int .i64 (rrD (En.base 0 nm) (Ds.bl l,0)).2.2.2]])∧IS w' al (rrD (En.base 0 nm) (Ds.bl l,0)).2.1∧Ds.bl t=(rrD (En.base 0 nm) (Ds.bl l,0)).2.2.1∧Below w.heap.size w w'∧(∀ y,al.ownBlock=some y->w.heap.size<=y):=by
 obtain⟨s0,hs0⟩:∃ s0:List UInt8 × Nat,s0=(Ds.bl l,0):=⟨_,rfl⟩
 have m0:s0.1.length<=1000:=by rw[hs0];simp only[Ds.bl_length];exact hl
 obtain⟨ns,s1,hp1⟩:∃ (v:List Int) (s:List UInt8 × Nat),rL s0 14=(v,s):=⟨_,_,rfl⟩
 have m1:s1.1.length<=1000:=by have:=rL_rest s0 14;rw[hp1] at this;simp only at this;omega
 have hl14:ns.length=14:=by have:=rL_len s0 14;rw[hp1] at this;exact this
 obtain⟨v2,s2,hp2⟩:∃ (v:Bool) (s:List UInt8 × Nat),Rd.boo s1=(v,s):=⟨_,_,rfl⟩
 have m2:s2.1.length<=1000:=by have:=Rd.boo_len s1;rw[hp2] at this;simp only at this;omega
 obtain⟨v3,s3,hp3⟩:∃ (v:Int) (s:List UInt8 × Nat),rN s2=(v,s):=⟨_,_,rfl⟩
 have m3:s3.1.length<=1000:=by have:=rN_len s2;rw[hp3] at this;simp only at this;omega
 obtain⟨v4,s4,hp4⟩:∃ (v:List UInt8) (s:List UInt8 × Nat),Rd.txt 8 s3=(v,s):=⟨_,_,rfl⟩
 have m4:s4.1.length<=1000:=by have:=(Rd.txt_len 8 s3).1;rw[hp4] at this;simp only at this;omega
 obtain⟨v5,s5,hp5⟩:∃ (v:List UInt8) (s:List UInt8 × Nat),Rd.txt 8 s4=(v,s):=⟨_,_,rfl⟩
 have m5:s5.1.length<=1000:=by have:=(Rd.txt_len 8 s4).1;rw[hp5] at this;simp only at this;omega
 obtain⟨v6,s6,hp6⟩:∃ (v:Int) (s:List UInt8 × Nat),rN s5=(v,s):=⟨_,_,rfl⟩
 have m6:s6.1.length<=1000:=by have:=rN_len s5;rw[hp6] at this;simp only at this;omega
 obtain⟨v7,s7,hp7⟩:∃ (v:Int) (s:List UInt8 × Nat),rN s6=(v,s):=⟨_,_,rfl⟩
 have m7:s7.1.length<=1000:=by have:=rN_len s6;rw[hp7] at this;simp only at this;omega
 obtain⟨v8,s8,hp8⟩:∃ (v:Bool) (s:List UInt8 × Nat),Rd.boo s7=(v,s):=⟨_,_,rfl⟩
 have m8:s8.1.length<=1000:=by have:=Rd.boo_len s7;rw[hp8] at this;simp only at this;omega
 obtain⟨v9,s9,hp9⟩:∃ (v:Nat) (s:List UInt8 × Nat),Rd.cnt 4 s8=(v,s):=⟨_,_,rfl⟩
 have m9:s9.1.length<=1000:=by have:=Rd.cnt_len 4 s8;rw[hp9] at this;simp only at this;omega
 have hc4:v9<=4:=by have:=Rd.cnt_le 4 s8;rw[hp9] at this;exact this
 obtain⟨ls,s10,hp10⟩:∃ (v:List Int) (s:List UInt8 × Nat),rL s9 v9=(v,s):=⟨_,_,rfl⟩
 have m10:s10.1.length<=1000:=by have:=rL_rest s9 v9;rw[hp10] at this;simp only at this;omega
 obtain⟨v11,s11,hp11⟩:∃ (v:Int) (s:List UInt8 × Nat),rN s10=(v,s):=⟨_,_,rfl⟩
 have m11:s11.1.length<=1000:=by have:=rN_len s10;rw[hp11] at this;simp only at this;omega
 obtain⟨a0,a1,a2,a3,a4,a5,a6,a7,a8,a9,a10,a11,a12,a13,rfl⟩:=list14 ns hl14
 clear hl14
 obtain⟨eF,hEF⟩:∃ eF:En,({ En.base 0 nm with d0:=a0,d1:=a1,d2:=a2,d3:=a3,d4:=a4,d5:=a5,d6:=a6,d7:=a7,d8:=a8,d9:=a9,d10:=a10,d11:=a11,d12:=a12,d13:=a13,uq:=v2,cls:=v3,vol:=⟨v4.toArray⟩,own:=⟨v5.toArray⟩,cr:=v6,ex:=v7,ar:=v8,used:=v11 }:En)=eF:=⟨_,rfl⟩
 have hrr:rrD (En.base 0 nm) (Ds.bl l,0)=(eF,ls,s11):=by
  rw[<-hs0,<-hEF]
  unfold rrD
  simp only[hp1,hp2,hp3,hp4,hp5,hp6,hp7,hp8,hp9,hp10,hp11]
  rfl
 rw[hrr]
 have HEF:=Lib.hid hEF
 clear hrr hEF
 have hS:=FW.start w (zlit 0 nm) (zlit 0 ⟨#[]⟩) l s0.2 28 206 28 206 rfl rfl
 have e0:s0.2=0:=by rw[hs0]
 have ht0:Ds.bl l=s0.1:=by rw[hs0]
 have x0:l.size<=10000:=by omega
 have hr:=fun W=>rlist l s0.2 14 W x0 (by decide)
 rw[show (Ds.bl l,s0.2)=s0 by rw[ht0],hp1] at hr
 simp only[show (((14:Nat):Int))=(14:Int) from rfl] at hr
 rw[e0] at hS hr
 clear e0 ht0 hs0 hl
 unfold zlit at hS
 simp only[show (((0:Nat):Int))=(0:Int) from rfl] at hS hr
 have HS:=Lib.hid hS
 have HR:=Lib.hid hr
 clear hS hr
 unfold zlit
 go_enter Tryz.func244,Tryz.ntmps244
 go_upto_region 1 with fail
 generalize hW:((((w.alloc _).alloc _).alloc _).alloc _)=W0 at HS ⊢
 clear hW
 have HS:Hid (FW w W0 (zlit 0 nm) l 0):=HS
 have r0:=HS.out.r0
 have r1:=HS.out.r1
 simp only[show (((0:Nat):Int))=(0:Int) from rfl] at r1
 have n0:=cell_row r0 0 (.int .i64 0) rfl
 go_upto_region 4 with (go_at_call 284;(with_reducible refine (HR.out _).mono ?_);rintro _ w2 ⟨v,t1,rfl,hI,ht,hb,ho⟩;have S2:=HS.out.below hb;have HS2:=Lib.hid S2;have HT1:=Lib.hid ht;have HI:=Lib.hid hI;clear S2 hb ht ho hI)
 clear r0 r1 n0 HS HR
 have hI:=HI.out
 obtain⟨av,cv,rfl,-,hc⟩:=hI
 obtain⟨vb,vo,rfl,hvb,hcell⟩:=hc (Nat.le_of_ble_eq_true rfl)
 have g0:w2.cell? ⟨vb,vo+0,none⟩=some (.int .i64 a0):=hcell 0 (Nat.le_of_ble_eq_true rfl)
 have g1:w2.cell? ⟨vb,vo+1,none⟩=some (.int .i64 a1):=hcell 1 (Nat.le_of_ble_eq_true rfl)
 have g2:w2.cell? ⟨vb,vo+2,none⟩=some (.int .i64 a2):=hcell 2 (Nat.le_of_ble_eq_true rfl)
 have g3:w2.cell? ⟨vb,vo+3,none⟩=some (.int .i64 a3):=hcell 3 (Nat.le_of_ble_eq_true rfl)
 have g4:w2.cell? ⟨vb,vo+4,none⟩=some (.int .i64 a4):=hcell 4 (Nat.le_of_ble_eq_true rfl)
 have g5:w2.cell? ⟨vb,vo+5,none⟩=some (.int .i64 a5):=hcell 5 (Nat.le_of_ble_eq_true rfl)
 have g6:w2.cell? ⟨vb,vo+6,none⟩=some (.int .i64 a6):=hcell 6 (Nat.le_of_ble_eq_true rfl)
 have g7:w2.cell? ⟨vb,vo+7,none⟩=some (.int .i64 a7):=hcell 7 (Nat.le_of_ble_eq_true rfl)
 have g8:w2.cell? ⟨vb,vo+8,none⟩=some (.int .i64 a8):=hcell 8 (Nat.le_of_ble_eq_true rfl)
 have g9:w2.cell? ⟨vb,vo+9,none⟩=some (.int .i64 a9):=hcell 9 (Nat.le_of_ble_eq_true rfl)
 have g10:w2.cell? ⟨vb,vo+10,none⟩=some (.int .i64 a10):=hcell 10 (Nat.le_of_ble_eq_true rfl)
 have g11:w2.cell? ⟨vb,vo+11,none⟩=some (.int .i64 a11):=hcell 11 (Nat.le_of_ble_eq_true rfl)
 have g12:w2.cell? ⟨vb,vo+12,none⟩=some (.int .i64 a12):=hcell 12 (Nat.le_of_ble_eq_true rfl)
 have g13:w2.cell? ⟨vb,vo+13,none⟩=some (.int .i64 a13):=hcell 13 (Nat.le_of_ble_eq_true rfl)
 clear hcell HI hc
 have far:w.heap.size+1+1+1<w2.heap.size:=HS2.out.h3.lt
 have G0:G14 w2 vb vo a0 a1 a2 a3 a4 a5 a6 a7 a8 a9 a10 a11 a12 a13:=⟨g0,g1,g2,g3,g4,g5,g6,g7,g8,g9,g10,g11,g12,g13⟩
 have BB:Below (w2.alloc (.cells #[.string t1,.int .i64 s1.2] 206)).heap.size (w2.alloc (.cells #[.string t1,.int .i64 s1.2] 206)) (w2.alloc (.cells #[.string t1,.int .i64 s1.2] 206)).drew:=Below.drew (Below.refl _ _)
 have G1:=G14.below ((Below.refl w2.heap.size w2).alloc (Nat.le_refl _) (.cells #[.string t1,.int .i64 s1.2] 206)) G0
 have S4:=S14.of BB G1
 clear g0 g1 g2 g3 g4 g5 g6 g7 g8 g9 g10 g11 g12 g13
 refine wp_region_held_drew (S:=fun w'=>w'.cell? ⟨vb,vo,none⟩=some (.int .i64 a0)∧w'.cell? ⟨vb,vo+1,none⟩=some (.int .i64 a1)∧w'.cell? ⟨vb,vo+2,none⟩=some (.int .i64 a2)∧w'.cell? ⟨vb,vo+3,none⟩=some (.int .i64 a3)∧w'.cell? ⟨vb,vo+4,none⟩=some (.int .i64 a4)∧w'.cell? ⟨vb,vo+5,none⟩=some (.int .i64 a5)∧w'.cell? ⟨vb,vo+6,none⟩=some (.int .i64 a6)∧w'.cell? ⟨vb,vo+7,none⟩=some (.int .i64 a7)∧w'.cell? ⟨vb,vo+8,none⟩=some (.int .i64 a8)∧w'.cell? ⟨vb,vo+9,none⟩=some (.int .i64 a9)∧w'.cell? ⟨vb,vo+10,none⟩=some (.int .i64 a10)∧w'.cell? ⟨vb,vo+11,none⟩=some (.int .i64 a11)∧w'.cell? ⟨vb,vo+12,none⟩=some (.int .i64 a12)∧w'.cell? ⟨vb,vo+13,none⟩=some (.int .i64 a13)∧Below (w2.alloc (.cells #[.string t1,.int .i64 s1.2] 206)).heap.size (w2.alloc (.cells #[.string t1,.int .i64 s1.2] 206)) w') (by kernel_rfl) ?_ (fun hHeld=>?_)
 · exact S4
 (refine rgy (i:=0) (some 22) ?_;(try simp only[Act.put,pz]))
 (refine rgy (i:=1) (some 23) ?_;(try simp only[Act.put,pz]))
 (refine rgy (i:=2) (some 24) ?_;(try simp only[Act.put,pz]))
 (refine rgy (i:=3) (some 25) ?_;(try simp only[Act.put,pz]))
 (refine rgy (i:=4) (some 26) ?_;(try simp only[Act.put,pz]))
 (refine rgy (i:=5) (some 27) ?_;(try simp only[Act.put,pz]))
 (refine rgy (i:=6) (some 28) ?_;(try simp only[Act.put,pz]))
 (refine rgy (i:=7) (some 29) ?_;(try simp only[Act.put,pz]))
 (refine rgy (i:=8) (some 30) ?_;(try simp only[Act.put,pz]))
 (refine rgy (i:=9) (some 31) ?_;(try simp only[Act.put,pz]))
 (refine rgy (i:=10) (some 32) ?_;(try simp only[Act.put,pz]))
 (refine rgy (i:=11) (some 33) ?_;(try simp only[Act.put,pz]))
 (refine rgy (i:=12) (some 34) ?_;(try simp only[Act.put,pz]))
 (refine rgy (i:=13) (some 35) ?_;(try simp only[Act.put,pz]))
 (refine rgy (i:=14) (some 36) ?_;(try simp only[Act.put,pz]))
 (refine rgy (i:=15) (some 37) ?_;(try simp only[Act.put,pz]))
 (refine rgy (i:=16) (some 38) ?_;(try simp only[Act.put,pz]))
 (refine rgy (i:=17) (some 39) ?_;(try simp only[Act.put,pz]))
 (refine rgy (i:=18) (some 40) ?_;(try simp only[Act.put,pz]))
 (refine rgy (i:=19) (some 41) ?_;(try simp only[Act.put,pz]))
 (refine rgy (i:=20) (some 42) ?_;(try simp only[Act.put,pz]))
 (refine rgy (i:=21) (some 43) ?_;(try simp only[Act.put,pz]))
 (refine rgy (i:=22) (some 44) ?_;(try simp only[Act.put,pz]))
 (refine rgy (i:=23) (some 45) ?_;(try simp only[Act.put,pz]))
 (refine rgy (i:=24) (some 46) ?_;(try simp only[Act.put,pz]))
 (refine rgy (i:=25) (some 47) ?_;(try simp only[Act.put,pz]))
 (refine rgy (i:=26) (some 48) ?_;(try simp only[Act.put,pz]))
 (refine rgy (i:=27) (some 49) ?_;(try simp only[Act.put,pz]))
 (refine rgy (i:=28) (some 50) ?_;(try simp only[Act.put,pz]))
 (refine rgy (i:=29) (some 51) ?_;(try simp only[Act.put,pz]))
 (refine rgy (i:=30) (some 52) ?_;(try simp only[Act.put,pz]))
 (refine rgy (i:=31) (some 53) ?_;(try simp only[Act.put,pz]))
 (refine rgy (i:=32) (some 54) ?_;(try simp only[Act.put,pz]))
 (refine rgy (i:=33) (some 55) ?_;(try simp only[Act.put,pz]))
 (refine rgy (i:=34) (some 56) ?_;(try simp only[Act.put,pz]))
 (refine rgy (i:=35) (some 57) ?_;(try simp only[Act.put,pz]))
 (refine rgy (i:=36) (some 58) ?_;(try simp only[Act.put,pz]))
 (refine rgy (i:=37) (some 59) ?_;(try simp only[Act.put,pz]))
 (refine rgy (i:=38) (some 60) ?_;(try simp only[Act.put,pz]))
 (refine rgy (i:=39) (some 61) ?_;(try simp only[Act.put,pz]))
 (refine rgy (i:=40) (some 62) ?_;(try simp only[Act.put,pz]))
 (refine rgy (i:=41) (some 63) ?_;(try simp only[Act.put,pz]))
 (refine rgy (i:=42) (some 64) ?_;(try simp only[Act.put,pz]))
 refine rgb (i:=43) (by kernel_rfl) rfl (fun K hK=>?_)
 go_simp
 have HZ:=(F0.start HS2.out t1 s1.2 (#[.int .i64 0,.int .i64 0,.int .i64 0,.int .i64 0,.int .i64 0,.int .i64 0,.int .i64 0,.int .i64 0,.int .i64 0,.int .i64 0,.int .i64 0,.int .i64 0,.int .i64 0,.int .i64 0,.bool false,.int .i64 0,.string ⟨#[]⟩,.string ⟨#[]⟩,.int .i64 0,.int .i64 0,.bool false]) 206 24 rfl).below (Below.drew (Below.refl _ _))
 have BZ:Below (w2.alloc (.cells #[.string t1,.int .i64 s1.2] 206)).heap.size (w2.alloc (.cells #[.string t1,.int .i64 s1.2] 206)) ((w2.alloc (.cells #[.string t1,.int .i64 s1.2] 206)).alloc (.cells (#[.int .i64 0,.int .i64 0,.int .i64 0,.int .i64 0,.int .i64 0,.int .i64 0,.int .i64 0,.int .i64 0,.int .i64 0,.int .i64 0,.int .i64 0,.int .i64 0,.int .i64 0,.int .i64 0,.bool false,.int .i64 0,.string ⟨#[]⟩,.string ⟨#[]⟩,.int .i64 0,.int .i64 0,.bool false]) 24)).drew:=Below.drew ((Below.refl _ _).alloc (Nat.le_refl _) _)
 refine hK.out _ _ (S14.of BZ G1) (fun hHeld=>?_)
 (clear hK K;(try simp only[Act.put,pz]))
 generalize hW:World.drew (World.alloc (World.alloc w2 _) _)=W3 at HZ BZ hHeld ⊢
 clear hW
 have hD21:allOne (#[.int .i64 a0,.int .i64 a1,.int .i64 a2,.int .i64 a3,.int .i64 a4,.int .i64 a5,.int .i64 a6,.int .i64 a7,.int .i64 a8,.int .i64 a9,.int .i64 a10,.int .i64 a11,.int .i64 a12,.int .i64 a13,.bool false,.int .i64 0,.string ⟨#[]⟩,.string ⟨#[]⟩,.int .i64 0,.int .i64 0,.bool false]:Array Value).toList=true:=by simp [allOne_cons,allOne_nil,one_int,one_string,one_bool]
 have hH21:=HZ.hd
 have BZ2:Below (w2.alloc (.cells #[.string t1,.int .i64 s1.2] 206)).heap.size (w2.alloc (.cells #[.string t1,.int .i64 s1.2] 206)) (W3.setRow (w2.heap.size+1) (#[.int .i64 a0,.int .i64 a1,.int .i64 a2,.int .i64 a3,.int .i64 a4,.int .i64 a5,.int .i64 a6,.int .i64 a7,.int .i64 a8,.int .i64 a9,.int .i64 a10,.int .i64 a11,.int .i64 a12,.int .i64 a13,.bool false,.int .i64 0,.string ⟨#[]⟩,.string ⟨#[]⟩,.int .i64 0,.int .i64 0,.bool false])):=below_setRow BZ (by simp) _
 refine rg_t (i:=44) none (W3.setRow (w2.heap.size+1) (#[.int .i64 a0,.int .i64 a1,.int .i64 a2,.int .i64 a3,.int .i64 a4,.int .i64 a5,.int .i64 a6,.int .i64 a7,.int .i64 a8,.int .i64 a9,.int .i64 a10,.int .i64 a11,.int .i64 a12,.int .i64 a13,.bool false,.int .i64 0,.string ⟨#[]⟩,.string ⟨#[]⟩,.int .i64 0,.int .i64 0,.bool false])) rfl rfl (by kernel_rfl) (by kernel_rfl) (stDatR _ _ _ (.tmp 8) (.tmp 64) _ _ _ _ rfl hH21 rfl rfl hD21) (S14.of BZ2 G1) ?_
 (try simp only[Act.put,List.setIfInBounds_toArray,List.set_cons_zero,List.set_cons_succ])
 refine wpAnyH_done (by kernel_rfl) ?_ _
 have HG:=Lib.hid (HZ.setD (#[.int .i64 a0,.int .i64 a1,.int .i64 a2,.int .i64 a3,.int .i64 a4,.int .i64 a5,.int .i64 a6,.int .i64 a7,.int .i64 a8,.int .i64 a9,.int .i64 a10,.int .i64 a11,.int .i64 a12,.int .i64 a13,.bool false,.int .i64 0,.string ⟨#[]⟩,.string ⟨#[]⟩,.int .i64 0,.int .i64 0,.bool false]) rfl)
 clear hHeld HZ BZ BZ2 hD21 hH21 S4 G0 G1 BB HS2 hvb
 generalize hW:World.setRow _ _ _=W4 at HG ⊢
 clear hW
 generalize hB:w2.heap.size=b at HG far ⊢
 clear hB
 generalize hD:(#[.int .i64 a0,.int .i64 a1,.int .i64 a2,.int .i64 a3,.int .i64 a4,.int .i64 a5,.int .i64 a6,.int .i64 a7,.int .i64 a8,.int .i64 a9,.int .i64 a10,.int .i64 a11,.int .i64 a12,.int .i64 a13,.bool false,.int .i64 0,.string ⟨#[]⟩,.string ⟨#[]⟩,.int .i64 0,.int .i64 0,.bool false]:Array Value)=D0 at HG
 have zD0:D0.size=21:=by rw[<-hD];rfl
 have HD0:=Lib.hid hD
 clear hD
 generalize hC:zlit 0 nm=C0 at HG
 have zC0:C0.size=33:=by rw[<-hC];rfl
 have HC0:=Lib.hid hC
 clear hC
 have x1:t1.size<=10000:=by rw[<-Ds.bl_length,HT1.out];omega
 have hr:=fun W=>ry_bool t1 s1.2 W x1
 rw[show (Ds.bl t1,s1.2)=s1 by rw[HT1.out],hp2] at hr
 simp only at hr
 have HR:=Lib.hid hr
 clear hr
 have rb:=HG.out.rb
 obtain⟨y1,hy1⟩:∃ y,D0[14]?=some y:=⟨_,Array.getElem?_eq_getElem (by omega)⟩
 go_upto_region 6 with (go_at_call 285;(with_reducible refine (HR.out _).mono ?_);rintro _ w4 ⟨t2,rfl,ht,hb⟩;have S2:=HG.out.below hb;have HS2:=Lib.hid S2;have HT2:=Lib.hid ht;have cc:=cell_row S2.rd 14 _ hy1;have ff:=S2.hd.2.2;have q1:=fun v=>heldSetCell S2.hb (b+1) 14 v;clear S2 hb ht)
 have S3:=HS2.out.step 14 (.bool v2) t2 s2.2
 generalize hW:World.setRow (World.setCell _ _ _) _ _=W4 at S3 ⊢
 clear hW cc ff q1 rb HR HG HS2
 have zD1:(D0.setIfInBounds 14 (.bool v2)).size=21:=by simpa using zD0
 generalize hC:D0.setIfInBounds 14 (.bool v2)=D1 at S3 zD1
 have HD1:=Lib.hid hC
 have HG:=Lib.hid S3
 clear hC S3
 have x2:t2.size<=10000:=by rw[<-Ds.bl_length,HT2.out];omega
 have hr:=fun W=>rread t2 s2.2 W x2
 rw[show (Ds.bl t2,s2.2)=s2 by rw[HT2.out],hp3] at hr
 simp only at hr
 have HR:=Lib.hid hr
 clear hr
 have rb:=HG.out.rb
 obtain⟨y2,hy2⟩:∃ y,D1[15]?=some y:=⟨_,Array.getElem?_eq_getElem (by omega)⟩
 go_upto_region 7 with (go_at_call 286;(with_reducible refine (HR.out _).mono ?_);rintro _ w5 ⟨t3,rfl,ht,hb⟩;have S2:=HG.out.below hb;have HS2:=Lib.hid S2;have HT3:=Lib.hid ht;have cc:=cell_row S2.rd 15 _ hy2;have ff:=S2.hd.2.2;have q1:=fun v=>heldSetCell S2.hb (b+1) 15 v;clear S2 hb ht)
 have S3:=HS2.out.step 15 (.int .i64 v3) t3 s3.2
 generalize hW:World.setRow (World.setCell _ _ _) _ _=W5 at S3 ⊢
 clear hW cc ff q1 rb HR HG HS2
 have zD2:(D1.setIfInBounds 15 (.int .i64 v3)).size=21:=by simpa using zD1
 generalize hC:D1.setIfInBounds 15 (.int .i64 v3)=D2 at S3 zD2
 have HD2:=Lib.hid hC
 have HG:=Lib.hid S3
 clear hC S3
 have x3:t3.size<=10000:=by rw[<-Ds.bl_length,HT3.out];omega
 have hr:=fun W=>ry_text t3 s3.2 8 W x3 (by decide)
 rw[show (Ds.bl t3,s3.2)=s3 by rw[HT3.out],hp4] at hr
 simp only[show (((8:Nat):Int))=(8:Int) from rfl] at hr
 have HR:=Lib.hid hr
 clear hr
 have rb:=HG.out.rb
 obtain⟨y3,hy3⟩:∃ y,D2[16]?=some y:=⟨_,Array.getElem?_eq_getElem (by omega)⟩
 go_upto_region 8 with (go_at_call 159;(with_reducible refine (HR.out _).mono ?_);rintro _ w6 ⟨u4,t4,rfl,hu,ht,hb⟩;have S2:=HG.out.below hb;have HS2:=Lib.hid S2;have HT4:=Lib.hid ht;have HU4:=Lib.hid hu;have cc:=cell_row S2.rd 16 _ hy3;have ff:=S2.hd.2.2;have q1:=fun v=>heldSetCell S2.hb (b+1) 16 v;clear S2 hb ht hu)
 have S3:=HS2.out.step 16 (.string u4) t4 s4.2
 generalize hW:World.setRow (World.setCell _ _ _) _ _=W6 at S3 ⊢
 clear hW cc ff q1 rb HR HG HS2
 have zD3:(D2.setIfInBounds 16 (.string u4)).size=21:=by simpa using zD2
 generalize hC:D2.setIfInBounds 16 (.string u4)=D3 at S3 zD3
 have HD3:=Lib.hid hC
 have HG:=Lib.hid S3
 clear hC S3
 have x4:t4.size<=10000:=by rw[<-Ds.bl_length,HT4.out];omega
 have hr:=fun W=>ry_text t4 s4.2 8 W x4 (by decide)
 rw[show (Ds.bl t4,s4.2)=s4 by rw[HT4.out],hp5] at hr
 simp only[show (((8:Nat):Int))=(8:Int) from rfl] at hr
 have HR:=Lib.hid hr
 clear hr
 have rb:=HG.out.rb
 obtain⟨y4,hy4⟩:∃ y,D3[17]?=some y:=⟨_,Array.getElem?_eq_getElem (by omega)⟩
 go_upto_region 9 with (go_at_call 159;(with_reducible refine (HR.out _).mono ?_);rintro _ w7 ⟨u5,t5,rfl,hu,ht,hb⟩;have S2:=HG.out.below hb;have HS2:=Lib.hid S2;have HT5:=Lib.hid ht;have HU5:=Lib.hid hu;have cc:=cell_row S2.rd 17 _ hy4;have ff:=S2.hd.2.2;have q1:=fun v=>heldSetCell S2.hb (b+1) 17 v;clear S2 hb ht hu)
 have S3:=HS2.out.step 17 (.string u5) t5 s5.2
 generalize hW:World.setRow (World.setCell _ _ _) _ _=W7 at S3 ⊢
 clear hW cc ff q1 rb HR HG HS2
 have zD4:(D3.setIfInBounds 17 (.string u5)).size=21:=by simpa using zD3
 generalize hC:D3.setIfInBounds 17 (.string u5)=D4 at S3 zD4
 have HD4:=Lib.hid hC
 have HG:=Lib.hid S3
 clear hC S3
 have x5:t5.size<=10000:=by rw[<-Ds.bl_length,HT5.out];omega
 have hr:=fun W=>rread t5 s5.2 W x5
 rw[show (Ds.bl t5,s5.2)=s5 by rw[HT5.out],hp6] at hr
 simp only at hr
 have HR:=Lib.hid hr
 clear hr
 have rb:=HG.out.rb
 obtain⟨y5,hy5⟩:∃ y,D4[18]?=some y:=⟨_,Array.getElem?_eq_getElem (by omega)⟩
 go_upto_region 10 with (go_at_call 286;(with_reducible refine (HR.out _).mono ?_);rintro _ w8 ⟨t6,rfl,ht,hb⟩;have S2:=HG.out.below hb;have HS2:=Lib.hid S2;have HT6:=Lib.hid ht;have cc:=cell_row S2.rd 18 _ hy5;have ff:=S2.hd.2.2;have q1:=fun v=>heldSetCell S2.hb (b+1) 18 v;clear S2 hb ht)
 have S3:=HS2.out.step 18 (.int .i64 v6) t6 s6.2
 generalize hW:World.setRow (World.setCell _ _ _) _ _=W8 at S3 ⊢
 clear hW cc ff q1 rb HR HG HS2
 have zD5:(D4.setIfInBounds 18 (.int .i64 v6)).size=21:=by simpa using zD4
 generalize hC:D4.setIfInBounds 18 (.int .i64 v6)=D5 at S3 zD5
 have HD5:=Lib.hid hC
 have HG:=Lib.hid S3
 clear hC S3
 have x6:t6.size<=10000:=by rw[<-Ds.bl_length,HT6.out];omega
 have hr:=fun W=>rread t6 s6.2 W x6
 rw[show (Ds.bl t6,s6.2)=s6 by rw[HT6.out],hp7] at hr
 simp only at hr
 have HR:=Lib.hid hr
 clear hr
 have rb:=HG.out.rb
 obtain⟨y6,hy6⟩:∃ y,D5[19]?=some y:=⟨_,Array.getElem?_eq_getElem (by omega)⟩
 go_upto_region 11 with (go_at_call 286;(with_reducible refine (HR.out _).mono ?_);rintro _ w9 ⟨t7,rfl,ht,hb⟩;have S2:=HG.out.below hb;have HS2:=Lib.hid S2;have HT7:=Lib.hid ht;have cc:=cell_row S2.rd 19 _ hy6;have ff:=S2.hd.2.2;have q1:=fun v=>heldSetCell S2.hb (b+1) 19 v;clear S2 hb ht)
 have S3:=HS2.out.step 19 (.int .i64 v7) t7 s7.2
 generalize hW:World.setRow (World.setCell _ _ _) _ _=W9 at S3 ⊢
 clear hW cc ff q1 rb HR HG HS2
 have zD6:(D5.setIfInBounds 19 (.int .i64 v7)).size=21:=by simpa using zD5
 generalize hC:D5.setIfInBounds 19 (.int .i64 v7)=D6 at S3 zD6
 have HD6:=Lib.hid hC
 have HG:=Lib.hid S3
 clear hC S3
 have x7:t7.size<=10000:=by rw[<-Ds.bl_length,HT7.out];omega
 have hr:=fun W=>ry_bool t7 s7.2 W x7
 rw[show (Ds.bl t7,s7.2)=s7 by rw[HT7.out],hp8] at hr
 simp only at hr
 have HR:=Lib.hid hr
 clear hr
 have rb:=HG.out.rb
 obtain⟨y7,hy7⟩:∃ y,D6[20]?=some y:=⟨_,Array.getElem?_eq_getElem (by omega)⟩
 go_upto_region 12 with (go_at_call 285;(with_reducible refine (HR.out _).mono ?_);rintro _ w10 ⟨t8,rfl,ht,hb⟩;have S2:=HG.out.below hb;have HS2:=Lib.hid S2;have HT8:=Lib.hid ht;have cc:=cell_row S2.rd 20 _ hy7;have ff:=S2.hd.2.2;have q1:=fun v=>heldSetCell S2.hb (b+1) 20 v;clear S2 hb ht)
 have S3:=HS2.out.step 20 (.bool v8) t8 s8.2
 generalize hW:World.setRow (World.setCell _ _ _) _ _=W10 at S3 ⊢
 clear hW cc ff q1 rb HR HG HS2
 have zD7:(D6.setIfInBounds 20 (.bool v8)).size=21:=by simpa using zD6
 generalize hC:D6.setIfInBounds 20 (.bool v8)=D7 at S3 zD7
 have HD7:=Lib.hid hC
 have HG:=Lib.hid S3
 clear hC S3
 have x8:t8.size<=10000:=by rw[<-Ds.bl_length,HT8.out];omega
 have hr:=fun W=>ry_count t8 s8.2 4 W x8 (by decide)
 rw[show (Ds.bl t8,s8.2)=s8 by rw[HT8.out],hp9] at hr
 simp only[show (((4:Nat):Int))=(4:Int) from rfl] at hr
 have HR:=Lib.hid hr
 clear hr
 have rb:=HG.out.rb
 go_upto_region 13 with (go_at_call 242;(with_reducible refine (HR.out _).mono ?_);rintro _ w11 ⟨t9,rfl,ht,hb⟩;have S2:=HG.out.below hb;have HS2:=Lib.hid S2;have HT9:=Lib.hid ht;have q1:=S2.hb;clear S2 hb ht)
 have S3:=HS2.out.read t9 s9.2
 generalize hW:World.setRow _ _ _=W11 at S3 ⊢
 clear hW q1 rb HR HG HS2
 have HG:=Lib.hid S3
 clear S3
 have hDD:D7=eF.dat:=by
  rw[<-HEF.out,<-HD7.out,<-HD6.out,<-HD5.out,<-HD4.out,<-HD3.out,<-HD2.out,<-HD1.out,<-HD0.out]
  rw[show u4=⟨v4.toArray⟩ from Ds.bl_inj (HU4.out.trans (Ds.bl_mk _).symm),show u5=⟨v5.toArray⟩ from Ds.bl_inj (HU5.out.trans (Ds.bl_mk _).symm)]
  unfold En.dat En.base En.zero
  simp only[List.setIfInBounds_toArray,List.set_cons_succ,List.set_cons_zero]
 rw[hDD] at HG
 clear hDD
 have rd:=HG.out.rd
 have h0:=HG.out.h0
 have zd:=dat_size eF
 have od:=dat_one eF
 go_upto_region 14 with fail
 have S3:=HG.out.desc zC0
 generalize hW:World.setRow _ _ _=W12 at S3 ⊢
 clear hW rd h0 zd od HG
 have zC1:(over C0 2 eF.dat.toList).size=33:=by rw[over_size];exact zC0
 generalize hC:over C0 2 eF.dat.toList=C1 at S3 zC1
 have HC1:=Lib.hid hC
 have HG:=Lib.hid S3
 clear hC S3
 have x9:t9.size<=10000:=by rw[<-Ds.bl_length,HT9.out];omega
 have hr:=fun W=>rlist t9 s9.2 v9 W x9 (by omega)
 rw[show (Ds.bl t9,s9.2)=s9 by rw[HT9.out],hp10] at hr
 simp only at hr
 have HR:=Lib.hid hr
 clear hr
 have rb:=HG.out.rb
 obtain⟨y8,hy8⟩:∃ y,C1[23]?=some y:=⟨_,Array.getElem?_eq_getElem (by omega)⟩
 go_upto_region 15 with (go_at_call 284;(with_reducible refine (HR.out _).mono ?_);rintro _ w13 ⟨al,t10,rfl,hI,ht,hb,ho⟩;have HI:=Lib.hid hI;have HO:=Lib.hid ho;obtain⟨aa,ac,rfl,-,-⟩:=hI;have S2:=HG.out.below hb;have HS2:=Lib.hid S2;have HT10:=Lib.hid ht;have cc:=cell_row S2.r0 23 _ hy8;have ff:=S2.h0.2.2;have q1:=fun v=>heldSetCell S2.hb w.heap.size 23 v;clear S2 hb ht ho)
 have zW:=HG.out.hd.lt
 have far2:=HG.out.far
 have I3:=is_step (g0:=w.heap.size) (b:=b) (i:=23) (v:=.slice aa ls.length ac) (c:=#[.string t10,.int .i64 s10.2]) HI.out _ HO.out (by omega) (by omega)
 have S3:=HS2.out.stepE 23 (.slice aa ls.length ac) t10 s10.2
 generalize hW:World.setRow (World.setCell _ _ _) _ _=W14 at S3 I3 ⊢
 clear hW cc ff q1 rb HR HG HS2
 have zC2:(C1.setIfInBounds 23 (.slice aa ls.length ac)).size=33:=by simpa using zC1
 generalize hC:C1.setIfInBounds 23 (.slice aa ls.length ac)=C2 at S3 zC2
 have HC2:=Lib.hid hC
 have HG:=Lib.hid S3
 have HI3:=Lib.hid I3
 clear hC S3 I3 HI
 generalize W12.heap.size=B12 at HO zW
 have x10:t10.size<=10000:=by rw[<-Ds.bl_length,HT10.out];omega
 have hr:=fun W=>rread t10 s10.2 W x10
 rw[show (Ds.bl t10,s10.2)=s10 by rw[HT10.out],hp11] at hr
 simp only at hr
 have HR:=Lib.hid hr
 clear hr
 have rb:=HG.out.rb
 obtain⟨y9,hy9⟩:∃ y,C2[24]?=some y:=⟨_,Array.getElem?_eq_getElem (by omega)⟩
 go_upto_region 16 with (go_at_call 286;(with_reducible refine (HR.out _).mono ?_);rintro _ w15 ⟨t11,rfl,ht,hb⟩;have S2:=HG.out.below hb;have HS2:=Lib.hid S2;have HT11:=Lib.hid ht;have HI4:=Lib.hid (HI3.out.below hb);have cc:=cell_row S2.r0 24 _ hy9;have ff:=S2.h0.2.2;have q1:=fun v=>heldSetCell S2.hb w.heap.size 24 v;clear S2 hb ht)
 have I5:=is_step (g0:=w.heap.size) (b:=b) (i:=24) (v:=.int .i64 v11) (c:=#[.string t11,.int .i64 s11.2]) HI4.out _ HO.out (by omega) (by omega)
 have S3:=HS2.out.stepE 24 (.int .i64 v11) t11 s11.2
 generalize hW:World.setRow (World.setCell _ _ _) _ _=W16 at S3 I5 ⊢
 clear hW cc ff q1 rb HR HG HS2
 have hF:C2.setIfInBounds 24 (.int .i64 v11)=eF.vals (.slice aa ls.length ac) (.slice none 0 0):=by
  rw[<-HC2.out,<-HC1.out,<-HC0.out]
  have e:=hF0 eF aa ls.length ac
  rw[<-HEF.out] at e ⊢
  exact e
 rw[hF] at S3
 have HG:=Lib.hid S3
 have HI5:=Lib.hid I5
 clear hF S3 I5 HI3 HI4
 have hone:=vals_one eF (.slice aa ls.length ac) (.slice none 0 0) rfl rfl
 have HP:=HG.out.pick
 go_region_held3 (fun w'=>row w' w.heap.size=eF.vals (.slice aa ls.length ac) (.slice none 0 0)∧row w' b=#[.string t11,.int .i64 s11.2]∧Held w' (w.heap.size+1+1) 33∧Held w' (w.heap.size+1+1+1) 2) (first | assumption | exact HP | exact fin0_keep far2 (by assumption) _ (Or.inl ⟨rfl,vals_size _ _ _⟩) | exact fin0_keep far2 (by assumption) _ (Or.inr ⟨rfl,rfl⟩)) (fail)
 have FD:=HG.out.below (Below.drew (Below.refl W16.heap.size W16))
 have TA:=Lib.hid (fin0_a FD)
 have TB:=Lib.hid (fin0_b FD)
 have IA:=Lib.hid (is_fin (c:=eF.vals (.slice aa ls.length ac) (.slice none 0 0)) (c':=#[.string t11,.int .i64 s11.2]) HI5.out _ HO.out (p:=w.heap.size+1+1) (q:=w.heap.size+1+1+1) (by omega) (by omega))
 have IB:=Lib.hid (is_fin (c':=eF.vals (.slice aa ls.length ac) (.slice none 0 0)) (c:=#[.string t11,.int .i64 s11.2]) HI5.out _ HO.out (p:=w.heap.size+1+1+1) (q:=w.heap.size+1+1) (by omega) (by omega))
 have HO2:Hid (∀ y,(Value.slice aa ls.length ac).ownBlock=some y->w.heap.size<=y):=Lib.hid (fun y hy=>by have:=HO.out y hy;omega)
 all_goals
  go_wp2_with fail
  first
  | (refine bodyPost_ret (res_row_row (n:=32) (n':=1) rfl Tryz.underlying28 rfl (by kernel_rfl) Tryz.underlying206 rfl (by kernel_rfl) _ _ (w.heap.size+1+1) (w.heap.size+1+1+1) rfl rfl (by rw[TA.out.1];exact vals_size _ _ _) (by rw[TA.out.2.1];rfl)) rfl ?_
     rw[TA.out.1,TA.out.2.1]
     exact⟨_,t11,rfl,IA.out,HT11.out,TA.out.2.2,HO2.out⟩)
  | (refine bodyPost_ret (res_row_row (n:=32) (n':=1) rfl Tryz.underlying28 rfl (by kernel_rfl) Tryz.underlying206 rfl (by kernel_rfl) _ _ (w.heap.size+1+1) (w.heap.size+1+1+1) rfl rfl (by rw[TB.out.1];exact vals_size _ _ _) (by rw[TB.out.2.1];rfl)) rfl ?_
     rw[TB.out.1,TB.out.2.1]
     exact⟨_,t11,rfl,IB.out,HT11.out,TB.out.2.2,HO2.out⟩)
end
end Go.Proofs.YtnojclchnhmggaaGreatDoor
