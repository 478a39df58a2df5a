/- Contract of the reference of chapter 33: fields at a profile. Printed by wip/mkrg4.py. -/
import Derived.Test.YtpldecfgjpmmkaaGreatDoorRf
import Derived.Test.YtpldecfgjpmmkaaGreatDoorAcA
namespace Go.Proofs.YtpldecfgjpmmkaaGreatDoor
open Go.RowKit
set_option maxHeartbeats 8000000
set_option maxRecDepth 8000
set_option linter.unusedSimpArgs false
theorem bel_al (w:World) (o:Obj):Below w.heap.size w (w.alloc o):=(Below.refl _ _).alloc (Nat.le_refl _) o
theorem FW.read {w w2:World} {cs:Array Value} {t:ByteArray} {x:Nat} (h:FW w w2 cs t x) (t':ByteArray) (x':Nat):FW w (w2.setRow (w.heap.size+1) #[.string t',.int .i64 x']) cs t' x' :=
 ⟨by rw[row_set_ne _ _ _ _ (by omega)];exact h.r0,row_setRow h.h1 _,h.h0.set _ (fun e=>absurd e (by omega)),h.h1.set _ (fun _=>rfl),h.h2.set _ (fun e=>absurd e (by omega)),h.h3.set _ (fun e=>absurd e (by omega)),below_setRow h.bel (by omega) _⟩
theorem FW.blocks {w w2 w5:World} {cs:Array Value} {t:ByteArray} {x:Nat} (h:FW w w2 cs t x) (hk:∀ j,j<w.heap.size+1+1+1+1→w5.heap[j]?=w2.heap[j]?) (hb:Below w.heap.size w w5):FW w w5 cs t x :=
 ⟨by unfold row;rw[hk _ (by omega)];exact h.r0,by unfold row;rw[hk _ (by omega)];exact h.r1,h.h0.of_block (hk _ (by omega)),h.h1.of_block (hk _ (by omega)),h.h2.of_block (hk _ (by omega)),h.h3.of_block (hk _ (by omega)),hb⟩
theorem FW.setE {w w2:World} {cs:Array Value} {t:ByteArray} {x:Nat} (h:FW w w2 cs t x) (i:Nat) (v:Value):FW w (w2.setCell ⟨w.heap.size,i,none⟩ v) (cs.setIfInBounds i v) t x :=
 ⟨by rw[row_setCell_eq h.h0,h.r0],by rw[row_setCell_ne _ _ _ _ _ (by omega)];exact h.r1,heldSetCell h.h0 _ _ _,heldSetCell h.h1 _ _ _,heldSetCell h.h2 _ _ _,heldSetCell h.h3 _ _ _,Below.setCell h.bel (Nat.le_refl _) _⟩
structure F4 (w wr:World) (g:Nat) (cs:Array Value) (d0 d1 d2:Value) (gr:Value) (k:Nat) (xs:List Value) (t:ByteArray) (x:Nat):Prop where
 f:FW w wr cs t x
 rg:row wr g=#[d0,d1,d2]
 hg:Held wr g 3
 far:w.heap.size+1+1+1<g
 own:wr.ownsRow (w.heap.size+1+1+1+1) 87 3 gr k xs
 lt:∀ y,gr.ownBlock=some y→y<g
theorem F4.below {w wr w2:World} {g:Nat} {cs:Array Value} {d0 d1 d2 gr:Value} {k:Nat} {xs:List Value} {t:ByteArray} {x:Nat} (h:F4 w wr g cs d0 d1 d2 gr k xs t x) (hb:Below wr.heap.size wr w2):F4 w w2 g cs d0 d1 d2 gr k xs t x :=
 ⟨h.f.below hb,row_below hb h.rg (Nat.zero_lt_succ 2),h.hg.below hb,h.far,own_keep h.own (fun y hy=>hb.block y (own_base h.own y hy).2),h.lt⟩
theorem F4.start {w wr:World} {cs:Array Value} {gr:Value} {k:Nat} {xs:List Value} {t:ByteArray} {x:Nat} (h:FW w wr cs t x) (own:wr.ownsRow (w.heap.size+1+1+1+1) 87 3 gr k xs) (d0 d1 d2:Value) (T:TypeId):F4 w (wr.alloc (.cells #[d0,d1,d2] T)) wr.heap.size cs d0 d1 d2 gr k xs t x:=by
 have bb:Below wr.heap.size wr (wr.alloc (.cells #[d0,d1,d2] T)):=(Below.refl _ _).alloc (Nat.le_refl _) _
 exact⟨h.below bb,row_new wr _ T (0,0),Held.new wr _ T 3 rfl (by decide),h.h3.lt,own_keep own (fun y hy=>bb.block y (own_base own y hy).2),fun y hy=>(own_base own y hy).2⟩
theorem F4.step {w w2:World} {g:Nat} {cs:Array Value} {d0 d1 d2 e0 e1 e2 gr:Value} {k:Nat} {xs:List Value} {t:ByteArray} {x:Nat} (h:F4 w w2 g cs d0 d1 d2 gr k xs t x) (i:Nat) (v:Value) (t':ByteArray) (x':Nat) (he:(#[d0,d1,d2]:Array Value).setIfInBounds i v=#[e0,e1,e2]):F4 w ((w2.setCell ⟨g,i,none⟩ v).setRow (w.heap.size+1) #[.string t',.int .i64 x']) g cs e0 e1 e2 gr k xs t' x':=by
 have k1:=h.far
 have hF:FW w (w2.setCell ⟨g,i,none⟩ v) cs t x :=
  ⟨by rw[row_setCell_ne _ _ _ _ _ (by omega)];exact h.f.r0,by rw[row_setCell_ne _ _ _ _ _ (by omega)];exact h.f.r1,heldSetCell h.f.h0 _ _ _,heldSetCell h.f.h1 _ _ _,heldSetCell h.f.h2 _ _ _,heldSetCell h.f.h3 _ _ _,Below.setCell h.f.bel (by show w.heap.size≤g;omega) _⟩
 refine⟨hF.read t' x',?_,(heldSetCell h.hg _ _ _).set _ (fun e=>absurd e (by omega)),k1,own_keep h.own (fun y hy=>?_),h.lt⟩
 · rw[row_set_ne _ _ _ _ (by omega),row_setCell_eq h.hg,h.rg,he]
 · have q1:=(own_base h.own y hy).1
   have q2:=h.lt y hy
   rw[setRow_block _ _ _ _ (by omega),setCell_other (a:=⟨g,i,none⟩) (by show y≠g;omega)]
theorem F4.done {w w2 w5:World} {g:Nat} {e:En} {al d0 d1 d2 gr gr':Value} {k:Nat} {xs news:List Value} {t:ByteArray} {x:Nat} {o:Obj} (h:F4 w w2 g (e.vals al gr) d0 d1 d2 gr k xs t x)
  (hown:w5.ownsRow (w.heap.size+1+1+1+1) 87 3 gr' (k+1) (xs++news)) (hg:(w2.alloc o).grownBy w5 gr.ownBlock):FW w (w5.setCell ⟨w.heap.size,32,none⟩ gr') (e.vals al gr') t x∧(w5.setCell ⟨w.heap.size,32,none⟩ gr').ownsRow (w.heap.size+1+1+1+1) 87 3 gr' (k+1) (xs++news):=by
 have bb:Below w2.heap.size w2 (w2.alloc o):=(Below.refl _ _).alloc (Nat.le_refl _) _
 have z3:=h.f.h3.lt
 have f1:=h.f.below bb
 have hne:∀ j,j<w.heap.size+1+1+1+1→some j≠gr.ownBlock:=fun j hj e=>by have:=(own_base h.own j e.symm).1;omega
 have f2:FW w w5 (e.vals al gr) t x:=f1.blocks (fun j hj=>hg.block j (by simp;omega) (hne j hj)) (f1.bel.grown hg (by simp;omega) (fun y hy=>by have:=(own_base h.own y hy).1;omega))
 have f3:=f2.setE 32 gr'
 rw[set_32] at f3
 refine⟨f3,own_keep hown (fun y hy=>setCell_other (a:=⟨w.heap.size,32,none⟩) (by have:=(own_base hown y hy).1;show y≠w.heap.size;omega))⟩
theorem cs_gr1 (W:World) (x:Gr) (t:TypeId) (k:Nat) (hk:k=W.heap.size):CS (W.alloc (.cells #[.string x.1,.bool x.2.1,.int .i64 x.2.2] t)) 3 (.slice (some ⟨k,0,none⟩) 1 1) 1 (gv [x]):=by
 subst hk
 refine⟨_,_,rfl,rfl,fun _=>⟨_,rfl,fun j u hu=>?_⟩⟩
 rw[Addr.add_lit,Nat.zero_add,cell_of_row _ W.heap.size j _ t (0,0) (heap_alloc_new W _)]
 have:gv [x]=(#[Value.string x.1,Value.bool x.2.1,Value.int .i64 x.2.2]:Array Value).toList:=rfl
 rw[this] at hu
 simpa using hu
theorem rGr_parts (s:List UInt8 × Nat) (a:List UInt8) (s1:List UInt8 × Nat) (b:Bool) (s2:List UInt8 × Nat) (n:Int) (s3:List UInt8 × Nat) (h1:Rd.txt 8 s=(a,s1)) (h2:Rd.boo s1=(b,s2)) (h3:rN s2=(n,s3)):rGr s=((⟨a.toArray⟩,b,n),s3):=by
 unfold rGr;simp only[h1,h2,h3]
attribute [local go_sem ↓] ldEnt stEnt stEntRow ldRd stRd
attribute [local go_sem] Held_drew isHead_mk headOf_mk cellsOfV_mk isAggV_mk row_drew row_drewN vals_size allOne_nil allOne_cons one_int one_bool one_string one_pointer one_slice
theorem rfields4 (nm l:ByteArray) (w:World) (hl:l.size≤1000) :
  Calls Tryz.prog 168 #[.agg (zlit 4 nm),.agg #[.string l,.int .i64 0]] w fun r w'=>∃ (gr:Value) (t:ByteArray),r=.returned (.tuple #[.agg ((rrP (En.base 4 nm) (Ds.bl l,0)).1.vals (.slice none 0 0) gr),.agg #[.string t,.int .i64 (rrP (En.base 4 nm) (Ds.bl l,0)).2.2.2]])∧GS w' gr (rrP (En.base 4 nm) (Ds.bl l,0)).2.1∧Ds.bl t=(rrP (En.base 4 nm) (Ds.bl l,0)).2.2.1∧Below w.heap.size w w'∧(∀ y,gr.ownBlock=some y→w.heap.size≤y):=by
 obtain⟨s0,hs0⟩:∃ s0:List UInt8 × Nat,s0=(Ds.bl l,0):=⟨_,rfl⟩
 have m0:s0.1.length≤1000:=by rw[hs0];simp only[Ds.bl_length];exact hl
 obtain⟨v1,s1,hp1⟩:∃ (v:Int) (s:List UInt8 × Nat),rN s0=(v,s):=⟨_,_,rfl⟩
 have m1:s1.1.length≤1000:=by have:=rN_len s0;rw[hp1] at this;simp only at this;omega
 obtain⟨v2,s2,hp2⟩:∃ (v:List UInt8) (s:List UInt8 × Nat),Rd.txt 8 s1=(v,s):=⟨_,_,rfl⟩
 have m2:s2.1.length≤1000:=by have:=(Rd.txt_len 8 s1).1;rw[hp2] at this;simp only at this;omega
 obtain⟨v3,s3,hp3⟩:∃ (v:Nat) (s:List UInt8 × Nat),Rd.cnt 8 s2=(v,s):=⟨_,_,rfl⟩
 have m3:s3.1.length≤1000:=by have:=Rd.cnt_len 8 s2;rw[hp3] at this;simp only at this;omega
 have hc8:v3≤8:=by have:=Rd.cnt_le 8 s2;rw[hp3] at this;exact this
 obtain⟨eF,hEF⟩:∃ eF:En,({ En.base 4 nm with lev:=v1,owner:=⟨v2.toArray⟩ }:En)=eF:=⟨_,rfl⟩
 have hrr:rrP (En.base 4 nm) (Ds.bl l,0)=(eF,(rGs s3 v3).1,(rGs s3 v3).2):=by
  rw[← hs0,← hEF]
  unfold rrP
  simp only[hp1,hp2,hp3]
 have HEF:=Lib.hid hEF
 rw[hrr]
 clear hrr hEF
 have hS:=FW.start w (zlit 4 nm) (zlit 0 ⟨#[]⟩) l s0.2 28 195 28 195 rfl rfl
 have e0:s0.2=0:=by rw[hs0]
 have ht0:Ds.bl l=s0.1:=by rw[hs0]
 rw[e0] at hS
 have HE0:=Lib.hid e0
 have HT0:=Lib.hid ht0
 clear e0 ht0 hs0 hl
 unfold zlit at hS
 simp only[show (((0:Nat):Int))=(0:Int) from rfl] at hS
 have HS:=Lib.hid hS
 clear hS
 unfold zlit
 go_enter Tryz.func168,Tryz.ntmps168
 go_upto_region 1 with fail
 generalize hW:((((w.alloc _).alloc _).alloc _).alloc _)=W0 at HS ⊢
 clear hW
 have HS:Hid (FW w W0 (zlit 4 nm) l 0):=HS
 have r0:=HS.out.r0
 have n0:=cell_row r0 0 (.int .i64 4) rfl
 go_upto_region 29 with fail
 clear r0 n0
 generalize hC0:zlit 4 nm=C0 at HS
 have HC0:=Lib.hid hC0
 have z0:C0.size=33:=by rw[← hC0];rfl
 have x0:l.size≤10000:=by rw[← Ds.bl_length,HT0.out];omega
 clear hC0
 have hr:=fun W=>rread l s0.2 W x0
 rw[show (Ds.bl l,s0.2)=s0 by rw[HT0.out],hp1] at hr
 simp only at hr
 rw[HE0.out] at hr
 simp only[show (((0:Nat):Int))=(0:Int) from rfl] at hr
 have HR:=Lib.hid hr
 clear hr
 have r1:=HS.out.r1
 simp only[show (((0:Nat):Int))=(0:Int) from rfl] at r1
 obtain⟨y0,hy0⟩:∃ y,C0[31]?=some y:=⟨_,Array.getElem?_eq_getElem (by omega)⟩
 go_upto_region 30 with (go_at_call 196;(with_reducible refine (HR.out _).mono ?_);rintro _ w2 ⟨t1,rfl,ht,hb⟩;have S2:=HS.out.below hb;have HS2:=Lib.hid S2;have HT1:=Lib.hid ht;have cc:=cell_row S2.r0 31 _ hy0;have ff:=S2.h0.2.2;have q1:=fun v=>heldSetCell S2.h1 w.heap.size 31 v;clear S2 hb ht)
 have S3:=HS2.out.step 31 (.int .i64 v1) t1 s1.2
 generalize hW:World.setRow (World.setCell _ _ _) _ _=W1 at S3 ⊢
 clear hW cc ff q1 r1 HR HS HS2
 have z1:(C0.setIfInBounds 31 (.int .i64 v1)).size=33:=by simpa using z0
 generalize hC:C0.setIfInBounds 31 (.int .i64 v1)=C1 at S3 z1
 have HC1:=Lib.hid hC
 have HS:=Lib.hid S3
 have x1:t1.size≤10000:=by rw[← Ds.bl_length,HT1.out];omega
 clear hC S3
 have hr:=fun W=>ry_text t1 s1.2 8 W x1 (by decide)
 rw[show (Ds.bl t1,s1.2)=s1 by rw[HT1.out],hp2] at hr
 simp only[show (((8:Nat):Int))=(8:Int) from rfl] at hr
 have HR:=Lib.hid hr
 clear hr
 have r1:=HS.out.r1
 obtain⟨y1,hy1⟩:∃ y,C1[28]?=some y:=⟨_,Array.getElem?_eq_getElem (by omega)⟩
 go_upto_region 31 with (go_at_call 197;(with_reducible refine (HR.out _).mono ?_);rintro _ w3 ⟨u2,t2,rfl,hu,ht,hb⟩;have S2:=HS.out.below hb;have HS2:=Lib.hid S2;have HT2:=Lib.hid ht;have HU2:=Lib.hid hu;have cc:=cell_row S2.r0 28 _ hy1;have ff:=S2.h0.2.2;have q1:=fun v=>heldSetCell S2.h1 w.heap.size 28 v;clear S2 hb ht hu)
 have S3:=HS2.out.step 28 (.string u2) t2 s2.2
 generalize hW:World.setRow (World.setCell _ _ _) _ _=W2 at S3 ⊢
 clear hW cc ff q1 r1 HR HS HS2
 have z2:(C1.setIfInBounds 28 (.string u2)).size=33:=by simpa using z1
 generalize hC:C1.setIfInBounds 28 (.string u2)=C2 at S3 z2
 have HC2:=Lib.hid hC
 have HS:=Lib.hid S3
 have x2:t2.size≤10000:=by rw[← Ds.bl_length,HT2.out];omega
 clear hC S3
 have hF:C2=eF.vals (.slice none 0 0) (.slice none 0 0):=by
  rw[← HEF.out,← HC2.out,← HC1.out,← HC0.out]
  rw[show u2=⟨v2.toArray⟩ from Ds.bl_inj (HU2.out.trans (Ds.bl_mk _).symm)]
  unfold zlit En.vals En.base En.zero
  simp only[List.setIfInBounds_toArray,List.set_cons_succ,List.set_cons_zero]
 rw[hF] at HS
 clear hF
 have hr:=fun W=>ry_count t2 s2.2 8 W x2 (by decide)
 rw[show (Ds.bl t2,s2.2)=s2 by rw[HT2.out],hp3] at hr
 simp only[show (((8:Nat):Int))=(8:Int) from rfl] at hr
 have HR:=Lib.hid hr
 clear hr
 have r1:=HS.out.r1
 go_upto_region 32 with (go_at_call 198;(with_reducible refine (HR.out _).mono ?_);rintro _ w4 ⟨t3,rfl,ht,hb⟩;have S2:=HS.out.below hb;have HS2:=Lib.hid S2;have HT3:=Lib.hid ht;have q1:=S2.h1;clear S2 hb ht)
 have S3:=HS2.out.read t3 s3.2
 generalize hW:World.setRow _ _ _=W3 at S3 ⊢
 clear hW r1 q1 HR HS HS2
 have HS:=Lib.hid S3
 clear S3 hp1 hp2 hp3 m0 m1 m2 x0 x1 x2 z0 z1 z2 hy0 hy1
 go_wp2_with fail
 go_loopw [11] (fun i wr=>∃ (k:Nat) (t:ByteArray) (gr:Value),k≤v3∧i=.int .i64 k∧FW w wr (eF.vals (.slice none 0 0) gr) t (rGs s3 k).2.2∧Ds.bl t=(rGs s3 k).2.1∧wr.ownsRow (w.heap.size+1+1+1+1) 87 3 gr k (gv (rGs s3 k).1)) (fun i _=>v3 - (intOf i).toNat)
 case atStart=>exact⟨0,t3,.slice none 0 0,Nat.zero_le _,rfl,HS.out,HT3.out,World.ownsRow_nil _ _ _ 3⟩
 case round =>
  clear HS HT3
  obtain⟨k,t,gr,hk,rfl,hS,ht,hown⟩:=hrel
  have HS:=Lib.hid hS
  have HT:=Lib.hid ht
  have HO:=Lib.hid hown
  have mk:(rGs s3 k).2.1.length≤1000:=Nat.le_trans (rGs_rest s3 k) m3
  clear hS ht hown
  by_cases hlt:k<v3
  · obtain⟨S,hSk⟩:∃ S,(rGs s3 k).2=S:=⟨_,rfl⟩
    rw[hSk] at HS HT mk
    obtain⟨gn,g1,hg1⟩:∃ (v:List UInt8) (s:List UInt8 × Nat),Rd.txt 8 S=(v,s):=⟨_,_,rfl⟩
    have n1:g1.1.length≤1000:=by have:=(Rd.txt_len 8 S).1;rw[hg1] at this;simp only at this;omega
    obtain⟨gb,g2,hg2⟩:∃ (v:Bool) (s:List UInt8 × Nat),Rd.boo g1=(v,s):=⟨_,_,rfl⟩
    have n2:g2.1.length≤1000:=by have:=Rd.boo_len g1;rw[hg2] at this;simp only at this;omega
    obtain⟨gl,g3,hg3⟩:∃ (v:Int) (s:List UInt8 × Nat),rN g2=(v,s):=⟨_,_,rfl⟩
    have HNX:Hid (rGs s3 (k+1)=((rGs s3 k).1++[((⟨gn.toArray⟩:ByteArray),gb,gl)],g3)):=Lib.hid (by rw[rGs,hSk,rGr_parts S gn g1 gb g2 gl g3 hg1 hg2 hg3])
    obtain⟨ga,gc,rfl⟩:=owns_sl HO.out
    go_upto_region 36 with fail
    have HG:=Lib.hid (F4.start HS.out HO.out (.string ⟨#[]⟩) (.bool false) (.int .i64 0) 87)
    generalize hW:World.alloc _ _=V0 at HG ⊢
    clear hW
    generalize wr.heap.size=b at HG ⊢
    have far:=HG.out.far
    have xa:t.size≤10000:=by rw[← Ds.bl_length,HT.out];omega
    have hr:=fun W=>ry_text t S.2 8 W xa (by decide)
    rw[show (Ds.bl t,S.2)=S by rw[HT.out],hg1] at hr
    simp only[show (((8:Nat):Int))=(8:Int) from rfl] at hr
    have HR:=Lib.hid hr
    clear hr
    have r1:=HG.out.f.r1
    go_upto_region 37 with (go_at_call 197;(with_reducible refine (HR.out _).mono ?_);rintro _ v0 ⟨ua,ta,rfl,hu,ht,hb⟩;have S2:=HG.out.below hb;have HS2:=Lib.hid S2;have HTa:=Lib.hid ht;have HU:=Lib.hid hu;have cc:=cell_row S2.rg 0 _ rfl;have ff:=S2.hg.2.2;have q1:=fun v=>heldSetCell S2.f.h1 b 0 v;clear S2 hb ht hu)
    have S3:=HS2.out.step (e0:=(.string ua)) (e1:=(.bool false)) (e2:=(.int .i64 0)) 0 (.string ua) ta g1.2 rfl
    generalize hW:World.setRow (World.setCell _ _ _) _ _=V1 at S3 ⊢
    clear hW cc ff q1 r1 HR HG HS2
    have HG:=Lib.hid S3
    clear S3
    have xb:ta.size≤10000:=by rw[← Ds.bl_length,HTa.out];omega
    have hr:=fun W=>ry_bool ta g1.2 W xb
    rw[show (Ds.bl ta,g1.2)=g1 by rw[HTa.out],hg2] at hr
    simp only at hr
    have HR:=Lib.hid hr
    clear hr
    have r1:=HG.out.f.r1
    go_upto_region 38 with (go_at_call 195;(with_reducible refine (HR.out _).mono ?_);rintro _ v1 ⟨tb,rfl,ht,hb⟩;have S2:=HG.out.below hb;have HS2:=Lib.hid S2;have HTb:=Lib.hid ht;have cc:=cell_row S2.rg 1 _ rfl;have ff:=S2.hg.2.2;have q1:=fun v=>heldSetCell S2.f.h1 b 1 v;clear S2 hb ht)
    have S3:=HS2.out.step (e0:=(.string ua)) (e1:=(.bool gb)) (e2:=(.int .i64 0)) 1 (.bool gb) tb g2.2 rfl
    generalize hW:World.setRow (World.setCell _ _ _) _ _=V2 at S3 ⊢
    clear hW cc ff q1 r1 HR HG HS2
    have HG:=Lib.hid S3
    clear S3
    have xc:tb.size≤10000:=by rw[← Ds.bl_length,HTb.out];omega
    have hr:=fun W=>rread tb g2.2 W xc
    rw[show (Ds.bl tb,g2.2)=g2 by rw[HTb.out],hg3] at hr
    simp only at hr
    have HR:=Lib.hid hr
    clear hr
    have r1:=HG.out.f.r1
    go_upto_region 39 with (go_at_call 196;(with_reducible refine (HR.out _).mono ?_);rintro _ v2 ⟨tc,rfl,ht,hb⟩;have S2:=HG.out.below hb;have HS2:=Lib.hid S2;have HTc:=Lib.hid ht;have cc:=cell_row S2.rg 2 _ rfl;have ff:=S2.hg.2.2;have q1:=fun v=>heldSetCell S2.f.h1 b 2 v;clear S2 hb ht)
    have S3:=HS2.out.step (e0:=(.string ua)) (e1:=(.bool gb)) (e2:=(.int .i64 gl)) 2 (.int .i64 gl) tc g3.2 rfl
    generalize hW:World.setRow (World.setCell _ _ _) _ _=V3 at S3 ⊢
    clear hW cc ff q1 r1 HR HG HS2
    have HG:=Lib.hid S3
    clear S3
    have c0:=cell_row HG.out.rg 0 _ rfl
    have c1:=cell_row HG.out.rg 1 _ rfl
    have c2:=cell_row HG.out.rg 2 _ rfl
    have c32:=cell_row HG.out.f.r0 32 _ (vals_32 _ _ _)
    have ze:=HG.out.f.h3.lt
    have f32:∀ (w5:World),(V3.alloc (.cells #[.string ua,.bool gb,.int .i64 gl] 87)).grownBy w5 (Value.slice ga k gc).ownBlock→w5.cell? ⟨w.heap.size,32,none⟩=some (.slice ga k gc)∧∀ o,w5.frozen? ⟨w.heap.size,o,none⟩=false:=fun w5 hg=>by
     have hne:some w.heap.size≠(Value.slice ga k gc).ownBlock:=fun e=>by have:=(own_base HG.out.own _ e.symm).1;omega
     have hk:=hg.block w.heap.size (by simp;omega) hne
     rw[al_lt _ _ _ (by omega)] at hk
     exact⟨(World.cell?_of_block (w:=V3) (w':=w5) (a:=⟨w.heap.size,32,none⟩) hk).trans c32,(HG.out.f.h0.of_block hk).2.2⟩
    have HF32:=Lib.hid f32
    clear f32
    go_wp2_with (at_builtin;refine wp_appX _ rfl (.tmp 219) (.tmp 221) 26 87 _ _ 3 32 rfl Tryz.underlying26 gr_i gr_i0 gr_i1 gr_i2 rfl (by decide) (w.heap.size+1+1+1+1) (.slice ga k gc) (.slice (some ⟨V3.heap.size,0,none⟩) 1 1) k 1 (gv (rGs s3 k).1) (gv [(ua,gb,gl)]) rfl (own_keep HG.out.own (fun x hx=>(bel_al V3 _).block x (own_base HG.out.own x hx).2)) rfl (cs_gr1 V3 (ua,gb,gl) _ _ rfl) (gv_one _) (by unfold maxLen;omega) (by omega) (by simp;omega) ?_;intro a5 c5 w5 hown hg hat;have ND:=Lib.hid (HG.out.done hown hg);have nn:=HF32.out _ hg;have nc:=nn.1;have nf:=nn.2;clear nn hown hg hat)
    go_roundw
    case rel=>exact⟨k+1,tc,.slice a5 (k+1) c5,by omega,by go_num,by rw[HNX.out];exact ND.out.1,by rw[HNX.out];exact HTc.out,by rw[HNX.out,gv_app,show (⟨gn.toArray⟩:ByteArray)=ua from (Ds.bl_inj (HU.out.trans (Ds.bl_mk _).symm)).symm];exact ND.out.2⟩
    case measure=>simp [intOf];omega
  · obtain rfl:k=v3:=by omega
    obtain⟨ga,gc,rfl⟩:=owns_sl HO.out
    have hone:=vals_one eF (.slice none 0 0) (.slice ga k gc) rfl rfl
    have HP:=HS.out.pick
    go_upto_region 40 with fail
    go_region_held3 (fun w'=>row w' w.heap.size=eF.vals (.slice none 0 0) (.slice ga k gc)∧row w' (w.heap.size+1)=#[.string t,.int .i64 (rGs s3 k).2.2]∧Held w' (w.heap.size+1+1) 33∧Held w' (w.heap.size+1+1+1) 2) (first | assumption | exact HP | exact fin_keep (by assumption) _ (Or.inl ⟨rfl,vals_size _ _ _⟩) | exact fin_keep (by assumption) _ (Or.inr ⟨rfl,rfl⟩)) (fail)
    have FD:=HS.out.below (Below.drew (Below.refl wr.heap.size wr))
    have TA:=Lib.hid (fin_a FD)
    have TB:=Lib.hid (fin_b FD)
    have hb0:∀ y,(Value.slice ga k gc).ownBlock=some y→w.heap.size+1+1+1+1≤y:=fun y hy=>(own_base HO.out y hy).1
    have HB0:=Lib.hid hb0
    clear hb0
    all_goals
     go_wp2_with fail
     first
     | (refine bodyPost_ret (res_row_row (n:=32) (n':=1) rfl Tryz.underlying28 rfl (by kernel_rfl) Tryz.underlying195 rfl (by kernel_rfl) _ _ (w.heap.size+1+1) (w.heap.size+1+1+1) rfl rfl (by rw[TA.out.1];exact vals_size _ _ _) (by rw[TA.out.2.1];rfl)) rfl ?_
        rw[TA.out.1,TA.out.2.1]
        refine⟨_,t,rfl,?_,HT.out,TA.out.2.2,fun y hy=>by have:=HB0.out y hy;omega⟩)
     | (refine bodyPost_ret (res_row_row (n:=32) (n':=1) rfl Tryz.underlying28 rfl (by kernel_rfl) Tryz.underlying195 rfl (by kernel_rfl) _ _ (w.heap.size+1+1) (w.heap.size+1+1+1) rfl rfl (by rw[TB.out.1];exact vals_size _ _ _) (by rw[TB.out.2.1];rfl)) rfl ?_
        rw[TB.out.1,TB.out.2.1]
        refine⟨_,t,rfl,?_,HT.out,TB.out.2.2,fun y hy=>by have:=HB0.out y hy;omega⟩)
     refine gs_of_cells (by rw[rGs_len];omega) ?_
     rw[rGs_len]
     exact own_cells (own_keep HO.out (fun y hy=>by have:=HB0.out y hy;rw[setRow_block _ _ _ _ (by omega),setRow_block _ _ _ _ (by omega)];rfl))
end Go.Proofs.YtpldecfgjpmmkaaGreatDoor
