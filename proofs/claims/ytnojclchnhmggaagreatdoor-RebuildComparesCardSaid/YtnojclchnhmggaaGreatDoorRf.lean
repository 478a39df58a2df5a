/- Contracts of the reference of chapter 33: fields at kinds 1, 2, 3. -/
import Derived.Test.YtnojclchnhmggaaGreatDoorRy
import Derived.Test.YtnojclchnhmggaaGreatDoorAcA
import Derived.Test.YtnojclchnhmggaaGreatDoorGeA
import Derived.Test.YtnojclchnhmggaaGreatDoorSaL
namespace Go.Proofs.YtnojclchnhmggaaGreatDoor
open Go.RowKit
set_option maxRecDepth 8000
set_option maxHeartbeats 8000000
section
attribute [local go_sem ↓] ldRd stRd
attribute [local go_sem] Held_drew isHead_mk headOf_mk cellsOfV_mk isAggV_mk row_new row_new2 row_new2' row_drew row_drewN allOne_nil allOne_cons one_int one_bool one_string
theorem rread (b:ByteArray) (x:Nat) (w:World) (hs:b.size<=10000):Calls Tryz.prog 286 #[.agg #[.string b,.int .i64 x]] w fun r w'=>∃ t:ByteArray,r=.returned (.tuple #[.int .i64 (rN (Ds.bl b,x)).1,.agg #[.string t,.int .i64 (rN (Ds.bl b,x)).2.2]])∧Ds.bl t=(rN (Ds.bl b,x)).2.1∧Below w.heap.size w w':=by
 have H1:Held ((w.alloc (.cells #[.string b,.int .i64 x] 206)).alloc (.cells #[.string ⟨#[]⟩,.int .i64 0] 206)) (w.heap.size+1) 2:=by
  have:=Held.new (w.alloc (.cells #[.string b,.int .i64 x] 206)) #[.string ⟨#[]⟩,.int .i64 0] 206 2 rfl (by decide)
  simpa using this
 have H0:Held ((w.alloc (.cells #[.string b,.int .i64 x] 206)).alloc (.cells #[.string ⟨#[]⟩,.int .i64 0] 206)) w.heap.size 2:=(Held.new w #[.string b,.int .i64 x] 206 2 rfl (by decide)).below ((Below.refl _ _).alloc (Nat.le_refl _) _)
 have hn:=fun W=>ry_number b x W hs
 have hl:=Rd.num_lt (Ds.bl b,x)
 unfold rN rclip
 generalize Rd.num (Ds.bl b,x)=rr at hn hl ⊢
 obtain⟨v,l,e⟩:=rr
 simp only at hn hl ⊢
 have HN:=Lib.hid hn
 clear hn
 by_cases hv:1099511627776<v
 · rw[if_pos hv]
   have e1:decide ((1099511627776:Int)<(v:Int))=true:=by rw[decide_eq_true_eq];omega
   clear hl
   go_enter Tryz.func286,Tryz.ntmps286
   go_wp2_with (go_at_call 283;(with_reducible refine (HN.out _).mono ?_);rintro _ w1 ⟨t,rfl,ht,hb1⟩;have K0:=H0.below hb1;have K1:=H1.below hb1;have B1:=below2 hb1;have HT:=Lib.hid ht;have R0:=fun c=>row_setRow K0 c;have H3:=fun c=>K1.set (g':=w.heap.size) c (fun e=>absurd e (by omega));clear hb1 ht)
   go_region
   all_goals
    go_wp2_with fail
    refine bodyPost_ret (res_tmp_row (n:=1) rfl Tryz.underlying206 rfl (by kernel_rfl) _ _ (w.heap.size+1) rfl (by first | (rw[row_setRow (H3 _).drew];rfl) | (rw[row_setRow (H3 _)];rfl))) rfl ?_
    (first | rw[row_setRow (H3 _).drew] | rw[row_setRow (H3 _)])
    exact⟨t,rfl,HT.out,below_setRow (by first | exact below_setRow B1 (Nat.le_refl _) _ | exact Below.drew (below_setRow B1 (Nat.le_refl _) _)) (by omega) _⟩
 · rw[if_neg hv]
   have e1:decide ((1099511627776:Int)<(v:Int))=false:=by rw[decide_eq_false_iff_not];omega
   have hcv:IntKind.i64.wrap (v:Int)=(v:Int):=IntWalk.i64_in _ ⟨by omega,by omega⟩
   clear hl
   go_enter Tryz.func286,Tryz.ntmps286
   go_wp2_with (go_at_call 283;(with_reducible refine (HN.out _).mono ?_);rintro _ w1 ⟨t,rfl,ht,hb1⟩;have K0:=H0.below hb1;have K1:=H1.below hb1;have B1:=below2 hb1;have HT:=Lib.hid ht;have R0:=fun c=>row_setRow K0 c;have H3:=fun c=>K1.set (g':=w.heap.size) c (fun e=>absurd e (by omega));clear hb1 ht)
   go_region
   all_goals
    go_wp2_with fail
    refine bodyPost_ret (res_tmp_row (n:=1) rfl Tryz.underlying206 rfl (by kernel_rfl) _ _ (w.heap.size+1) rfl (by first | (rw[row_setRow (H3 _).drew];rfl) | (rw[row_setRow (H3 _)];rfl))) rfl ?_
    (first | rw[row_setRow (H3 _).drew] | rw[row_setRow (H3 _)])
    exact⟨t,rfl,HT.out,below_setRow (by first | exact below_setRow B1 (Nat.le_refl _) _ | exact Below.drew (below_setRow B1 (Nat.le_refl _) _)) (by omega) _⟩
theorem int_i:Tryz.prog.info? 3=some ((Tryz.prog.info? 3).getD default):=by kernel_rfl
theorem int_i0:((Tryz.prog.info? 3).getD default).zero=some (.int .i64 0):=by kernel_rfl
theorem int_i1:((Tryz.prog.info? 3).getD default).size=1:=by kernel_rfl
theorem int_i2:((Tryz.prog.info? 3).getD default).bytes=8:=by kernel_rfl
structure RLs (w wr:World) (s:List UInt8 × Nat) (k:Nat) (t:ByteArray) (out:Value):Prop where
 own:wr.ownsRow (w.heap.size+2) 3 1 out k (iv (rL s k).1)
 txt:Ds.bl t=(rL s k).2.1
 row0:row wr w.heap.size=#[.string t,.int .i64 (rL s k).2.2]
 h0:Held wr w.heap.size 2
 h1:Held wr (w.heap.size+1) 2
 bel:Below w.heap.size w wr
 sz:w.heap.size+2<=wr.heap.size
theorem RLs.start (w:World) (b:ByteArray) (x:Nat) (T1 T2:TypeId):RLs w (((w.alloc (.cells #[.string b,.int .i64 x] T1)).alloc (.cells #[.string ⟨#[]⟩,.int .i64 0] T2)).alloc (.cells #[] 3)) (Ds.bl b,x) 0 b (.slice (some ⟨w.heap.size+1+1,0,none⟩) 0 0):=by
 have b1:Below (w.alloc (.cells #[.string b,.int .i64 x] T1)).heap.size (w.alloc (.cells #[.string b,.int .i64 x] T1)) (((w.alloc (.cells #[.string b,.int .i64 x] T1)).alloc (.cells #[.string ⟨#[]⟩,.int .i64 0] T2)).alloc (.cells #[] 3)):=by exact belA
 have b2:Below ((w.alloc (.cells #[.string b,.int .i64 x] T1)).alloc (.cells #[.string ⟨#[]⟩,.int .i64 0] T2)).heap.size ((w.alloc (.cells #[.string b,.int .i64 x] T1)).alloc (.cells #[.string ⟨#[]⟩,.int .i64 0] T2)) (((w.alloc (.cells #[.string b,.int .i64 x] T1)).alloc (.cells #[.string ⟨#[]⟩,.int .i64 0] T2)).alloc (.cells #[] 3)):=by exact belA
 have q:=Held.new (w.alloc (.cells #[.string b,.int .i64 x] T1)) #[.string ⟨#[]⟩,.int .i64 0] T2 2 rfl (by decide)
 rw[show (w.alloc (.cells #[.string b,.int .i64 x] T1)).heap.size=w.heap.size+1 by simp] at q
 refine⟨?_,rfl,row_below b1 (row_new w _ _ _) (Nat.zero_lt_succ 1),(Held.new w _ T1 2 rfl (by decide)).below b1,q.below b2,by exact belA,by simp⟩
 exact⟨rfl,.inr ⟨w.heap.size+1+1,0,#[],rfl,Nat.le_refl _,by have:=heap_alloc_new ((w.alloc (.cells #[.string b,.int .i64 x] T1)).alloc (.cells #[.string ⟨#[]⟩,.int .i64 0] T2)) (.cells #[] 3);simpa using this,Nat.le_refl _,by unfold maxLen;omega,rfl,rfl⟩⟩
theorem al_lt (w:World) (o:Obj) (i:Nat) (h:i<w.heap.size):(w.alloc o).heap[i]?=w.heap[i]?:=((Below.refl w.heap.size w).alloc (Nat.le_refl _) o).block i h
theorem RLs.own_far {w wr:World} {s:List UInt8 × Nat} {k:Nat} {t:ByteArray} {out:Value} (h:RLs w wr s k t out):∀ y,out.ownBlock=some y->w.heap.size+2<=y∧y<wr.heap.size:=(NW.owns h.own).2.2
theorem RLs.own_mid {w wr w2:World} {s:List UInt8 × Nat} {k:Nat} {t:ByteArray} {out:Value} (h:RLs w wr s k t out) (hb:Below wr.heap.size wr w2) (c:Array Value) (o1 o2:Obj) :
  (((w2.alloc o1).setRow w.heap.size c).alloc o2).ownsRow (w.heap.size+2) 3 1 out k (iv (rL s k).1):=by
 refine owns_keep h.own fun x hx=>?_
 obtain⟨y1,y2⟩:=h.own_far x hx
 have z:=hb.size
 rw[al_lt _ _ _ (by simp;omega),setRow_block _ _ _ _ (by omega),al_lt _ _ _ (by omega)]
 exact hb.block x y2
theorem RLs.step {w wr w2 w':World} {s:List UInt8 × Nat} {k:Nat} {t t':ByteArray} {out:Value} {a':Option Addr} {c':Nat} {o1:Obj} {T1:TypeId} (h:RLs w wr s k t out) (hb:Below wr.heap.size wr w2) (ht:Ds.bl t'=(rN (rL s k).2).2.1)
  (hown:w'.ownsRow (w.heap.size+2) 3 1 (.slice a' (k+1) c') (k+1) (iv (rL s k).1++[.int .i64 (rN (rL s k).2).1]))
  (hg:(((w2.alloc o1).setRow w.heap.size #[.string t',.int .i64 (rN (rL s k).2).2.2]).alloc (.cells #[.int .i64 (rN (rL s k).2).1] T1)).grownBy w' out.ownBlock):RLs w w' s (k+1) t' (.slice a' (k+1) c'):=by
 have z:=hb.size
 have z2:=h.sz
 have hz:=hg.size
 simp at hz
 have b1:Below w2.heap.size w2 (w2.alloc o1):=(Below.refl _ _).alloc (Nat.le_refl _) _
 have k0:=(h.h0.below hb).below b1
 have k1:=(h.h1.below hb).below b1
 have b2:∀ x:World,Below x.heap.size x (x.alloc (.cells #[.int .i64 (rN (rL s k).2).1] T1)):=fun x=>(Below.refl _ _).alloc (Nat.le_refl _) _
 have hne:∀ j,j<w.heap.size+2->some j≠out.ownBlock:=fun j hj e=>by have:=(h.own_far j e.symm).1;omega
 have hlt:∀ j,j<w.heap.size+2->j<(((w2.alloc o1).setRow w.heap.size #[.string t',.int .i64 (rN (rL s k).2).2.2]).alloc (.cells #[.int .i64 (rN (rL s k).2).1] T1)).heap.size:=fun j hj=>by simp;omega
 have hkeep:=fun j (hj:j<w.heap.size+2)=>hg.block j (hlt j hj) (hne j hj)
 have hrow:row w' w.heap.size=#[.string t',.int .i64 (rN (rL s k).2).2.2]:=by
  unfold row
  rw[hkeep _ (by omega),al_lt _ _ _ (by simp;omega)]
  exact row_setRow k0 _
 have e1:rL s (k+1)=((rL s k).1++[(rN (rL s k).2).1],(rN (rL s k).2).2):=rfl
 refine⟨?_,by rw[e1];exact ht,by rw[e1];exact hrow,?_,?_,?_,by omega⟩
 · rw[e1];unfold iv;rw[List.map_append];exact hown
 · exact ((k0.set _ (fun _=>rfl)).below (b2 _)).of_block (hkeep _ (by omega))
 · exact ((k1.set _ (fun e=>absurd e (by omega))).below (b2 _)).of_block (hkeep _ (by omega))
 · have q:Below w.heap.size w (((w2.alloc o1).setRow w.heap.size #[.string t',.int .i64 (rN (rL s k).2).2.2]).alloc (.cells #[.int .i64 (rN (rL s k).2).1] T1)):=by
    refine Below.alloc (below_setRow (((h.bel.trans (hb.mono (by omega))).alloc (by omega) _)) (Nat.le_refl _) _) ?_ _
    simp;omega
   refine q.trans ⟨hg.os,hg.tape,hg.output,hg.size,fun i hi=>hg.block i (hlt i (by omega)) (hne i (by omega))⟩
theorem cs_oneZ (w:World) (n:Int) (t:TypeId) (k:Nat) (hk:k=w.heap.size):CS (w.alloc (.cells #[.int .i64 n] t)) 1 (.slice (some ⟨k,0,none⟩) 1 1) 1 [.int .i64 n]:=by
 subst hk
 refine⟨_,1,rfl,rfl,fun _=>⟨_,rfl,fun j u hu=>?_⟩⟩
 have:j=0:=by
  rcases j with _ | j
  · rfl
  · simp at hu
 subst this
 have e:u=.int .i64 n:=by simpa using hu.symm
 subst e
 rw[Addr.add_mid]
 exact (cell_of_row _ w.heap.size (0+0) _ t (0,0) (heap_alloc_new w _)).trans rfl
theorem owns_sl1 {w:World} {base e n:Nat} {v:Value} {xs:List Value} (h:w.ownsRow base e 1 v n xs):∃ a c,v=.slice a n c:=by
 rcases h.2 with ⟨rfl,rfl⟩ | ⟨g,cap,cur,rfl,_⟩
 · exact⟨none,0,rfl⟩
 · exact⟨_,cap,rfl⟩
theorem rlist (b:ByteArray) (x n:Nat) (w:World) (hs:b.size<=10000) (hn:n<=1000) :
  Calls Tryz.prog 284 #[.agg #[.string b,.int .i64 x],.int .i64 n] w fun r w'=>∃ (v:Value) (t:ByteArray),r=.returned (.tuple #[v,.agg #[.string t,.int .i64 (rL (Ds.bl b,x) n).2.2]])∧IS w' v (rL (Ds.bl b,x) n).1∧Ds.bl t=(rL (Ds.bl b,x) n).2.1∧Below w.heap.size w w'∧(∀ y,v.ownBlock=some y->w.heap.size<=y):=by
 have hst:=RLs.start w b x 206 206
 have HST:=Lib.hid hst
 have hrest:∀ k,(rL (Ds.bl b,x) k).2.1.length<=10000:=fun k=>Nat.le_trans (rL_rest (Ds.bl b,x) k) (by simp only[Ds.bl_length];exact hs)
 have HR:=Lib.hid hrest
 clear hst hrest hs
 generalize hs0:(Ds.bl b,x)=s at HST HR ⊢
 clear hs0
 go_enter Tryz.func284,Tryz.ntmps284
 go_wp2_with fail
 go_loopw [6,7,8,9] (fun out i _ _ wr=>∃ (k:Nat) (t:ByteArray),k<=n∧i=.int .i64 k∧RLs w wr s k t out) (fun _ i _ _ _=>n - (intOf i).toNat)
 case atStart=>exact⟨0,b,by omega,rfl,HST.out⟩
 case round =>
  clear HST
  obtain⟨k,t,hk,rfl,hS⟩:=hrel
  have HS:=Lib.hid hS
  have R0:=hS.row0
  have hts:t.size<=10000:=by rw[<-Ds.bl_length,hS.txt];exact HR.out k
  obtain⟨av,cv,rfl⟩:=owns_sl1 hS.own
  by_cases hlt:k<n
  · have HC:=Lib.hid (fun W=>rread t (rL s k).2.2 W hts)
    have he:(Ds.bl t,(rL s k).2.2)=(rL s k).2:=by rw[hS.txt]
    rw[he] at HC
    have z:=hS.sz
    clear hS he hts
    go_wp2_with (first
     | (go_at_call 286;(with_reducible refine (HC.out _).mono ?_);rintro _ w2 ⟨t',rfl,ht,hb⟩;have HB:=Lib.hid hb;have HT':=Lib.hid ht;have q0:=(HS.out.h0.below hb).below ((Below.refl _ _).alloc (Nat.le_refl _) (.cells #[.string t',.int .i64 (rN (rL s k).2).2.2] 206));have z2:=hb.size;clear hb ht)
     | (at_builtin;refine wp_appX _ rfl (.tmp 22) (.tmp 24) 25 3 _ _ 1 8 rfl Tryz.underlying25 int_i int_i0 int_i1 int_i2 rfl (by decide) (w.heap.size+2) (.slice av k cv) _ k 1 (iv (rL s k).1) _ rfl (HS.out.own_mid HB.out _ _ _) rfl (cs_oneZ _ _ _ _ (by simp)) (fun u hu=>by simp at hu;subst hu;rfl) (by unfold maxLen;omega) (by omega) (by simp;omega) ?_;intro a' c' w5 hown hg hat;have NX:=Lib.hid (HS.out.step HB.out HT'.out hown hg);clear hown hg hat))
    go_roundw
    case rel=>exact⟨k+1,t',by omega,by go_num,NX.out⟩
    case measure=>simp [intOf];omega
  · obtain rfl:k=n:=by omega
    have h1:=hS.h1
    have hl:(rL s k).1.length=k:=rL_len s k
    clear hS
    go_wp2_with fail
    go_region
    all_goals
     go_wp2_with fail
     refine bodyPost_ret (res_tmp_row (n:=1) rfl Tryz.underlying206 rfl (by kernel_rfl) _ _ (w.heap.size+1) rfl (by first | (rw[row_setRow h1.drew];rfl) | (rw[row_setRow h1];rfl))) rfl ?_
     (first | rw[row_setRow h1.drew] | rw[row_setRow h1])
     refine⟨_,t,rfl,?_,HS.out.txt,below_setRow (by first | exact HS.out.bel | exact Below.drew HS.out.bel) (by omega) _,fun y hy=>by have:=(HS.out.own_far y hy).1;omega⟩
     have hIS:IS wr (.slice av k cv) (rL s k).1:=(NW.owns HS.out.own).1.is (by omega)
     refine IS.keep hIS (w.heap.size+2) (fun y hy=>(HS.out.own_far y hy).1) (by simp) (fun j hj _=>?_)
     rw[setRow_block _ _ _ _ (by omega)]
     rfl
end
section
theorem heldSetCell {w:World} {g n:Nat} (h:Held w g n) (g' i:Nat) (v:Value):Held (w.setCell ⟨g',i,none⟩ v) g n:=by
 by_cases e:g'=g
 · subst e
   obtain⟨t,fr,hb⟩:=held_block h
   rw[setCell_eq_setRow w g' i _ t fr v hb]
   exact h.set _ (fun _=>by simpa using h.1)
 · exact h.of_block (setCell_other (a:=⟨g',i,none⟩) (fun q=>e q.symm))
theorem row_setCell_ne (w:World) (g g' i:Nat) (v:Value) (h:g≠g'):row (w.setCell ⟨g',i,none⟩ v) g=row w g:=by
 unfold row;rw[setCell_other (a:=⟨g',i,none⟩) h]
theorem row_setCell_eq {w:World} {g n:Nat} (h:Held w g n) (i:Nat) (v:Value):row (w.setCell ⟨g,i,none⟩ v) g=(row w g).setIfInBounds i v:=by
 obtain⟨t,fr,hb⟩:=held_block h
 rw[setCell_eq_setRow w g i _ t fr v hb]
 exact row_setRow h _
structure FW (w wr:World) (cs:Array Value) (t:ByteArray) (x:Nat):Prop where
 r0:row wr w.heap.size=cs
 r1:row wr (w.heap.size+1)=#[.string t,.int .i64 x]
 h0:Held wr w.heap.size 33
 h1:Held wr (w.heap.size+1) 2
 h2:Held wr (w.heap.size+1+1) 33
 h3:Held wr (w.heap.size+1+1+1) 2
 bel:Below w.heap.size w wr
theorem FW.start (w:World) (cs z:Array Value) (l:ByteArray) (x:Nat) (T1 T2 T3 T4:TypeId) (hc:cs.size=33) (hz:z.size=33):FW w ((((w.alloc (.cells cs T1)).alloc (.cells #[.string l,.int .i64 x] T2)).alloc (.cells z T3)).alloc (.cells #[.string ⟨#[]⟩,.int .i64 0] T4)) cs l x:=by
 have b:∀ (W:World) o,Below W.heap.size W (W.alloc o):=fun W o=>(Below.refl _ _).alloc (Nat.le_refl _) o
 have q0:=Held.new w cs T1 33 hc (by decide)
 have q1:=Held.new (w.alloc (.cells cs T1)) #[.string l,.int .i64 x] T2 2 rfl (by decide)
 have q2:=Held.new ((w.alloc (.cells cs T1)).alloc (.cells #[.string l,.int .i64 x] T2)) z T3 33 hz (by decide)
 have q3:=Held.new (((w.alloc (.cells cs T1)).alloc (.cells #[.string l,.int .i64 x] T2)).alloc (.cells z T3)) #[.string ⟨#[]⟩,.int .i64 0] T4 2 rfl (by decide)
 have r0:=row_new w cs T1 (0,0)
 have r1:=row_new (w.alloc (.cells cs T1)) #[.string l,.int .i64 x] T2 (0,0)
 have s1:(w.alloc (.cells cs T1)).heap.size=w.heap.size+1:=by simp
 have s2:((w.alloc (.cells cs T1)).alloc (.cells #[.string l,.int .i64 x] T2)).heap.size=w.heap.size+1+1:=by simp
 have s3:(((w.alloc (.cells cs T1)).alloc (.cells #[.string l,.int .i64 x] T2)).alloc (.cells z T3)).heap.size=w.heap.size+1+1+1:=by simp
 rw[s1] at q1 r1
 rw[s2] at q2
 rw[s3] at q3
 exact⟨row_below (b _ _) (row_below (b _ _) (row_below (b _ _) r0 (by omega)) (by omega)) (by omega),row_below (b _ _) (row_below (b _ _) r1 (Nat.zero_lt_succ 1)) (Nat.zero_lt_succ 1),((q0.below (b _ _)).below (b _ _)).below (b _ _),(q1.below (b _ _)).below (b _ _),q2.below (b _ _),q3,by exact belA⟩
theorem FW.below {w wr w2:World} {cs:Array Value} {t:ByteArray} {x:Nat} (h:FW w wr cs t x) (hb:Below wr.heap.size wr w2):FW w w2 cs t x :=
 ⟨row_below hb h.r0 (by rw[<-h.r0,h.h0.1];decide),row_below hb h.r1 (Nat.zero_lt_succ 1),h.h0.below hb,h.h1.below hb,h.h2.below hb,h.h3.below hb,bt h.bel hb⟩
theorem FW.step {w w2:World} {cs:Array Value} {t:ByteArray} {x:Nat} (h:FW w w2 cs t x) (i:Nat) (v:Value) (t':ByteArray) (x':Nat):FW w ((w2.setCell ⟨w.heap.size,i,none⟩ v).setRow (w.heap.size+1) #[.string t',.int .i64 x']) (cs.setIfInBounds i v) t' x':=by
 have k1:=heldSetCell h.h1 w.heap.size i v
 refine⟨?_,row_setRow k1 _,(heldSetCell h.h0 _ _ _).set _ (fun e=>absurd e (by omega)),k1.set _ (fun _=>rfl),(heldSetCell h.h2 _ _ _).set _ (fun e=>absurd e (by omega)),(heldSetCell h.h3 _ _ _).set _ (fun e=>absurd e (by omega)),below_setRow (Below.setCell h.bel (Nat.le_refl _) _) (by omega) _⟩
 rw[row_set_ne _ _ _ _ (by omega),row_setCell_eq h.h0,h.r0]
attribute [local go_sem ↓] ldEnt stEnt stEntRow ldRd stRd
attribute [local go_sem] Held_drew isHead_mk headOf_mk cellsOfV_mk isAggV_mk row_drew row_drewN vals_size allOne_nil allOne_cons one_int one_bool one_string one_pointer one_slice
theorem FW.pick {w wr:World} {cs:Array Value} {t:ByteArray} {x:Nat} (h:FW w wr cs t x):row wr w.heap.size=cs∧row wr (w.heap.size+1)=#[.string t,.int .i64 x]∧Held wr (w.heap.size+1+1) 33∧Held wr (w.heap.size+1+1+1) 2:=⟨h.r0,h.r1,h.h2,h.h3⟩
theorem fin_keep {W:World} {g k:Nat} {cs rd:Array Value} (h:row W g=cs∧row W (g+1)=rd∧Held W (g+1+1) 33∧Held W (g+1+1+1) 2) (c:Array Value) (hk:k=g+1+1∧c.size=33∨k=g+1+1+1∧c.size=2) :
  row (W.setRow k c) g=cs∧row (W.setRow k c) (g+1)=rd∧Held (W.setRow k c) (g+1+1) 33∧Held (W.setRow k c) (g+1+1+1) 2:=by
 refine⟨by rw[row_set_ne _ _ _ _ (by omega)];exact h.1,by rw[row_set_ne _ _ _ _ (by omega)];exact h.2.1,h.2.2.1.set c (fun e=>?_),h.2.2.2.set c (fun e=>?_)⟩
 · rcases hk with ⟨_,hc⟩ | ⟨h1,_⟩
   · exact hc
   · omega
 · rcases hk with ⟨h1,_⟩ | ⟨_,hc⟩
   · omega
   · exact hc
theorem fin_a {w wr:World} {cs:Array Value} {t:ByteArray} {x:Nat} (h:FW w wr cs t x) :
  row ((wr.setRow (w.heap.size+1+1) cs).setRow (w.heap.size+1+1+1) #[.string t,.int .i64 x]) (w.heap.size+1+1)=cs∧row ((wr.setRow (w.heap.size+1+1) cs).setRow (w.heap.size+1+1+1) #[.string t,.int .i64 x]) (w.heap.size+1+1+1)=#[.string t,.int .i64 x]∧Below w.heap.size w ((wr.setRow (w.heap.size+1+1) cs).setRow (w.heap.size+1+1+1) #[.string t,.int .i64 x]):=by
 have k:=h.h3.set (g':=w.heap.size+1+1) cs (fun e=>absurd e (by omega))
 exact⟨by rw[row_set_ne _ _ _ _ (by omega),row_setRow h.h2],row_setRow k _,below_setRow (below_setRow h.bel (by omega) _) (by omega) _⟩
theorem fin_b {w wr:World} {cs:Array Value} {t:ByteArray} {x:Nat} (h:FW w wr cs t x) :
  row ((wr.setRow (w.heap.size+1+1+1) #[.string t,.int .i64 x]).setRow (w.heap.size+1+1) cs) (w.heap.size+1+1)=cs∧row ((wr.setRow (w.heap.size+1+1+1) #[.string t,.int .i64 x]).setRow (w.heap.size+1+1) cs) (w.heap.size+1+1+1)=#[.string t,.int .i64 x]∧Below w.heap.size w ((wr.setRow (w.heap.size+1+1+1) #[.string t,.int .i64 x]).setRow (w.heap.size+1+1) cs):=by
 have k:=h.h2.set (g':=w.heap.size+1+1+1) #[.string t,.int .i64 x] (fun e=>absurd e (by omega))
 exact⟨row_setRow k _,by rw[row_set_ne _ _ _ _ (by omega),row_setRow h.h3],below_setRow (below_setRow h.bel (by omega) _) (by omega) _⟩
-- PRINTED BY mkrf.py
theorem rfields2 (nm l:ByteArray) (w:World) (hl:l.size<=1000) :
  Calls Tryz.prog 244 #[.agg (zlit 2 nm),.agg #[.string l,.int .i64 0]] w fun r w'=>∃ (t:ByteArray),r=.returned (.tuple #[.agg ((rrA (En.base 2 nm) (Ds.bl l,0)).1.vals (.slice none 0 0) (.slice none 0 0)),.agg #[.string t,.int .i64 (rrA (En.base 2 nm) (Ds.bl l,0)).2.2]])∧Ds.bl t=(rrA (En.base 2 nm) (Ds.bl l,0)).2.1∧Below w.heap.size w w':=by
 obtain⟨s0,hs0⟩:∃ s0:List UInt8 × Nat,s0=(Ds.bl l,0):=⟨_,rfl⟩
 have m0:s0.1.length<=1000:=by rw[hs0];simp only[Ds.bl_length];exact hl
 obtain⟨v1,s1,hp1⟩:∃ (v:List UInt8) (s:List UInt8 × Nat),Rd.txt 31 s0=(v,s):=⟨_,_,rfl⟩
 have m1:s1.1.length<=1000:=by have:=(Rd.txt_len 31 s0).1;rw[hp1] at this;simp only at this;omega
 obtain⟨eF,hEF⟩:∃ eF:En,({ En.base 2 nm with target:=⟨v1.toArray⟩ }:En)=eF:=⟨_,rfl⟩
 have hrr:rrA (En.base 2 nm) (Ds.bl l,0)=(eF,s1):=by
  rw[<-hs0,<-hEF]
  unfold rrA
  simp only[hp1]
 have HEF:=Lib.hid hEF
 rw[hrr]
 clear hrr hEF
 have hS:=FW.start w (zlit 2 nm) (zlit 0 ⟨#[]⟩) l s0.2 28 206 28 206 rfl rfl
 have e0:s0.2=0:=by rw[hs0]
 have ht0:Ds.bl l=s0.1:=by rw[hs0]
 rw[e0] at hS
 have HE0:=Lib.hid e0
 have HT0:=Lib.hid ht0
 clear e0 ht0 hs0 hl
 unfold zlit at hS
 simp only[show (((0:Nat):Int))=(0:Int) from rfl] at hS
 have HS:=Lib.hid hS
 clear hS
 unfold zlit
 go_enter Tryz.func244,Tryz.ntmps244
 go_upto_region 1 with fail
 generalize hW:((((w.alloc _).alloc _).alloc _).alloc _)=W0 at HS ⊢
 clear hW
 have HS:Hid (FW w W0 (zlit 2 nm) l 0):=HS
 have r0:=HS.out.r0
 have n0:=cell_row r0 0 (.int .i64 2) rfl
 go_upto_region 24 with fail
 clear r0 n0
 generalize hC0:zlit 2 nm=C0 at HS
 have HC0:=Lib.hid hC0
 have z0:C0.size=33:=by rw[<-hC0];rfl
 have x0:l.size<=10000:=by rw[<-Ds.bl_length,HT0.out];omega
 clear hC0
 have hr:=fun W=>ry_text l s0.2 31 W x0 (by decide)
 rw[show (Ds.bl l,s0.2)=s0 by rw[HT0.out],hp1] at hr
 simp only[show (((31:Nat):Int))=(31:Int) from rfl] at hr
 rw[HE0.out] at hr
 simp only[show (((0:Nat):Int))=(0:Int) from rfl] at hr
 have HR:=Lib.hid hr
 clear hr
 have r1:=HS.out.r1
 simp only[show (((0:Nat):Int))=(0:Int) from rfl] at r1
 obtain⟨y0,hy0⟩:∃ y,C0[29]?=some y:=⟨_,Array.getElem?_eq_getElem (by omega)⟩
 go_upto_region 25 with (go_at_call 159;(with_reducible refine (HR.out _).mono ?_);rintro _ w2 ⟨u1,t1,rfl,hu,ht,hb⟩;have S2:=HS.out.below hb;have HS2:=Lib.hid S2;have HT1:=Lib.hid ht;have HU1:=Lib.hid hu;have cc:=cell_row S2.r0 29 _ hy0;have ff:=S2.h0.2.2;have q1:=fun v=>heldSetCell S2.h1 w.heap.size 29 v;clear S2 hb ht hu)
 have S3:=HS2.out.step 29 (.string u1) t1 s1.2
 generalize hW:World.setRow (World.setCell _ _ _) _ _=W1 at S3 ⊢
 clear hW cc ff q1 r1 HR HS HS2
 have z1:(C0.setIfInBounds 29 (.string u1)).size=33:=by simpa using z0
 generalize hC:C0.setIfInBounds 29 (.string u1)=C1 at S3 z1
 have HC1:=Lib.hid hC
 have HS:=Lib.hid S3
 have x1:t1.size<=10000:=by rw[<-Ds.bl_length,HT1.out];omega
 clear hC S3
 have hF:C1=eF.vals (.slice none 0 0) (.slice none 0 0):=by
  rw[<-HEF.out,<-HC1.out,<-HC0.out]
  rw[show u1=⟨v1.toArray⟩ from Ds.bl_inj (HU1.out.trans (Ds.bl_mk _).symm)]
  unfold zlit En.vals En.base En.zero
  simp only[List.setIfInBounds_toArray,List.set_cons_succ,List.set_cons_zero]
 rw[hF] at HS
 have hone:=vals_one eF (.slice none 0 0) (.slice none 0 0) rfl rfl
 clear hF
 have HP:=HS.out.pick
 go_region_held3 (fun w'=>row w' w.heap.size=eF.vals (.slice none 0 0) (.slice none 0 0)∧row w' (w.heap.size+1)=#[.string t1,.int .i64 s1.2]∧Held w' (w.heap.size+1+1) 33∧Held w' (w.heap.size+1+1+1) 2) (first | assumption | exact HP | exact fin_keep (by assumption) _ (Or.inl ⟨rfl,vals_size _ _ _⟩) | exact fin_keep (by assumption) _ (Or.inr ⟨rfl,rfl⟩)) (fail)
 have FD:=HS.out.below (Below.drew (Below.refl W1.heap.size W1))
 have TA:=Lib.hid (fin_a FD)
 have TB:=Lib.hid (fin_b FD)
 all_goals
  go_wp2_with fail
  first
  | (refine bodyPost_ret (res_row_row (n:=32) (n':=1) rfl Tryz.underlying28 rfl (by kernel_rfl) Tryz.underlying206 rfl (by kernel_rfl) _ _ (w.heap.size+1+1) (w.heap.size+1+1+1) rfl rfl (by rw[TA.out.1];exact vals_size _ _ _) (by rw[TA.out.2.1];rfl)) rfl ?_
     rw[TA.out.1,TA.out.2.1]
     exact⟨_,rfl,HT1.out,TA.out.2.2⟩)
  | (refine bodyPost_ret (res_row_row (n:=32) (n':=1) rfl Tryz.underlying28 rfl (by kernel_rfl) Tryz.underlying206 rfl (by kernel_rfl) _ _ (w.heap.size+1+1) (w.heap.size+1+1+1) rfl rfl (by rw[TB.out.1];exact vals_size _ _ _) (by rw[TB.out.2.1];rfl)) rfl ?_
     rw[TB.out.1,TB.out.2.1]
     exact⟨_,rfl,HT1.out,TB.out.2.2⟩)
theorem rfields3 (nm l:ByteArray) (w:World) (hl:l.size<=1000) :
  Calls Tryz.prog 244 #[.agg (zlit 3 nm),.agg #[.string l,.int .i64 0]] w fun r w'=>∃ (t:ByteArray),r=.returned (.tuple #[.agg ((rrC (En.base 3 nm) (Ds.bl l,0)).1.vals (.slice none 0 0) (.slice none 0 0)),.agg #[.string t,.int .i64 (rrC (En.base 3 nm) (Ds.bl l,0)).2.2]])∧Ds.bl t=(rrC (En.base 3 nm) (Ds.bl l,0)).2.1∧Below w.heap.size w w':=by
 obtain⟨s0,hs0⟩:∃ s0:List UInt8 × Nat,s0=(Ds.bl l,0):=⟨_,rfl⟩
 have m0:s0.1.length<=1000:=by rw[hs0];simp only[Ds.bl_length];exact hl
 obtain⟨v1,s1,hp1⟩:∃ (v:Int) (s:List UInt8 × Nat),rN s0=(v,s):=⟨_,_,rfl⟩
 have m1:s1.1.length<=1000:=by have:=rN_len s0;rw[hp1] at this;simp only at this;omega
 obtain⟨eF,hEF⟩:∃ eF:En,({ En.base 3 nm with cat:=v1 }:En)=eF:=⟨_,rfl⟩
 have hrr:rrC (En.base 3 nm) (Ds.bl l,0)=(eF,s1):=by
  rw[<-hs0,<-hEF]
  unfold rrC
  simp only[hp1]
 have HEF:=Lib.hid hEF
 rw[hrr]
 clear hrr hEF
 have hS:=FW.start w (zlit 3 nm) (zlit 0 ⟨#[]⟩) l s0.2 28 206 28 206 rfl rfl
 have e0:s0.2=0:=by rw[hs0]
 have ht0:Ds.bl l=s0.1:=by rw[hs0]
 rw[e0] at hS
 have HE0:=Lib.hid e0
 have HT0:=Lib.hid ht0
 clear e0 ht0 hs0 hl
 unfold zlit at hS
 simp only[show (((0:Nat):Int))=(0:Int) from rfl] at hS
 have HS:=Lib.hid hS
 clear hS
 unfold zlit
 go_enter Tryz.func244,Tryz.ntmps244
 go_upto_region 1 with fail
 generalize hW:((((w.alloc _).alloc _).alloc _).alloc _)=W0 at HS ⊢
 clear hW
 have HS:Hid (FW w W0 (zlit 3 nm) l 0):=HS
 have r0:=HS.out.r0
 have n0:=cell_row r0 0 (.int .i64 3) rfl
 go_upto_region 27 with fail
 clear r0 n0
 generalize hC0:zlit 3 nm=C0 at HS
 have HC0:=Lib.hid hC0
 have z0:C0.size=33:=by rw[<-hC0];rfl
 have x0:l.size<=10000:=by rw[<-Ds.bl_length,HT0.out];omega
 clear hC0
 have hr:=fun W=>rread l s0.2 W x0
 rw[show (Ds.bl l,s0.2)=s0 by rw[HT0.out],hp1] at hr
 simp only at hr
 rw[HE0.out] at hr
 simp only[show (((0:Nat):Int))=(0:Int) from rfl] at hr
 have HR:=Lib.hid hr
 clear hr
 have r1:=HS.out.r1
 simp only[show (((0:Nat):Int))=(0:Int) from rfl] at r1
 obtain⟨y0,hy0⟩:∃ y,C0[30]?=some y:=⟨_,Array.getElem?_eq_getElem (by omega)⟩
 go_upto_region 28 with (go_at_call 286;(with_reducible refine (HR.out _).mono ?_);rintro _ w2 ⟨t1,rfl,ht,hb⟩;have S2:=HS.out.below hb;have HS2:=Lib.hid S2;have HT1:=Lib.hid ht;have cc:=cell_row S2.r0 30 _ hy0;have ff:=S2.h0.2.2;have q1:=fun v=>heldSetCell S2.h1 w.heap.size 30 v;clear S2 hb ht)
 have S3:=HS2.out.step 30 (.int .i64 v1) t1 s1.2
 generalize hW:World.setRow (World.setCell _ _ _) _ _=W1 at S3 ⊢
 clear hW cc ff q1 r1 HR HS HS2
 have z1:(C0.setIfInBounds 30 (.int .i64 v1)).size=33:=by simpa using z0
 generalize hC:C0.setIfInBounds 30 (.int .i64 v1)=C1 at S3 z1
 have HC1:=Lib.hid hC
 have HS:=Lib.hid S3
 have x1:t1.size<=10000:=by rw[<-Ds.bl_length,HT1.out];omega
 clear hC S3
 have hF:C1=eF.vals (.slice none 0 0) (.slice none 0 0):=by
  rw[<-HEF.out,<-HC1.out,<-HC0.out]
  unfold zlit En.vals En.base En.zero
  simp only[List.setIfInBounds_toArray,List.set_cons_succ,List.set_cons_zero]
 rw[hF] at HS
 have hone:=vals_one eF (.slice none 0 0) (.slice none 0 0) rfl rfl
 clear hF
 have HP:=HS.out.pick
 go_region_held3 (fun w'=>row w' w.heap.size=eF.vals (.slice none 0 0) (.slice none 0 0)∧row w' (w.heap.size+1)=#[.string t1,.int .i64 s1.2]∧Held w' (w.heap.size+1+1) 33∧Held w' (w.heap.size+1+1+1) 2) (first | assumption | exact HP | exact fin_keep (by assumption) _ (Or.inl ⟨rfl,vals_size _ _ _⟩) | exact fin_keep (by assumption) _ (Or.inr ⟨rfl,rfl⟩)) (fail)
 have FD:=HS.out.below (Below.drew (Below.refl W1.heap.size W1))
 have TA:=Lib.hid (fin_a FD)
 have TB:=Lib.hid (fin_b FD)
 all_goals
  go_wp2_with fail
  first
  | (refine bodyPost_ret (res_row_row (n:=32) (n':=1) rfl Tryz.underlying28 rfl (by kernel_rfl) Tryz.underlying206 rfl (by kernel_rfl) _ _ (w.heap.size+1+1) (w.heap.size+1+1+1) rfl rfl (by rw[TA.out.1];exact vals_size _ _ _) (by rw[TA.out.2.1];rfl)) rfl ?_
     rw[TA.out.1,TA.out.2.1]
     exact⟨_,rfl,HT1.out,TA.out.2.2⟩)
  | (refine bodyPost_ret (res_row_row (n:=32) (n':=1) rfl Tryz.underlying28 rfl (by kernel_rfl) Tryz.underlying206 rfl (by kernel_rfl) _ _ (w.heap.size+1+1) (w.heap.size+1+1+1) rfl rfl (by rw[TB.out.1];exact vals_size _ _ _) (by rw[TB.out.2.1];rfl)) rfl ?_
     rw[TB.out.1,TB.out.2.1]
     exact⟨_,rfl,HT1.out,TB.out.2.2⟩)
theorem rfields1 (nm l:ByteArray) (w:World) (hl:l.size<=1000) :
  Calls Tryz.prog 244 #[.agg (zlit 1 nm),.agg #[.string l,.int .i64 0]] w fun r w'=>∃ (t:ByteArray),r=.returned (.tuple #[.agg ((rrG (En.base 1 nm) (Ds.bl l,0)).1.vals (.slice none 0 0) (.slice none 0 0)),.agg #[.string t,.int .i64 (rrG (En.base 1 nm) (Ds.bl l,0)).2.2]])∧Ds.bl t=(rrG (En.base 1 nm) (Ds.bl l,0)).2.1∧Below w.heap.size w w':=by
 obtain⟨s0,hs0⟩:∃ s0:List UInt8 × Nat,s0=(Ds.bl l,0):=⟨_,rfl⟩
 have m0:s0.1.length<=1000:=by rw[hs0];simp only[Ds.bl_length];exact hl
 obtain⟨v1,s1,hp1⟩:∃ (v:Int) (s:List UInt8 × Nat),rN s0=(v,s):=⟨_,_,rfl⟩
 have m1:s1.1.length<=1000:=by have:=rN_len s0;rw[hp1] at this;simp only at this;omega
 obtain⟨v2,s2,hp2⟩:∃ (v:Int) (s:List UInt8 × Nat),rN s1=(v,s):=⟨_,_,rfl⟩
 have m2:s2.1.length<=1000:=by have:=rN_len s1;rw[hp2] at this;simp only at this;omega
 obtain⟨v3,s3,hp3⟩:∃ (v:Bool) (s:List UInt8 × Nat),Rd.boo s2=(v,s):=⟨_,_,rfl⟩
 have m3:s3.1.length<=1000:=by have:=Rd.boo_len s2;rw[hp3] at this;simp only at this;omega
 obtain⟨v4,s4,hp4⟩:∃ (v:List UInt8) (s:List UInt8 × Nat),Rd.txt 8 s3=(v,s):=⟨_,_,rfl⟩
 have m4:s4.1.length<=1000:=by have:=(Rd.txt_len 8 s3).1;rw[hp4] at this;simp only at this;omega
 obtain⟨eF,hEF⟩:∃ eF:En,({ En.base 1 nm with lim:=v1,last:=v2,em:=v3,owner:=⟨v4.toArray⟩ }:En)=eF:=⟨_,rfl⟩
 have hrr:rrG (En.base 1 nm) (Ds.bl l,0)=(eF,s4):=by
  rw[<-hs0,<-hEF]
  unfold rrG
  simp only[hp1,hp2,hp3,hp4]
 have HEF:=Lib.hid hEF
 rw[hrr]
 clear hrr hEF
 have hS:=FW.start w (zlit 1 nm) (zlit 0 ⟨#[]⟩) l s0.2 28 206 28 206 rfl rfl
 have e0:s0.2=0:=by rw[hs0]
 have ht0:Ds.bl l=s0.1:=by rw[hs0]
 rw[e0] at hS
 have HE0:=Lib.hid e0
 have HT0:=Lib.hid ht0
 clear e0 ht0 hs0 hl
 unfold zlit at hS
 simp only[show (((0:Nat):Int))=(0:Int) from rfl] at hS
 have HS:=Lib.hid hS
 clear hS
 unfold zlit
 go_enter Tryz.func244,Tryz.ntmps244
 go_upto_region 1 with fail
 generalize hW:((((w.alloc _).alloc _).alloc _).alloc _)=W0 at HS ⊢
 clear hW
 have HS:Hid (FW w W0 (zlit 1 nm) l 0):=HS
 have r0:=HS.out.r0
 have n0:=cell_row r0 0 (.int .i64 1) rfl
 go_upto_region 18 with fail
 clear r0 n0
 generalize hC0:zlit 1 nm=C0 at HS
 have HC0:=Lib.hid hC0
 have z0:C0.size=33:=by rw[<-hC0];rfl
 have x0:l.size<=10000:=by rw[<-Ds.bl_length,HT0.out];omega
 clear hC0
 have hr:=fun W=>rread l s0.2 W x0
 rw[show (Ds.bl l,s0.2)=s0 by rw[HT0.out],hp1] at hr
 simp only at hr
 rw[HE0.out] at hr
 simp only[show (((0:Nat):Int))=(0:Int) from rfl] at hr
 have HR:=Lib.hid hr
 clear hr
 have r1:=HS.out.r1
 simp only[show (((0:Nat):Int))=(0:Int) from rfl] at r1
 obtain⟨y0,hy0⟩:∃ y,C0[25]?=some y:=⟨_,Array.getElem?_eq_getElem (by omega)⟩
 go_upto_region 19 with (go_at_call 286;(with_reducible refine (HR.out _).mono ?_);rintro _ w2 ⟨t1,rfl,ht,hb⟩;have S2:=HS.out.below hb;have HS2:=Lib.hid S2;have HT1:=Lib.hid ht;have cc:=cell_row S2.r0 25 _ hy0;have ff:=S2.h0.2.2;have q1:=fun v=>heldSetCell S2.h1 w.heap.size 25 v;clear S2 hb ht)
 have S3:=HS2.out.step 25 (.int .i64 v1) t1 s1.2
 generalize hW:World.setRow (World.setCell _ _ _) _ _=W1 at S3 ⊢
 clear hW cc ff q1 r1 HR HS HS2
 have z1:(C0.setIfInBounds 25 (.int .i64 v1)).size=33:=by simpa using z0
 generalize hC:C0.setIfInBounds 25 (.int .i64 v1)=C1 at S3 z1
 have HC1:=Lib.hid hC
 have HS:=Lib.hid S3
 have x1:t1.size<=10000:=by rw[<-Ds.bl_length,HT1.out];omega
 clear hC S3
 have hr:=fun W=>rread t1 s1.2 W x1
 rw[show (Ds.bl t1,s1.2)=s1 by rw[HT1.out],hp2] at hr
 simp only at hr
 have HR:=Lib.hid hr
 clear hr
 have r1:=HS.out.r1
 obtain⟨y1,hy1⟩:∃ y,C1[26]?=some y:=⟨_,Array.getElem?_eq_getElem (by omega)⟩
 go_upto_region 20 with (go_at_call 286;(with_reducible refine (HR.out _).mono ?_);rintro _ w3 ⟨t2,rfl,ht,hb⟩;have S2:=HS.out.below hb;have HS2:=Lib.hid S2;have HT2:=Lib.hid ht;have cc:=cell_row S2.r0 26 _ hy1;have ff:=S2.h0.2.2;have q1:=fun v=>heldSetCell S2.h1 w.heap.size 26 v;clear S2 hb ht)
 have S3:=HS2.out.step 26 (.int .i64 v2) t2 s2.2
 generalize hW:World.setRow (World.setCell _ _ _) _ _=W2 at S3 ⊢
 clear hW cc ff q1 r1 HR HS HS2
 have z2:(C1.setIfInBounds 26 (.int .i64 v2)).size=33:=by simpa using z1
 generalize hC:C1.setIfInBounds 26 (.int .i64 v2)=C2 at S3 z2
 have HC2:=Lib.hid hC
 have HS:=Lib.hid S3
 have x2:t2.size<=10000:=by rw[<-Ds.bl_length,HT2.out];omega
 clear hC S3
 have hr:=fun W=>ry_bool t2 s2.2 W x2
 rw[show (Ds.bl t2,s2.2)=s2 by rw[HT2.out],hp3] at hr
 simp only at hr
 have HR:=Lib.hid hr
 clear hr
 have r1:=HS.out.r1
 obtain⟨y2,hy2⟩:∃ y,C2[27]?=some y:=⟨_,Array.getElem?_eq_getElem (by omega)⟩
 go_upto_region 21 with (go_at_call 285;(with_reducible refine (HR.out _).mono ?_);rintro _ w4 ⟨t3,rfl,ht,hb⟩;have S2:=HS.out.below hb;have HS2:=Lib.hid S2;have HT3:=Lib.hid ht;have cc:=cell_row S2.r0 27 _ hy2;have ff:=S2.h0.2.2;have q1:=fun v=>heldSetCell S2.h1 w.heap.size 27 v;clear S2 hb ht)
 have S3:=HS2.out.step 27 (.bool v3) t3 s3.2
 generalize hW:World.setRow (World.setCell _ _ _) _ _=W3 at S3 ⊢
 clear hW cc ff q1 r1 HR HS HS2
 have z3:(C2.setIfInBounds 27 (.bool v3)).size=33:=by simpa using z2
 generalize hC:C2.setIfInBounds 27 (.bool v3)=C3 at S3 z3
 have HC3:=Lib.hid hC
 have HS:=Lib.hid S3
 have x3:t3.size<=10000:=by rw[<-Ds.bl_length,HT3.out];omega
 clear hC S3
 have hr:=fun W=>ry_text t3 s3.2 8 W x3 (by decide)
 rw[show (Ds.bl t3,s3.2)=s3 by rw[HT3.out],hp4] at hr
 simp only[show (((8:Nat):Int))=(8:Int) from rfl] at hr
 have HR:=Lib.hid hr
 clear hr
 have r1:=HS.out.r1
 obtain⟨y3,hy3⟩:∃ y,C3[28]?=some y:=⟨_,Array.getElem?_eq_getElem (by omega)⟩
 go_upto_region 22 with (go_at_call 159;(with_reducible refine (HR.out _).mono ?_);rintro _ w5 ⟨u4,t4,rfl,hu,ht,hb⟩;have S2:=HS.out.below hb;have HS2:=Lib.hid S2;have HT4:=Lib.hid ht;have HU4:=Lib.hid hu;have cc:=cell_row S2.r0 28 _ hy3;have ff:=S2.h0.2.2;have q1:=fun v=>heldSetCell S2.h1 w.heap.size 28 v;clear S2 hb ht hu)
 have S3:=HS2.out.step 28 (.string u4) t4 s4.2
 generalize hW:World.setRow (World.setCell _ _ _) _ _=W4 at S3 ⊢
 clear hW cc ff q1 r1 HR HS HS2
 have z4:(C3.setIfInBounds 28 (.string u4)).size=33:=by simpa using z3
 generalize hC:C3.setIfInBounds 28 (.string u4)=C4 at S3 z4
 have HC4:=Lib.hid hC
 have HS:=Lib.hid S3
 have x4:t4.size<=10000:=by rw[<-Ds.bl_length,HT4.out];omega
 clear hC S3
 have hF:C4=eF.vals (.slice none 0 0) (.slice none 0 0):=by
  rw[<-HEF.out,<-HC4.out,<-HC3.out,<-HC2.out,<-HC1.out,<-HC0.out]
  rw[show u4=⟨v4.toArray⟩ from Ds.bl_inj (HU4.out.trans (Ds.bl_mk _).symm)]
  unfold zlit En.vals En.base En.zero
  simp only[List.setIfInBounds_toArray,List.set_cons_succ,List.set_cons_zero]
 rw[hF] at HS
 have hone:=vals_one eF (.slice none 0 0) (.slice none 0 0) rfl rfl
 clear hF
 have HP:=HS.out.pick
 go_region_held3 (fun w'=>row w' w.heap.size=eF.vals (.slice none 0 0) (.slice none 0 0)∧row w' (w.heap.size+1)=#[.string t4,.int .i64 s4.2]∧Held w' (w.heap.size+1+1) 33∧Held w' (w.heap.size+1+1+1) 2) (first | assumption | exact HP | exact fin_keep (by assumption) _ (Or.inl ⟨rfl,vals_size _ _ _⟩) | exact fin_keep (by assumption) _ (Or.inr ⟨rfl,rfl⟩)) (fail)
 have FD:=HS.out.below (Below.drew (Below.refl W4.heap.size W4))
 have TA:=Lib.hid (fin_a FD)
 have TB:=Lib.hid (fin_b FD)
 all_goals
  go_wp2_with fail
  first
  | (refine bodyPost_ret (res_row_row (n:=32) (n':=1) rfl Tryz.underlying28 rfl (by kernel_rfl) Tryz.underlying206 rfl (by kernel_rfl) _ _ (w.heap.size+1+1) (w.heap.size+1+1+1) rfl rfl (by rw[TA.out.1];exact vals_size _ _ _) (by rw[TA.out.2.1];rfl)) rfl ?_
     rw[TA.out.1,TA.out.2.1]
     exact⟨_,rfl,HT4.out,TA.out.2.2⟩)
  | (refine bodyPost_ret (res_row_row (n:=32) (n':=1) rfl Tryz.underlying28 rfl (by kernel_rfl) Tryz.underlying206 rfl (by kernel_rfl) _ _ (w.heap.size+1+1) (w.heap.size+1+1+1) rfl rfl (by rw[TB.out.1];exact vals_size _ _ _) (by rw[TB.out.2.1];rfl)) rfl ?_
     rw[TB.out.1,TB.out.2.1]
     exact⟨_,rfl,HT4.out,TB.out.2.2⟩)
end
end Go.Proofs.YtnojclchnhmggaaGreatDoor
