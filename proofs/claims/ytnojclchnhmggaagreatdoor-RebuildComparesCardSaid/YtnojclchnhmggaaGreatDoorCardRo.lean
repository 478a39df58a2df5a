/- The statement RebuildCompares: the walk, the frame of the row, the card. Conditions: none beyond the statement. -/
import Derived.Test.YtnojclchnhmggaaGreatDoorFrameEs
import Derived.Test.YtnojclchnhmggaaGreatDoorSrt
import Derived.Test.YtnojclchnhmggaaGreatDoorBi
import Derived.Test.YtnojclchnhmggaaGreatDoorBk
import Derived.Test.YtnojclchnhmggaaGreatDoorBo
import Derived.Test.YtnojclchnhmggaaGreatDoorBp
import Derived.Test.YtnojclchnhmggaaGreatDoorJRebuildCompares
namespace Go.Proofs.YtnojclchnhmggaaGreatDoor
section
open Go.ChangeShapes Go.WideShapes Go.RowKit
set_option maxRecDepth 100000
theorem open_isliceN {H:Type} {enc:TypeId × Value->H} {W:World} {fuel:Nat} {v:Value} {x:DataW H × List MemPlace} (h:DataW.trod enc Tryz.prog W 0 (fun _=>true) true fuel 25 [v]=some x) :
  ∃ (a:Option Addr) (n c:Nat),v=.slice a n c∧(n<=1000->∃ l:List Int,l.length=n∧IS W v l):=by
 rcases open_ints Tryz.underlying25 Tryz.underlying3 (by kernel_rfl) h with ⟨h1,-⟩ | ⟨a,len,cap,zs,h1,-,hl,-,hz,-,hc,-⟩
 · obtain rfl:v=.slice none 0 0:=by simpa using h1
   exact⟨none,0,0,rfl,fun _=>⟨[],rfl,IS.nil W⟩⟩
 · obtain rfl:v=.slice (some a) len cap:=by simpa using h1
   refine⟨some a,len,cap,rfl,fun hn=>⟨zs.take len,by rw[List.length_take];split at hz <;> omega,?_⟩⟩
   have hlen:(zs.take len).length=len:=by rw[List.length_take];split at hz <;> omega
   refine⟨some a,cap,by rw[hlen],by omega,fun h0=>?_⟩
   rw[hlen] at h0
   have hzl:len<=zs.length:=by split at hz <;> omega
   have c0:=hc 0 (by omega)
   have hs:a.spot=none:=by
    have:=World.cell?_spot c0
    simpa [Addr.add] using this
   obtain⟨b,o,s⟩:=a
   simp only at hs
   subst hs
   refine⟨b,o,rfl,?_,fun k hk=>?_⟩
   · have:=World.block_lt_of_cell? W _ c0
     simpa [Addr.add] using this
   · rw[hlen] at hk
     have:=hc k (by omega)
     rw[Addr.add_mid] at this
     rw[this]
     simp [List.getD_eq_getElem?_getD,List.getElem?_eq_getElem (show k<zs.length by omega)]
def EFT (w:World) (b o:Nat) (x:Ef):Prop :=
 ∃ (a1:Option Addr) (c1:Nat) (a2:Option Addr) (c2:Nat),mid w b o=x.e.vals (.slice a1 x.n1 c1) (.slice a2 x.n2 c2)∧x.n1<=9223372036854775807∧x.n2<=9223372036854775807∧(x.n1<=1000->∃ l:List Int,l.length=x.n1∧IS w (.slice a1 x.n1 c1) l)∧(x.n2<=1000->x.gs.length=x.n2∧GS w (.slice a2 x.n2 c2) x.gs)
def EST (w:World) (a:Option Addr) (n:Nat) (F:Nat->Ef):Prop:=n<=9223372036854775807∧∀ k,k<n->∃ b o,a=some ⟨b,o,none⟩∧b<w.heap.size∧EFT w b (o+k*33) (F k)
theorem EST.es {w:World} {a:Option Addr} {n:Nat} {F:Nat->Ef} (h:EST w a n F):ES w a n F :=
 ⟨h.1,fun k hk=>by
  obtain⟨b,o,h1,h2,a1,c1,a2,c2,h3,h4,h5,-,h7⟩:=h.2 k hk
  exact⟨b,o,h1,h2,a1,c1,a2,c2,h3,h4,h5,h7⟩⟩
theorem ints_T {H:Type} {enc:TypeId × Value->H} {W:World} {fuel:Nat} {a:Option Addr} {n c:Nat} {x:DataW H × List MemPlace} (h:DataW.trod enc Tryz.prog W 0 (fun _=>true) true fuel 25 [.slice a n c]=some x):n<=1000->∃ l:List Int,l.length=n∧IS W (.slice a n c) l:=by
 obtain⟨a',n',c',e,hg⟩:=open_isliceN h
 cases e
 exact hg
theorem open_est {H:Type} {enc:TypeId × Value->H} {W:World} {r:Reach} {base:Nat} {v:Value} {d:DataW H} {p:List MemPlace} (hv:Value.okWide Tryz.prog W r base 48 v) (h:DataW.Trod enc Tryz.prog W 0 (fun _=>true) true 48 v d p) :
  ∃ (a:Option Addr) (n c:Nat) (F:Nat->Ef),v=.slice a n c∧EST W a n F:=by
 obtain⟨a,n,c,rfl⟩:=okWide_slice Tryz.underlying48 hv
 obtain⟨fuel,hf⟩:=h
 rcases Go.Deep.open_slice Tryz.underlying48 hf with ⟨h1,-⟩ | ⟨a',len,cap,m,f,D,Pl,h1,-,hl,hmax,hm,-,hi⟩
 · have:=List.head_eq_of_cons_eq h1
   injection this with e1 e2 e3
   subst e1 e2 e3
   exact⟨none,0,0,fun _=>⟨En.zero,0,0,[]⟩,rfl,by omega,fun k hk=>by omega⟩
 · have:=List.head_eq_of_cons_eq h1
   injection this with e1 e2 e3
   subst e1 e2 e3
   have e33:Tryz.prog.cellsOf 28=33:=by kernel_rfl
   have each:∀ k,k<n->∃ (x:Ef) (b o:Nat),a'=⟨b,o,none⟩∧b<W.heap.size∧EFT W b (o+k*33) x:=fun k hk=>by
    obtain⟨cs,hc,ht⟩:=hi k (by rw[hm];split <;> omega)
    rw[e33] at hc
    obtain⟨_,hcl,hat⟩:=World.cells?_some hc
    obtain⟨e,a1,n1,c1,a2,n2,c2,hcs,l1,l2,hg,fl,zz,htr⟩:=open_ef hcl ht
    have hIL:=ints_T htr
    obtain⟨cs0,hc0,-⟩:=hi 0 (by rw[hm];split <;> omega)
    rw[e33] at hc0
    obtain⟨_,hcl0,hat0⟩:=World.cells?_some hc0
    have z0:=(hat0 0 (by omega)).trans (List.getElem?_eq_getElem (by omega:0<cs0.length))
    obtain⟨b,o,s⟩:=a'
    obtain rfl:s=none:=by
     have:=World.cell?_spot z0
     simpa [Addr.add] using this
    have hcell:∀ (i:Nat) (v:Value),(e.vals (.slice a1 n1 c1) (.slice a2 n2 c2))[i]?=some v->W.cell? ⟨b,o+k*33+i,none⟩=some v:=fun i v hv=>by
     have hi33:i<33:=by have:=(Array.getElem?_eq_some_iff.1 hv).1;rw[vals_size] at this;exact this
     have:=hat i (by omega)
     rw[Addr.add_mid,Addr.add_mid] at this
     rw[this,hcs,Array.getElem?_toList]
     exact hv
    have hmid:=mid_of (w:=W) (b:=b) (o:=o+k*33) (vals_size e (.slice a1 n1 c1) (.slice a2 n2 c2)) hcell
    refine⟨⟨e,n1,n2,if h:n2<=1000 then Classical.choose (hg h) else []⟩,b,o,rfl,block_lt_of_cell (hcell 0 _ (vals_0 _ _ _)),a1,c1,a2,c2,hmid,l1,l2,hIL,fun h=>?_⟩
    have:=Classical.choose_spec (hg h)
    simp only[dif_pos (show n2<=1000 from h)]
    exact this
   refine⟨some a',n,c,fun k=>if h:k<n then Classical.choose (each k h) else ⟨En.zero,0,0,[]⟩,rfl,by simp only[maxLen] at hmax;omega,fun k hk=>?_⟩
   obtain⟨b,o,ha,hlt,hE⟩:=Classical.choose_spec (each k hk)
   refine⟨b,o,by rw[ha],hlt,?_⟩
   simp only[dif_pos hk]
   exact hE
end
section
open Go.ChangeShapes Go.WideShapes Go.RowKit
set_option maxRecDepth 100000
theorem open_lbl {H:Type} {enc:TypeId × Value->H} {W:World} {fuel:Nat} {cs:List Value} {x:DataW H × List MemPlace} (hl:cs.length=3) (h:DataW.trod enc Tryz.prog W 0 (fun _=>true) true fuel 95 cs=some x) :
  ∃ y:Rw,cs=[.int .i64 y.1,.string y.2.1,.string y.2.2]:=by
 rcases cs with _ | ⟨x0,_ | ⟨x1,_ | ⟨x2,_ | ⟨x3,l⟩⟩⟩⟩ <;> simp at hl
 obtain⟨n,hf⟩:=st_fld Tryz.underlying95 h
 obtain⟨_,t0⟩:=hf 0 _ rfl
 obtain⟨y0,e0,-⟩:=DataW.trod_int Tryz.underlying3 t0
 have k0:x0=.int .i64 y0:=List.head_eq_of_cons_eq e0
 obtain⟨_,t1⟩:=hf 1 _ rfl
 obtain⟨y1,e1,-⟩:=DataW.trod_string Tryz.underlying9 t1
 have k1:x1=.string y1:=List.head_eq_of_cons_eq e1
 obtain⟨_,t2⟩:=hf 2 _ rfl
 obtain⟨y2,e2,-⟩:=DataW.trod_string Tryz.underlying9 t2
 have k2:x2=.string y2:=List.head_eq_of_cons_eq e2
 subst k0 k1 k2
 exact⟨(y0,y1,y2),rfl⟩
theorem open_lb {H:Type} {enc:TypeId × Value->H} {W:World} {r:Reach} {base:Nat} {v:Value} {d:DataW H} {p:List MemPlace} (hv:Value.okWide Tryz.prog W r base 59 v) (h:DataW.Trod enc Tryz.prog W 0 (fun _=>true) true 59 v d p) :
  ∃ (a:Option Addr) (n c:Nat) (F:Nat->Rw),v=.slice a n c∧RwL W a n F:=by
 obtain⟨a,n,c,rfl⟩:=okWide_slice Tryz.underlying59 hv
 obtain⟨fuel,hf⟩:=h
 rcases Go.Deep.open_slice Tryz.underlying59 hf with ⟨h1,-⟩ | ⟨a',len,cap,m,f,D,Pl,h1,-,hl,hmax,hm,-,hi⟩
 · have:=List.head_eq_of_cons_eq h1
   injection this with e1 e2 e3
   subst e1 e2 e3
   exact⟨none,0,0,fun _=>(0,⟨#[]⟩,⟨#[]⟩),rfl,by omega,fun k hk=>by omega⟩
 · have:=List.head_eq_of_cons_eq h1
   injection this with e1 e2 e3
   subst e1 e2 e3
   have e33:Tryz.prog.cellsOf 95=3:=by kernel_rfl
   have each:∀ k,k<n->∃ (x:Rw) (b o:Nat),a'=⟨b,o,none⟩∧b<W.heap.size∧RwAt W b (o+k*3) x:=fun k hk=>by
    obtain⟨cs,hc,ht⟩:=hi k (by rw[hm];split <;> omega)
    rw[e33] at hc
    obtain⟨_,hcl,hat⟩:=World.cells?_some hc
    obtain⟨y,rfl⟩:=open_lbl hcl ht
    obtain⟨cs0,hc0,-⟩:=hi 0 (by rw[hm];split <;> omega)
    rw[e33] at hc0
    obtain⟨_,hcl0,hat0⟩:=World.cells?_some hc0
    have z0:=(hat0 0 (by omega)).trans (List.getElem?_eq_getElem (by omega:0<cs0.length))
    obtain⟨b,o,s⟩:=a'
    obtain rfl:s=none:=by
     have:=World.cell?_spot z0
     simpa [Addr.add] using this
    have q0:=hat 0 (by omega)
    have q1:=hat 1 (by omega)
    have q2:=hat 2 (by omega)
    rw[Addr.add_mid,Addr.add_mid] at q0 q1 q2
    exact⟨y,b,o,rfl,block_lt_of_cell q0,q0,q1,q2⟩
   refine⟨some a',n,c,fun k=>if h:k<n then Classical.choose (each k h) else (0,⟨#[]⟩,⟨#[]⟩),rfl,by simp only[maxLen] at hmax;omega,fun k hk=>?_⟩
   obtain⟨b,o,ha,hlt,hE⟩:=Classical.choose_spec (each k hk)
   refine⟨b,o,by rw[ha],hlt,?_⟩
   simp only[dif_pos hk]
   exact hE
end
section
open Go.RowKit
set_option maxHeartbeats 16000000
set_option maxRecDepth 8000
set_option linter.unusedSimpArgs false
theorem EST.below {w w':World} {a:Option Addr} {n:Nat} {F:Nat->Ef} (h:EST w a n F) (hb:Below w.heap.size w w'):EST w' a n F :=
 ⟨h.1,fun k hk=>by
  obtain⟨b,o,h1,h2,a1,c1,a2,c2,h3,h4,h5,h6,h7⟩:=h.2 k hk
  exact⟨b,o,h1,Nat.lt_of_lt_of_le h2 hb.size,a1,c1,a2,c2,mid_below hb h3 (by rw[vals_size];decide),h4,h5,fun q=>by
   obtain⟨l,g1,g2⟩:=h6 q
   exact⟨l,g1,g2.below hb⟩,fun q=>⟨(h7 q).1,(h7 q).2.below hb⟩⟩⟩
theorem EST.el {w:World} {a:Option Addr} {n:Nat} {F:Nat->Ef} (h:EST w a n F) (c:Nat) (hn:n<=1000) (hq:∀ k,k<n->(F k).n1<=1000∧(F k).n2<=1000):∃ E:List Fu,E.length=n∧EL w (.slice a n c) E:=by
 have each:∀ k,∃ x:Fu,k<n->∃ b o al gr,a=some ⟨b,o,none⟩∧b<w.heap.size∧mid w b (o+k*33)=x.1.vals al gr∧IS w al x.2.1∧GS w gr x.2.2:=fun k=>by
  by_cases hk:k<n
  · obtain⟨b,o,h1,h2,a1,c1,a2,c2,h3,-,-,h6,h7⟩:=h.2 k hk
    obtain⟨l,g1,g2⟩:=h6 (hq k hk).1
    obtain⟨g3,g4⟩:=h7 (hq k hk).2
    exact⟨((F k).e,l,(F k).gs),fun _=>⟨b,o,_,_,h1,h2,h3,g2,g4⟩⟩
  · exact⟨zFu,fun q=>absurd q hk⟩
 have len:((List.range n).map (fun k=>Classical.choose (each k))).length=n:=by simp
 refine⟨(List.range n).map (fun k=>Classical.choose (each k)),len,a,c,by rw[len],by rw[len];omega,fun k hk=>?_⟩
 have:=Classical.choose_spec (each k) (by rw[len] at hk;exact hk)
 rw[show ((List.range n).map (fun k=>Classical.choose (each k)))[k]=Classical.choose (each k) by simp]
 exact this
theorem law_co_yes (a0:Option Addr) (n0 c0:Nat) (a1:Option Addr) (n1 c1:Nat) (E:List Fu) (L:List Lb) (w:World) (hm:MaxL w) (hT:Tab w) (hE:EL w (.slice a0 n0 c0) E) (hS:RwS w (.slice a1 n1 c1) L) (hn:E.length<=10) (hl:L.length<=10) (hsz:∀ x∈L,x.2.2.size<=1000)
  (hF:∀ W,Below w.heap.size w W->Calls Tryz.prog 17 #[.slice a0 n0 c0,.int .i64 10] W fun r w'=>∃ b:Bool,r=.returned (.bool b)∧Below W.heap.size W w')
  (hG:∀ W,Below w.heap.size w W->Calls Tryz.prog 24 #[.slice a1 n1 c1,.int .i64 10] W fun r w'=>∃ b:Bool,r=.returned (.bool b)∧w'=W) :
  Calls Tryz.prog 5 #[.slice a0 n0 c0,.slice a1 n1 c1] w fun r w'=>r=.returned (.bool true)∧Below w.heap.size w w':=by
 have HAW:=Lib.hid (fun W (b:Below w.heap.size w W)=>aw37 W (hm.below b) (hT.below b))
 have HF:=Lib.hid hF
 have HG:=Lib.hid hG
 have hel:=entsR_len L
 have hdl:=diffR_len E L
 have HK1:=Lib.hid (fun W (b:Below w.heap.size w W)=>re_ents1 (.slice a1 n1 c1) L W (hm.below b) (hT.below b) (hS.below b) (by omega) hsz)
 have HK2:=Lib.hid (fun W (b:Below w.heap.size w W)=>r37_ents (.slice a1 n1 c1) L W (hS.below b) (by omega) hsz)
 have HK3:=Lib.hid (fun W (b:Below w.heap.size w W)=>re_compare (.slice a0 n0 c0) (.slice a1 n1 c1) E L W (hm.below b) (hT.below b) (hE.below b) (hS.below b) (by omega) hsz)
 have HK4:=Lib.hid (fun W (b:Below w.heap.size w W)=>r37_compare (.slice a0 n0 c0) (.slice a1 n1 c1) E L W (hE.below b) (hS.below b) (by omega) hsz)
 generalize entsR L=R1 at HK1 HK2
 generalize diffR E L=R2 at HK3 HK4 hdl
 have HDL:=Lib.hid (show R2.length<=1000000 by omega)
 clear hF hG hm hT hE hS hn hl hsz hel hdl
 go_enter Tryz.func5,Tryz.ntmps5
 go_wp2_with (first
  | (go_at_call 16;(with_reducible refine (HAW.out _ (Below.refl _ _)).mono ?_);rintro _ w1 ⟨rfl,b1⟩;have B1:=Lib.hid b1;clear b1)
  | (go_at_call 17;(refine (HF.out _ B1.out).mono ?_);rintro _ w2 ⟨bb,rfl,b2⟩;have B2:=Lib.hid (bt B1.out b2);clear b2;cases bb)
  | (go_at_call 24;(refine (HG.out _ B2.out).mono ?_);rintro _ w3 ⟨bb,rfl,rfl⟩;cases bb)
  | (go_at_call 26;(refine (HK1.out _ B2.out).mono ?_);rintro _ w4 ⟨v4,rfl,h4,b4⟩;obtain⟨e4,f4,rfl,-⟩:=_root_.id h4;have H4:=Lib.hid h4;have B4:=Lib.hid (bt B2.out b4);clear h4 b4)
  | (go_at_call 27;(refine (HK2.out _ B4.out).mono ?_);rintro _ w5 ⟨v5,rfl,h5,b5⟩;obtain⟨e5,f5,rfl,-⟩:=_root_.id h5;have H5:=Lib.hid h5;have H45:=Lib.hid (H4.out.below b5);have B5:=Lib.hid (bt B4.out b5);clear h5 b5)
  | (go_at_call 25;(refine (r34_entries _ _ R1 _ H45.out H5.out).mono ?_);rintro _ w6 ⟨rfl,b6⟩;have B6:=Lib.hid (bt B5.out b6);clear b6)
  | (go_at_call 29;(refine (HK3.out _ B6.out).mono ?_);rintro _ w7 ⟨v7,rfl,h7,b7⟩;obtain⟨e7,f7,rfl,-⟩:=_root_.id h7;have H7:=Lib.hid h7;have B7:=Lib.hid (bt B6.out b7);clear h7 b7)
  | (go_at_call 30;(refine (HK4.out _ B7.out).mono ?_);rintro _ w8 ⟨v8,rfl,h8,b8⟩;obtain⟨e8,f8,rfl,-⟩:=_root_.id h8;have H8:=Lib.hid h8;have H78:=Lib.hid (H7.out.below b8);have B8:=Lib.hid (bt B7.out b8);clear h8 b8)
  | (go_at_call 28;(refine (r37_diffs _ _ R2 _ HDL.out H78.out H8.out).mono ?_);rintro _ w9 ⟨rfl,b9⟩;have B9:=Lib.hid (bt B8.out b9);clear b9))
 all_goals
  go_ret
  exact⟨rfl,by first | exact B9.out | exact B2.out⟩
theorem law_co_no (a0:Option Addr) (n0 c0:Nat) (F:Nat->Ef) (a1:Option Addr) (n1 c1:Nat) (G:Nat->Rw) (w:World) (hm:MaxL w) (hT:Tab w) (hE:ES w a0 n0 F) (hL:RwL w a1 n1 G) (h:¬ (few7P F n0 10∧fewL G n1 10)) :
  Calls Tryz.prog 5 #[.slice a0 n0 c0,.slice a1 n1 c1] w fun r w'=>r=.returned (.bool true)∧Below w.heap.size w w':=by
 have HAW:=Lib.hid (fun W (b:Below w.heap.size w W)=>aw37 W (hm.below b) (hT.below b))
 have HF:=Lib.hid (fun W (b:Below w.heap.size w W)=>few37 a0 n0 c0 F 10 W (hE.below b))
 have HG:=Lib.hid (fun W (b:Below w.heap.size w W)=>rfew37 a1 n1 c1 G 10 W (hL.below b))
 have HN:=Lib.hid h
 clear h hE hL hm hT
 go_enter Tryz.func5,Tryz.ntmps5
 go_wp2_with (first
  | (go_at_call 16;(with_reducible refine (HAW.out _ (Below.refl _ _)).mono ?_);rintro _ w1 ⟨rfl,b1⟩;have B1:=Lib.hid b1;clear b1)
  | (go_at_call 17;(refine (HF.out _ B1.out).mono ?_);rintro _ w2 ⟨bb,rfl,hf,b2⟩;have HF2:=Lib.hid hf;have B2:=Lib.hid (bt B1.out b2);clear b2 hf;cases bb)
  | (go_at_call 24;(refine (HG.out _ B2.out).mono ?_);rintro _ w3 ⟨bb,rfl,hg,rfl⟩;have HG2:=Lib.hid hg;clear hg;cases bb;rotate_left 1;exact absurd ⟨HF2.out (by simp),HG2.out (by simp)⟩ HN.out))
 all_goals
  go_ret
  exact⟨rfl,B2.out⟩
theorem law_compares (a0:Option Addr) (n0 c0:Nat) (F:Nat->Ef) (a1:Option Addr) (n1 c1:Nat) (G:Nat->Rw) (w:World) (hm:MaxL w) (hT:Tab w) (hE:EST w a0 n0 F) (hL:RwL w a1 n1 G) :
  Calls Tryz.prog 5 #[.slice a0 n0 c0,.slice a1 n1 c1] w fun r w'=>r=.returned (.bool true)∧Below w.heap.size w w':=by
 by_cases h:few7P F n0 10∧fewL G n1 10
 · obtain⟨⟨h1,h2⟩,h3,h4⟩:=h
   obtain⟨E,hel,hE2⟩:=hE.el c0 (by omega) (fun k hk=>by have:=h2 k hk;omega)
   refine law_co_yes a0 n0 c0 a1 n1 c1 E (rlst G n1) w hm hT hE2 (hL.rws c1 (by omega)) (by omega) (by rw[rlst_len];omega) (fun x hx=>?_) (fun W b=>(few37 a0 n0 c0 F 10 W (hE.es.below b)).mono fun r w' ⟨bb,q1,_,q3⟩=>⟨bb,q1,q3⟩) (fun W b=>(rfew37 a1 n1 c1 G 10 W (hL.below b)).mono fun r w' ⟨bb,q1,_,q3⟩=>⟨bb,q1,q3⟩)
   unfold rlst at hx
   obtain⟨k,hk,rfl⟩:=List.mem_map.1 hx
   have:=(h4 k (by simpa using hk)).1
   omega
 · exact law_co_no a0 n0 c0 F a1 n1 c1 G w hm hT hE.es hL h
end
end Go.Proofs.YtnojclchnhmggaaGreatDoor
section
namespace Go.Proofs.YtnojclchnhmggaaGreatDoor.rebuildCompares
open Go.ChangeShapes Go.WideShapes Go.ChangeAt Go.RowKit Go.Proofs.YtnojclchnhmggaaGreatDoor
open Go.ChangeMaps (open_string)
set_option maxRecDepth 100000 in
theorem contract (H:Type) (enc:TypeId × Value->H) (W:World) (base:Nat) (args:Array Value) (ds gs:List (DataW H)) (before:List MemPlace)
  (hval:∀ (j:Nat) t v,Tryz.f5.params[j]?=some t->args[j]?=some v->Value.okWide Tryz.prog W .any base t v)
  (hW:DataW.Whole enc Tryz.prog Tryz.f5.params.toList Rows.rebuildComparesSpec.vars false W args.toList ds gs before) (hL:laidMetH Tryz.prog Rows.rebuildComparesRow.laid W) (hS:W.ShapedOpen Tryz.prog) :
  Calls Tryz.prog 5 args W fun e W'=>∃ v,e=.returned v∧Rows.rebuildComparesSpec.post enc Tryz.prog Tryz.f5 false true false false W args v W':=by
 have hW':=hW
 have hlt:∀ x∈before,x.block<W.heap.size:=fun x hx=>by simpa using hW'.lt x hx
 obtain⟨p,q,hA0,hV,rfl,hfz,hnd⟩:=hW
 have hA:DataW.TrodAll enc Tryz.prog W 0 (fun _=>true) true Tryz.f5.params.toList args.toList ds p:=hA0
 have hK:=hA
 rw[Tryz.params5] at hA hval
 obtain⟨v0,vs0,d0,ds0,p0,q0,hargs,rfl,rfl,h0,r0⟩:=trodAll_cons hA
 obtain⟨v1,vs1,d1,ds1,p1,q1,rfl,rfl,rfl,h1,r1⟩:=trodAll_cons r0
 obtain⟨rfl,rfl,rfl⟩:=trodAll_nil r1
 obtain rfl:args=#[v0,v1]:=by cases args;simp_all
 obtain⟨rfl,rfl⟩:=trodVars_none hV
 obtain⟨a0,n0,c0,F0,rfl,o0⟩:=open_est (hval 0 48 v0 rfl rfl) h0
 obtain⟨a1,n1,c1,F1,rfl,o1⟩:=open_lb (hval 1 59 v1 rfl rfl) h1
 rw[MakeChecks.laidMetH_plain _ _ _ (by kernel_rfl)] at hL
 refine (law_compares a0 n0 c0 F0 a1 n1 c1 F1 W (max_of hS) (tab_of hL) o0 o1).mono fun e W' ⟨he,hb⟩=>?_
 subst he
 exact⟨_,rfl,_,_,_,[],_,[],hW',trodAll_cons_mk (shut_bool Tryz.underlying4 _) trodAll_mk0,args_below hb (by rw[Tryz.params5];kernel_rfl) hK (fun x hx=>hlt x (by simpa using hx)),rfl,hb.frame _,fun h=>by cases h⟩
theorem laid_met (os:Os):laidMetH Tryz.prog Rows.rebuildComparesRow.laid ((World.laidAll Tryz.prog os Rows.rebuildComparesRow.laid).forCall (fun _ _=>0) ⟨#[],#[(.slice none 0 0:Value),(.slice none 0 0:Value)],[]⟩).memory:=by
 rw[MakeChecks.laidMetH_plain _ _ _ (by kernel_rfl)];exact laidMet_laidAll _ (by kernel_rfl) (by kernel_rfl)
theorem reads (os:Os) {H:Type} (enc:TypeId × Value->H):∃ places,DataW.whole enc Tryz.prog ((World.laidAll Tryz.prog os Rows.rebuildComparesRow.laid).forCall (fun _ _=>0) ⟨#[],#[(.slice none 0 0:Value),(.slice none 0 0:Value)],[]⟩).memory Tryz.f5.params.toList Rows.rebuildComparesSpec.vars false #[(.slice none 0 0:Value),(.slice none 0 0:Value)].toList 8=some ([.nil,.nil],[],places) :=
 ⟨[],by kernel_rfl⟩
set_option maxRecDepth 100000 in
theorem lifted (os:Os) (started:os.Started) (H:Type) (enc:TypeId × Value->H) (F:Stop.Interp) :
  ReturnsInHanded {} Tryz.checked os 5 .any ((OpenSpec.ofChange Rows.rebuildComparesSpec).preRow enc Tryz.prog Tryz.f5 Rows.rebuildComparesRow.domain false Rows.rebuildComparesRow.laid) (((OpenSpec.ofChange Rows.rebuildComparesSpec).at F).post enc Tryz.prog Tryz.f5 false true false false):=by
 obtain⟨places,hx⟩:=reads os enc
 refine returnsInHanded_of_row (C:=Tryz.checked) (s:=OpenSpec.ofChange Rows.rebuildComparesSpec) ownk started (by kernel_rfl) Tryz.func5
  (witness_lay (enc:=enc) (C:=Tryz.checked) false #[(.slice none 0 0:Value),(.slice none 0 0:Value)] (World.shaped_of_ZipB (by kernel_rfl) (by kernel_rfl)) (by kernel_rfl)
    (OpenSpec.preRow_of_cond 8 hx (by kernel_rfl) (fun k hk=>by cases hk) (by kernel_rfl) (laid_met os))) ?_
 intro W base args ds gs before hval hW _ _ _ hL hS _
 exact contract H enc W base args ds gs before hval hW hL hS
theorem said:Rows.RebuildComparesSaid :=
 OpenClaim.holds_of_cond 5 Tryz.f5 rfl rfl rfl rfl rfl rfl rfl ⟨rfl,rfl,rfl,rfl,rfl⟩ rfl rfl rfl rfl rfl (by kernel_rfl) Tryz.func5 joined_rebuildCompares
  (of_decide_eq_true (by kernel_rfl)) (by unfold Func.isWrapper;first | (rw[if_pos (by decide +kernel)];kernel_rfl) | (rw[if_neg (by decide +kernel)];exact⟨rfl,rfl⟩))
  (fun os started H enc _ F=>by rw[OpenClaim.pre_eq_preRow];exact lifted os started H enc F)
theorem plain (f:FuncId) (fn:Func) (hf:Tryz.pinned.checked.prog.funcNamed Rows.rebuildComparesRow.func=some f) (hfn:Tryz.pinned.checked.prog.funcs[f]?=some fn) :
  false=Tryz.pinned.checked.prog.looks []∧∀ (j:Nat) t,fn.params[j]?=some t->Tryz.pinned.checked.prog.wantsStandIn t=false:=by
 obtain rfl:f=5:=Option.some.inj ((show Tryz.prog.funcNamed Rows.rebuildComparesRow.func=some 5 by kernel_rfl).symm.trans hf) |>.symm
 obtain rfl:fn=Tryz.f5:=(Option.some.inj (Tryz.func5.symm.trans hfn)).symm
 refine⟨by kernel_rfl,fun j t ht=>?_⟩
 rw[Tryz.params5] at ht
 have hm:=Array.mem_of_getElem? ht
 have ha:(#[48,59]:Array TypeId).all (fun t=>!Tryz.prog.wantsStandIn t)=true:=by kernel_rfl
 have:=(Array.all_eq_true_iff_forall_mem.1 ha) t hm
 exact (show Tryz.prog.wantsStandIn t=false by simpa using this)
theorem card:Rows.RebuildComparesCardSaid :=
 Claim7.holds_tied_plain_at .later [] _ _ _ _ said (fun _ h=>by cases h) (by kernel_rfl) (fun _ h=>by cases h) rebuildCompares_row_tie rfl ⟨rfl,rfl⟩ (by kernel_rfl) rfl plain (by kernel_rfl)
end Go.Proofs.YtnojclchnhmggaaGreatDoor.rebuildCompares
end
