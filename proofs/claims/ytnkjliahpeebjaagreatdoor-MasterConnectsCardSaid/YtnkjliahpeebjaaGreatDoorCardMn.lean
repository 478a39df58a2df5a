/- Catalogs. -/
import Derived.Test.YtnkjliahpeebjaaGreatDoorPd
import Derived.Test.YtnkjliahpeebjaaGreatDoorMk
import Derived.Test.YtnkjliahpeebjaaGreatDoorJMasterConnects
set_option maxRecDepth 100000
set_option maxHeartbeats 16000000
open Option renaming some->Z9,none->Z8
open _root_ renaming ByteArray->Z7,List->Z5,decide_eq_true->ZL,Array->ZE,Option->Zy,congrArg->YX,id->XP
open Go.Proofs.Tryz renaming prog->Z6,underlying3->Zv,underlying9->XR
open Go renaming Value->Z3,World->Z2,Calls->ZJ,TypeId->YZ,block_lt_of_cell->YR,Addr->XW,MemPlace->Wk
open Bool renaming true->ZZ,false->ZW
open Nat renaming lt_of_lt_of_le->ZY,le_refl->ZS,le_trans->ZD,zero_add->YE
open Go.RowKit renaming Below->ZV
open List renaming getElem?_eq_getElem->ZN,head_eq_of_cons_eq->ZI,take_of_length_le->ZC,getElem?_eq_some_iff->Y0,length_take->YH,getElem?_map->Yv,length_drop->X8,mem_map->X7,range->X3,take_append_drop->Xu,mem_range->Ww
open Go.RowKit.Below renaming refl->ZM
open Array renaming getElem?_eq_none->Za,getElem?_eq_some_iff->Y9,length_toList->Y2,getElem?_toList->XE
open Go.DataW renaming trod_int->YY,trod->Wy
open Go.Proofs.YtnkjliahpeebjaaGreatDoor.En renaming zero->YO
open Int renaming le_refl->YA
open Go.Addr renaming add_lit->Yr,add->WX,add_mid->Wu
namespace Go.Proofs.YtnkjliahpeebjaaGreatDoor
variable{H:Type}(m:Zy XW)(l:Z5 (ZE Z3))(d:Z3)(f u:Nat){p:Z5 Wk}{n base g:Nat}{r:Reach}(w:Z2){W:Z2}{F:Nat->Oz}{v:Z3}{a y A z:Zy XW}{c q t:Nat}
section
open Go.RowKit
def lU:Z7:=⟨#[80,65,89]⟩
def iq:Z7:=⟨#[80,65,89,46,84,69,83,84]⟩
def np:Z7:=⟨#[80,65,89,46,77,65,83,84,69,82]⟩
def gC:Z7:=⟨#[80,65,89,46,84,69,83,84,46,65]⟩
def nA:Z7:=⟨#[84,69,83,84,46,80,65,89]⟩
def d36:Fu:=({ YO with kind:=0,name:=gC,d0:=130 },[],[])
def Z36:Nat->Zo:=fun k=>if k=0 then (3,2,nR,lU) else if k=1 then (3,3,nR,iq) else (0,0,d36,⟨#[]⟩)
theorem Ai:(dd Z36 3).length=3:=by decide +kernel
theorem nT:cj (dd Z36 3) np=(2,0):=by decide +kernel
theorem nU:cj (dd Z36 3) iq=(3,0):=by decide +kernel
theorem nV:cj (dd Z36 3) nA=(1,0):=by decide +kernel
theorem Ap:(jH (dd Z36 3) gC).1.1.d0=130/\(jH (dd Z36 3) gC).2=(3,0):=by decide +kernel
def R36:Z5 Rw:=dd Z36 3
theorem l36:(opv 3 2 YO (.slice Z8 0 0) (.slice Z8 0 0) lU++opv 3 3 YO (.slice Z8 0 0) (.slice Z8 0 0) iq)++opv 0 0 d36.1 (.slice Z8 0 0) (.slice Z8 0 0) ⟨#[]⟩=#[.int .i64 3,.int .i64 2,.int .i64 0,.string ⟨#[]⟩,.int .i64 0,.int .i64 0,.int .i64 0,.int .i64 0,.int .i64 0,.int .i64 0,.int .i64 0,.int .i64 0,.int .i64 0,.int .i64 0,.int .i64 0,.int .i64 0,.int .i64 0,.int .i64 0,.bool ZW,.int .i64 0,.string ⟨#[]⟩,.string ⟨#[]⟩,.int .i64 0,.int .i64 0,.bool ZW,.slice Z8 0 0,.int .i64 0,.int .i64 0,.int .i64 0,.bool ZW,.string ⟨#[]⟩,.string ⟨#[]⟩,.int .i64 0,.int .i64 0,.slice Z8 0 0,.string ⟨#[80,65,89]⟩,.int .i64 3,.int .i64 3,.int .i64 0,.string ⟨#[]⟩,.int .i64 0,.int .i64 0,.int .i64 0,.int .i64 0,.int .i64 0,.int .i64 0,.int .i64 0,.int .i64 0,.int .i64 0,.int .i64 0,.int .i64 0,.int .i64 0,.int .i64 0,.int .i64 0,.bool ZW,.int .i64 0,.string ⟨#[]⟩,.string ⟨#[]⟩,.int .i64 0,.int .i64 0,.bool ZW,.slice Z8 0 0,.int .i64 0,.int .i64 0,.int .i64 0,.bool ZW,.string ⟨#[]⟩,.string ⟨#[]⟩,.int .i64 0,.int .i64 0,.slice Z8 0 0,.string ⟨#[80,65,89,46,84,69,83,84]⟩,.int .i64 0,.int .i64 0,.int .i64 0,.string ⟨#[80,65,89,46,84,69,83,84,46,65]⟩,.int .i64 130,.int .i64 0,.int .i64 0,.int .i64 0,.int .i64 0,.int .i64 0,.int .i64 0,.int .i64 0,.int .i64 0,.int .i64 0,.int .i64 0,.int .i64 0,.int .i64 0,.int .i64 0,.bool ZW,.int .i64 0,.string ⟨#[]⟩,.string ⟨#[]⟩,.int .i64 0,.int .i64 0,.bool ZW,.slice Z8 0 0,.int .i64 0,.int .i64 0,.int .i64 0,.bool ZW,.string ⟨#[]⟩,.string ⟨#[]⟩,.int .i64 0,.int .i64 0,.slice Z8 0 0,.string ⟨#[]⟩]:=by
 unfold opv opc En.vals d36 lU iq gC YO;rfl
theorem ext3(a b c:ZE Z3)(h:a.size=36)(e:b.size=36)(j:c.size=36):((a++b)++c).extract (0+0*36) (0+0*36+36)=a/\((a++b)++c).extract (0+1*36) (0+1*36+36)=b/\((a++b)++c).extract (0+2*36) (0+2*36+36)=c:=by
 refine⟨?_,?_,?_⟩
 all_goals
  apply Array.ext_getElem?
  intro i;simp only[Array.getElem?_extract,Array.getElem?_append,Array.size_append,h,e,j]
  by_cases k:i<36
  .simp [k]
   try (repeat' split) <;> first|rfl|omega|(congr 1;omega)
  .rw[if_neg (by omega),Za (by omega)]
theorem ol36:OL (w.alloc (.cells (#[.int .i64 3,.int .i64 2,.int .i64 0,.string ⟨#[]⟩,.int .i64 0,.int .i64 0,.int .i64 0,.int .i64 0,.int .i64 0,.int .i64 0,.int .i64 0,.int .i64 0,.int .i64 0,.int .i64 0,.int .i64 0,.int .i64 0,.int .i64 0,.int .i64 0,.bool ZW,.int .i64 0,.string ⟨#[]⟩,.string ⟨#[]⟩,.int .i64 0,.int .i64 0,.bool ZW,.slice Z8 0 0,.int .i64 0,.int .i64 0,.int .i64 0,.bool ZW,.string ⟨#[]⟩,.string ⟨#[]⟩,.int .i64 0,.int .i64 0,.slice Z8 0 0,.string ⟨#[80,65,89]⟩,.int .i64 3,.int .i64 3,.int .i64 0,.string ⟨#[]⟩,.int .i64 0,.int .i64 0,.int .i64 0,.int .i64 0,.int .i64 0,.int .i64 0,.int .i64 0,.int .i64 0,.int .i64 0,.int .i64 0,.int .i64 0,.int .i64 0,.int .i64 0,.int .i64 0,.bool ZW,.int .i64 0,.string ⟨#[]⟩,.string ⟨#[]⟩,.int .i64 0,.int .i64 0,.bool ZW,.slice Z8 0 0,.int .i64 0,.int .i64 0,.int .i64 0,.bool ZW,.string ⟨#[]⟩,.string ⟨#[]⟩,.int .i64 0,.int .i64 0,.slice Z8 0 0,.string ⟨#[80,65,89,46,84,69,83,84]⟩,.int .i64 0,.int .i64 0,.int .i64 0,.string ⟨#[80,65,89,46,84,69,83,84,46,65]⟩,.int .i64 130,.int .i64 0,.int .i64 0,.int .i64 0,.int .i64 0,.int .i64 0,.int .i64 0,.int .i64 0,.int .i64 0,.int .i64 0,.int .i64 0,.int .i64 0,.int .i64 0,.int .i64 0,.bool ZW,.int .i64 0,.string ⟨#[]⟩,.string ⟨#[]⟩,.int .i64 0,.int .i64 0,.bool ZW,.slice Z8 0 0,.int .i64 0,.int .i64 0,.int .i64 0,.bool ZW,.string ⟨#[]⟩,.string ⟨#[]⟩,.int .i64 0,.int .i64 0,.slice Z8 0 0,.string ⟨#[]⟩]) 31)) (Z9 ⟨w.heap.size,0,Z8⟩) 3 Z36:=by
 rw[<-l36];obtain⟨e,E,b⟩:=ext3 (opv 3 2 YO (.slice Z8 0 0) (.slice Z8 0 0) lU) (opv 3 3 YO (.slice Z8 0 0) (.slice Z8 0 0) iq) (opv 0 0 d36.1 (.slice Z8 0 0) (.slice Z8 0 0) ⟨#[]⟩) (eO _ _ _ _ _ _) (eO _ _ _ _ _ _) (eO _ _ _ _ _ _);intro k h;have i:w.heap.size<(w.alloc (.cells ((opv 3 2 YO (.slice Z8 0 0) (.slice Z8 0 0) lU++opv 3 3 YO (.slice Z8 0 0) (.slice Z8 0 0) iq)++opv 0 0 d36.1 (.slice Z8 0 0) (.slice Z8 0 0) ⟨#[]⟩) 31)).heap.size:=by simp
 refine⟨w.heap.size,0,.slice Z8 0 0,.slice Z8 0 0,rfl,i,?_,?_,?_,?_,?_⟩
 .unfold eI;rw[ak w _ 31 (0,0)]
  match k,h with
  | 0,_=>exact e
  | 1,_=>exact E
  | 2,_=>exact b
 all_goals
  match k,h with
  | 0,_=>first|exact IS.nil _|exact GS.nil _|exact (by decide:(0:Nat)<=60)|exact (by decide:(3:Nat)<=60)
  | 1,_=>first|exact IS.nil _|exact GS.nil _|exact (by decide:(0:Nat)<=60)|exact (by decide:(8:Nat)<=60)
  | 2,_=>first|exact IS.nil _|exact GS.nil _|exact (by decide:(10:Nat)<=60)|exact (by decide:(0:Nat)<=60)
theorem Mw(k:MaxL w)(T:Tab w):ZJ Z6 33 #[.slice (Z9 ⟨w.heap.size,0,Z8⟩) 3 3] (w.alloc (.cells (#[.int .i64 3,.int .i64 2,.int .i64 0,.string ⟨#[]⟩,.int .i64 0,.int .i64 0,.int .i64 0,.int .i64 0,.int .i64 0,.int .i64 0,.int .i64 0,.int .i64 0,.int .i64 0,.int .i64 0,.int .i64 0,.int .i64 0,.int .i64 0,.int .i64 0,.bool ZW,.int .i64 0,.string ⟨#[]⟩,.string ⟨#[]⟩,.int .i64 0,.int .i64 0,.bool ZW,.slice Z8 0 0,.int .i64 0,.int .i64 0,.int .i64 0,.bool ZW,.string ⟨#[]⟩,.string ⟨#[]⟩,.int .i64 0,.int .i64 0,.slice Z8 0 0,.string ⟨#[80,65,89]⟩,.int .i64 3,.int .i64 3,.int .i64 0,.string ⟨#[]⟩,.int .i64 0,.int .i64 0,.int .i64 0,.int .i64 0,.int .i64 0,.int .i64 0,.int .i64 0,.int .i64 0,.int .i64 0,.int .i64 0,.int .i64 0,.int .i64 0,.int .i64 0,.int .i64 0,.bool ZW,.int .i64 0,.string ⟨#[]⟩,.string ⟨#[]⟩,.int .i64 0,.int .i64 0,.bool ZW,.slice Z8 0 0,.int .i64 0,.int .i64 0,.int .i64 0,.bool ZW,.string ⟨#[]⟩,.string ⟨#[]⟩,.int .i64 0,.int .i64 0,.slice Z8 0 0,.string ⟨#[80,65,89,46,84,69,83,84]⟩,.int .i64 0,.int .i64 0,.int .i64 0,.string ⟨#[80,65,89,46,84,69,83,84,46,65]⟩,.int .i64 130,.int .i64 0,.int .i64 0,.int .i64 0,.int .i64 0,.int .i64 0,.int .i64 0,.int .i64 0,.int .i64 0,.int .i64 0,.int .i64 0,.int .i64 0,.int .i64 0,.int .i64 0,.bool ZW,.int .i64 0,.string ⟨#[]⟩,.string ⟨#[]⟩,.int .i64 0,.int .i64 0,.bool ZW,.slice Z8 0 0,.int .i64 0,.int .i64 0,.int .i64 0,.bool ZW,.string ⟨#[]⟩,.string ⟨#[]⟩,.int .i64 0,.int .i64 0,.slice Z8 0 0,.string ⟨#[]⟩]) 31)) fun r b=>∃ a c,r=.returned (.slice a 3 c)/\RwS b (.slice a 3 c) R36/\(∀ q,(Value.slice a 3 c).ownBlock=Z9 q->q<b.heap.size)/\ZV w.heap.size w b:=by
 have h:=aj w (.cells (#[.int .i64 3,.int .i64 2,.int .i64 0,.string ⟨#[]⟩,.int .i64 0,.int .i64 0,.int .i64 0,.int .i64 0,.int .i64 0,.int .i64 0,.int .i64 0,.int .i64 0,.int .i64 0,.int .i64 0,.int .i64 0,.int .i64 0,.int .i64 0,.int .i64 0,.bool ZW,.int .i64 0,.string ⟨#[]⟩,.string ⟨#[]⟩,.int .i64 0,.int .i64 0,.bool ZW,.slice Z8 0 0,.int .i64 0,.int .i64 0,.int .i64 0,.bool ZW,.string ⟨#[]⟩,.string ⟨#[]⟩,.int .i64 0,.int .i64 0,.slice Z8 0 0,.string ⟨#[80,65,89]⟩,.int .i64 3,.int .i64 3,.int .i64 0,.string ⟨#[]⟩,.int .i64 0,.int .i64 0,.int .i64 0,.int .i64 0,.int .i64 0,.int .i64 0,.int .i64 0,.int .i64 0,.int .i64 0,.int .i64 0,.int .i64 0,.int .i64 0,.int .i64 0,.int .i64 0,.bool ZW,.int .i64 0,.string ⟨#[]⟩,.string ⟨#[]⟩,.int .i64 0,.int .i64 0,.bool ZW,.slice Z8 0 0,.int .i64 0,.int .i64 0,.int .i64 0,.bool ZW,.string ⟨#[]⟩,.string ⟨#[]⟩,.int .i64 0,.int .i64 0,.slice Z8 0 0,.string ⟨#[80,65,89,46,84,69,83,84]⟩,.int .i64 0,.int .i64 0,.int .i64 0,.string ⟨#[80,65,89,46,84,69,83,84,46,65]⟩,.int .i64 130,.int .i64 0,.int .i64 0,.int .i64 0,.int .i64 0,.int .i64 0,.int .i64 0,.int .i64 0,.int .i64 0,.int .i64 0,.int .i64 0,.int .i64 0,.int .i64 0,.int .i64 0,.bool ZW,.int .i64 0,.string ⟨#[]⟩,.string ⟨#[]⟩,.int .i64 0,.int .i64 0,.bool ZW,.slice Z8 0 0,.int .i64 0,.int .i64 0,.int .i64 0,.bool ZW,.string ⟨#[]⟩,.string ⟨#[]⟩,.int .i64 0,.int .i64 0,.slice Z8 0 0,.string ⟨#[]⟩]) 31);refine (run36 _ 3 3 Z36 _ (by decide) (k.below h) (T.below h) (ol36 w)).mono ?_
 rintro _ b ⟨V,rfl,j,o,i⟩;obtain⟨a,c,e,-⟩:=XP j;rw[Ai] at e;subst e;exact⟨a,c,rfl,j,o,bt h i⟩
theorem oe(R:Z5 Rw)(name:Z7)(g:Int × Int)(i:cj R name=g)(w:Z2)(j:MaxL w)(T:Tab w)(k:RwS w d R)(o:∀ b,d.ownBlock=Z9 b->b<w.heap.size) :
 ZJ Z6 34 #[.iface 56 (.pointer (Z9 ⟨w.heap.size,0,Z8⟩)),.string name] (w.alloc (.cells #[d,.int .i64 0,.int .i64 0,.int .i64 0] 119)) fun r e=>r=.returned (.tuple #[.int .i64 g.1,.int .i64 g.2])/\RwS e d R/\ZV w.heap.size w e:=by
 refine (oJ w.heap.size d R 0 0 0 name w _ j T (gE d R w k o) (YA _) (by decide) (.inr (YA _))).mono ?_
 rintro _ e ⟨rfl,h,-⟩;rw[(ox R 0 0 0 name (YA _) (YA _)).1,i];exact⟨rfl,h.r,h.b⟩
theorem Dk(B:MaxL w)(T:Tab w)(D:RwS w d R36)(C:∀ b,d.ownBlock=Z9 b->b<w.heap.size) :
 ZJ Z6 42 #[.iface 56 (.pointer (Z9 ⟨w.heap.size,0,Z8⟩)),.string gC] (w.alloc (.cells #[d,.int .i64 0,.int .i64 0,.int .i64 0] 119)) fun r i=>∃ (x:Fu) (h G:Z3),r=.returned (.tuple #[.agg (x.1.vals h G),.int .i64 3,.int .i64 0])/\x.1.d0=130/\IS i h x.2.1/\GS i G x.2.2/\ZV w.heap.size w i:=by
 refine (DX w.heap.size d R36 0 0 0 gC w _ B T (gE d R36 w D C) (YA _) (by decide) (.inr (YA _))).mono ?_
 rintro _ i ⟨⟨h,G,rfl,k,o,-,-⟩,E,-⟩;have e:=Aw R36 0 0 0 gC (YA _) (YA _);rw[e] at k o |-;obtain⟨s,j⟩:=Ap;refine⟨(jH R36 gC).1,h,G,?_,s,k,o,E.b⟩
 rw[show (jH R36 gC).2.1=3 from YX Prod.fst j,show (jH R36 gC).2.2=0 from YX Prod.snd j]
attribute [local go_sem ↓] aZ bq
attribute [local go_sem ↓ high] bf
attribute [local go_sem] bn aS aH bE bH aK aT ak aI aw az aM ah aQ aL aP aO aR aY aW bD
theorem aw36(o:MaxL w)(T:Tab w):ZJ Z6 16 #[] w fun r w'=>r=.returned (.bool ZZ)/\ZV w.heap.size w w':=by
 have U:=lh (Mw w o T);have i:=lh (fun d W (b:ZV w.heap.size w W)=>oe d R36 np (2,0) nT W (o.below b) (T.below b));have j:=lh (fun d W (b:ZV w.heap.size w W)=>oe d R36 iq (3,0) nU W (o.below b) (T.below b));have k:=lh (fun d W (b:ZV w.heap.size w W)=>oe d R36 nA (1,0) nV W (o.below b) (T.below b));have I:=lh (fun d W (b:ZV w.heap.size w W)=>Dk d W (o.below b) (T.below b));unfold np at i;unfold iq at j;unfold nA at k;unfold gC at I;generalize R36=R at U i j k I;clear o T;go_enter Tryz.func16,Tryz.ntmps16
 go_wp2_with first|go_at_call 33;(refine U.o.mono ?_);rintro _ w1 ⟨va,vc,rfl,e,V,h⟩;have S1:=lh e;have O:=lh V;have D:=lh h;clear e V h|(go_at_call 21;(with_reducible refine (sh36 _ _ _ _).mono ?_);rintro _ _ ⟨rfl,rfl⟩)|go_at_call 34;(with_reducible refine (i.o _ _ D.o S1.o O.o).mono ?_);rintro _ w2 ⟨rfl,e,h⟩;have S2:=lh e;have E:=lh (bt D.o h);have L:=lh (fun q B=>ZY (O.o q B) h.size);clear e h|go_at_call 34;(with_reducible refine (j.o _ _ E.o S2.o L.o).mono ?_);rintro _ w3 ⟨rfl,e,h⟩;have S3:=lh e;have J:=lh (bt E.o h);have N:=lh (fun q B=>ZY (L.o q B) h.size);clear e h|go_at_call 34;(with_reducible refine (k.o _ _ J.o S3.o N.o).mono ?_);rintro _ w4 ⟨rfl,e,h⟩;have S4:=lh e;have K:=lh (bt J.o h);have O4:=lh (fun q B=>ZY (N.o q B) h.size);clear e h|go_at_call 42;(refine (I.o _ _ K.o S4.o O4.o).mono ?_);rintro _ Y ⟨x,C,G,rfl,s,S,Q,h⟩;have X:=ay x.1 C G (aD S) (aE Q);have P:=ak Y (x.1.vals C G) 29 (0,0);have N2:=ae P 2 _ (vU _ _ _);rw[s] at N2;have Z:=lh (bt (bt K.o h) (aj Y (.cells (x.1.vals C G) 29)));clear S Q h s P
 go_ret
 exact⟨rfl,Z.o⟩
end
section
open Go.ChangeShapes Go.WideShapes Go.RowKit
theorem xPq{enc:YZ × Z3->H}{x:DataW H × Z5 Wk}(h:Wy enc Z6 W 0 (fun _=>ZZ) ZZ g 26 [v]=Z9 x) :
 ∃ (a:Zy XW) (n c:Nat),v=.slice a n c/\(n<=1000->∃ l:Z5 Int,l.length=n/\IS W v l):=by
 rcases open_ints Tryz.underlying26 Zv (by kernel_rfl) h with ⟨i,-⟩|⟨a,L,C,Z,i,-,J,-,j,-,B,-⟩
 .obtain rfl:v=.slice Z8 0 0:=by simpa using i
  exact⟨Z8,0,0,rfl,fun _=>⟨[],rfl,IS.nil W⟩⟩
 .obtain rfl:v=.slice (Z9 a) L C:=by simpa using i
  refine⟨Z9 a,L,C,rfl,fun K=>⟨Z.take L,by rw[YH];split at j <;> omega,?_⟩⟩
  have e:(Z.take L).length=L:=by rw[YH];split at j <;> omega
  refine⟨Z9 a,C,by rw[e],by omega,fun E=>?_⟩
  rw[e] at E;have I:L<=Z.length:=by split at j <;> omega
  have u:=B 0 (by omega)
  have D:a.spot=Z8:=by
   have:=World.cell?_spot u;simpa [WX] using this
  obtain⟨b,o,s⟩:=a;simp only at D
  subst D;refine⟨b,o,rfl,?_,fun k G=>?_⟩
  .have:=World.block_lt_of_cell? W _ u;simpa [WX] using this
  .rw[e] at G;have:=B k (by omega);rw[Wu] at this;rw[this];simp [List.getD_eq_getElem?_getD,ZN (show k<Z.length by omega)]
def EFT(w:Z2)(b o:Nat)(x:Ef):Prop :=
 ∃ (h:Zy XW) (q:Nat) (i:Zy XW) (t:Nat),mid w b o=x.e.vals (.slice h x.n1 q) (.slice i x.n2 t)/\x.n1<=9223372036854775807/\x.n2<=9223372036854775807/\(x.n1<=1000->∃ l:Z5 Int,l.length=x.n1/\IS w (.slice h x.n1 q) l)/\(x.n2<=1000->x.gs.length=x.n2/\GS w (.slice i x.n2 t) x.gs)
def EST(w:Z2)(a:Zy XW)(n:Nat)(F:Nat->Ef):Prop:=n<=9223372036854775807/\∀ k,k<n->∃ b o,a=Z9 ⟨b,o,Z8⟩/\b<w.heap.size/\EFT w b (o+k*33) (F k)
theorem EST.es{w:Z2}{F:Nat->Ef}(h:EST w a n F):ES w a n F :=
 ⟨h.1,fun k E=>by
  obtain⟨b,o,j,s,e,q,i,t,x,B,C,-,D⟩:=h.2 k E;exact⟨b,o,j,s,e,q,i,t,x,B,C,D⟩⟩
theorem vz{enc:YZ × Z3->H}{x:DataW H × Z5 Wk}(h:Wy enc Z6 W 0 (fun _=>ZZ) ZZ g 26 [.slice a n c]=Z9 x):n<=1000->∃ l:Z5 Int,l.length=n/\IS W (.slice a n c) l:=by
 obtain⟨y,N,C,e,b⟩:=xPq h;cases e
 exact b
theorem zuN{enc:YZ × Z3->H}{d:DataW H}(L:Value.okWide Z6 W r base 33 v)(h:DataW.Trod enc Z6 W 0 (fun _=>ZZ) ZZ 33 v d p) :
 ∃ (a:Zy XW) (n c:Nat) (F:Nat->Ef),v=.slice a n c/\EST W a n F:=by
 obtain⟨a,n,c,rfl⟩:=okWide_slice Tryz.underlying33 L;obtain⟨g,hf⟩:=h;rcases Go.Deep.open_slice Tryz.underlying33 hf with ⟨U,-⟩|⟨y,a7,a6,m,f,D,Pl,U,-,hl,I,hm,-,hi⟩
 .have:=ZI U;injection this with R S T
  subst R S T;exact⟨Z8,0,0,fun _=>⟨YO,0,0,[]⟩,rfl,by omega,fun k K=>by omega⟩
 .have:=ZI U;injection this with R S T
  subst R S T;have B:Tryz.prog.cellsOf 29=33:=by kernel_rfl
  have E:∀ k,k<n->∃ (x:Ef) (b o:Nat),y=⟨b,o,Z8⟩/\b<W.heap.size/\EFT W b (o+k*33) x:=fun k K=>by
   obtain⟨cs,hc,ht⟩:=hi k (by rw[hm];split <;> omega);rw[B] at hc;obtain⟨_,Y,X⟩:=World.cells?_some hc;obtain⟨e,O,n1,q,P,N,t,Z,l1,l2,hg,fl,zz,a3⟩:=uA Y ht;have V:=vz a3;obtain⟨Q,G,-⟩:=hi 0 (by rw[hm];split <;> omega);rw[B] at G;obtain⟨_,a4,C⟩:=World.cells?_some G;have z0:=(C 0 (by omega)).trans (ZN (by omega:0<Q.length));obtain⟨b,o,s⟩:=y
   obtain rfl:s=Z8:=by
    have:=World.cell?_spot z0;simpa [WX] using this
   have j:∀ (i:Nat) (v:Z3),(e.vals (.slice O n1 q) (.slice P N t))[i]?=Z9 v->W.cell? ⟨b,o+k*33+i,Z8⟩=Z9 v:=fun i v L=>by
    have a5:i<33:=by have:=(Y9.1 L).1;rw[ah] at this;exact this
    have:=X i (by omega);rw[Wu,Wu] at this;rw[this,Z,XE];exact L
   have J:=wd (w:=W) (b:=b) (o:=o+k*33) (ah e (.slice O n1 q) (.slice P N t)) j;refine⟨⟨e,n1,N,if h:N<=1000 then Classical.choose (hg h) else []⟩,b,o,rfl,YR (j 0 _ (ap _ _ _)),O,q,P,t,J,l1,l2,V,fun h=>?_⟩
   have:=Classical.choose_spec (hg h);simp only[dif_pos (show N<=1000 from h)]
   exact this
  refine⟨Z9 y,n,c,fun k=>if h:k<n then Classical.choose (E k h) else ⟨YO,0,0,[]⟩,rfl,by simp only[maxLen] at I;omega,fun k K=>?_⟩
  obtain⟨b,o,ha,a0,hE⟩:=Classical.choose_spec (E k K);refine⟨b,o,by rw[ha],a0,?_⟩
  simp only[dif_pos K]
  exact hE
end
section
open Go.RowKit
theorem IV:∀ (l:Z5 (ZE Z3)) (_:∀ r∈l,r.size=36),(ec l).length=l.length*36
 | [],_=>rfl
 | r::l,h=>by
   rw[ec,List.length_append,IV l (fun x b=>h x (by simp [b])),List.length_cons,Y2,h r (by simp)];omega
theorem Jg:∀ (l:Z5 (ZE Z3)) (_:∀ r∈l,r.size=36) (k i:Nat) (_:i<36) (r:ZE Z3),l[k]?=Z9 r->(ec l)[k*36+i]?=r[i]?
 | [],_,k,i,_,r,h=>by simp at h
 | x::l,b,0,i,e,r,h=>by
   simp at h;subst h
   rw[ec,List.getElem?_append_left (by rw[Y2,b x (by simp)];omega)];simp
 | x::l,b,k+1,i,e,r,h=>by
   have:=Jg l (fun x j=>b x (by simp [j])) k i e r (by simpa using h);rw[ec,List.getElem?_append_right (by rw[Y2,b x (by simp)];omega),Y2,b x (by simp),<-this];congr 1;omega
theorem LU(s:∀ r∈l,r.size=36)(P:Nat->Z3->Prop)(h:∀ (k i:Nat) (r:ZE Z3) (v:Z3),l[k]?=Z9 r->r[i]?=Z9 v->P (k*36+i) v):∀ j u,(ec l)[j]?=Z9 u->P j u:=by
 intro j u b;have x:=(Y0.1 b).1;rw[IV l s] at x;have o:j / 36<l.length:=by omega
 have e:j=j / 36*36+j % 36:=by omega
 rw[e] at b |-;rw[Jg l s (j / 36) (j % 36) (by omega) l[j / 36] (ZN o)] at b;exact h _ _ _ _ (ZN o) b
theorem Ka(i:∀ r∈l,r.size=36)(h:∀ r∈l,bh r.toList=ZZ):∀ u∈ec l,u.oneCell'=ZZ:=by
 intro u b
 induction l with
 | nil=>cases b
 | cons r l I =>
   rw[ec,List.mem_append] at b;rcases b with b|b
   .have:=l8 _ (h r (by simp));exact List.all_eq_true.1 this u b
   .exact I (fun x e=>i x (by simp [e])) (fun x e=>h x (by simp [e])) b
theorem JA{w:Z2}{l:Z5 (ZE Z3)}(o:∀ r∈l,r.size=36)(h:w.ownsRow base 31 36 v n (ec l))(k:Nat)(r:ZE Z3)(j:l[k]?=Z9 r):∃ g c,v=.slice (Z9 ⟨g,0,Z8⟩) n c/\base<=g/\g<w.heap.size/\eI w g (k*36)=r:=by
 have N:=(Y0.1 j).1;have D:r.size=36:=o r (List.mem_of_getElem? j);have B:l.length=n:=by have:=h.1;rw[IV l o] at this;omega
 have s:=dU h;rcases h.2 with ⟨rfl,R⟩|⟨g,C,I,rfl,K,x,P⟩
 .omega
 .obtain⟨a,c,e,-,O⟩:=s;obtain⟨Q,J,p⟩:=O (by omega);injection e with E
  rw[J] at E;cases E
  refine⟨g,C,rfl,K,?_,JF D fun i v G=>?_⟩
  .rcases Nat.lt_or_ge g w.heap.size with b|b
   .exact b
   .rw[Za b] at x;cases x
  .have L:i<36:=by rw[<-D];exact (Y9.1 G).1
   have:=p (k*36+i) v (by rw[Jg l o k i L r j];exact G);rw[Yr,YE] at this;exact this
def ql(w:Z2)(b o n:Nat):Z5 (ZE Z3):=(X3 n).map fun k=>eI w b (o+k*36)
theorem OS.size{w:Z2}(h:OS w a n F)(b o:Nat)(ha:a=Z9 ⟨b,o,Z8⟩):∀ r∈ql w b o n,r.size=36:=by
 intro r i;unfold ql at i;obtain⟨k,s,rfl⟩:=X7.1 i;obtain⟨C,O,e,-,x,q,B,t,j,-⟩:=h.2 k (Ww.1 s);rw[ha] at e;cases e;rw[j];exact eO _ _ _ _ _ _
theorem OS.ones{w:Z2}(h:OS w a n F)(b o:Nat)(ha:a=Z9 ⟨b,o,Z8⟩):∀ r∈ql w b o n,bh r.toList=ZZ:=by
 intro r i;unfold ql at i;obtain⟨k,s,rfl⟩:=X7.1 i;obtain⟨C,O,e,-,x,q,B,t,j,-⟩:=h.2 k (Ww.1 s);rw[ha] at e;cases e;rw[j];exact kl (ay _ _ _ rfl rfl)
theorem OS.cells{w:Z2}{b o:Nat}(h:OS w (Z9 ⟨b,o,Z8⟩) n F):CS w 36 (.slice (Z9 ⟨b,o,Z8⟩) n c) n (ec (ql w b o n)):=by
 have B:=h.size b o rfl;refine⟨_,_,rfl,by rw[IV _ B];unfold ql;simp,fun _=>⟨_,rfl,LU _ B (fun j u=>w.cell? ((⟨b,o,Z8⟩:XW).add j)=Z9 u) fun k i r v s C=>?_⟩⟩
 unfold ql at s;rw[Yv] at s
 cases e:(X3 n)[k]? with
 | none=>rw[e] at s;cases s
 | some K =>
   rw[e] at s
   have x:K=k:=by
    have:=(Y0.1 e).2;simpa using this.symm
   subst x;cases s
   have:=zL rfl i v C;rw[Yr,<-Nat.add_assoc];exact this
theorem OS.all{w:Z2}(h:OS w a n F) :
 ∃ R:Z5 (ZE Z3),CS w 36 (.slice a n c) n (ec R)/\R.length=n/\(∀ r∈R,r.size=36)/\(∀ r∈R,bh r.toList=ZZ)/\∀ (k:Nat) (r:ZE Z3),R[k]?=Z9 r->∃ b o,a=Z9 ⟨b,o,Z8⟩/\eI w b (o+k*36)=r/\k<n:=by
 rcases Nat.eq_zero_or_pos n with j|j
 .subst j;exact⟨[],⟨a,c,rfl,rfl,fun h=>absurd h (by decide)⟩,rfl,(fun _ h=>by cases h),(fun _ h=>by cases h),fun k r h=>by simp at h⟩
 .obtain⟨b,o,rfl,-⟩:=h.2 0 j;refine⟨ql w b o n,h.cells,by unfold ql;simp,h.size b o rfl,h.ones b o rfl,fun k r i=>?_⟩
  have e:=(Y0.1 i).1;unfold ql at e i;simp at e
  refine⟨b,o,rfl,?_,e⟩
  rw[Yv,List.getElem?_range e,Option.map_some] at i;exact Option.some.inj i
theorem JB{w:Z2}{C:ZE Z3}{q:Nat}(b:w.heap.size=q)(h:C.size=36):(w.alloc (.cells C 31)).ownsRow q 31 36 (.slice (Z9 ⟨q,0,Z8⟩) 1 1) 1 C.toList:=by
 subst b;exact⟨by simp [h],.inr ⟨w.heap.size,1,C,rfl,ZS _,heap_alloc_new w _,ZS _,by unfold maxLen;omega,by simp [h],by rw[ZC (by simp [h])]⟩⟩
def qf(x:Oz)(F:Nat->Oz):Nat->Oz:=fun j=>match j with|0=>x|j+1=>F j
theorem Jz{w C:Z2}{T:Nat}{x:Oz}{R:Z5 (ZE Z3)}(h:C.ownsRow base 31 36 (.slice y (1+n) T) (1+n) ((opv x.k x.i x.x.e (.slice A x.x.n1 q) (.slice z x.x.n2 t) x.s).toList++ec R))(hl:R.length=n)(hz:∀ r∈R,r.size=36)(P:x.x.n1<=9223372036854775807)(Q:x.x.n2<=9223372036854775807)(hx:(x.x.n1<=1000->∃ l:Z5 Int,l.length=x.x.n1/\IS C (.slice A x.x.n1 q) l)/\(x.x.n2<=1000->x.x.gs.length=x.x.n2/\GS C (.slice z x.x.n2 t) x.x.gs))(hn:1+n<=9223372036854775807)(S:OS w a n F)(X:ZV w.heap.size w C)(E:∀ (k:Nat) (r:ZE Z3),R[k]?=Z9 r->∃ b o,a=Z9 ⟨b,o,Z8⟩/\eI w b (o+k*36)=r/\k<n):OS C y (1+n) (qf x F):=by
 have G:∀ r∈(opv x.k x.i x.x.e (.slice A x.x.n1 q) (.slice z x.x.n2 t) x.s)::R,r.size=36:=fun r E=>by
  rcases List.mem_cons.1 E with rfl|E
  .exact eO _ _ _ _ _ _
  .exact hz r E
 have U:C.ownsRow base 31 36 (.slice y (1+n) T) (1+n) (ec ((opv x.k x.i x.x.e (.slice A x.x.n1 q) (.slice z x.x.n2 t) x.s)::R)):=h;refine⟨hn,fun k hk=>?_⟩
 cases k with
 | zero =>
   obtain⟨g,cc,e,-,B,N⟩:=JA G U 0 _ rfl;injection e with I
   exact⟨g,0,I,B,A,q,z,t,by rw[YE];exact N,P,Q,hx.1,hx.2⟩
 | succ j =>
   have Y:R[j]?=Z9 (R[j]'(by omega)):=ZN _;obtain⟨g,cc,e,-,B,N⟩:=JA G U (j+1) (R[j]'(by omega)) (by rw[List.getElem?_cons_succ];exact Y);injection e with I
   obtain⟨b,o,ha,O,L⟩:=E j _ Y;obtain⟨b',o',D,Z,d1,J,d2,K,h1,h2,h3,h5,V⟩:=S.2 j L;rw[ha] at D;cases D
   refine⟨g,0,I,B,d1,J,d2,K,?_,h2,h3,fun h=>?_,fun h=>⟨(V h).1,(V h).2.below X⟩⟩
   rotate_left
   .obtain⟨l,q1,q2⟩:=h5 h;exact⟨l,q1,q2.below X⟩
   dsimp only[qf];rw[YE,N,<-O,h1]
theorem GBq:Tryz.prog.info? 31=Z9 ((Tryz.prog.info? 31).getD default):=by kernel_rfl
theorem Kk:((Tryz.prog.info? 31).getD default).zero=Z9 (.agg (opv 0 0 YO (.slice Z8 0 0) (.slice Z8 0 0) ⟨#[]⟩)):=by kernel_rfl
theorem Kl:((Tryz.prog.info? 31).getD default).size=36:=by kernel_rfl
theorem Km:((Tryz.prog.info? 31).getD default).bytes=368:=by kernel_rfl
end
section
open Go.ChangeShapes Go.WideShapes Go.RowKit
theorem yI{l:Z5 Z3}(h:l.length=36):l=((l.drop 0).take 1++(l.drop 1).take 1)++((l.drop 2).take 33++(l.drop 35).take 1):=by
 rw[List.drop_zero];have e:l=l.take 1++l.drop 1:=(Xu 1 l).symm
 have E:l.drop 1=(l.drop 1).take 1++l.drop 2:=by
  have:=(Xu 1 (l.drop 1)).symm;rwa [List.drop_drop] at this
 have b:l.drop 2=(l.drop 2).take 33++l.drop 35:=by
  have:=(Xu 33 (l.drop 2)).symm;rwa [List.drop_drop] at this
 have i:(l.drop 35).take 1=l.drop 35:=ZC (by rw[X8];omega);rw[i,<-b,List.append_assoc,<-E];exact e
theorem Ej{enc:YZ × Z3->H}{l:Z5 Z3}{x:DataW H × Z5 Wk}(K:l.length=36)(h:Wy enc Z6 W 0 (fun _=>ZZ) ZZ g 31 l=Z9 x) :
 ∃ (k i:Int) (e:En) (s:Z7) (j:Zy XW) (N q:Nat) (o:Zy XW) (b t:Nat),l=(opv k i e (.slice j N q) (.slice o b t) s).toList/\N<=9223372036854775807/\b<=9223372036854775807/\(N<=1000->∃ l:Z5 Int,l.length=N/\IS W (.slice j N q) l)/\(b<=1000->∃ l:Z5 Gr,l.length=b/\GS W (.slice o b t) l):=by
 obtain⟨n,D⟩:=nk Tryz.underlying31 h;have Z:Tryz.prog.cellsOf 29=33:=by kernel_rfl
 have Q:Tryz.prog.cellsOf 3=1:=by kernel_rfl
 have R:Tryz.prog.cellsOf 9=1:=by kernel_rfl
 obtain⟨_,L⟩:=D 0 _ rfl;obtain⟨_,O⟩:=D 1 _ rfl;obtain⟨_,T⟩:=D 2 _ rfl;obtain⟨_,P⟩:=D 3 _ rfl;obtain⟨k,E,-⟩:=YY Zv L;obtain⟨i,B,-⟩:=YY Zv O;obtain⟨s,C,-⟩:=DataW.trod_string XR P;have E:(l.drop 0).take (Tryz.prog.cellsOf 3)=[.int .i64 k]:=E;have B:(l.drop 1).take (Tryz.prog.cellsOf 3)=[.int .i64 i]:=B;have C:(l.drop 35).take (Tryz.prog.cellsOf 9)=[.string s]:=C;have T:Wy enc Z6 W 0 (fun _=>ZZ) ZZ n 29 ((l.drop 2).take (Tryz.prog.cellsOf 29))=Z9 _:=T;rw[Q] at E B;rw[R] at C;rw[Z] at T;obtain⟨e,j,N,q,o,b,t,J,u1,u2,G,S,z,I⟩:=uA (by rw[YH,X8];omega) T;refine⟨k,i,e,s,j,N,q,o,b,t,?_,u1,u2,vz I,G⟩
 rw[yI K,E,B,J,C];unfold opv opc;simp
theorem Eo{enc:YZ × Z3->H}{d:DataW H}(K:Value.okWide Z6 W r base 31 v)(h:DataW.Trod enc Z6 W 0 (fun _=>ZZ) ZZ 31 v d p) :
 ∃ (k i:Int) (e:En) (s:Z7) (o:Zy XW) (N q:Nat) (x:Zy XW) (b t:Nat),v=.agg (opv k i e (.slice o N q) (.slice x b t) s)/\N<=9223372036854775807/\b<=9223372036854775807/\(N<=1000->∃ l:Z5 Int,l.length=N/\IS W (.slice o N q) l)/\(b<=1000->∃ l:Z5 Gr,l.length=b/\GS W (.slice x b t) l):=by
 obtain⟨⟨l⟩,rfl,j,-⟩:=zu Tryz.underlying31 K;have e:Tryz.prog.cellsOf 31=36:=by kernel_rfl
 rw[e] at j;obtain⟨g,I⟩:=h;obtain⟨k,i,E,s,o,N,q,x,b,t,J,B,C,D,G⟩:=Ej (l:=l) (by simpa using j) I;refine⟨k,i,E,s,o,N,q,x,b,t,?_,B,C,D,G⟩
 congr 1
 exact Array.toList_inj.1 J
end
section
open Go.ChangeShapes Go.WideShapes Go.RowKit
theorem LG{enc:YZ × Z3->H}{d:DataW H}(O:Value.okWide Z6 W r base 22 v)(h:DataW.Trod enc Z6 W 0 (fun _=>ZZ) ZZ 22 v d p) :
 ∃ (a:Zy XW) (n c:Nat) (F:Nat->Oz),v=.slice a n c/\OS W a n F:=by
 obtain⟨a,n,c,rfl⟩:=okWide_slice Tryz.underlying22 O;obtain⟨g,hf⟩:=h;rcases Go.Deep.open_slice Tryz.underlying22 hf with ⟨V,-⟩|⟨y,a6,a5,m,f,D,Pl,V,-,hl,J,hm,-,hi⟩
 .have:=ZI V;injection this with S T U
  subst S T U;exact⟨Z8,0,0,fun _=>⟨0,0,⟨YO,0,0,[]⟩,⟨#[]⟩⟩,rfl,by omega,fun k L=>by omega⟩
 .have:=ZI V;injection this with S T U
  subst S T U;have C:Tryz.prog.cellsOf 31=36:=by kernel_rfl
  have E:∀ k,k<n->∃ (x:Oz) (b o:Nat),y=⟨b,o,Z8⟩/\b<W.heap.size/\OF W b (o+k*36) x:=fun k L=>by
   obtain⟨cs,hc,ht⟩:=hi k (by rw[hm];split <;> omega);rw[C] at hc;obtain⟨_,Z,Y⟩:=World.cells?_some hc;obtain⟨kk,i,e,s,P,n1,q,Q,N,t,a0,l1,l2,X,hg⟩:=Ej Z ht;obtain⟨R,I,-⟩:=hi 0 (by rw[hm];split <;> omega);rw[C] at I;obtain⟨_,a4,G⟩:=World.cells?_some I;have z0:=(G 0 (by omega)).trans (ZN (by omega:0<R.length));obtain⟨b,o,sp⟩:=y
   obtain rfl:sp=Z8:=by
    have:=World.cell?_spot z0;simpa [WX] using this
   have B:∀ (j:Nat) (v:Z3),(opv kk i e (.slice P n1 q) (.slice Q N t) s)[j]?=Z9 v->W.cell? ⟨b,o+k*36+j,Z8⟩=Z9 v:=fun j v O=>by
    have hj:j<36:=by have:=(Y9.1 O).1;rw[eO] at this;exact this
    have:=Y j (by omega);rw[Wu,Wu] at this;rw[this,a0,XE];exact O
   have K:=JF (w:=W) (b:=b) (o:=o+k*36) (eO kk i e (.slice P n1 q) (.slice Q N t) s) B;refine⟨⟨kk,i,⟨e,n1,N,if h:N<=1000 then Classical.choose (hg h) else []⟩,s⟩,b,o,rfl,YR (B 0 _ wT),P,q,Q,t,K,l1,l2,X,fun h=>?_⟩
   have:=Classical.choose_spec (hg h);simp only[dif_pos (show N<=1000 from h)]
   exact this
  refine⟨Z9 y,n,c,fun k=>if h:k<n then Classical.choose (E k h) else ⟨0,0,⟨YO,0,0,[]⟩,⟨#[]⟩⟩,rfl,by simp only[maxLen] at J;omega,fun k L=>?_⟩
  obtain⟨b,o,ha,a3,hE⟩:=Classical.choose_spec (E k L);refine⟨b,o,by rw[ha],a3,?_⟩
  simp only[dif_pos L]
  exact hE
theorem OS.ol{w:Z2}(h:OS w a n F)(L:∀ k,k<n->(F k).x.n1<=1000/\(F k).x.n2<=1000/\(F k).x.e.name.size<=60/\(F k).s.size<=60):∃ Z:Nat->Zo,OL w a n Z:=by
 have E:∀ k,k<n->∃ z:Zo,∃ b o B G,a=Z9 ⟨b,o,Z8⟩/\b<w.heap.size/\eI w b (o+k*36)=opv z.1 z.2.1 z.2.2.1.1 B G z.2.2.2/\IS w B z.2.2.1.2.1/\GS w G z.2.2.1.2.2/\z.2.2.1.1.name.size<=60/\z.2.2.2.size<=60:=fun k j=>by
  obtain⟨b,o,C,D,S,q,T,t,I,-,-,J,K⟩:=h.2 k j;obtain⟨Q,O,P,R⟩:=L k j;obtain⟨l,-,N⟩:=J Q;exact⟨((F k).k,(F k).i,((F k).x.e,l,(F k).x.gs),(F k).s),b,o,_,_,C,D,I,N,(K O).2,P,R⟩
 refine⟨fun k=>if h:k<n then Classical.choose (E k h) else (0,0,(YO,[],[]),⟨#[]⟩),fun k j=>?_⟩
 simp only[dif_pos j]
 exact Classical.choose_spec (E k j)
end
section
open Go.RowKit
set_option linter.unusedSimpArgs false
/-! the few operations of the law -/
theorem sY(F:Nat->Oz)(w:Z2)(L:OS w m f F):ZJ Z6 18 #[.slice m f u,.int .i64 16] w fun r e=>∃ b:Bool,r=.returned (.bool b)/\(b=ZZ->f<=16/\∀ k,k<f->few6X (F k))/\ZV w.heap.size w e :=
 (few36 m f u F 16 w L).mono fun r e ⟨b,i,h,j⟩=>⟨b,i,fun q=>⟨by have:=(h q).1;omega,(h q).2⟩,j⟩
attribute [local go_sem] bn aS aH bE bH aK aT ak aI aw az aM aQ aL aP aO aR aY aW bD
theorem BR(F:Nat->Oz)(p name:Z7)(i:Int)(w:Z2)(C:MaxL w)(T:Tab w)(L:OS w m f F)(h:¬ ((f<=16/\∀ k,k<f->few6X (F k))/\p.size<=60/\Ds.name (Ds.bl name)=ZZ)) :
 ZJ Z6 6 #[.slice m f u,.string p,.string name,.int .i64 i] w fun r R=>r=.returned (.bool ZZ)/\ZV w.heap.size w R:=by
 have o:=lh (fun W (b:ZV w.heap.size w W)=>aw36 W (C.below b) (T.below b));have E:=lh (fun W (b:ZV w.heap.size w W)=>sY m f u F W (L.below b));have V:=lh (fun W (b:ZV w.heap.size w W)=>ez name W (C.below b));obtain⟨Q,K⟩:∃ b,decide (60<(p.size:Int))=b:=⟨_,rfl⟩
 have N:Hid (Q=ZW->Ds.name (Ds.bl name)=ZZ->¬ (f<=16/\∀ k,k<f->few6X (F k))):=lh (by
  rintro rfl O P;rw[decide_eq_false_iff_not] at K;exact h ⟨P,by omega,O⟩)
 generalize Ds.name (Ds.bl name)=I at V N;clear C T L h;by_cases D:Q=ZW/\I=ZZ
 .obtain⟨rfl,rfl⟩:=D;have X:=lh (N.o rfl rfl);clear N;go_enter Tryz.func6,Tryz.ntmps6
  go_wp2_with first|go_at_call 16;(with_reducible refine (o.o _ (ZM _ _)).mono ?_);rintro _ S ⟨rfl,e⟩;have B:=lh e;clear e|go_at_call 18;(refine (E.o _ B.o).mono ?_);rintro _ U ⟨x,rfl,G,e⟩;have j:=lh (bt B.o e);have s:=lh G;clear e G;cases x;rotate_left 1;exact absurd (s.o rfl) X.o
  go_ret
  exact⟨rfl,j.o⟩
 clear N;cases Q <;> cases I
 rotate_left
 .exact absurd ⟨rfl,rfl⟩ D
 all_goals
  clear D;go_enter Tryz.func6,Tryz.ntmps6
  go_wp2_with first|go_at_call 16;(with_reducible refine (o.o _ (ZM _ _)).mono ?_);rintro _ S ⟨rfl,e⟩;have B:=lh e;clear e|(go_at_call 18;(refine (E.o _ B.o).mono ?_);rintro _ U ⟨x,rfl,-,e⟩;have j:=lh (bt B.o e);clear e;cases x)|go_at_call 32;(refine (V.o _ j.o).mono ?_);rintro _ Y ⟨rfl,e⟩;have J:=lh (bt j.o e);clear e
  all_goals
   go_ret
   first|exact⟨rfl,J.o⟩|exact⟨rfl,j.o⟩
theorem AE(F:Nat->Oz)(Z:Nat->Zo)(p name:Z7)(i:Int)(w:Z2)(L:MaxL w)(T:Tab w)(hL:OS w m f F)(hO:OL w m f Z)(hn:f<=16)(cb:p.size<=60)(b9:Ds.name (Ds.bl name)=ZZ) :
 ZJ Z6 6 #[.slice m f u,.string p,.string name,.int .i64 i] w fun r w'=>r=.returned (.bool ZZ)/\ZV w.heap.size w w':=by
 have b7:=lh (fun W (b:ZV w.heap.size w W)=>aw36 W (L.below b) (T.below b));have s:=lh (fun W (b:ZV w.heap.size w W)=>And.intro (L.below b) (T.below b));have HF:=lh (fun W (b:ZV w.heap.size w W)=>sY m f u F W (hL.below b));have hv:=fun W (b:ZV w.heap.size w W)=>ez name W (L.below b)
 rw[b9] at hv;have HV:=lh hv;have a4:=lh (fun W (b:ZV w.heap.size w W)=>run36b m f u Z W (by omega) (L.below b) (T.below b) (hO.below b));have e1:decide (60<(p.size:Int))=ZW:=decide_eq_false (by omega);have hinv:=xH Z f;have a1:=vL Z f;have bd:=Jf Z f;obtain⟨av,b0⟩:=uV Z f;generalize dd Z f=D at a4 hinv a1 bd av b0;have hw:=fun d W (L:MaxL W) (T:Tab W) (k:RwS W d D) (C:∀ b,d.ownBlock=Z9 b->b<W.heap.size)=>oJ W.heap.size d D 0 0 0 name W _ L T (gE d D W k C) (by decide) (by decide) (Or.inr (by decide))
 rw[(ox D 0 0 0 name (by decide) (by decide)).1] at hw;obtain⟨bf,c5⟩:∃ b,(cj D name).1=b:=⟨_,rfl⟩;have al:cj D name=(bf,0):=by rw[<-c5,<-hinv.where0 b9]
 rw[al] at hw;dsimp only at hw;have HW:=lh hw;have hc:=fun d W (L:MaxL W) (T:Tab W) (k:RwS W d D) (C:∀ b,d.ownBlock=Z9 b->b<W.heap.size)=>sX W.heap.size d D 0 0 0 i p W _ L T (gE d D W k C) (fun b e=>ZY (C b e) (aj W (.cells #[d,.int .i64 0,.int .i64 0,.int .i64 0] 119)).size) (by omega) (fun y hy=>ZD (b0 y hy) (by decide)) (by decide) (by decide) (Or.inr (by decide)) (by omega)
 unfold dj at hc;rw[wf D 0 0 0 p i (by decide) (by decide) av] at hc;have ar:=Gl D p i;have b8:=Gj hinv a1 (by omega) p i b9;have c0:=BG D 3 i (YO,[],[]) p;have P:=uz D 3 i (YO,[],[]) p;rw[show eL D 3 i (YO,[],[]) p=jf D p i from rfl] at c0 P;unfold Lz at P
 have ag:(apl D (jf D p i).1).length<=17\/(jf D p i).2≠0:=by
  by_cases q:(jf D p i).2=0
  .refine .inl ?_
   have:=Lt av (show Old1 D (jf D p i).1 from (show eL D 3 i (YO,[],[]) p=jf D p i from rfl) ▸ Ln D 3 i (YO,[],[]) p);omega
  .exact .inr q
 have a2:∀ y∈apl D (jf D p i).1,y.2.1.size<=1000:=Dv (fun y hy=>ZD (b0 y hy) (by decide)) fun c hc=>ZD (c0 c hc) (by decide)
 generalize jf D p i=g at hc ar b8 P ag a2;obtain⟨cs,J⟩:=g;dsimp only at hc ar b8 P ag a2;have HC:=lh hc;clear hc c0 L T hL hO hv b9 hw c5;by_cases h0:J=0
 rotate_left
 .obtain rfl:=ar h0;have t1:(J != 0)=ZZ:=bne_iff_ne.2 h0;clear b8 ag h0 ar hinv a1;go_enter Tryz.func6,Tryz.ntmps6
  go_wp2_with first|go_at_call 16;(with_reducible refine (b7.o _ (ZM _ _)).mono ?_);rintro _ w1 ⟨rfl,j⟩;have B1:=lh j;clear j|(go_at_call 18;(refine (HF.o _ B1.o).mono ?_);rintro _ w2 ⟨bb,rfl,-,j⟩;have V:=lh (bt B1.o j);clear j;cases bb)|go_at_call 32;(refine (HV.o _ V.o).mono ?_);rintro _ w3 ⟨rfl,j⟩;have B3:=lh (bt V.o j);clear j|go_at_call 33;(refine (a4.o _ B3.o).mono ?_);rintro _ w4 ⟨rv,rfl,k,C,j⟩;obtain⟨ra,rc,rfl,-⟩:=XP k;have X:=lh (bt B3.o j);have R4:=lh k;have O4:=lh C;clear k C j|(go_at_call 21;(with_reducible refine (sh36 _ _ _ _).mono ?_);rintro _ _ ⟨rfl,rfl⟩)|go_at_call 34;(refine (HW.o _ w4 (s.o _ X.o).1 (s.o _ X.o).2 R4.o O4.o).mono ?_);rintro _ w5 ⟨rfl,h,-⟩;have Y:=lh (bt X.o h.b);have R5:=lh h.r;have O5:=lh (fun q x=>ZY (O4.o q x) h.b.size);clear h|go_at_call 35;(refine (HC.o _ w5 (s.o _ Y.o).1 (s.o _ Y.o).2 R5.o O5.o).mono ?_);rintro _ w6 ⟨ov,rfl,o,h,-⟩;obtain⟨ca,cc,rfl,-⟩:=XP o;have B6:=lh (bt Y.o h.b);clear o h
  all_goals
   go_ret
   first|exact⟨rfl,B6.o⟩|exact⟨rfl,V.o⟩
 subst h0;obtain⟨r1,r2,r3,r4,r5⟩:=b8 rfl;have c3:(apl D cs).length<=17:=ag.resolve_right (fun q=>q rfl);have b6:=lh (fun rv cv W (k:RwS W rv D) (hc:ChS W cv cs)=>AY rv D cv cs W k hc (by omega) (by omega));have b2:=fun d W (L:MaxL W) (T:Tab W) (k:RwS W d D) (C:∀ b,d.ownBlock=Z9 b->b<W.heap.size)=>wc W.heap.size d D 0 0 0 bf 0 (p++⟨#[46,42,42]⟩) W _ L T (gE d D W k C) (fun b e=>ZY (C b e) (aj W (.cells #[d,.int .i64 0,.int .i64 0,.int .i64 0] 119)).size) (by omega) (fun y hy=>ZD (b0 y hy) (by decide)) (by decide) (by decide) (Or.inr (by decide))
 unfold lX at b2;rw[IX D bf (p++⟨#[46,42,42]⟩)] at b2;generalize (eK D 0 0 0 bf 0 (p++⟨#[46,42,42]⟩)).1.2=lc at b2;have bk:=lh b2;have c1:=Dw cs av;generalize apl D cs=R at r1 r2 r3 r4 r5 c3 b6 a2 c1;have b3:=fun d W (L:MaxL W) (T:Tab W) (k:RwS W d R) (C:∀ b,d.ownBlock=Z9 b->b<W.heap.size)=>oJ W.heap.size d R 0 0 0 name W _ L T (gE d R W k C) (by decide) (by decide) (Or.inr (by decide))
 rw[(ox R 0 0 0 name (by decide) (by decide)).1] at b3;have ba:=fun d W (L:MaxL W) (T:Tab W) (k:RwS W d R) (C:∀ b,d.ownBlock=Z9 b->b<W.heap.size)=>oJ W.heap.size d R 0 0 0 p W _ L T (gE d R W k C) (by decide) (by decide) (Or.inr (by decide))
 rw[(ox R 0 0 0 p (by decide) (by decide)).1,r3] at ba;dsimp only at ba;obtain⟨af,c4⟩:∃ b,(cj R name).1=b:=⟨_,rfl⟩;have bc:cj R name=(af,0):=by rw[<-c4,<-r1]
 rw[bc] at b3 r2;rw[al] at r2;dsimp only at b3;have br:=lh b3;have bs:=lh ba;have c2:=fun W (b:ZV w.heap.size w W)=>tI (p++⟨#[46,42,42]⟩) name W (s.o W b).1
 generalize Ds.match_ (Ds.bl (p++⟨#[46,42,42]⟩)) (Ds.bl name)=mm at c2 r2;have bp:=lh c2
 have t3:mm=ZZ\/mm=ZW/\(af != bf)=ZW:=by
  cases c8:mm
  .refine .inr ⟨rfl,?_⟩
   have:=YX Prod.fst (r2 c8);dsimp only at this;rw[this];simp
  .exact .inl rfl
 have t4:(i != i)=ZW:=by simp
 have hx:=fun d W (L:MaxL W) (T:Tab W) (k:RwS W d R) (C:∀ b,d.ownBlock=Z9 b->b<W.heap.size)=>sG W.heap.size d R 0 0 0 p W _ L T (gE d R W k C) (fun b e=>ZY (C b e) (aj W (.cells #[d,.int .i64 0,.int .i64 0,.int .i64 0] 119)).size) (by omega) a2 (by decide) (by decide) (Or.inr (by decide)) (by omega)
 unfold dj at hx;rw[wi R 0 0 0 p (by decide) (by decide) c1] at hx;have b1:=uz R 4 i (YO,[],[]) p;rw[show eL R 4 i (YO,[],[]) p=jh R p from rfl] at b1;unfold Lz at b1;generalize jh R p=g at hx r4 r5 b1;obtain⟨ds,J⟩:=g;dsimp only at hx r4 r5 b1;have HX:=lh hx;have a3:=fun d W (L:MaxL W) (T:Tab W) (k:RwS W d R) (C:∀ b,d.ownBlock=Z9 b->b<W.heap.size)=>wc W.heap.size d R 0 0 0 i 50 (p++⟨#[46,42,42]⟩) W _ L T (gE d R W k C) (fun b e=>ZY (C b e) (aj W (.cells #[d,.int .i64 0,.int .i64 0,.int .i64 0] 119)).size) (by omega) a2 (by decide) (by decide) (Or.inr (by decide))
 unfold lX at a3;have a0:=lh (fun rv cv W (k:RwS W rv R) (hc:ChS W cv ds)=>AY rv R cv ds W k hc (by omega) (by omega))
 have K:J=0/\apl R ds=D\/J=9/\(eK R 0 0 0 i 50 (p++⟨#[46,42,42]⟩)).1.2=0/\0<(eK R 0 0 0 i 50 (p++⟨#[46,42,42]⟩)).1.1.length:=by
  by_cases q:J=0
  .exact .inl ⟨q,r4 q⟩
  .exact .inr (r5 q)
 generalize (eK R 0 0 0 i 50 (p++⟨#[46,42,42]⟩)).1=lg at a3 K;obtain⟨ll,cd⟩:=lg;dsimp only at a3 K;generalize ll.length=lk at a3 K;have bi:=lh a3;clear hinv a1 bd av b0 ar ag a2 c1 b2 b3 ba c4 bc al r1 r2 r3 r4 r5 c2 hx a3 c3 P b1;rcases t3 with rfl|⟨rfl,t3⟩ <;> rcases K with ⟨rfl,hD⟩|⟨rfl,rfl,c9⟩
 rotate_left
 .have t6:decide (0<(lk:Int))=ZZ:=ZL (by omega);go_enter Tryz.func6,Tryz.ntmps6
  go_wp2_with first|go_at_call 16;(with_reducible refine (b7.o _ (ZM _ _)).mono ?_);rintro _ w1 ⟨rfl,j⟩;have B1:=lh j;clear j|(go_at_call 18;(refine (HF.o _ B1.o).mono ?_);rintro _ w2 ⟨bb,rfl,-,j⟩;have V:=lh (bt B1.o j);clear j;cases bb)|go_at_call 32;(refine (HV.o _ V.o).mono ?_);rintro _ w3 ⟨rfl,j⟩;have B3:=lh (bt V.o j);clear j|go_at_call 33;(refine (a4.o _ B3.o).mono ?_);rintro _ w4 ⟨rv,rfl,k,C,j⟩;obtain⟨ra,rc,rfl,-⟩:=XP k;have X:=lh (bt B3.o j);have R4:=lh k;have O4:=lh C;clear k C j|(go_at_call 21;(with_reducible refine (sh36 _ _ _ _).mono ?_);rintro _ _ ⟨rfl,rfl⟩)|go_at_call 34;have u1:=E;clear u1;(refine (bs.o _ b4 (s.o _ E.o).1 (s.o _ E.o).2 aa.o O.o).mono ?_);rintro _ b5 ⟨rfl,h,-⟩;have G:=lh (bt E.o h.b);have ab:=lh h.r;have N:=lh (fun q x=>ZY (O.o q x) h.b.size);have a7:=lh (a6.o.below h.b);clear h|go_at_call 34;have u1:=B8;clear u1;(refine (br.o _ w8 (s.o _ B8.o).1 (s.o _ B8.o).2 S8.o O8.o).mono ?_);rintro _ w9 ⟨rfl,h,-⟩;have B9:=lh (bt B8.o h.b);have S9:=lh h.r;have O9:=lh (fun q x=>ZY (O8.o q x) h.b.size);have R9:=lh (R8.o.below h.b);clear h|go_at_call 34;(refine (HW.o _ w4 (s.o _ X.o).1 (s.o _ X.o).2 R4.o O4.o).mono ?_);rintro _ w5 ⟨rfl,h,-⟩;have Y:=lh (bt X.o h.b);have R5:=lh h.r;have O5:=lh (fun q x=>ZY (O4.o q x) h.b.size);clear h|go_at_call 35;(refine (HC.o _ w5 (s.o _ Y.o).1 (s.o _ Y.o).2 R5.o O5.o).mono ?_);rintro _ w6 ⟨ov,rfl,o,h,-⟩;obtain⟨ca,cc,rfl,-⟩:=XP o;have B6:=lh (bt Y.o h.b);have R6:=lh h.r;have O6:=lh (fun q x=>ZY (O5.o q x) h.b.size);have C6:=lh o;clear o h|go_at_call 36;have u1:=B;clear u1;(refine (bi.o _ Q (s.o _ B.o).1 (s.o _ B.o).2 S.o a5.o).mono ?_);rintro _ U ⟨hv,rfl,⟨ha,ao,rfl⟩,h,-⟩;have I:=lh (bt B.o h.b);clear h|go_at_call 36;(refine (bk.o _ w6 (s.o _ B6.o).1 (s.o _ B6.o).2 R6.o O6.o).mono ?_);rintro _ w7 ⟨hv,rfl,⟨ha,ao,rfl⟩,h,-⟩;have B7:=lh (bt B6.o h.b);have R7:=lh h.r;have C7:=lh (C6.o.below h.b);clear h|go_at_call 29;have u1:=B;clear u1;(refine (a0.o _ _ Q S.o ac.o).mono ?_);rintro _ U ⟨c6,rfl,k,-,j⟩;obtain⟨xa,xc,rfl,-⟩:=XP k;have I:=lh (bt B.o j);have ad:=lh k;have a9:=lh (a8.o.below j);clear k j|go_at_call 29;(refine (b6.o _ _ w7 R7.o C7.o).mono ?_);rintro _ w8 ⟨v8,rfl,k,C,j⟩;obtain⟨sa,sc,rfl,-⟩:=XP k;have B8:=lh (bt B7.o j);have S8:=lh k;have O8:=lh (fun q x=>(C q x).2);have R8:=lh (R7.o.below j);clear k C j|go_at_call 37;(refine (bp.o _ B9.o).mono ?_);rintro _ b4 ⟨rfl,j⟩;have E:=lh (bt B9.o j);have aa:=lh (S9.o.below j);have O:=lh (fun q x=>ZY (O9.o q x) j.size);have a6:=lh (R9.o.below j);clear j|go_at_call 38;(refine (HX.o _ b5 (s.o _ G.o).1 (s.o _ G.o).2 ab.o N.o).mono ?_);rintro _ Q ⟨dv,rfl,o,h,-⟩;obtain⟨da,dc,rfl,-⟩:=XP o;have B:=lh (bt G.o h.b);have S:=lh h.r;have a5:=lh (fun q x=>ZY (N.o q x) h.b.size);have a8:=lh (a7.o.below h.b);have ac:=lh o;clear o h|go_at_call 39;(refine (pZ _ _ D U ad.o a9.o).mono ?_);rintro _ c7 ⟨rfl,j⟩;have be:=lh (bt I.o j);clear j
  all_goals
   go_ret
   first|exact⟨rfl,I.o⟩|exact⟨rfl,V.o⟩
 rotate_left
 .have t6:decide (0<(lk:Int))=ZZ:=ZL (by omega);go_enter Tryz.func6,Tryz.ntmps6
  go_wp2_with first|go_at_call 16;(with_reducible refine (b7.o _ (ZM _ _)).mono ?_);rintro _ w1 ⟨rfl,j⟩;have B1:=lh j;clear j|(go_at_call 18;(refine (HF.o _ B1.o).mono ?_);rintro _ w2 ⟨bb,rfl,-,j⟩;have V:=lh (bt B1.o j);clear j;cases bb)|go_at_call 32;(refine (HV.o _ V.o).mono ?_);rintro _ w3 ⟨rfl,j⟩;have B3:=lh (bt V.o j);clear j|go_at_call 33;(refine (a4.o _ B3.o).mono ?_);rintro _ w4 ⟨rv,rfl,k,C,j⟩;obtain⟨ra,rc,rfl,-⟩:=XP k;have X:=lh (bt B3.o j);have R4:=lh k;have O4:=lh C;clear k C j|(go_at_call 21;(with_reducible refine (sh36 _ _ _ _).mono ?_);rintro _ _ ⟨rfl,rfl⟩)|go_at_call 34;have u1:=E;clear u1;(refine (bs.o _ b4 (s.o _ E.o).1 (s.o _ E.o).2 aa.o O.o).mono ?_);rintro _ b5 ⟨rfl,h,-⟩;have G:=lh (bt E.o h.b);have ab:=lh h.r;have N:=lh (fun q x=>ZY (O.o q x) h.b.size);have a7:=lh (a6.o.below h.b);clear h|go_at_call 34;have u1:=B8;clear u1;(refine (br.o _ w8 (s.o _ B8.o).1 (s.o _ B8.o).2 S8.o O8.o).mono ?_);rintro _ w9 ⟨rfl,h,-⟩;have B9:=lh (bt B8.o h.b);have S9:=lh h.r;have O9:=lh (fun q x=>ZY (O8.o q x) h.b.size);have R9:=lh (R8.o.below h.b);clear h|go_at_call 34;(refine (HW.o _ w4 (s.o _ X.o).1 (s.o _ X.o).2 R4.o O4.o).mono ?_);rintro _ w5 ⟨rfl,h,-⟩;have Y:=lh (bt X.o h.b);have R5:=lh h.r;have O5:=lh (fun q x=>ZY (O4.o q x) h.b.size);clear h|go_at_call 35;(refine (HC.o _ w5 (s.o _ Y.o).1 (s.o _ Y.o).2 R5.o O5.o).mono ?_);rintro _ w6 ⟨ov,rfl,o,h,-⟩;obtain⟨ca,cc,rfl,-⟩:=XP o;have B6:=lh (bt Y.o h.b);have R6:=lh h.r;have O6:=lh (fun q x=>ZY (O5.o q x) h.b.size);have C6:=lh o;clear o h|go_at_call 36;have u1:=B;clear u1;(refine (bi.o _ Q (s.o _ B.o).1 (s.o _ B.o).2 S.o a5.o).mono ?_);rintro _ U ⟨hv,rfl,⟨ha,ao,rfl⟩,h,-⟩;have I:=lh (bt B.o h.b);clear h|go_at_call 36;(refine (bk.o _ w6 (s.o _ B6.o).1 (s.o _ B6.o).2 R6.o O6.o).mono ?_);rintro _ w7 ⟨hv,rfl,⟨ha,ao,rfl⟩,h,-⟩;have B7:=lh (bt B6.o h.b);have R7:=lh h.r;have C7:=lh (C6.o.below h.b);clear h|go_at_call 29;have u1:=B;clear u1;(refine (a0.o _ _ Q S.o ac.o).mono ?_);rintro _ U ⟨c6,rfl,k,-,j⟩;obtain⟨xa,xc,rfl,-⟩:=XP k;have I:=lh (bt B.o j);have ad:=lh k;have a9:=lh (a8.o.below j);clear k j|go_at_call 29;(refine (b6.o _ _ w7 R7.o C7.o).mono ?_);rintro _ w8 ⟨v8,rfl,k,C,j⟩;obtain⟨sa,sc,rfl,-⟩:=XP k;have B8:=lh (bt B7.o j);have S8:=lh k;have O8:=lh (fun q x=>(C q x).2);have R8:=lh (R7.o.below j);clear k C j|go_at_call 37;(refine (bp.o _ B9.o).mono ?_);rintro _ b4 ⟨rfl,j⟩;have E:=lh (bt B9.o j);have aa:=lh (S9.o.below j);have O:=lh (fun q x=>ZY (O9.o q x) j.size);have a6:=lh (R9.o.below j);clear j|go_at_call 38;(refine (HX.o _ b5 (s.o _ G.o).1 (s.o _ G.o).2 ab.o N.o).mono ?_);rintro _ Q ⟨dv,rfl,o,h,-⟩;obtain⟨da,dc,rfl,-⟩:=XP o;have B:=lh (bt G.o h.b);have S:=lh h.r;have a5:=lh (fun q x=>ZY (N.o q x) h.b.size);have a8:=lh (a7.o.below h.b);have ac:=lh o;clear o h|go_at_call 39;(refine (pZ _ _ D U ad.o a9.o).mono ?_);rintro _ c7 ⟨rfl,j⟩;have be:=lh (bt I.o j);clear j
  all_goals
   go_ret
   first|exact⟨rfl,I.o⟩|exact⟨rfl,V.o⟩
 all_goals
  rw[hD] at a0;go_enter Tryz.func6,Tryz.ntmps6
  go_wp2_with first|go_at_call 16;(with_reducible refine (b7.o _ (ZM _ _)).mono ?_);rintro _ w1 ⟨rfl,j⟩;have B1:=lh j;clear j|(go_at_call 18;(refine (HF.o _ B1.o).mono ?_);rintro _ w2 ⟨bb,rfl,-,j⟩;have V:=lh (bt B1.o j);clear j;cases bb)|go_at_call 32;(refine (HV.o _ V.o).mono ?_);rintro _ w3 ⟨rfl,j⟩;have B3:=lh (bt V.o j);clear j|go_at_call 33;(refine (a4.o _ B3.o).mono ?_);rintro _ w4 ⟨rv,rfl,k,C,j⟩;obtain⟨ra,rc,rfl,-⟩:=XP k;have X:=lh (bt B3.o j);have R4:=lh k;have O4:=lh C;clear k C j|(go_at_call 21;(with_reducible refine (sh36 _ _ _ _).mono ?_);rintro _ _ ⟨rfl,rfl⟩)|go_at_call 34;have u1:=E;clear u1;(refine (bs.o _ b4 (s.o _ E.o).1 (s.o _ E.o).2 aa.o O.o).mono ?_);rintro _ b5 ⟨rfl,h,-⟩;have G:=lh (bt E.o h.b);have ab:=lh h.r;have N:=lh (fun q x=>ZY (O.o q x) h.b.size);have a7:=lh (a6.o.below h.b);clear h|go_at_call 34;have u1:=B8;clear u1;(refine (br.o _ w8 (s.o _ B8.o).1 (s.o _ B8.o).2 S8.o O8.o).mono ?_);rintro _ w9 ⟨rfl,h,-⟩;have B9:=lh (bt B8.o h.b);have S9:=lh h.r;have O9:=lh (fun q x=>ZY (O8.o q x) h.b.size);have R9:=lh (R8.o.below h.b);clear h|go_at_call 34;(refine (HW.o _ w4 (s.o _ X.o).1 (s.o _ X.o).2 R4.o O4.o).mono ?_);rintro _ w5 ⟨rfl,h,-⟩;have Y:=lh (bt X.o h.b);have R5:=lh h.r;have O5:=lh (fun q x=>ZY (O4.o q x) h.b.size);clear h|go_at_call 35;(refine (HC.o _ w5 (s.o _ Y.o).1 (s.o _ Y.o).2 R5.o O5.o).mono ?_);rintro _ w6 ⟨ov,rfl,o,h,-⟩;obtain⟨ca,cc,rfl,-⟩:=XP o;have B6:=lh (bt Y.o h.b);have R6:=lh h.r;have O6:=lh (fun q x=>ZY (O5.o q x) h.b.size);have C6:=lh o;clear o h|go_at_call 36;have u1:=B;clear u1;(refine (bi.o _ Q (s.o _ B.o).1 (s.o _ B.o).2 S.o a5.o).mono ?_);rintro _ U ⟨hv,rfl,⟨ha,ao,rfl⟩,h,-⟩;have I:=lh (bt B.o h.b);clear h|go_at_call 36;(refine (bk.o _ w6 (s.o _ B6.o).1 (s.o _ B6.o).2 R6.o O6.o).mono ?_);rintro _ w7 ⟨hv,rfl,⟨ha,ao,rfl⟩,h,-⟩;have B7:=lh (bt B6.o h.b);have R7:=lh h.r;have C7:=lh (C6.o.below h.b);clear h|go_at_call 29;have u1:=B;clear u1;(refine (a0.o _ _ Q S.o ac.o).mono ?_);rintro _ U ⟨c6,rfl,k,-,j⟩;obtain⟨xa,xc,rfl,-⟩:=XP k;have I:=lh (bt B.o j);have ad:=lh k;have a9:=lh (a8.o.below j);clear k j|go_at_call 29;(refine (b6.o _ _ w7 R7.o C7.o).mono ?_);rintro _ w8 ⟨v8,rfl,k,C,j⟩;obtain⟨sa,sc,rfl,-⟩:=XP k;have B8:=lh (bt B7.o j);have S8:=lh k;have O8:=lh (fun q x=>(C q x).2);have R8:=lh (R7.o.below j);clear k C j|go_at_call 37;(refine (bp.o _ B9.o).mono ?_);rintro _ b4 ⟨rfl,j⟩;have E:=lh (bt B9.o j);have aa:=lh (S9.o.below j);have O:=lh (fun q x=>ZY (O9.o q x) j.size);have a6:=lh (R9.o.below j);clear j|go_at_call 38;(refine (HX.o _ b5 (s.o _ G.o).1 (s.o _ G.o).2 ab.o N.o).mono ?_);rintro _ Q ⟨dv,rfl,o,h,-⟩;obtain⟨da,dc,rfl,-⟩:=XP o;have B:=lh (bt G.o h.b);have S:=lh h.r;have a5:=lh (fun q x=>ZY (N.o q x) h.b.size);have a8:=lh (a7.o.below h.b);have ac:=lh o;clear o h|go_at_call 39;(refine (pZ _ _ D U ad.o a9.o).mono ?_);rintro _ c7 ⟨rfl,j⟩;have be:=lh (bt I.o j);clear j
  all_goals
   go_ret
   first|exact⟨rfl,be.o⟩|exact⟨rfl,V.o⟩
theorem IH(F:Nat->Oz)(p name:Z7)(i:Int)(w:Z2)(b:MaxL w)(T:Tab w)(L:OS w m f F) :
 ZJ Z6 6 #[.slice m f u,.string p,.string name,.int .i64 i] w fun r C=>r=.returned (.bool ZZ)/\ZV w.heap.size w C:=by
 by_cases h:(f<=16/\∀ k,k<f->few6X (F k))/\p.size<=60/\Ds.name (Ds.bl name)=ZZ
 .obtain⟨⟨e,j⟩,o,s⟩:=h
  obtain⟨Z,O⟩:=L.ol fun k x=>by
   obtain⟨Q,D,E,G,B⟩:=j k x;exact⟨by omega,by omega,Q,B⟩
  exact AE m f u F Z p name i w b T L O e o s
 .exact BR m f u F p name i w b T L h
end
end Go.Proofs.YtnkjliahpeebjaaGreatDoor
section
namespace Go.Proofs.YtnkjliahpeebjaaGreatDoor.masterConnects
open Go.ChangeShapes Go.WideShapes Go.ChangeAt Go.RowKit Go.Proofs.YtnkjliahpeebjaaGreatDoor
open Go.ChangeMaps (open_string)
set_option maxRecDepth 100000 in
theorem contract(H:Type)(enc:YZ × Z3->H)(W:Z2)(base:Nat)(s:ZE Z3)(K Y:Z5 (DataW H))(B:Z5 Wk)(b:∀ (j:Nat) t v,Tryz.f6.params[j]?=Z9 t->s[j]?=Z9 v->Value.okWide Z6 W .any base t v)(N:DataW.Whole enc Z6 Tryz.f6.params.toList Rows.masterConnectsSpec.vars ZW W s.toList K Y B)(L:laidMetH Z6 Rows.masterConnectsRow.laid W)(hS:W.ShapedOpen Z6) :
 ZJ Z6 6 s W fun e J=>∃ v,e=.returned v/\Rows.masterConnectsSpec.post enc Z6 Tryz.f6 ZW ZZ ZW ZW W s v J:=by
 have i:=N;have D:∀ x∈B,x.block<W.heap.size:=fun x I=>by simpa using i.lt x I
 obtain⟨p,q,o,hV,rfl,a0,a1⟩:=N;have k:DataW.TrodAll enc Z6 W 0 (fun _=>ZZ) ZZ Tryz.f6.params.toList s.toList K p:=o;have hK:=k;rw[Tryz.params6] at k b;obtain⟨V,a2,d0,S,p0,q0,C,rfl,rfl,Z,r0⟩:=trodAll_cons k;obtain⟨P,a3,d1,T,p1,q1,rfl,rfl,rfl,h1,r1⟩:=trodAll_cons r0;obtain⟨Q,a4,d2,U,p2,q2,rfl,rfl,rfl,h2,r2⟩:=trodAll_cons r1;obtain⟨R,a5,d3,X,p3,q3,rfl,rfl,rfl,h3,r3⟩:=trodAll_cons r2;obtain⟨rfl,rfl,rfl⟩:=trodAll_nil r3;obtain rfl:s=#[V,P,Q,R]:=by cases s;simp_all
 obtain⟨rfl,rfl⟩:=trodVars_none hV;obtain⟨m,f,u,F0,rfl,o0⟩:=LG (b 0 22 V rfl rfl) Z;have E:=b 1 9 P rfl rfl;obtain⟨s1,rfl⟩:=okWide_string XR E;have G:=b 2 9 Q rfl rfl;obtain⟨s2,rfl⟩:=okWide_string XR G;obtain⟨n3,rfl⟩:=okWide_int Zv (b 3 3 R rfl rfl);rw[MakeChecks.laidMetH_plain _ _ _ (by kernel_rfl)] at L;refine (IH m f u F0 s1 s2 n3 W (Gi hS) (Ik L) o0).mono fun e J ⟨he,O⟩=>?_
 subst he;exact⟨_,rfl,_,_,_,[],_,[],i,trodAll_cons_mk (shut_bool Tryz.underlying4 _) trodAll_mk0,yT O (by rw[Tryz.params6];kernel_rfl) hK (fun x I=>D x (by simpa using I)),rfl,O.frame _,fun h=>by cases h⟩
theorem laid_met(o:Os):laidMetH Z6 Rows.masterConnectsRow.laid ((World.laidAll Z6 o Rows.masterConnectsRow.laid).forCall (fun _ _=>0) ⟨#[],#[(.slice Z8 0 0:Z3),(.string ⟨#[]⟩:Z3),(.string ⟨#[]⟩:Z3),(.int .i64 0:Z3)],[]⟩).memory:=by
 rw[MakeChecks.laidMetH_plain _ _ _ (by kernel_rfl)];exact laidMet_laidAll _ (by kernel_rfl) (by kernel_rfl)
theorem reads(o:Os){H:Type}(enc:YZ × Z3->H):∃ P,DataW.whole enc Z6 ((World.laidAll Z6 o Rows.masterConnectsRow.laid).forCall (fun _ _=>0) ⟨#[],#[(.slice Z8 0 0:Z3),(.string ⟨#[]⟩:Z3),(.string ⟨#[]⟩:Z3),(.int .i64 0:Z3)],[]⟩).memory Tryz.f6.params.toList Rows.masterConnectsSpec.vars ZW #[(.slice Z8 0 0:Z3),(.string ⟨#[]⟩:Z3),(.string ⟨#[]⟩:Z3),(.int .i64 0:Z3)].toList 8=Z9 ([.nil,.lit (.string []),.lit (.string []),.lit (.int .i64 0)],[],P) :=
 ⟨[],by kernel_rfl⟩
set_option maxRecDepth 100000 in
theorem lifted(o:Os)(S:o.Started)(H:Type)(enc:YZ × Z3->H)(F:Stop.Interp) :
 ReturnsInHanded {} Tryz.checked o 6 .any ((OpenSpec.ofChange Rows.masterConnectsSpec).preRow enc Z6 Tryz.f6 Rows.masterConnectsRow.domain ZW Rows.masterConnectsRow.laid) (((OpenSpec.ofChange Rows.masterConnectsSpec).at F).post enc Z6 Tryz.f6 ZW ZZ ZW ZW):=by
 obtain⟨P,B⟩:=reads o enc
 refine returnsInHanded_of_row (C:=Tryz.checked) (s:=OpenSpec.ofChange Rows.masterConnectsSpec) ownk S (by kernel_rfl) Tryz.func6
  (yH (enc:=enc) (C:=Tryz.checked) ZW #[(.slice Z8 0 0:Z3),(.string ⟨#[]⟩:Z3),(.string ⟨#[]⟩:Z3),(.int .i64 0:Z3)] (World.shaped_of_ZipB (by kernel_rfl) (by kernel_rfl)) (by kernel_rfl)
    (OpenSpec.preRow_of_cond 8 B (by kernel_rfl) (fun k x=>by cases x) (by kernel_rfl) (laid_met o))) ?_
 intro W base e D G b h j _ _ _ L i _;exact contract H enc W base e D G b h j L i
theorem said:Rows.MasterConnectsSaid :=
 OpenClaim.holds_of_cond 6 Tryz.f6 rfl rfl rfl rfl rfl rfl rfl ⟨rfl,rfl,rfl,rfl,rfl⟩ rfl rfl rfl rfl rfl (by kernel_rfl) Tryz.func6 joined_masterConnects
  (of_decide_eq_true (by kernel_rfl)) (by unfold Func.isWrapper;first|(rw[if_pos (by decide +kernel)];kernel_rfl)|(rw[if_neg (by decide +kernel)];exact⟨rfl,rfl⟩))
  (fun o s H enc _ F=>by rw[OpenClaim.pre_eq_preRow];exact lifted o s H enc F)
theorem plain(f:FuncId)(b:Func)(i:Tryz.pinned.checked.prog.funcNamed Rows.masterConnectsRow.func=Z9 f)(h:Tryz.pinned.checked.prog.funcs[f]?=Z9 b) :
 ZW=Tryz.pinned.checked.prog.looks []/\∀ (j:Nat) t,b.params[j]?=Z9 t->Tryz.pinned.checked.prog.wantsStandIn t=ZW:=by
 obtain rfl:f=6:=Option.some.inj ((show Tryz.prog.funcNamed Rows.masterConnectsRow.func=Z9 6 by kernel_rfl).symm.trans i) |>.symm
 obtain rfl:b=Tryz.f6:=(Option.some.inj (Tryz.func6.symm.trans h)).symm;refine⟨by kernel_rfl,fun j t e=>?_⟩
 rw[Tryz.params6] at e;have k:=Array.mem_of_getElem? e;have ha:(#[22,9,9,3]:ZE YZ).all (fun t=>!Tryz.prog.wantsStandIn t)=ZZ:=by kernel_rfl
 have:=(Array.all_eq_true_iff_forall_mem.1 ha) t k;exact (show Tryz.prog.wantsStandIn t=ZW by simpa using this)
theorem card:Rows.MasterConnectsCardSaid :=
 Claim7.holds_tied_plain_at .later [] _ _ _ _ said (fun _ h=>by cases h) (by kernel_rfl) (fun _ h=>by cases h) masterConnects_row_tie rfl ⟨rfl,rfl⟩ (by kernel_rfl) rfl plain (by kernel_rfl)
end Go.Proofs.YtnkjliahpeebjaaGreatDoor.masterConnects
end
