/- Catalogs. -/
import Derived.Test.YtnkjliahpeebjaaGreatDoorFrameEs
import Derived.Test.YtnkjliahpeebjaaGreatDoorAr
import Derived.Test.YtnkjliahpeebjaaGreatDoorJMasterChanges
set_option maxRecDepth 100000
set_option maxHeartbeats 16000000
open Option renaming some->Z9,none->Z7
open Go.Proofs.Tryz renaming prog->Z8,underlying3->Zg
open _root_ renaming ByteArray->Z6,List->Z3,Option->Zm
open Go.RowKit renaming Below->Z4
open Bool renaming false->Z2,true->ZZ
open Go renaming Value->Z1,World->ZY,Calls->ZJ,TypeId->Y0,wp_region_held_drew->XY,Addr->XE,MemPlace->VM,DataW->Vg
open Go.Act renaming put->ZG
open List renaming getElem?_eq_getElem->ZF,head_eq_of_cons_eq->ZB,length_take->YD,length_drop->Yp,take_append_drop->WW
open Go.DataW renaming trod_int->YS,trod->V5
namespace Go.Proofs.YtnkjliahpeebjaaGreatDoor
variable{H:Type}(m:Zm XE)(c:Z1)(d f:Nat){l:Z3 Z1}{a:Zm XE}(F:Nat->Rw)(R L:Z3 Rw){r:Reach}{W:ZY}{n base g:Nat}{v:Z1}(k i:Int)(e:En)(x:Fu){p:Z3 VM}(s:Z6)(B C:Zm XE)(u A q t:Nat)
section
open Go.ChangeShapes Go.WideShapes Go.RowKit
theorem xP{enc:Y0 × Z1->H}{x:Vg H × Z3 VM}(h:V5 enc Z8 W 0 (fun _=>ZZ) ZZ g 26 [v]=Z9 x) :
 ∃ (a:Zm XE) (n c:Nat),v=.slice a n c/\(n<=1000->∃ l:Z3 Int,l.length=n/\IS W v l):=by
 rcases open_ints Tryz.underlying26 Zg (by kernel_rfl) h with ⟨D,-⟩|⟨a,j,y,z,D,-,O,-,E,-,G,-⟩
 .obtain rfl:v=.slice Z7 0 0:=by simpa using D
  exact⟨Z7,0,0,rfl,fun _=>⟨[],rfl,IS.nil W⟩⟩
 .obtain rfl:v=.slice (Z9 a) j y:=by simpa using D
  refine⟨Z9 a,j,y,rfl,fun P=>⟨z.take j,by rw[YD];split at E <;> omega,?_⟩⟩
  have w:(z.take j).length=j:=by rw[YD];split at E <;> omega
  refine⟨Z9 a,y,by rw[w],by omega,fun J=>?_⟩
  rw[w] at J;have N:j<=z.length:=by split at E <;> omega
  have f:=G 0 (by omega)
  have I:a.spot=Z7:=by
   have:=World.cell?_spot f;simpa [Addr.add] using this
  obtain⟨b,o,s⟩:=a;simp only at I
  subst I;refine⟨b,o,rfl,?_,fun k K=>?_⟩
  .have:=World.block_lt_of_cell? W _ f;simpa [Addr.add] using this
  .rw[w] at K;have:=G k (by omega);rw[Addr.add_mid] at this;rw[this];simp [List.getD_eq_getElem?_getD,ZF (show k<z.length by omega)]
def EFT(w:ZY)(b o:Nat)(x:Ef):Prop :=
 ∃ (B:Zm XE) (A:Nat) (C:Zm XE) (t:Nat),mid w b o=x.e.vals (.slice B x.n1 A) (.slice C x.n2 t)/\x.n1<=9223372036854775807/\x.n2<=9223372036854775807/\(x.n1<=1000->∃ l:Z3 Int,l.length=x.n1/\IS w (.slice B x.n1 A) l)/\(x.n2<=1000->x.gs.length=x.n2/\GS w (.slice C x.n2 t) x.gs)
def EST(w:ZY)(a:Zm XE)(n:Nat)(F:Nat->Ef):Prop:=n<=9223372036854775807/\∀ k,k<n->∃ b o,a=Z9 ⟨b,o,Z7⟩/\b<w.heap.size/\EFT w b (o+k*33) (F k)
theorem EST.es{w:ZY}{F:Nat->Ef}(h:EST w a n F):ES w a n F :=
 ⟨h.1,fun k I=>by
  obtain⟨b,o,j,y,B,A,C,t,z,D,E,-,G⟩:=h.2 k I;exact⟨b,o,j,y,B,A,C,t,z,D,E,G⟩⟩
theorem vz{enc:Y0 × Z1->H}{c:Nat}{x:Vg H × Z3 VM}(h:V5 enc Z8 W 0 (fun _=>ZZ) ZZ g 26 [.slice a n c]=Z9 x):n<=1000->∃ l:Z3 Int,l.length=n/\IS W (.slice a n c) l:=by
 obtain⟨j,N,o,e,b⟩:=xP h;cases e
 exact b
theorem zuN{enc:Y0 × Z1->H}{d:Vg H}(N:Value.okWide Z8 W r base 33 v)(h:DataW.Trod enc Z8 W 0 (fun _=>ZZ) ZZ 33 v d p) :
 ∃ (a:Zm XE) (n c:Nat) (F:Nat->Ef),v=.slice a n c/\EST W a n F:=by
 obtain⟨a,n,c,rfl⟩:=okWide_slice Tryz.underlying33 N;obtain⟨g,hf⟩:=h;rcases Go.Deep.open_slice Tryz.underlying33 hf with ⟨U,-⟩|⟨O,a5,a4,m,f,D,Pl,U,-,hl,I,hm,-,hi⟩
 .have:=ZB U;injection this with Q S T
  subst Q S T;exact⟨Z7,0,0,fun _=>⟨En.zero,0,0,[]⟩,rfl,by omega,fun k K=>by omega⟩
 .have:=ZB U;injection this with Q S T
  subst Q S T;have y:Tryz.prog.cellsOf 29=33:=by kernel_rfl
  have E:∀ k,k<n->∃ (x:Ef) (b o:Nat),O=⟨b,o,Z7⟩/\b<W.heap.size/\EFT W b (o+k*33) x:=fun k K=>by
   obtain⟨cs,hc,ht⟩:=hi k (by rw[hm];split <;> omega);rw[y] at hc;obtain⟨_,Y,X⟩:=World.cells?_some hc;obtain⟨e,B,u,A,C,q,t,Z,l1,l2,hg,fl,zz,a1⟩:=uA Y ht;have V:=vz a1;obtain⟨P,G,-⟩:=hi 0 (by rw[hm];split <;> omega);rw[y] at G;obtain⟨_,a2,z⟩:=World.cells?_some G;have z0:=(z 0 (by omega)).trans (ZF (by omega:0<P.length));obtain⟨b,o,s⟩:=O
   obtain rfl:s=Z7:=by
    have:=World.cell?_spot z0;simpa [Addr.add] using this
   have j:∀ (i:Nat) (v:Z1),(e.vals (.slice B u A) (.slice C q t))[i]?=Z9 v->W.cell? ⟨b,o+k*33+i,Z7⟩=Z9 v:=fun i v N=>by
    have a3:i<33:=by have:=(Array.getElem?_eq_some_iff.1 N).1;rw[ah] at this;exact this
    have:=X i (by omega);rw[Addr.add_mid,Addr.add_mid] at this;rw[this,Z,Array.getElem?_toList];exact N
   have J:=wd (w:=W) (b:=b) (o:=o+k*33) (ah e (.slice B u A) (.slice C q t)) j;refine⟨⟨e,u,q,if h:q<=1000 then Classical.choose (hg h) else []⟩,b,o,rfl,block_lt_of_cell (j 0 _ (ap _ _ _)),B,A,C,t,J,l1,l2,V,fun h=>?_⟩
   have:=Classical.choose_spec (hg h);simp only[dif_pos (show q<=1000 from h)]
   exact this
  refine⟨Z9 O,n,c,fun k=>if h:k<n then Classical.choose (E k h) else ⟨En.zero,0,0,[]⟩,rfl,by simp only[maxLen] at I;omega,fun k K=>?_⟩
  obtain⟨b,o,ha,a0,hE⟩:=Classical.choose_spec (E k K);refine⟨b,o,by rw[ha],a0,?_⟩
  simp only[dif_pos K]
  exact hE
end
section
open Go.ChangeShapes Go.WideShapes Go.RowKit
theorem yI(h:l.length=36):l=((l.drop 0).take 1++(l.drop 1).take 1)++((l.drop 2).take 33++(l.drop 35).take 1):=by
 rw[List.drop_zero];have E:l=l.take 1++l.drop 1:=(WW 1 l).symm
 have b:l.drop 1=(l.drop 1).take 1++l.drop 2:=by
  have:=(WW 1 (l.drop 1)).symm;rwa [List.drop_drop] at this
 have j:l.drop 2=(l.drop 2).take 33++l.drop 35:=by
  have:=(WW 33 (l.drop 2)).symm;rwa [List.drop_drop] at this
 have o:(l.drop 35).take 1=l.drop 35:=List.take_of_length_le (by rw[Yp];omega);rw[o,<-j,List.append_assoc,<-b];exact E
theorem Ej{enc:Y0 × Z1->H}{x:Vg H × Z3 VM}(G:l.length=36)(h:V5 enc Z8 W 0 (fun _=>ZZ) ZZ g 31 l=Z9 x) :
 ∃ (k i:Int) (e:En) (s:Z6) (B:Zm XE) (u A:Nat) (C:Zm XE) (q t:Nat),l=(opv k i e (.slice B u A) (.slice C q t) s).toList/\u<=9223372036854775807/\q<=9223372036854775807/\(u<=1000->∃ l:Z3 Int,l.length=u/\IS W (.slice B u A) l)/\(q<=1000->∃ l:Z3 Gr,l.length=q/\GS W (.slice C q t) l):=by
 obtain⟨n,o⟩:=nk Tryz.underlying31 h;have Z:Tryz.prog.cellsOf 29=33:=by kernel_rfl
 have N:Tryz.prog.cellsOf 3=1:=by kernel_rfl
 have O:Tryz.prog.cellsOf 9=1:=by kernel_rfl
 obtain⟨_,I⟩:=o 0 _ rfl;obtain⟨_,J⟩:=o 1 _ rfl;obtain⟨_,T⟩:=o 2 _ rfl;obtain⟨_,K⟩:=o 3 _ rfl;obtain⟨k,E,-⟩:=YS Zg I;obtain⟨i,b,-⟩:=YS Zg J;obtain⟨s,j,-⟩:=DataW.trod_string Tryz.underlying9 K;have E:(l.drop 0).take (Tryz.prog.cellsOf 3)=[.int .i64 k]:=E;have b:(l.drop 1).take (Tryz.prog.cellsOf 3)=[.int .i64 i]:=b;have j:(l.drop 35).take (Tryz.prog.cellsOf 9)=[.string s]:=j;have T:V5 enc Z8 W 0 (fun _=>ZZ) ZZ n 29 ((l.drop 2).take (Tryz.prog.cellsOf 29))=Z9 _:=T;rw[N] at E b;rw[O] at j;rw[Z] at T;obtain⟨e,B,u,A,C,q,t,D,u1,u2,w,P,z,y⟩:=uA (by rw[YD,Yp];omega) T;refine⟨k,i,e,s,B,u,A,C,q,t,?_,u1,u2,vz y,w⟩
 rw[yI G,E,b,D,j];unfold opv opc;simp
theorem Eo{enc:Y0 × Z1->H}{d:Vg H}(G:Value.okWide Z8 W r base 31 v)(h:DataW.Trod enc Z8 W 0 (fun _=>ZZ) ZZ 31 v d p) :
 ∃ (k i:Int) (e:En) (s:Z6) (B:Zm XE) (u A:Nat) (C:Zm XE) (q t:Nat),v=.agg (opv k i e (.slice B u A) (.slice C q t) s)/\u<=9223372036854775807/\q<=9223372036854775807/\(u<=1000->∃ l:Z3 Int,l.length=u/\IS W (.slice B u A) l)/\(q<=1000->∃ l:Z3 Gr,l.length=q/\GS W (.slice C q t) l):=by
 obtain⟨⟨l⟩,rfl,z,-⟩:=zu Tryz.underlying31 G;have e:Tryz.prog.cellsOf 31=36:=by kernel_rfl
 rw[e] at z;obtain⟨g,y⟩:=h;obtain⟨k,i,E,s,B,u,A,C,q,t,D,b,j,o,w⟩:=Ej (l:=l) (by simpa using z) y;refine⟨k,i,E,s,B,u,A,C,q,t,?_,b,j,o,w⟩
 congr 1
 exact Array.toList_inj.1 D
end
section
open Go.RowKit
set_option linter.unusedSimpArgs false
theorem FY(j G:Z1)(w:ZY)(N:MaxL w)(T:Tab w)(P:RwS w c R)(O:∀ b,c.ownBlock=Z9 b->b<w.heap.size)(Q:x.1.name.size<=60)(I:IS w j x.2.1)(D:GS w G x.2.2) :
 ZJ Z8 23 #[.iface 56 (.pointer (Z9 ⟨w.heap.size,0,Z7⟩)),.agg (x.1.vals j G)] (w.alloc (.cells #[c,.int .i64 0,.int .i64 0,.int .i64 0] 119)) fun r h=>∃ o,r=.returned (.tuple #[o,.int .i64 (jS R x).2])/\ChS h o (jS R x).1/\RwS h c R/\Z4 w.heap.size w h:=by
 have E:=aj w (.cells #[c,.int .i64 0,.int .i64 0,.int .i64 0] 119);refine (Av w.heap.size c R 0 0 0 x j G w _ N T (mh c R w P O) (Int.le_refl _) (by decide) (.inr (Int.le_refl _)) (by omega) (I.below E) (D.below E) (fun y q z=>by have:=tO I y q z;omega) (fun y q z=>by have:=sV D y q z;omega)).mono ?_
 rintro _ h ⟨o,rfl,J,K,-⟩;rw[Bz R 0 0 0 x (Int.le_refl _) (Int.le_refl _)] at J |-;exact⟨o,rfl,J,K.r,K.b⟩
attribute [local go_sem ↓] fb lT nJ Hh
attribute [local go_sem] bn aS aH bE bH aK aT ak aI aw az aM ah eO aQ aL aP aO aR aY aW bD
theorem yN(z G:Z1)(w:ZY)(hm:MaxL w)(hT:Tab w)(hS:RwS w (.slice m d f) L)(hL:L.length<=16)(b0:∀ y∈L,y.2.1.size<=60)(I:x.1.name.size<=60)(a5:s.size<=60)(hI:IS w z x.2.1)(hG:GS w G x.2.2)(hF:∀ W,Z4 w.heap.size w W->ZJ Z8 17 #[.slice m d f,.int .i64 16] W fun r w'=>∃ b:Bool,r=.returned (.bool b)/\w'=W)(hW:∀ W,Z4 w.heap.size w W->ZJ Z8 18 #[.slice (Z9 ⟨W.heap.size,0,Z7⟩) 1 1,.int .i64 1] (W.alloc (.cells (opv k i x.1 z G s) 31)) fun r w'=>∃ b:Bool,r=.returned (.bool b)/\Z4 W.heap.size W w') :
 ZJ Z8 4 #[.slice m d f,.agg (opv k i x.1 z G s)] w fun r w'=>r=.returned (.bool ZZ)/\Z4 w.heap.size w w':=by
 have b1:=kl (k:=k) (i:=i) (s:=s) (ay x.1 z G (aD hI) (aE hG));have be:=lh (fun W (b:Z4 w.heap.size w W)=>aw36 W (hm.below b) (hT.below b));have HF:=lh hF;have HW:=lh hW;have ao:=pv L L.length;have a3:=mJ L L.length;have X:∀ y∈dst L L.length,y.2.1.size<=60:=fun y hy=>b0 y (List.mem_of_mem_take (lC L L.length y hy))
 have a8:=lh (fun W (b:Z4 w.heap.size w W)=>rdist (.slice m d f) L W (by omega) (hS.below b));generalize dst L L.length=D at ao a3 X a8;have hd:=fun c W (b:Z4 w.heap.size w W) (hr:RwS W c D) ho=>vL c D k i x s z G W (hm.below b) (hT.below b) hr ho a3 (by omega) X I a5 (hI.below b) (hG.below b)
 have Y:=fun c W (b:Z4 w.heap.size w W) (hr:RwS W c D)=>Gt c D k i x s z G W hr (by omega) X I a5 (hI.below b) (hG.below b)
 have hu:=fun c W (b:Z4 w.heap.size w W) (hr:RwS W c D) ho=>FY c D x z G W (hm.below b) (hT.below b) hr ho I (hI.below b) (hG.below b)
 have Z:=fun c W (b:Z4 w.heap.size w W) (hr:RwS W c D)=>zX c D x z G W hr (ay _ _ _ (aD hI) (aE hG)) (fun W2 b2=>pL x z G W2 I (hI.below (bt b b2)) (hG.below (bt b b2))) (fun bk W2 b2=>mZ x z G W2 bk I (hI.below (bt b b2)) (hG.below (bt b b2)))
 generalize eL D k i x s=g1 at hd Y;generalize jS D x=g2 at hu Z;obtain⟨A,e1⟩:=g1;obtain⟨t,e2⟩:=g2;dsimp only at hd hu;have l1:(e1==e1)=ZZ:=by simp
 have l2:(e2==e2)=ZZ:=by simp
 have J:=lh (fun (W:ZY) g (h:row W g=opv k i x.1 z G s)=>oD h);generalize ag:opv k i x.1 z G s=cv at hd Y HW b1 J;have j:cv.size=36:=by rw[<-ag];exact eO _ _ _ _ _ _
 generalize av:x.1.vals z G=ev at hu Z J;have ar:ev.size=33:=by rw[<-av];exact ah _ _ _
 have HD:=lh hd;have bg:=lh Y;have HU:=lh hu;have bi:=lh Z;have a7:=lh (aj w (.cells cv 31));have R0:=ak w cv 31 (0,0);clear hd Y hu Z hF hW hS hm hT hI hG I a5 ao a3 X b0 ag av;go_enter Tryz.func4,Tryz.ntmps4
 go_upto_region 6 with (first
  | (go_at_call 16;(with_reducible refine (be.o _ a7.o).mono ?_);rintro _ w1 ⟨rfl,o⟩;have R:=am o R0 (by rw[j];decide);have B:=lh (bt a7.o o);clear o)
  | (go_at_call 17;(refine (HF.o _ B.o).mono ?_);rintro _ w2 ⟨bb,rfl,rfl⟩;cases bb)
  | (go_at_call 18;(refine (HW.o _ B.o).mono ?_);rintro _ w3 ⟨bb,rfl,o⟩;have R:=am o R (by rw[j];decide);have B:=lh (bt B.o o);clear o;cases bb)
  | (go_at_call 19;(refine (a8.o _ B.o).mono ?_);rintro _ w4 ⟨v3,rfl,hD,ac,o⟩;obtain⟨va,vc,rfl,-⟩:=_root_.id hD;have R:=am o R (by rw[j];decide);have B:=lh (bt B.o o);have SD:=lh hD;have a2:=lh (fun q hq=>(ac q hq).2);clear hD ac o))
 .go_ret
  exact⟨rfl,B.o⟩
 .go_ret
  exact⟨rfl,B.o⟩
 refine XY (S:=fun w'=>row w' w.heap.size=cv) (by kernel_rfl) R (fun hHeld=>?_)
 (refine rgy (i:=0) (Z9 27) ?_;(try simp only[ZG,pz]))
 (refine eq (i:=3) (Z9 30) (v:=.agg (cv)) rfl rfl (by kernel_rfl) (by kernel_rfl) (by kernel_rfl) (fun _ _ _ h=>h) (by kernel_rfl) (fun T O=>?_) (by assumption) ?_;focus (exact (lT _ T _ _ _ _ _ _ rfl (by show (row T (w.heap.size)).size=36;rw[O];exact j)).trans (by show Result.ok (Next.value (.agg (row T (w.heap.size)))) T=_;rw[O]));(try simp only[ZG,pz]))
 refine rgb (i:=1) (by kernel_rfl) rfl (fun K N=>?_)
 go_simp
 go_at_call 21
 refine (sh36 _ _ _ _).mono ?_
 rintro _ _ ⟨rfl,rfl⟩;refine N.out _ _ (am (aj w4.drew _) R (by rw[j];decide)) (fun hHeld=>?_)
 (clear N K;(try simp only[ZG,pz]))
 (refine rgy (i:=2) (Z9 29) ?_;(try simp only[ZG,pz]))
 refine rgb (i:=4) (by kernel_rfl) rfl (fun K N=>?_)
 go_simp
 go_at_call 20
 refine (HD.o _ w4.drew B.o.drew (SD.o.below (Below.refl _ _).drew) a2.o).mono ?_
 rintro _ w5 ⟨ov,rfl,hc,b3,o⟩;have U:Z4 w4.heap.size w4 w5:=(Below.refl w4.heap.size w4).drew.trans o;have R5:=am U R (by rw[j];decide);refine N.out _ _ R5 (fun hHeld=>?_)
 (clear N K;(try simp only[ZG,pz]))
 (refine rgy (i:=5) (Z9 26) ?_;(try simp only[ZG,pz]))
 (refine rgy (i:=6) (Z9 32) ?_;(try simp only[ZG,pz]))
 (refine rgy (i:=7) (Z9 33) ?_;(try simp only[ZG,pz]))
 (refine rgy (i:=8) (Z9 5) ?_;(try simp only[ZG,pz]))
 (refine rgy (i:=9) (Z9 6) ?_;(try simp only[ZG,pz]))
 refine wpAnyH_done (by kernel_rfl) ?_ _
 have B5:=lh (bt B.o U);have aa:=lh b3;have a9:=lh (fun q hq=>Nat.lt_of_lt_of_le (a2.o q hq) U.size);have C5:=lh hc;clear o b3 hc hHeld U R SD a2 B;go_upto_region 8 with (go_at_call 22;(refine (bg.o _ _ B5.o aa.o).mono ?_);rintro _ w6 ⟨br,rfl,ad,E⟩;have R6:=am E R5 (by rw[j];decide);have B6:=lh (bt B5.o E);have ab:=lh (aa.o.below E);have a0:=lh (fun q hq=>Nat.lt_of_lt_of_le (a9.o q hq) E.size);have b6:=lh (C5.o.below E);have C6:=lh ad;clear ad E)
 refine XY (S:=fun w'=>row w' w.heap.size=cv) (by kernel_rfl) R6 (fun hHeld=>?_)
 (refine rgy (i:=0) (Z9 41) ?_;(try simp only[ZG,pz]))
 (refine rgy (i:=3) (Z9 44) ?_;(try simp only[ZG,pz]))
 refine eq (i:=4) (Z9 45) (v:=.agg ev) rfl rfl (by kernel_rfl) (by kernel_rfl) (by kernel_rfl) (fun _ _ _ h=>h) (by kernel_rfl) (fun T O=>?_) (by assumption) ?_
 focus
  exact (fb _ T _ _ _ _ _ _ rfl (by show (mid T w.heap.size 2).size=33;rw[J.o T _ O];exact ar)).trans (by show Result.ok (Next.value (.agg (mid T w.heap.size 2))) T=_;rw[J.o T _ O])
 try simp only[ZG,List.setIfInBounds_toArray,List.set_cons_zero,List.set_cons_succ]
 refine rgb (i:=1) (by kernel_rfl) rfl (fun K N=>?_)
 go_simp
 go_at_call 21
 refine (sh36 _ _ _ _).mono ?_
 rintro _ _ ⟨rfl,rfl⟩;refine N.out _ _ (am (aj w6.drew _) R6 (by rw[j];decide)) (fun hHeld=>?_)
 (clear N K;(try simp only[ZG,pz]))
 (refine rgy (i:=2) (Z9 43) ?_;(try simp only[ZG,pz]))
 refine rgb (i:=5) (by kernel_rfl) rfl (fun K N=>?_)
 go_simp
 go_at_call 23
 refine (HU.o _ w6.drew B6.o.drew (ab.o.below (Below.refl _ _).drew) a0.o).mono ?_
 rintro _ w7 ⟨bs,rfl,hc,b4,o⟩;have P:Z4 w6.heap.size w6 w7:=(Below.refl w6.heap.size w6).drew.trans o;have R7:=am P R6 (by rw[j];decide);refine N.out _ _ R7 (fun hHeld=>?_)
 (clear N K;(try simp only[ZG,pz]))
 (refine rgy (i:=6) (Z9 40) ?_;(try simp only[ZG,pz]))
 (refine rgy (i:=7) (Z9 47) ?_;(try simp only[ZG,pz]))
 (refine rgy (i:=8) (Z9 48) ?_;(try simp only[ZG,pz]))
 (refine rgy (i:=9) (Z9 9) ?_;(try simp only[ZG,pz]))
 (refine rgy (i:=10) (Z9 10) ?_;(try simp only[ZG,pz]))
 refine wpAnyH_done (by kernel_rfl) ?_ _
 have B7:=lh (bt B6.o P);have bj:=lh b4;have b7:=lh (b6.o.below P);have b8:=lh (C6.o.below P);have C7:=lh hc;have a4:=J.o w7 _ R7;have bp:(mid w7 w.heap.size 2).size=33:=by rw[a4];exact ar
 clear o b4 hc hHeld P R6 ab a0 B6
 go_wp2_with first|go_at_call 24;(refine (bi.o _ _ B7.o bj.o).mono ?_);rintro _ w8 ⟨bv,rfl,af,Q⟩;have B8:=lh (bt B7.o Q);have a6:=lh (b7.o.below Q);have b9:=lh (b8.o.below Q);have ba:=lh (C7.o.below Q);have C8:=lh af;clear af Q|go_at_call 25;(refine (rchanges _ _ A _ a6.o b9.o).mono ?_);rintro _ w9 ⟨rfl,V⟩;have B9:=lh (bt B8.o V);have bc:=lh (ba.o.below V);have bd:=lh (C8.o.below V);clear V a6|go_at_call 25;(refine (rchanges _ _ t _ bc.o bd.o).mono ?_);rintro _ c0 ⟨rfl,a1⟩;have b5:=lh (bt B9.o a1);clear a1
 go_ret
 exact⟨rfl,b5.o⟩
theorem Ap(y G:Z1)(A:Prop)(w:ZY)(P:MaxL w)(T:Tab w)(Y:RwL w m d F)(_hone:bh (opv k i e y G s).toList=ZZ)(h:¬ (qS F d 16/\A))(N:∀ W,Z4 w.heap.size w W->ZJ Z8 18 #[.slice (Z9 ⟨W.heap.size,0,Z7⟩) 1 1,.int .i64 1] (W.alloc (.cells (opv k i e y G s) 31)) fun r J=>Z4 W.heap.size W J/\(r=.returned (.bool Z2)\/r=.returned (.bool ZZ)/\Hid A)) :
 ZJ Z8 4 #[.slice m d f,.agg (opv k i e y G s)] w fun r J=>r=.returned (.bool ZZ)/\Z4 w.heap.size w J:=by
 have E:=lh (fun W (b:Z4 w.heap.size w W)=>aw36 W (P.below b) (T.below b));have Q:=lh (fun W (b:Z4 w.heap.size w W)=>rfew34 m d f F 16 W (Y.below b));have K:=lh N;have S:=lh h;have z:=eO k i e y G s;have D:=_hone;generalize opv k i e y G s=cv at K D z |-;have o:=lh (aj w (.cells cv 31));have U:=ak w cv 31 (0,0);clear h N P T;go_enter Tryz.func4,Tryz.ntmps4
 go_wp2_with first|go_at_call 16;(with_reducible refine (E.o _ o.o).mono ?_);rintro _ w1 ⟨rfl,j⟩;have R:=am j U (by rw[z];decide);have B:=lh (bt o.o j);clear j|(go_at_call 17;(refine (Q.o _ B.o).mono ?_);rintro _ w2 ⟨V,rfl,O,rfl⟩;have I:=lh O;clear O;cases V)|(go_at_call 18;(refine (K.o _ B.o).mono ?_);rintro _ w3 ⟨j,Z⟩;have B:=lh (bt B.o j);clear j;rcases Z with rfl|⟨rfl,X⟩;rotate_left 1;exact absurd ⟨I.o (by simp),X.o⟩ S.o)
 all_goals
  go_ret
  exact⟨rfl,B.o⟩
theorem ext36(c:Array Z1)(h:c.size=36):c.extract (0+0*36) (0+0*36+36)=c:=by
 show c.extract 0 36=c
 rw[<-h];simp
theorem Gd(w:ZY)(X:MaxL w)(U:Tab w)(K:RwL w m d F)(Z:u<=1000->∃ l:Z3 Int,l.length=u/\IS w (.slice B u A) l)(o2:q<=1000->∃ l:Z3 Gr,l.length=q/\GS w (.slice C q t) l)(u1:u<=9223372036854775807)(u2:q<=9223372036854775807) :
 ZJ Z8 4 #[.slice m d f,.agg (opv k i e (.slice B u A) (.slice C q t) s)] w fun r E=>r=.returned (.bool ZZ)/\Z4 w.heap.size w E:=by
 have o:∃ G:Z3 Gr,q<=1000->G.length=q/\GS w (.slice C q t) G:=by
  by_cases h:q<=1000
  .obtain⟨g,D,J⟩:=o2 h;exact⟨g,fun _=>⟨D,J⟩⟩
  .exact⟨[],fun k=>absurd k h⟩
 obtain⟨G,o⟩:=o
 have z:∀ W,Z4 w.heap.size w W->ZJ Z8 18 #[.slice (Z9 ⟨W.heap.size,0,Z7⟩) 1 1,.int .i64 1] (W.alloc (.cells (opv k i e (.slice B u A) (.slice C q t) s) 31)) fun r E=>Z4 W.heap.size W E/\(r=.returned (.bool Z2)\/r=.returned (.bool ZZ)/\Hid (few6X ⟨k,i,⟨e,u,q,G⟩,s⟩)):=fun W b=>by
  have N:=aj W (.cells (opv k i e (.slice B u A) (.slice C q t) s) 31)
  have P:OS (W.alloc (.cells (opv k i e (.slice B u A) (.slice C q t) s) 31)) (Z9 ⟨W.heap.size,0,Z7⟩) 1 (fun _=>⟨k,i,⟨e,u,q,G⟩,s⟩):=by
   refine⟨by omega,fun j V=>⟨W.heap.size,0,rfl,by simp,B,A,C,t,?_,u1,u2,fun h=>?_,fun h=>⟨(o h).1,((o h).2.below b).below N⟩⟩⟩
   .obtain rfl:j=0:=by omega
    unfold eI;rw[ak];exact ext36 _ (eO _ _ _ _ _ _)
   .obtain⟨l,D,J⟩:=Z h;exact⟨l,D,(J.below b).below N⟩
  refine (few36 _ 1 1 _ 1 _ P).mono ?_
  rintro r E ⟨I,rfl,hf,O⟩;refine⟨bt N O,?_⟩
  cases I
  .exact .inl rfl
  .exact .inr ⟨rfl,lh ((hf rfl).2 0 (by omega))⟩
 by_cases h:qS F d 16/\few6X ⟨k,i,⟨e,u,q,G⟩,s⟩
 .obtain⟨⟨h0,hk⟩,D,-,h3,h4,T⟩:=h;dsimp only at D h3 h4 T;obtain⟨l1,z1,i1⟩:=Z (by omega);obtain⟨l2,z2,i2⟩:=o2 (by omega);subst z1 z2;refine yN m d f (rlst F d) k i (e,l1,l2) s _ _ w X U (K.rws f (by omega)) (by rw[lj];omega) (fun y Y=>?_) D T i1 i2 (fun W b=>(rfew34 m d f F 16 W (K.below b)).mono fun r E ⟨I,Q,_,q3⟩=>⟨I,Q,q3⟩) (fun W b=>(z W b).mono fun r E hh=>?_)
  .unfold rlst at Y;obtain⟨j,V,rfl⟩:=List.mem_map.1 Y;exact (hk j (by simpa using V)).1
  .rcases hh with ⟨Q,S|⟨S,-⟩⟩
   .exact⟨Z2,S,Q⟩
   .exact⟨ZZ,S,Q⟩
 .exact Ap m d f F k i e s _ _ _ w X U K (kl (ay _ _ _ rfl rfl)) h z
end
end Go.Proofs.YtnkjliahpeebjaaGreatDoor
section
namespace Go.Proofs.YtnkjliahpeebjaaGreatDoor.masterChanges
open Go.ChangeShapes Go.WideShapes Go.ChangeAt Go.RowKit Go.Proofs.YtnkjliahpeebjaaGreatDoor
open Go.ChangeMaps (open_string)
set_option maxRecDepth 100000 in
theorem contract(H:Type)(enc:Y0 × Z1->H)(W:ZY)(base:Nat)(b:Array Z1)(K Z:Z3 (Vg H))(o:Z3 VM)(w:∀ (j:Nat) t v,Tryz.f4.params[j]?=Z9 t->b[j]?=Z9 v->Value.okWide Z8 W .any base t v)(O:DataW.Whole enc Z8 Tryz.f4.params.toList Rows.masterChangesSpec.vars Z2 W b.toList K Z o)(N:laidMetH Z8 Rows.masterChangesRow.laid W)(hS:W.ShapedOpen Z8) :
 ZJ Z8 4 b W fun e J=>∃ v,e=.returned v/\Rows.masterChangesSpec.post enc Z8 Tryz.f4 Z2 ZZ Z2 Z2 W b v J:=by
 have y:=O;have G:∀ x∈o,x.block<W.heap.size:=fun x I=>by simpa using y.lt x I
 obtain⟨p,q,D,hV,rfl,a0,a1⟩:=O;have z:DataW.TrodAll enc Z8 W 0 (fun _=>ZZ) ZZ Tryz.f4.params.toList b.toList K p:=D;have hK:=z;rw[Tryz.params4] at z w;obtain⟨S,a2,d0,U,p0,q0,E,rfl,rfl,h0,r0⟩:=trodAll_cons z;obtain⟨T,a3,d1,X,p1,Q,rfl,rfl,rfl,h1,r1⟩:=trodAll_cons r0;obtain⟨rfl,rfl,rfl⟩:=trodAll_nil r1;obtain rfl:b=#[S,T]:=by cases b;simp_all
 obtain⟨rfl,rfl⟩:=trodVars_none hV;obtain⟨m,d,f,F0,rfl,o0⟩:=Ep (w 0 49 S rfl rfl) h0;obtain⟨k1,i1,Y,s1,B,u,A,x1,m1,y1,rfl,u1,V,o1,Q⟩:=Eo (w 1 31 T rfl rfl) h1;rw[MakeChecks.laidMetH_plain _ _ _ (by kernel_rfl)] at N;refine (Gd m d f F0 _ _ Y _ B x1 u A m1 y1 W (Gi hS) (Ik N) o0 o1 Q u1 V).mono fun e J ⟨he,P⟩=>?_
 subst he;exact⟨_,rfl,_,_,_,[],_,[],y,trodAll_cons_mk (shut_bool Tryz.underlying4 _) trodAll_mk0,yT P (by rw[Tryz.params4];kernel_rfl) hK (fun x I=>G x (by simpa using I)),rfl,P.frame _,fun h=>by cases h⟩
def lY:Z1:=.agg #[.int .i64 0,.int .i64 0,.int .i64 0,.string ⟨#[]⟩,.int .i64 0,.int .i64 0,.int .i64 0,.int .i64 0,.int .i64 0,.int .i64 0,.int .i64 0,.int .i64 0,.int .i64 0,.int .i64 0,.int .i64 0,.int .i64 0,.int .i64 0,.int .i64 0,.bool Z2,.int .i64 0,.string ⟨#[]⟩,.string ⟨#[]⟩,.int .i64 0,.int .i64 0,.bool Z2,.slice Z7 0 0,.int .i64 0,.int .i64 0,.int .i64 0,.bool Z2,.string ⟨#[]⟩,.string ⟨#[]⟩,.int .i64 0,.int .i64 0,.slice Z7 0 0,.string ⟨#[]⟩]
def xB{H:Type}:Vg H:=.agg [.lit (.int .i64 0),.lit (.int .i64 0),.agg [.lit (.int .i64 0),.lit (.string []),.agg [.lit (.int .i64 0),.lit (.int .i64 0),.lit (.int .i64 0),.lit (.int .i64 0),.lit (.int .i64 0),.lit (.int .i64 0),.lit (.int .i64 0),.lit (.int .i64 0),.lit (.int .i64 0),.lit (.int .i64 0),.lit (.int .i64 0),.lit (.int .i64 0),.lit (.int .i64 0),.lit (.int .i64 0),.lit (.bool Z2),.lit (.int .i64 0),.lit (.string []),.lit (.string []),.lit (.int .i64 0),.lit (.int .i64 0),.lit (.bool Z2)],.nil,.lit (.int .i64 0),.lit (.int .i64 0),.lit (.int .i64 0),.lit (.bool Z2),.lit (.string []),.lit (.string []),.lit (.int .i64 0),.lit (.int .i64 0),.nil],.lit (.string [])]
theorem laid_met(o:Os):laidMetH Z8 Rows.masterChangesRow.laid ((World.laidAll Z8 o Rows.masterChangesRow.laid).forCall (fun _ _=>0) ⟨#[],#[(.slice Z7 0 0:Z1),(lY:Z1)],[]⟩).memory:=by
 rw[MakeChecks.laidMetH_plain _ _ _ (by kernel_rfl)];exact laidMet_laidAll _ (by kernel_rfl) (by kernel_rfl)
theorem reads(o:Os){H:Type}(enc:Y0 × Z1->H):∃ P,DataW.whole enc Z8 ((World.laidAll Z8 o Rows.masterChangesRow.laid).forCall (fun _ _=>0) ⟨#[],#[(.slice Z7 0 0:Z1),(lY:Z1)],[]⟩).memory Tryz.f4.params.toList Rows.masterChangesSpec.vars Z2 #[(.slice Z7 0 0:Z1),(lY:Z1)].toList 8=Z9 ([.nil,xB],[],P) :=
 ⟨[],by kernel_rfl⟩
set_option maxRecDepth 100000 in
theorem lifted(o:Os)(S:o.Started)(H:Type)(enc:Y0 × Z1->H)(F:Stop.Interp) :
 ReturnsInHanded {} Tryz.checked o 4 .any ((OpenSpec.ofChange Rows.masterChangesSpec).preRow enc Z8 Tryz.f4 Rows.masterChangesRow.domain Z2 Rows.masterChangesRow.laid) (((OpenSpec.ofChange Rows.masterChangesSpec).at F).post enc Z8 Tryz.f4 Z2 ZZ Z2 Z2):=by
 obtain⟨P,I⟩:=reads o enc
 refine returnsInHanded_of_row (C:=Tryz.checked) (s:=OpenSpec.ofChange Rows.masterChangesSpec) ownk S (by kernel_rfl) Tryz.func4
  (yH (enc:=enc) (C:=Tryz.checked) Z2 #[(.slice Z7 0 0:Z1),(lY:Z1)] (World.shaped_of_ZipB (by kernel_rfl) (by kernel_rfl)) (by kernel_rfl)
    (OpenSpec.preRow_of_cond 8 I (by kernel_rfl) (fun k E=>by cases E) (by kernel_rfl) (laid_met o))) ?_
 intro W base h D G b j z _ _ _ w y _;exact contract H enc W base h D G b j z w y
theorem said:Rows.MasterChangesSaid :=
 OpenClaim.holds_of_cond 4 Tryz.f4 rfl rfl rfl rfl rfl rfl rfl ⟨rfl,rfl,rfl,rfl,rfl⟩ rfl rfl rfl rfl rfl (by kernel_rfl) Tryz.func4 joined_masterChanges
  (of_decide_eq_true (by kernel_rfl)) (by unfold Func.isWrapper;first|(rw[if_pos (by decide +kernel)];kernel_rfl)|(rw[if_neg (by decide +kernel)];exact⟨rfl,rfl⟩))
  (fun o S H enc _ F=>by rw[OpenClaim.pre_eq_preRow];exact lifted o S H enc F)
theorem plain(f:FuncId)(b:Func)(w:Tryz.pinned.checked.prog.funcNamed Rows.masterChangesRow.func=Z9 f)(h:Tryz.pinned.checked.prog.funcs[f]?=Z9 b) :
 Z2=Tryz.pinned.checked.prog.looks []/\∀ (j:Nat) t,b.params[j]?=Z9 t->Tryz.pinned.checked.prog.wantsStandIn t=Z2:=by
 obtain rfl:f=4:=Option.some.inj ((show Tryz.prog.funcNamed Rows.masterChangesRow.func=Z9 4 by kernel_rfl).symm.trans w) |>.symm
 obtain rfl:b=Tryz.f4:=(Option.some.inj (Tryz.func4.symm.trans h)).symm;refine⟨by kernel_rfl,fun j t o=>?_⟩
 rw[Tryz.params4] at o;have y:=Array.mem_of_getElem? o;have ha:(#[49,31]:Array Y0).all (fun t=>!Tryz.prog.wantsStandIn t)=ZZ:=by kernel_rfl
 have:=(Array.all_eq_true_iff_forall_mem.1 ha) t y;exact (show Tryz.prog.wantsStandIn t=Z2 by simpa using this)
theorem card:Rows.MasterChangesCardSaid :=
 Claim7.holds_tied_plain_at .later [] _ _ _ _ said (fun _ h=>by cases h) (by kernel_rfl) (fun _ h=>by cases h) masterChanges_row_tie rfl ⟨rfl,rfl⟩ (by kernel_rfl) rfl plain (by kernel_rfl)
end Go.Proofs.YtnkjliahpeebjaaGreatDoor.masterChanges
end
