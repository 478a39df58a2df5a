/- Catalogs. -/
import Derived.Test.YtnkjliahpeebjaaGreatDoorChA
import Derived.Test.YtnkjliahpeebjaaGreatDoorRh
set_option maxRecDepth 8000
set_option maxHeartbeats 8000000
open Option renaming some->Z9,none->Z7
open Go.Proofs.Tryz renaming prog->Z8
open _root_ renaming ByteArray->Z6,List->Z1,if_neg->ZS,if_pos->ZP,beq_eq_false_iff_ne->ZJ,decide_eq_true->ZI,decide_eq_false->ZG,Array->Zy,Option->Zp,congrArg->Y7,bne_iff_ne->YQ
open Go.Proofs.YtnkjliahpeebjaaGreatDoor.Ds renaming bl->Z5,bl_length->ZZ,name->YP,bl_inj->XR,first->Vv
open Go.RowKit renaming Below->Z4,intOf->Zq
open Go renaming Value->Z2,World->ZY,Calls->ZH,bodyPost_ret->ZD,below_setRow->ZA,heap_alloc_new->Zs,heap_alloc_old->Zk,block_lt_of_cell->YF,cell_of_row->Yy,execOp->XP,Ending->VK
open Bool renaming true->ZX,false->ZW
open Nat renaming le_refl->ZV,le_trans->ZC,zero_le->Y6,eq_zero_or_pos->Ym
open Go.World renaming cell?_of_block->ZT,cell?_setCell_other->YE,size_alloc->VL,alloc->VC
open Go.RowKit.Below renaming refl->ZR
open Option.some renaming inj->ZN
open List renaming length_cons->Zw,drop_eq_getElem_cons->Zb,eq_nil_of_length_eq_zero->Y5,drop_length->Wy
open Int renaming le_refl->We
namespace Go.Proofs.YtnkjliahpeebjaaGreatDoor
open Go.RowKit
variable(a:Addr)(b:Operand->Z2)(z E n p:Nat)(v D:Z2){W w':ZY}(l:Z1 Rw){cs:Zy Z2}{B k C:Nat}(u t m id:Int){r:VK}{x:Fu}(i:Int){gr f:Z2}(name key s:Z6){c d:Int}(A w:ZY)
def bL:Fu:=(En.zero,[],[])
def bZ(id:Int)(key:Z6):Z1 Rw->Zp Z6
 | []=>Z7
 | x::l=>if x.1=id/\x.2.1=key then Z9 x.2.2 else bZ id key l
def bw(key s:Z6):Fu × Int:=match cF (Z5 s) with
 | none=>(bL,11)
 | some y=>if dL y=Z5 key then (y,0) else (bL,11)
def aG(l:Z1 Rw)(u t m id i:Int)(name:Z6):(Fu × Int) × Int :=
 if aC i name=⟨#[]⟩ then ((bL,1),m) else if m+1=u then ((bL,t),m+1) else match bZ id (aC i name) l with
 | none=>((bL,6),m+1)
 | some s=>(bw (aC i name) s,m+1)
def gm(l:Z1 Rw)(u t id:Int)(name:Z6):Z1 Int->Int->(Fu × Int) × Int
 | [],m=>((bL,6),m)
 | k::K,m=>if (aG l u t m id k name).1.2=6 then gm l u t id name K (aG l u t m id k name).2 else aG l u t m id k name
def bY(l:Z1 Rw)(u t m id:Int)(name:Z6):(Fu × Int) × Int :=
 if YP (Z5 name)=ZW then ((bL,1),m) else gm l u t id name [0,1,2] m
def bz(l:Z1 Rw)(id i:Int)(name:Z6):Fu × Int:=(aG l 0 0 0 id i name).1
def ij(l:Z1 Rw)(id:Int)(name:Z6):Z1 Int->Fu × Int
 | []=>(bL,6)
 | k::K=>if (bz l id k name).2=6 then ij l id name K else bz l id k name
def dx(l:Z1 Rw)(id:Int)(name:Z6):Fu × Int :=
 if YP (Z5 name)=ZW then (bL,1) else ij l id name [0,1,2]
theorem dS:m<=(aG l u t m id i name).2/\(aG l u t m id i name).2<=m+1:=by
 unfold aG;split
 .exact⟨We _,by show m<=m+1;omega⟩
 split
 .exact⟨by show m<=m+1;omega,We _⟩
 split
 .exact⟨by show m<=m+1;omega,We _⟩
 .exact⟨by show m<=m+1;omega,We _⟩
theorem iz(H:u<=0)(h:0<=m):(aG l u t m id i name).1=bz l id i name:=by
 unfold bz aG;split
 .rfl
 rw[ZS (by omega),ZS (by omega)];split <;> rfl
theorem tE(l:Z1 Rw)(u t id:Int)(name:Z6)(h:u<=0):∀ (K:Z1 Int) (m:Int),0<=m->(gm l u t id name K m).1=ij l id name K
 | [],_,_=>rfl
 | k::K,m,H=>by
   have e:=iz l u t m id k name h H;unfold gm ij;rw[e];split
   .have:=dS l u t m id k name;exact tE l u t id name h K _ (by omega)
   .exact e
theorem kh(H:u<=0)(h:0<=m):(bY l u t m id name).1=dx l id name:=by
 unfold dx bY;split
 .rfl
 .exact tE l u t id name H _ _ h
theorem tD(l:Z1 Rw)(u t id:Int)(name:Z6):∀ (K:Z1 Int) (m:Int),m<=(gm l u t id name K m).2/\(gm l u t id name K m).2<=m+K.length
 | [],_=>⟨We _,by simp [gm]⟩
 | k::K,m=>by
   have h:=dS l u t m id k name;unfold gm;split
   .have:=tD l u t id name K (aG l u t m id k name).2;simp only[Zw]
    omega
   .simp only[Zw]
    omega
theorem jq:m<=(bY l u t m id name).2/\(bY l u t m id name).2<=m+3:=by
 unfold bY;split
 .exact⟨We _,by show m<=m+3;omega⟩
 .exact tD l u t id name [0,1,2] m
theorem mu{id:Int}{key:Z6}{l:Z1 Rw}(H:k<l.length)(h:¬ (l[k].1=id/\l[k].2.1=key)):bZ id key (l.drop (k+1))=bZ id key (l.drop k):=by
 rw[Zb H];exact (ZS h).symm
theorem uk{id:Int}{key:Z6}{l:Z1 Rw}(H:k<l.length)(h:l[k].1=id/\l[k].2.1=key):bZ id key (l.drop k)=Z9 l[k].2.2:=by
 rw[Zb H];exact ZP h
def lV(u t m:Int)(o:Zp Z6):Z2:=if m+1=u then .tuple #[.string ⟨#[]⟩,.int .i64 t] else match o with|none=>.tuple #[.string ⟨#[]⟩,.int .i64 6]|some x=>.tuple #[.string x,.int .i64 0]
theorem Ig(l:Z1 Rw)(w:ZY)(h:SHf w p D u t m)(U:RwS w D l)(J:∀ b,D.ownBlock=Z9 b->b≠p)(h0:0<=m)(h1:m<1000000000) :
 ZH Z8 370 #[.pointer (Z9 ⟨p,0,Z7⟩),.int .i64 id,.string key] w fun r w'=>r=.returned (lV u t m (bZ id key l))/\∃ q,w'=(w.setCell ⟨p,3,Z7⟩ (.int .i64 (m+1))).drewN q:=by
 have g:=sN p D u t m w h h0 h1;obtain⟨L,-⟩:=h;have P:=ae L 2 _ rfl;have O:=ae L 0 _ rfl
 have d2:(w.setCell ⟨p,3,Z7⟩ (.int .i64 (m+1))).cell? ⟨p,2,Z7⟩=Z9 (.int .i64 t):=by
  rw[YE _ _ _ _ (by intro h;cases h)];exact P
 have Z:(w.setCell ⟨p,3,Z7⟩ (.int .i64 (m+1))).cell? ⟨p,0,Z7⟩=Z9 D:=by
  rw[YE _ _ _ _ (by intro h;cases h)];exact O
 have F:RwS (w.setCell ⟨p,3,Z7⟩ (.int .i64 (m+1))) D l:=U.keep (by simp) fun b S j=>(de w ⟨p,3,Z7⟩ _).block b j (fun e=>J b S (ZN e))
 generalize w.setCell ⟨p,3,Z7⟩ (.int .i64 (m+1))=W at g d2 Z F |-;clear L P O U J;unfold lV;by_cases I:m+1=u
 .rw[ZI I] at g;rw[ZP I];have K:=lh g;clear g I F;go_enter Tryz.func370,Tryz.ntmps370
  go_wp2_with (go_at_call 372;(with_reducible refine K.o.mono ?_);rintro _ w2 ⟨rfl,q,rfl⟩)
  go_quiet (fail)
  go_wp2_with fail
  go_ret2
  exact⟨rfl,_,nM _ _ _⟩
 rw[ZG I] at g;rw[ZS I];generalize R:(match bZ id key l with|none=>Value.tuple #[.string ⟨#[]⟩,.int .i64 6]|some x=>.tuple #[.string x,.int .i64 0])=A;have N:=lh R;clear R;have K:=lh g;obtain⟨a,c,rfl,hz,T⟩:=F;have X:=lh T;clear g I T;go_enter Tryz.func370,Tryz.ntmps370
 go_wp2_with (go_at_call 372;(with_reducible refine K.o.mono ?_);rintro _ w2 ⟨rfl,q0,rfl⟩)
 go_loopw [8] (fun i wr=>∃ (k:Nat),k<=l.length/\i=.int .i64 k/\Hid (bZ id key (l.drop k)=bZ id key l)/\∃ q,wr=W.drewN q) (fun i _=>l.length - (Zq i).toNat)
 case atStart=>exact⟨0,Y6 _,rfl,lh rfl,_,rfl⟩
 case round =>
  obtain⟨k,hk,rfl,HJ,q,rfl⟩:=hrel;by_cases j:k<l.length
  .obtain⟨b,o,rfl,S,H⟩:=X.o (by omega);obtain⟨p0,p1,p2⟩:=H k j;have j1:(0:Int)<=(k:Int):=by omega
   have j2:(k:Int)<(l.length:Int):=by omega
   by_cases y:l[k].1=id
   rotate_left
   .have t1:(l[k].1==id)=ZW:=by rw[ZJ];exact y
    have Q:Hid (bZ id key (l.drop (k+1))=bZ id key l):=lh ((mu j (fun h=>y h.1)).trans HJ.o);clear y H;go_wp2_with fail
    go_roundw
    case rel=>exact⟨k+1,by omega,by go_num,Q,_,rfl⟩
    case measure=>simp [Zq];omega
   have t1:(l[k].1==id)=ZX:=by rw[beq_iff_eq];exact y
   have V:=fd l[k].2.1 key;by_cases G:l[k].2.1=key
   .rw[ZI G] at V;have Q:Hid (bZ id key l=Z9 l[k].2.2):=lh (HJ.o.symm.trans (uk j ⟨y,G⟩));clear y G H;go_wp2_with fail
    go_ret2
    exact⟨by rw[<-N.o,Q.o];rfl,_,rfl⟩
   .rw[ZG G] at V;have Q:Hid (bZ id key (l.drop (k+1))=bZ id key l):=lh ((mu j (fun h=>G h.2)).trans HJ.o);clear y G H;go_wp2_with fail
    go_roundw
    case rel=>exact⟨k+1,by omega,by go_num,Q,_,rfl⟩
    case measure=>simp [Zq];omega
  .obtain rfl:k=l.length:=by omega
   have Y:Hid (bZ id key l=Z7):=lh (by rw[<-HJ.o,Wy];rfl);go_wp2_with fail
   go_ret2
   exact⟨by rw[<-N.o,Y.o];rfl,_,rfl⟩
theorem Bu : (method (n + 1) 56 (.pointer (Z9 a)) "Get").run Z8 w = .ok (370, .pointer (Z9 a)) w := by kernel_rfl
theorem FN(h:SHs A w p D l u t m)(H:0<=m)(e:m<1000000000) :
 ZH Z8 370 #[.pointer (Z9 ⟨p,0,Z7⟩),.int .i64 id,.string key] w fun r w'=>r=.returned (lV u t m (bZ id key l))/\SHs A w' p D l u t (m+1)/\w.grownBy w' (Z9 p):=by
 refine (Ig p D u t m id key l w h.f h.r h.ne H e).mono ?_
 rintro _ w' ⟨rfl,q,rfl⟩;exact⟨rfl,(h.tick (m+1) q).1,(h.tick (m+1) q).2⟩
section
def EnR(B:Nat)(w':ZY)(x:Fu)(d:Int)(r:VK):Prop :=
 ∃ (f gr:Z2),r=.returned (.tuple #[.agg (x.1.vals f gr),.int .i64 d])/\IS w' f x.2.1/\GS w' gr x.2.2/\(∀ q,f.ownBlock=Z9 q->B<=q)/\(∀ q,gr.ownBlock=Z9 q->B<=q)
theorem EnR.zero(B:Nat)(w':ZY)(d:Int):EnR B w' bL d (.returned (.tuple #[.agg (zlit 0 ⟨#[]⟩),.int .i64 d])) :=
 ⟨.slice Z7 0 0,.slice Z7 0 0,by rw[eh];rfl,IS.nil _,GS.nil _,(fun _ h=>by cases h),(fun _ h=>by cases h)⟩
theorem EnR.le(h:EnR B w' x d r)(e:C<=B):EnR C w' x d r:=by
 obtain⟨f,gr,g,j,o,y,F⟩:=h;exact⟨f,gr,g,j,o,fun q H=>ZC e (y q H),fun q H=>ZC e (F q H)⟩
theorem nt(h:∀ q,f.ownBlock=Z9 q->C<=q)(H:B<C):∀ q,f.ownBlock=Z9 q->B<q:=fun q e=>Nat.lt_of_lt_of_le H (h q e)
theorem EnR.put(F:Held W B 33)(I:IS W f x.2.1)(G:GS W gr x.2.2)(h:∀ q,f.ownBlock=Z9 q->B<q)(g:∀ q,gr.ownBlock=Z9 q->B<q) :
 EnR B (W.setRow B (x.1.vals f gr)) x d (.returned (.tuple #[.agg (row (W.setRow B (x.1.vals f gr)) B),.int .i64 d])):=by
 have o:∀ j,B+1<=j->j<W.heap.size->(W.setRow B (x.1.vals f gr)).heap[j]?=W.heap[j]?:=fun j h _=>cP _ _ _ _ (by omega)
 refine⟨f,gr,Y7 (fun z=>Ending.returned (.tuple #[.agg z,.int .i64 d])) (au F _),I.keep (B+1) (fun y e=>h y e) (by simp) o,G.keep (B+1) (fun y e=>g y e) (by simp) o,fun q H=>Nat.le_of_lt (h q H),fun q H=>Nat.le_of_lt (g q H)⟩
theorem EnR.put0(H:Held W B 33):EnR B (W.setRow B (zlit 0 ⟨#[]⟩)) bL d (.returned (.tuple #[.agg (row (W.setRow B (zlit 0 ⟨#[]⟩)) B),.int .i64 d])):=by
 rw[eh];exact EnR.put (x:=bL) H (IS.nil _) (GS.nil _) (fun _ h=>by cases h) (fun _ h=>by cases h)
theorem dF(h:Held W B 33)(H:cs.size=33):(row (W.setRow B cs) B).size=32+1:=(Y7 Array.size (au h cs)).trans H
theorem Held.grown{w:ZY}{p:Zp Nat}{g n:Nat}(h:Held w g n)(y:w.grownBy w' p)(j:p≠Z9 g):Held w' g n:=by
 obtain⟨t,F,q⟩:=fR h;have H:=(Array.getElem?_eq_some_iff.1 q).1;have e:=y.block g H (fun e=>j e.symm);refine⟨?_,h.2.1,fun o=>(World.frozen?_of_block (a:=⟨g,o,Z7⟩) e).trans (h.2.2 o)⟩
 have:=h.1;unfold row at this |-;rw[e];exact this
attribute [local go_sem ↓] aZ bf bq cl
attribute [local go_sem] bn aS aH bE bH aK aT ak aI aw az aM ah aQ aL aP aO aR aY aW bD ap aq
theorem tl(hm:MaxL w)(hT:Tab w) :
 ZH Z8 92 #[.string key,.string s] w fun r w'=>EnR w.heap.size w' (bw key s).1 (bw key s).2 r/\Z4 w.heap.size w w':=by
 cases e:cF (Z5 s) with
 | none =>
   have K:bw key s=(bL,11):=by unfold bw;rw[e]
   rw[K];have V:=lh (fun W (b:Z4 w.heap.size w W)=>Cc s W (hm.below b) (hT.below b) e);clear K e;go_enter Tryz.func92,Tryz.ntmps92
   go_wp2_with (go_at_call 30;(refine (V.o _ (by exact aB)).mono ?_);rintro _ N ⟨j,q,o,F,rfl,Q,g,h⟩;have L:=ay En.zero (.slice j 0 q) (.slice o 0 F) rfl rfl;have O:=lh (below1 h);have P:=da N (.cells (En.zero.vals (.slice j 0 q) (.slice o 0 F)) 29) _ _ (Held.below (cG w 29) h);clear Q g h)
   refine ZD (bV (n:=32) rfl Tryz.underlying29 rfl (by kernel_rfl) _ _ w.heap.size rfl (dF P rfl)) rfl ?_
   exact⟨EnR.put0 P,ZA (O.o.alloc O.o.size _) (ZV _) _⟩
 | some y =>
   have J:=uF y key;have V:=lh (fun W (b:Z4 w.heap.size w W)=>Cd s y W (hm.below b) (hT.below b) e);have X:=lh (fun W=>jI y.1.kind y.1.name W);by_cases S:dL y=Z5 key
   .have K:bw key s=(y,0):=by unfold bw;rw[e];exact ZP S
    rw[ZI S] at J;rw[K];clear K e S;generalize aC y.1.kind y.1.name=kz at J X;go_enter Tryz.func92,Tryz.ntmps92
    go_wp2_with first|go_at_call 30;(refine (V.o _ (by exact aB)).mono ?_);rintro _ N ⟨j,q,o,F,rfl,Q,g,h,G,I⟩;have L:=ay y.1 (.slice j y.2.1.length q) (.slice o y.2.2.length F) rfl rfl;have O:=lh (below1 h);have P:=da N (.cells (y.1.vals (.slice j y.2.1.length q) (.slice o y.2.2.length F)) 29) _ _ (Held.below (cG w 29) h);have HI:=lh Q;have a0:=lh g;have Y:=lh G;have Z:=lh I;clear Q g h G I;have R:=ak N (y.1.vals (.slice j y.2.1.length q) (.slice o y.2.2.length F)) 29 (0,0);have N0:=ae R 0 _ (ap _ _ _);have N1:=ae R 1 _ (aq _ _ _)|go_at_call 88;(with_reducible refine (X.o _).mono ?_);rintro _ w4 ⟨rfl,H⟩;have R4:=am H R (by rw[ah];decide);have U:=P.below H;have T:=lh (below1 H);clear H
    refine ZD (bV (n:=32) rfl Tryz.underlying29 rfl (by kernel_rfl) _ _ w.heap.size rfl (dF U (ah _ _ _))) rfl ?_
    exact⟨EnR.put (x:=y) U (HI.o.below T.o) (a0.o.below T.o) (nt Y.o (by simp)) (nt Z.o (by simp)),ZA (bt O.o T.o) (ZV _) _⟩
   .have K:bw key s=(bL,11):=by unfold bw;rw[e];exact ZS S
    rw[ZG S] at J;rw[K];clear K e S;generalize aC y.1.kind y.1.name=kz at J X;go_enter Tryz.func92,Tryz.ntmps92
    go_wp2_with first|go_at_call 30;(refine (V.o _ (by exact aB)).mono ?_);rintro _ N ⟨j,q,o,F,rfl,Q,g,h,G,I⟩;have L:=ay y.1 (.slice j y.2.1.length q) (.slice o y.2.2.length F) rfl rfl;have O:=lh (below1 h);have P:=da N (.cells (y.1.vals (.slice j y.2.1.length q) (.slice o y.2.2.length F)) 29) _ _ (Held.below (cG w 29) h);clear Q g h G I;have R:=ak N (y.1.vals (.slice j y.2.1.length q) (.slice o y.2.2.length F)) 29 (0,0);have N0:=ae R 0 _ (ap _ _ _);have N1:=ae R 1 _ (aq _ _ _)|go_at_call 88;(with_reducible refine (X.o _).mono ?_);rintro _ w4 ⟨rfl,H⟩;have U:=P.below H;have T:=lh (bt O.o (below1 H));clear H
    refine ZD (bV (n:=32) rfl Tryz.underlying29 rfl (by kernel_rfl) _ _ w.heap.size rfl (dF U rfl)) rfl ?_
    exact⟨EnR.put0 U,ZA T.o (ZV _) _⟩
def CatR(A w w':ZY)(p:Nat)(D:Z2)(l:Z1 Rw)(u t:Int)(g:(Fu × Int) × Int)(r:VK):Prop :=
 EnR w.heap.size w' g.1.1 g.1.2 r/\SHs A w' p D l u t g.2/\w.grownBy w' (Z9 p)
theorem CatR.put{A w:ZY}{p:Nat}{D:Z2}{l:Z1 Rw}{u t m:Int}(S:SHs A w p D l u t m)(o:Held W w.heap.size 33)(j:SHs A W p D l u t c)(G:w.grownBy W (Z9 p))(I:IS W f x.2.1)(y:GS W gr x.2.2)(e:∀ q,f.ownBlock=Z9 q->w.heap.size<q)(g:∀ q,gr.ownBlock=Z9 q->w.heap.size<q) :
 CatR A w (W.setRow w.heap.size (x.1.vals f gr)) p D l u t ((x,d),c) (.returned (.tuple #[.agg (row (W.setRow w.heap.size (x.1.vals f gr)) w.heap.size),.int .i64 d])):=by
 have H:Z4 w.heap.size W (W.setRow w.heap.size (x.1.vals f gr)):=ZA (ZR _ _) (ZV _) _;exact⟨EnR.put o I y e g,j.belowB H S.pl (fun h b H=>jw S.r h b H),bx G H⟩
theorem CatR.put0{A w:ZY}{p:Nat}{D:Z2}{l:Z1 Rw}{u t m:Int}(S:SHs A w p D l u t m)(e:Held W w.heap.size 33)(H:SHs A W p D l u t c)(G:w.grownBy W (Z9 p)) :
 CatR A w (W.setRow w.heap.size (zlit 0 ⟨#[]⟩)) p D l u t ((bL,d),c) (.returned (.tuple #[.agg (row (W.setRow w.heap.size (zlit 0 ⟨#[]⟩)) w.heap.size),.int .i64 d])):=by
 rw[eh];exact CatR.put (x:=bL) S e H G (IS.nil _) (GS.nil _) (fun _ h=>by cases h) (fun _ h=>by cases h)
theorem iy(hm:MaxL A)(hT:Tab A)(hS:SHs A w p D l u t m)(a4:0<=m)(a6:m<=100000)(G:t≠0\/u<=0) :
 ZH Z8 82 #[.iface 56 (.pointer (Z9 ⟨p,0,Z7⟩)),.int .i64 id,.int .i64 i,.string name] w fun r w'=>CatR A w w' p D l u t (aG l u t m id i name) r:=by
 have R:=lh (fun W=>jI i name W);have N:=lh hS;have a8:=hS.pl;have a7:=Bu ⟨p,0,Z7⟩;have Q:(Z9 p:Zp Nat)≠Z9 w.heap.size:=fun e=>by have:=ZN e;omega
 have HZ:=lh (cG w 29);clear hS;generalize o:aG l u t m id i name=g;unfold aG at o;by_cases U:aC i name=⟨#[]⟩
 .rw[ZP U] at o;subst o;rw[U] at R;clear U;go_enter Tryz.func82,Tryz.ntmps82
  go_wp2_with (go_at_call 88;(with_reducible refine (R.o _).mono ?_);rintro _ V ⟨rfl,j⟩;have J:=HZ.o.below j;have y:=lh (below1 j);clear j)
  refine ZD (bV (n:=32) rfl Tryz.underlying29 rfl (by kernel_rfl) _ _ w.heap.size rfl (dF J rfl)) rfl ?_
  have B3:=ZA y.o (ZV _) (zlit 0 ⟨#[]⟩);exact⟨EnR.put0 J,N.o.below B3,bo _ B3⟩
 rw[ZS U] at o
 have e0:(aC i name).toList.isEmpty=ZW:=gG _ (by
  rcases Ym (aC i name).size with h|h
  .exact absurd (XR (Y5 (by rw[ZZ];exact h))) U
  .exact h)
 clear U;generalize aC i name=kz at R o e0;have H:=fun W (h:SHs A W p D l u t m)=>FN p D l u t m id kz A W h a4 (by omega)
 unfold lV at H;by_cases hf:m+1=u
 .rw[ZP hf] at o H;subst o;have X:=lh H;have F:t≠0:=by rcases G with h|h;exact h;omega
  have t1:(t != 0)=ZX:=by rw[YQ];exact F
  have t2:(t==0)=ZW:=by rw[ZJ];exact F
  clear H G F hf;go_enter Tryz.func82,Tryz.ntmps82
  go_wp2_with first|go_at_call 88;(with_reducible refine (R.o _).mono ?_);rintro _ V ⟨rfl,j⟩;have J:=HZ.o.below j;have y:=lh (below1 j);have Y:=lh (N.o.below y.o);have z2:w.heap.size<V.heap.size:=(by have:=j.size;simp at this;omega);clear j|go_at_call 370;(with_reducible refine (X.o _ Y.o).mono ?_);rintro _ w3 ⟨rfl,K,S⟩;have T:=lh K;have I:=lh S;have L:=J.grown S Q;clear K S
  refine ZD (bV (n:=32) rfl Tryz.underlying29 rfl (by kernel_rfl) _ _ w.heap.size rfl (dF L rfl)) rfl ?_
  exact CatR.put0 N.o L T.o (aJ (bo _ y.o) I.o)
 rw[ZS hf] at o H;clear hf
 cases hr:bZ id kz l with
 | none =>
   rw[hr] at o H;subst o;have X:=lh H;clear H G hr;go_enter Tryz.func82,Tryz.ntmps82
   go_wp2_with first|go_at_call 88;(with_reducible refine (R.o _).mono ?_);rintro _ V ⟨rfl,j⟩;have J:=HZ.o.below j;have y:=lh (below1 j);have Y:=lh (N.o.below y.o);have z2:w.heap.size<V.heap.size:=(by have:=j.size;simp at this;omega);clear j|go_at_call 370;(with_reducible refine (X.o _ Y.o).mono ?_);rintro _ w3 ⟨rfl,K,S⟩;have T:=lh K;have I:=lh S;have L:=J.grown S Q;clear K S
   refine ZD (bV (n:=32) rfl Tryz.underlying29 rfl (by kernel_rfl) _ _ w.heap.size rfl (dF L rfl)) rfl ?_
   exact CatR.put0 N.o L T.o (aJ (bo _ y.o) I.o)
 | some s =>
   rw[hr] at o H;replace o:(bw kz s,m+1)=g:=o
   subst o;have X:=lh H;have HR:=lh (fun W (b:Z4 A.heap.size A W)=>tl kz s W (hm.below b) (hT.below b));clear H G hr;generalize bw kz s=xc at HR |-;obtain⟨x,d⟩:=xc;go_enter Tryz.func82,Tryz.ntmps82
   go_wp2_with first|go_at_call 88;(with_reducible refine (R.o _).mono ?_);rintro _ V ⟨rfl,j⟩;have J:=HZ.o.below j;have y:=lh (below1 j);have Y:=lh (N.o.below y.o);have z2:w.heap.size<V.heap.size:=(by have:=j.size;simp at this;omega);clear j|go_at_call 370;(with_reducible refine (X.o _ Y.o).mono ?_);rintro _ w3 ⟨rfl,K,S⟩;have T:=lh K;have I:=lh S;have L:=J.grown S Q;clear K S|go_at_call 92;(refine (HR.o _ T.o.b).mono ?_);rintro _ w4 ⟨⟨f,gr,rfl,hI,O,Z,a0⟩,P⟩;have a5:=ay x.1 f gr (aD hI) (aE O);have H4:=L.below P;have HI:=lh hI;have a3:=lh O;have a1:=lh Z;have a2:=lh a0;have B4:=lh P;clear hI O Z a0 P
   refine ZD (bV (n:=32) rfl Tryz.underlying29 rfl (by kernel_rfl) _ _ w.heap.size rfl (dF H4 (ah _ _ _))) rfl ?_
   have z3:=(aJ (bo _ y.o) I.o).size;exact CatR.put (x:=x) N.o H4 (T.o.below B4.o) (bx (aJ (bo _ y.o) I.o) (B4.o.mono z3)) HI.o a3.o (fun q hq=>by have:=a1.o q hq;have:=I.o.size;omega) (fun q hq=>by have:=a2.o q hq;have:=I.o.size;omega)
theorem mx(hm:MaxL A)(hT:Tab A)(hS:SHs A w p D l u t m)(a8:0<=m)(ab:m<=90000)(a9:t≠0/\t≠6\/u<=0) :
 ZH Z8 112 #[.iface 56 (.pointer (Z9 ⟨p,0,Z7⟩)),.int .i64 id,.string name] w fun r w'=>CatR A w w' p D l u t (bY l u t m id name) r:=by
 have HV:=lh (fun W (b:Z4 A.heap.size A W)=>ez name W (hm.below b));have S:=lh hS;have ac:=hS.pl;have P:t≠0\/u<=0:=by omega
 have a1:(Z9 p:Zp Nat)≠Z9 w.heap.size:=fun e=>by have:=ZN e;omega
 have HZ:=lh (cG w 29);have HG:=lh (fun (c k:Int) W (h:SHs A W p D l u t c) (h0:0<=c) (h1:c<=100000)=>iy p D l u t c id k name A W hm hT h h0 h1 P);clear hS hm hT a9 P;generalize L:bY l u t m id name=g;unfold bY at L;cases U:YP (Z5 name)
 .rw[ZP U] at L;subst L;rw[U] at HV;clear U;go_enter Tryz.func112,Tryz.ntmps112
  go_wp2_with (go_at_call 32;(with_reducible refine (HV.o _ (by exact (S.o.below (aj _ _)).b)).mono ?_);rintro _ N ⟨rfl,O⟩;have H2:=HZ.o.below O;have V:=lh (below1 O);clear O)
  refine ZD (bV (n:=32) rfl Tryz.underlying29 rfl (by kernel_rfl) _ _ w.heap.size rfl (dF H2 rfl)) rfl ?_
  exact CatR.put0 S.o H2 (S.o.below V.o) (bo _ V.o)
 rw[ZS (by rw[U];simp)] at L;rw[U] at HV;have a5:=lh L;clear U L;go_enter Tryz.func112,Tryz.ntmps112
 go_wp2_with (go_at_call 32;(with_reducible refine (HV.o _ (by exact (S.o.below (aj _ _)).b)).mono ?_);rintro _ N ⟨rfl,O⟩;have H2:=HZ.o.below O;have V:=lh (below1 O);have z2:w.heap.size<N.heap.size:=(by have:=O.size;simp at this;omega);clear O)
 go_loopw [18] (fun i wr=>∃ (k:Nat) (c:Int),k<=3/\i=.int .i64 k/\0<=c/\c<=m+k/\Hid (gm l u t id name (([0,1,2]:Z1 Int).drop k) c=g)/\SHs A wr p D l u t c/\w.grownBy wr (Z9 p)/\Held wr w.heap.size 33/\N.heap.size<wr.heap.size/\(∀ j,j<3->wr.cell? ⟨N.heap.size,j,Z7⟩=Z9 (.int .i64 j))) (fun i _=>3 - (Zq i).toNat)
 case atStart =>
  refine⟨0,m,by decide,rfl,a8,by simp,a5,(S.o.below V.o).below (aj _ _),bo _ (bt V.o (aj _ _)),da _ _ _ _ H2,by simp,fun j hj=>?_⟩
  rw[Yy _ _ j _ 3 (0,0) (Zs N _)];rcases (by omega:j=0\/j=1\/j=2) with rfl|rfl|rfl <;> rfl
 case round =>
  obtain⟨k,c,hk,rfl,h0,h1,HH,hs,L,hH,a0,o⟩:=hrel;have Y:=lh hs;have R:=lh L;have HC:=lh o;clear hs L;by_cases aa:k<3
  .have p0:=o k aa
   have hd:(([0,1,2]:Z1 Int).drop k)=(k:Int)::(([0,1,2]:Z1 Int).drop (k+1)):=by
    rcases (by omega:k=0\/k=1\/k=2) with rfl|rfl|rfl <;> rfl
   have H:=HH.o;rw[hd] at H;unfold gm at H;have G:=HG.o c k wr Y.o h0 (by omega);have Z:=dS l u t c id k name;generalize aG l u t c id k name=gg at G Z H;obtain⟨⟨x,d⟩,cb⟩:=gg;dsimp only at Z H;have X:=lh G;have j1:(0:Int)<=(k:Int):=by omega
   have j2:(k:Int)<3:=by omega
   have ad:w.heap.size<wr.heap.size:=by omega
   clear G o hd HH;by_cases h6:d=6
   .rw[ZP h6] at H;have a7:=lh H;have t1:(d != 6)=ZW:=by rw[h6];rfl
    clear H;go_wp2_with (go_at_call 82;(refine X.o.mono ?_);rintro _ w3 ⟨⟨f,gr,rfl,T,y,J,K⟩,I,F⟩;have a2:=ay x.1 f gr (aD T) (aE y);have S3:=lh I;have Q:=lh F;clear T y J K I F)
    go_roundw
    case rel =>
     have z3:=Q.o.size;refine⟨k+1,cb,by omega,by go_num,by omega,by omega,a7,S3.o.below (aj _ _),bx (aJ R.o Q.o) ((aj _ _).mono (by omega)),da _ _ _ _ (hH.grown Q.o a1),by simp;omega,fun j hj=>?_⟩
     rw[<-HC.o j hj];exact ZT (a:=⟨N.heap.size,j,Z7⟩) ((Zk w3 _ (show N.heap.size<w3.heap.size by omega)).trans (Q.o.block N.heap.size a0 (fun e:(Z9 N.heap.size:Zp Nat)=Z9 p=>by have:=ZN e;omega)))
    case measure=>simp [Zq];omega
   .rw[ZS h6] at H;subst H;have t1:(d != 6)=ZX:=by rw[YQ];exact h6
    go_wp2_with (go_at_call 82;(refine X.o.mono ?_);rintro _ w3 ⟨⟨f,gr,rfl,T,y,J,K⟩,I,F⟩;have a2:=ay x.1 f gr (aD T) (aE y);have S3:=lh I;have Q:=lh F;have HI:=lh T;have a6:=lh y;have a3:=lh J;have a4:=lh K;have H3:=da w3 (.cells (x.1.vals f gr) 29) _ _ (hH.grown F a1);clear T y J K I F)
    refine ZD (bV (n:=32) rfl Tryz.underlying29 rfl (by kernel_rfl) _ _ w.heap.size rfl (dF H3 (ah _ _ _))) rfl ?_
    exact CatR.put (x:=x) S.o H3 (S3.o.below (aj _ _)) (bx (aJ R.o Q.o) ((aj _ _).mono (by have:=Q.o.size;omega))) (HI.o.below (aj _ _)) (a6.o.below (aj _ _)) (fun q hq=>by have:=a3.o q hq;omega) (fun q hq=>by have:=a4.o q hq;omega)
  .obtain rfl:k=3:=by omega
   have H:((bL,6),c)=g:=HH.o;subst H;go_wp2_with fail
   refine ZD (bV (n:=32) rfl Tryz.underlying29 rfl (by kernel_rfl) _ _ w.heap.size rfl (dF hH rfl)) rfl ?_
   exact CatR.put0 S.o hH Y.o R.o
end
section
theorem lH(k:Int)(s:Z6)(w:ZY):ZH Z8 137 #[.int .i64 k,.string s] w fun r w'=>r=.returned (.string (aC k s))/\w=w':=by
 refine (rkey k s w).mono ?_
 rintro _ w' ⟨t,rfl,H,h⟩;exact⟨iD (XR (H.trans (iU k s).symm)),h.symm⟩
theorem zO(G:RwS w v l) :
 ZH Z8 219 #[v,.int .i64 id,.string key] w fun r w'=>r=.returned (.tuple #[.string ((bZ id key l).getD ⟨#[]⟩),.bool (bZ id key l).isSome])/\Z4 w.heap.size w w':=by
 obtain⟨a,c,rfl,L,y⟩:=G;have F:=lh y;clear y;go_enter Tryz.func219,Tryz.ntmps219
 go_wp2_with fail
 go_loopw [8] (fun i wr=>∃ (k:Nat),k<=l.length/\i=.int .i64 k/\Hid (bZ id key (l.drop k)=bZ id key l)/\∃ q,wr=w.drewN q) (fun i _=>l.length - (Zq i).toNat)
 case atStart=>exact⟨0,Y6 _,rfl,lh rfl,0,rfl⟩
 case round =>
  obtain⟨k,K,rfl,HJ,q,rfl⟩:=hrel;by_cases e:k<l.length
  .obtain⟨b,o,rfl,J,H⟩:=F.o (by omega);obtain⟨R,S,U⟩:=H k e;have O:(0:Int)<=(k:Int):=by omega
   have P:(k:Int)<(l.length:Int):=by omega
   by_cases g:l[k].1=id
   rotate_left
   .have I:(l[k].1==id)=ZW:=by rw[ZJ];exact g
    have Q:Hid (bZ id key (l.drop (k+1))=bZ id key l):=lh ((mu e (fun h=>g h.1)).trans HJ.o);clear g H;go_wp2_with fail
    go_roundw
    case rel=>exact⟨k+1,by omega,by go_num,Q,_,rfl⟩
    case measure=>simp [Zq];omega
   have I:(l[k].1==id)=ZX:=by rw[beq_iff_eq];exact g
   have T:=fd l[k].2.1 key;by_cases j:l[k].2.1=key
   .rw[ZI j] at T;have Q:Hid (bZ id key l=Z9 l[k].2.2):=lh (HJ.o.symm.trans (uk e ⟨g,j⟩));clear g j H;go_wp2_with fail
    go_ret2
    exact⟨by rw[Q.o];rfl,below_drewN (ZR _ _) _⟩
   .rw[ZG j] at T;have Q:Hid (bZ id key (l.drop (k+1))=bZ id key l):=lh ((mu e (fun h=>j h.2)).trans HJ.o);clear g j H;go_wp2_with fail
    go_roundw
    case rel=>exact⟨k+1,by omega,by go_num,Q,_,rfl⟩
    case measure=>simp [Zq];omega
  .obtain rfl:k=l.length:=by omega
   have N:Hid (bZ id key l=Z7):=lh (by rw[<-HJ.o,Wy];rfl);go_wp2_with fail
   go_ret2
   exact⟨by rw[N.o];rfl,below_drewN (ZR _ _) _⟩
attribute [local go_sem ↓] aZ bf bq cl
attribute [local go_sem] bn aS aH bE bH aK aT ak aI aw az aM ah aQ aL aP aO aR aY aW bD ap aq
theorem uh:ZH Z8 280 #[.string s] w fun r w'=>∃ (x:Fu) (f gr:Z2) (d:Int),r=.returned (.tuple #[.agg (x.1.vals f gr),.int .i64 d])/\IS w' f x.2.1/\GS w' gr x.2.2/\Z4 w.heap.size w w'/\(cF (Z5 s)=Z9 x/\d=0\/cF (Z5 s)=Z7/\x=(En.zero,[],[])/\d=11)/\(∀ q,f.ownBlock=Z9 q->w.heap.size<=q)/\(∀ q,gr.ownBlock=Z9 q->w.heap.size<=q):=Bm s w
theorem tX :
 ZH Z8 220 #[.string key,.string s] w fun r w'=>EnR w.heap.size w' (bw key s).1 (bw key s).2 r/\Z4 w.heap.size w w':=by
 cases g:cF (Z5 s) with
 | none =>
   have K:bw key s=(bL,11):=by unfold bw;rw[g]
   rw[K];have N:=fun W=>uh s W
   rw[g] at N;have S:=lh N;clear K N g;go_enter Tryz.func220,Tryz.ntmps220
   go_wp2_with (go_at_call 280;(refine (S.o _).mono ?_);rintro _ O ⟨x,f,gr,d,rfl,I,e,H,J,-⟩;obtain⟨rfl,rfl⟩:x=bL/\d=11:=(by rcases J with ⟨h,-⟩|⟨-,h1,Q⟩;cases h;exact⟨h1,Q⟩);have L:=ay bL.1 f gr (aD I) (aE e);have F:=lh (below1 H);have G:=da O (.cells (bL.1.vals f gr) 29) _ _ (Held.below (cG w 29) H);clear I e H J)
   refine ZD (bV (n:=32) rfl Tryz.underlying29 rfl (by kernel_rfl) _ _ w.heap.size rfl (dF G rfl)) rfl ?_
   exact⟨EnR.put0 G,ZA (F.o.alloc F.o.size _) (ZV _) _⟩
 | some y =>
   have q:=uF y key;have N:=fun W=>uh s W
   rw[g] at N;have S:=lh N;have T:=lh (fun W=>lH y.1.kind y.1.name W);clear N;by_cases P:dL y=Z5 key
   .have K:bw key s=(y,0):=by unfold bw;rw[g];exact ZP P
    rw[ZI P] at q;rw[K];clear K g P;generalize aC y.1.kind y.1.name=kz at q T;go_enter Tryz.func220,Tryz.ntmps220
    go_wp2_with first|go_at_call 280;(refine (S.o _).mono ?_);rintro _ O ⟨x,f,gr,d,rfl,I,e,H,J,j,o⟩;obtain⟨rfl,rfl⟩:x=y/\d=0:=(by rcases J with ⟨h,Q⟩|⟨h,-⟩;exact⟨(ZN h).symm,Q⟩;cases h);have L:=ay x.1 f gr (aD I) (aE e);have F:=lh (below1 H);have G:=da O (.cells (x.1.vals f gr) 29) _ _ (Held.below (cG w 29) H);have HI:=lh I;have X:=lh e;have U:=lh j;have V:=lh o;clear I e H j o J;have R:=ak O (x.1.vals f gr) 29 (0,0);have Y:=ae R 0 _ (ap _ _ _);have Z:=ae R 1 _ (aq _ _ _)|(go_at_call 137;(with_reducible refine (T.o _).mono ?_);rintro _ w4 ⟨rfl,rfl⟩)
    refine ZD (bV (n:=32) rfl Tryz.underlying29 rfl (by kernel_rfl) _ _ w.heap.size rfl (dF G (ah _ _ _))) rfl ?_
    exact⟨EnR.put G (HI.o.below (aj _ _)) (X.o.below (aj _ _)) (nt U.o (by simp)) (nt V.o (by simp)),ZA (F.o.alloc F.o.size _) (ZV _) _⟩
   .have K:bw key s=(bL,11):=by unfold bw;rw[g];exact ZS P
    rw[ZG P] at q;rw[K];clear K g P;generalize aC y.1.kind y.1.name=kz at q T;go_enter Tryz.func220,Tryz.ntmps220
    go_wp2_with first|go_at_call 280;(refine (S.o _).mono ?_);rintro _ O ⟨x,f,gr,d,rfl,I,e,H,J,j,o⟩;obtain⟨rfl,rfl⟩:x=y/\d=0:=(by rcases J with ⟨h,Q⟩|⟨h,-⟩;exact⟨(ZN h).symm,Q⟩;cases h);have L:=ay x.1 f gr (aD I) (aE e);have F:=lh (below1 H);have G:=da O (.cells (x.1.vals f gr) 29) _ _ (Held.below (cG w 29) H);clear I e H j o J;have R:=ak O (x.1.vals f gr) 29 (0,0);have Y:=ae R 0 _ (ap _ _ _);have Z:=ae R 1 _ (aq _ _ _)|(go_at_call 137;(with_reducible refine (T.o _).mono ?_);rintro _ w4 ⟨rfl,rfl⟩)
    refine ZD (bV (n:=32) rfl Tryz.underlying29 rfl (by kernel_rfl) _ _ w.heap.size rfl (dF G rfl)) rfl ?_
    exact⟨EnR.put0 G,ZA (F.o.alloc F.o.size _) (ZV _) _⟩
def RatR(w w':ZY)(g:Fu × Int)(r:VK):Prop:=EnR w.heap.size w' g.1 g.2 r/\Z4 w.heap.size w w'
theorem RatR.put{w:ZY}(e:Held W w.heap.size 33)(g:Z4 w.heap.size w W)(I:IS W f x.2.1)(j:GS W gr x.2.2)(h:∀ q,f.ownBlock=Z9 q->w.heap.size<q)(H:∀ q,gr.ownBlock=Z9 q->w.heap.size<q) :
 RatR w (W.setRow w.heap.size (x.1.vals f gr)) (x,d) (.returned (.tuple #[.agg (row (W.setRow w.heap.size (x.1.vals f gr)) w.heap.size),.int .i64 d])) :=
 ⟨EnR.put e I j h H,ZA g (ZV _) _⟩
theorem RatR.put0{w:ZY}(h:Held W w.heap.size 33)(H:Z4 w.heap.size w W) :
 RatR w (W.setRow w.heap.size (zlit 0 ⟨#[]⟩)) (bL,d) (.returned (.tuple #[.agg (row (W.setRow w.heap.size (zlit 0 ⟨#[]⟩)) w.heap.size),.int .i64 d])) :=
 ⟨EnR.put0 h,ZA H (ZV _) _⟩
theorem iA(V:RwS w v l) :
 ZH Z8 134 #[v,.int .i64 id,.int .i64 i,.string name] w fun r w'=>RatR w w' (bz l id i name) r:=by
 have K:=lh (fun W=>lH i name W);have HZ:=lh (cG w 29);generalize e:bz l id i name=g;unfold bz aG at e;by_cases F:aC i name=⟨#[]⟩
 .rw[ZP F] at e;subst e;rw[F] at K;have G:=HZ.o;clear F V;go_enter Tryz.func134,Tryz.ntmps134
  go_wp2_with (go_at_call 137;(with_reducible refine (K.o _).mono ?_);rintro _ w2 ⟨rfl,rfl⟩)
  refine ZD (bV (n:=32) rfl Tryz.underlying29 rfl (by kernel_rfl) _ _ w.heap.size rfl (dF G rfl)) rfl ?_
  exact RatR.put0 G (aj _ _)
 rw[ZS F,ZS (by decide)] at e
 have e0:(aC i name).toList.isEmpty=ZW:=gG _ (by
  rcases Ym (aC i name).size with h|h
  .exact absurd (XR (Y5 (by rw[ZZ];exact h))) F
  .exact h)
 clear F;generalize aC i name=L at K e e0;have j:=fun W (b:Z4 w.heap.size w W)=>zO v l id L W (V.below b)
 have G:=HZ.o;clear V
 cases O:bZ id L l with
 | none =>
   rw[O] at e j;replace e:(bL,6)=g:=e
   subst e;have S:=lh j;clear j O;go_enter Tryz.func134,Tryz.ntmps134
   go_wp2_with first|(go_at_call 137;(with_reducible refine (K.o _).mono ?_);rintro _ w2 ⟨rfl,rfl⟩)|go_at_call 219;(refine (S.o _ (aj _ _)).mono ?_);rintro _ w3 ⟨rfl,H⟩;have N:=G.below H;have P:=lh (below1 H);clear H
   refine ZD (bV (n:=32) rfl Tryz.underlying29 rfl (by kernel_rfl) _ _ w.heap.size rfl (dF N rfl)) rfl ?_
   exact RatR.put0 N P.o
 | some s =>
   rw[O] at e j;replace e:bw L s=g:=e
   subst e;have S:=lh j;have Z:=lh (fun W=>tX L s W);clear j O;generalize bw L s=xc at Z |-;obtain⟨x,d⟩:=xc;go_enter Tryz.func134,Tryz.ntmps134
   go_wp2_with first|(go_at_call 137;(with_reducible refine (K.o _).mono ?_);rintro _ w2 ⟨rfl,rfl⟩)|go_at_call 219;(refine (S.o _ (aj _ _)).mono ?_);rintro _ w3 ⟨rfl,H⟩;have N:=G.below H;have z3:w.heap.size<w3.heap.size:=(by have:=H.size;simp at this;omega);have P:=lh (below1 H);clear H|go_at_call 220;(refine (Z.o _).mono ?_);rintro _ w4 ⟨⟨f,gr,rfl,U,o,I,J⟩,y⟩;have a0:=ay x.1 f gr (aD U) (aE o);have Y:=N.below y;have HI:=lh U;have T:=lh o;have Q:=lh I;have R:=lh J;have B4:=lh y;clear U o I J y
   refine ZD (bV (n:=32) rfl Tryz.underlying29 rfl (by kernel_rfl) _ _ w.heap.size rfl (dF Y (ah _ _ _))) rfl ?_
   exact RatR.put Y (bt P.o B4.o) HI.o T.o (fun q X=>by have:=Q.o q X;omega) (fun q X=>by have:=R.o q X;omega)
theorem oZ(hl:RwS w v l) :
 ZH Z8 212 #[v,.int .i64 id,.string name] w fun r w'=>RatR w w' (dx l id name) r:=by
 have V:=lh (fun W=>dt name W);have HZ:=lh (cG w 29);have HG:=lh (fun (k:Int) W (b:Z4 w.heap.size w W)=>iA v l id k name W (hl.below b));clear hl;generalize G:dx l id name=g;unfold dx at G;cases J:YP (Z5 name)
 .rw[ZP J] at G;subst G;rw[J] at V;clear J;go_enter Tryz.func212,Tryz.ntmps212
  go_wp2_with (go_at_call 130;(with_reducible refine (V.o _).mono ?_);rintro _ w2 ⟨rfl,F⟩;have O:=HZ.o.below F;have S:=lh (below1 F);clear F)
  refine ZD (bV (n:=32) rfl Tryz.underlying29 rfl (by kernel_rfl) _ _ w.heap.size rfl (dF O rfl)) rfl ?_
  exact RatR.put0 O S.o
 rw[ZS (by rw[J];simp)] at G;rw[J] at V;have X:=lh G;clear J G;go_enter Tryz.func212,Tryz.ntmps212
 go_wp2_with (go_at_call 130;(with_reducible refine (V.o _).mono ?_);rintro _ w2 ⟨rfl,F⟩;have O:=HZ.o.below F;have S:=lh (below1 F);have z2:w.heap.size<w2.heap.size:=(by have:=F.size;simp at this;omega);clear F)
 go_loopw [8] (fun i wr=>∃ (k:Nat),k<=3/\i=.int .i64 k/\Hid (ij l id name (([0,1,2]:Z1 Int).drop k)=g)/\Z4 w.heap.size w wr/\Held wr w.heap.size 33/\w.heap.size<wr.heap.size) (fun i _=>3 - (Zq i).toNat)
 case atStart=>exact⟨0,by decide,rfl,X,S.o,O,z2⟩
 case round =>
  obtain⟨k,hk,rfl,Z,B,R,a1⟩:=hrel;have P:=lh B;clear B;by_cases a2:k<3
  .have hd:(([0,1,2]:Z1 Int).drop k)=(k:Int)::(([0,1,2]:Z1 Int).drop (k+1)):=by
    rcases (by omega:k=0\/k=1\/k=2) with rfl|rfl|rfl <;> rfl
   have h:=Z.o;rw[hd] at h;unfold ij at h;have j:=HG.o k wr P.o;generalize bz l id k name=gg at j h;obtain⟨x,d⟩:=gg;dsimp only at h;have L:=lh j;have j1:(0:Int)<=(k:Int):=by omega
   have j2:(k:Int)<=2:=by omega
   clear j hd Z;by_cases Q:d=6
   .rw[ZP Q] at h;have a0:=lh h;have t1:(d != 6)=ZW:=by rw[Q];rfl
    clear h;go_wp2_with (go_at_call 134;(refine L.o.mono ?_);rintro _ w3 ⟨⟨f,gr,rfl,I,H,o,y⟩,e⟩;have N:=ay x.1 f gr (aD I) (aE H);have K:=lh e;clear I H o y e)
    go_roundw
    case rel =>
     have z3:=K.o.size;exact⟨k+1,by omega,by go_num,a0,bt P.o (bt K.o (aj _ _)),da _ _ _ _ (R.below K.o),by simp;omega⟩
    case measure=>simp [Zq];omega
   .rw[ZS Q] at h;subst h;have t1:(d != 6)=ZX:=by rw[YQ];exact Q
    go_wp2_with (go_at_call 134;(refine L.o.mono ?_);rintro _ w3 ⟨⟨f,gr,rfl,I,H,o,y⟩,e⟩;have N:=ay x.1 f gr (aD I) (aE H);have K:=lh e;have HI:=lh I;have Y:=lh H;have T:=lh o;have U:=lh y;have H3:=da w3 (.cells (x.1.vals f gr) 29) _ _ (R.below e);clear I H o y e)
    refine ZD (bV (n:=32) rfl Tryz.underlying29 rfl (by kernel_rfl) _ _ w.heap.size rfl (dF H3 (ah _ _ _))) rfl ?_
    exact RatR.put H3 (bt P.o (bt K.o (aj _ _))) (HI.o.below (aj _ _)) (Y.o.below (aj _ _)) (fun q hq=>by have:=T.o q hq;omega) (fun q hq=>by have:=U.o q hq;omega)
  .obtain rfl:k=3:=by omega
   have h:(bL,6)=g:=Z.o;subst h;go_wp2_with fail
   refine ZD (bV (n:=32) rfl Tryz.underlying29 rfl (by kernel_rfl) _ _ w.heap.size rfl (dF R rfl)) rfl ?_
   exact RatR.put0 R P.o
end
section
def iF(n:Int)(s:Z6):Z6:=⟨(Vv n (Z5 s)).toArray⟩
def dn:Nat->Z1 Int
 | 0=>[]
 | k+1=>((k+1:Nat):Int)::dn k
def gT(l:Z1 Rw)(u t:Int)(name:Z6):Z1 Int->Int->(Int × Int) × Int
 | [],m=>((1,0),m)
 | n::N,m=>match aG l u t m 1 3 (iF n name) with
   | ((x,c),e)=>if c=0 then ((x.1.cat,0),e) else if c=6 then gT l u t name N e else ((0,c),e)
def dJ(l:Z1 Rw)(u t m:Int)(name:Z6):(Int × Int) × Int :=
 if YP (Z5 name)=ZW then ((0,1),m) else gT l u t name (dn 2) m
def kC(l:Z1 Rw)(u t m id:Int)(name:Z6):(Fu × Int × Int) × Int :=
 match bY l u t m id name with
 | ((x,h),e)=>if h≠0 then ((bL,0,h),e) else if x.1.kind≠2 then ((x,id,0),e) else
  match bY l u t e id x.1.target with
  | ((y,j),g)=>if j≠0 then ((bL,0,j),g) else if y.1.kind=2 then ((bL,0,7),g) else ((y,id,0),g)
def iX(l:Z1 Rw)(u t m:Int)(name:Z6):(Fu × Int × Int) × Int :=
 match dJ l u t m name with
 | ((id,c),e)=>if c≠0 then ((bL,0,c),e) else kC l u t e id name
def kp(l:Z1 Rw)(name:Z6):Z1 Int->Int × Int
 | []=>(1,0)
 | n::N=>match bz l 1 3 (iF n name) with
   | (x,c)=>if c=0 then (x.1.cat,0) else if c=6 then kp l name N else (0,c)
def cj(l:Z1 Rw)(name:Z6):Int × Int:=if YP (Z5 name)=ZW then (0,1) else kp l name (dn 2)
def jH(l:Z1 Rw)(name:Z6):Fu × Int × Int :=
 match cj l name with
 | (id,c)=>if c≠0 then (bL,0,c) else
  match dx l id name with
  | (x,e)=>if e≠0 then (bL,0,e) else if x.1.kind≠2 then (x,id,0) else
   match dx l id x.1.target with
   | (y,g)=>if g≠0 then (bL,0,g) else if y.1.kind=2 then (bL,0,7) else (y,id,0)
theorem sF(l:Z1 Rw)(u t:Int)(name:Z6)(H:u<=0):∀ (N:Z1 Int) (m:Int),0<=m->(gT l u t name N m).1=kp l name N/\0<=(gT l u t name N m).2
 | [],_,h=>⟨rfl,h⟩
 | n::N,m,h=>by
   have o:=iz l u t m 1 3 (iF n name) H h;have e:=dS l u t m 1 3 (iF n name);unfold gT kp;rw[<-o];generalize aG l u t m 1 3 (iF n name)=g at e;obtain⟨⟨x,c⟩,j⟩:=g;dsimp only at e |-;split
   .exact⟨rfl,by omega⟩
   split
   .exact sF l u t name H N j (by omega)
   .exact⟨rfl,by omega⟩
theorem ox(H:u<=0)(h:0<=m):(dJ l u t m name).1=cj l name/\0<=(dJ l u t m name).2:=by
 unfold dJ cj;split
 .exact⟨rfl,h⟩
 .exact sF l u t name H _ _ h
theorem Aw(H:u<=0)(I:0<=m):(iX l u t m name).1=jH l name:=by
 have o:=ox l u t m name H I;unfold iX jH kC;rw[<-o.1];have h:=o.2;generalize dJ l u t m name=g at h;obtain⟨⟨id,c⟩,e⟩:=g;dsimp only at h |-;split
 .rfl
 have F:=kh l u t e id name H h;have q:=(jq l u t e id name).1;rw[<-F];generalize bY l u t e id name=g at q;obtain⟨⟨x,J⟩,j⟩:=g;dsimp only at q |-;split
 .rfl
 split
 .rfl
 have G:=kh l u t j id x.1.target H (by omega);rw[<-G];generalize bY l u t j id x.1.target=g;obtain⟨⟨y,K⟩,L⟩:=g;dsimp only;split
 .rfl
 split <;> rfl
theorem sE(l:Z1 Rw)(u t:Int)(name:Z6):∀ (N:Z1 Int) (m:Int),m<=(gT l u t name N m).2/\(gT l u t name N m).2<=m+N.length
 | [],_=>⟨We _,by simp [gT]⟩
 | n::N,m=>by
   have e:=dS l u t m 1 3 (iF n name);unfold gT;generalize aG l u t m 1 3 (iF n name)=g at e;obtain⟨⟨x,c⟩,h⟩:=g;dsimp only at e |-;have:=sE l u t name N h;simp only[Zw]
   split
   .dsimp only;omega
   split
   .omega
   .dsimp only;omega
theorem sD:m<=(dJ l u t m name).2/\(dJ l u t m name).2<=m+2:=by
 unfold dJ;split
 .exact⟨We _,by show m<=m+2;omega⟩
 .exact sE l u t name (dn 2) m
attribute [local go_sem ↓] aZ bf bq cl
attribute [local go_sem] bn aS aH bE bH aK aT ak aI aw az aM ah aQ aL aP aO aR aY aW bD ap aq
theorem oJ(hm:MaxL A)(hT:Tab A)(hS:SHs A w p D l u t m)(a3:0<=m)(a6:m<=90000)(a4:t≠0/\t≠6\/u<=0) :
 ZH Z8 34 #[.iface 56 (.pointer (Z9 ⟨p,0,Z7⟩)),.string name] w fun r w'=>r=.returned (.tuple #[.int .i64 (dJ l u t m name).1.1,.int .i64 (dJ l u t m name).1.2])/\SHs A w' p D l u t (dJ l u t m name).2/\w.grownBy w' (Z9 p):=by
 have HV:=lh (fun W (b:Z4 A.heap.size A W)=>ez name W (hm.below b));have HF:=lh (fun n W (b:Z4 A.heap.size A W)=>Ce n name W (hm.below b));have HS:=lh hS;have R:t≠0\/u<=0:=by omega
 have HG:=lh (fun (c k:Int) nm W (h:SHs A W p D l u t c) (h0:0<=c) (h1:c<=100000)=>iy p D l u t c 1 k nm A W hm hT h h0 h1 R);clear hS hm hT a4 R;generalize O:dJ l u t m name=g;unfold dJ at O;cases V:YP (Z5 name)
 rw[ZP V] at O;subst O;rw[V] at HV;clear V;rotate_left;rw[ZS (by rw[V];simp)] at O;rw[V] at HV;have a1:=lh O;clear V O;rotate_left
 iterate 1
  focus
   go_enter Tryz.func34,Tryz.ntmps34
   go_wp2_with (go_at_call 32;(with_reducible refine (HV.o _ HS.o.b).mono ?_);rintro _ w2 ⟨rfl,G⟩;have X:=lh G;clear G)
   go_ret2
   exact⟨rfl,HS.o.below X.o,bo _ X.o⟩
 go_enter Tryz.func34,Tryz.ntmps34
 go_wp2_with (go_at_call 32;(with_reducible refine (HV.o _ HS.o.b).mono ?_);rintro _ w2 ⟨rfl,G⟩;have X:=lh G;clear G)
 go_loopw [6] (fun i wr=>∃ (k:Nat) (c:Int),k<=2/\i=.int .i64 k/\0<=c/\c+k<=m+2/\Hid (gT l u t name (dn k) c=g)/\SHs A wr p D l u t c/\w.grownBy wr (Z9 p)) (fun i _=>(Zq i).toNat)
 case atStart=>exact⟨2,m,by decide,rfl,a3,by omega,a1,HS.o.below X.o,bo _ X.o⟩
 case round =>
  obtain⟨k,c,hk,rfl,h0,h1,HH,hs,O⟩:=hrel;have F:=lh hs;have y:=lh O;clear hs O
  cases k with
  | zero =>
    have H:((1,0),c)=g:=HH.o;subst H;go_wp2_with fail
    go_ret2
    exact⟨rfl,F.o,y.o⟩
  | succ k =>
    have H:=HH.o;unfold dn gT iF at H;have I:=HF.o ((k+1:Nat):Int);generalize (⟨(Vv ((k+1:Nat):Int) (Z5 name)).toArray⟩:Z6)=nm at I H;clear HH;generalize a5:((k+1:Nat):Int)=kn at I h1 |-;have k1:1<=kn:=by omega
    have k2:kn<=2:=by omega
    have K3:=lh (show kn=(k:Int)+1 by omega);clear a5;have N:=fun W (h:SHs A W p D l u t c)=>HG.o c 3 nm W h h0 (by omega)
    have Z:=dS l u t c 1 3 nm;generalize aG l u t c 1 3 nm=gg at N Z H;obtain⟨⟨x,d⟩,cb⟩:=gg;dsimp only at Z H;have U:=lh N;have T:=lh I;clear N I;by_cases j:d=0
    .rw[ZP j] at H;subst H j
     go_wp2_with first|go_at_call 83;(with_reducible refine (T.o _ F.o.b).mono ?_);rintro _ a0 ⟨rfl,G⟩;have J:=lh G;clear G|go_at_call 82;(refine (U.o _ (F.o.below J.o)).mono ?_);rintro _ w3 ⟨⟨f,gr,rfl,Q,e,K,L⟩,q,o⟩;have S:=ay x.1 f gr (aD Q) (aE e);have Y:=lh q;have P:=lh o;have R3:=ak w3 (x.1.vals f gr) 29 (0,0);have N3:=ae R3 30 _ (dv _ _ _);clear Q e K L q o
     go_ret2
     exact⟨rfl,Y.o.below (aj _ _),bx (aJ (aJ y.o (bo _ J.o)) P.o) ((aj _ _).mono (by have:=(aJ (aJ y.o (bo _ J.o)) P.o).size;omega))⟩
    rw[ZS j] at H;have t0:(d==0)=ZW:=by rw[ZJ];exact j
    by_cases h6:d=6
    .rw[ZP h6] at H;have a2:=lh H;have t1:(d==6)=ZX:=by rw[h6];rfl
     clear H j
     go_wp2_with first|go_at_call 83;(with_reducible refine (T.o _ F.o.b).mono ?_);rintro _ a0 ⟨rfl,G⟩;have J:=lh G;clear G|go_at_call 82;(refine (U.o _ (F.o.below J.o)).mono ?_);rintro _ w3 ⟨⟨f,gr,rfl,Q,e,K,L⟩,q,o⟩;have S:=ay x.1 f gr (aD Q) (aE e);have Y:=lh q;have P:=lh o;clear Q e K L q o
     go_roundw
     case rel=>exact⟨k,cb,by omega,by have:=K3.o;first|(go_num;done)|(congr 1;omega),by omega,by have:=K3.o;omega,a2,Y.o.below (aj _ _),bx (aJ (aJ y.o (bo _ J.o)) P.o) ((aj _ _).mono (by have:=(aJ (aJ y.o (bo _ J.o)) P.o).size;omega))⟩
     case measure=>have:=K3.o;simp [Zq];omega
    .rw[ZS h6] at H;subst H;have t1:(d==6)=ZW:=by rw[ZJ];exact h6
     go_wp2_with first|go_at_call 83;(with_reducible refine (T.o _ F.o.b).mono ?_);rintro _ a0 ⟨rfl,G⟩;have J:=lh G;clear G|go_at_call 82;(refine (U.o _ (F.o.below J.o)).mono ?_);rintro _ w3 ⟨⟨f,gr,rfl,Q,e,K,L⟩,q,o⟩;have S:=ay x.1 f gr (aD Q) (aE e);have Y:=lh q;have P:=lh o;clear Q e K L q o
     go_ret2
     exact⟨rfl,Y.o.below (aj _ _),bx (aJ (aJ y.o (bo _ J.o)) P.o) ((aj _ _).mono (by have:=(aJ (aJ y.o (bo _ J.o)) P.o).size;omega))⟩
end
section
attribute [local go_sem ↓] aZ bf bq cl
attribute [local go_sem] bn aS aH bE bH aK aT ak aI aw az aM ah aQ aL aP aO aR aY aW bD ap aq
theorem ms(hl:RwS w v l) :
 ZH Z8 131 #[v,.string name] w fun r w'=>r=.returned (.tuple #[.int .i64 (cj l name).1,.int .i64 (cj l name).2])/\Z4 w.heap.size w w':=by
 have V:=lh (fun W=>dt name W);have HF:=lh (fun n W=>Be n name W);have HG:=lh (fun U W (b:Z4 w.heap.size w W)=>iA v l 1 3 U W (hl.below b));clear hl;generalize P:cj l name=g;unfold cj at P;cases Q:YP (Z5 name)
 rw[ZP Q] at P;subst P;rw[Q] at V;clear Q;rotate_left;rw[ZS (by rw[Q];simp)] at P;rw[Q] at V;have Y:=lh P;clear Q P;rotate_left
 iterate 1
  focus
   go_enter Tryz.func131,Tryz.ntmps131
   go_wp2_with (go_at_call 130;(with_reducible refine (V.o _).mono ?_);rintro _ w2 ⟨rfl,o⟩;have X:=lh o;clear o)
   go_ret2
   exact⟨rfl,X.o⟩
 go_enter Tryz.func131,Tryz.ntmps131
 go_wp2_with (go_at_call 130;(with_reducible refine (V.o _).mono ?_);rintro _ w2 ⟨rfl,o⟩;have X:=lh o;clear o)
 go_loopw [6] (fun i wr=>∃ (k:Nat),k<=2/\i=.int .i64 k/\Hid (kp l name (dn k)=g)/\Z4 w.heap.size w wr) (fun i _=>(Zq i).toNat)
 case atStart=>exact⟨2,by decide,rfl,Y,X.o⟩
 case round =>
  obtain⟨k,hk,rfl,Z,B⟩:=hrel;have S:=lh B;clear B
  cases k with
  | zero =>
    have h:(1,0)=g:=Z.o;subst h;go_wp2_with fail
    go_ret2
    exact⟨rfl,S.o⟩
  | succ k =>
    have h:=Z.o;unfold dn kp iF at h;have q:=HF.o ((k+1:Nat):Int);generalize (⟨(Vv ((k+1:Nat):Int) (Z5 name)).toArray⟩:Z6)=U at q h;clear Z;generalize a1:((k+1:Nat):Int)=kn at q |-;have k1:1<=kn:=by omega
    have k2:kn<=2:=by omega
    have K3:=lh (show kn=(k:Int)+1 by omega);clear a1;have G:=fun W (b:Z4 w.heap.size w W)=>HG.o U W b
    generalize bz l 1 3 U=gg at G h;obtain⟨x,d⟩:=gg;dsimp only at h;have O:=lh G;have N:=lh q;clear G q;by_cases j:d=0
    .rw[ZP j] at h;subst h j
     go_wp2_with first|go_at_call 218;(with_reducible refine (N.o _).mono ?_);rintro _ R ⟨rfl,o⟩;have I:=lh (bt S.o o);clear o|go_at_call 134;(refine (O.o _ I.o).mono ?_);rintro _ w3 ⟨⟨f,gr,rfl,K,H,y,F⟩,e⟩;have L:=ay x.1 f gr (aD K) (aE H);have J:=lh (bt I.o e);have R3:=ak w3 (x.1.vals f gr) 29 (0,0);have N3:=ae R3 30 _ (dv _ _ _);clear K H y F e
     go_ret2
     exact⟨rfl,J.o.alloc J.o.size _⟩
    rw[ZS j] at h;have t0:(d==0)=ZW:=by rw[ZJ];exact j
    by_cases T:d=6
    .rw[ZP T] at h;have a0:=lh h;have t1:(d != 6)=ZW:=by rw[T];rfl
     clear h j
     go_wp2_with first|go_at_call 218;(with_reducible refine (N.o _).mono ?_);rintro _ R ⟨rfl,o⟩;have I:=lh (bt S.o o);clear o|go_at_call 134;(refine (O.o _ I.o).mono ?_);rintro _ w3 ⟨⟨f,gr,rfl,K,H,y,F⟩,e⟩;have L:=ay x.1 f gr (aD K) (aE H);have J:=lh (bt I.o e);clear K H y F e
     go_roundw
     case rel=>exact⟨k,by omega,by have:=K3.o;first|(go_num;done)|(congr 1;omega),a0,J.o.alloc J.o.size _⟩
     case measure=>have:=K3.o;simp [Zq];omega
    .rw[ZS T] at h;subst h;have t1:(d != 6)=ZX:=by rw[YQ];exact T
     go_wp2_with first|go_at_call 218;(with_reducible refine (N.o _).mono ?_);rintro _ R ⟨rfl,o⟩;have I:=lh (bt S.o o);clear o|go_at_call 134;(refine (O.o _ I.o).mono ?_);rintro _ w3 ⟨⟨f,gr,rfl,K,H,y,F⟩,e⟩;have L:=ay x.1 f gr (aD K) (aE H);have J:=lh (bt I.o e);clear K H y F e
     go_ret2
     exact⟨rfl,J.o.alloc J.o.size _⟩
def En3(B:Nat)(w':ZY)(g:Fu × Int × Int)(r:VK):Prop :=
 ∃ (f gr:Z2),r=.returned (.tuple #[.agg (g.1.1.vals f gr),.int .i64 g.2.1,.int .i64 g.2.2])/\IS w' f g.1.2.1/\GS w' gr g.1.2.2/\(∀ q,f.ownBlock=Z9 q->B<=q)/\(∀ q,gr.ownBlock=Z9 q->B<=q)
theorem En3.put{id:Int}(F:Held W B 33)(I:IS W f x.2.1)(G:GS W gr x.2.2)(h:∀ q,f.ownBlock=Z9 q->B<q)(g:∀ q,gr.ownBlock=Z9 q->B<q) :
 En3 B (W.setRow B (x.1.vals f gr)) (x,id,d) (.returned (.tuple #[.agg (row (W.setRow B (x.1.vals f gr)) B),.int .i64 id,.int .i64 d])):=by
 have o:∀ j,B+1<=j->j<W.heap.size->(W.setRow B (x.1.vals f gr)).heap[j]?=W.heap[j]?:=fun j h _=>cP _ _ _ _ (by omega)
 refine⟨f,gr,Y7 (fun z=>Ending.returned (.tuple #[.agg z,.int .i64 id,.int .i64 d])) (au F _),I.keep (B+1) (fun y e=>h y e) (by simp) o,G.keep (B+1) (fun y e=>g y e) (by simp) o,fun q H=>Nat.le_of_lt (h q H),fun q H=>Nat.le_of_lt (g q H)⟩
theorem En3.put0(H:Held W B 33):En3 B (W.setRow B (zlit 0 ⟨#[]⟩)) (bL,0,d) (.returned (.tuple #[.agg (row (W.setRow B (zlit 0 ⟨#[]⟩)) B),.int .i64 0,.int .i64 d])):=by
 rw[eh];exact En3.put (x:=bL) H (IS.nil _) (GS.nil _) (fun _ h=>by cases h) (fun _ h=>by cases h)
theorem En3.le{g:Fu × Int × Int}(h:En3 B w' g r)(e:C<=B):En3 C w' g r:=by
 obtain⟨f,gr,j,o,y,F,G⟩:=h;exact⟨f,gr,j,o,y,fun q H=>ZC e (F q H),fun q H=>ZC e (G q H)⟩
end
section
def qd:Z2->Bool|.int .i64 _=>ZX|_=>ZW
theorem Am(k:Int):qd (.int .i64 k)=ZX:=rfl
theorem Dy(Z cs:Zy Z2)(v:Z2)(H:Z.size=34)(h:cs.size=33) :
 (Array.foldl (fun cs (x:Z2 × Nat)=>cs.setIfInBounds x.snd x.fst) Z cs.zipIdx 0 33).setIfInBounds 33 v=cs.push v/\(Array.foldl (fun cs (x:Z2 × Nat)=>cs.setIfInBounds x.snd x.fst) Z cs.zipIdx 0 33).size=34:=by
 have e:Array.foldl (fun cs (x:Z2 × Nat)=>cs.setIfInBounds x.snd x.fst) Z cs.zipIdx 0 33=over Z 0 cs.toList:=by
  have j:cs.zipIdx.size=33:=by simp [h]
  rw[<-j,<-Array.foldl_toList,Array.toList_zipIdx,me]
 rw[e];refine⟨?_,by rw[jW];exact H⟩
 have:=tS cs.toList [v] 0 Z;rw[Array.length_toList,h] at this;have g:over (over Z 0 cs.toList) (0+33) [v]=(over Z 0 cs.toList).setIfInBounds 33 v:=rfl;rw[<-g,this,<-Array.toList_push];exact lv _ _ (by rw[H,Array.size_push,h])
def fc(cs:Zy Z2)(v:Z2):Zy Z2:=cs.push v
theorem uJ(cs:Zy Z2)(v:Z2):(fc cs v).size=cs.size+1:=by unfold fc;rw[Array.size_push]
theorem EW(dst x y t pos af gd)(H:cV (b x)=ZX)(j:(bA (b x)).size=33)(e:qd (b y)=ZX) :
 (XP b ⟨dst,.build 182 #[(0,x),(1,y)],t,pos,af,gd⟩).run Z8 w=.ok (.value (.agg (fc (bA (b x)) (b y)))) w:=by
 obtain⟨cs,q⟩:∃ cs,b x=.agg cs:=by
  unfold cV at H;split at H
  .rename_i g h;exact⟨g,h⟩
  .cases H
 obtain⟨k,F⟩:∃ k,b y=.int .i64 k:=by
  unfold qd at e;split at e
  .rename_i g h;exact⟨g,h⟩
  .cases e
 rw[q,aK] at j |-;rw[F];unfold fc;go_simp
 have o:=fun Z G=>Dy Z cs (.int .i64 k) G j
 rw[(o _ rfl).1,(o _ rfl).2];rfl
theorem GR(dst x t pos af gd)(h:db (b x)=ZX)(H:(row w (bF (b x))).size=34) :
 (XP b ⟨dst,.load 182 x,t,pos,af,gd⟩).run Z8 w=.ok (.value (.agg (row w (bF (b x))))) w :=
 kW b w _ 33 _ Tryz.underlying182 rfl (by kernel_rfl) dst x t pos af gd h H
theorem ID(Z:Zy Z2)(t:TypeId)(dst x y t' pos af gd)(h:Z.size=34)(H:db (b x)=ZX)(e:bF (b x)=w.heap.size)(g:cV (b y)=ZX)(j:(bA (b y)).size=34)(o:bh (bA (b y)).toList=ZX) :
 (XP b ⟨dst,.store 182 x y,t',pos,af,gd⟩).run Z8 (w.alloc (.cells Z t))=.ok .skip (w.alloc (.cells (bA (b y)) t)) :=
 l0 b w _ 33 (by kernel_rfl) Z t dst x y t' pos af gd h H e g j o
theorem CP(dst x y t' pos af gd)(h:db (b x)=ZX)(H:Held w (bF (b x)) 34)(e:cV (b y)=ZX)(g:(bA (b y)).size=34)(j:bh (bA (b y)).toList=ZX) :
 (XP b ⟨dst,.store 182 x y,t',pos,af,gd⟩).run Z8 w=.ok .skip (w.setRow (bF (b x)) (bA (b y))) :=
 kN b w _ 33 (by kernel_rfl) dst x y t' pos af gd h H e g j
def fcells(x:En)(f gr:Z2)(id:Int):Zy Z2:=fc (x.vals f gr) (.int .i64 id)
theorem kS(x:En)(f gr:Z2)(id:Int):(fcells x f gr id).size=34:=by unfold fcells;rw[uJ,ah]
theorem hZ(e:En)(f gr:Z2)(id:Int)(h:one f=ZX)(H:one gr=ZX):bh (fcells e f gr id).toList=ZX:=by
 unfold fcells fc;rw[Array.toList_push];have:=ay e f gr h H;generalize (e.vals f gr).toList=l at this
 induction l with
 | nil=>rfl
 | cons v r I =>
   rw[aL,Bool.and_eq_true] at this;rw[List.cons_append,aL,this.1,I this.2];rfl
def nL(B:Nat)(w':ZY)(g:Fu × Int × Int)(r:VK):Prop :=
 ∃ (f gr:Z2),r=.returned (.tuple #[.agg (fcells g.1.1 f gr g.2.1),.int .i64 g.2.2])/\IS w' f g.1.2.1/\GS w' gr g.1.2.2/\(∀ q,f.ownBlock=Z9 q->B<=q)/\(∀ q,gr.ownBlock=Z9 q->B<=q)
def FinR(A w w':ZY)(p:Nat)(D:Z2)(l:Z1 Rw)(u t:Int)(g:(Fu × Int × Int) × Int)(r:VK):Prop :=
 nL w.heap.size w' g.1 r/\SHs A w' p D l u t g.2/\w.grownBy w' (Z9 p)
theorem FinR.put{A w:ZY}{p:Nat}{D:Z2}{l:Z1 Rw}{u t m:Int}{id:Int}(S:SHs A w p D l u t m)(K:Held W w.heap.size 34)(I:SHs A W p D l u t c)(J:w.grownBy W (Z9 p))(L:IS W f x.2.1)(N:GS W gr x.2.2)(e:∀ q,f.ownBlock=Z9 q->w.heap.size<q)(F:∀ q,gr.ownBlock=Z9 q->w.heap.size<q) :
 FinR A w (W.setRow w.heap.size (fcells x.1 f gr id)) p D l u t ((x,id,d),c) (.returned (.tuple #[.agg (row (W.setRow w.heap.size (fcells x.1 f gr id)) w.heap.size),.int .i64 d])):=by
 have H:Z4 w.heap.size W (W.setRow w.heap.size (fcells x.1 f gr id)):=ZA (ZR _ _) (ZV _) _;have G:∀ j,w.heap.size+1<=j->j<W.heap.size->(W.setRow w.heap.size (fcells x.1 f gr id)).heap[j]?=W.heap[j]?:=fun j e _=>cP _ _ _ _ (by omega)
 exact⟨⟨f,gr,Y7 (fun z=>Ending.returned (.tuple #[.agg z,.int .i64 d])) (au K _),L.keep (w.heap.size+1) (fun y o=>e y o) (by simp) G,N.keep (w.heap.size+1) (fun y o=>F y o) (by simp) G,fun q g=>Nat.le_of_lt (e q g),fun q g=>Nat.le_of_lt (F q g)⟩,I.belowB H S.pl (fun h b H=>jw S.r h b H),bx J H⟩
def flit:Zy Z2:=(zlit 0 ⟨#[]⟩).push (.int .i64 0)
theorem Ey:flit=fcells bL.1 (.slice Z7 0 0) (.slice Z7 0 0) 0:=by unfold flit fcells fc;rw[eh];rfl
theorem FinR.put0{A w:ZY}{p:Nat}{D:Z2}{l:Z1 Rw}{u t m:Int}(S:SHs A w p D l u t m)(e:Held W w.heap.size 34)(H:SHs A W p D l u t c)(G:w.grownBy W (Z9 p)) :
 FinR A w (W.setRow w.heap.size flit) p D l u t ((bL,0,d),c) (.returned (.tuple #[.agg (row (W.setRow w.heap.size flit) w.heap.size),.int .i64 d])):=by
 rw[Ey];exact FinR.put (x:=bL) S e H G (IS.nil _) (GS.nil _) (fun _ h=>by cases h) (fun _ h=>by cases h)
theorem jB(h:Held W B 34)(H:cs.size=34):(row (W.setRow B cs) B).size=33+1:=(Y7 Array.size (au h cs)).trans H
theorem uS(t:TypeId):Held (w.alloc (.cells flit t)) w.heap.size 34:=Held.new w flit t _ rfl (by decide)
theorem jv{w:ZY}{p b:Nat}{v:Z2}(g:w.grownBy w' (Z9 p))(H:b≠p)(h:w.cell? ⟨b,0,Z7⟩=Z9 v):w'.cell? ⟨b,0,Z7⟩=Z9 v :=
 (ZT (a:=⟨b,0,Z7⟩) (g.block b (YF h) (fun e=>H (ZN e)))).trans h
attribute [local go_sem ↓] aZ bf bq GR ID CP EW
attribute [local go_sem] bn aS aH bE bH aK aT Am ak aI aw az aM ah uJ aQ aL aP aO aR aY aW bD ap aq
theorem Gh(hm:MaxL A)(hT:Tab A)(hS:SHs A w p D l u t m)(b7:0<=m)(b8:m<=80000)(b2:t≠0/\t≠6\/u<=0)(c1:w.cell? ⟨z,0,Z7⟩=Z9 (.iface 56 (.pointer (Z9 ⟨p,0,Z7⟩))))(c2:w.cell? ⟨E,0,Z7⟩=Z9 (.string name))(n1:z≠p)(_:E≠p) :
 ZH Z8 111 #[.int .i64 id,.pointer (Z9 ⟨z,0,Z7⟩),.pointer (Z9 ⟨E,0,Z7⟩)] w fun r w'=>FinR A w w' p D l u t (kC l u t m id name) r:=by
 have HS:=lh hS;have b0:=hS.pl;have b4:=YF c1;have b5:=YF c2;have X:(Z9 p:Zp Nat)≠Z9 w.heap.size:=fun e=>by have:=ZN e;omega
 have HZ:=lh (uS w 182);have HF:=lh (fun (c:Int) nm W (h:SHs A W p D l u t c) (h0:0<=c) (h1:c<=90000)=>mx p D l u t c id nm A W hm hT h h0 h1 b2);have d1:(w.alloc (.cells flit 182)).cell? ⟨z,0,Z7⟩=Z9 (.iface 56 (.pointer (Z9 ⟨p,0,Z7⟩))):=((aj _ _).cell (p:=⟨z,0,Z7⟩) b4).trans c1;have d2:(w.alloc (.cells flit 182)).cell? ⟨E,0,Z7⟩=Z9 (.string name):=((aj _ _).cell (p:=⟨E,0,Z7⟩) b5).trans c2;clear hS hm hT b2;generalize S:kC l u t m id name=g;unfold kC at S;have ab:=fun W (h:SHs A W p D l u t m)=>HF.o m name W h b7 (by omega)
 have b1:=jq l u t m id name;generalize bY l u t m id name=gg at ab b1 S;obtain⟨⟨x,d⟩,cb⟩:=gg;dsimp only at b1 S;have a5:=lh ab;clear ab;by_cases h0:d=0
 rotate_left
 .rw[ZP h0] at S;subst S;have t0:(d==0)=ZW:=by rw[ZJ];exact h0
  have t1:(d != 0)=ZX:=by rw[YQ];exact h0
  clear h0;go_enter Tryz.func111,Tryz.ntmps111
  go_wp2_with (go_at_call 112;(refine (a5.o _ (HS.o.below (aj _ _))).mono ?_);rintro _ o ⟨⟨f,gr,rfl,Q,F,N,O⟩,P,H⟩;have a2:=ay x.1 f gr (aD Q) (aE F);have S3:=lh P;have G3:=lh H;have H3:=da o (.cells (x.1.vals f gr) 29) _ _ (HZ.o.grown H X);have R:bh (fc (x.1.vals f gr) (.int .i64 id)).toList=ZX:=hZ x.1 f gr id (aD Q) (aE F);have HI:=lh Q;have a7:=lh F;have a3:=lh N;have a4:=lh O;have R3:=ak o (x.1.vals f gr) 29 (0,0);have N3:=ae R3 0 _ (ap _ _ _);have ao:=ae R3 29 _ (cB _ _ _);have z3:w.heap.size+1<=o.heap.size:=(by have:=H.size;simpa using this);have e1:=((aj o (.cells (x.1.vals f gr) 29)).cell (p:=⟨z,0,Z7⟩) (by show z<o.heap.size;omega)).trans (jv H n1 d1);have H5:=eb o x.1 f gr 29;clear Q F N O P H)
  refine ZD (bV (n:=33) rfl Tryz.underlying182 rfl (by kernel_rfl) _ _ w.heap.size rfl (jB H3 rfl)) rfl ?_
  exact FinR.put0 HS.o H3 (S3.o.below (aj _ _)) (bx (aJ (bo _ (aj _ _)) G3.o) ((aj _ _).mono (by omega)))
 rw[ZS (fun h=>h h0)] at S;have t0:(d==0)=ZX:=by rw[h0];rfl
 have t1:(d != 0)=ZW:=by rw[h0];rfl
 by_cases hk:x.1.kind=2
 rotate_left
 .rw[ZP hk] at S;subst S;have t2:(x.1.kind==2)=ZW:=by rw[ZJ];exact hk
  clear hk;subst h0;go_enter Tryz.func111,Tryz.ntmps111
  go_wp2_with (go_at_call 112;(refine (a5.o _ (HS.o.below (aj _ _))).mono ?_);rintro _ o ⟨⟨f,gr,rfl,Q,F,N,O⟩,P,H⟩;have a2:=ay x.1 f gr (aD Q) (aE F);have S3:=lh P;have G3:=lh H;have H3:=da o (.cells (x.1.vals f gr) 29) _ _ (HZ.o.grown H X);have R:bh (fc (x.1.vals f gr) (.int .i64 id)).toList=ZX:=hZ x.1 f gr id (aD Q) (aE F);have HI:=lh Q;have a7:=lh F;have a3:=lh N;have a4:=lh O;have R3:=ak o (x.1.vals f gr) 29 (0,0);have N3:=ae R3 0 _ (ap _ _ _);have ao:=ae R3 29 _ (cB _ _ _);have z3:w.heap.size+1<=o.heap.size:=(by have:=H.size;simpa using this);have e1:=((aj o (.cells (x.1.vals f gr) 29)).cell (p:=⟨z,0,Z7⟩) (by show z<o.heap.size;omega)).trans (jv H n1 d1);have H5:=eb o x.1 f gr 29;clear Q F N O P H)
  refine ZD (bV (n:=33) rfl Tryz.underlying182 rfl (by kernel_rfl) _ _ w.heap.size rfl (jB H3 (kS x.1 f gr id))) rfl ?_
  exact FinR.put (x:=x) HS.o H3 (S3.o.below (aj _ _)) (bx (aJ (bo _ (aj _ _)) G3.o) ((aj _ _).mono (by omega))) (HI.o.below (aj _ _)) (a7.o.below (aj _ _)) (fun q hq=>by have:=a3.o q hq;simp at this;omega) (fun q hq=>by have:=a4.o q hq;simp at this;omega)
 rw[ZS (fun h=>h hk)] at S;have t2:(x.1.kind==2)=ZX:=by rw[hk];rfl
 clear hk;subst h0;have a1:=fun W (h:SHs A W p D l u t cb)=>HF.o cb x.1.target W h (by omega) (by omega)
 have ar:=jq l u t cb id x.1.target;generalize bY l u t cb id x.1.target=gg at a1 ar S;obtain⟨⟨y,a0⟩,ce⟩:=gg;dsimp only at ar S;have a6:=lh a1;clear a1;by_cases h2:a0=0
 rotate_left
 .rw[ZP h2] at S;subst S;have t4:(a0==0)=ZW:=by rw[ZJ];exact h2
  have t5:(a0 != 0)=ZX:=by rw[YQ];exact h2
  clear h2;go_enter Tryz.func111,Tryz.ntmps111
  go_wp2_with (first|(go_at_call 112;have b6:=H5;clear b6;(refine (a6.o _ (S3.o.below (aj _ _))).mono ?_);rintro _ w4 ⟨⟨G,I,rfl,L,J,U,V⟩,Z,K⟩;have ac:=ay y.1 G I (aD L) (aE J);have S4:=lh Z;have G4:=lh K;have Y:(Z9 p:Zp Nat)≠Z9 o.heap.size:=(fun e=>by have:=ZN e;omega);have K5:=H5.grown K Y;have K4:=(H3.grown K X).set (y.1.vals G I) (g:=w.heap.size) (g':=o.heap.size) (fun e=>by omega);have RB:=eT w4 (y.1.vals G I) o.heap.size K5;have NB:=ae RB 0 _ (ap _ _ _);have ad:bh (fc (y.1.vals G I) (.int .i64 id)).toList=ZX:=hZ y.1 G I id (aD L) (aE J);have z4:o.heap.size+1<=w4.heap.size:=(by have:=K.size;simpa using this);have av:=lh L;have a8:=lh J;have af:=lh U;have al:=lh V;clear L J U V Z K)|(go_at_call 112;(refine (a5.o _ (HS.o.below (aj _ _))).mono ?_);rintro _ o ⟨⟨f,gr,rfl,Q,F,N,O⟩,P,H⟩;have a2:=ay x.1 f gr (aD Q) (aE F);have S3:=lh P;have G3:=lh H;have H3:=da o (.cells (x.1.vals f gr) 29) _ _ (HZ.o.grown H X);have R:bh (fc (x.1.vals f gr) (.int .i64 id)).toList=ZX:=hZ x.1 f gr id (aD Q) (aE F);have HI:=lh Q;have a7:=lh F;have a3:=lh N;have a4:=lh O;have R3:=ak o (x.1.vals f gr) 29 (0,0);have N3:=ae R3 0 _ (ap _ _ _);have ao:=ae R3 29 _ (cB _ _ _);have z3:w.heap.size+1<=o.heap.size:=(by have:=H.size;simpa using this);have e1:=((aj o (.cells (x.1.vals f gr) 29)).cell (p:=⟨z,0,Z7⟩) (by show z<o.heap.size;omega)).trans (jv H n1 d1);have H5:=eb o x.1 f gr 29;clear Q F N O P H))
  refine ZD (bV (n:=33) rfl Tryz.underlying182 rfl (by kernel_rfl) _ _ w.heap.size rfl (jB K4 rfl)) rfl ?_
  have T:Z4 w.heap.size w4 (w4.setRow o.heap.size (y.1.vals G I)):=ZA (ZR _ _) (by omega) _;have aa:=S4.o.belowB T b0 (fun h b hb=>jw HS.o.r h b hb);have a9:=bx (aJ (bx (aJ (bo _ (aj _ _)) G3.o) ((aj _ _).mono (by omega))) G4.o) T;exact FinR.put0 HS.o K4 aa a9
 rw[ZS (fun h=>h h2)] at S;subst h2;by_cases hk:y.1.kind=2
 .rw[ZP hk] at S;subst S;have t6:(y.1.kind==2)=ZX:=by rw[hk];rfl
  clear hk;go_enter Tryz.func111,Tryz.ntmps111
  go_wp2_with (first|(go_at_call 112;have b6:=H5;clear b6;(refine (a6.o _ (S3.o.below (aj _ _))).mono ?_);rintro _ w4 ⟨⟨G,I,rfl,L,J,U,V⟩,Z,K⟩;have ac:=ay y.1 G I (aD L) (aE J);have S4:=lh Z;have G4:=lh K;have Y:(Z9 p:Zp Nat)≠Z9 o.heap.size:=(fun e=>by have:=ZN e;omega);have K5:=H5.grown K Y;have K4:=(H3.grown K X).set (y.1.vals G I) (g:=w.heap.size) (g':=o.heap.size) (fun e=>by omega);have RB:=eT w4 (y.1.vals G I) o.heap.size K5;have NB:=ae RB 0 _ (ap _ _ _);have ad:bh (fc (y.1.vals G I) (.int .i64 id)).toList=ZX:=hZ y.1 G I id (aD L) (aE J);have z4:o.heap.size+1<=w4.heap.size:=(by have:=K.size;simpa using this);have av:=lh L;have a8:=lh J;have af:=lh U;have al:=lh V;clear L J U V Z K)|(go_at_call 112;(refine (a5.o _ (HS.o.below (aj _ _))).mono ?_);rintro _ o ⟨⟨f,gr,rfl,Q,F,N,O⟩,P,H⟩;have a2:=ay x.1 f gr (aD Q) (aE F);have S3:=lh P;have G3:=lh H;have H3:=da o (.cells (x.1.vals f gr) 29) _ _ (HZ.o.grown H X);have R:bh (fc (x.1.vals f gr) (.int .i64 id)).toList=ZX:=hZ x.1 f gr id (aD Q) (aE F);have HI:=lh Q;have a7:=lh F;have a3:=lh N;have a4:=lh O;have R3:=ak o (x.1.vals f gr) 29 (0,0);have N3:=ae R3 0 _ (ap _ _ _);have ao:=ae R3 29 _ (cB _ _ _);have z3:w.heap.size+1<=o.heap.size:=(by have:=H.size;simpa using this);have e1:=((aj o (.cells (x.1.vals f gr) 29)).cell (p:=⟨z,0,Z7⟩) (by show z<o.heap.size;omega)).trans (jv H n1 d1);have H5:=eb o x.1 f gr 29;clear Q F N O P H))
  refine ZD (bV (n:=33) rfl Tryz.underlying182 rfl (by kernel_rfl) _ _ w.heap.size rfl (jB K4 rfl)) rfl ?_
  have T:Z4 w.heap.size w4 (w4.setRow o.heap.size (y.1.vals G I)):=ZA (ZR _ _) (by omega) _;have aa:=S4.o.belowB T b0 (fun h b hb=>jw HS.o.r h b hb);have a9:=bx (aJ (bx (aJ (bo _ (aj _ _)) G3.o) ((aj _ _).mono (by omega))) G4.o) T;exact FinR.put0 HS.o K4 aa a9
 .rw[ZS hk] at S;subst S;have t6:(y.1.kind==2)=ZW:=by rw[ZJ];exact hk
  clear hk;go_enter Tryz.func111,Tryz.ntmps111
  go_wp2_with (first|(go_at_call 112;have b6:=H5;clear b6;(refine (a6.o _ (S3.o.below (aj _ _))).mono ?_);rintro _ w4 ⟨⟨G,I,rfl,L,J,U,V⟩,Z,K⟩;have ac:=ay y.1 G I (aD L) (aE J);have S4:=lh Z;have G4:=lh K;have Y:(Z9 p:Zp Nat)≠Z9 o.heap.size:=(fun e=>by have:=ZN e;omega);have K5:=H5.grown K Y;have K4:=(H3.grown K X).set (y.1.vals G I) (g:=w.heap.size) (g':=o.heap.size) (fun e=>by omega);have RB:=eT w4 (y.1.vals G I) o.heap.size K5;have NB:=ae RB 0 _ (ap _ _ _);have ad:bh (fc (y.1.vals G I) (.int .i64 id)).toList=ZX:=hZ y.1 G I id (aD L) (aE J);have z4:o.heap.size+1<=w4.heap.size:=(by have:=K.size;simpa using this);have av:=lh L;have a8:=lh J;have af:=lh U;have al:=lh V;clear L J U V Z K)|(go_at_call 112;(refine (a5.o _ (HS.o.below (aj _ _))).mono ?_);rintro _ o ⟨⟨f,gr,rfl,Q,F,N,O⟩,P,H⟩;have a2:=ay x.1 f gr (aD Q) (aE F);have S3:=lh P;have G3:=lh H;have H3:=da o (.cells (x.1.vals f gr) 29) _ _ (HZ.o.grown H X);have R:bh (fc (x.1.vals f gr) (.int .i64 id)).toList=ZX:=hZ x.1 f gr id (aD Q) (aE F);have HI:=lh Q;have a7:=lh F;have a3:=lh N;have a4:=lh O;have R3:=ak o (x.1.vals f gr) 29 (0,0);have N3:=ae R3 0 _ (ap _ _ _);have ao:=ae R3 29 _ (cB _ _ _);have z3:w.heap.size+1<=o.heap.size:=(by have:=H.size;simpa using this);have e1:=((aj o (.cells (x.1.vals f gr) 29)).cell (p:=⟨z,0,Z7⟩) (by show z<o.heap.size;omega)).trans (jv H n1 d1);have H5:=eb o x.1 f gr 29;clear Q F N O P H))
  refine ZD (bV (n:=33) rfl Tryz.underlying182 rfl (by kernel_rfl) _ _ w.heap.size rfl (jB K4 (kS y.1 G I id))) rfl ?_
  have T:Z4 w.heap.size w4 (w4.setRow o.heap.size (y.1.vals G I)):=ZA (ZR _ _) (by omega) _;have aa:=S4.o.belowB T b0 (fun h b hb=>jw HS.o.r h b hb);have a9:=bx (aJ (bx (aJ (bo _ (aj _ _)) G3.o) ((aj _ _).mono (by omega))) G4.o) T;have b3:∀ j,o.heap.size+1<=j->j<w4.heap.size->(w4.setRow o.heap.size (y.1.vals G I)).heap[j]?=w4.heap[j]?:=fun j h1 _=>cP _ _ _ _ (by omega)
  exact FinR.put (x:=y) HS.o K4 aa a9 (av.o.keep (o.heap.size+1) (fun q hq=>by have:=af.o q hq;simpa using this) (by simp) b3) (a8.o.keep (o.heap.size+1) (fun q hq=>by have:=al.o q hq;simpa using this) (by simp) b3) (fun q hq=>by have:=af.o q hq;simp at this;omega) (fun q hq=>by have:=al.o q hq;simp at this;omega)
theorem GU(hm:MaxL A)(hT:Tab A)(hS:SHs A w p D l u t m)(a4:0<=m)(a6:m<=70000)(F:t≠0/\t≠6\/u<=0)(c1:w.cell? ⟨z,0,Z7⟩=Z9 (.iface 56 (.pointer (Z9 ⟨p,0,Z7⟩))))(c2:w.cell? ⟨E,0,Z7⟩=Z9 (.string name))(n1:z≠p)(n2:E≠p) :
 ZH Z8 110 #[.iface 56 (.pointer (Z9 ⟨p,0,Z7⟩)),.string name,.func (.func 111) #[] #[.pointer (Z9 ⟨z,0,Z7⟩),.pointer (Z9 ⟨E,0,Z7⟩)]] w fun r w'=>FinR A w w' p D l u t (iX l u t m name) r:=by
 have U:=lh hS;have a7:=hS.pl;have a2:=YF c1;have a3:=YF c2;have K:(Z9 p:Zp Nat)≠Z9 w.heap.size:=fun e=>by have:=ZN e;omega
 have HZ:=lh (uS w 182);have V:=lh (fun W (h:SHs A W p D l u t m)=>oJ p D l u t m name A W hm hT h a4 (by omega) F);have HF:=lh (fun (c id:Int) W (h:SHs A W p D l u t c) (o:0<=c) (h1:c<=80000) L N=>Gh z E p D l u t c id name A W hm hT h o h1 F L N n1 n2);have L:(w.alloc (.cells flit 182)).cell? ⟨z,0,Z7⟩=Z9 (.iface 56 (.pointer (Z9 ⟨p,0,Z7⟩))):=((aj _ _).cell (p:=⟨z,0,Z7⟩) a2).trans c1;have N:(w.alloc (.cells flit 182)).cell? ⟨E,0,Z7⟩=Z9 (.string name):=((aj _ _).cell (p:=⟨E,0,Z7⟩) a3).trans c2;clear hS hm hT F c1 c2;generalize I:iX l u t m name=g;unfold iX at I;have O:=sD l u t m name;generalize dJ l u t m name=gg at O I V;obtain⟨⟨id,c⟩,cb⟩:=gg;dsimp only at O I V;by_cases o:c=0
 rotate_left
 .rw[ZP o] at I;subst I;have t1:(c != 0)=ZX:=by rw[YQ];exact o
  clear o;go_enter Tryz.func110,Tryz.ntmps110
  go_wp2_with (go_at_call 34;(refine (V.o _ (U.o.below (aj _ _))).mono ?_);rintro _ S ⟨rfl,j,H⟩;have S3:=lh j;have X:=lh H;have T:=fun ob=>da S ob _ _ (HZ.o.grown H K);have z3:w.heap.size+1<=S.heap.size:=(by have:=H.size;simpa using this);have R3:=ak S flit 182 (0,0);clear j H)
  refine ZD (bV (n:=33) rfl Tryz.underlying182 rfl (by kernel_rfl) _ _ w.heap.size rfl (jB (cs:=flit) (T _) rfl)) rfl ?_
  exact FinR.put0 U.o (T _) (S3.o.below (aj _ _)) (bx (aJ (bo _ (aj _ _)) X.o) ((aj _ _).mono (by omega)))
 rw[ZS (fun h=>h o)] at I;subst o I;have G:=fun W (h:SHs A W p D l u t cb) L N=>HF.o cb id W h (by omega) (by omega) L N
 generalize kC l u t cb id name=g at G |-;have a0:=lh G;clear G;go_enter Tryz.func110,Tryz.ntmps110
 go_wp2_with first|go_at_call 34;(refine (V.o _ (U.o.below (aj _ _))).mono ?_);rintro _ S ⟨rfl,j,H⟩;have S3:=lh j;have X:=lh H;have T:=HZ.o.grown H K;have z3:w.heap.size+1<=S.heap.size:=(by have:=H.size;simpa using this);have e1:=jv H n1 L;have e2:=jv H n2 N;clear j H|go_at_call 111;(refine (a0.o _ S3.o e1 e2).mono ?_);rintro _ w4 ⟨⟨f,gr,rfl,hI,y,P,Q⟩,R,J⟩;have a5:=hZ g.1.1.1 f gr g.1.2.1 (aD hI) (aE y);have a8:=kS g.1.1.1 f gr g.1.2.1;have S4:=lh R;have G4:=lh J;have H4:=T.grown J K;have HI:=lh hI;have a1:=lh y;have Y:=lh P;have Z:=lh Q;clear hI y P Q R J
 refine ZD (bV (n:=33) rfl Tryz.underlying182 rfl (by kernel_rfl) _ _ w.heap.size rfl (jB H4 (kS g.1.1.1 f gr g.1.2.1))) rfl ?_
 exact FinR.put (x:=g.1.1) U.o H4 S4.o (aJ (aJ (bo _ (aj _ _)) X.o) G4.o) HI.o a1.o (fun q hq=>by have:=Y.o q hq;omega) (fun q hq=>by have:=Z.o q hq;omega)
theorem mid34(e:En)(f gr:Z2)(id:Int)(b:Nat)(h:row w b=fcells e f gr id):mid w b 0=e.vals f gr/\w.cell? ⟨b,33,Z7⟩=Z9 (.int .i64 id):=by
 refine⟨?_,ae h 33 _ ?_⟩
 .unfold mid;rw[h];unfold fcells fc;have H:=ah e f gr;generalize e.vals f gr=cs at H;apply Array.ext'
  simp [H]
 .unfold fcells fc;have H:=ah e f gr;generalize e.vals f gr=cs at H;rw[<-H,Array.getElem?_push_size]
attribute [local go_sem ↓] fb
theorem DX(hm:MaxL A)(hT:Tab A)(I:SHs A w p D l u t m)(a3:0<=m)(a8:m<=60000)(P:t≠0/\t≠6\/u<=0) :
 ZH Z8 42 #[.iface 56 (.pointer (Z9 ⟨p,0,Z7⟩)),.string name] w fun r w'=>En3 w.heap.size w' (iX l u t m name).1 r/\SHs A w' p D l u t (iX l u t m name).2/\w.grownBy w' (Z9 p):=by
 have HS:=lh I;have a5:=I.pl;have n1:w.heap.size≠p:=by omega
 have n2:w.heap.size+1≠p:=by omega
 have J:=lh (fun W (h:SHs A W p D l u t m) K L=>GU w.heap.size (w.heap.size+1) p D l u t m name A W hm hT h a3 (by omega) P K L n1 n2);clear I hm hT P;generalize iX l u t m name=g at J |-;go_enter Tryz.func42,Tryz.ntmps42
 go_upto_region 1 with fail
 have U:Z4 w.heap.size w (((w.alloc (.cells #[.iface 56 (.pointer (Z9 ⟨p,0,Z7⟩))] 115)).alloc (.cells #[.string name] 9)).alloc (.cells (zlit 0 ⟨#[]⟩) 29)):=by exact aB
 have K:(((w.alloc (.cells #[.iface 56 (.pointer (Z9 ⟨p,0,Z7⟩))] 115)).alloc (.cells #[.string name] 9)).alloc (.cells (zlit 0 ⟨#[]⟩) 29)).cell? ⟨w.heap.size,0,Z7⟩=Z9 (.iface 56 (.pointer (Z9 ⟨p,0,Z7⟩))):=by
  rw[ZT (a:=⟨w.heap.size,0,Z7⟩) ((Zk ((w.alloc _).alloc _) _ (by simp;omega)).trans (Zk (w.alloc _) _ (by simp))),Yy _ w.heap.size 0 _ 115 (0,0) (Zs w _)];rfl
 have L:(((w.alloc (.cells #[.iface 56 (.pointer (Z9 ⟨p,0,Z7⟩))] 115)).alloc (.cells #[.string name] 9)).alloc (.cells (zlit 0 ⟨#[]⟩) 29)).cell? ⟨w.heap.size+1,0,Z7⟩=Z9 (.string name):=by
  have e:=Yy _ _ 0 _ 9 (0,0) (Zs (w.alloc (.cells #[.iface 56 (.pointer (Z9 ⟨p,0,Z7⟩))] 115)) (.cells #[.string name] 9));rw[VL] at e;rw[ZT (a:=⟨w.heap.size+1,0,Z7⟩) (Zk ((w.alloc _).alloc _) _ (by simp)),e];rfl
 have Z:Held (((w.alloc (.cells #[.iface 56 (.pointer (Z9 ⟨p,0,Z7⟩))] 115)).alloc (.cells #[.string name] 9)).alloc (.cells (zlit 0 ⟨#[]⟩) 29)) (w.heap.size+1+1) 33:=by
  have e:=cG ((w.alloc (.cells #[.iface 56 (.pointer (Z9 ⟨p,0,Z7⟩))] 115)).alloc (.cells #[.string name] 9)) 29;rw[VL,VL] at e;exact e
 have sz:(((w.alloc (.cells #[.iface 56 (.pointer (Z9 ⟨p,0,Z7⟩))] 115)).alloc (.cells #[.string name] 9)).alloc (.cells (zlit 0 ⟨#[]⟩) 29)).heap.size=w.heap.size+1+1+1:=by simp
 unfold zlit at U K L Z sz;generalize VC (VC (VC w _) _) _=W1 at U K L Z sz |-;have a4:(Z9 p:Zp Nat)≠Z9 (w.heap.size+1+1):=fun e=>by have:=ZN e;omega
 go_upto_region 2 with (go_at_call 110;(refine (J.o _ (HS.o.below U) K L).mono ?_);rintro _ j ⟨⟨f,gr,rfl,X,H,Q,R⟩,T,F⟩;have a7:=hZ g.1.1.1 f gr g.1.2.1 (aD X) (aE H);have a9:=kS g.1.1.1 f gr g.1.2.1;have S3:=lh T;have G3:=lh F;have H3:=da j (.cells (fcells g.1.1.1 f gr g.1.2.1) 182) _ _ (Z.grown F a4);have HI:=lh X;have a2:=lh H;have a0:=lh Q;have a1:=lh R;have a6:=ay g.1.1.1 f gr (aD X) (aE H);have z3:W1.heap.size<=j.heap.size:=F.size;clear X H Q R T F)
 obtain⟨M0,M1⟩:=mid34 (j.alloc (.cells (fcells g.1.1.1 f gr g.1.2.1) 182)) g.1.1.1 f gr g.1.2.1 j.heap.size (ak j _ _ _);have G:(mid (j.alloc (.cells (fcells g.1.1.1 f gr g.1.2.1) 182)) j.heap.size 0).size=33:=by rw[M0];exact ah _ _ _
 refine wp_region_held_drew (S:=fun w'=>(mid w' j.heap.size 0).size=33/\mid w' j.heap.size 0=g.1.1.1.vals f gr/\w'.cell? ⟨j.heap.size,33,Z7⟩=Z9 (.int .i64 g.1.2.1)/\Held w' (w.heap.size+1+1) 33) (by kernel_rfl) ?_ (fun hHeld=>?_)
 .exact⟨G,M0,M1,H3⟩
 (refine rgy (i:=0) (Z9 16) ?_;(try simp only[Act.put,pz]))
 refine eq (i:=1) (Z9 17) (v:=.agg (g.1.1.1.vals f gr)) rfl rfl (by kernel_rfl) (by kernel_rfl) (by kernel_rfl) (fun _ _ _ h=>h) (by kernel_rfl) (fun w' I=>?_) (by assumption) ?_
 .refine (fb _ w' _ _ _ _ _ _ (by rfl) (by exact I.1)).trans ?_
  show Result.ok (Next.value (.agg (mid w' j.heap.size 0))) w'=_
  rw[I.2.1]
 try simp only[Act.put,List.setIfInBounds_toArray,List.set_cons_zero,List.set_cons_succ]
 (refine rgy (i:=2) (Z9 18) ?_;(try simp only[Act.put,pz]))
 (refine rgy (i:=3) (Z9 19) ?_;(try simp only[Act.put,pz]))
 (refine rgy (i:=4) (Z9 20) ?_;(try simp only[Act.put,pz]))
 have N:Held (j.alloc (.cells (fcells g.1.1.1 f gr g.1.2.1) 182)).drew (w.heap.size+1+1) 33:=H3;obtain⟨o,y⟩:∃ o,(j.alloc (.cells (fcells g.1.1.1 f gr g.1.2.1) 182)).drew=o:=⟨_,rfl⟩;rw[y] at N hHeld |-;have V:Z4 j.heap.size j o:=by rw[<-y];exact Below.drew (aj _ _)
 have z2:o.heap.size=j.heap.size+1:=by rw[<-y];simp
 clear y
 have O:(mid (o.setRow (w.heap.size+1+1) (g.1.1.1.vals f gr)) j.heap.size 0).size=33/\mid (o.setRow (w.heap.size+1+1) (g.1.1.1.vals f gr)) j.heap.size 0=g.1.1.1.vals f gr/\(o.setRow (w.heap.size+1+1) (g.1.1.1.vals f gr)).cell? ⟨j.heap.size,33,Z7⟩=Z9 (.int .i64 g.1.2.1)/\Held (o.setRow (w.heap.size+1+1) (g.1.1.1.vals f gr)) (w.heap.size+1+1) 33:=by
  have e:mid (o.setRow (w.heap.size+1+1) (g.1.1.1.vals f gr)) j.heap.size 0=mid o j.heap.size 0:=by
   unfold mid row;rw[cP _ _ _ _ (by omega)]
  exact⟨by rw[e];exact hHeld.1,e.trans hHeld.2.1,(ZT (a:=⟨j.heap.size,33,Z7⟩) (cP _ _ _ _ (by show j.heap.size≠_;omega))).trans hHeld.2.2.1,N.set _ (fun _=>ah _ _ _)⟩
 refine lS (i:=5) Z7 (o.setRow (w.heap.size+1+1) (g.1.1.1.vals f gr)) rfl rfl (by kernel_rfl) (by kernel_rfl) (bq _ _ _ _ _ _ _ _ _ (by rfl) (by exact N) (by rfl) (ah _ _ _) a6) O ?_
 try simp only[Act.put]
 (refine rgy (i:=6) (Z9 5) ?_;(try simp only[Act.put,pz]))
 (refine rgy (i:=7) (Z9 6) ?_;(try simp only[Act.put,pz]))
 refine wpAnyH_done (by kernel_rfl) ?_ _
 clear hHeld O M0 M1 G H3;go_wp2_with fail
 refine ZD (yt (n:=32) rfl Tryz.underlying29 rfl (by kernel_rfl) _ _ (w.heap.size+1+1) rfl (dF N (ah _ _ _))) rfl ?_
 have Y:Z4 w.heap.size o (o.setRow (w.heap.size+1+1) (g.1.1.1.vals f gr)):=ZA (ZR _ _) (by omega) _;have hG:w.grownBy o (Z9 p):=bx (aJ (bo _ U) G3.o) (V.mono (by omega));exact⟨(En3.put (x:=g.1.1) N (HI.o.below V) (a2.o.below V) (fun q hq=>by have:=a0.o q hq;omega) (fun q hq=>by have:=a1.o q hq;omega)).le (by omega),(S3.o.below V).belowB Y a5 (fun h b Y=>jw HS.o.r h b Y),bx hG Y⟩
end
end Go.Proofs.YtnkjliahpeebjaaGreatDoor
