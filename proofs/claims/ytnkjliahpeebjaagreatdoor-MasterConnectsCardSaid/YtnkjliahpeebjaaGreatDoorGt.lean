/- Catalogs. -/
import Derived.Test.YtnkjliahpeebjaaGreatDoorChA
import Derived.Test.YtnkjliahpeebjaaGreatDoorRh
set_option maxRecDepth 8000
set_option maxHeartbeats 8000000
open Option renaming some->Z9,none->Z8
open _root_ renaming ByteArray->Z7,List->Z5,if_neg->Z0,if_pos->ZX,decide_eq_true->ZL,beq_eq_false_iff_ne->ZG,decide_eq_false->ZF,Array->ZE,Option->Zy,congrArg->YX,bne_iff_ne->YN
open Go.Proofs.Tryz renaming prog->Z6
open Go renaming Value->Z3,World->Z2,Calls->ZJ,heap_alloc_new->ZA,heap_alloc_old->Zs,bodyPost_ret->Zd,block_lt_of_cell->YR,cell_of_row->YF,below_setRow->YB,execOp->Ya,Ending->Wo
open Go.World renaming cell?_of_block->Z1,cell?_setCell_other->Zt,size_alloc->Yi,alloc->Wt
open Bool renaming true->ZZ,false->ZW
open Go.RowKit renaming Below->ZV,intOf->Y4
open Nat renaming le_refl->ZS,le_trans->ZD
open Option.some renaming inj->ZR
open Go.RowKit.Below renaming refl->ZM
open List renaming length_cons->ZK,drop_eq_getElem_cons->Zb
open Int renaming le_refl->YA
namespace Go.Proofs.YtnkjliahpeebjaaGreatDoor
open Go.RowKit
variable(a:Addr)(b:Operand->Z3)(s v n p:Nat){B C k:Nat}(D:Z3){W w':Z2}(l:Z5 Rw){cs:ZE Z3}(fl cd d id i:Int){x:Fu}{r:Wo}(name:Z7){m t:Z3}(u w:Z2){c f:Int}
def bL:Fu:=(En.zero,[],[])
def bZ(id:Int)(key:Z7):Z5 Rw->Zy Z7
 | []=>Z8
 | x::l=>if x.1=id/\x.2.1=key then Z9 x.2.2 else bZ id key l
def bw(key s:Z7):Fu × Int:=match cF (Ds.bl s) with
 | none=>(bL,11)
 | some y=>if dL y=Ds.bl key then (y,0) else (bL,11)
def aG(l:Z5 Rw)(fl cd d id i:Int)(name:Z7):(Fu × Int) × Int :=
 if aC i name=⟨#[]⟩ then ((bL,1),d) else if d+1=fl then ((bL,cd),d+1) else match bZ id (aC i name) l with
 | none=>((bL,6),d+1)
 | some s=>(bw (aC i name) s,d+1)
def gm(l:Z5 Rw)(fl cd id:Int)(name:Z7):Z5 Int->Int->(Fu × Int) × Int
 | [],d=>((bL,6),d)
 | k::K,d=>if (aG l fl cd d id k name).1.2=6 then gm l fl cd id name K (aG l fl cd d id k name).2 else aG l fl cd d id k name
def bY(l:Z5 Rw)(fl cd d id:Int)(name:Z7):(Fu × Int) × Int :=
 if Ds.name (Ds.bl name)=ZW then ((bL,1),d) else gm l fl cd id name [0,1,2] d
def bz(l:Z5 Rw)(id i:Int)(name:Z7):Fu × Int:=(aG l 0 0 0 id i name).1
def ij(l:Z5 Rw)(id:Int)(name:Z7):Z5 Int->Fu × Int
 | []=>(bL,6)
 | k::K=>if (bz l id k name).2=6 then ij l id name K else bz l id k name
def dx(l:Z5 Rw)(id:Int)(name:Z7):Fu × Int :=
 if Ds.name (Ds.bl name)=ZW then (bL,1) else ij l id name [0,1,2]
theorem dS:d<=(aG l fl cd d id i name).2/\(aG l fl cd d id i name).2<=d+1:=by
 unfold aG;split
 .exact⟨YA _,by show d<=d+1;omega⟩
 split
 .exact⟨by show d<=d+1;omega,YA _⟩
 split
 .exact⟨by show d<=d+1;omega,YA _⟩
 .exact⟨by show d<=d+1;omega,YA _⟩
theorem iz(H:fl<=0)(h:0<=d):(aG l fl cd d id i name).1=bz l id i name:=by
 unfold bz aG;split
 .rfl
 rw[Z0 (by omega),Z0 (by omega)];split <;> rfl
theorem tE(l:Z5 Rw)(fl cd id:Int)(name:Z7)(h:fl<=0):∀ (K:Z5 Int) (d:Int),0<=d->(gm l fl cd id name K d).1=ij l id name K
 | [],_,_=>rfl
 | k::K,d,H=>by
   have e:=iz l fl cd d id k name h H;unfold gm ij;rw[e];split
   .have:=dS l fl cd d id k name;exact tE l fl cd id name h K _ (by omega)
   .exact e
theorem kh(H:fl<=0)(h:0<=d):(bY l fl cd d id name).1=dx l id name:=by
 unfold dx bY;split
 .rfl
 .exact tE l fl cd id name H _ _ h
theorem tD(l:Z5 Rw)(fl cd id:Int)(name:Z7):∀ (K:Z5 Int) (d:Int),d<=(gm l fl cd id name K d).2/\(gm l fl cd id name K d).2<=d+K.length
 | [],_=>⟨YA _,by simp [gm]⟩
 | k::K,d=>by
   have h:=dS l fl cd d id k name;unfold gm;split
   .have:=tD l fl cd id name K (aG l fl cd d id k name).2;simp only[ZK]
    omega
   .simp only[ZK]
    omega
theorem jq:d<=(bY l fl cd d id name).2/\(bY l fl cd d id name).2<=d+3:=by
 unfold bY;split
 .exact⟨YA _,by show d<=d+3;omega⟩
 .exact tD l fl cd id name [0,1,2] d
theorem mu{id:Int}{key:Z7}{l:Z5 Rw}(H:k<l.length)(h:¬ (l[k].1=id/\l[k].2.1=key)):bZ id key (l.drop (k+1))=bZ id key (l.drop k):=by
 rw[Zb H];exact (Z0 h).symm
theorem uk{id:Int}{key:Z7}{l:Z5 Rw}(H:k<l.length)(h:l[k].1=id/\l[k].2.1=key):bZ id key (l.drop k)=Z9 l[k].2.2:=by
 rw[Zb H];exact ZX h
def lV(fl cd d:Int)(o:Zy Z7):Z3:=if d+1=fl then .tuple #[.string ⟨#[]⟩,.int .i64 cd] else match o with|none=>.tuple #[.string ⟨#[]⟩,.int .i64 6]|some x=>.tuple #[.string x,.int .i64 0]
theorem Ig(key:Z7)(l:Z5 Rw)(w:Z2)(h:SHf w p D fl cd d)(S:RwS w D l)(G:∀ b,D.ownBlock=Z9 b->b≠p)(Z:0<=d)(h1:d<1000000000) :
 ZJ Z6 370 #[.pointer (Z9 ⟨p,0,Z8⟩),.int .i64 id,.string key] w fun r w'=>r=.returned (lV fl cd d (bZ id key l))/\∃ q,w'=(w.setCell ⟨p,3,Z8⟩ (.int .i64 (d+1))).drewN q:=by
 have g:=sN p D fl cd d w h Z h1;obtain⟨J,-⟩:=h;have N:=ae J 2 _ rfl;have L:=ae J 0 _ rfl
 have Y:(w.setCell ⟨p,3,Z8⟩ (.int .i64 (d+1))).cell? ⟨p,2,Z8⟩=Z9 (.int .i64 cd):=by
  rw[Zt _ _ _ _ (by intro h;cases h)];exact N
 have X:(w.setCell ⟨p,3,Z8⟩ (.int .i64 (d+1))).cell? ⟨p,0,Z8⟩=Z9 D:=by
  rw[Zt _ _ _ _ (by intro h;cases h)];exact L
 have y:RwS (w.setCell ⟨p,3,Z8⟩ (.int .i64 (d+1))) D l:=S.keep (by simp) fun b P j=>(de w ⟨p,3,Z8⟩ _).block b j (fun e=>G b P (ZR e))
 generalize w.setCell ⟨p,3,Z8⟩ (.int .i64 (d+1))=W at g Y X y |-;clear J N L S G;unfold lV;by_cases F:d+1=fl
 .rw[ZL F] at g;rw[ZX F];have I:=lh g;clear g F y;go_enter Tryz.func370,Tryz.ntmps370
  go_wp2_with (go_at_call 372;(with_reducible refine I.o.mono ?_);rintro _ w2 ⟨rfl,q,rfl⟩)
  go_quiet (fail)
  go_wp2_with fail
  go_ret2
  exact⟨rfl,_,nM _ _ _⟩
 rw[ZF F] at g;rw[Z0 F];generalize O:(match bZ id key l with|none=>Value.tuple #[.string ⟨#[]⟩,.int .i64 6]|some x=>.tuple #[.string x,.int .i64 0])=A;have K:=lh O;clear O;have I:=lh g;obtain⟨a,c,rfl,hz,R⟩:=y;have U:=lh R;clear g F R;go_enter Tryz.func370,Tryz.ntmps370
 go_wp2_with (go_at_call 372;(with_reducible refine I.o.mono ?_);rintro _ w2 ⟨rfl,q0,rfl⟩)
 go_loopw [8] (fun i wr=>∃ (k:Nat),k<=l.length/\i=.int .i64 k/\Hid (bZ id key (l.drop k)=bZ id key l)/\∃ q,wr=W.drewN q) (fun i _=>l.length - (Y4 i).toNat)
 case atStart=>exact⟨0,Nat.zero_le _,rfl,lh rfl,_,rfl⟩
 case round =>
  obtain⟨k,hk,rfl,HJ,q,rfl⟩:=hrel;by_cases j:k<l.length
  .obtain⟨b,o,rfl,P,H⟩:=U.o (by omega);obtain⟨p0,p1,p2⟩:=H k j;have j1:(0:Int)<=(k:Int):=by omega
   have j2:(k:Int)<(l.length:Int):=by omega
   by_cases E:l[k].1=id
   rotate_left
   .have t1:(l[k].1==id)=ZW:=by rw[ZG];exact E
    have Q:Hid (bZ id key (l.drop (k+1))=bZ id key l):=lh ((mu j (fun h=>E h.1)).trans HJ.o);clear E H;go_wp2_with fail
    go_roundw
    case rel=>exact⟨k+1,by omega,by go_num,Q,_,rfl⟩
    case measure=>simp [Y4];omega
   have t1:(l[k].1==id)=ZZ:=by rw[beq_iff_eq];exact E
   have T:=fd l[k].2.1 key;by_cases z:l[k].2.1=key
   .rw[ZL z] at T;have Q:Hid (bZ id key l=Z9 l[k].2.2):=lh (HJ.o.symm.trans (uk j ⟨E,z⟩));clear E z H;go_wp2_with fail
    go_ret2
    exact⟨by rw[<-K.o,Q.o];rfl,_,rfl⟩
   .rw[ZF z] at T;have Q:Hid (bZ id key (l.drop (k+1))=bZ id key l):=lh ((mu j (fun h=>z h.2)).trans HJ.o);clear E z H;go_wp2_with fail
    go_roundw
    case rel=>exact⟨k+1,by omega,by go_num,Q,_,rfl⟩
    case measure=>simp [Y4];omega
  .obtain rfl:k=l.length:=by omega
   have V:Hid (bZ id key l=Z8):=lh (by rw[<-HJ.o,List.drop_length];rfl);go_wp2_with fail
   go_ret2
   exact⟨by rw[<-K.o,V.o];rfl,_,rfl⟩
theorem Bu : (method (n + 1) 56 (.pointer (Z9 a)) "Get").run Z6 w = .ok (370, .pointer (Z9 a)) w := by kernel_rfl
theorem FN(key:Z7)(u w:Z2)(h:SHs u w p D l fl cd d)(H:0<=d)(e:d<1000000000) :
 ZJ Z6 370 #[.pointer (Z9 ⟨p,0,Z8⟩),.int .i64 id,.string key] w fun r w'=>r=.returned (lV fl cd d (bZ id key l))/\SHs u w' p D l fl cd (d+1)/\w.grownBy w' (Z9 p):=by
 refine (Ig p D fl cd d id key l w h.f h.r h.ne H e).mono ?_
 rintro _ w' ⟨rfl,q,rfl⟩;exact⟨rfl,(h.tick (d+1) q).1,(h.tick (d+1) q).2⟩
section
def EnR(B:Nat)(w':Z2)(x:Fu)(f:Int)(r:Wo):Prop :=
 ∃ (m t:Z3),r=.returned (.tuple #[.agg (x.1.vals m t),.int .i64 f])/\IS w' m x.2.1/\GS w' t x.2.2/\(∀ q,m.ownBlock=Z9 q->B<=q)/\(∀ q,t.ownBlock=Z9 q->B<=q)
theorem EnR.zero(B:Nat)(w':Z2)(f:Int):EnR B w' bL f (.returned (.tuple #[.agg (zlit 0 ⟨#[]⟩),.int .i64 f])) :=
 ⟨.slice Z8 0 0,.slice Z8 0 0,by rw[eh];rfl,IS.nil _,GS.nil _,(fun _ h=>by cases h),(fun _ h=>by cases h)⟩
theorem EnR.le(h:EnR B w' x f r)(e:C<=B):EnR C w' x f r:=by
 obtain⟨m,t,g,j,o,y,z⟩:=h;exact⟨m,t,g,j,o,fun q H=>ZD e (y q H),fun q H=>ZD e (z q H)⟩
theorem nt(h:∀ q,m.ownBlock=Z9 q->C<=q)(H:B<C):∀ q,m.ownBlock=Z9 q->B<q:=fun q e=>Nat.lt_of_lt_of_le H (h q e)
theorem EnR.put(A:Held W B 33)(I:IS W m x.2.1)(G:GS W t x.2.2)(h:∀ q,m.ownBlock=Z9 q->B<q)(g:∀ q,t.ownBlock=Z9 q->B<q) :
 EnR B (W.setRow B (x.1.vals m t)) x f (.returned (.tuple #[.agg (row (W.setRow B (x.1.vals m t)) B),.int .i64 f])):=by
 have o:∀ j,B+1<=j->j<W.heap.size->(W.setRow B (x.1.vals m t)).heap[j]?=W.heap[j]?:=fun j h _=>cP _ _ _ _ (by omega)
 refine⟨m,t,YX (fun z=>Ending.returned (.tuple #[.agg z,.int .i64 f])) (au A _),I.keep (B+1) (fun y e=>h y e) (by simp) o,G.keep (B+1) (fun y e=>g y e) (by simp) o,fun q H=>Nat.le_of_lt (h q H),fun q H=>Nat.le_of_lt (g q H)⟩
theorem EnR.put0(H:Held W B 33):EnR B (W.setRow B (zlit 0 ⟨#[]⟩)) bL f (.returned (.tuple #[.agg (row (W.setRow B (zlit 0 ⟨#[]⟩)) B),.int .i64 f])):=by
 rw[eh];exact EnR.put (x:=bL) H (IS.nil _) (GS.nil _) (fun _ h=>by cases h) (fun _ h=>by cases h)
theorem dF(h:Held W B 33)(H:cs.size=33):(row (W.setRow B cs) B).size=32+1:=(YX Array.size (au h cs)).trans H
theorem Held.grown{w:Z2}{p:Zy Nat}{g n:Nat}(h:Held w g n)(y:w.grownBy w' p)(j:p≠Z9 g):Held w' g n:=by
 obtain⟨t,F,q⟩:=fR h;have H:=(Array.getElem?_eq_some_iff.1 q).1;have e:=y.block g H (fun e=>j e.symm);refine⟨?_,h.2.1,fun o=>(World.frozen?_of_block (a:=⟨g,o,Z8⟩) e).trans (h.2.2 o)⟩
 have:=h.1;unfold row at this |-;rw[e];exact this
attribute [local go_sem ↓] aZ bf bq cl
attribute [local go_sem] bn aS aH bE bH aK aT ak aI aw az aM ah aQ aL aP aO aR aY aW bD ap aq
theorem tl(key s:Z7)(w:Z2)(Z:MaxL w)(Y:Tab w) :
 ZJ Z6 92 #[.string key,.string s] w fun r w'=>EnR w.heap.size w' (bw key s).1 (bw key s).2 r/\ZV w.heap.size w w':=by
 cases e:cF (Ds.bl s) with
 | none =>
   have G:bw key s=(bL,11):=by unfold bw;rw[e]
   rw[G];have S:=lh (fun W (b:ZV w.heap.size w W)=>Cc s W (Z.below b) (Y.below b) e);clear G e;go_enter Tryz.func92,Tryz.ntmps92
   go_wp2_with (go_at_call 30;(refine (S.o _ (by exact aB)).mono ?_);rintro _ J ⟨A,o,j,q,rfl,N,g,h⟩;have I:=ay En.zero (.slice A 0 o) (.slice j 0 q) rfl rfl;have K:=lh (below1 h);have L:=da J (.cells (En.zero.vals (.slice A 0 o) (.slice j 0 q)) 29) _ _ (Held.below (cG w 29) h);clear N g h)
   refine Zd (bV (n:=32) rfl Tryz.underlying29 rfl (by kernel_rfl) _ _ w.heap.size rfl (dF L rfl)) rfl ?_
   exact⟨EnR.put0 L,YB (K.o.alloc K.o.size _) (ZS _) _⟩
 | some y =>
   have F:=uF y key;have S:=lh (fun W (b:ZV w.heap.size w W)=>Cd s y W (Z.below b) (Y.below b) e);have T:=lh (fun W=>jI y.1.kind y.1.name W);by_cases O:dL y=Ds.bl key
   .have G:bw key s=(y,0):=by unfold bw;rw[e];exact ZX O
    rw[ZL O] at F;rw[G];clear G e O;generalize aC y.1.kind y.1.name=kz at F T;go_enter Tryz.func92,Tryz.ntmps92
    go_wp2_with first|go_at_call 30;(refine (S.o _ (by exact aB)).mono ?_);rintro _ J ⟨A,o,j,q,rfl,N,g,h,z,E⟩;have I:=ay y.1 (.slice A y.2.1.length o) (.slice j y.2.2.length q) rfl rfl;have K:=lh (below1 h);have L:=da J (.cells (y.1.vals (.slice A y.2.1.length o) (.slice j y.2.2.length q)) 29) _ _ (Held.below (cG w 29) h);have HI:=lh N;have X:=lh g;have U:=lh z;have V:=lh E;clear N g h z E;have R:=ak J (y.1.vals (.slice A y.2.1.length o) (.slice j y.2.2.length q)) 29 (0,0);have N0:=ae R 0 _ (ap _ _ _);have N1:=ae R 1 _ (aq _ _ _)|go_at_call 88;(with_reducible refine (T.o _).mono ?_);rintro _ w4 ⟨rfl,H⟩;have R4:=am H R (by rw[ah];decide);have Q:=L.below H;have P:=lh (below1 H);clear H
    refine Zd (bV (n:=32) rfl Tryz.underlying29 rfl (by kernel_rfl) _ _ w.heap.size rfl (dF Q (ah _ _ _))) rfl ?_
    exact⟨EnR.put (x:=y) Q (HI.o.below P.o) (X.o.below P.o) (nt U.o (by simp)) (nt V.o (by simp)),YB (bt K.o P.o) (ZS _) _⟩
   .have G:bw key s=(bL,11):=by unfold bw;rw[e];exact Z0 O
    rw[ZF O] at F;rw[G];clear G e O;generalize aC y.1.kind y.1.name=kz at F T;go_enter Tryz.func92,Tryz.ntmps92
    go_wp2_with first|go_at_call 30;(refine (S.o _ (by exact aB)).mono ?_);rintro _ J ⟨A,o,j,q,rfl,N,g,h,z,E⟩;have I:=ay y.1 (.slice A y.2.1.length o) (.slice j y.2.2.length q) rfl rfl;have K:=lh (below1 h);have L:=da J (.cells (y.1.vals (.slice A y.2.1.length o) (.slice j y.2.2.length q)) 29) _ _ (Held.below (cG w 29) h);clear N g h z E;have R:=ak J (y.1.vals (.slice A y.2.1.length o) (.slice j y.2.2.length q)) 29 (0,0);have N0:=ae R 0 _ (ap _ _ _);have N1:=ae R 1 _ (aq _ _ _)|go_at_call 88;(with_reducible refine (T.o _).mono ?_);rintro _ w4 ⟨rfl,H⟩;have Q:=L.below H;have P:=lh (bt K.o (below1 H));clear H
    refine Zd (bV (n:=32) rfl Tryz.underlying29 rfl (by kernel_rfl) _ _ w.heap.size rfl (dF Q rfl)) rfl ?_
    exact⟨EnR.put0 Q,YB P.o (ZS _) _⟩
def CatR(u w w':Z2)(p:Nat)(D:Z3)(l:Z5 Rw)(fl cd:Int)(g:(Fu × Int) × Int)(r:Wo):Prop :=
 EnR w.heap.size w' g.1.1 g.1.2 r/\SHs u w' p D l fl cd g.2/\w.grownBy w' (Z9 p)
theorem CatR.put{u w:Z2}{p:Nat}{D:Z3}{l:Z5 Rw}{fl cd d:Int}(S:SHs u w p D l fl cd d)(o:Held W w.heap.size 33)(j:SHs u W p D l fl cd c)(G:w.grownBy W (Z9 p))(I:IS W m x.2.1)(y:GS W t x.2.2)(e:∀ q,m.ownBlock=Z9 q->w.heap.size<q)(g:∀ q,t.ownBlock=Z9 q->w.heap.size<q) :
 CatR u w (W.setRow w.heap.size (x.1.vals m t)) p D l fl cd ((x,f),c) (.returned (.tuple #[.agg (row (W.setRow w.heap.size (x.1.vals m t)) w.heap.size),.int .i64 f])):=by
 have H:ZV w.heap.size W (W.setRow w.heap.size (x.1.vals m t)):=YB (ZM _ _) (ZS _) _;exact⟨EnR.put o I y e g,j.belowB H S.pl (fun h b H=>jw S.r h b H),bx G H⟩
theorem CatR.put0{u w:Z2}{p:Nat}{D:Z3}{l:Z5 Rw}{fl cd d:Int}(S:SHs u w p D l fl cd d)(e:Held W w.heap.size 33)(H:SHs u W p D l fl cd c)(G:w.grownBy W (Z9 p)) :
 CatR u w (W.setRow w.heap.size (zlit 0 ⟨#[]⟩)) p D l fl cd ((bL,f),c) (.returned (.tuple #[.agg (row (W.setRow w.heap.size (zlit 0 ⟨#[]⟩)) w.heap.size),.int .i64 f])):=by
 rw[eh];exact CatR.put (x:=bL) S e H G (IS.nil _) (GS.nil _) (fun _ h=>by cases h) (fun _ h=>by cases h)
theorem iy(hm:MaxL u)(hT:Tab u)(hS:SHs u w p D l fl cd d)(a3:0<=d)(a5:d<=100000)(A:cd≠0\/fl<=0) :
 ZJ Z6 82 #[.iface 56 (.pointer (Z9 ⟨p,0,Z8⟩)),.int .i64 id,.int .i64 i,.string name] w fun r w'=>CatR u w w' p D l fl cd (aG l fl cd d id i name) r:=by
 have O:=lh (fun W=>jI i name W);have J:=lh hS;have a7:=hS.pl;have a6:=Bu ⟨p,0,Z8⟩;have N:(Z9 p:Zy Nat)≠Z9 w.heap.size:=fun e=>by have:=ZR e;omega
 have Z:=lh (cG w 29);clear hS;generalize o:aG l fl cd d id i name=g;unfold aG at o;by_cases Q:aC i name=⟨#[]⟩
 .rw[ZX Q] at o;subst o;rw[Q] at O;clear Q;go_enter Tryz.func82,Tryz.ntmps82
  go_wp2_with (go_at_call 88;(with_reducible refine (O.o _).mono ?_);rintro _ R ⟨rfl,j⟩;have E:=Z.o.below j;have y:=lh (below1 j);clear j)
  refine Zd (bV (n:=32) rfl Tryz.underlying29 rfl (by kernel_rfl) _ _ w.heap.size rfl (dF E rfl)) rfl ?_
  have B3:=YB y.o (ZS _) (zlit 0 ⟨#[]⟩);exact⟨EnR.put0 E,J.o.below B3,bo _ B3⟩
 rw[Z0 Q] at o
 have e0:(aC i name).toList.isEmpty=ZW:=gG _ (by
  rcases Nat.eq_zero_or_pos (aC i name).size with h|h
  .exact absurd (Ds.bl_inj (List.eq_nil_of_length_eq_zero (by rw[Ds.bl_length];exact h))) Q
  .exact h)
 clear Q;generalize aC i name=Y at O o e0;have H:=fun W (h:SHs u W p D l fl cd d)=>FN p D l fl cd d id Y u W h a3 (by omega)
 unfold lV at H;by_cases hf:d+1=fl
 .rw[ZX hf] at o H;subst o;have T:=lh H;have z:cd≠0:=by rcases A with h|h;exact h;omega
  have t1:(cd != 0)=ZZ:=by rw[YN];exact z
  have t2:(cd==0)=ZW:=by rw[ZG];exact z
  clear H A z hf;go_enter Tryz.func82,Tryz.ntmps82
  go_wp2_with first|go_at_call 88;(with_reducible refine (O.o _).mono ?_);rintro _ R ⟨rfl,j⟩;have E:=Z.o.below j;have y:=lh (below1 j);have U:=lh (J.o.below y.o);have z2:w.heap.size<R.heap.size:=(by have:=j.size;simp at this;omega);clear j|go_at_call 370;(with_reducible refine (T.o _ U.o).mono ?_);rintro _ w3 ⟨rfl,F,S⟩;have P:=lh F;have G:=lh S;have I:=E.grown S N;clear F S
  refine Zd (bV (n:=32) rfl Tryz.underlying29 rfl (by kernel_rfl) _ _ w.heap.size rfl (dF I rfl)) rfl ?_
  exact CatR.put0 J.o I P.o (aJ (bo _ y.o) G.o)
 rw[Z0 hf] at o H;clear hf
 cases hr:bZ id Y l with
 | none =>
   rw[hr] at o H;subst o;have T:=lh H;clear H A hr;go_enter Tryz.func82,Tryz.ntmps82
   go_wp2_with first|go_at_call 88;(with_reducible refine (O.o _).mono ?_);rintro _ R ⟨rfl,j⟩;have E:=Z.o.below j;have y:=lh (below1 j);have U:=lh (J.o.below y.o);have z2:w.heap.size<R.heap.size:=(by have:=j.size;simp at this;omega);clear j|go_at_call 370;(with_reducible refine (T.o _ U.o).mono ?_);rintro _ w3 ⟨rfl,F,S⟩;have P:=lh F;have G:=lh S;have I:=E.grown S N;clear F S
   refine Zd (bV (n:=32) rfl Tryz.underlying29 rfl (by kernel_rfl) _ _ w.heap.size rfl (dF I rfl)) rfl ?_
   exact CatR.put0 J.o I P.o (aJ (bo _ y.o) G.o)
 | some s =>
   rw[hr] at o H;replace o:(bw Y s,d+1)=g:=o
   subst o;have T:=lh H;have HR:=lh (fun W (b:ZV u.heap.size u W)=>tl Y s W (hm.below b) (hT.below b));clear H A hr;generalize bw Y s=xc at HR |-;obtain⟨x,f⟩:=xc;go_enter Tryz.func82,Tryz.ntmps82
   go_wp2_with first|go_at_call 88;(with_reducible refine (O.o _).mono ?_);rintro _ R ⟨rfl,j⟩;have E:=Z.o.below j;have y:=lh (below1 j);have U:=lh (J.o.below y.o);have z2:w.heap.size<R.heap.size:=(by have:=j.size;simp at this;omega);clear j|go_at_call 370;(with_reducible refine (T.o _ U.o).mono ?_);rintro _ w3 ⟨rfl,F,S⟩;have P:=lh F;have G:=lh S;have I:=E.grown S N;clear F S|go_at_call 92;(refine (HR.o _ P.o.b).mono ?_);rintro _ w4 ⟨⟨m,t,rfl,hI,K,V,X⟩,L⟩;have a4:=ay x.1 m t (aD hI) (aE K);have H4:=I.below L;have HI:=lh hI;have a2:=lh K;have a0:=lh V;have a1:=lh X;have B4:=lh L;clear hI K V X L
   refine Zd (bV (n:=32) rfl Tryz.underlying29 rfl (by kernel_rfl) _ _ w.heap.size rfl (dF H4 (ah _ _ _))) rfl ?_
   have z3:=(aJ (bo _ y.o) G.o).size;exact CatR.put (x:=x) J.o H4 (P.o.below B4.o) (bx (aJ (bo _ y.o) G.o) (B4.o.mono z3)) HI.o a2.o (fun q hq=>by have:=a0.o q hq;have:=G.o.size;omega) (fun q hq=>by have:=a1.o q hq;have:=G.o.size;omega)
theorem mx(hm:MaxL u)(hT:Tab u)(hS:SHs u w p D l fl cd d)(a5:0<=d)(a8:d<=90000)(a6:cd≠0/\cd≠6\/fl<=0) :
 ZJ Z6 112 #[.iface 56 (.pointer (Z9 ⟨p,0,Z8⟩)),.int .i64 id,.string name] w fun r w'=>CatR u w w' p D l fl cd (bY l fl cd d id name) r:=by
 have HV:=lh (fun W (b:ZV u.heap.size u W)=>ez name W (hm.below b));have S:=lh hS;have a9:=hS.pl;have L:cd≠0\/fl<=0:=by omega
 have Y:(Z9 p:Zy Nat)≠Z9 w.heap.size:=fun e=>by have:=ZR e;omega
 have HZ:=lh (cG w 29);have HG:=lh (fun (c k:Int) W (h:SHs u W p D l fl cd c) (h0:0<=c) (h1:c<=100000)=>iy p D l fl cd c id k name u W hm hT h h0 h1 L);clear hS hm hT a6 L;generalize I:bY l fl cd d id name=g;unfold bY at I;cases Q:Ds.name (Ds.bl name)
 .rw[ZX Q] at I;subst I;rw[Q] at HV;clear Q;go_enter Tryz.func112,Tryz.ntmps112
  go_wp2_with (go_at_call 32;(with_reducible refine (HV.o _ (by exact (S.o.below (aj _ _)).b)).mono ?_);rintro _ J ⟨rfl,K⟩;have H2:=HZ.o.below K;have R:=lh (below1 K);clear K)
  refine Zd (bV (n:=32) rfl Tryz.underlying29 rfl (by kernel_rfl) _ _ w.heap.size rfl (dF H2 rfl)) rfl ?_
  exact CatR.put0 S.o H2 (S.o.below R.o) (bo _ R.o)
 rw[Z0 (by rw[Q];simp)] at I;rw[Q] at HV;have a2:=lh I;clear Q I;go_enter Tryz.func112,Tryz.ntmps112
 go_wp2_with (go_at_call 32;(with_reducible refine (HV.o _ (by exact (S.o.below (aj _ _)).b)).mono ?_);rintro _ J ⟨rfl,K⟩;have H2:=HZ.o.below K;have R:=lh (below1 K);have z2:w.heap.size<J.heap.size:=(by have:=K.size;simp at this;omega);clear K)
 go_loopw [18] (fun i wr=>∃ (k:Nat) (c:Int),k<=3/\i=.int .i64 k/\0<=c/\c<=d+k/\Hid (gm l fl cd id name (([0,1,2]:Z5 Int).drop k) c=g)/\SHs u wr p D l fl cd c/\w.grownBy wr (Z9 p)/\Held wr w.heap.size 33/\J.heap.size<wr.heap.size/\(∀ j,j<3->wr.cell? ⟨J.heap.size,j,Z8⟩=Z9 (.int .i64 j))) (fun i _=>3 - (Y4 i).toNat)
 case atStart =>
  refine⟨0,d,by decide,rfl,a5,by simp,a2,(S.o.below R.o).below (aj _ _),bo _ (bt R.o (aj _ _)),da _ _ _ _ H2,by simp,fun j hj=>?_⟩
  rw[YF _ _ j _ 3 (0,0) (ZA J _)];rcases (by omega:j=0\/j=1\/j=2) with rfl|rfl|rfl <;> rfl
 case round =>
  obtain⟨k,c,hk,rfl,h0,h1,HH,hs,I,hH,X,o⟩:=hrel;have U:=lh hs;have O:=lh I;have HC:=lh o;clear hs I;by_cases a7:k<3
  .have p0:=o k a7
   have hd:(([0,1,2]:Z5 Int).drop k)=(k:Int)::(([0,1,2]:Z5 Int).drop (k+1)):=by
    rcases (by omega:k=0\/k=1\/k=2) with rfl|rfl|rfl <;> rfl
   have H:=HH.o;rw[hd] at H;unfold gm at H;have A:=HG.o c k wr U.o h0 (by omega);have V:=dS l fl cd c id k name;generalize aG l fl cd c id k name=gg at A V H;obtain⟨⟨x,f⟩,cb⟩:=gg;dsimp only at V H;have T:=lh A;have j1:(0:Int)<=(k:Int):=by omega
   have j2:(k:Int)<3:=by omega
   have aa:w.heap.size<wr.heap.size:=by omega
   clear A o hd HH;by_cases h6:f=6
   .rw[ZX h6] at H;have a4:=lh H;have t1:(f != 6)=ZW:=by rw[h6];rfl
    clear H;go_wp2_with (go_at_call 82;(refine T.o.mono ?_);rintro _ w3 ⟨⟨m,t,rfl,P,y,F,G⟩,E,z⟩;have Z:=ay x.1 m t (aD P) (aE y);have S3:=lh E;have N:=lh z;clear P y F G E z)
    go_roundw
    case rel =>
     have z3:=N.o.size;refine⟨k+1,cb,by omega,by go_num,by omega,by omega,a4,S3.o.below (aj _ _),bx (aJ O.o N.o) ((aj _ _).mono (by omega)),da _ _ _ _ (hH.grown N.o Y),by simp;omega,fun j hj=>?_⟩
     rw[<-HC.o j hj];exact Z1 (a:=⟨J.heap.size,j,Z8⟩) ((Zs w3 _ (show J.heap.size<w3.heap.size by omega)).trans (N.o.block J.heap.size X (fun e:(Z9 J.heap.size:Zy Nat)=Z9 p=>by have:=ZR e;omega)))
    case measure=>simp [Y4];omega
   .rw[Z0 h6] at H;subst H;have t1:(f != 6)=ZZ:=by rw[YN];exact h6
    go_wp2_with (go_at_call 82;(refine T.o.mono ?_);rintro _ w3 ⟨⟨m,t,rfl,P,y,F,G⟩,E,z⟩;have Z:=ay x.1 m t (aD P) (aE y);have S3:=lh E;have N:=lh z;have HI:=lh P;have a3:=lh y;have a0:=lh F;have a1:=lh G;have H3:=da w3 (.cells (x.1.vals m t) 29) _ _ (hH.grown z Y);clear P y F G E z)
    refine Zd (bV (n:=32) rfl Tryz.underlying29 rfl (by kernel_rfl) _ _ w.heap.size rfl (dF H3 (ah _ _ _))) rfl ?_
    exact CatR.put (x:=x) S.o H3 (S3.o.below (aj _ _)) (bx (aJ O.o N.o) ((aj _ _).mono (by have:=N.o.size;omega))) (HI.o.below (aj _ _)) (a3.o.below (aj _ _)) (fun q hq=>by have:=a0.o q hq;omega) (fun q hq=>by have:=a1.o q hq;omega)
  .obtain rfl:k=3:=by omega
   have H:((bL,6),c)=g:=HH.o;subst H;go_wp2_with fail
   refine Zd (bV (n:=32) rfl Tryz.underlying29 rfl (by kernel_rfl) _ _ w.heap.size rfl (dF hH rfl)) rfl ?_
   exact CatR.put0 S.o hH U.o O.o
end
section
attribute [local go_sem ↓] aZ bf bq cl
attribute [local go_sem] bn aS aH bE bH aK aT ak aI aw az aM ah aQ aL aP aO aR aY aW bD ap aq
def RatR(w w':Z2)(g:Fu × Int)(r:Wo):Prop:=EnR w.heap.size w' g.1 g.2 r/\ZV w.heap.size w w'
theorem RatR.put{w:Z2}(e:Held W w.heap.size 33)(g:ZV w.heap.size w W)(I:IS W m x.2.1)(j:GS W t x.2.2)(h:∀ q,m.ownBlock=Z9 q->w.heap.size<q)(H:∀ q,t.ownBlock=Z9 q->w.heap.size<q) :
 RatR w (W.setRow w.heap.size (x.1.vals m t)) (x,f) (.returned (.tuple #[.agg (row (W.setRow w.heap.size (x.1.vals m t)) w.heap.size),.int .i64 f])) :=
 ⟨EnR.put e I j h H,YB g (ZS _) _⟩
theorem RatR.put0{w:Z2}(h:Held W w.heap.size 33)(H:ZV w.heap.size w W) :
 RatR w (W.setRow w.heap.size (zlit 0 ⟨#[]⟩)) (bL,f) (.returned (.tuple #[.agg (row (W.setRow w.heap.size (zlit 0 ⟨#[]⟩)) w.heap.size),.int .i64 f])) :=
 ⟨EnR.put0 h,YB H (ZS _) _⟩
end
section
def iF(n:Int)(s:Z7):Z7:=⟨(Ds.first n (Ds.bl s)).toArray⟩
def dn:Nat->Z5 Int
 | 0=>[]
 | k+1=>((k+1:Nat):Int)::dn k
def gT(l:Z5 Rw)(fl cd:Int)(name:Z7):Z5 Int->Int->(Int × Int) × Int
 | [],d=>((1,0),d)
 | n::N,d=>match aG l fl cd d 1 3 (iF n name) with
   | ((x,c),e)=>if c=0 then ((x.1.cat,0),e) else if c=6 then gT l fl cd name N e else ((0,c),e)
def dJ(l:Z5 Rw)(fl cd d:Int)(name:Z7):(Int × Int) × Int :=
 if Ds.name (Ds.bl name)=ZW then ((0,1),d) else gT l fl cd name (dn 2) d
def kC(l:Z5 Rw)(fl cd d id:Int)(name:Z7):(Fu × Int × Int) × Int :=
 match bY l fl cd d id name with
 | ((x,h),e)=>if h≠0 then ((bL,0,h),e) else if x.1.kind≠2 then ((x,id,0),e) else
  match bY l fl cd e id x.1.target with
  | ((y,j),g)=>if j≠0 then ((bL,0,j),g) else if y.1.kind=2 then ((bL,0,7),g) else ((y,id,0),g)
def iX(l:Z5 Rw)(fl cd d:Int)(name:Z7):(Fu × Int × Int) × Int :=
 match dJ l fl cd d name with
 | ((id,c),e)=>if c≠0 then ((bL,0,c),e) else kC l fl cd e id name
def kp(l:Z5 Rw)(name:Z7):Z5 Int->Int × Int
 | []=>(1,0)
 | n::N=>match bz l 1 3 (iF n name) with
   | (x,c)=>if c=0 then (x.1.cat,0) else if c=6 then kp l name N else (0,c)
def cj(l:Z5 Rw)(name:Z7):Int × Int:=if Ds.name (Ds.bl name)=ZW then (0,1) else kp l name (dn 2)
def jH(l:Z5 Rw)(name:Z7):Fu × Int × Int :=
 match cj l name with
 | (id,c)=>if c≠0 then (bL,0,c) else
  match dx l id name with
  | (x,e)=>if e≠0 then (bL,0,e) else if x.1.kind≠2 then (x,id,0) else
   match dx l id x.1.target with
   | (y,g)=>if g≠0 then (bL,0,g) else if y.1.kind=2 then (bL,0,7) else (y,id,0)
theorem sF(l:Z5 Rw)(fl cd:Int)(name:Z7)(H:fl<=0):∀ (N:Z5 Int) (d:Int),0<=d->(gT l fl cd name N d).1=kp l name N/\0<=(gT l fl cd name N d).2
 | [],_,h=>⟨rfl,h⟩
 | n::N,d,h=>by
   have E:=iz l fl cd d 1 3 (iF n name) H h;have e:=dS l fl cd d 1 3 (iF n name);unfold gT kp;rw[<-E];generalize aG l fl cd d 1 3 (iF n name)=g at e;obtain⟨⟨x,c⟩,j⟩:=g;dsimp only at e |-;split
   .exact⟨rfl,by omega⟩
   split
   .exact sF l fl cd name H N j (by omega)
   .exact⟨rfl,by omega⟩
theorem ox(H:fl<=0)(h:0<=d):(dJ l fl cd d name).1=cj l name/\0<=(dJ l fl cd d name).2:=by
 unfold dJ cj;split
 .exact⟨rfl,h⟩
 .exact sF l fl cd name H _ _ h
theorem Aw(H:fl<=0)(A:0<=d):(iX l fl cd d name).1=jH l name:=by
 have E:=ox l fl cd d name H A;unfold iX jH kC;rw[<-E.1];have h:=E.2;generalize dJ l fl cd d name=g at h;obtain⟨⟨id,c⟩,e⟩:=g;dsimp only at h |-;split
 .rfl
 have q:=kh l fl cd e id name H h;have o:=(jq l fl cd e id name).1;rw[<-q];generalize bY l fl cd e id name=g at o;obtain⟨⟨x,F⟩,j⟩:=g;dsimp only at o |-;split
 .rfl
 split
 .rfl
 have z:=kh l fl cd j id x.1.target H (by omega);rw[<-z];generalize bY l fl cd j id x.1.target=g;obtain⟨⟨y,G⟩,I⟩:=g;dsimp only;split
 .rfl
 split <;> rfl
theorem sE(l:Z5 Rw)(fl cd:Int)(name:Z7):∀ (N:Z5 Int) (d:Int),d<=(gT l fl cd name N d).2/\(gT l fl cd name N d).2<=d+N.length
 | [],_=>⟨YA _,by simp [gT]⟩
 | n::N,d=>by
   have e:=dS l fl cd d 1 3 (iF n name);unfold gT;generalize aG l fl cd d 1 3 (iF n name)=g at e;obtain⟨⟨x,c⟩,h⟩:=g;dsimp only at e |-;have:=sE l fl cd name N h;simp only[ZK]
   split
   .dsimp only;omega
   split
   .omega
   .dsimp only;omega
theorem sD:d<=(dJ l fl cd d name).2/\(dJ l fl cd d name).2<=d+2:=by
 unfold dJ;split
 .exact⟨YA _,by show d<=d+2;omega⟩
 .exact sE l fl cd name (dn 2) d
attribute [local go_sem ↓] aZ bf bq cl
attribute [local go_sem] bn aS aH bE bH aK aT ak aI aw az aM ah aQ aL aP aO aR aY aW bD ap aq
theorem oJ(hm:MaxL u)(hT:Tab u)(hS:SHs u w p D l fl cd d)(a2:0<=d)(a5:d<=90000)(a3:cd≠0/\cd≠6\/fl<=0) :
 ZJ Z6 34 #[.iface 56 (.pointer (Z9 ⟨p,0,Z8⟩)),.string name] w fun r w'=>r=.returned (.tuple #[.int .i64 (dJ l fl cd d name).1.1,.int .i64 (dJ l fl cd d name).1.2])/\SHs u w' p D l fl cd (dJ l fl cd d name).2/\w.grownBy w' (Z9 p):=by
 have HV:=lh (fun W (b:ZV u.heap.size u W)=>ez name W (hm.below b));have HF:=lh (fun n W (b:ZV u.heap.size u W)=>Ce n name W (hm.below b));have Z:=lh hS;have O:cd≠0\/fl<=0:=by omega
 have HG:=lh (fun (c k:Int) X W (h:SHs u W p D l fl cd c) (h0:0<=c) (h1:c<=100000)=>iy p D l fl cd c 1 k X u W hm hT h h0 h1 O);clear hS hm hT a3 O;generalize K:dJ l fl cd d name=g;unfold dJ at K;cases S:Ds.name (Ds.bl name)
 rw[ZX S] at K;subst K;rw[S] at HV;clear S;rotate_left;rw[Z0 (by rw[S];simp)] at K;rw[S] at HV;have a0:=lh K;clear S K;rotate_left
 iterate 1
  focus
   go_enter Tryz.func34,Tryz.ntmps34
   go_wp2_with (go_at_call 32;(with_reducible refine (HV.o _ Z.o.b).mono ?_);rintro _ w2 ⟨rfl,A⟩;have T:=lh A;clear A)
   go_ret2
   exact⟨rfl,Z.o.below T.o,bo _ T.o⟩
 go_enter Tryz.func34,Tryz.ntmps34
 go_wp2_with (go_at_call 32;(with_reducible refine (HV.o _ Z.o.b).mono ?_);rintro _ w2 ⟨rfl,A⟩;have T:=lh A;clear A)
 go_loopw [6] (fun i wr=>∃ (k:Nat) (c:Int),k<=2/\i=.int .i64 k/\0<=c/\c+k<=d+2/\Hid (gT l fl cd name (dn k) c=g)/\SHs u wr p D l fl cd c/\w.grownBy wr (Z9 p)) (fun i _=>(Y4 i).toNat)
 case atStart=>exact⟨2,d,by decide,rfl,a2,by omega,a0,Z.o.below T.o,bo _ T.o⟩
 case round =>
  obtain⟨k,c,hk,rfl,h0,h1,HH,hs,K⟩:=hrel;have z:=lh hs;have y:=lh K;clear hs K
  cases k with
  | zero =>
    have H:((1,0),c)=g:=HH.o;subst H;go_wp2_with fail
    go_ret2
    exact⟨rfl,z.o,y.o⟩
  | succ k =>
    have H:=HH.o;unfold dn gT iF at H;have E:=HF.o ((k+1:Nat):Int);generalize (⟨(Ds.first ((k+1:Nat):Int) (Ds.bl name)).toArray⟩:Z7)=X at E H;clear HH;generalize a4:((k+1:Nat):Int)=kn at E h1 |-;have k1:1<=kn:=by omega
    have k2:kn<=2:=by omega
    have K3:=lh (show kn=(k:Int)+1 by omega);clear a4;have J:=fun W (h:SHs u W p D l fl cd c)=>HG.o c 3 X W h h0 (by omega)
    have V:=dS l fl cd c 1 3 X;generalize aG l fl cd c 1 3 X=gg at J V H;obtain⟨⟨x,f⟩,cb⟩:=gg;dsimp only at V H;have R:=lh J;have Q:=lh E;clear J E;by_cases j:f=0
    .rw[ZX j] at H;subst H j
     go_wp2_with first|go_at_call 83;(with_reducible refine (Q.o _ z.o.b).mono ?_);rintro _ Y ⟨rfl,A⟩;have F:=lh A;clear A|go_at_call 82;(refine (R.o _ (z.o.below F.o)).mono ?_);rintro _ w3 ⟨⟨m,t,rfl,N,e,G,I⟩,q,o⟩;have P:=ay x.1 m t (aD N) (aE e);have U:=lh q;have L:=lh o;have R3:=ak w3 (x.1.vals m t) 29 (0,0);have N3:=ae R3 30 _ (dv _ _ _);clear N e G I q o
     go_ret2
     exact⟨rfl,U.o.below (aj _ _),bx (aJ (aJ y.o (bo _ F.o)) L.o) ((aj _ _).mono (by have:=(aJ (aJ y.o (bo _ F.o)) L.o).size;omega))⟩
    rw[Z0 j] at H;have t0:(f==0)=ZW:=by rw[ZG];exact j
    by_cases h6:f=6
    .rw[ZX h6] at H;have a1:=lh H;have t1:(f==6)=ZZ:=by rw[h6];rfl
     clear H j
     go_wp2_with first|go_at_call 83;(with_reducible refine (Q.o _ z.o.b).mono ?_);rintro _ Y ⟨rfl,A⟩;have F:=lh A;clear A|go_at_call 82;(refine (R.o _ (z.o.below F.o)).mono ?_);rintro _ w3 ⟨⟨m,t,rfl,N,e,G,I⟩,q,o⟩;have P:=ay x.1 m t (aD N) (aE e);have U:=lh q;have L:=lh o;clear N e G I q o
     go_roundw
     case rel=>exact⟨k,cb,by omega,by have:=K3.o;first|(go_num;done)|(congr 1;omega),by omega,by have:=K3.o;omega,a1,U.o.below (aj _ _),bx (aJ (aJ y.o (bo _ F.o)) L.o) ((aj _ _).mono (by have:=(aJ (aJ y.o (bo _ F.o)) L.o).size;omega))⟩
     case measure=>have:=K3.o;simp [Y4];omega
    .rw[Z0 h6] at H;subst H;have t1:(f==6)=ZW:=by rw[ZG];exact h6
     go_wp2_with first|go_at_call 83;(with_reducible refine (Q.o _ z.o.b).mono ?_);rintro _ Y ⟨rfl,A⟩;have F:=lh A;clear A|go_at_call 82;(refine (R.o _ (z.o.below F.o)).mono ?_);rintro _ w3 ⟨⟨m,t,rfl,N,e,G,I⟩,q,o⟩;have P:=ay x.1 m t (aD N) (aE e);have U:=lh q;have L:=lh o;clear N e G I q o
     go_ret2
     exact⟨rfl,U.o.below (aj _ _),bx (aJ (aJ y.o (bo _ F.o)) L.o) ((aj _ _).mono (by have:=(aJ (aJ y.o (bo _ F.o)) L.o).size;omega))⟩
end
section
attribute [local go_sem ↓] aZ bf bq cl
attribute [local go_sem] bn aS aH bE bH aK aT ak aI aw az aM ah aQ aL aP aO aR aY aW bD ap aq
def En3(B:Nat)(w':Z2)(g:Fu × Int × Int)(r:Wo):Prop :=
 ∃ (m t:Z3),r=.returned (.tuple #[.agg (g.1.1.vals m t),.int .i64 g.2.1,.int .i64 g.2.2])/\IS w' m g.1.2.1/\GS w' t g.1.2.2/\(∀ q,m.ownBlock=Z9 q->B<=q)/\(∀ q,t.ownBlock=Z9 q->B<=q)
theorem En3.put{id:Int}(A:Held W B 33)(I:IS W m x.2.1)(G:GS W t x.2.2)(h:∀ q,m.ownBlock=Z9 q->B<q)(g:∀ q,t.ownBlock=Z9 q->B<q) :
 En3 B (W.setRow B (x.1.vals m t)) (x,id,f) (.returned (.tuple #[.agg (row (W.setRow B (x.1.vals m t)) B),.int .i64 id,.int .i64 f])):=by
 have o:∀ j,B+1<=j->j<W.heap.size->(W.setRow B (x.1.vals m t)).heap[j]?=W.heap[j]?:=fun j h _=>cP _ _ _ _ (by omega)
 refine⟨m,t,YX (fun z=>Ending.returned (.tuple #[.agg z,.int .i64 id,.int .i64 f])) (au A _),I.keep (B+1) (fun y e=>h y e) (by simp) o,G.keep (B+1) (fun y e=>g y e) (by simp) o,fun q H=>Nat.le_of_lt (h q H),fun q H=>Nat.le_of_lt (g q H)⟩
theorem En3.put0(H:Held W B 33):En3 B (W.setRow B (zlit 0 ⟨#[]⟩)) (bL,0,f) (.returned (.tuple #[.agg (row (W.setRow B (zlit 0 ⟨#[]⟩)) B),.int .i64 0,.int .i64 f])):=by
 rw[eh];exact En3.put (x:=bL) H (IS.nil _) (GS.nil _) (fun _ h=>by cases h) (fun _ h=>by cases h)
theorem En3.le{g:Fu × Int × Int}(h:En3 B w' g r)(e:C<=B):En3 C w' g r:=by
 obtain⟨m,t,j,o,y,z,A⟩:=h;exact⟨m,t,j,o,y,fun q H=>ZD e (z q H),fun q H=>ZD e (A q H)⟩
end
section
def qd:Z3->Bool|.int .i64 _=>ZZ|_=>ZW
theorem Am(k:Int):qd (.int .i64 k)=ZZ:=rfl
theorem Dy(z cs:ZE Z3)(v:Z3)(H:z.size=34)(h:cs.size=33) :
 (Array.foldl (fun cs (x:Z3 × Nat)=>cs.setIfInBounds x.snd x.fst) z cs.zipIdx 0 33).setIfInBounds 33 v=cs.push v/\(Array.foldl (fun cs (x:Z3 × Nat)=>cs.setIfInBounds x.snd x.fst) z cs.zipIdx 0 33).size=34:=by
 have e:Array.foldl (fun cs (x:Z3 × Nat)=>cs.setIfInBounds x.snd x.fst) z cs.zipIdx 0 33=over z 0 cs.toList:=by
  have g:cs.zipIdx.size=33:=by simp [h]
  rw[<-g,<-Array.foldl_toList,Array.toList_zipIdx,me]
 rw[e];refine⟨?_,by rw[jW];exact H⟩
 have:=tS cs.toList [v] 0 z;rw[Array.length_toList,h] at this;have E:over (over z 0 cs.toList) (0+33) [v]=(over z 0 cs.toList).setIfInBounds 33 v:=rfl;rw[<-E,this,<-Array.toList_push];exact lv _ _ (by rw[H,Array.size_push,h])
def fc(cs:ZE Z3)(v:Z3):ZE Z3:=cs.push v
theorem uJ(cs:ZE Z3)(v:Z3):(fc cs v).size=cs.size+1:=by unfold fc;rw[Array.size_push]
theorem EW(dst x y t pos af gd)(H:cV (b x)=ZZ)(j:(bA (b x)).size=33)(e:qd (b y)=ZZ) :
 (Ya b ⟨dst,.build 182 #[(0,x),(1,y)],t,pos,af,gd⟩).run Z6 w=.ok (.value (.agg (fc (bA (b x)) (b y)))) w:=by
 obtain⟨cs,q⟩:∃ cs,b x=.agg cs:=by
  unfold cV at H;split at H
  .rename_i g h;exact⟨g,h⟩
  .cases H
 obtain⟨k,z⟩:∃ k,b y=.int .i64 k:=by
  unfold qd at e;split at e
  .rename_i g h;exact⟨g,h⟩
  .cases e
 rw[q,aK] at j |-;rw[z];unfold fc;go_simp
 have o:=fun Z A=>Dy Z cs (.int .i64 k) A j
 rw[(o _ rfl).1,(o _ rfl).2];rfl
theorem GR(dst x t pos af gd)(h:db (b x)=ZZ)(H:(row w (bF (b x))).size=34) :
 (Ya b ⟨dst,.load 182 x,t,pos,af,gd⟩).run Z6 w=.ok (.value (.agg (row w (bF (b x))))) w :=
 kW b w _ 33 _ Tryz.underlying182 rfl (by kernel_rfl) dst x t pos af gd h H
theorem ID(z:ZE Z3)(t:TypeId)(dst x y t' pos af gd)(h:z.size=34)(H:db (b x)=ZZ)(e:bF (b x)=w.heap.size)(g:cV (b y)=ZZ)(j:(bA (b y)).size=34)(o:bh (bA (b y)).toList=ZZ) :
 (Ya b ⟨dst,.store 182 x y,t',pos,af,gd⟩).run Z6 (w.alloc (.cells z t))=.ok .skip (w.alloc (.cells (bA (b y)) t)) :=
 l0 b w _ 33 (by kernel_rfl) z t dst x y t' pos af gd h H e g j o
theorem CP(dst x y t' pos af gd)(h:db (b x)=ZZ)(H:Held w (bF (b x)) 34)(e:cV (b y)=ZZ)(g:(bA (b y)).size=34)(j:bh (bA (b y)).toList=ZZ) :
 (Ya b ⟨dst,.store 182 x y,t',pos,af,gd⟩).run Z6 w=.ok .skip (w.setRow (bF (b x)) (bA (b y))) :=
 kN b w _ 33 (by kernel_rfl) dst x y t' pos af gd h H e g j
def fcells(x:En)(m t:Z3)(id:Int):ZE Z3:=fc (x.vals m t) (.int .i64 id)
theorem kS(x:En)(m t:Z3)(id:Int):(fcells x m t id).size=34:=by unfold fcells;rw[uJ,ah]
theorem hZ(e:En)(m t:Z3)(id:Int)(h:one m=ZZ)(H:one t=ZZ):bh (fcells e m t id).toList=ZZ:=by
 unfold fcells fc;rw[Array.toList_push];have:=ay e m t h H;generalize (e.vals m t).toList=l at this
 induction l with
 | nil=>rfl
 | cons v r I =>
   rw[aL,Bool.and_eq_true] at this;rw[List.cons_append,aL,this.1,I this.2];rfl
def nL(B:Nat)(w':Z2)(g:Fu × Int × Int)(r:Wo):Prop :=
 ∃ (m t:Z3),r=.returned (.tuple #[.agg (fcells g.1.1 m t g.2.1),.int .i64 g.2.2])/\IS w' m g.1.2.1/\GS w' t g.1.2.2/\(∀ q,m.ownBlock=Z9 q->B<=q)/\(∀ q,t.ownBlock=Z9 q->B<=q)
def FinR(u w w':Z2)(p:Nat)(D:Z3)(l:Z5 Rw)(fl cd:Int)(g:(Fu × Int × Int) × Int)(r:Wo):Prop :=
 nL w.heap.size w' g.1 r/\SHs u w' p D l fl cd g.2/\w.grownBy w' (Z9 p)
theorem FinR.put{u w:Z2}{p:Nat}{D:Z3}{l:Z5 Rw}{fl cd d:Int}{id:Int}(S:SHs u w p D l fl cd d)(I:Held W w.heap.size 34)(F:SHs u W p D l fl cd c)(G:w.grownBy W (Z9 p))(J:IS W m x.2.1)(K:GS W t x.2.2)(e:∀ q,m.ownBlock=Z9 q->w.heap.size<q)(A:∀ q,t.ownBlock=Z9 q->w.heap.size<q) :
 FinR u w (W.setRow w.heap.size (fcells x.1 m t id)) p D l fl cd ((x,id,f),c) (.returned (.tuple #[.agg (row (W.setRow w.heap.size (fcells x.1 m t id)) w.heap.size),.int .i64 f])):=by
 have H:ZV w.heap.size W (W.setRow w.heap.size (fcells x.1 m t id)):=YB (ZM _ _) (ZS _) _;have E:∀ j,w.heap.size+1<=j->j<W.heap.size->(W.setRow w.heap.size (fcells x.1 m t id)).heap[j]?=W.heap[j]?:=fun j e _=>cP _ _ _ _ (by omega)
 exact⟨⟨m,t,YX (fun z=>Ending.returned (.tuple #[.agg z,.int .i64 f])) (au I _),J.keep (w.heap.size+1) (fun y o=>e y o) (by simp) E,K.keep (w.heap.size+1) (fun y o=>A y o) (by simp) E,fun q g=>Nat.le_of_lt (e q g),fun q g=>Nat.le_of_lt (A q g)⟩,F.belowB H S.pl (fun h b H=>jw S.r h b H),bx G H⟩
def flit:ZE Z3:=(zlit 0 ⟨#[]⟩).push (.int .i64 0)
theorem Ey:flit=fcells bL.1 (.slice Z8 0 0) (.slice Z8 0 0) 0:=by unfold flit fcells fc;rw[eh];rfl
theorem FinR.put0{u w:Z2}{p:Nat}{D:Z3}{l:Z5 Rw}{fl cd d:Int}(S:SHs u w p D l fl cd d)(e:Held W w.heap.size 34)(H:SHs u W p D l fl cd c)(G:w.grownBy W (Z9 p)) :
 FinR u w (W.setRow w.heap.size flit) p D l fl cd ((bL,0,f),c) (.returned (.tuple #[.agg (row (W.setRow w.heap.size flit) w.heap.size),.int .i64 f])):=by
 rw[Ey];exact FinR.put (x:=bL) S e H G (IS.nil _) (GS.nil _) (fun _ h=>by cases h) (fun _ h=>by cases h)
theorem jB(h:Held W B 34)(H:cs.size=34):(row (W.setRow B cs) B).size=33+1:=(YX Array.size (au h cs)).trans H
theorem uS(t:TypeId):Held (w.alloc (.cells flit t)) w.heap.size 34:=Held.new w flit t _ rfl (by decide)
theorem jv{w:Z2}{p b:Nat}{v:Z3}(g:w.grownBy w' (Z9 p))(H:b≠p)(h:w.cell? ⟨b,0,Z8⟩=Z9 v):w'.cell? ⟨b,0,Z8⟩=Z9 v :=
 (Z1 (a:=⟨b,0,Z8⟩) (g.block b (YR h) (fun e=>H (ZR e)))).trans h
attribute [local go_sem ↓] aZ bf bq GR ID CP EW
attribute [local go_sem] bn aS aH bE bH aK aT Am ak aI aw az aM ah uJ aQ aL aP aO aR aY aW bD ap aq
theorem Gh(hm:MaxL u)(hT:Tab u)(hS:SHs u w p D l fl cd d)(b3:0<=d)(b4:d<=80000)(av:cd≠0/\cd≠6\/fl<=0)(c1:w.cell? ⟨s,0,Z8⟩=Z9 (.iface 56 (.pointer (Z9 ⟨p,0,Z8⟩))))(c2:w.cell? ⟨v,0,Z8⟩=Z9 (.string name))(n1:s≠p)(_:v≠p) :
 ZJ Z6 111 #[.int .i64 id,.pointer (Z9 ⟨s,0,Z8⟩),.pointer (Z9 ⟨v,0,Z8⟩)] w fun r w'=>FinR u w w' p D l fl cd (kC l fl cd d id name) r:=by
 have HS:=lh hS;have ao:=hS.pl;have b1:=YR c1;have b2:=YR c2;have T:(Z9 p:Zy Nat)≠Z9 w.heap.size:=fun e=>by have:=ZR e;omega
 have HZ:=lh (uS w 182);have HF:=lh (fun (c:Int) nm W (h:SHs u W p D l fl cd c) (h0:0<=c) (h1:c<=90000)=>mx p D l fl cd c id nm u W hm hT h h0 h1 av);have d1:(w.alloc (.cells flit 182)).cell? ⟨s,0,Z8⟩=Z9 (.iface 56 (.pointer (Z9 ⟨p,0,Z8⟩))):=((aj _ _).cell (p:=⟨s,0,Z8⟩) b1).trans c1;have d2:(w.alloc (.cells flit 182)).cell? ⟨v,0,Z8⟩=Z9 (.string name):=((aj _ _).cell (p:=⟨v,0,Z8⟩) b2).trans c2;clear hS hm hT av;generalize P:kC l fl cd d id name=g;unfold kC at P;have a9:=fun W (h:SHs u W p D l fl cd d)=>HF.o d name W h b3 (by omega)
 have ar:=jq l fl cd d id name;generalize bY l fl cd d id name=gg at a9 ar P;obtain⟨⟨x,f⟩,cb⟩:=gg;dsimp only at ar P;have a3:=lh a9;clear a9;by_cases h0:f=0
 rotate_left
 .rw[ZX h0] at P;subst P;have t0:(f==0)=ZW:=by rw[ZG];exact h0
  have t1:(f != 0)=ZZ:=by rw[YN];exact h0
  clear h0;go_enter Tryz.func111,Tryz.ntmps111
  go_wp2_with (go_at_call 112;(refine (a3.o _ (HS.o.below (aj _ _))).mono ?_);rintro _ o ⟨⟨m,t,rfl,N,z,J,K⟩,L,H⟩;have a0:=ay x.1 m t (aD N) (aE z);have S3:=lh L;have G3:=lh H;have H3:=da o (.cells (x.1.vals m t) 29) _ _ (HZ.o.grown H T);have O:bh (fc (x.1.vals m t) (.int .i64 id)).toList=ZZ:=hZ x.1 m t id (aD N) (aE z);have HI:=lh N;have a5:=lh z;have a1:=lh J;have a2:=lh K;have R3:=ak o (x.1.vals m t) 29 (0,0);have N3:=ae R3 0 _ (ap _ _ _);have af:=ae R3 29 _ (cB _ _ _);have z3:w.heap.size+1<=o.heap.size:=(by have:=H.size;simpa using this);have e1:=((aj o (.cells (x.1.vals m t) 29)).cell (p:=⟨s,0,Z8⟩) (by show s<o.heap.size;omega)).trans (jv H n1 d1);have H5:=eb o x.1 m t 29;clear N z J K L H)
  refine Zd (bV (n:=33) rfl Tryz.underlying182 rfl (by kernel_rfl) _ _ w.heap.size rfl (jB H3 rfl)) rfl ?_
  exact FinR.put0 HS.o H3 (S3.o.below (aj _ _)) (bx (aJ (bo _ (aj _ _)) G3.o) ((aj _ _).mono (by omega)))
 rw[Z0 (fun h=>h h0)] at P;have t0:(f==0)=ZZ:=by rw[h0];rfl
 have t1:(f != 0)=ZW:=by rw[h0];rfl
 by_cases hk:x.1.kind=2
 rotate_left
 .rw[ZX hk] at P;subst P;have t2:(x.1.kind==2)=ZW:=by rw[ZG];exact hk
  clear hk;subst h0;go_enter Tryz.func111,Tryz.ntmps111
  go_wp2_with (go_at_call 112;(refine (a3.o _ (HS.o.below (aj _ _))).mono ?_);rintro _ o ⟨⟨m,t,rfl,N,z,J,K⟩,L,H⟩;have a0:=ay x.1 m t (aD N) (aE z);have S3:=lh L;have G3:=lh H;have H3:=da o (.cells (x.1.vals m t) 29) _ _ (HZ.o.grown H T);have O:bh (fc (x.1.vals m t) (.int .i64 id)).toList=ZZ:=hZ x.1 m t id (aD N) (aE z);have HI:=lh N;have a5:=lh z;have a1:=lh J;have a2:=lh K;have R3:=ak o (x.1.vals m t) 29 (0,0);have N3:=ae R3 0 _ (ap _ _ _);have af:=ae R3 29 _ (cB _ _ _);have z3:w.heap.size+1<=o.heap.size:=(by have:=H.size;simpa using this);have e1:=((aj o (.cells (x.1.vals m t) 29)).cell (p:=⟨s,0,Z8⟩) (by show s<o.heap.size;omega)).trans (jv H n1 d1);have H5:=eb o x.1 m t 29;clear N z J K L H)
  refine Zd (bV (n:=33) rfl Tryz.underlying182 rfl (by kernel_rfl) _ _ w.heap.size rfl (jB H3 (kS x.1 m t id))) rfl ?_
  exact FinR.put (x:=x) HS.o H3 (S3.o.below (aj _ _)) (bx (aJ (bo _ (aj _ _)) G3.o) ((aj _ _).mono (by omega))) (HI.o.below (aj _ _)) (a5.o.below (aj _ _)) (fun q hq=>by have:=a1.o q hq;simp at this;omega) (fun q hq=>by have:=a2.o q hq;simp at this;omega)
 rw[Z0 (fun h=>h hk)] at P;have t2:(x.1.kind==2)=ZZ:=by rw[hk];rfl
 clear hk;subst h0;have Z:=fun W (h:SHs u W p D l fl cd cb)=>HF.o cb x.1.target W h (by omega) (by omega)
 have ag:=jq l fl cd cb id x.1.target;generalize bY l fl cd cb id x.1.target=gg at Z ag P;obtain⟨⟨y,Y⟩,ce⟩:=gg;dsimp only at ag P;have a4:=lh Z;clear Z;by_cases h2:Y=0
 rotate_left
 .rw[ZX h2] at P;subst P;have t4:(Y==0)=ZW:=by rw[ZG];exact h2
  have t5:(Y != 0)=ZZ:=by rw[YN];exact h2
  clear h2;go_enter Tryz.func111,Tryz.ntmps111
  go_wp2_with (first|(go_at_call 112;have b6:=H5;clear b6;(refine (a4.o _ (S3.o.below (aj _ _))).mono ?_);rintro _ X ⟨⟨A,G,rfl,I,E,R,S⟩,V,F⟩;have aa:=ay y.1 A G (aD I) (aE E);have S4:=lh V;have G4:=lh F;have U:(Z9 p:Zy Nat)≠Z9 o.heap.size:=(fun e=>by have:=ZR e;omega);have K5:=H5.grown F U;have K4:=(H3.grown F T).set (y.1.vals A G) (g:=w.heap.size) (g':=o.heap.size) (fun e=>by omega);have RB:=eT X (y.1.vals A G) o.heap.size K5;have NB:=ae RB 0 _ (ap _ _ _);have ab:bh (fc (y.1.vals A G) (.int .i64 id)).toList=ZZ:=hZ y.1 A G id (aD I) (aE E);have z4:o.heap.size+1<=X.heap.size:=(by have:=F.size;simpa using this);have al:=lh I;have a6:=lh E;have ac:=lh R;have ad:=lh S;clear I E R S V F)|(go_at_call 112;(refine (a3.o _ (HS.o.below (aj _ _))).mono ?_);rintro _ o ⟨⟨m,t,rfl,N,z,J,K⟩,L,H⟩;have a0:=ay x.1 m t (aD N) (aE z);have S3:=lh L;have G3:=lh H;have H3:=da o (.cells (x.1.vals m t) 29) _ _ (HZ.o.grown H T);have O:bh (fc (x.1.vals m t) (.int .i64 id)).toList=ZZ:=hZ x.1 m t id (aD N) (aE z);have HI:=lh N;have a5:=lh z;have a1:=lh J;have a2:=lh K;have R3:=ak o (x.1.vals m t) 29 (0,0);have N3:=ae R3 0 _ (ap _ _ _);have af:=ae R3 29 _ (cB _ _ _);have z3:w.heap.size+1<=o.heap.size:=(by have:=H.size;simpa using this);have e1:=((aj o (.cells (x.1.vals m t) 29)).cell (p:=⟨s,0,Z8⟩) (by show s<o.heap.size;omega)).trans (jv H n1 d1);have H5:=eb o x.1 m t 29;clear N z J K L H))
  refine Zd (bV (n:=33) rfl Tryz.underlying182 rfl (by kernel_rfl) _ _ w.heap.size rfl (jB K4 rfl)) rfl ?_
  have Q:ZV w.heap.size X (X.setRow o.heap.size (y.1.vals A G)):=YB (ZM _ _) (by omega) _;have a8:=S4.o.belowB Q ao (fun h b hb=>jw HS.o.r h b hb);have a7:=bx (aJ (bx (aJ (bo _ (aj _ _)) G3.o) ((aj _ _).mono (by omega))) G4.o) Q;exact FinR.put0 HS.o K4 a8 a7
 rw[Z0 (fun h=>h h2)] at P;subst h2;by_cases hk:y.1.kind=2
 .rw[ZX hk] at P;subst P;have t6:(y.1.kind==2)=ZZ:=by rw[hk];rfl
  clear hk;go_enter Tryz.func111,Tryz.ntmps111
  go_wp2_with (first|(go_at_call 112;have b6:=H5;clear b6;(refine (a4.o _ (S3.o.below (aj _ _))).mono ?_);rintro _ X ⟨⟨A,G,rfl,I,E,R,S⟩,V,F⟩;have aa:=ay y.1 A G (aD I) (aE E);have S4:=lh V;have G4:=lh F;have U:(Z9 p:Zy Nat)≠Z9 o.heap.size:=(fun e=>by have:=ZR e;omega);have K5:=H5.grown F U;have K4:=(H3.grown F T).set (y.1.vals A G) (g:=w.heap.size) (g':=o.heap.size) (fun e=>by omega);have RB:=eT X (y.1.vals A G) o.heap.size K5;have NB:=ae RB 0 _ (ap _ _ _);have ab:bh (fc (y.1.vals A G) (.int .i64 id)).toList=ZZ:=hZ y.1 A G id (aD I) (aE E);have z4:o.heap.size+1<=X.heap.size:=(by have:=F.size;simpa using this);have al:=lh I;have a6:=lh E;have ac:=lh R;have ad:=lh S;clear I E R S V F)|(go_at_call 112;(refine (a3.o _ (HS.o.below (aj _ _))).mono ?_);rintro _ o ⟨⟨m,t,rfl,N,z,J,K⟩,L,H⟩;have a0:=ay x.1 m t (aD N) (aE z);have S3:=lh L;have G3:=lh H;have H3:=da o (.cells (x.1.vals m t) 29) _ _ (HZ.o.grown H T);have O:bh (fc (x.1.vals m t) (.int .i64 id)).toList=ZZ:=hZ x.1 m t id (aD N) (aE z);have HI:=lh N;have a5:=lh z;have a1:=lh J;have a2:=lh K;have R3:=ak o (x.1.vals m t) 29 (0,0);have N3:=ae R3 0 _ (ap _ _ _);have af:=ae R3 29 _ (cB _ _ _);have z3:w.heap.size+1<=o.heap.size:=(by have:=H.size;simpa using this);have e1:=((aj o (.cells (x.1.vals m t) 29)).cell (p:=⟨s,0,Z8⟩) (by show s<o.heap.size;omega)).trans (jv H n1 d1);have H5:=eb o x.1 m t 29;clear N z J K L H))
  refine Zd (bV (n:=33) rfl Tryz.underlying182 rfl (by kernel_rfl) _ _ w.heap.size rfl (jB K4 rfl)) rfl ?_
  have Q:ZV w.heap.size X (X.setRow o.heap.size (y.1.vals A G)):=YB (ZM _ _) (by omega) _;have a8:=S4.o.belowB Q ao (fun h b hb=>jw HS.o.r h b hb);have a7:=bx (aJ (bx (aJ (bo _ (aj _ _)) G3.o) ((aj _ _).mono (by omega))) G4.o) Q;exact FinR.put0 HS.o K4 a8 a7
 .rw[Z0 hk] at P;subst P;have t6:(y.1.kind==2)=ZW:=by rw[ZG];exact hk
  clear hk;go_enter Tryz.func111,Tryz.ntmps111
  go_wp2_with (first|(go_at_call 112;have b6:=H5;clear b6;(refine (a4.o _ (S3.o.below (aj _ _))).mono ?_);rintro _ X ⟨⟨A,G,rfl,I,E,R,S⟩,V,F⟩;have aa:=ay y.1 A G (aD I) (aE E);have S4:=lh V;have G4:=lh F;have U:(Z9 p:Zy Nat)≠Z9 o.heap.size:=(fun e=>by have:=ZR e;omega);have K5:=H5.grown F U;have K4:=(H3.grown F T).set (y.1.vals A G) (g:=w.heap.size) (g':=o.heap.size) (fun e=>by omega);have RB:=eT X (y.1.vals A G) o.heap.size K5;have NB:=ae RB 0 _ (ap _ _ _);have ab:bh (fc (y.1.vals A G) (.int .i64 id)).toList=ZZ:=hZ y.1 A G id (aD I) (aE E);have z4:o.heap.size+1<=X.heap.size:=(by have:=F.size;simpa using this);have al:=lh I;have a6:=lh E;have ac:=lh R;have ad:=lh S;clear I E R S V F)|(go_at_call 112;(refine (a3.o _ (HS.o.below (aj _ _))).mono ?_);rintro _ o ⟨⟨m,t,rfl,N,z,J,K⟩,L,H⟩;have a0:=ay x.1 m t (aD N) (aE z);have S3:=lh L;have G3:=lh H;have H3:=da o (.cells (x.1.vals m t) 29) _ _ (HZ.o.grown H T);have O:bh (fc (x.1.vals m t) (.int .i64 id)).toList=ZZ:=hZ x.1 m t id (aD N) (aE z);have HI:=lh N;have a5:=lh z;have a1:=lh J;have a2:=lh K;have R3:=ak o (x.1.vals m t) 29 (0,0);have N3:=ae R3 0 _ (ap _ _ _);have af:=ae R3 29 _ (cB _ _ _);have z3:w.heap.size+1<=o.heap.size:=(by have:=H.size;simpa using this);have e1:=((aj o (.cells (x.1.vals m t) 29)).cell (p:=⟨s,0,Z8⟩) (by show s<o.heap.size;omega)).trans (jv H n1 d1);have H5:=eb o x.1 m t 29;clear N z J K L H))
  refine Zd (bV (n:=33) rfl Tryz.underlying182 rfl (by kernel_rfl) _ _ w.heap.size rfl (jB K4 (kS y.1 A G id))) rfl ?_
  have Q:ZV w.heap.size X (X.setRow o.heap.size (y.1.vals A G)):=YB (ZM _ _) (by omega) _;have a8:=S4.o.belowB Q ao (fun h b hb=>jw HS.o.r h b hb);have a7:=bx (aJ (bx (aJ (bo _ (aj _ _)) G3.o) ((aj _ _).mono (by omega))) G4.o) Q;have b0:∀ j,o.heap.size+1<=j->j<X.heap.size->(X.setRow o.heap.size (y.1.vals A G)).heap[j]?=X.heap[j]?:=fun j h1 _=>cP _ _ _ _ (by omega)
  exact FinR.put (x:=y) HS.o K4 a8 a7 (al.o.keep (o.heap.size+1) (fun q hq=>by have:=ac.o q hq;simpa using this) (by simp) b0) (a6.o.keep (o.heap.size+1) (fun q hq=>by have:=ad.o q hq;simpa using this) (by simp) b0) (fun q hq=>by have:=ac.o q hq;simp at this;omega) (fun q hq=>by have:=ad.o q hq;simp at this;omega)
theorem GU(hm:MaxL u)(hT:Tab u)(hS:SHs u w p D l fl cd d)(a2:0<=d)(a4:d<=70000)(z:cd≠0/\cd≠6\/fl<=0)(c1:w.cell? ⟨s,0,Z8⟩=Z9 (.iface 56 (.pointer (Z9 ⟨p,0,Z8⟩))))(c2:w.cell? ⟨v,0,Z8⟩=Z9 (.string name))(n1:s≠p)(n2:v≠p) :
 ZJ Z6 110 #[.iface 56 (.pointer (Z9 ⟨p,0,Z8⟩)),.string name,.func (.func 111) #[] #[.pointer (Z9 ⟨s,0,Z8⟩),.pointer (Z9 ⟨v,0,Z8⟩)]] w fun r w'=>FinR u w w' p D l fl cd (iX l fl cd d name) r:=by
 have S:=lh hS;have a5:=hS.pl;have a0:=YR c1;have a1:=YR c2;have G:(Z9 p:Zy Nat)≠Z9 w.heap.size:=fun e=>by have:=ZR e;omega
 have HZ:=lh (uS w 182);have R:=lh (fun W (h:SHs u W p D l fl cd d)=>oJ p D l fl cd d name u W hm hT h a2 (by omega) z);have HF:=lh (fun (c id:Int) W (h:SHs u W p D l fl cd c) (o:0<=c) (h1:c<=80000) I J=>Gh s v p D l fl cd c id name u W hm hT h o h1 z I J n1 n2);have I:(w.alloc (.cells flit 182)).cell? ⟨s,0,Z8⟩=Z9 (.iface 56 (.pointer (Z9 ⟨p,0,Z8⟩))):=((aj _ _).cell (p:=⟨s,0,Z8⟩) a0).trans c1;have J:(w.alloc (.cells flit 182)).cell? ⟨v,0,Z8⟩=Z9 (.string name):=((aj _ _).cell (p:=⟨v,0,Z8⟩) a1).trans c2;clear hS hm hT z c1 c2;generalize E:iX l fl cd d name=g;unfold iX at E;have K:=sD l fl cd d name;generalize dJ l fl cd d name=gg at K E R;obtain⟨⟨id,c⟩,cb⟩:=gg;dsimp only at K E R;by_cases o:c=0
 rotate_left
 .rw[ZX o] at E;subst E;have t1:(c != 0)=ZZ:=by rw[YN];exact o
  clear o;go_enter Tryz.func110,Tryz.ntmps110
  go_wp2_with (go_at_call 34;(refine (R.o _ (S.o.below (aj _ _))).mono ?_);rintro _ P ⟨rfl,j,H⟩;have Z:=lh j;have T:=lh H;have Q:=fun ob=>da P ob _ _ (HZ.o.grown H G);have z3:w.heap.size+1<=P.heap.size:=(by have:=H.size;simpa using this);have R3:=ak P flit 182 (0,0);clear j H)
  refine Zd (bV (n:=33) rfl Tryz.underlying182 rfl (by kernel_rfl) _ _ w.heap.size rfl (jB (cs:=flit) (Q _) rfl)) rfl ?_
  exact FinR.put0 S.o (Q _) (Z.o.below (aj _ _)) (bx (aJ (bo _ (aj _ _)) T.o) ((aj _ _).mono (by omega)))
 rw[Z0 (fun h=>h o)] at E;subst o E;have A:=fun W (h:SHs u W p D l fl cd cb) I J=>HF.o cb id W h (by omega) (by omega) I J
 generalize kC l fl cd cb id name=g at A |-;have X:=lh A;clear A;go_enter Tryz.func110,Tryz.ntmps110
 go_wp2_with first|go_at_call 34;(refine (R.o _ (S.o.below (aj _ _))).mono ?_);rintro _ P ⟨rfl,j,H⟩;have Z:=lh j;have T:=lh H;have Q:=HZ.o.grown H G;have z3:w.heap.size+1<=P.heap.size:=(by have:=H.size;simpa using this);have e1:=jv H n1 I;have e2:=jv H n2 J;clear j H|go_at_call 111;(refine (X.o _ Z.o e1 e2).mono ?_);rintro _ w4 ⟨⟨m,t,rfl,hI,y,L,N⟩,O,F⟩;have a3:=hZ g.1.1.1 m t g.1.2.1 (aD hI) (aE y);have a6:=kS g.1.1.1 m t g.1.2.1;have S4:=lh O;have G4:=lh F;have H4:=Q.grown F G;have HI:=lh hI;have Y:=lh y;have U:=lh L;have V:=lh N;clear hI y L N O F
 refine Zd (bV (n:=33) rfl Tryz.underlying182 rfl (by kernel_rfl) _ _ w.heap.size rfl (jB H4 (kS g.1.1.1 m t g.1.2.1))) rfl ?_
 exact FinR.put (x:=g.1.1) S.o H4 S4.o (aJ (aJ (bo _ (aj _ _)) T.o) G4.o) HI.o Y.o (fun q hq=>by have:=U.o q hq;omega) (fun q hq=>by have:=V.o q hq;omega)
theorem mid34(e:En)(m t:Z3)(id:Int)(b:Nat)(h:row w b=fcells e m t id):mid w b 0=e.vals m t/\w.cell? ⟨b,33,Z8⟩=Z9 (.int .i64 id):=by
 refine⟨?_,ae h 33 _ ?_⟩
 .unfold mid;rw[h];unfold fcells fc;have H:=ah e m t;generalize e.vals m t=cs at H;apply Array.ext'
  simp [H]
 .unfold fcells fc;have H:=ah e m t;generalize e.vals m t=cs at H;rw[<-H,Array.getElem?_push_size]
attribute [local go_sem ↓] fb
theorem DX(hm:MaxL u)(hT:Tab u)(E:SHs u w p D l fl cd d)(a1:0<=d)(a6:d<=60000)(L:cd≠0/\cd≠6\/fl<=0) :
 ZJ Z6 42 #[.iface 56 (.pointer (Z9 ⟨p,0,Z8⟩)),.string name] w fun r w'=>En3 w.heap.size w' (iX l fl cd d name).1 r/\SHs u w' p D l fl cd (iX l fl cd d name).2/\w.grownBy w' (Z9 p):=by
 have HS:=lh E;have a3:=E.pl;have n1:w.heap.size≠p:=by omega
 have n2:w.heap.size+1≠p:=by omega
 have F:=lh (fun W (h:SHs u W p D l fl cd d) G I=>GU w.heap.size (w.heap.size+1) p D l fl cd d name u W hm hT h a1 (by omega) L G I n1 n2);clear E hm hT L;generalize iX l fl cd d name=g at F |-;go_enter Tryz.func42,Tryz.ntmps42
 go_upto_region 1 with fail
 have Q:ZV w.heap.size w (((w.alloc (.cells #[.iface 56 (.pointer (Z9 ⟨p,0,Z8⟩))] 115)).alloc (.cells #[.string name] 9)).alloc (.cells (zlit 0 ⟨#[]⟩) 29)):=by exact aB
 have G:(((w.alloc (.cells #[.iface 56 (.pointer (Z9 ⟨p,0,Z8⟩))] 115)).alloc (.cells #[.string name] 9)).alloc (.cells (zlit 0 ⟨#[]⟩) 29)).cell? ⟨w.heap.size,0,Z8⟩=Z9 (.iface 56 (.pointer (Z9 ⟨p,0,Z8⟩))):=by
  rw[Z1 (a:=⟨w.heap.size,0,Z8⟩) ((Zs ((w.alloc _).alloc _) _ (by simp;omega)).trans (Zs (w.alloc _) _ (by simp))),YF _ w.heap.size 0 _ 115 (0,0) (ZA w _)];rfl
 have I:(((w.alloc (.cells #[.iface 56 (.pointer (Z9 ⟨p,0,Z8⟩))] 115)).alloc (.cells #[.string name] 9)).alloc (.cells (zlit 0 ⟨#[]⟩) 29)).cell? ⟨w.heap.size+1,0,Z8⟩=Z9 (.string name):=by
  have e:=YF _ _ 0 _ 9 (0,0) (ZA (w.alloc (.cells #[.iface 56 (.pointer (Z9 ⟨p,0,Z8⟩))] 115)) (.cells #[.string name] 9));rw[Yi] at e;rw[Z1 (a:=⟨w.heap.size+1,0,Z8⟩) (Zs ((w.alloc _).alloc _) _ (by simp)),e];rfl
 have V:Held (((w.alloc (.cells #[.iface 56 (.pointer (Z9 ⟨p,0,Z8⟩))] 115)).alloc (.cells #[.string name] 9)).alloc (.cells (zlit 0 ⟨#[]⟩) 29)) (w.heap.size+1+1) 33:=by
  have e:=cG ((w.alloc (.cells #[.iface 56 (.pointer (Z9 ⟨p,0,Z8⟩))] 115)).alloc (.cells #[.string name] 9)) 29;rw[Yi,Yi] at e;exact e
 have sz:(((w.alloc (.cells #[.iface 56 (.pointer (Z9 ⟨p,0,Z8⟩))] 115)).alloc (.cells #[.string name] 9)).alloc (.cells (zlit 0 ⟨#[]⟩) 29)).heap.size=w.heap.size+1+1+1:=by simp
 unfold zlit at Q G I V sz;generalize Wt (Wt (Wt w _) _) _=W1 at Q G I V sz |-;have a2:(Z9 p:Zy Nat)≠Z9 (w.heap.size+1+1):=fun e=>by have:=ZR e;omega
 go_upto_region 2 with (go_at_call 110;(refine (F.o _ (HS.o.below Q) G I).mono ?_);rintro _ j ⟨⟨m,t,rfl,T,H,N,O⟩,P,z⟩;have a5:=hZ g.1.1.1 m t g.1.2.1 (aD T) (aE H);have a7:=kS g.1.1.1 m t g.1.2.1;have S3:=lh P;have G3:=lh z;have X:=da j (.cells (fcells g.1.1.1 m t g.1.2.1) 182) _ _ (V.grown z a2);have HI:=lh T;have a0:=lh H;have Y:=lh N;have Z:=lh O;have a4:=ay g.1.1.1 m t (aD T) (aE H);have z3:W1.heap.size<=j.heap.size:=z.size;clear T H N O P z)
 obtain⟨M0,M1⟩:=mid34 (j.alloc (.cells (fcells g.1.1.1 m t g.1.2.1) 182)) g.1.1.1 m t g.1.2.1 j.heap.size (ak j _ _ _);have A:(mid (j.alloc (.cells (fcells g.1.1.1 m t g.1.2.1) 182)) j.heap.size 0).size=33:=by rw[M0];exact ah _ _ _
 refine wp_region_held_drew (S:=fun w'=>(mid w' j.heap.size 0).size=33/\mid w' j.heap.size 0=g.1.1.1.vals m t/\w'.cell? ⟨j.heap.size,33,Z8⟩=Z9 (.int .i64 g.1.2.1)/\Held w' (w.heap.size+1+1) 33) (by kernel_rfl) ?_ (fun hHeld=>?_)
 .exact⟨A,M0,M1,X⟩
 (refine rgy (i:=0) (Z9 16) ?_;(try simp only[Act.put,pz]))
 refine eq (i:=1) (Z9 17) (v:=.agg (g.1.1.1.vals m t)) rfl rfl (by kernel_rfl) (by kernel_rfl) (by kernel_rfl) (fun _ _ _ h=>h) (by kernel_rfl) (fun w' E=>?_) (by assumption) ?_
 .refine (fb _ w' _ _ _ _ _ _ (by rfl) (by exact E.1)).trans ?_
  show Result.ok (Next.value (.agg (mid w' j.heap.size 0))) w'=_
  rw[E.2.1]
 try simp only[Act.put,List.setIfInBounds_toArray,List.set_cons_zero,List.set_cons_succ]
 (refine rgy (i:=2) (Z9 18) ?_;(try simp only[Act.put,pz]))
 (refine rgy (i:=3) (Z9 19) ?_;(try simp only[Act.put,pz]))
 (refine rgy (i:=4) (Z9 20) ?_;(try simp only[Act.put,pz]))
 have J:Held (j.alloc (.cells (fcells g.1.1.1 m t g.1.2.1) 182)).drew (w.heap.size+1+1) 33:=X;obtain⟨o,y⟩:∃ o,(j.alloc (.cells (fcells g.1.1.1 m t g.1.2.1) 182)).drew=o:=⟨_,rfl⟩;rw[y] at J hHeld |-;have R:ZV j.heap.size j o:=by rw[<-y];exact Below.drew (aj _ _)
 have z2:o.heap.size=j.heap.size+1:=by rw[<-y];simp
 clear y
 have K:(mid (o.setRow (w.heap.size+1+1) (g.1.1.1.vals m t)) j.heap.size 0).size=33/\mid (o.setRow (w.heap.size+1+1) (g.1.1.1.vals m t)) j.heap.size 0=g.1.1.1.vals m t/\(o.setRow (w.heap.size+1+1) (g.1.1.1.vals m t)).cell? ⟨j.heap.size,33,Z8⟩=Z9 (.int .i64 g.1.2.1)/\Held (o.setRow (w.heap.size+1+1) (g.1.1.1.vals m t)) (w.heap.size+1+1) 33:=by
  have e:mid (o.setRow (w.heap.size+1+1) (g.1.1.1.vals m t)) j.heap.size 0=mid o j.heap.size 0:=by
   unfold mid row;rw[cP _ _ _ _ (by omega)]
  exact⟨by rw[e];exact hHeld.1,e.trans hHeld.2.1,(Z1 (a:=⟨j.heap.size,33,Z8⟩) (cP _ _ _ _ (by show j.heap.size≠_;omega))).trans hHeld.2.2.1,J.set _ (fun _=>ah _ _ _)⟩
 refine lS (i:=5) Z8 (o.setRow (w.heap.size+1+1) (g.1.1.1.vals m t)) rfl rfl (by kernel_rfl) (by kernel_rfl) (bq _ _ _ _ _ _ _ _ _ (by rfl) (by exact J) (by rfl) (ah _ _ _) a4) K ?_
 try simp only[Act.put]
 (refine rgy (i:=6) (Z9 5) ?_;(try simp only[Act.put,pz]))
 (refine rgy (i:=7) (Z9 6) ?_;(try simp only[Act.put,pz]))
 refine wpAnyH_done (by kernel_rfl) ?_ _
 clear hHeld K M0 M1 A X;go_wp2_with fail
 refine Zd (yt (n:=32) rfl Tryz.underlying29 rfl (by kernel_rfl) _ _ (w.heap.size+1+1) rfl (dF J (ah _ _ _))) rfl ?_
 have U:ZV w.heap.size o (o.setRow (w.heap.size+1+1) (g.1.1.1.vals m t)):=YB (ZM _ _) (by omega) _;have hG:w.grownBy o (Z9 p):=bx (aJ (bo _ Q) G3.o) (R.mono (by omega));exact⟨(En3.put (x:=g.1.1) J (HI.o.below R) (a0.o.below R) (fun q hq=>by have:=Y.o q hq;omega) (fun q hq=>by have:=Z.o q hq;omega)).le (by omega),(S3.o.below R).belowB U a3 (fun h b U=>jw HS.o.r h b U),bx hG U⟩
end
end Go.Proofs.YtnkjliahpeebjaaGreatDoor
