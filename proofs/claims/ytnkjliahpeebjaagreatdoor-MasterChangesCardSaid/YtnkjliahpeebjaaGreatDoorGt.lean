/- Catalogs. -/
import Derived.Test.YtnkjliahpeebjaaGreatDoorChA
import Derived.Test.YtnkjliahpeebjaaGreatDoorRh
set_option maxRecDepth 8000
set_option maxHeartbeats 8000000
open Option renaming some->Z9,none->Z7
open Go.Proofs.Tryz renaming prog->Z8
open _root_ renaming ByteArray->Z6,List->Z3,if_neg->ZX,if_pos->ZT,beq_eq_false_iff_ne->ZS,decide_eq_true->ZO,decide_eq_false->ZN,Array->Zz,Option->Zm,bne_iff_ne->Zi,congrArg->Y8
open Go.Proofs.YtnkjliahpeebjaaGreatDoor.Ds renaming bl->Z5,bl_length->Z0,name->Y3,bl_inj->XV,first->Vw
open Go.RowKit renaming Below->Z4,intOf->Zq
open Bool renaming false->Z2,true->ZZ
open Go renaming Value->Z1,World->ZY,Calls->ZJ,bodyPost_ret->ZA,below_setRow->Zy,heap_alloc_new->Zu,heap_alloc_old->Zl,cell_of_row->YH,block_lt_of_cell->Ym,execOp->XR,Ending->Vi
open Nat renaming le_refl->ZV,le_trans->ZE,zero_le->Zc,eq_zero_or_pos->Yr
open Go.World renaming cell?_of_block->ZU,cell?_setCell_other->Y7,size_alloc->X2,alloc->Wc
open Go.RowKit.Below renaming refl->ZR
open Option.some renaming inj->ZL
open List renaming length_cons->Zx,eq_nil_of_length_eq_zero->Zd,drop_eq_getElem_cons->Y4,drop_length->V8
open Int renaming le_refl->Yy
namespace Go.Proofs.YtnkjliahpeebjaaGreatDoor
open Go.RowKit
variable(a:Addr)(b:Operand->Z1)(z A n p:Nat)(v u:Z1){W w':ZY}(l:Z3 Rw){cs:Zz Z1}{B k C:Nat}(fl cd m id:Int){r:Vi}{x:Fu}(i:Int){gr f:Z1}(name key s:Z6){c d:Int}(t w:ZY)
def bL:Fu:=(En.zero,[],[])
def bZ(id:Int)(key:Z6):Z3 Rw->Zm Z6
 | []=>Z7
 | x::l=>if x.1=id/\x.2.1=key then Z9 x.2.2 else bZ id key l
def bw(key s:Z6):Fu × Int:=match cF (Z5 s) with
 | none=>(bL,11)
 | some y=>if dL y=Z5 key then (y,0) else (bL,11)
def aG(l:Z3 Rw)(fl cd m id i:Int)(name:Z6):(Fu × Int) × Int :=
 if aC i name=⟨#[]⟩ then ((bL,1),m) else if m+1=fl then ((bL,cd),m+1) else match bZ id (aC i name) l with
 | none=>((bL,6),m+1)
 | some s=>(bw (aC i name) s,m+1)
def gm(l:Z3 Rw)(fl cd id:Int)(name:Z6):Z3 Int->Int->(Fu × Int) × Int
 | [],m=>((bL,6),m)
 | k::K,m=>if (aG l fl cd m id k name).1.2=6 then gm l fl cd id name K (aG l fl cd m id k name).2 else aG l fl cd m id k name
def bY(l:Z3 Rw)(fl cd m id:Int)(name:Z6):(Fu × Int) × Int :=
 if Y3 (Z5 name)=Z2 then ((bL,1),m) else gm l fl cd id name [0,1,2] m
def bz(l:Z3 Rw)(id i:Int)(name:Z6):Fu × Int:=(aG l 0 0 0 id i name).1
def ij(l:Z3 Rw)(id:Int)(name:Z6):Z3 Int->Fu × Int
 | []=>(bL,6)
 | k::K=>if (bz l id k name).2=6 then ij l id name K else bz l id k name
def dx(l:Z3 Rw)(id:Int)(name:Z6):Fu × Int :=
 if Y3 (Z5 name)=Z2 then (bL,1) else ij l id name [0,1,2]
theorem dS:m<=(aG l fl cd m id i name).2/\(aG l fl cd m id i name).2<=m+1:=by
 unfold aG;split
 .exact⟨Yy _,by show m<=m+1;omega⟩
 split
 .exact⟨by show m<=m+1;omega,Yy _⟩
 split
 .exact⟨by show m<=m+1;omega,Yy _⟩
 .exact⟨by show m<=m+1;omega,Yy _⟩
theorem iz(H:fl<=0)(h:0<=m):(aG l fl cd m id i name).1=bz l id i name:=by
 unfold bz aG;split
 .rfl
 rw[ZX (by omega),ZX (by omega)];split <;> rfl
theorem tE(l:Z3 Rw)(fl cd id:Int)(name:Z6)(h:fl<=0):∀ (K:Z3 Int) (m:Int),0<=m->(gm l fl cd id name K m).1=ij l id name K
 | [],_,_=>rfl
 | k::K,m,H=>by
   have e:=iz l fl cd m id k name h H;unfold gm ij;rw[e];split
   .have:=dS l fl cd m id k name;exact tE l fl cd id name h K _ (by omega)
   .exact e
theorem kh(H:fl<=0)(h:0<=m):(bY l fl cd m id name).1=dx l id name:=by
 unfold dx bY;split
 .rfl
 .exact tE l fl cd id name H _ _ h
theorem tD(l:Z3 Rw)(fl cd id:Int)(name:Z6):∀ (K:Z3 Int) (m:Int),m<=(gm l fl cd id name K m).2/\(gm l fl cd id name K m).2<=m+K.length
 | [],_=>⟨Yy _,by simp [gm]⟩
 | k::K,m=>by
   have h:=dS l fl cd m id k name;unfold gm;split
   .have:=tD l fl cd id name K (aG l fl cd m id k name).2;simp only[Zx]
    omega
   .simp only[Zx]
    omega
theorem jq:m<=(bY l fl cd m id name).2/\(bY l fl cd m id name).2<=m+3:=by
 unfold bY;split
 .exact⟨Yy _,by show m<=m+3;omega⟩
 .exact tD l fl cd id name [0,1,2] m
theorem mu{id:Int}{key:Z6}{l:Z3 Rw}(H:k<l.length)(h:¬ (l[k].1=id/\l[k].2.1=key)):bZ id key (l.drop (k+1))=bZ id key (l.drop k):=by
 rw[Y4 H];exact (ZX h).symm
theorem uk{id:Int}{key:Z6}{l:Z3 Rw}(H:k<l.length)(h:l[k].1=id/\l[k].2.1=key):bZ id key (l.drop k)=Z9 l[k].2.2:=by
 rw[Y4 H];exact ZT h
def lV(fl cd m:Int)(o:Zm Z6):Z1:=if m+1=fl then .tuple #[.string ⟨#[]⟩,.int .i64 cd] else match o with|none=>.tuple #[.string ⟨#[]⟩,.int .i64 6]|some x=>.tuple #[.string x,.int .i64 0]
theorem Ig(l:Z3 Rw)(w:ZY)(h:SHf w p u fl cd m)(S:RwS w u l)(G:∀ b,u.ownBlock=Z9 b->b≠p)(Z:0<=m)(h1:m<1000000000) :
 ZJ Z8 370 #[.pointer (Z9 ⟨p,0,Z7⟩),.int .i64 id,.string key] w fun r w'=>r=.returned (lV fl cd m (bZ id key l))/\∃ q,w'=(w.setCell ⟨p,3,Z7⟩ (.int .i64 (m+1))).drewN q:=by
 have g:=sN p u fl cd m w h Z h1;obtain⟨J,-⟩:=h;have N:=ae J 2 _ rfl;have L:=ae J 0 _ rfl
 have Y:(w.setCell ⟨p,3,Z7⟩ (.int .i64 (m+1))).cell? ⟨p,2,Z7⟩=Z9 (.int .i64 cd):=by
  rw[Y7 _ _ _ _ (by intro h;cases h)];exact N
 have X:(w.setCell ⟨p,3,Z7⟩ (.int .i64 (m+1))).cell? ⟨p,0,Z7⟩=Z9 u:=by
  rw[Y7 _ _ _ _ (by intro h;cases h)];exact L
 have y:RwS (w.setCell ⟨p,3,Z7⟩ (.int .i64 (m+1))) u l:=S.keep (by simp) fun b P j=>(de w ⟨p,3,Z7⟩ _).block b j (fun e=>G b P (ZL e))
 generalize w.setCell ⟨p,3,Z7⟩ (.int .i64 (m+1))=W at g Y X y |-;clear J N L S G;unfold lV;by_cases F:m+1=fl
 .rw[ZO F] at g;rw[ZT F];have I:=lh g;clear g F y;go_enter Tryz.func370,Tryz.ntmps370
  go_wp2_with (go_at_call 372;(with_reducible refine I.o.mono ?_);rintro _ w2 ⟨rfl,q,rfl⟩)
  go_quiet (fail)
  go_wp2_with fail
  go_ret2
  exact⟨rfl,_,nM _ _ _⟩
 rw[ZN F] at g;rw[ZX F];generalize O:(match bZ id key l with|none=>Value.tuple #[.string ⟨#[]⟩,.int .i64 6]|some x=>.tuple #[.string x,.int .i64 0])=A;have K:=lh O;clear O;have I:=lh g;obtain⟨a,c,rfl,hz,R⟩:=y;have U:=lh R;clear g F R;go_enter Tryz.func370,Tryz.ntmps370
 go_wp2_with (go_at_call 372;(with_reducible refine I.o.mono ?_);rintro _ w2 ⟨rfl,q0,rfl⟩)
 go_loopw [8] (fun i wr=>∃ (k:Nat),k<=l.length/\i=.int .i64 k/\Hid (bZ id key (l.drop k)=bZ id key l)/\∃ q,wr=W.drewN q) (fun i _=>l.length - (Zq i).toNat)
 case atStart=>exact⟨0,Zc _,rfl,lh rfl,_,rfl⟩
 case round =>
  obtain⟨k,hk,rfl,HJ,q,rfl⟩:=hrel;by_cases j:k<l.length
  .obtain⟨b,o,rfl,P,H⟩:=U.o (by omega);obtain⟨p0,p1,p2⟩:=H k j;have j1:(0:Int)<=(k:Int):=by omega
   have j2:(k:Int)<(l.length:Int):=by omega
   by_cases E:l[k].1=id
   rotate_left
   .have t1:(l[k].1==id)=Z2:=by rw[ZS];exact E
    have Q:Hid (bZ id key (l.drop (k+1))=bZ id key l):=lh ((mu j (fun h=>E h.1)).trans HJ.o);clear E H;go_wp2_with fail
    go_roundw
    case rel=>exact⟨k+1,by omega,by go_num,Q,_,rfl⟩
    case measure=>simp [Zq];omega
   have t1:(l[k].1==id)=ZZ:=by rw[beq_iff_eq];exact E
   have T:=fd l[k].2.1 key;by_cases D:l[k].2.1=key
   .rw[ZO D] at T;have Q:Hid (bZ id key l=Z9 l[k].2.2):=lh (HJ.o.symm.trans (uk j ⟨E,D⟩));clear E D H;go_wp2_with fail
    go_ret2
    exact⟨by rw[<-K.o,Q.o];rfl,_,rfl⟩
   .rw[ZN D] at T;have Q:Hid (bZ id key (l.drop (k+1))=bZ id key l):=lh ((mu j (fun h=>D h.2)).trans HJ.o);clear E D H;go_wp2_with fail
    go_roundw
    case rel=>exact⟨k+1,by omega,by go_num,Q,_,rfl⟩
    case measure=>simp [Zq];omega
  .obtain rfl:k=l.length:=by omega
   have V:Hid (bZ id key l=Z7):=lh (by rw[<-HJ.o,V8];rfl);go_wp2_with fail
   go_ret2
   exact⟨by rw[<-K.o,V.o];rfl,_,rfl⟩
theorem Bu : (method (n + 1) 56 (.pointer (Z9 a)) "Get").run Z8 w = .ok (370, .pointer (Z9 a)) w := by kernel_rfl
theorem FN(h:SHs t w p u l fl cd m)(H:0<=m)(e:m<1000000000) :
 ZJ Z8 370 #[.pointer (Z9 ⟨p,0,Z7⟩),.int .i64 id,.string key] w fun r w'=>r=.returned (lV fl cd m (bZ id key l))/\SHs t w' p u l fl cd (m+1)/\w.grownBy w' (Z9 p):=by
 refine (Ig p u fl cd m id key l w h.f h.r h.ne H e).mono ?_
 rintro _ w' ⟨rfl,q,rfl⟩;exact⟨rfl,(h.tick (m+1) q).1,(h.tick (m+1) q).2⟩
section
def EnR(B:Nat)(w':ZY)(x:Fu)(d:Int)(r:Vi):Prop :=
 ∃ (f gr:Z1),r=.returned (.tuple #[.agg (x.1.vals f gr),.int .i64 d])/\IS w' f x.2.1/\GS w' gr x.2.2/\(∀ q,f.ownBlock=Z9 q->B<=q)/\(∀ q,gr.ownBlock=Z9 q->B<=q)
theorem EnR.zero(B:Nat)(w':ZY)(d:Int):EnR B w' bL d (.returned (.tuple #[.agg (zlit 0 ⟨#[]⟩),.int .i64 d])) :=
 ⟨.slice Z7 0 0,.slice Z7 0 0,by rw[eh];rfl,IS.nil _,GS.nil _,(fun _ h=>by cases h),(fun _ h=>by cases h)⟩
theorem EnR.le(h:EnR B w' x d r)(e:C<=B):EnR C w' x d r:=by
 obtain⟨f,gr,g,j,o,y,D⟩:=h;exact⟨f,gr,g,j,o,fun q H=>ZE e (y q H),fun q H=>ZE e (D q H)⟩
theorem nt(h:∀ q,f.ownBlock=Z9 q->C<=q)(H:B<C):∀ q,f.ownBlock=Z9 q->B<q:=fun q e=>Nat.lt_of_lt_of_le H (h q e)
theorem EnR.put(D:Held W B 33)(I:IS W f x.2.1)(G:GS W gr x.2.2)(h:∀ q,f.ownBlock=Z9 q->B<q)(g:∀ q,gr.ownBlock=Z9 q->B<q) :
 EnR B (W.setRow B (x.1.vals f gr)) x d (.returned (.tuple #[.agg (row (W.setRow B (x.1.vals f gr)) B),.int .i64 d])):=by
 have o:∀ j,B+1<=j->j<W.heap.size->(W.setRow B (x.1.vals f gr)).heap[j]?=W.heap[j]?:=fun j h _=>cP _ _ _ _ (by omega)
 refine⟨f,gr,Y8 (fun z=>Ending.returned (.tuple #[.agg z,.int .i64 d])) (au D _),I.keep (B+1) (fun y e=>h y e) (by simp) o,G.keep (B+1) (fun y e=>g y e) (by simp) o,fun q H=>Nat.le_of_lt (h q H),fun q H=>Nat.le_of_lt (g q H)⟩
theorem EnR.put0(H:Held W B 33):EnR B (W.setRow B (zlit 0 ⟨#[]⟩)) bL d (.returned (.tuple #[.agg (row (W.setRow B (zlit 0 ⟨#[]⟩)) B),.int .i64 d])):=by
 rw[eh];exact EnR.put (x:=bL) H (IS.nil _) (GS.nil _) (fun _ h=>by cases h) (fun _ h=>by cases h)
theorem dF(h:Held W B 33)(H:cs.size=33):(row (W.setRow B cs) B).size=32+1:=(Y8 Array.size (au h cs)).trans H
theorem Held.grown{w:ZY}{p:Zm Nat}{g n:Nat}(h:Held w g n)(y:w.grownBy w' p)(j:p≠Z9 g):Held w' g n:=by
 obtain⟨t,F,q⟩:=fR h;have H:=(Array.getElem?_eq_some_iff.1 q).1;have e:=y.block g H (fun e=>j e.symm);refine⟨?_,h.2.1,fun o=>(World.frozen?_of_block (a:=⟨g,o,Z7⟩) e).trans (h.2.2 o)⟩
 have:=h.1;unfold row at this |-;rw[e];exact this
attribute [local go_sem ↓] aZ bf bq cl
attribute [local go_sem] bn aS aH bE bH aK aT ak aI aw az aM ah aQ aL aP aO aR aY aW bD ap aq
theorem tl(hm:MaxL w)(Z:Tab w) :
 ZJ Z8 92 #[.string key,.string s] w fun r w'=>EnR w.heap.size w' (bw key s).1 (bw key s).2 r/\Z4 w.heap.size w w':=by
 cases e:cF (Z5 s) with
 | none =>
   have I:bw key s=(bL,11):=by unfold bw;rw[e]
   rw[I];have T:=lh (fun W (b:Z4 w.heap.size w W)=>Cc s W (hm.below b) (Z.below b) e);clear I e;go_enter Tryz.func92,Tryz.ntmps92
   go_wp2_with (go_at_call 30;(refine (T.o _ (by exact aB)).mono ?_);rintro _ K ⟨j,q,o,D,rfl,O,g,h⟩;have J:=ay En.zero (.slice j 0 q) (.slice o 0 D) rfl rfl;have L:=lh (below1 h);have N:=da K (.cells (En.zero.vals (.slice j 0 q) (.slice o 0 D)) 29) _ _ (Held.below (cG w 29) h);clear O g h)
   refine ZA (bV (n:=32) rfl Tryz.underlying29 rfl (by kernel_rfl) _ _ w.heap.size rfl (dF N rfl)) rfl ?_
   exact⟨EnR.put0 N,Zy (L.o.alloc L.o.size _) (ZV _) _⟩
 | some y =>
   have G:=uF y key;have T:=lh (fun W (b:Z4 w.heap.size w W)=>Cd s y W (hm.below b) (Z.below b) e);have U:=lh (fun W=>jI y.1.kind y.1.name W);by_cases P:dL y=Z5 key
   .have I:bw key s=(y,0):=by unfold bw;rw[e];exact ZT P
    rw[ZO P] at G;rw[I];clear I e P;generalize aC y.1.kind y.1.name=kz at G U;go_enter Tryz.func92,Tryz.ntmps92
    go_wp2_with first|go_at_call 30;(refine (T.o _ (by exact aB)).mono ?_);rintro _ K ⟨j,q,o,D,rfl,O,g,h,E,F⟩;have J:=ay y.1 (.slice j y.2.1.length q) (.slice o y.2.2.length D) rfl rfl;have L:=lh (below1 h);have N:=da K (.cells (y.1.vals (.slice j y.2.1.length q) (.slice o y.2.2.length D)) 29) _ _ (Held.below (cG w 29) h);have HI:=lh O;have Y:=lh g;have V:=lh E;have X:=lh F;clear O g h E F;have R:=ak K (y.1.vals (.slice j y.2.1.length q) (.slice o y.2.2.length D)) 29 (0,0);have N0:=ae R 0 _ (ap _ _ _);have N1:=ae R 1 _ (aq _ _ _)|go_at_call 88;(with_reducible refine (U.o _).mono ?_);rintro _ w4 ⟨rfl,H⟩;have R4:=am H R (by rw[ah];decide);have S:=N.below H;have Q:=lh (below1 H);clear H
    refine ZA (bV (n:=32) rfl Tryz.underlying29 rfl (by kernel_rfl) _ _ w.heap.size rfl (dF S (ah _ _ _))) rfl ?_
    exact⟨EnR.put (x:=y) S (HI.o.below Q.o) (Y.o.below Q.o) (nt V.o (by simp)) (nt X.o (by simp)),Zy (bt L.o Q.o) (ZV _) _⟩
   .have I:bw key s=(bL,11):=by unfold bw;rw[e];exact ZX P
    rw[ZN P] at G;rw[I];clear I e P;generalize aC y.1.kind y.1.name=kz at G U;go_enter Tryz.func92,Tryz.ntmps92
    go_wp2_with first|go_at_call 30;(refine (T.o _ (by exact aB)).mono ?_);rintro _ K ⟨j,q,o,D,rfl,O,g,h,E,F⟩;have J:=ay y.1 (.slice j y.2.1.length q) (.slice o y.2.2.length D) rfl rfl;have L:=lh (below1 h);have N:=da K (.cells (y.1.vals (.slice j y.2.1.length q) (.slice o y.2.2.length D)) 29) _ _ (Held.below (cG w 29) h);clear O g h E F;have R:=ak K (y.1.vals (.slice j y.2.1.length q) (.slice o y.2.2.length D)) 29 (0,0);have N0:=ae R 0 _ (ap _ _ _);have N1:=ae R 1 _ (aq _ _ _)|go_at_call 88;(with_reducible refine (U.o _).mono ?_);rintro _ w4 ⟨rfl,H⟩;have S:=N.below H;have Q:=lh (bt L.o (below1 H));clear H
    refine ZA (bV (n:=32) rfl Tryz.underlying29 rfl (by kernel_rfl) _ _ w.heap.size rfl (dF S rfl)) rfl ?_
    exact⟨EnR.put0 S,Zy Q.o (ZV _) _⟩
def CatR(t w w':ZY)(p:Nat)(u:Z1)(l:Z3 Rw)(fl cd:Int)(g:(Fu × Int) × Int)(r:Vi):Prop :=
 EnR w.heap.size w' g.1.1 g.1.2 r/\SHs t w' p u l fl cd g.2/\w.grownBy w' (Z9 p)
theorem CatR.put{t w:ZY}{p:Nat}{u:Z1}{l:Z3 Rw}{fl cd m:Int}(S:SHs t w p u l fl cd m)(o:Held W w.heap.size 33)(j:SHs t W p u l fl cd c)(G:w.grownBy W (Z9 p))(I:IS W f x.2.1)(y:GS W gr x.2.2)(e:∀ q,f.ownBlock=Z9 q->w.heap.size<q)(g:∀ q,gr.ownBlock=Z9 q->w.heap.size<q) :
 CatR t w (W.setRow w.heap.size (x.1.vals f gr)) p u l fl cd ((x,d),c) (.returned (.tuple #[.agg (row (W.setRow w.heap.size (x.1.vals f gr)) w.heap.size),.int .i64 d])):=by
 have H:Z4 w.heap.size W (W.setRow w.heap.size (x.1.vals f gr)):=Zy (ZR _ _) (ZV _) _;exact⟨EnR.put o I y e g,j.belowB H S.pl (fun h b H=>jw S.r h b H),bx G H⟩
theorem CatR.put0{t w:ZY}{p:Nat}{u:Z1}{l:Z3 Rw}{fl cd m:Int}(S:SHs t w p u l fl cd m)(e:Held W w.heap.size 33)(H:SHs t W p u l fl cd c)(G:w.grownBy W (Z9 p)) :
 CatR t w (W.setRow w.heap.size (zlit 0 ⟨#[]⟩)) p u l fl cd ((bL,d),c) (.returned (.tuple #[.agg (row (W.setRow w.heap.size (zlit 0 ⟨#[]⟩)) w.heap.size),.int .i64 d])):=by
 rw[eh];exact CatR.put (x:=bL) S e H G (IS.nil _) (GS.nil _) (fun _ h=>by cases h) (fun _ h=>by cases h)
theorem iy(hm:MaxL t)(hT:Tab t)(hS:SHs t w p u l fl cd m)(a3:0<=m)(a5:m<=100000)(E:cd≠0\/fl<=0) :
 ZJ Z8 82 #[.iface 56 (.pointer (Z9 ⟨p,0,Z7⟩)),.int .i64 id,.int .i64 i,.string name] w fun r w'=>CatR t w w' p u l fl cd (aG l fl cd m id i name) r:=by
 have P:=lh (fun W=>jI i name W);have K:=lh hS;have a7:=hS.pl;have a6:=Bu ⟨p,0,Z7⟩;have O:(Z9 p:Zm Nat)≠Z9 w.heap.size:=fun e=>by have:=ZL e;omega
 have HZ:=lh (cG w 29);clear hS;generalize o:aG l fl cd m id i name=g;unfold aG at o;by_cases R:aC i name=⟨#[]⟩
 .rw[ZT R] at o;subst o;rw[R] at P;clear R;go_enter Tryz.func82,Tryz.ntmps82
  go_wp2_with (go_at_call 88;(with_reducible refine (P.o _).mono ?_);rintro _ T ⟨rfl,j⟩;have F:=HZ.o.below j;have y:=lh (below1 j);clear j)
  refine ZA (bV (n:=32) rfl Tryz.underlying29 rfl (by kernel_rfl) _ _ w.heap.size rfl (dF F rfl)) rfl ?_
  have B3:=Zy y.o (ZV _) (zlit 0 ⟨#[]⟩);exact⟨EnR.put0 F,K.o.below B3,bo _ B3⟩
 rw[ZX R] at o
 have e0:(aC i name).toList.isEmpty=Z2:=gG _ (by
  rcases Yr (aC i name).size with h|h
  .exact absurd (XV (Zd (by rw[Z0];exact h))) R
  .exact h)
 clear R;generalize aC i name=Z at P o e0;have H:=fun W (h:SHs t W p u l fl cd m)=>FN p u l fl cd m id Z t W h a3 (by omega)
 unfold lV at H;by_cases hf:m+1=fl
 .rw[ZT hf] at o H;subst o;have U:=lh H;have D:cd≠0:=by rcases E with h|h;exact h;omega
  have t1:(cd != 0)=ZZ:=by rw[Zi];exact D
  have t2:(cd==0)=Z2:=by rw[ZS];exact D
  clear H E D hf;go_enter Tryz.func82,Tryz.ntmps82
  go_wp2_with first|go_at_call 88;(with_reducible refine (P.o _).mono ?_);rintro _ T ⟨rfl,j⟩;have F:=HZ.o.below j;have y:=lh (below1 j);have V:=lh (K.o.below y.o);have z2:w.heap.size<T.heap.size:=(by have:=j.size;simp at this;omega);clear j|go_at_call 370;(with_reducible refine (U.o _ V.o).mono ?_);rintro _ w3 ⟨rfl,I,S⟩;have Q:=lh I;have G:=lh S;have J:=F.grown S O;clear I S
  refine ZA (bV (n:=32) rfl Tryz.underlying29 rfl (by kernel_rfl) _ _ w.heap.size rfl (dF J rfl)) rfl ?_
  exact CatR.put0 K.o J Q.o (aJ (bo _ y.o) G.o)
 rw[ZX hf] at o H;clear hf
 cases hr:bZ id Z l with
 | none =>
   rw[hr] at o H;subst o;have U:=lh H;clear H E hr;go_enter Tryz.func82,Tryz.ntmps82
   go_wp2_with first|go_at_call 88;(with_reducible refine (P.o _).mono ?_);rintro _ T ⟨rfl,j⟩;have F:=HZ.o.below j;have y:=lh (below1 j);have V:=lh (K.o.below y.o);have z2:w.heap.size<T.heap.size:=(by have:=j.size;simp at this;omega);clear j|go_at_call 370;(with_reducible refine (U.o _ V.o).mono ?_);rintro _ w3 ⟨rfl,I,S⟩;have Q:=lh I;have G:=lh S;have J:=F.grown S O;clear I S
   refine ZA (bV (n:=32) rfl Tryz.underlying29 rfl (by kernel_rfl) _ _ w.heap.size rfl (dF J rfl)) rfl ?_
   exact CatR.put0 K.o J Q.o (aJ (bo _ y.o) G.o)
 | some s =>
   rw[hr] at o H;replace o:(bw Z s,m+1)=g:=o
   subst o;have U:=lh H;have HR:=lh (fun W (b:Z4 t.heap.size t W)=>tl Z s W (hm.below b) (hT.below b));clear H E hr;generalize bw Z s=xc at HR |-;obtain⟨x,d⟩:=xc;go_enter Tryz.func82,Tryz.ntmps82
   go_wp2_with first|go_at_call 88;(with_reducible refine (P.o _).mono ?_);rintro _ T ⟨rfl,j⟩;have F:=HZ.o.below j;have y:=lh (below1 j);have V:=lh (K.o.below y.o);have z2:w.heap.size<T.heap.size:=(by have:=j.size;simp at this;omega);clear j|go_at_call 370;(with_reducible refine (U.o _ V.o).mono ?_);rintro _ w3 ⟨rfl,I,S⟩;have Q:=lh I;have G:=lh S;have J:=F.grown S O;clear I S|go_at_call 92;(refine (HR.o _ Q.o.b).mono ?_);rintro _ w4 ⟨⟨f,gr,rfl,hI,L,X,Y⟩,N⟩;have a4:=ay x.1 f gr (aD hI) (aE L);have H4:=J.below N;have HI:=lh hI;have a2:=lh L;have a0:=lh X;have a1:=lh Y;have B4:=lh N;clear hI L X Y N
   refine ZA (bV (n:=32) rfl Tryz.underlying29 rfl (by kernel_rfl) _ _ w.heap.size rfl (dF H4 (ah _ _ _))) rfl ?_
   have z3:=(aJ (bo _ y.o) G.o).size;exact CatR.put (x:=x) K.o H4 (Q.o.below B4.o) (bx (aJ (bo _ y.o) G.o) (B4.o.mono z3)) HI.o a2.o (fun q hq=>by have:=a0.o q hq;have:=G.o.size;omega) (fun q hq=>by have:=a1.o q hq;have:=G.o.size;omega)
theorem mx(hm:MaxL t)(hT:Tab t)(hS:SHs t w p u l fl cd m)(a6:0<=m)(a9:m<=90000)(a7:cd≠0/\cd≠6\/fl<=0) :
 ZJ Z8 112 #[.iface 56 (.pointer (Z9 ⟨p,0,Z7⟩)),.int .i64 id,.string name] w fun r w'=>CatR t w w' p u l fl cd (bY l fl cd m id name) r:=by
 have HV:=lh (fun W (b:Z4 t.heap.size t W)=>ez name W (hm.below b));have S:=lh hS;have aa:=hS.pl;have N:cd≠0\/fl<=0:=by omega
 have Z:(Z9 p:Zm Nat)≠Z9 w.heap.size:=fun e=>by have:=ZL e;omega
 have HZ:=lh (cG w 29);have HG:=lh (fun (c k:Int) W (h:SHs t W p u l fl cd c) (h0:0<=c) (h1:c<=100000)=>iy p u l fl cd c id k name t W hm hT h h0 h1 N);clear hS hm hT a7 N;generalize J:bY l fl cd m id name=g;unfold bY at J;cases R:Y3 (Z5 name)
 .rw[ZT R] at J;subst J;rw[R] at HV;clear R;go_enter Tryz.func112,Tryz.ntmps112
  go_wp2_with (go_at_call 32;(with_reducible refine (HV.o _ (by exact (S.o.below (aj _ _)).b)).mono ?_);rintro _ K ⟨rfl,L⟩;have H2:=HZ.o.below L;have T:=lh (below1 L);clear L)
  refine ZA (bV (n:=32) rfl Tryz.underlying29 rfl (by kernel_rfl) _ _ w.heap.size rfl (dF H2 rfl)) rfl ?_
  exact CatR.put0 S.o H2 (S.o.below T.o) (bo _ T.o)
 rw[ZX (by rw[R];simp)] at J;rw[R] at HV;have a3:=lh J;clear R J;go_enter Tryz.func112,Tryz.ntmps112
 go_wp2_with (go_at_call 32;(with_reducible refine (HV.o _ (by exact (S.o.below (aj _ _)).b)).mono ?_);rintro _ K ⟨rfl,L⟩;have H2:=HZ.o.below L;have T:=lh (below1 L);have z2:w.heap.size<K.heap.size:=(by have:=L.size;simp at this;omega);clear L)
 go_loopw [18] (fun i wr=>∃ (k:Nat) (c:Int),k<=3/\i=.int .i64 k/\0<=c/\c<=m+k/\Hid (gm l fl cd id name (([0,1,2]:Z3 Int).drop k) c=g)/\SHs t wr p u l fl cd c/\w.grownBy wr (Z9 p)/\Held wr w.heap.size 33/\K.heap.size<wr.heap.size/\(∀ j,j<3->wr.cell? ⟨K.heap.size,j,Z7⟩=Z9 (.int .i64 j))) (fun i _=>3 - (Zq i).toNat)
 case atStart =>
  refine⟨0,m,by decide,rfl,a6,by simp,a3,(S.o.below T.o).below (aj _ _),bo _ (bt T.o (aj _ _)),da _ _ _ _ H2,by simp,fun j hj=>?_⟩
  rw[YH _ _ j _ 3 (0,0) (Zu K _)];rcases (by omega:j=0\/j=1\/j=2) with rfl|rfl|rfl <;> rfl
 case round =>
  obtain⟨k,c,hk,rfl,h0,h1,HH,hs,J,hH,Y,o⟩:=hrel;have V:=lh hs;have P:=lh J;have HC:=lh o;clear hs J;by_cases a8:k<3
  .have p0:=o k a8
   have hd:(([0,1,2]:Z3 Int).drop k)=(k:Int)::(([0,1,2]:Z3 Int).drop (k+1)):=by
    rcases (by omega:k=0\/k=1\/k=2) with rfl|rfl|rfl <;> rfl
   have H:=HH.o;rw[hd] at H;unfold gm at H;have E:=HG.o c k wr V.o h0 (by omega);have X:=dS l fl cd c id k name;generalize aG l fl cd c id k name=gg at E X H;obtain⟨⟨x,d⟩,cb⟩:=gg;dsimp only at X H;have U:=lh E;have j1:(0:Int)<=(k:Int):=by omega
   have j2:(k:Int)<3:=by omega
   have ab:w.heap.size<wr.heap.size:=by omega
   clear E o hd HH;by_cases h6:d=6
   .rw[ZT h6] at H;have a5:=lh H;have t1:(d != 6)=Z2:=by rw[h6];rfl
    clear H;go_wp2_with (go_at_call 82;(refine U.o.mono ?_);rintro _ w3 ⟨⟨f,gr,rfl,Q,y,G,I⟩,F,D⟩;have a0:=ay x.1 f gr (aD Q) (aE y);have S3:=lh F;have O:=lh D;clear Q y G I F D)
    go_roundw
    case rel =>
     have z3:=O.o.size;refine⟨k+1,cb,by omega,by go_num,by omega,by omega,a5,S3.o.below (aj _ _),bx (aJ P.o O.o) ((aj _ _).mono (by omega)),da _ _ _ _ (hH.grown O.o Z),by simp;omega,fun j hj=>?_⟩
     rw[<-HC.o j hj];exact ZU (a:=⟨K.heap.size,j,Z7⟩) ((Zl w3 _ (show K.heap.size<w3.heap.size by omega)).trans (O.o.block K.heap.size Y (fun e:(Z9 K.heap.size:Zm Nat)=Z9 p=>by have:=ZL e;omega)))
    case measure=>simp [Zq];omega
   .rw[ZX h6] at H;subst H;have t1:(d != 6)=ZZ:=by rw[Zi];exact h6
    go_wp2_with (go_at_call 82;(refine U.o.mono ?_);rintro _ w3 ⟨⟨f,gr,rfl,Q,y,G,I⟩,F,D⟩;have a0:=ay x.1 f gr (aD Q) (aE y);have S3:=lh F;have O:=lh D;have HI:=lh Q;have a4:=lh y;have a1:=lh G;have a2:=lh I;have H3:=da w3 (.cells (x.1.vals f gr) 29) _ _ (hH.grown D Z);clear Q y G I F D)
    refine ZA (bV (n:=32) rfl Tryz.underlying29 rfl (by kernel_rfl) _ _ w.heap.size rfl (dF H3 (ah _ _ _))) rfl ?_
    exact CatR.put (x:=x) S.o H3 (S3.o.below (aj _ _)) (bx (aJ P.o O.o) ((aj _ _).mono (by have:=O.o.size;omega))) (HI.o.below (aj _ _)) (a4.o.below (aj _ _)) (fun q hq=>by have:=a1.o q hq;omega) (fun q hq=>by have:=a2.o q hq;omega)
  .obtain rfl:k=3:=by omega
   have H:((bL,6),c)=g:=HH.o;subst H;go_wp2_with fail
   refine ZA (bV (n:=32) rfl Tryz.underlying29 rfl (by kernel_rfl) _ _ w.heap.size rfl (dF hH rfl)) rfl ?_
   exact CatR.put0 S.o hH V.o P.o
end
section
theorem lH(k:Int)(s:Z6)(w:ZY):ZJ Z8 137 #[.int .i64 k,.string s] w fun r w'=>r=.returned (.string (aC k s))/\w=w':=by
 refine (rkey k s w).mono ?_
 rintro _ w' ⟨t,rfl,H,h⟩;exact⟨iD (XV (H.trans (iU k s).symm)),h.symm⟩
theorem zO(D:RwS w v l) :
 ZJ Z8 219 #[v,.int .i64 id,.string key] w fun r w'=>r=.returned (.tuple #[.string ((bZ id key l).getD ⟨#[]⟩),.bool (bZ id key l).isSome])/\Z4 w.heap.size w w':=by
 obtain⟨a,c,rfl,J,j⟩:=D;have y:=lh j;clear j;go_enter Tryz.func219,Tryz.ntmps219
 go_wp2_with fail
 go_loopw [8] (fun i wr=>∃ (k:Nat),k<=l.length/\i=.int .i64 k/\Hid (bZ id key (l.drop k)=bZ id key l)/\∃ q,wr=w.drewN q) (fun i _=>l.length - (Zq i).toNat)
 case atStart=>exact⟨0,Zc _,rfl,lh rfl,0,rfl⟩
 case round =>
  obtain⟨k,I,rfl,HJ,q,rfl⟩:=hrel;by_cases e:k<l.length
  .obtain⟨b,o,rfl,G,H⟩:=y.o (by omega);obtain⟨P,O,R⟩:=H k e;have K:(0:Int)<=(k:Int):=by omega
   have L:(k:Int)<(l.length:Int):=by omega
   by_cases E:l[k].1=id
   rotate_left
   .have F:(l[k].1==id)=Z2:=by rw[ZS];exact E
    have Q:Hid (bZ id key (l.drop (k+1))=bZ id key l):=lh ((mu e (fun h=>E h.1)).trans HJ.o);clear E H;go_wp2_with fail
    go_roundw
    case rel=>exact⟨k+1,by omega,by go_num,Q,_,rfl⟩
    case measure=>simp [Zq];omega
   have F:(l[k].1==id)=ZZ:=by rw[beq_iff_eq];exact E
   have T:=fd l[k].2.1 key;by_cases g:l[k].2.1=key
   .rw[ZO g] at T;have Q:Hid (bZ id key l=Z9 l[k].2.2):=lh (HJ.o.symm.trans (uk e ⟨E,g⟩));clear E g H;go_wp2_with fail
    go_ret2
    exact⟨by rw[Q.o];rfl,below_drewN (ZR _ _) _⟩
   .rw[ZN g] at T;have Q:Hid (bZ id key (l.drop (k+1))=bZ id key l):=lh ((mu e (fun h=>g h.2)).trans HJ.o);clear E g H;go_wp2_with fail
    go_roundw
    case rel=>exact⟨k+1,by omega,by go_num,Q,_,rfl⟩
    case measure=>simp [Zq];omega
  .obtain rfl:k=l.length:=by omega
   have N:Hid (bZ id key l=Z7):=lh (by rw[<-HJ.o,V8];rfl);go_wp2_with fail
   go_ret2
   exact⟨by rw[N.o];rfl,below_drewN (ZR _ _) _⟩
attribute [local go_sem ↓] aZ bf bq cl
attribute [local go_sem] bn aS aH bE bH aK aT ak aI aw az aM ah aQ aL aP aO aR aY aW bD ap aq
theorem uh:ZJ Z8 280 #[.string s] w fun r w'=>∃ (x:Fu) (f gr:Z1) (d:Int),r=.returned (.tuple #[.agg (x.1.vals f gr),.int .i64 d])/\IS w' f x.2.1/\GS w' gr x.2.2/\Z4 w.heap.size w w'/\(cF (Z5 s)=Z9 x/\d=0\/cF (Z5 s)=Z7/\x=(En.zero,[],[])/\d=11)/\(∀ q,f.ownBlock=Z9 q->w.heap.size<=q)/\(∀ q,gr.ownBlock=Z9 q->w.heap.size<=q):=Bm s w
theorem tX :
 ZJ Z8 220 #[.string key,.string s] w fun r w'=>EnR w.heap.size w' (bw key s).1 (bw key s).2 r/\Z4 w.heap.size w w':=by
 cases g:cF (Z5 s) with
 | none =>
   have G:bw key s=(bL,11):=by unfold bw;rw[g]
   rw[G];have K:=fun W=>uh s W
   rw[g] at K;have P:=lh K;clear G K g;go_enter Tryz.func220,Tryz.ntmps220
   go_wp2_with (go_at_call 280;(refine (P.o _).mono ?_);rintro _ L ⟨x,f,gr,d,rfl,I,e,H,F,-⟩;obtain⟨rfl,rfl⟩:x=bL/\d=11:=(by rcases F with ⟨h,-⟩|⟨-,Y,O⟩;cases h;exact⟨Y,O⟩);have J:=ay bL.1 f gr (aD I) (aE e);have D:=lh (below1 H);have E:=da L (.cells (bL.1.vals f gr) 29) _ _ (Held.below (cG w 29) H);clear I e H F)
   refine ZA (bV (n:=32) rfl Tryz.underlying29 rfl (by kernel_rfl) _ _ w.heap.size rfl (dF E rfl)) rfl ?_
   exact⟨EnR.put0 E,Zy (D.o.alloc D.o.size _) (ZV _) _⟩
 | some y =>
   have q:=uF y key;have K:=fun W=>uh s W
   rw[g] at K;have P:=lh K;have Q:=lh (fun W=>lH y.1.kind y.1.name W);clear K;by_cases N:dL y=Z5 key
   .have G:bw key s=(y,0):=by unfold bw;rw[g];exact ZT N
    rw[ZO N] at q;rw[G];clear G g N;generalize aC y.1.kind y.1.name=Z at q Q;go_enter Tryz.func220,Tryz.ntmps220
    go_wp2_with first|go_at_call 280;(refine (P.o _).mono ?_);rintro _ L ⟨x,f,gr,d,rfl,I,e,H,F,j,o⟩;obtain⟨rfl,rfl⟩:x=y/\d=0:=(by rcases F with ⟨h,O⟩|⟨h,-⟩;exact⟨(ZL h).symm,O⟩;cases h);have J:=ay x.1 f gr (aD I) (aE e);have D:=lh (below1 H);have E:=da L (.cells (x.1.vals f gr) 29) _ _ (Held.below (cG w 29) H);have HI:=lh I;have U:=lh e;have S:=lh j;have T:=lh o;clear I e H j o F;have R:=ak L (x.1.vals f gr) 29 (0,0);have V:=ae R 0 _ (ap _ _ _);have X:=ae R 1 _ (aq _ _ _)|(go_at_call 137;(with_reducible refine (Q.o _).mono ?_);rintro _ w4 ⟨rfl,rfl⟩)
    refine ZA (bV (n:=32) rfl Tryz.underlying29 rfl (by kernel_rfl) _ _ w.heap.size rfl (dF E (ah _ _ _))) rfl ?_
    exact⟨EnR.put E (HI.o.below (aj _ _)) (U.o.below (aj _ _)) (nt S.o (by simp)) (nt T.o (by simp)),Zy (D.o.alloc D.o.size _) (ZV _) _⟩
   .have G:bw key s=(bL,11):=by unfold bw;rw[g];exact ZX N
    rw[ZN N] at q;rw[G];clear G g N;generalize aC y.1.kind y.1.name=Z at q Q;go_enter Tryz.func220,Tryz.ntmps220
    go_wp2_with first|go_at_call 280;(refine (P.o _).mono ?_);rintro _ L ⟨x,f,gr,d,rfl,I,e,H,F,j,o⟩;obtain⟨rfl,rfl⟩:x=y/\d=0:=(by rcases F with ⟨h,O⟩|⟨h,-⟩;exact⟨(ZL h).symm,O⟩;cases h);have J:=ay x.1 f gr (aD I) (aE e);have D:=lh (below1 H);have E:=da L (.cells (x.1.vals f gr) 29) _ _ (Held.below (cG w 29) H);clear I e H j o F;have R:=ak L (x.1.vals f gr) 29 (0,0);have V:=ae R 0 _ (ap _ _ _);have X:=ae R 1 _ (aq _ _ _)|(go_at_call 137;(with_reducible refine (Q.o _).mono ?_);rintro _ w4 ⟨rfl,rfl⟩)
    refine ZA (bV (n:=32) rfl Tryz.underlying29 rfl (by kernel_rfl) _ _ w.heap.size rfl (dF E rfl)) rfl ?_
    exact⟨EnR.put0 E,Zy (D.o.alloc D.o.size _) (ZV _) _⟩
def RatR(w w':ZY)(g:Fu × Int)(r:Vi):Prop:=EnR w.heap.size w' g.1 g.2 r/\Z4 w.heap.size w w'
theorem RatR.put{w:ZY}(e:Held W w.heap.size 33)(g:Z4 w.heap.size w W)(I:IS W f x.2.1)(j:GS W gr x.2.2)(h:∀ q,f.ownBlock=Z9 q->w.heap.size<q)(H:∀ q,gr.ownBlock=Z9 q->w.heap.size<q) :
 RatR w (W.setRow w.heap.size (x.1.vals f gr)) (x,d) (.returned (.tuple #[.agg (row (W.setRow w.heap.size (x.1.vals f gr)) w.heap.size),.int .i64 d])) :=
 ⟨EnR.put e I j h H,Zy g (ZV _) _⟩
theorem RatR.put0{w:ZY}(h:Held W w.heap.size 33)(H:Z4 w.heap.size w W) :
 RatR w (W.setRow w.heap.size (zlit 0 ⟨#[]⟩)) (bL,d) (.returned (.tuple #[.agg (row (W.setRow w.heap.size (zlit 0 ⟨#[]⟩)) w.heap.size),.int .i64 d])) :=
 ⟨EnR.put0 h,Zy H (ZV _) _⟩
theorem iA(T:RwS w v l) :
 ZJ Z8 134 #[v,.int .i64 id,.int .i64 i,.string name] w fun r w'=>RatR w w' (bz l id i name) r:=by
 have K:=lh (fun W=>lH i name W);have Z:=lh (cG w 29);generalize e:bz l id i name=g;unfold bz aG at e;by_cases D:aC i name=⟨#[]⟩
 .rw[ZT D] at e;subst e;rw[D] at K;have E:=Z.o;clear D T;go_enter Tryz.func134,Tryz.ntmps134
  go_wp2_with (go_at_call 137;(with_reducible refine (K.o _).mono ?_);rintro _ w2 ⟨rfl,rfl⟩)
  refine ZA (bV (n:=32) rfl Tryz.underlying29 rfl (by kernel_rfl) _ _ w.heap.size rfl (dF E rfl)) rfl ?_
  exact RatR.put0 E (aj _ _)
 rw[ZX D,ZX (by decide)] at e
 have e0:(aC i name).toList.isEmpty=Z2:=gG _ (by
  rcases Yr (aC i name).size with h|h
  .exact absurd (XV (Zd (by rw[Z0];exact h))) D
  .exact h)
 clear D;generalize aC i name=I at K e e0;have j:=fun W (b:Z4 w.heap.size w W)=>zO v l id I W (T.below b)
 have E:=Z.o;clear T
 cases L:bZ id I l with
 | none =>
   rw[L] at e j;replace e:(bL,6)=g:=e
   subst e;have Q:=lh j;clear j L;go_enter Tryz.func134,Tryz.ntmps134
   go_wp2_with first|(go_at_call 137;(with_reducible refine (K.o _).mono ?_);rintro _ w2 ⟨rfl,rfl⟩)|go_at_call 219;(refine (Q.o _ (aj _ _)).mono ?_);rintro _ w3 ⟨rfl,H⟩;have J:=E.below H;have N:=lh (below1 H);clear H
   refine ZA (bV (n:=32) rfl Tryz.underlying29 rfl (by kernel_rfl) _ _ w.heap.size rfl (dF J rfl)) rfl ?_
   exact RatR.put0 J N.o
 | some s =>
   rw[L] at e j;replace e:bw I s=g:=e
   subst e;have Q:=lh j;have X:=lh (fun W=>tX I s W);clear j L;generalize bw I s=xc at X |-;obtain⟨x,d⟩:=xc;go_enter Tryz.func134,Tryz.ntmps134
   go_wp2_with first|(go_at_call 137;(with_reducible refine (K.o _).mono ?_);rintro _ w2 ⟨rfl,rfl⟩)|go_at_call 219;(refine (Q.o _ (aj _ _)).mono ?_);rintro _ w3 ⟨rfl,H⟩;have J:=E.below H;have z3:w.heap.size<w3.heap.size:=(by have:=H.size;simp at this;omega);have N:=lh (below1 H);clear H|go_at_call 220;(refine (X.o _).mono ?_);rintro _ w4 ⟨⟨f,gr,rfl,R,o,F,G⟩,y⟩;have Y:=ay x.1 f gr (aD R) (aE o);have V:=J.below y;have HI:=lh R;have S:=lh o;have O:=lh F;have P:=lh G;have B4:=lh y;clear R o F G y
   refine ZA (bV (n:=32) rfl Tryz.underlying29 rfl (by kernel_rfl) _ _ w.heap.size rfl (dF V (ah _ _ _))) rfl ?_
   exact RatR.put V (bt N.o B4.o) HI.o S.o (fun q U=>by have:=O.o q U;omega) (fun q U=>by have:=P.o q U;omega)
theorem oZ(hl:RwS w v l) :
 ZJ Z8 212 #[v,.int .i64 id,.string name] w fun r w'=>RatR w w' (dx l id name) r:=by
 have V:=lh (fun W=>dt name W);have HZ:=lh (cG w 29);have HG:=lh (fun (k:Int) W (b:Z4 w.heap.size w W)=>iA v l id k name W (hl.below b));clear hl;generalize E:dx l id name=g;unfold dx at E;cases F:Y3 (Z5 name)
 .rw[ZT F] at E;subst E;rw[F] at V;clear F;go_enter Tryz.func212,Tryz.ntmps212
  go_wp2_with (go_at_call 130;(with_reducible refine (V.o _).mono ?_);rintro _ w2 ⟨rfl,D⟩;have L:=HZ.o.below D;have Q:=lh (below1 D);clear D)
  refine ZA (bV (n:=32) rfl Tryz.underlying29 rfl (by kernel_rfl) _ _ w.heap.size rfl (dF L rfl)) rfl ?_
  exact RatR.put0 L Q.o
 rw[ZX (by rw[F];simp)] at E;rw[F] at V;have T:=lh E;clear F E;go_enter Tryz.func212,Tryz.ntmps212
 go_wp2_with (go_at_call 130;(with_reducible refine (V.o _).mono ?_);rintro _ w2 ⟨rfl,D⟩;have L:=HZ.o.below D;have Q:=lh (below1 D);have z2:w.heap.size<w2.heap.size:=(by have:=D.size;simp at this;omega);clear D)
 go_loopw [8] (fun i wr=>∃ (k:Nat),k<=3/\i=.int .i64 k/\Hid (ij l id name (([0,1,2]:Z3 Int).drop k)=g)/\Z4 w.heap.size w wr/\Held wr w.heap.size 33/\w.heap.size<wr.heap.size) (fun i _=>3 - (Zq i).toNat)
 case atStart=>exact⟨0,by decide,rfl,T,Q.o,L,z2⟩
 case round =>
  obtain⟨k,hk,rfl,X,B,P,a0⟩:=hrel;have N:=lh B;clear B;by_cases a1:k<3
  .have hd:(([0,1,2]:Z3 Int).drop k)=(k:Int)::(([0,1,2]:Z3 Int).drop (k+1)):=by
    rcases (by omega:k=0\/k=1\/k=2) with rfl|rfl|rfl <;> rfl
   have h:=X.o;rw[hd] at h;unfold ij at h;have j:=HG.o k wr N.o;generalize bz l id k name=gg at j h;obtain⟨x,d⟩:=gg;dsimp only at h;have J:=lh j;have j1:(0:Int)<=(k:Int):=by omega
   have j2:(k:Int)<=2:=by omega
   clear j hd X;by_cases O:d=6
   .rw[ZT O] at h;have Y:=lh h;have t1:(d != 6)=Z2:=by rw[O];rfl
    clear h;go_wp2_with (go_at_call 134;(refine J.o.mono ?_);rintro _ w3 ⟨⟨f,gr,rfl,I,H,o,y⟩,e⟩;have K:=ay x.1 f gr (aD I) (aE H);have G:=lh e;clear I H o y e)
    go_roundw
    case rel =>
     have z3:=G.o.size;exact⟨k+1,by omega,by go_num,Y,bt N.o (bt G.o (aj _ _)),da _ _ _ _ (P.below G.o),by simp;omega⟩
    case measure=>simp [Zq];omega
   .rw[ZX O] at h;subst h;have t1:(d != 6)=ZZ:=by rw[Zi];exact O
    go_wp2_with (go_at_call 134;(refine J.o.mono ?_);rintro _ w3 ⟨⟨f,gr,rfl,I,H,o,y⟩,e⟩;have K:=ay x.1 f gr (aD I) (aE H);have G:=lh e;have HI:=lh I;have U:=lh H;have R:=lh o;have S:=lh y;have H3:=da w3 (.cells (x.1.vals f gr) 29) _ _ (P.below e);clear I H o y e)
    refine ZA (bV (n:=32) rfl Tryz.underlying29 rfl (by kernel_rfl) _ _ w.heap.size rfl (dF H3 (ah _ _ _))) rfl ?_
    exact RatR.put H3 (bt N.o (bt G.o (aj _ _))) (HI.o.below (aj _ _)) (U.o.below (aj _ _)) (fun q Z=>by have:=R.o q Z;omega) (fun q Z=>by have:=S.o q Z;omega)
  .obtain rfl:k=3:=by omega
   have h:(bL,6)=g:=X.o;subst h;go_wp2_with fail
   refine ZA (bV (n:=32) rfl Tryz.underlying29 rfl (by kernel_rfl) _ _ w.heap.size rfl (dF P rfl)) rfl ?_
   exact RatR.put0 P N.o
end
section
def iF(n:Int)(s:Z6):Z6:=⟨(Vw n (Z5 s)).toArray⟩
def dn:Nat->Z3 Int
 | 0=>[]
 | k+1=>((k+1:Nat):Int)::dn k
def gT(l:Z3 Rw)(fl cd:Int)(name:Z6):Z3 Int->Int->(Int × Int) × Int
 | [],m=>((1,0),m)
 | n::N,m=>match aG l fl cd m 1 3 (iF n name) with
   | ((x,c),e)=>if c=0 then ((x.1.cat,0),e) else if c=6 then gT l fl cd name N e else ((0,c),e)
def dJ(l:Z3 Rw)(fl cd m:Int)(name:Z6):(Int × Int) × Int :=
 if Y3 (Z5 name)=Z2 then ((0,1),m) else gT l fl cd name (dn 2) m
def kC(l:Z3 Rw)(fl cd m id:Int)(name:Z6):(Fu × Int × Int) × Int :=
 match bY l fl cd m id name with
 | ((x,h),e)=>if h≠0 then ((bL,0,h),e) else if x.1.kind≠2 then ((x,id,0),e) else
  match bY l fl cd e id x.1.target with
  | ((y,j),g)=>if j≠0 then ((bL,0,j),g) else if y.1.kind=2 then ((bL,0,7),g) else ((y,id,0),g)
def iX(l:Z3 Rw)(fl cd m:Int)(name:Z6):(Fu × Int × Int) × Int :=
 match dJ l fl cd m name with
 | ((id,c),e)=>if c≠0 then ((bL,0,c),e) else kC l fl cd e id name
def kp(l:Z3 Rw)(name:Z6):Z3 Int->Int × Int
 | []=>(1,0)
 | n::N=>match bz l 1 3 (iF n name) with
   | (x,c)=>if c=0 then (x.1.cat,0) else if c=6 then kp l name N else (0,c)
def cj(l:Z3 Rw)(name:Z6):Int × Int:=if Y3 (Z5 name)=Z2 then (0,1) else kp l name (dn 2)
def jH(l:Z3 Rw)(name:Z6):Fu × Int × Int :=
 match cj l name with
 | (id,c)=>if c≠0 then (bL,0,c) else
  match dx l id name with
  | (x,e)=>if e≠0 then (bL,0,e) else if x.1.kind≠2 then (x,id,0) else
   match dx l id x.1.target with
   | (y,g)=>if g≠0 then (bL,0,g) else if y.1.kind=2 then (bL,0,7) else (y,id,0)
theorem sF(l:Z3 Rw)(fl cd:Int)(name:Z6)(H:fl<=0):∀ (N:Z3 Int) (m:Int),0<=m->(gT l fl cd name N m).1=kp l name N/\0<=(gT l fl cd name N m).2
 | [],_,h=>⟨rfl,h⟩
 | n::N,m,h=>by
   have E:=iz l fl cd m 1 3 (iF n name) H h;have e:=dS l fl cd m 1 3 (iF n name);unfold gT kp;rw[<-E];generalize aG l fl cd m 1 3 (iF n name)=g at e;obtain⟨⟨x,c⟩,j⟩:=g;dsimp only at e |-;split
   .exact⟨rfl,by omega⟩
   split
   .exact sF l fl cd name H N j (by omega)
   .exact⟨rfl,by omega⟩
theorem ox(H:fl<=0)(h:0<=m):(dJ l fl cd m name).1=cj l name/\0<=(dJ l fl cd m name).2:=by
 unfold dJ cj;split
 .exact⟨rfl,h⟩
 .exact sF l fl cd name H _ _ h
theorem Aw(H:fl<=0)(F:0<=m):(iX l fl cd m name).1=jH l name:=by
 have E:=ox l fl cd m name H F;unfold iX jH kC;rw[<-E.1];have h:=E.2;generalize dJ l fl cd m name=g at h;obtain⟨⟨id,c⟩,e⟩:=g;dsimp only at h |-;split
 .rfl
 have q:=kh l fl cd e id name H h;have o:=(jq l fl cd e id name).1;rw[<-q];generalize bY l fl cd e id name=g at o;obtain⟨⟨x,G⟩,j⟩:=g;dsimp only at o |-;split
 .rfl
 split
 .rfl
 have D:=kh l fl cd j id x.1.target H (by omega);rw[<-D];generalize bY l fl cd j id x.1.target=g;obtain⟨⟨y,I⟩,J⟩:=g;dsimp only;split
 .rfl
 split <;> rfl
theorem sE(l:Z3 Rw)(fl cd:Int)(name:Z6):∀ (N:Z3 Int) (m:Int),m<=(gT l fl cd name N m).2/\(gT l fl cd name N m).2<=m+N.length
 | [],_=>⟨Yy _,by simp [gT]⟩
 | n::N,m=>by
   have e:=dS l fl cd m 1 3 (iF n name);unfold gT;generalize aG l fl cd m 1 3 (iF n name)=g at e;obtain⟨⟨x,c⟩,h⟩:=g;dsimp only at e |-;have:=sE l fl cd name N h;simp only[Zx]
   split
   .dsimp only;omega
   split
   .omega
   .dsimp only;omega
theorem sD:m<=(dJ l fl cd m name).2/\(dJ l fl cd m name).2<=m+2:=by
 unfold dJ;split
 .exact⟨Yy _,by show m<=m+2;omega⟩
 .exact sE l fl cd name (dn 2) m
attribute [local go_sem ↓] aZ bf bq cl
attribute [local go_sem] bn aS aH bE bH aK aT ak aI aw az aM ah aQ aL aP aO aR aY aW bD ap aq
theorem oJ(hm:MaxL t)(hT:Tab t)(hS:SHs t w p u l fl cd m)(a2:0<=m)(a5:m<=90000)(a3:cd≠0/\cd≠6\/fl<=0) :
 ZJ Z8 34 #[.iface 56 (.pointer (Z9 ⟨p,0,Z7⟩)),.string name] w fun r w'=>r=.returned (.tuple #[.int .i64 (dJ l fl cd m name).1.1,.int .i64 (dJ l fl cd m name).1.2])/\SHs t w' p u l fl cd (dJ l fl cd m name).2/\w.grownBy w' (Z9 p):=by
 have HV:=lh (fun W (b:Z4 t.heap.size t W)=>ez name W (hm.below b));have HF:=lh (fun n W (b:Z4 t.heap.size t W)=>Ce n name W (hm.below b));have HS:=lh hS;have P:cd≠0\/fl<=0:=by omega
 have HG:=lh (fun (c k:Int) Y W (h:SHs t W p u l fl cd c) (h0:0<=c) (h1:c<=100000)=>iy p u l fl cd c 1 k Y t W hm hT h h0 h1 P);clear hS hm hT a3 P;generalize L:dJ l fl cd m name=g;unfold dJ at L;cases T:Y3 (Z5 name)
 rw[ZT T] at L;subst L;rw[T] at HV;clear T;rotate_left;rw[ZX (by rw[T];simp)] at L;rw[T] at HV;have a0:=lh L;clear T L;rotate_left
 iterate 1
  focus
   go_enter Tryz.func34,Tryz.ntmps34
   go_wp2_with (go_at_call 32;(with_reducible refine (HV.o _ HS.o.b).mono ?_);rintro _ w2 ⟨rfl,E⟩;have U:=lh E;clear E)
   go_ret2
   exact⟨rfl,HS.o.below U.o,bo _ U.o⟩
 go_enter Tryz.func34,Tryz.ntmps34
 go_wp2_with (go_at_call 32;(with_reducible refine (HV.o _ HS.o.b).mono ?_);rintro _ w2 ⟨rfl,E⟩;have U:=lh E;clear E)
 go_loopw [6] (fun i wr=>∃ (k:Nat) (c:Int),k<=2/\i=.int .i64 k/\0<=c/\c+k<=m+2/\Hid (gT l fl cd name (dn k) c=g)/\SHs t wr p u l fl cd c/\w.grownBy wr (Z9 p)) (fun i _=>(Zq i).toNat)
 case atStart=>exact⟨2,m,by decide,rfl,a2,by omega,a0,HS.o.below U.o,bo _ U.o⟩
 case round =>
  obtain⟨k,c,hk,rfl,h0,h1,HH,hs,L⟩:=hrel;have D:=lh hs;have y:=lh L;clear hs L
  cases k with
  | zero =>
    have H:((1,0),c)=g:=HH.o;subst H;go_wp2_with fail
    go_ret2
    exact⟨rfl,D.o,y.o⟩
  | succ k =>
    have H:=HH.o;unfold dn gT iF at H;have F:=HF.o ((k+1:Nat):Int);generalize (⟨(Vw ((k+1:Nat):Int) (Z5 name)).toArray⟩:Z6)=Y at F H;clear HH;generalize a4:((k+1:Nat):Int)=kn at F h1 |-;have k1:1<=kn:=by omega
    have k2:kn<=2:=by omega
    have K3:=lh (show kn=(k:Int)+1 by omega);clear a4;have K:=fun W (h:SHs t W p u l fl cd c)=>HG.o c 3 Y W h h0 (by omega)
    have X:=dS l fl cd c 1 3 Y;generalize aG l fl cd c 1 3 Y=gg at K X H;obtain⟨⟨x,d⟩,cb⟩:=gg;dsimp only at X H;have S:=lh K;have R:=lh F;clear K F;by_cases j:d=0
    .rw[ZT j] at H;subst H j
     go_wp2_with first|go_at_call 83;(with_reducible refine (R.o _ D.o.b).mono ?_);rintro _ Z ⟨rfl,E⟩;have G:=lh E;clear E|go_at_call 82;(refine (S.o _ (D.o.below G.o)).mono ?_);rintro _ w3 ⟨⟨f,gr,rfl,O,e,I,J⟩,q,o⟩;have Q:=ay x.1 f gr (aD O) (aE e);have V:=lh q;have N:=lh o;have R3:=ak w3 (x.1.vals f gr) 29 (0,0);have N3:=ae R3 30 _ (dv _ _ _);clear O e I J q o
     go_ret2
     exact⟨rfl,V.o.below (aj _ _),bx (aJ (aJ y.o (bo _ G.o)) N.o) ((aj _ _).mono (by have:=(aJ (aJ y.o (bo _ G.o)) N.o).size;omega))⟩
    rw[ZX j] at H;have t0:(d==0)=Z2:=by rw[ZS];exact j
    by_cases h6:d=6
    .rw[ZT h6] at H;have a1:=lh H;have t1:(d==6)=ZZ:=by rw[h6];rfl
     clear H j
     go_wp2_with first|go_at_call 83;(with_reducible refine (R.o _ D.o.b).mono ?_);rintro _ Z ⟨rfl,E⟩;have G:=lh E;clear E|go_at_call 82;(refine (S.o _ (D.o.below G.o)).mono ?_);rintro _ w3 ⟨⟨f,gr,rfl,O,e,I,J⟩,q,o⟩;have Q:=ay x.1 f gr (aD O) (aE e);have V:=lh q;have N:=lh o;clear O e I J q o
     go_roundw
     case rel=>exact⟨k,cb,by omega,by have:=K3.o;first|(go_num;done)|(congr 1;omega),by omega,by have:=K3.o;omega,a1,V.o.below (aj _ _),bx (aJ (aJ y.o (bo _ G.o)) N.o) ((aj _ _).mono (by have:=(aJ (aJ y.o (bo _ G.o)) N.o).size;omega))⟩
     case measure=>have:=K3.o;simp [Zq];omega
    .rw[ZX h6] at H;subst H;have t1:(d==6)=Z2:=by rw[ZS];exact h6
     go_wp2_with first|go_at_call 83;(with_reducible refine (R.o _ D.o.b).mono ?_);rintro _ Z ⟨rfl,E⟩;have G:=lh E;clear E|go_at_call 82;(refine (S.o _ (D.o.below G.o)).mono ?_);rintro _ w3 ⟨⟨f,gr,rfl,O,e,I,J⟩,q,o⟩;have Q:=ay x.1 f gr (aD O) (aE e);have V:=lh q;have N:=lh o;clear O e I J q o
     go_ret2
     exact⟨rfl,V.o.below (aj _ _),bx (aJ (aJ y.o (bo _ G.o)) N.o) ((aj _ _).mono (by have:=(aJ (aJ y.o (bo _ G.o)) N.o).size;omega))⟩
end
section
attribute [local go_sem ↓] aZ bf bq cl
attribute [local go_sem] bn aS aH bE bH aK aT ak aI aw az aM ah aQ aL aP aO aR aY aW bD ap aq
theorem ms(hl:RwS w v l) :
 ZJ Z8 131 #[v,.string name] w fun r w'=>r=.returned (.tuple #[.int .i64 (cj l name).1,.int .i64 (cj l name).2])/\Z4 w.heap.size w w':=by
 have V:=lh (fun W=>dt name W);have HF:=lh (fun n W=>Be n name W);have HG:=lh (fun S W (b:Z4 w.heap.size w W)=>iA v l 1 3 S W (hl.below b));clear hl;generalize N:cj l name=g;unfold cj at N;cases O:Y3 (Z5 name)
 rw[ZT O] at N;subst N;rw[O] at V;clear O;rotate_left;rw[ZX (by rw[O];simp)] at N;rw[O] at V;have U:=lh N;clear O N;rotate_left
 iterate 1
  focus
   go_enter Tryz.func131,Tryz.ntmps131
   go_wp2_with (go_at_call 130;(with_reducible refine (V.o _).mono ?_);rintro _ w2 ⟨rfl,o⟩;have T:=lh o;clear o)
   go_ret2
   exact⟨rfl,T.o⟩
 go_enter Tryz.func131,Tryz.ntmps131
 go_wp2_with (go_at_call 130;(with_reducible refine (V.o _).mono ?_);rintro _ w2 ⟨rfl,o⟩;have T:=lh o;clear o)
 go_loopw [6] (fun i wr=>∃ (k:Nat),k<=2/\i=.int .i64 k/\Hid (kp l name (dn k)=g)/\Z4 w.heap.size w wr) (fun i _=>(Zq i).toNat)
 case atStart=>exact⟨2,by decide,rfl,U,T.o⟩
 case round =>
  obtain⟨k,hk,rfl,X,B⟩:=hrel;have Q:=lh B;clear B
  cases k with
  | zero =>
    have h:(1,0)=g:=X.o;subst h;go_wp2_with fail
    go_ret2
    exact⟨rfl,Q.o⟩
  | succ k =>
    have h:=X.o;unfold dn kp iF at h;have q:=HF.o ((k+1:Nat):Int);generalize (⟨(Vw ((k+1:Nat):Int) (Z5 name)).toArray⟩:Z6)=S at q h;clear X;generalize Z:((k+1:Nat):Int)=kn at q |-;have k1:1<=kn:=by omega
    have k2:kn<=2:=by omega
    have K3:=lh (show kn=(k:Int)+1 by omega);clear Z;have E:=fun W (b:Z4 w.heap.size w W)=>HG.o S W b
    generalize bz l 1 3 S=gg at E h;obtain⟨x,d⟩:=gg;dsimp only at h;have L:=lh E;have K:=lh q;clear E q;by_cases j:d=0
    .rw[ZT j] at h;subst h j
     go_wp2_with first|go_at_call 218;(with_reducible refine (K.o _).mono ?_);rintro _ P ⟨rfl,o⟩;have F:=lh (bt Q.o o);clear o|go_at_call 134;(refine (L.o _ F.o).mono ?_);rintro _ w3 ⟨⟨f,gr,rfl,I,H,y,D⟩,e⟩;have J:=ay x.1 f gr (aD I) (aE H);have G:=lh (bt F.o e);have R3:=ak w3 (x.1.vals f gr) 29 (0,0);have N3:=ae R3 30 _ (dv _ _ _);clear I H y D e
     go_ret2
     exact⟨rfl,G.o.alloc G.o.size _⟩
    rw[ZX j] at h;have t0:(d==0)=Z2:=by rw[ZS];exact j
    by_cases R:d=6
    .rw[ZT R] at h;have Y:=lh h;have t1:(d != 6)=Z2:=by rw[R];rfl
     clear h j
     go_wp2_with first|go_at_call 218;(with_reducible refine (K.o _).mono ?_);rintro _ P ⟨rfl,o⟩;have F:=lh (bt Q.o o);clear o|go_at_call 134;(refine (L.o _ F.o).mono ?_);rintro _ w3 ⟨⟨f,gr,rfl,I,H,y,D⟩,e⟩;have J:=ay x.1 f gr (aD I) (aE H);have G:=lh (bt F.o e);clear I H y D e
     go_roundw
     case rel=>exact⟨k,by omega,by have:=K3.o;first|(go_num;done)|(congr 1;omega),Y,G.o.alloc G.o.size _⟩
     case measure=>have:=K3.o;simp [Zq];omega
    .rw[ZX R] at h;subst h;have t1:(d != 6)=ZZ:=by rw[Zi];exact R
     go_wp2_with first|go_at_call 218;(with_reducible refine (K.o _).mono ?_);rintro _ P ⟨rfl,o⟩;have F:=lh (bt Q.o o);clear o|go_at_call 134;(refine (L.o _ F.o).mono ?_);rintro _ w3 ⟨⟨f,gr,rfl,I,H,y,D⟩,e⟩;have J:=ay x.1 f gr (aD I) (aE H);have G:=lh (bt F.o e);clear I H y D e
     go_ret2
     exact⟨rfl,G.o.alloc G.o.size _⟩
def En3(B:Nat)(w':ZY)(g:Fu × Int × Int)(r:Vi):Prop :=
 ∃ (f gr:Z1),r=.returned (.tuple #[.agg (g.1.1.vals f gr),.int .i64 g.2.1,.int .i64 g.2.2])/\IS w' f g.1.2.1/\GS w' gr g.1.2.2/\(∀ q,f.ownBlock=Z9 q->B<=q)/\(∀ q,gr.ownBlock=Z9 q->B<=q)
theorem En3.put{id:Int}(D:Held W B 33)(I:IS W f x.2.1)(G:GS W gr x.2.2)(h:∀ q,f.ownBlock=Z9 q->B<q)(g:∀ q,gr.ownBlock=Z9 q->B<q) :
 En3 B (W.setRow B (x.1.vals f gr)) (x,id,d) (.returned (.tuple #[.agg (row (W.setRow B (x.1.vals f gr)) B),.int .i64 id,.int .i64 d])):=by
 have o:∀ j,B+1<=j->j<W.heap.size->(W.setRow B (x.1.vals f gr)).heap[j]?=W.heap[j]?:=fun j h _=>cP _ _ _ _ (by omega)
 refine⟨f,gr,Y8 (fun z=>Ending.returned (.tuple #[.agg z,.int .i64 id,.int .i64 d])) (au D _),I.keep (B+1) (fun y e=>h y e) (by simp) o,G.keep (B+1) (fun y e=>g y e) (by simp) o,fun q H=>Nat.le_of_lt (h q H),fun q H=>Nat.le_of_lt (g q H)⟩
theorem En3.put0(H:Held W B 33):En3 B (W.setRow B (zlit 0 ⟨#[]⟩)) (bL,0,d) (.returned (.tuple #[.agg (row (W.setRow B (zlit 0 ⟨#[]⟩)) B),.int .i64 0,.int .i64 d])):=by
 rw[eh];exact En3.put (x:=bL) H (IS.nil _) (GS.nil _) (fun _ h=>by cases h) (fun _ h=>by cases h)
theorem En3.le{g:Fu × Int × Int}(h:En3 B w' g r)(e:C<=B):En3 C w' g r:=by
 obtain⟨f,gr,j,o,y,D,E⟩:=h;exact⟨f,gr,j,o,y,fun q H=>ZE e (D q H),fun q H=>ZE e (E q H)⟩
end
section
def qd:Z1->Bool|.int .i64 _=>ZZ|_=>Z2
theorem Am(k:Int):qd (.int .i64 k)=ZZ:=rfl
theorem Dy(Z cs:Zz Z1)(v:Z1)(H:Z.size=34)(h:cs.size=33) :
 (Array.foldl (fun cs (x:Z1 × Nat)=>cs.setIfInBounds x.snd x.fst) Z cs.zipIdx 0 33).setIfInBounds 33 v=cs.push v/\(Array.foldl (fun cs (x:Z1 × Nat)=>cs.setIfInBounds x.snd x.fst) Z cs.zipIdx 0 33).size=34:=by
 have e:Array.foldl (fun cs (x:Z1 × Nat)=>cs.setIfInBounds x.snd x.fst) Z cs.zipIdx 0 33=over Z 0 cs.toList:=by
  have g:cs.zipIdx.size=33:=by simp [h]
  rw[<-g,<-Array.foldl_toList,Array.toList_zipIdx,me]
 rw[e];refine⟨?_,by rw[jW];exact H⟩
 have:=tS cs.toList [v] 0 Z;rw[Array.length_toList,h] at this;have E:over (over Z 0 cs.toList) (0+33) [v]=(over Z 0 cs.toList).setIfInBounds 33 v:=rfl;rw[<-E,this,<-Array.toList_push];exact lv _ _ (by rw[H,Array.size_push,h])
def fc(cs:Zz Z1)(v:Z1):Zz Z1:=cs.push v
theorem uJ(cs:Zz Z1)(v:Z1):(fc cs v).size=cs.size+1:=by unfold fc;rw[Array.size_push]
theorem EW(dst x y t pos af gd)(H:cV (b x)=ZZ)(j:(bA (b x)).size=33)(e:qd (b y)=ZZ) :
 (XR b ⟨dst,.build 182 #[(0,x),(1,y)],t,pos,af,gd⟩).run Z8 w=.ok (.value (.agg (fc (bA (b x)) (b y)))) w:=by
 obtain⟨cs,q⟩:∃ cs,b x=.agg cs:=by
  unfold cV at H;split at H
  .rename_i g h;exact⟨g,h⟩
  .cases H
 obtain⟨k,D⟩:∃ k,b y=.int .i64 k:=by
  unfold qd at e;split at e
  .rename_i g h;exact⟨g,h⟩
  .cases e
 rw[q,aK] at j |-;rw[D];unfold fc;go_simp
 have o:=fun Z E=>Dy Z cs (.int .i64 k) E j
 rw[(o _ rfl).1,(o _ rfl).2];rfl
theorem GR(dst x t pos af gd)(h:db (b x)=ZZ)(H:(row w (bF (b x))).size=34) :
 (XR b ⟨dst,.load 182 x,t,pos,af,gd⟩).run Z8 w=.ok (.value (.agg (row w (bF (b x))))) w :=
 kW b w _ 33 _ Tryz.underlying182 rfl (by kernel_rfl) dst x t pos af gd h H
theorem ID(Z:Zz Z1)(t:TypeId)(dst x y t' pos af gd)(h:Z.size=34)(H:db (b x)=ZZ)(e:bF (b x)=w.heap.size)(g:cV (b y)=ZZ)(j:(bA (b y)).size=34)(o:bh (bA (b y)).toList=ZZ) :
 (XR b ⟨dst,.store 182 x y,t',pos,af,gd⟩).run Z8 (w.alloc (.cells Z t))=.ok .skip (w.alloc (.cells (bA (b y)) t)) :=
 l0 b w _ 33 (by kernel_rfl) Z t dst x y t' pos af gd h H e g j o
theorem CP(dst x y t' pos af gd)(h:db (b x)=ZZ)(H:Held w (bF (b x)) 34)(e:cV (b y)=ZZ)(g:(bA (b y)).size=34)(j:bh (bA (b y)).toList=ZZ) :
 (XR b ⟨dst,.store 182 x y,t',pos,af,gd⟩).run Z8 w=.ok .skip (w.setRow (bF (b x)) (bA (b y))) :=
 kN b w _ 33 (by kernel_rfl) dst x y t' pos af gd h H e g j
def fcells(x:En)(f gr:Z1)(id:Int):Zz Z1:=fc (x.vals f gr) (.int .i64 id)
theorem kS(x:En)(f gr:Z1)(id:Int):(fcells x f gr id).size=34:=by unfold fcells;rw[uJ,ah]
theorem hZ(e:En)(f gr:Z1)(id:Int)(h:one f=ZZ)(H:one gr=ZZ):bh (fcells e f gr id).toList=ZZ:=by
 unfold fcells fc;rw[Array.toList_push];have:=ay e f gr h H;generalize (e.vals f gr).toList=l at this
 induction l with
 | nil=>rfl
 | cons v r I =>
   rw[aL,Bool.and_eq_true] at this;rw[List.cons_append,aL,this.1,I this.2];rfl
def nL(B:Nat)(w':ZY)(g:Fu × Int × Int)(r:Vi):Prop :=
 ∃ (f gr:Z1),r=.returned (.tuple #[.agg (fcells g.1.1 f gr g.2.1),.int .i64 g.2.2])/\IS w' f g.1.2.1/\GS w' gr g.1.2.2/\(∀ q,f.ownBlock=Z9 q->B<=q)/\(∀ q,gr.ownBlock=Z9 q->B<=q)
def FinR(t w w':ZY)(p:Nat)(u:Z1)(l:Z3 Rw)(fl cd:Int)(g:(Fu × Int × Int) × Int)(r:Vi):Prop :=
 nL w.heap.size w' g.1 r/\SHs t w' p u l fl cd g.2/\w.grownBy w' (Z9 p)
theorem FinR.put{t w:ZY}{p:Nat}{u:Z1}{l:Z3 Rw}{fl cd m:Int}{id:Int}(S:SHs t w p u l fl cd m)(I:Held W w.heap.size 34)(F:SHs t W p u l fl cd c)(G:w.grownBy W (Z9 p))(J:IS W f x.2.1)(K:GS W gr x.2.2)(e:∀ q,f.ownBlock=Z9 q->w.heap.size<q)(D:∀ q,gr.ownBlock=Z9 q->w.heap.size<q) :
 FinR t w (W.setRow w.heap.size (fcells x.1 f gr id)) p u l fl cd ((x,id,d),c) (.returned (.tuple #[.agg (row (W.setRow w.heap.size (fcells x.1 f gr id)) w.heap.size),.int .i64 d])):=by
 have H:Z4 w.heap.size W (W.setRow w.heap.size (fcells x.1 f gr id)):=Zy (ZR _ _) (ZV _) _;have E:∀ j,w.heap.size+1<=j->j<W.heap.size->(W.setRow w.heap.size (fcells x.1 f gr id)).heap[j]?=W.heap[j]?:=fun j e _=>cP _ _ _ _ (by omega)
 exact⟨⟨f,gr,Y8 (fun z=>Ending.returned (.tuple #[.agg z,.int .i64 d])) (au I _),J.keep (w.heap.size+1) (fun y o=>e y o) (by simp) E,K.keep (w.heap.size+1) (fun y o=>D y o) (by simp) E,fun q g=>Nat.le_of_lt (e q g),fun q g=>Nat.le_of_lt (D q g)⟩,F.belowB H S.pl (fun h b H=>jw S.r h b H),bx G H⟩
def flit:Zz Z1:=(zlit 0 ⟨#[]⟩).push (.int .i64 0)
theorem Ey:flit=fcells bL.1 (.slice Z7 0 0) (.slice Z7 0 0) 0:=by unfold flit fcells fc;rw[eh];rfl
theorem FinR.put0{t w:ZY}{p:Nat}{u:Z1}{l:Z3 Rw}{fl cd m:Int}(S:SHs t w p u l fl cd m)(e:Held W w.heap.size 34)(H:SHs t W p u l fl cd c)(G:w.grownBy W (Z9 p)) :
 FinR t w (W.setRow w.heap.size flit) p u l fl cd ((bL,0,d),c) (.returned (.tuple #[.agg (row (W.setRow w.heap.size flit) w.heap.size),.int .i64 d])):=by
 rw[Ey];exact FinR.put (x:=bL) S e H G (IS.nil _) (GS.nil _) (fun _ h=>by cases h) (fun _ h=>by cases h)
theorem jB(h:Held W B 34)(H:cs.size=34):(row (W.setRow B cs) B).size=33+1:=(Y8 Array.size (au h cs)).trans H
theorem uS(t:TypeId):Held (w.alloc (.cells flit t)) w.heap.size 34:=Held.new w flit t _ rfl (by decide)
theorem jv{w:ZY}{p b:Nat}{v:Z1}(g:w.grownBy w' (Z9 p))(H:b≠p)(h:w.cell? ⟨b,0,Z7⟩=Z9 v):w'.cell? ⟨b,0,Z7⟩=Z9 v :=
 (ZU (a:=⟨b,0,Z7⟩) (g.block b (Ym h) (fun e=>H (ZL e)))).trans h
attribute [local go_sem ↓] aZ bf bq GR ID CP EW
attribute [local go_sem] bn aS aH bE bH aK aT Am ak aI aw az aM ah uJ aQ aL aP aO aR aY aW bD ap aq
theorem Gh(hm:MaxL t)(hT:Tab t)(hS:SHs t w p u l fl cd m)(b4:0<=m)(b5:m<=80000)(b0:cd≠0/\cd≠6\/fl<=0)(c1:w.cell? ⟨z,0,Z7⟩=Z9 (.iface 56 (.pointer (Z9 ⟨p,0,Z7⟩))))(c2:w.cell? ⟨A,0,Z7⟩=Z9 (.string name))(n1:z≠p)(_:A≠p) :
 ZJ Z8 111 #[.int .i64 id,.pointer (Z9 ⟨z,0,Z7⟩),.pointer (Z9 ⟨A,0,Z7⟩)] w fun r w'=>FinR t w w' p u l fl cd (kC l fl cd m id name) r:=by
 have HS:=lh hS;have ar:=hS.pl;have b2:=Ym c1;have b3:=Ym c2;have U:(Z9 p:Zm Nat)≠Z9 w.heap.size:=fun e=>by have:=ZL e;omega
 have HZ:=lh (uS w 182);have HF:=lh (fun (c:Int) nm W (h:SHs t W p u l fl cd c) (h0:0<=c) (h1:c<=90000)=>mx p u l fl cd c id nm t W hm hT h h0 h1 b0);have d1:(w.alloc (.cells flit 182)).cell? ⟨z,0,Z7⟩=Z9 (.iface 56 (.pointer (Z9 ⟨p,0,Z7⟩))):=((aj _ _).cell (p:=⟨z,0,Z7⟩) b2).trans c1;have d2:(w.alloc (.cells flit 182)).cell? ⟨A,0,Z7⟩=Z9 (.string name):=((aj _ _).cell (p:=⟨A,0,Z7⟩) b3).trans c2;clear hS hm hT b0;generalize Q:kC l fl cd m id name=g;unfold kC at Q;have aa:=fun W (h:SHs t W p u l fl cd m)=>HF.o m name W h b4 (by omega)
 have av:=jq l fl cd m id name;generalize bY l fl cd m id name=gg at aa av Q;obtain⟨⟨x,d⟩,cb⟩:=gg;dsimp only at av Q;have a4:=lh aa;clear aa;by_cases h0:d=0
 rotate_left
 .rw[ZT h0] at Q;subst Q;have t0:(d==0)=Z2:=by rw[ZS];exact h0
  have t1:(d != 0)=ZZ:=by rw[Zi];exact h0
  clear h0;go_enter Tryz.func111,Tryz.ntmps111
  go_wp2_with (go_at_call 112;(refine (a4.o _ (HS.o.below (aj _ _))).mono ?_);rintro _ o ⟨⟨f,gr,rfl,O,D,K,L⟩,N,H⟩;have a1:=ay x.1 f gr (aD O) (aE D);have S3:=lh N;have G3:=lh H;have H3:=da o (.cells (x.1.vals f gr) 29) _ _ (HZ.o.grown H U);have P:bh (fc (x.1.vals f gr) (.int .i64 id)).toList=ZZ:=hZ x.1 f gr id (aD O) (aE D);have HI:=lh O;have a6:=lh D;have a2:=lh K;have a3:=lh L;have R3:=ak o (x.1.vals f gr) 29 (0,0);have N3:=ae R3 0 _ (ap _ _ _);have ag:=ae R3 29 _ (cB _ _ _);have z3:w.heap.size+1<=o.heap.size:=(by have:=H.size;simpa using this);have e1:=((aj o (.cells (x.1.vals f gr) 29)).cell (p:=⟨z,0,Z7⟩) (by show z<o.heap.size;omega)).trans (jv H n1 d1);have H5:=eb o x.1 f gr 29;clear O D K L N H)
  refine ZA (bV (n:=33) rfl Tryz.underlying182 rfl (by kernel_rfl) _ _ w.heap.size rfl (jB H3 rfl)) rfl ?_
  exact FinR.put0 HS.o H3 (S3.o.below (aj _ _)) (bx (aJ (bo _ (aj _ _)) G3.o) ((aj _ _).mono (by omega)))
 rw[ZX (fun h=>h h0)] at Q;have t0:(d==0)=ZZ:=by rw[h0];rfl
 have t1:(d != 0)=Z2:=by rw[h0];rfl
 by_cases hk:x.1.kind=2
 rotate_left
 .rw[ZT hk] at Q;subst Q;have t2:(x.1.kind==2)=Z2:=by rw[ZS];exact hk
  clear hk;subst h0;go_enter Tryz.func111,Tryz.ntmps111
  go_wp2_with (go_at_call 112;(refine (a4.o _ (HS.o.below (aj _ _))).mono ?_);rintro _ o ⟨⟨f,gr,rfl,O,D,K,L⟩,N,H⟩;have a1:=ay x.1 f gr (aD O) (aE D);have S3:=lh N;have G3:=lh H;have H3:=da o (.cells (x.1.vals f gr) 29) _ _ (HZ.o.grown H U);have P:bh (fc (x.1.vals f gr) (.int .i64 id)).toList=ZZ:=hZ x.1 f gr id (aD O) (aE D);have HI:=lh O;have a6:=lh D;have a2:=lh K;have a3:=lh L;have R3:=ak o (x.1.vals f gr) 29 (0,0);have N3:=ae R3 0 _ (ap _ _ _);have ag:=ae R3 29 _ (cB _ _ _);have z3:w.heap.size+1<=o.heap.size:=(by have:=H.size;simpa using this);have e1:=((aj o (.cells (x.1.vals f gr) 29)).cell (p:=⟨z,0,Z7⟩) (by show z<o.heap.size;omega)).trans (jv H n1 d1);have H5:=eb o x.1 f gr 29;clear O D K L N H)
  refine ZA (bV (n:=33) rfl Tryz.underlying182 rfl (by kernel_rfl) _ _ w.heap.size rfl (jB H3 (kS x.1 f gr id))) rfl ?_
  exact FinR.put (x:=x) HS.o H3 (S3.o.below (aj _ _)) (bx (aJ (bo _ (aj _ _)) G3.o) ((aj _ _).mono (by omega))) (HI.o.below (aj _ _)) (a6.o.below (aj _ _)) (fun q hq=>by have:=a2.o q hq;simp at this;omega) (fun q hq=>by have:=a3.o q hq;simp at this;omega)
 rw[ZX (fun h=>h hk)] at Q;have t2:(x.1.kind==2)=ZZ:=by rw[hk];rfl
 clear hk;subst h0;have a0:=fun W (h:SHs t W p u l fl cd cb)=>HF.o cb x.1.target W h (by omega) (by omega)
 have al:=jq l fl cd cb id x.1.target;generalize bY l fl cd cb id x.1.target=gg at a0 al Q;obtain⟨⟨y,Z⟩,ce⟩:=gg;dsimp only at al Q;have a5:=lh a0;clear a0;by_cases h2:Z=0
 rotate_left
 .rw[ZT h2] at Q;subst Q;have t4:(Z==0)=Z2:=by rw[ZS];exact h2
  have t5:(Z != 0)=ZZ:=by rw[Zi];exact h2
  clear h2;go_enter Tryz.func111,Tryz.ntmps111
  go_wp2_with (first|(go_at_call 112;have b6:=H5;clear b6;(refine (a5.o _ (S3.o.below (aj _ _))).mono ?_);rintro _ Y ⟨⟨E,G,rfl,J,F,S,T⟩,X,I⟩;have ab:=ay y.1 E G (aD J) (aE F);have S4:=lh X;have G4:=lh I;have V:(Z9 p:Zm Nat)≠Z9 o.heap.size:=(fun e=>by have:=ZL e;omega);have K5:=H5.grown I V;have K4:=(H3.grown I U).set (y.1.vals E G) (g:=w.heap.size) (g':=o.heap.size) (fun e=>by omega);have RB:=eT Y (y.1.vals E G) o.heap.size K5;have NB:=ae RB 0 _ (ap _ _ _);have ac:bh (fc (y.1.vals E G) (.int .i64 id)).toList=ZZ:=hZ y.1 E G id (aD J) (aE F);have z4:o.heap.size+1<=Y.heap.size:=(by have:=I.size;simpa using this);have ao:=lh J;have a7:=lh F;have ad:=lh S;have af:=lh T;clear J F S T X I)|(go_at_call 112;(refine (a4.o _ (HS.o.below (aj _ _))).mono ?_);rintro _ o ⟨⟨f,gr,rfl,O,D,K,L⟩,N,H⟩;have a1:=ay x.1 f gr (aD O) (aE D);have S3:=lh N;have G3:=lh H;have H3:=da o (.cells (x.1.vals f gr) 29) _ _ (HZ.o.grown H U);have P:bh (fc (x.1.vals f gr) (.int .i64 id)).toList=ZZ:=hZ x.1 f gr id (aD O) (aE D);have HI:=lh O;have a6:=lh D;have a2:=lh K;have a3:=lh L;have R3:=ak o (x.1.vals f gr) 29 (0,0);have N3:=ae R3 0 _ (ap _ _ _);have ag:=ae R3 29 _ (cB _ _ _);have z3:w.heap.size+1<=o.heap.size:=(by have:=H.size;simpa using this);have e1:=((aj o (.cells (x.1.vals f gr) 29)).cell (p:=⟨z,0,Z7⟩) (by show z<o.heap.size;omega)).trans (jv H n1 d1);have H5:=eb o x.1 f gr 29;clear O D K L N H))
  refine ZA (bV (n:=33) rfl Tryz.underlying182 rfl (by kernel_rfl) _ _ w.heap.size rfl (jB K4 rfl)) rfl ?_
  have R:Z4 w.heap.size Y (Y.setRow o.heap.size (y.1.vals E G)):=Zy (ZR _ _) (by omega) _;have a9:=S4.o.belowB R ar (fun h b hb=>jw HS.o.r h b hb);have a8:=bx (aJ (bx (aJ (bo _ (aj _ _)) G3.o) ((aj _ _).mono (by omega))) G4.o) R;exact FinR.put0 HS.o K4 a9 a8
 rw[ZX (fun h=>h h2)] at Q;subst h2;by_cases hk:y.1.kind=2
 .rw[ZT hk] at Q;subst Q;have t6:(y.1.kind==2)=ZZ:=by rw[hk];rfl
  clear hk;go_enter Tryz.func111,Tryz.ntmps111
  go_wp2_with (first|(go_at_call 112;have b6:=H5;clear b6;(refine (a5.o _ (S3.o.below (aj _ _))).mono ?_);rintro _ Y ⟨⟨E,G,rfl,J,F,S,T⟩,X,I⟩;have ab:=ay y.1 E G (aD J) (aE F);have S4:=lh X;have G4:=lh I;have V:(Z9 p:Zm Nat)≠Z9 o.heap.size:=(fun e=>by have:=ZL e;omega);have K5:=H5.grown I V;have K4:=(H3.grown I U).set (y.1.vals E G) (g:=w.heap.size) (g':=o.heap.size) (fun e=>by omega);have RB:=eT Y (y.1.vals E G) o.heap.size K5;have NB:=ae RB 0 _ (ap _ _ _);have ac:bh (fc (y.1.vals E G) (.int .i64 id)).toList=ZZ:=hZ y.1 E G id (aD J) (aE F);have z4:o.heap.size+1<=Y.heap.size:=(by have:=I.size;simpa using this);have ao:=lh J;have a7:=lh F;have ad:=lh S;have af:=lh T;clear J F S T X I)|(go_at_call 112;(refine (a4.o _ (HS.o.below (aj _ _))).mono ?_);rintro _ o ⟨⟨f,gr,rfl,O,D,K,L⟩,N,H⟩;have a1:=ay x.1 f gr (aD O) (aE D);have S3:=lh N;have G3:=lh H;have H3:=da o (.cells (x.1.vals f gr) 29) _ _ (HZ.o.grown H U);have P:bh (fc (x.1.vals f gr) (.int .i64 id)).toList=ZZ:=hZ x.1 f gr id (aD O) (aE D);have HI:=lh O;have a6:=lh D;have a2:=lh K;have a3:=lh L;have R3:=ak o (x.1.vals f gr) 29 (0,0);have N3:=ae R3 0 _ (ap _ _ _);have ag:=ae R3 29 _ (cB _ _ _);have z3:w.heap.size+1<=o.heap.size:=(by have:=H.size;simpa using this);have e1:=((aj o (.cells (x.1.vals f gr) 29)).cell (p:=⟨z,0,Z7⟩) (by show z<o.heap.size;omega)).trans (jv H n1 d1);have H5:=eb o x.1 f gr 29;clear O D K L N H))
  refine ZA (bV (n:=33) rfl Tryz.underlying182 rfl (by kernel_rfl) _ _ w.heap.size rfl (jB K4 rfl)) rfl ?_
  have R:Z4 w.heap.size Y (Y.setRow o.heap.size (y.1.vals E G)):=Zy (ZR _ _) (by omega) _;have a9:=S4.o.belowB R ar (fun h b hb=>jw HS.o.r h b hb);have a8:=bx (aJ (bx (aJ (bo _ (aj _ _)) G3.o) ((aj _ _).mono (by omega))) G4.o) R;exact FinR.put0 HS.o K4 a9 a8
 .rw[ZX hk] at Q;subst Q;have t6:(y.1.kind==2)=Z2:=by rw[ZS];exact hk
  clear hk;go_enter Tryz.func111,Tryz.ntmps111
  go_wp2_with (first|(go_at_call 112;have b6:=H5;clear b6;(refine (a5.o _ (S3.o.below (aj _ _))).mono ?_);rintro _ Y ⟨⟨E,G,rfl,J,F,S,T⟩,X,I⟩;have ab:=ay y.1 E G (aD J) (aE F);have S4:=lh X;have G4:=lh I;have V:(Z9 p:Zm Nat)≠Z9 o.heap.size:=(fun e=>by have:=ZL e;omega);have K5:=H5.grown I V;have K4:=(H3.grown I U).set (y.1.vals E G) (g:=w.heap.size) (g':=o.heap.size) (fun e=>by omega);have RB:=eT Y (y.1.vals E G) o.heap.size K5;have NB:=ae RB 0 _ (ap _ _ _);have ac:bh (fc (y.1.vals E G) (.int .i64 id)).toList=ZZ:=hZ y.1 E G id (aD J) (aE F);have z4:o.heap.size+1<=Y.heap.size:=(by have:=I.size;simpa using this);have ao:=lh J;have a7:=lh F;have ad:=lh S;have af:=lh T;clear J F S T X I)|(go_at_call 112;(refine (a4.o _ (HS.o.below (aj _ _))).mono ?_);rintro _ o ⟨⟨f,gr,rfl,O,D,K,L⟩,N,H⟩;have a1:=ay x.1 f gr (aD O) (aE D);have S3:=lh N;have G3:=lh H;have H3:=da o (.cells (x.1.vals f gr) 29) _ _ (HZ.o.grown H U);have P:bh (fc (x.1.vals f gr) (.int .i64 id)).toList=ZZ:=hZ x.1 f gr id (aD O) (aE D);have HI:=lh O;have a6:=lh D;have a2:=lh K;have a3:=lh L;have R3:=ak o (x.1.vals f gr) 29 (0,0);have N3:=ae R3 0 _ (ap _ _ _);have ag:=ae R3 29 _ (cB _ _ _);have z3:w.heap.size+1<=o.heap.size:=(by have:=H.size;simpa using this);have e1:=((aj o (.cells (x.1.vals f gr) 29)).cell (p:=⟨z,0,Z7⟩) (by show z<o.heap.size;omega)).trans (jv H n1 d1);have H5:=eb o x.1 f gr 29;clear O D K L N H))
  refine ZA (bV (n:=33) rfl Tryz.underlying182 rfl (by kernel_rfl) _ _ w.heap.size rfl (jB K4 (kS y.1 E G id))) rfl ?_
  have R:Z4 w.heap.size Y (Y.setRow o.heap.size (y.1.vals E G)):=Zy (ZR _ _) (by omega) _;have a9:=S4.o.belowB R ar (fun h b hb=>jw HS.o.r h b hb);have a8:=bx (aJ (bx (aJ (bo _ (aj _ _)) G3.o) ((aj _ _).mono (by omega))) G4.o) R;have b1:∀ j,o.heap.size+1<=j->j<Y.heap.size->(Y.setRow o.heap.size (y.1.vals E G)).heap[j]?=Y.heap[j]?:=fun j h1 _=>cP _ _ _ _ (by omega)
  exact FinR.put (x:=y) HS.o K4 a9 a8 (ao.o.keep (o.heap.size+1) (fun q hq=>by have:=ad.o q hq;simpa using this) (by simp) b1) (a7.o.keep (o.heap.size+1) (fun q hq=>by have:=af.o q hq;simpa using this) (by simp) b1) (fun q hq=>by have:=ad.o q hq;simp at this;omega) (fun q hq=>by have:=af.o q hq;simp at this;omega)
theorem GU(hm:MaxL t)(hT:Tab t)(hS:SHs t w p u l fl cd m)(a2:0<=m)(a4:m<=70000)(D:cd≠0/\cd≠6\/fl<=0)(c1:w.cell? ⟨z,0,Z7⟩=Z9 (.iface 56 (.pointer (Z9 ⟨p,0,Z7⟩))))(c2:w.cell? ⟨A,0,Z7⟩=Z9 (.string name))(n1:z≠p)(n2:A≠p) :
 ZJ Z8 110 #[.iface 56 (.pointer (Z9 ⟨p,0,Z7⟩)),.string name,.func (.func 111) #[] #[.pointer (Z9 ⟨z,0,Z7⟩),.pointer (Z9 ⟨A,0,Z7⟩)]] w fun r w'=>FinR t w w' p u l fl cd (iX l fl cd m name) r:=by
 have S:=lh hS;have a5:=hS.pl;have a0:=Ym c1;have a1:=Ym c2;have I:(Z9 p:Zm Nat)≠Z9 w.heap.size:=fun e=>by have:=ZL e;omega
 have HZ:=lh (uS w 182);have T:=lh (fun W (h:SHs t W p u l fl cd m)=>oJ p u l fl cd m name t W hm hT h a2 (by omega) D);have HF:=lh (fun (c id:Int) W (h:SHs t W p u l fl cd c) (o:0<=c) (h1:c<=80000) J K=>Gh z A p u l fl cd c id name t W hm hT h o h1 D J K n1 n2);have J:(w.alloc (.cells flit 182)).cell? ⟨z,0,Z7⟩=Z9 (.iface 56 (.pointer (Z9 ⟨p,0,Z7⟩))):=((aj _ _).cell (p:=⟨z,0,Z7⟩) a0).trans c1;have K:(w.alloc (.cells flit 182)).cell? ⟨A,0,Z7⟩=Z9 (.string name):=((aj _ _).cell (p:=⟨A,0,Z7⟩) a1).trans c2;clear hS hm hT D c1 c2;generalize F:iX l fl cd m name=g;unfold iX at F;have L:=sD l fl cd m name;generalize dJ l fl cd m name=gg at L F T;obtain⟨⟨id,c⟩,cb⟩:=gg;dsimp only at L F T;by_cases o:c=0
 rotate_left
 .rw[ZT o] at F;subst F;have t1:(c != 0)=ZZ:=by rw[Zi];exact o
  clear o;go_enter Tryz.func110,Tryz.ntmps110
  go_wp2_with (go_at_call 34;(refine (T.o _ (S.o.below (aj _ _))).mono ?_);rintro _ Q ⟨rfl,j,H⟩;have S3:=lh j;have U:=lh H;have R:=fun ob=>da Q ob _ _ (HZ.o.grown H I);have z3:w.heap.size+1<=Q.heap.size:=(by have:=H.size;simpa using this);have R3:=ak Q flit 182 (0,0);clear j H)
  refine ZA (bV (n:=33) rfl Tryz.underlying182 rfl (by kernel_rfl) _ _ w.heap.size rfl (jB (cs:=flit) (R _) rfl)) rfl ?_
  exact FinR.put0 S.o (R _) (S3.o.below (aj _ _)) (bx (aJ (bo _ (aj _ _)) U.o) ((aj _ _).mono (by omega)))
 rw[ZX (fun h=>h o)] at F;subst o F;have E:=fun W (h:SHs t W p u l fl cd cb) J K=>HF.o cb id W h (by omega) (by omega) J K
 generalize kC l fl cd cb id name=g at E |-;have Y:=lh E;clear E;go_enter Tryz.func110,Tryz.ntmps110
 go_wp2_with first|go_at_call 34;(refine (T.o _ (S.o.below (aj _ _))).mono ?_);rintro _ Q ⟨rfl,j,H⟩;have S3:=lh j;have U:=lh H;have R:=HZ.o.grown H I;have z3:w.heap.size+1<=Q.heap.size:=(by have:=H.size;simpa using this);have e1:=jv H n1 J;have e2:=jv H n2 K;clear j H|go_at_call 111;(refine (Y.o _ S3.o e1 e2).mono ?_);rintro _ w4 ⟨⟨f,gr,rfl,hI,y,N,O⟩,P,G⟩;have a3:=hZ g.1.1.1 f gr g.1.2.1 (aD hI) (aE y);have a6:=kS g.1.1.1 f gr g.1.2.1;have S4:=lh P;have G4:=lh G;have H4:=R.grown G I;have HI:=lh hI;have Z:=lh y;have V:=lh N;have X:=lh O;clear hI y N O P G
 refine ZA (bV (n:=33) rfl Tryz.underlying182 rfl (by kernel_rfl) _ _ w.heap.size rfl (jB H4 (kS g.1.1.1 f gr g.1.2.1))) rfl ?_
 exact FinR.put (x:=g.1.1) S.o H4 S4.o (aJ (aJ (bo _ (aj _ _)) U.o) G4.o) HI.o Z.o (fun q hq=>by have:=V.o q hq;omega) (fun q hq=>by have:=X.o q hq;omega)
theorem mid34(e:En)(f gr:Z1)(id:Int)(b:Nat)(h:row w b=fcells e f gr id):mid w b 0=e.vals f gr/\w.cell? ⟨b,33,Z7⟩=Z9 (.int .i64 id):=by
 refine⟨?_,ae h 33 _ ?_⟩
 .unfold mid;rw[h];unfold fcells fc;have H:=ah e f gr;generalize e.vals f gr=cs at H;apply Array.ext'
  simp [H]
 .unfold fcells fc;have H:=ah e f gr;generalize e.vals f gr=cs at H;rw[<-H,Array.getElem?_push_size]
attribute [local go_sem ↓] fb
theorem DX(hm:MaxL t)(hT:Tab t)(F:SHs t w p u l fl cd m)(a2:0<=m)(a7:m<=60000)(N:cd≠0/\cd≠6\/fl<=0) :
 ZJ Z8 42 #[.iface 56 (.pointer (Z9 ⟨p,0,Z7⟩)),.string name] w fun r w'=>En3 w.heap.size w' (iX l fl cd m name).1 r/\SHs t w' p u l fl cd (iX l fl cd m name).2/\w.grownBy w' (Z9 p):=by
 have HS:=lh F;have a4:=F.pl;have n1:w.heap.size≠p:=by omega
 have n2:w.heap.size+1≠p:=by omega
 have G:=lh (fun W (h:SHs t W p u l fl cd m) I J=>GU w.heap.size (w.heap.size+1) p u l fl cd m name t W hm hT h a2 (by omega) N I J n1 n2);clear F hm hT N;generalize iX l fl cd m name=g at G |-;go_enter Tryz.func42,Tryz.ntmps42
 go_upto_region 1 with fail
 have R:Z4 w.heap.size w (((w.alloc (.cells #[.iface 56 (.pointer (Z9 ⟨p,0,Z7⟩))] 115)).alloc (.cells #[.string name] 9)).alloc (.cells (zlit 0 ⟨#[]⟩) 29)):=by exact aB
 have I:(((w.alloc (.cells #[.iface 56 (.pointer (Z9 ⟨p,0,Z7⟩))] 115)).alloc (.cells #[.string name] 9)).alloc (.cells (zlit 0 ⟨#[]⟩) 29)).cell? ⟨w.heap.size,0,Z7⟩=Z9 (.iface 56 (.pointer (Z9 ⟨p,0,Z7⟩))):=by
  rw[ZU (a:=⟨w.heap.size,0,Z7⟩) ((Zl ((w.alloc _).alloc _) _ (by simp;omega)).trans (Zl (w.alloc _) _ (by simp))),YH _ w.heap.size 0 _ 115 (0,0) (Zu w _)];rfl
 have J:(((w.alloc (.cells #[.iface 56 (.pointer (Z9 ⟨p,0,Z7⟩))] 115)).alloc (.cells #[.string name] 9)).alloc (.cells (zlit 0 ⟨#[]⟩) 29)).cell? ⟨w.heap.size+1,0,Z7⟩=Z9 (.string name):=by
  have e:=YH _ _ 0 _ 9 (0,0) (Zu (w.alloc (.cells #[.iface 56 (.pointer (Z9 ⟨p,0,Z7⟩))] 115)) (.cells #[.string name] 9));rw[X2] at e;rw[ZU (a:=⟨w.heap.size+1,0,Z7⟩) (Zl ((w.alloc _).alloc _) _ (by simp)),e];rfl
 have X:Held (((w.alloc (.cells #[.iface 56 (.pointer (Z9 ⟨p,0,Z7⟩))] 115)).alloc (.cells #[.string name] 9)).alloc (.cells (zlit 0 ⟨#[]⟩) 29)) (w.heap.size+1+1) 33:=by
  have e:=cG ((w.alloc (.cells #[.iface 56 (.pointer (Z9 ⟨p,0,Z7⟩))] 115)).alloc (.cells #[.string name] 9)) 29;rw[X2,X2] at e;exact e
 have sz:(((w.alloc (.cells #[.iface 56 (.pointer (Z9 ⟨p,0,Z7⟩))] 115)).alloc (.cells #[.string name] 9)).alloc (.cells (zlit 0 ⟨#[]⟩) 29)).heap.size=w.heap.size+1+1+1:=by simp
 unfold zlit at R I J X sz;generalize Wc (Wc (Wc w _) _) _=W1 at R I J X sz |-;have a3:(Z9 p:Zm Nat)≠Z9 (w.heap.size+1+1):=fun e=>by have:=ZL e;omega
 go_upto_region 2 with (go_at_call 110;(refine (G.o _ (HS.o.below R) I J).mono ?_);rintro _ j ⟨⟨f,gr,rfl,U,H,O,P⟩,Q,D⟩;have a6:=hZ g.1.1.1 f gr g.1.2.1 (aD U) (aE H);have a8:=kS g.1.1.1 f gr g.1.2.1;have S3:=lh Q;have G3:=lh D;have Y:=da j (.cells (fcells g.1.1.1 f gr g.1.2.1) 182) _ _ (X.grown D a3);have HI:=lh U;have a1:=lh H;have Z:=lh O;have a0:=lh P;have a5:=ay g.1.1.1 f gr (aD U) (aE H);have z3:W1.heap.size<=j.heap.size:=D.size;clear U H O P Q D)
 obtain⟨M0,M1⟩:=mid34 (j.alloc (.cells (fcells g.1.1.1 f gr g.1.2.1) 182)) g.1.1.1 f gr g.1.2.1 j.heap.size (ak j _ _ _);have E:(mid (j.alloc (.cells (fcells g.1.1.1 f gr g.1.2.1) 182)) j.heap.size 0).size=33:=by rw[M0];exact ah _ _ _
 refine wp_region_held_drew (S:=fun w'=>(mid w' j.heap.size 0).size=33/\mid w' j.heap.size 0=g.1.1.1.vals f gr/\w'.cell? ⟨j.heap.size,33,Z7⟩=Z9 (.int .i64 g.1.2.1)/\Held w' (w.heap.size+1+1) 33) (by kernel_rfl) ?_ (fun hHeld=>?_)
 .exact⟨E,M0,M1,Y⟩
 (refine rgy (i:=0) (Z9 16) ?_;(try simp only[Act.put,pz]))
 refine eq (i:=1) (Z9 17) (v:=.agg (g.1.1.1.vals f gr)) rfl rfl (by kernel_rfl) (by kernel_rfl) (by kernel_rfl) (fun _ _ _ h=>h) (by kernel_rfl) (fun w' F=>?_) (by assumption) ?_
 .refine (fb _ w' _ _ _ _ _ _ (by rfl) (by exact F.1)).trans ?_
  show Result.ok (Next.value (.agg (mid w' j.heap.size 0))) w'=_
  rw[F.2.1]
 try simp only[Act.put,List.setIfInBounds_toArray,List.set_cons_zero,List.set_cons_succ]
 (refine rgy (i:=2) (Z9 18) ?_;(try simp only[Act.put,pz]))
 (refine rgy (i:=3) (Z9 19) ?_;(try simp only[Act.put,pz]))
 (refine rgy (i:=4) (Z9 20) ?_;(try simp only[Act.put,pz]))
 have K:Held (j.alloc (.cells (fcells g.1.1.1 f gr g.1.2.1) 182)).drew (w.heap.size+1+1) 33:=Y;obtain⟨o,y⟩:∃ o,(j.alloc (.cells (fcells g.1.1.1 f gr g.1.2.1) 182)).drew=o:=⟨_,rfl⟩;rw[y] at K hHeld |-;have T:Z4 j.heap.size j o:=by rw[<-y];exact Below.drew (aj _ _)
 have z2:o.heap.size=j.heap.size+1:=by rw[<-y];simp
 clear y
 have L:(mid (o.setRow (w.heap.size+1+1) (g.1.1.1.vals f gr)) j.heap.size 0).size=33/\mid (o.setRow (w.heap.size+1+1) (g.1.1.1.vals f gr)) j.heap.size 0=g.1.1.1.vals f gr/\(o.setRow (w.heap.size+1+1) (g.1.1.1.vals f gr)).cell? ⟨j.heap.size,33,Z7⟩=Z9 (.int .i64 g.1.2.1)/\Held (o.setRow (w.heap.size+1+1) (g.1.1.1.vals f gr)) (w.heap.size+1+1) 33:=by
  have e:mid (o.setRow (w.heap.size+1+1) (g.1.1.1.vals f gr)) j.heap.size 0=mid o j.heap.size 0:=by
   unfold mid row;rw[cP _ _ _ _ (by omega)]
  exact⟨by rw[e];exact hHeld.1,e.trans hHeld.2.1,(ZU (a:=⟨j.heap.size,33,Z7⟩) (cP _ _ _ _ (by show j.heap.size≠_;omega))).trans hHeld.2.2.1,K.set _ (fun _=>ah _ _ _)⟩
 refine lS (i:=5) Z7 (o.setRow (w.heap.size+1+1) (g.1.1.1.vals f gr)) rfl rfl (by kernel_rfl) (by kernel_rfl) (bq _ _ _ _ _ _ _ _ _ (by rfl) (by exact K) (by rfl) (ah _ _ _) a5) L ?_
 try simp only[Act.put]
 (refine rgy (i:=6) (Z9 5) ?_;(try simp only[Act.put,pz]))
 (refine rgy (i:=7) (Z9 6) ?_;(try simp only[Act.put,pz]))
 refine wpAnyH_done (by kernel_rfl) ?_ _
 clear hHeld L M0 M1 E Y;go_wp2_with fail
 refine ZA (yt (n:=32) rfl Tryz.underlying29 rfl (by kernel_rfl) _ _ (w.heap.size+1+1) rfl (dF K (ah _ _ _))) rfl ?_
 have V:Z4 w.heap.size o (o.setRow (w.heap.size+1+1) (g.1.1.1.vals f gr)):=Zy (ZR _ _) (by omega) _;have hG:w.grownBy o (Z9 p):=bx (aJ (bo _ R) G3.o) (T.mono (by omega));exact⟨(En3.put (x:=g.1.1) K (HI.o.below T) (a1.o.below T) (fun q hq=>by have:=Z.o q hq;omega) (fun q hq=>by have:=a0.o q hq;omega)).le (by omega),(S3.o.below T).belowB V a4 (fun h b V=>jw HS.o.r h b V),bx hG V⟩
end
end Go.Proofs.YtnkjliahpeebjaaGreatDoor
