/- Catalogs. -/
import Derived.Test.YtnkjliahpeebjaaGreatDoorRem
set_option maxRecDepth 8000
set_option maxHeartbeats 16000000
open Option renaming some->Z9,none->Z7
open Go.Proofs.Tryz renaming prog->Z8
open _root_ renaming ByteArray->Z6,List->Z3,if_neg->ZX,if_pos->ZT,beq_eq_false_iff_ne->ZS,UInt8->ZP,decide_eq_true->ZO,decide_eq_false->ZN,Bool->Zk,bne_iff_ne->Zi,beq_iff_eq->Zb
open Go.Proofs.YtnkjliahpeebjaaGreatDoor.Ds renaming bl->Z5,bl_length->Z0,name->Y3
open Go.RowKit renaming Below->Z4
open Bool renaming false->Z2,true->ZZ
open Go renaming Value->Z1,World->ZY,Calls->ZJ
open Nat renaming le_refl->ZV,le_trans->ZE
open Go.World renaming cell?_of_block->ZU,size_alloc->X2
open Option.some renaming inj->ZL
open UInt8 renaming lt_iff_toNat_lt->YU
namespace Go.Proofs.YtnkjliahpeebjaaGreatDoor
open Go.RowKit
variable(g i p:Nat)(sv:Z1){W' W:ZY}(l:Z3 Rw)(fl cd:Int){u v:Z1}{h bt bp:Nat}(j id kind:Int)(name pre d:Z6)(w0 w:ZY){c c':Int}{s:Zk}
section
set_option linter.unusedSimpArgs false
def eK(l:Z3 Rw)(fl cd j:Int)(name:Z6)(D:Int->Int->(Z3 Ch × Int) × Int):(Z3 Ch × Int) × Int :=
 if (dJ l fl cd j name).1.2≠0 then (([],(dJ l fl cd j name).1.2),(dJ l fl cd j name).2) else D (dJ l fl cd j name).1.1 (dJ l fl cd j name).2
def iq(l:Z3 Rw)(fl cd j kind:Int)(name:Z6)(D:Int->Int->(Z3 Ch × Int) × Int):(Z3 Ch × Int) × Int :=
 if kind=4 then D 1 j else eK l fl cd j name D
def kB(l:Z3 Rw)(fl cd j:Int)(x:Fu):(Z3 Ch × Int) × Int :=
 if aA x=ZZ/\x.1.kind≠3 then iq l fl cd j x.1.kind x.1.name (fun id c=>iJ l fl cd c id x) else (([],1),j)
def nA(l:Z3 Rw)(fl cd j:Int)(x:Fu):(Z3 Ch × Int) × Int :=
 if aA x=ZZ/\x.1.kind≠3 then iq l fl cd j x.1.kind x.1.name (fun id c=>iM l fl cd c id x) else (([],1),j)
def kD(l:Z3 Rw)(fl cd j kind:Int)(name:Z6):(Z3 Ch × Int) × Int :=
 if kind<0\/4<kind\/kind=3 then (([],1),j) else iq l fl cd j kind name (fun id c=>iL l fl cd c id kind name)
def kE(l:Z3 Rw)(fl cd j:Int)(name d:Z6):(Z3 Ch × Int) × Int :=
 if Y3 (Z5 name)=Z2\/Y3 (Z5 d)=Z2 then (([],1),j)
 else eK l fl cd j name (fun id c=>eK l fl cd c d (fun I C=>if id≠I then (([],9),C) else gC l fl cd C id name d))
theorem np(x:g=121\/g=65\/g=123\/g=125\/g=126\/g=86)(A:Array Z1)(p:Nat)(sv:Z1)(l:Z3 Rw)(fl cd j:Int)(name:Z6)(D:Int->Int->(Z3 Ch × Int) × Int)(w0 w:ZY)(L:MaxL w0)(T:Tab w0)(B:SHs w0 w p sv l fl cd j)(q:0<=j)(K:j<=70000)(t:cd≠0/\cd≠6\/fl<=0)(o:∀ id c W,SHs w0 W p sv l fl cd c->w.grownBy W (Z9 p)->j<=c->c<=j+2->ZJ Z8 g (#[.int .i64 id]++A) W fun r y=>dm w0 W y p sv l fl cd (D id c) r) :
 ZJ Z8 85 #[.iface 56 (.pointer (Z9 ⟨p,0,Z7⟩)),.string name,.func (.func g) #[] A] w fun r y=>dm w0 w y p sv l fl cd (eK l fl cd j name D) r:=by
 have e:=oJ p sv l fl cd j name w0 w L T B q (by omega) t;have b:=sD l fl cd j name;unfold eK;generalize dJ l fl cd j name=J at e b |-;obtain⟨⟨id,C⟩,c⟩:=J;dsimp only at e b |-;have f:=lh e;clear e B;by_cases k:C=0
 rotate_left
 .rw[ZT k];have P:(C != 0)=ZZ:=Zi.2 k;clear k o;go_enter Tryz.func85,Tryz.ntmps85
  go_wp2_with (go_at_call 34;(refine f.o.mono ?_);rintro _ N ⟨rfl,a,H⟩;have S:=lh a;have G:=lh H;clear a H)
  go_ret2
  exact⟨_,rfl,bu _,S.o,G.o⟩
 rw[ZX (fun h=>h k)];subst k;have z:=lh (fun W a x=>o id c W a x b.1 b.2);generalize D id c=d at z |-;clear o;rcases x with rfl|rfl|rfl|rfl|rfl|rfl
 all_goals
  go_enter Tryz.func85,Tryz.ntmps85
  go_wp2_with first|go_at_call 34;(refine f.o.mono ?_);rintro _ N ⟨rfl,a,H⟩;have S:=lh a;have G:=lh H;clear a H|(first|go_at_call 121|go_at_call 65|go_at_call 123|go_at_call 125|go_at_call 126|go_at_call 86);(refine (z.o _ S.o G.o).mono ?_);rintro _ Q ⟨O,rfl,m,a,n⟩;have I:=lh a;have F:=lh n;have E:=lh m;clear a n m
  go_ret2
  exact⟨_,rfl,E.o,I.o,aJ G.o F.o⟩
theorem pn(t:g=121\/g=65\/g=123)(m:Array Z1)(p:Nat)(sv:Z1)(l:Z3 Rw)(fl cd j kind:Int)(name:Z6)(D:Int->Int->(Z3 Ch × Int) × Int)(w0 w:ZY)(z:MaxL w0)(T:Tab w0)(S:SHs w0 w p sv l fl cd j)(n:0<=j)(o:j<=70000)(q:cd≠0/\cd≠6\/fl<=0)(e:∀ id c W,SHs w0 W p sv l fl cd c->w.grownBy W (Z9 p)->j<=c->c<=j+2->ZJ Z8 g (#[.int .i64 id]++m) W fun r x=>dm w0 W x p sv l fl cd (D id c) r) :
 ZJ Z8 64 #[.iface 56 (.pointer (Z9 ⟨p,0,Z7⟩)),.int .i64 kind,.string name,.func (.func g) #[] m] w fun r x=>dm w0 w x p sv l fl cd (iq l fl cd j kind name D) r:=by
 unfold iq;by_cases k:kind=4
 .rw[ZT k];have y:=lh (e 1 j w S (World.grownBy.refl _ _) (Int.le_refl _) (by omega));generalize D 1 j=d at y |-;have A:(kind==4)=ZZ:=Zb.2 k;clear e S k;rcases t with rfl|rfl|rfl
  all_goals
   go_enter Tryz.func64,Tryz.ntmps64
   go_wp2_with ((first|go_at_call 121|go_at_call 65|go_at_call 123);(refine y.o.mono ?_);rintro _ B ⟨O,rfl,H,b,a⟩;have f:=lh b;have G:=lh a;have C:=lh H;clear b a H)
   go_ret2
   exact⟨_,rfl,C.o,f.o,G.o⟩
 .rw[ZX k];have N:=lh (np g (by rcases t with h|h|h;exact .inl h;exact .inr (.inl h);exact .inr (.inr (.inl h))) m p sv l fl cd j name D w0 w z T S n o q e);generalize eK l fl cd j name D=d at N |-;have A:(kind==4)=Z2:=ZS.2 k;clear e S k t;go_enter Tryz.func64,Tryz.ntmps64
  go_wp2_with (go_at_call 85;(refine N.o.mono ?_);rintro _ B ⟨O,rfl,H,b,a⟩;have f:=lh b;have G:=lh a;have C:=lh H;clear b a H)
  go_ret2
  exact⟨_,rfl,C.o,f.o,G.o⟩
end
section
set_option linter.unusedSimpArgs false
attribute [local go_sem ↓] aZ bf bq cl eX
attribute [local go_sem] bn aS aH bE bH aK aT ak aI aw az aM ah aQ aL aP aO aR aY aW bD ap aq
structure MdB (w0 W:ZY) (h p:Nat) (x:Fu) (al gr:Z1):Prop where
 r:W.cell? ⟨h,0,Z7⟩=Z9 (.iface 56 (.pointer (Z9 ⟨p,0,Z7⟩)))
 e:row W (h+1)=x.1.vals al gr
 z:h+2<=W.heap.size
 I:IS W al x.2.1
 G:GS W gr x.2.2
theorem MdB.grown{w0:ZY}{p:Nat}{x:Fu}{A f:Z1}(H:MdB w0 W h p x A f)(k:p<h)(b:W.grownBy W' (Z9 p))(o:0<x.2.1.length->∀ q,A.ownBlock=Z9 q->q≠p)(O:0<x.2.2.length->∀ q,f.ownBlock=Z9 q->q≠p):MdB w0 W' h p x A f:=by
 have z:=H.z;exact⟨(ZU (a:=⟨h,0,Z7⟩) (b.block h (by omega) (fun e=>by have:=ZL e;omega))).trans H.r,dP H.e (by rw[ah];decide) b (by omega),ZE z b.size,kZ H.I b o,kY H.G b O⟩
theorem DY(h:Nat)(sv:Z1)(l:Z3 Rw)(fl cd j id:Int)(x:Fu)(A f:Z1)(w0 w:ZY)(F:MaxL w0)(T:Tab w0)(S:SHs w0 w p sv l fl cd j)(m:0<=j)(n:j<=80000)(o:cd≠0/\cd≠6\/fl<=0)(z:x.1.name.size<=1000)(H:MdB w0 w h p x A f)(O:0<x.2.1.length->∀ q,A.ownBlock=Z9 q->q≠p)(B:0<x.2.2.length->∀ q,f.ownBlock=Z9 q->q≠p) :
 ZJ Z8 121 #[.int .i64 id,.pointer (Z9 ⟨h,0,Z7⟩),.pointer (Z9 ⟨h+1,0,Z7⟩)] w fun r J=>dm w0 w J p sv l fl cd (iJ l fl cd j id x) r:=by
 have k:=EX p sv l fl cd j id x A f w0 w F T S m n o z H.I H.G O B;generalize iJ l fl cd j id x=g at k |-;have C:=lh k;have K:=H.r;have L:=H.e;clear k S H O B;go_enter Tryz.func121,Tryz.ntmps121
 go_wp2_with (go_at_call 122;(refine C.o.mono ?_);rintro _ P ⟨N,rfl,a,y,t⟩;have b:=lh a;have E:=lh y;have D:=lh t;clear y t a)
 go_ret2
 exact⟨_,rfl,b.o,E.o,D.o⟩
theorem D9(h:Nat)(sv:Z1)(l:Z3 Rw)(fl cd j id:Int)(x:Fu)(A f:Z1)(w0 w:ZY)(F:MaxL w0)(T:Tab w0)(S:SHs w0 w p sv l fl cd j)(m:0<=j)(n:j<=80000)(o:cd≠0/\cd≠6\/fl<=0)(z:x.1.name.size<=1000)(H:MdB w0 w h p x A f)(O:0<x.2.1.length->∀ q,A.ownBlock=Z9 q->q≠p)(B:0<x.2.2.length->∀ q,f.ownBlock=Z9 q->q≠p) :
 ZJ Z8 65 #[.int .i64 id,.pointer (Z9 ⟨h,0,Z7⟩),.pointer (Z9 ⟨h+1,0,Z7⟩)] w fun r J=>dm w0 w J p sv l fl cd (iM l fl cd j id x) r:=by
 have k:=yW p sv l fl cd j id x A f w0 w F T S m n o z H.I H.G O B;generalize iM l fl cd j id x=g at k |-;have C:=lh k;have K:=H.r;have L:=H.e;clear k S H O B;go_enter Tryz.func65,Tryz.ntmps65
 go_wp2_with (go_at_call 66;(refine C.o.mono ?_);rintro _ P ⟨N,rfl,a,y,t⟩;have b:=lh a;have E:=lh y;have D:=lh t;clear y t a)
 go_ret2
 exact⟨_,rfl,b.o,E.o,D.o⟩
theorem uI(p:Nat)(x:Fu)(a G:Z1)(w0:ZY)(I:IS w a x.2.1)(H:GS w G x.2.2):MdB w0 ((w.alloc (.cells #[.iface 56 (.pointer (Z9 ⟨p,0,Z7⟩))] 115)).alloc (.cells (x.1.vals a G) 29)) w.heap.size p x a G:=by
 have b:Z4 w.heap.size w ((w.alloc (.cells #[.iface 56 (.pointer (Z9 ⟨p,0,Z7⟩))] 115)).alloc (.cells (x.1.vals a G) 29)):=by exact aB
 refine⟨by simp [go_sem],?_,by simp,I.below b,H.below b⟩
 have h:=ak (w.alloc (.cells #[.iface 56 (.pointer (Z9 ⟨p,0,Z7⟩))] 115)) (x.1.vals a G) 29 (0,0);rw[X2] at h;exact h
theorem MdB.below{w0:ZY}{p:Nat}{x:Fu}{A f:Z1}(H:MdB w0 W h p x A f)(b:Z4 W.heap.size W W'):MdB w0 W' h p x A f:=by
 have z:=H.z;exact⟨(ZU (a:=⟨h,0,Z7⟩) (b.block h (by omega))).trans H.r,am b H.e (by rw[ah];decide),ZE z b.size,H.I.below b,H.G.below b⟩
theorem As(x:Fu)(a G:Z1)(w0 w:ZY)(P:MaxL w0)(T:Tab w0)(L:SHs w0 w p sv l fl cd j)(N:0<=j)(O:j<=70000)(z:cd≠0/\cd≠6\/fl<=0)(E:x.1.name.size<=1000)(I:IS w a x.2.1)(k:GS w G x.2.2)(R:0<x.2.1.length->∀ q,a.ownBlock=Z9 q->q≠p)(U:0<x.2.2.length->∀ q,G.ownBlock=Z9 q->q≠p) :
 ZJ Z8 55 #[.iface 56 (.pointer (Z9 ⟨p,0,Z7⟩)),.agg (x.1.vals a G)] w fun r V=>dm w0 w V p sv l fl cd (kB l fl cd j x) r:=by
 have a1:=ay x.1 a G (aD I) (aE k);have Q:=L.pl;have S:=lh L;have Y:=fun W (Z:Z4 w0.heap.size w0 W) (b:Z4 w.heap.size w W)=>lN x.1 a G x.2.1 x.2.2 W (P.below Z) (T.below Z) E (I.below b) (k.below b)
 have f:=uI w p x a G w0 I k;have m:=lh (show Z4 w.heap.size w ((w.alloc (.cells #[.iface 56 (.pointer (Z9 ⟨p,0,Z7⟩))] 115)).alloc (.cells (x.1.vals a G) 29)) by exact aB);have K:=lh f;have c0:=f.r;have C:=f.e;have n0:=ae C 0 _ (ap _ _ _);have n1:=ae C 1 _ (aq _ _ _);have X:=lh (fun W (J:SHs w0 W p sv l fl cd j) (y:MdB w0 W w.heap.size p x a G)=>pn 121 (.inl rfl) #[.pointer (Z9 ⟨w.heap.size,0,Z7⟩),.pointer (Z9 ⟨w.heap.size+1,0,Z7⟩)] p sv l fl cd j x.1.kind x.1.name (fun id c=>iJ l fl cd c id x) w0 W P T J N O z (fun id c W2 h2 g2 q1 q2=>DY p w.heap.size sv l fl cd c id x a G w0 W2 P T h2 (by omega) (by omega) z E (y.grown Q g2 R U) R U));unfold kB;have H:∀ W,Z4 w0.heap.size w0 W->Z4 w.heap.size w W->ZJ Z8 63 #[.agg (x.1.vals a G)] W fun r V=>r=.returned (.bool (aA x))/\Z4 W.heap.size W V:=Y
 clear Y L I k R U f;cases D:aA x
 rw[ZX (by rintro ⟨h,-⟩;cases h)];rw[D] at H;have t:=lh H;clear H;rotate_left;rw[D] at H;have t:=lh H;clear H;by_cases o:x.1.kind=3
 rw[ZX (by rintro ⟨-,h⟩;exact h o)];have t1:(x.1.kind==3)=ZZ:=Zb.2 o;clear o;rotate_left;rw[ZT ⟨rfl,o⟩];have t1:(x.1.kind==3)=Z2:=ZS.2 o;generalize iq l fl cd j x.1.kind x.1.name (fun id c=>iJ l fl cd c id x)=g at X |-;clear o
 all_goals
  go_enter Tryz.func55,Tryz.ntmps55
  go_wp2_with first|go_at_call 63;(refine (t.o _ (S.o.below m.o).b m.o).mono ?_);rintro _ w2 ⟨rfl,y⟩;have n:=lh (K.o.below y);have c0:=n.o.r;have C:=n.o.e;have n0:=ae C 0 _ (ap _ _ _);have n1:=ae C 1 _ (aq _ _ _);have F:=lh (bt m.o y);clear y|go_at_call 64;(refine (X.o _ (S.o.below F.o) n.o).mono ?_);rintro _ w3 ⟨ov,rfl,A,J,B⟩;have S3:=lh J;have G3:=lh B;have C3:=lh A;clear J B A
  go_ret2
  first|exact⟨_,rfl,C3.o,S3.o,aJ (bo _ F.o) G3.o⟩|exact⟨_,rfl,bu _,S.o.below F.o,bo _ F.o⟩
theorem Av(x:Fu)(a G:Z1)(w0 w:ZY)(P:MaxL w0)(T:Tab w0)(L:SHs w0 w p sv l fl cd j)(N:0<=j)(O:j<=70000)(z:cd≠0/\cd≠6\/fl<=0)(E:x.1.name.size<=1000)(I:IS w a x.2.1)(k:GS w G x.2.2)(R:0<x.2.1.length->∀ q,a.ownBlock=Z9 q->q≠p)(U:0<x.2.2.length->∀ q,G.ownBlock=Z9 q->q≠p) :
 ZJ Z8 23 #[.iface 56 (.pointer (Z9 ⟨p,0,Z7⟩)),.agg (x.1.vals a G)] w fun r V=>dm w0 w V p sv l fl cd (nA l fl cd j x) r:=by
 have a1:=ay x.1 a G (aD I) (aE k);have Q:=L.pl;have S:=lh L;have Y:=fun W (Z:Z4 w0.heap.size w0 W) (b:Z4 w.heap.size w W)=>lN x.1 a G x.2.1 x.2.2 W (P.below Z) (T.below Z) E (I.below b) (k.below b)
 have f:=uI w p x a G w0 I k;have m:=lh (show Z4 w.heap.size w ((w.alloc (.cells #[.iface 56 (.pointer (Z9 ⟨p,0,Z7⟩))] 115)).alloc (.cells (x.1.vals a G) 29)) by exact aB);have K:=lh f;have c0:=f.r;have C:=f.e;have n0:=ae C 0 _ (ap _ _ _);have n1:=ae C 1 _ (aq _ _ _);have X:=lh (fun W (J:SHs w0 W p sv l fl cd j) (y:MdB w0 W w.heap.size p x a G)=>pn 65 (.inr (.inl rfl)) #[.pointer (Z9 ⟨w.heap.size,0,Z7⟩),.pointer (Z9 ⟨w.heap.size+1,0,Z7⟩)] p sv l fl cd j x.1.kind x.1.name (fun id c=>iM l fl cd c id x) w0 W P T J N O z (fun id c W2 h2 g2 q1 q2=>D9 p w.heap.size sv l fl cd c id x a G w0 W2 P T h2 (by omega) (by omega) z E (y.grown Q g2 R U) R U));unfold nA;have H:∀ W,Z4 w0.heap.size w0 W->Z4 w.heap.size w W->ZJ Z8 63 #[.agg (x.1.vals a G)] W fun r V=>r=.returned (.bool (aA x))/\Z4 W.heap.size W V:=Y
 clear Y L I k R U f;cases D:aA x
 rw[ZX (by rintro ⟨h,-⟩;cases h)];rw[D] at H;have t:=lh H;clear H;rotate_left;rw[D] at H;have t:=lh H;clear H;by_cases o:x.1.kind=3
 rw[ZX (by rintro ⟨-,h⟩;exact h o)];have t1:(x.1.kind==3)=ZZ:=Zb.2 o;clear o;rotate_left;rw[ZT ⟨rfl,o⟩];have t1:(x.1.kind==3)=Z2:=ZS.2 o;generalize iq l fl cd j x.1.kind x.1.name (fun id c=>iM l fl cd c id x)=g at X |-;clear o
 all_goals
  go_enter Tryz.func23,Tryz.ntmps23
  go_wp2_with first|go_at_call 63;(refine (t.o _ (S.o.below m.o).b m.o).mono ?_);rintro _ w2 ⟨rfl,y⟩;have n:=lh (K.o.below y);have c0:=n.o.r;have C:=n.o.e;have n0:=ae C 0 _ (ap _ _ _);have n1:=ae C 1 _ (aq _ _ _);have F:=lh (bt m.o y);clear y|go_at_call 64;(refine (X.o _ (S.o.below F.o) n.o).mono ?_);rintro _ w3 ⟨ov,rfl,A,J,B⟩;have S3:=lh J;have G3:=lh B;have C3:=lh A;clear J B A
  go_ret2
  first|exact⟨_,rfl,C3.o,S3.o,aJ (bo _ F.o) G3.o⟩|exact⟨_,rfl,bu _,S.o.below F.o,bo _ F.o⟩
structure MrB (W:ZY) (h p:Nat) (u v:Z1):Prop where
 r:W.cell? ⟨h,0,Z7⟩=Z9 (.iface 56 (.pointer (Z9 ⟨p,0,Z7⟩)))
 u:W.cell? ⟨h+1,0,Z7⟩=Z9 u
 v:W.cell? ⟨h+2,0,Z7⟩=Z9 v
 z:h+3<=W.heap.size
theorem MrB.grown{p:Nat}(H:MrB W h p u v)(m:p<h)(b:W.grownBy W' (Z9 p)):MrB W' h p u v:=by
 have z:=H.z;have e:=fun k (f:k<W.heap.size) (n:p<k)=>b.block k f (fun e=>by have:=ZL e;omega)
 exact⟨(ZU (a:=⟨h,0,Z7⟩) (e h (by omega) m)).trans H.r,(ZU (a:=⟨h+1,0,Z7⟩) (e (h+1) (by omega) (by omega))).trans H.u,(ZU (a:=⟨h+2,0,Z7⟩) (e (h+2) (by omega) (by omega))).trans H.v,ZE z b.size⟩
theorem MrB.below{p:Nat}(H:MrB W h p u v)(b:Z4 W.heap.size W W'):MrB W' h p u v:=by
 have z:=H.z;exact⟨(ZU (a:=⟨h,0,Z7⟩) (b.block h (by omega))).trans H.r,(ZU (a:=⟨h+1,0,Z7⟩) (b.block (h+1) (by omega))).trans H.u,(ZU (a:=⟨h+2,0,Z7⟩) (b.block (h+2) (by omega))).trans H.v,ZE z b.size⟩
theorem DZ(h:Nat)(sv:Z1)(l:Z3 Rw)(fl cd j id kind:Int)(name:Z6)(w0 w:ZY)(A:MaxL w0)(T:Tab w0)(S:SHs w0 w p sv l fl cd j)(o:∀ b,sv.ownBlock=Z9 b->b<w.heap.size)(y:l.length<=1000)(z:∀ x∈l,x.2.1.size<=1000)(f:0<=j)(k:j<=80000)(m:cd≠0/\cd≠6\/fl<=0)(B:MrB w h p (.int .i64 kind) (.string name)) :
 ZJ Z8 123 #[.int .i64 id,.pointer (Z9 ⟨h,0,Z7⟩),.pointer (Z9 ⟨h+1,0,Z7⟩),.pointer (Z9 ⟨h+2,0,Z7⟩)] w fun r D=>dm w0 w D p sv l fl cd (iL l fl cd j id kind name) r:=by
 have e:=zI p sv l fl cd j id kind name w0 w A T S o y z f k m;generalize iL l fl cd j id kind name=g at e |-;have C:=lh e;have E:=B.r;have F:=B.u;have I:=B.v;clear e S B o z;go_enter Tryz.func123,Tryz.ntmps123
 go_wp2_with (go_at_call 124;(refine C.o.mono ?_);rintro _ J ⟨O,rfl,H,q,n⟩;have a:=lh H;have t:=lh q;have G:=lh n;clear q n H)
 go_ret2
 exact⟨_,rfl,a.o,t.o,G.o⟩
theorem At(J:MaxL w0)(T:Tab w0)(S:SHs w0 w p sv l fl cd j)(A:∀ b,sv.ownBlock=Z9 b->b<w.heap.size)(Q:l.length<=1000)(z:∀ x∈l,x.2.1.size<=1000)(D:0<=j)(E:j<=70000)(q:cd≠0/\cd≠6\/fl<=0) :
 ZJ Z8 56 #[.iface 56 (.pointer (Z9 ⟨p,0,Z7⟩)),.int .i64 kind,.string name] w fun r X=>dm w0 w X p sv l fl cd (kD l fl cd j kind name) r:=by
 have F:=S.pl;have G:=lh S;have o:Z4 w.heap.size w (((w.alloc (.cells #[.iface 56 (.pointer (Z9 ⟨p,0,Z7⟩))] 115)).alloc (.cells #[.int .i64 kind] 3)).alloc (.cells #[.string name] 9)):=by exact aB
 have n:MrB (((w.alloc (.cells #[.iface 56 (.pointer (Z9 ⟨p,0,Z7⟩))] 115)).alloc (.cells #[.int .i64 kind] 3)).alloc (.cells #[.string name] 9)) w.heap.size p (.int .i64 kind) (.string name):=⟨by simp [go_sem],by simp [go_sem],by simp [go_sem],by simp⟩;have H:=lh o;have C:=lh n;have m:=lh (fun W (B:SHs w0 W p sv l fl cd j) (Y:w.heap.size<=W.heap.size) (P:MrB W w.heap.size p (.int .i64 kind) (.string name))=>pn 123 (.inr (.inr rfl)) #[.pointer (Z9 ⟨w.heap.size,0,Z7⟩),.pointer (Z9 ⟨w.heap.size+1,0,Z7⟩),.pointer (Z9 ⟨w.heap.size+2,0,Z7⟩)] p sv l fl cd j kind name (fun id c=>iL l fl cd c id kind name) w0 W J T B D E q (fun id c O a I q1 q2=>DZ p w.heap.size sv l fl cd c id kind name w0 O J T a (fun b e=>by have:=A b e;have:=I.size;omega) Q z (by omega) (by omega) q (P.grown F I)));unfold kD;clear S A z n o;by_cases f:kind<0
 rw[ZT (.inl f)];have R:decide (kind<0)=ZZ:=ZO f;clear f m;rotate_left;have R:decide (kind<0)=Z2:=ZN f;by_cases a:4<kind
 rw[ZT (.inr (.inl a))];have U:decide (4<kind)=ZZ:=ZO a;clear f a m;rotate_left;have U:decide (4<kind)=Z2:=ZN a;by_cases k:kind=3
 rw[ZT (.inr (.inr k))];have V:(kind==3)=ZZ:=Zb.2 k;clear f a k m;rotate_left;have V:(kind==3)=Z2:=ZS.2 k;rw[ZX (by rintro (h|h|h);exact f h;exact a h;exact k h)];generalize iq l fl cd j kind name (fun id c=>iL l fl cd c id kind name)=g at m |-;clear f a k
 all_goals
  go_enter Tryz.func56,Tryz.ntmps56
  go_wp2_with (go_at_call 64;(refine (m.o _ (G.o.below H.o) H.o.size C.o).mono ?_);rintro _ w3 ⟨Z,rfl,t,B,y⟩;have N:=lh B;have L:=lh y;have K:=lh t;clear B y t)
  go_ret2
  first|exact⟨_,rfl,K.o,N.o,aJ (bo _ H.o) L.o⟩|exact⟨_,rfl,bu _,G.o.below H.o,bo _ H.o⟩
theorem Bs(y h:Nat)(sv:Z1)(l:Z3 Rw)(fl cd j id I:Int)(name d:Z6)(w0 w:ZY)(F:MaxL w0)(T:Tab w0)(S:SHs w0 w p sv l fl cd j)(o:∀ b,sv.ownBlock=Z9 b->b<w.heap.size)(E:l.length<=1000)(m:0<=j)(n:j<=80000)(q:cd≠0/\cd≠6\/fl<=0)(t:name.size<=1000)(x:d.size<=1000)(B:MrB w h p (.string name) (.string d))(P:w.cell? ⟨y,0,Z7⟩=Z9 (.int .i64 id)) :
 ZJ Z8 126 #[.int .i64 I,.pointer (Z9 ⟨y,0,Z7⟩),.pointer (Z9 ⟨h,0,Z7⟩),.pointer (Z9 ⟨h+1,0,Z7⟩),.pointer (Z9 ⟨h+2,0,Z7⟩)] w fun r K=>dm w0 w K p sv l fl cd (if id≠I then (([],9),j) else gC l fl cd j id name d) r:=by
 have k:=zJ p sv l fl cd j id name d w0 w F T S o E m n q t x;generalize gC l fl cd j id name d=g at k |-;have C:=lh k;have D:=lh S;have L:=B.r;have N:=B.u;have O:=B.v;clear k S B o;by_cases H:id≠I
 .rw[ZT H];have J:(id != I)=ZZ:=Zi.2 H;clear H;go_enter Tryz.func126,Tryz.ntmps126
  go_wp2_with fail
  go_ret2
  exact⟨_,rfl,bu _,D.o,World.grownBy.refl _ _⟩
 .rw[ZX H];have J:(id != I)=Z2:=by simpa using H
  clear H;go_enter Tryz.func126,Tryz.ntmps126
  go_wp2_with (go_at_call 127;(refine C.o.mono ?_);rintro _ R ⟨Q,rfl,a,A,z⟩;have e:=lh a;have f:=lh A;have G:=lh z;clear A z a)
  go_ret2
  exact⟨_,rfl,e.o,f.o,G.o⟩
theorem D8(h:Nat)(sv:Z1)(l:Z3 Rw)(fl cd j id:Int)(name d:Z6)(w0 w:ZY)(J:MaxL w0)(T:Tab w0)(S:SHs w0 w p sv l fl cd j)(o:∀ b,sv.ownBlock=Z9 b->b<w.heap.size)(R:l.length<=1000)(z:0<=j)(A:j<=70000)(m:cd≠0/\cd≠6\/fl<=0)(B:name.size<=1000)(D:d.size<=1000)(U:p<h)(E:MrB w h p (.string name) (.string d)) :
 ZJ Z8 125 #[.int .i64 id,.pointer (Z9 ⟨h,0,Z7⟩),.pointer (Z9 ⟨h+2,0,Z7⟩),.pointer (Z9 ⟨h+1,0,Z7⟩)] w fun r Y=>dm w0 w Y p sv l fl cd (eK l fl cd j d (fun I C=>if id≠I then (([],9),C) else gC l fl cd C id name d)) r:=by
 have f:=aj w (.cells #[.int .i64 id] 3);have H:=E.below f;have k:=S.below f;have V:=k.pl;have X:=S.pl;have Q:(w.alloc (.cells #[.int .i64 id] 3)).cell? ⟨w.heap.size,0,Z7⟩=Z9 (.int .i64 id):=by simp [go_sem]
 have q:=lh f;have y:=np 126 (.inr (.inr (.inr (.inr (.inl rfl))))) #[.pointer (Z9 ⟨w.heap.size,0,Z7⟩),.pointer (Z9 ⟨h,0,Z7⟩),.pointer (Z9 ⟨h+1,0,Z7⟩),.pointer (Z9 ⟨h+2,0,Z7⟩)] p sv l fl cd j d (fun I C=>if id≠I then (([],9),C) else gC l fl cd C id name d) w0 _ J T k z A m (fun I C O P G q1 q2=>Bs p w.heap.size h sv l fl cd C id I name d w0 O J T P (fun b e=>by have:=o b e;have:=G.size;simp at this;omega) R (by omega) (by omega) m B D (H.grown U G) ((ZU (a:=⟨w.heap.size,0,Z7⟩) (G.block w.heap.size (by simp) (fun e=>by have:=ZL e;omega))).trans Q));generalize eK l fl cd j d (fun I C=>if id≠I then (([],9),C) else gC l fl cd C id name d)=g at y |-;have L:=lh y;have Z:=H.r;have c1:=H.u;have C:=H.v;clear y S E o H k f;go_enter Tryz.func125,Tryz.ntmps125
 go_wp2_with (go_at_call 85;(refine L.o.mono ?_);rintro _ w5 ⟨ov,rfl,n,K,F⟩;have t:=lh n;have x:=lh K;have N:=lh F;clear K F n)
 go_ret2
 exact⟨_,rfl,t.o,x.o,aJ (bo _ q.o) N.o⟩
theorem Au(L:MaxL w0)(V:Tab w0)(P:SHs w0 w p sv l fl cd j)(F:∀ b,sv.ownBlock=Z9 b->b<w.heap.size)(hl:l.length<=1000)(Q:0<=j)(a0:j<=60000)(z:cd≠0/\cd≠6\/fl<=0)(R:name.size<=1000)(T:d.size<=1000) :
 ZJ Z8 57 #[.iface 56 (.pointer (Z9 ⟨p,0,Z7⟩)),.string name,.string d] w fun r w'=>dm w0 w w' p sv l fl cd (kE l fl cd j name d) r:=by
 have E:=P.pl;have S:=lh P;have y:Z4 w.heap.size w (((w.alloc (.cells #[.iface 56 (.pointer (Z9 ⟨p,0,Z7⟩))] 115)).alloc (.cells #[.string name] 9)).alloc (.cells #[.string d] 9)):=by exact aB
 have x:MrB (((w.alloc (.cells #[.iface 56 (.pointer (Z9 ⟨p,0,Z7⟩))] 115)).alloc (.cells #[.string name] 9)).alloc (.cells #[.string d] 9)) w.heap.size p (.string name) (.string d):=⟨by simp [go_sem],by simp [go_sem],by simp [go_sem],by simp⟩;have o:=lh y;have O:=lh x;have J:=lh (fun W (N:SHs w0 W p sv l fl cd j) (hz:w.heap.size<=W.heap.size) (k:MrB W w.heap.size p (.string name) (.string d))=>np 125 (.inr (.inr (.inr (.inl rfl)))) #[.pointer (Z9 ⟨w.heap.size,0,Z7⟩),.pointer (Z9 ⟨w.heap.size+2,0,Z7⟩),.pointer (Z9 ⟨w.heap.size+1,0,Z7⟩)] p sv l fl cd j name (fun id c=>eK l fl cd c d (fun I C=>if id≠I then (([],9),C) else gC l fl cd C id name d)) w0 W L V N Q (by omega) z (fun id c W2 n U q1 q2=>D8 p w.heap.size sv l fl cd c id name d w0 W2 L V n (fun b e=>by have:=F b e;have:=U.size;omega) hl (by omega) (by omega) z R T E (k.grown E U)));have a:=fun W (b:Z4 w0.heap.size w0 W)=>ez name W (L.below b)
 have H:=fun W (b:Z4 w0.heap.size w0 W)=>ez d W (L.below b)
 unfold kE;clear P F x y;cases K:Y3 (Z5 name)
 rw[ZT (.inl rfl)];rw[K] at a;have m:=lh a;clear a H J K;rotate_left;rw[K] at a;have m:=lh a;clear a K;cases n:Y3 (Z5 d)
 rw[ZT (.inr rfl)];rw[n] at H;have t:=lh H;clear H J n;rotate_left;rw[n] at H;have t:=lh H;clear H n;rw[ZX (by rintro (h|h) <;> cases h)];generalize eK l fl cd j name (fun id c=>eK l fl cd c d (fun I C=>if id≠I then (([],9),C) else gC l fl cd C id name d))=g at J |-
 all_goals
  go_enter Tryz.func57,Tryz.ntmps57
  go_wp2_with first|go_at_call 32;(with_reducible refine (m.o _ (S.o.below o.o).b).mono ?_);rintro _ w2 ⟨rfl,k⟩;clear m;have q:=lh (O.o.below k);have C:=q.o.v;have G:=lh (bt o.o k);clear k|go_at_call 32;(with_reducible refine (t.o _ (S.o.below G.o).b).mono ?_);rintro _ w3 ⟨rfl,k⟩;have f:=lh (q.o.below k);have r3:=f.o.r;have u3:=f.o.u;have v3:=f.o.v;have B:=lh (bt G.o k);clear k|go_at_call 85;(refine (J.o _ (S.o.below B.o) B.o.size f.o).mono ?_);rintro _ w4 ⟨ov,rfl,A,N,D⟩;have Z:=lh N;have Y:=lh D;have X:=lh A;clear N D A
  go_ret2
  first|exact⟨_,rfl,X.o,Z.o,aJ (bo _ B.o) Y.o⟩|exact⟨_,rfl,bu _,S.o.below B.o,bo _ B.o⟩|exact⟨_,rfl,bu _,S.o.below G.o,bo _ G.o⟩
end
section
set_option linter.unusedSimpArgs false
def dy(s:Z6):Zk:=Y3 (Z5 s)&&decide ((Lib.countByte s.data.toList 46:Int)<2)
theorem sA(s:Z6)(w:ZY)(m:MaxL w):ZJ Z8 84 #[.string s] w fun r f=>r=.returned (.bool (dy s))/\Z4 w.heap.size w f:=by
 have H:=ez s w m;have a:=fun W=>Tryz.strings_Count_one s 46 W
 unfold dy;generalize (Lib.countByte s.data.toList 46:Int)=n at a |-;cases e:Y3 (Z5 s)
 .rw[e] at H;have V:=lh H;clear H a;go_enter Tryz.func84,Tryz.ntmps84
  go_wp2_with (go_at_call 32;(refine V.o.mono ?_);rintro _ k ⟨rfl,b⟩;have B:=lh b;clear b)
  go_ret
  exact⟨rfl,B.o⟩
 .rw[e] at H;have V:=lh H;have C:=lh a;clear H a;rw[Bool.true_and];go_enter Tryz.func84,Tryz.ntmps84
  go_wp2_with first|go_at_call 32;(refine V.o.mono ?_);rintro _ k ⟨rfl,b⟩;have B:=lh b;clear b|(go_at_call 170;(refine (C.o _).mono ?_);rintro _ _ ⟨rfl,rfl⟩)
  all_goals
   go_ret
   exact⟨by simp_all,B.o⟩
def dC(p:Z6)(n:Z6):Zk:=Y3 (Z5 n)&&(decide (n=p) || Lib.hasPrefix n.data.toList (p.data.toList++[46]))
def fO(p:Z6)(s:Zk)(k _r:Z6):Except Int Zk:=.ok (s || dC p (aN k))
def jT:Except Int (Zk × Int) × Int->(Zk × Int) × Int
 | (.ok (s,C),c')=>((s,C),c')
 | (.error e,c')=>((Z2,e),c')
def ee(l:Z3 Rw)(fl cd id:Int)(p:Z6)(L:ZP)(c:Int):(Zk × Int) × Int:=jT (bS l id fl cd L (fO p) (l.length+1) c [L - 1,255] Z2)
def ji(l:Z3 Rw)(fl cd id:Int)(p:Z6):Z3 ZP->Int->Int × Int
 | [],c=>(0,c)
 | L::a,c=>if (ee l fl cd id p L c).1.2≠0 then ((ee l fl cd id p L c).1.2,(ee l fl cd id p L c).2) else if (ee l fl cd id p L c).1.1=ZZ then (9,(ee l fl cd id p L c).2) else ji l fl cd id p a (ee l fl cd id p L c).2
def et(l:Z3 Rw)(fl cd j id:Int)(p:Z6):Int × Int:=ji l fl cd id p [68,71,65] j
theorem eM{w:ZY}{b o:Nat}{s:Option Nat}(h:w.cell? ⟨b,o,s⟩=Z9 v):b<w.heap.size:=block_lt_of_cell h
theorem FU(bp bt:Nat)(p:Z6)(s:Zk)(k r:Z6)(w:ZY)(R:MaxL w)(O:1<=k.size)(Q:k.size<=1000)(Y:p.size<=1000)(m:w.cell? ⟨bp,0,Z7⟩=Z9 (.string p))(C:w.cell? ⟨bt,0,Z7⟩=Z9 (.bool s))(A:w.frozen? ⟨bt,0,Z7⟩=Z2) :
 ZJ Z8 185 #[.string k,.string r,.pointer (Z9 ⟨bp,0,Z7⟩),.pointer (Z9 ⟨bt,0,Z7⟩)] w fun e y=>e=.returned (.int .i64 0)/\∃ J,Z4 w.heap.size w J/\(y=J/\dC p (aN k)=Z2\/y=J.setCell ⟨bt,0,Z7⟩ (.bool ZZ)/\dC p (aN k)=ZZ):=by
 have H:Z5 (k.extract 1 k.size)=(Z5 k).drop 1:=by
  unfold Z5;rw[ByteArray.data_extract,Array.toList_extract];simp [List.extract]
  exact List.take_of_length_le (by rw[List.length_tail,Array.length_toList];exact ZV _)
 have a:=oo (k.extract 1 k.size) w (by rw[<-Z0,H,List.length_drop,Z0];omega);rw[H] at a
 have E:(aN k).size<=1000:=by
  rw[<-Z0];unfold aN;rw[Ds.bl_mk];unfold Ek.trim;rw[List.length_take,List.length_drop,Z0];omega
 have q:Z5 (aN k)=Ek.trim ((Z5 k).drop 1):=Ds.bl_mk _;have D:ZJ Z8 75 #[.string (k.extract 1 k.size),.string ⟨#[32]⟩] w fun e y=>e=.returned (.string (aN k))/\y=w:=a.mono (by rintro _ y ⟨t,rfl,S,rfl⟩;exact⟨congrArg (fun t=>Ending.returned (Value.string t)) (Ds.bl_inj (S.trans q.symm)),rfl⟩)
 clear a H q;have b:=ez (aN k) w R;have I:(p++⟨#[46]⟩:Z6).data.toList=p.data.toList++[46]:=by simp
 have f:=fun W=>Tryz.strings_HasPrefix (aN k) (p++⟨#[46]⟩) W
 rw[I] at f;unfold dC;generalize aN k=N at D b f E |-;have U:(0:Int)<=1/\(1:Int)<=(k.size:Int):=by omega
 have X:(1:Int)<=(k.size:Int):=by omega
 have T:=lh D;clear D;cases L:Y3 (Z5 N)
 .rw[L] at b;have V:=lh b;clear b f;go_enter Tryz.func185,Tryz.ntmps185
  go_wp2_with first|(go_at_call 75;(refine T.o.mono ?_);rintro _ _ ⟨rfl,rfl⟩)|go_at_call 32;(refine V.o.mono ?_);rintro _ K ⟨rfl,H⟩;have B:=lh H;clear H
  go_ret
  exact⟨rfl,_,B.o,.inl ⟨rfl,rfl⟩⟩
 rw[L] at b;have V:=lh b;clear b;have x:=fd N p;by_cases z:N=p
 .rw[ZO z] at x |-;clear z f;go_enter Tryz.func185,Tryz.ntmps185
  go_wp2_with first|(go_at_call 75;(refine T.o.mono ?_);rintro _ _ ⟨rfl,rfl⟩)|go_at_call 32;(refine V.o.mono ?_);rintro _ K ⟨rfl,H⟩;have n:=(H.cell (p:=⟨bp,0,Z7⟩) (eM m)).trans m;have o:=(H.cell (p:=⟨bt,0,Z7⟩) (eM C)).trans C;have F:=(H.frozen (p:=⟨bt,0,Z7⟩) (eM C)).trans A;have B:=lh H;clear H
  go_ret
  exact⟨rfl,_,B.o,.inr ⟨rfl,rfl⟩⟩
 rw[ZN z] at x |-;clear z;generalize Lib.hasPrefix N.data.toList (p.data.toList++[46])=G at f |-;have P:=lh f;clear f;cases G
 .go_enter Tryz.func185,Tryz.ntmps185
  go_wp2_with first|(go_at_call 75;(refine T.o.mono ?_);rintro _ _ ⟨rfl,rfl⟩)|(go_at_call 186;(refine (P.o _).mono ?_);rintro _ _ ⟨rfl,rfl⟩)|go_at_call 32;(refine V.o.mono ?_);rintro _ K ⟨rfl,H⟩;have n:=(H.cell (p:=⟨bp,0,Z7⟩) (eM m)).trans m;have o:=(H.cell (p:=⟨bt,0,Z7⟩) (eM C)).trans C;have F:=(H.frozen (p:=⟨bt,0,Z7⟩) (eM C)).trans A;have B:=lh H;clear H
  go_ret
  exact⟨rfl,_,B.o,.inl ⟨rfl,rfl⟩⟩
 .go_enter Tryz.func185,Tryz.ntmps185
  go_wp2_with first|(go_at_call 75;(refine T.o.mono ?_);rintro _ _ ⟨rfl,rfl⟩)|(go_at_call 186;(refine (P.o _).mono ?_);rintro _ _ ⟨rfl,rfl⟩)|go_at_call 32;(refine V.o.mono ?_);rintro _ K ⟨rfl,H⟩;have n:=(H.cell (p:=⟨bp,0,Z7⟩) (eM m)).trans m;have o:=(H.cell (p:=⟨bt,0,Z7⟩) (eM C)).trans C;have F:=(H.frozen (p:=⟨bt,0,Z7⟩) (eM C)).trans A;have B:=lh H;clear H
  go_ret
  exact⟨rfl,_,B.o,.inr ⟨rfl,rfl⟩⟩
end
section
set_option linter.unusedSimpArgs false
structure UnJ (w0 wq W:ZY) (p bp bt:Nat) (pre:Z6) (sv:Z1) (l:Z3 Rw) (fl cd c:Int) (s:Zk):Prop where
 sh:SHs w0 W p sv l fl cd c
 g:wq.grownBy W (Z9 p)
 cp:W.cell? ⟨bp,0,Z7⟩=Z9 (.string pre)
 ct:W.cell? ⟨bt,0,Z7⟩=Z9 (.bool s)
 ft:W.frozen? ⟨bt,0,Z7⟩=Z2
 pb:bp≠p
 lt:p<wq.heap.size
 zb:wq.heap.size<=bt
 ne:bp≠bt
 z0:w0.heap.size<=wq.heap.size
 so:∀ b,sv.ownBlock=Z9 b->b<wq.heap.size
theorem UnJ.tick{w0 b:ZY}{p:Nat}{pre:Z6}{sv:Z1}{l:Z3 Rw}{fl cd:Int}(h:UnJ w0 b W p bp bt pre sv l fl cd c s)(H:W.grownBy W' (Z9 p))(n:SHs w0 W' p sv l fl cd c'):UnJ w0 b W' p bp bt pre sv l fl cd c' s:=by
 have e:∀ k,k≠p->k<W.heap.size->W'.heap[k]?=W.heap[k]?:=fun k f m=>H.block k m (fun e=>f (ZL e))
 have q:=h.lt;have z:=h.zb;exact⟨n,aJ h.g H,(ZU (a:=⟨bp,0,Z7⟩) (e bp h.pb (eM h.cp))).trans h.cp,(ZU (a:=⟨bt,0,Z7⟩) (e bt (by omega) (eM h.ct))).trans h.ct,(World.frozen?_of_block (a:=⟨bt,0,Z7⟩) (e bt (by omega) (eM h.ct))).trans h.ft,h.pb,h.lt,h.zb,h.ne,h.z0,h.so⟩
theorem UnJ.below{w0 q:ZY}{p:Nat}{pre:Z6}{sv:Z1}{l:Z3 Rw}{fl cd:Int}(h:UnJ w0 q W p bp bt pre sv l fl cd c s)(H:Z4 W.heap.size W W'):UnJ w0 q W' p bp bt pre sv l fl cd c s :=
 ⟨h.sh.below H,bx h.g (H.mono h.g.size),(H.cell (p:=⟨bp,0,Z7⟩) (eM h.cp)).trans h.cp,(H.cell (p:=⟨bt,0,Z7⟩) (eM h.ct)).trans h.ct,(H.frozen (p:=⟨bt,0,Z7⟩) (eM h.ct)).trans h.ft,h.pb,h.lt,h.zb,h.ne,h.z0,h.so⟩
theorem UnJ.set{w0 q:ZY}{p:Nat}{pre:Z6}{sv:Z1}{l:Z3 Rw}{fl cd:Int}(h:UnJ w0 q W p bp bt pre sv l fl cd c s):UnJ w0 q (W.setCell ⟨bt,0,Z7⟩ (.bool ZZ)) p bp bt pre sv l fl cd c ZZ:=by
 have H:=de W ⟨bt,0,Z7⟩ (.bool ZZ);have L:=h.lt;have Z:=h.zb;have z:=h.z0;have n:=h.ne;refine⟨h.sh.other H (by show p≠bt;omega) (by show _<=bt;omega) (fun b a=>by have:=h.so b a;show b≠bt;omega),bx h.g (gJ H (by show _<=bt;omega) h.g.size),?_,World.cell?_setCell_same' _ _ _ (by rw[h.ct];rfl),by rw[World.frozen?_setCell];exact h.ft,h.pb,h.lt,h.zb,h.ne,h.z0,h.so⟩
 rw[World.cell?_setCell_other _ _ _ _ (by intro e;exact n (congrArg Addr.block e).symm)];exact h.cp
theorem Im(bp bt:Nat)(pre:Z6)(sv:Z1)(l:Z3 Rw)(fl cd j id:Int)(L:ZP)(w0 V w:ZY)(hm:MaxL w0)(hw:IntKind.u8.wrap ((L.toNat:Int) - 1)=((L - 1).toNat:Int))(h0:UnJ w0 V w p bp bt pre sv l fl cd j Z2)(hl:l.length<=1000)(a4:∀ x∈l,x.2.1.size<=1000)(a5:pre.size<=1000)(a1:0<=j)(a6:j<=90000)(a3:cd≠0/\cd≠6\/fl<=0) :
 ZJ Z8 184 #[.iface 56 (.pointer (Z9 ⟨p,0,Z7⟩)),.int .i64 id,.int .u8 (L.toNat:Nat),.func (.func 185) #[] #[.pointer (Z9 ⟨bp,0,Z7⟩),.pointer (Z9 ⟨bt,0,Z7⟩)]] w fun r w' =>
  r=.returned (.int .i64 (ee l fl cd id pre L j).1.2)/\UnJ w0 V w' p bp bt pre sv l fl cd (ee l fl cd id pre L j).2 (ee l fl cd id pre L j).1.1:=by
 have O:cnt id [L - 1,255] l<l.length+1:=Nat.lt_succ_of_le (cnt_le _ _ _);unfold ee;generalize hR:bS l id fl cd L (fO pre) (l.length+1) j [L - 1,255] Z2=R;obtain⟨G,hG⟩:∃ G,jT R=G:=⟨_,rfl⟩;rw[hG];have Y:=lh hG;have HR:=lh hR;have Z:=lh O;have H0:=lh h0;have a8:=tu (L - 1) 255;clear hR O h0 hG;go_enter Tryz.func184,Tryz.ntmps184
 go_wp2_with fail
 have B0:Z4 w.heap.size w (w.alloc (.cells #[.int .u8 ((L - 1).toNat:Nat),.int .u8 255] 5)):=(Below.refl _ _).alloc (ZV _) _;go_loopw [9] (fun kv wr=>∃ (f:Nat) (c:Int) (k:Z6) (s:Zk),kv=.string k/\Hid (bS l id fl cd L (fO pre) f c (Z5 k) s=R)/\Hid (cnt id (Z5 k) l<f)/\0<=c/\c+f<=j+l.length+1/\Hid (UnJ w0 V wr p bp bt pre sv l fl cd c s)) (fun kv _=>cnt id (Z5 (xq kv)) l)
 case atStart=>exact⟨l.length+1,j,_,Z2,rfl,HR,Z,a1,by omega,lh (H0.o.below B0)⟩
 case round =>
  obtain⟨f,c,k,s,rfl,HP,HC,a2,a7,HJ⟩:=hrel;obtain⟨g,rfl⟩:∃ g,f=g+1:=⟨f - 1,by have:=HC.o;omega⟩;have H:=tK p sv l fl cd c id k w0 wr HJ.o.sh a2 (by omega);have a9:=sC ⟨p,0,Z7⟩;have e:=HP.o;unfold bS at e;by_cases C:c+1=fl
  .rw[ZT C] at e;have m:cd≠0/\cd≠6:=by rcases a3 with h|h;exact h;omega
   unfold jn at H;rw[ZT C] at H;have N:=lh H;have P:=lh e;have t1:(cd==6)=Z2:=by rw[ZS];exact m.2
   have t2:(cd==0)=Z2:=by rw[ZS];exact m.1
   have t3:(cd != 0)=ZZ:=by rw[Zi];exact m.1
   clear H e m C;go_wp2_with (go_at_call 371;(refine N.o.mono ?_);rintro _ U ⟨rfl,S,n⟩;have J:=lh (HJ.o.tick n S);clear S n)
   go_ret
   rw[<-Y.o,<-P.o];exact⟨rfl,J.o⟩
  rw[ZX C] at e;unfold jn at H;rw[ZX C] at H;clear C
  cases D:nx id (Z5 k) l with
  | none =>
    rw[D] at e H;have N:=lh H;have P:=lh e;clear H e D;go_wp2_with (go_at_call 371;(refine N.o.mono ?_);rintro _ U ⟨rfl,S,n⟩;have J:=lh (HJ.o.tick n S);clear S n)
    go_ret
    rw[<-Y.o,<-P.o];exact⟨rfl,J.o⟩
  | some x =>
    rw[D] at e H;obtain⟨y,-,t⟩:=mF D;have A:=p6 D;obtain⟨xi,X,xr⟩:=x;have T:=a4 _ y;clear y;simp only at e H t A T
    have o:1<=X.size:=by
     rcases Nat.eq_zero_or_pos X.size with h|h
     .have:Z5 X=[]:=List.eq_nil_of_length_eq_zero (by rw[Z0];exact h);rw[this,lG] at t;cases t
     .exact h
    have N:=lh H;have E:=lh A;have F:Hid (cnt id (Z5 X) l<g):=lh (by have:=HC.o;omega);have a0:X[0]'o=(Z5 X).headD 0:=oX X o;have g0:(0:Int)<=0/\(0:Int)<(X.size:Int):=by omega
    clear H D t A;generalize (Z5 X).headD 0=q at e a0;by_cases a:L<q
    .rw[ZT a] at e;have P:=lh e;have q1:((L.toNat:Nat):Int)<((q.toNat:Nat):Int):=Int.ofNat_lt.2 (YU.1 a);have q2:decide (((L.toNat:Nat):Int)<((q.toNat:Nat):Int))=ZZ:=ZO q1;have q3:L.toNat<q.toNat:=YU.1 a;have q4:decide (L.toNat<q.toNat)=ZZ:=ZO q3;clear e a;go_wp2_with (go_at_call 371;(refine N.o.mono ?_);rintro _ U ⟨rfl,S,n⟩;have J:=lh (HJ.o.tick n S);clear S n)
     go_ret
     rw[<-Y.o,<-P.o];exact⟨rfl,J.o⟩
    rw[ZX a] at e;by_cases B:q<L
    .rw[ZT B] at e;have P:=lh e;have q1:¬ ((L.toNat:Nat):Int)<((q.toNat:Nat):Int):=fun h=>a (YU.2 (Int.ofNat_lt.1 h))
     have q2:decide (((L.toNat:Nat):Int)<((q.toNat:Nat):Int))=Z2:=ZN q1;have q3:¬ L.toNat<q.toNat:=fun h=>a (YU.2 h)
     have q4:decide (L.toNat<q.toNat)=Z2:=ZN q3;have q5:¬ q.toNat=L.toNat:=by have:=YU.1 B;omega
     have q6:(((q.toNat:Nat):Int)==((L.toNat:Nat):Int))=Z2:=by rw[ZS];omega
     have q7:(q.toNat==L.toNat)=Z2:=by rw[ZS];omega
     clear e a B;go_wp2_with (go_at_call 371;(refine N.o.mono ?_);rintro _ U ⟨rfl,S,n⟩;have J:=lh (HJ.o.tick n S);clear S n)
     go_roundw
     case rel=>exact⟨g,c+1,X,s,rfl,P,F,by omega,by omega,J⟩
     case measure=>exact E.o
    rw[ZX B] at e
    obtain rfl:q=L:=by
     refine UInt8.toNat_inj.1 ?_
     have h1:¬ L.toNat<q.toNat:=fun h=>a (YU.2 h)
     have h2:¬ q.toNat<L.toNat:=fun h=>B (YU.2 h)
     omega
    have q2:decide (((q.toNat:Nat):Int)<((q.toNat:Nat):Int))=Z2:=ZN (by omega);have q4:decide (q.toNat<q.toNat)=Z2:=ZN (by omega);clear a B;have K:bS l id fl cd q (fO pre) g (c+1) (Z5 X) (s || dC pre (aN X))=R:=e;have P:=lh K;clear e K;have I:=lh (fun W (hb:Z4 w0.heap.size w0 W) cp ct ft=>FU bp bt pre s X xr W (hm.below hb) o T a5 cp ct ft);generalize dC pre (aN X)=un at P I
    go_wp2_with first|go_at_call 371;(refine N.o.mono ?_);rintro _ U ⟨rfl,S,n⟩;have J:=lh (HJ.o.tick n S);clear S n|go_at_call 185;(refine (I.o _ J.o.sh.b J.o.cp J.o.ct J.o.ft).mono ?_);rintro _ w3 ⟨rfl,w4,z,Q⟩;have J3:=lh (show UnJ w0 V w3 p bp bt pre sv l fl cd (c+1) (s || un) from by rcases Q with ⟨rfl,rfl⟩ | ⟨rfl,rfl⟩;(rw[Bool.or_false];exact J.o.below z);(rw[Bool.or_true];exact (J.o.below z).set));clear z Q
    go_roundw
    case rel=>exact⟨g,c+1,X,s || un,rfl,P,F,by omega,by omega,J3⟩
    case measure=>exact E.o
end
section
set_option linter.unusedSimpArgs false
theorem DT{σ ρ:Type}{step:σ->Z6->Z6->Except ρ σ}{l:Z3 Rw}{id fl cd:Int}{L:ZP} :
 ∀ (f:Nat) (c:Int) (k:Z3 ZP) (s:σ),c<=(bS l id fl cd L step f c k s).2/\(bS l id fl cd L step f c k s).2<=c+f:=fun f c k s=>lI f c k s
theorem FX(p:Z6)(L:ZP)(c:Int):c<=(ee l fl cd id p L c).2/\(ee l fl cd id p L c).2<=c+l.length+1:=by
 have h:=DT (step:=fO p) (l:=l) (id:=id) (fl:=fl) (cd:=cd) (L:=L) (l.length+1) c [L - 1,255] Z2;unfold ee
 cases H:bS l id fl cd L (fO p) (l.length+1) c [L - 1,255] Z2 with
 | mk a c =>
   rw[H] at h
   cases a with
   | error e=>unfold jT;dsimp only at h |-;omega
   | ok p=>obtain⟨s,e⟩:=p;unfold jT;dsimp only at h |-;omega
def qR(i:Nat):Z3 ZP:=[68,71,65].drop i
theorem EU(h:i<3):∃ L:ZP,qR i=L::qR (i+1)/\IntKind.u8.wrap ((L.toNat:Int) - 1)=((L - 1).toNat:Int)/\#[Value.int .u8 68,.int .u8 71,.int .u8 65][i]?=Z9 (.int .u8 (L.toNat:Nat)):=by
 have:i=0\/i=1\/i=2:=by omega
 rcases this with rfl|rfl|rfl
 .exact⟨68,rfl,by decide,rfl⟩
 .exact⟨71,rfl,by decide,rfl⟩
 .exact⟨65,rfl,by decide,rfl⟩
structure UuJ (w0 w W:ZY) (p h:Nat) (pre:Z6) (sv:Z1) (l:Z3 Rw) (fl cd c:Int):Prop where
 sh:SHs w0 W p sv l fl cd c
 g:w.grownBy W (Z9 p)
 cp:W.cell? ⟨h,0,Z7⟩=Z9 (.string pre)
 kL:W.heap[h+1]?=Z9 (.cells #[.int .u8 68,.int .u8 71,.int .u8 65] 5 (3,4))
 z:h+2<=W.heap.size
theorem Fd{i:Nat}(k:W.heap[h+1]?=Z9 (.cells #[.int .u8 68,.int .u8 71,.int .u8 65] 5 (3,4)))(e:#[Value.int .u8 68,.int .u8 71,.int .u8 65][i]?=Z9 v):W.cell? ⟨h+1,i,Z7⟩=Z9 v:=by
 unfold World.cell?;rw[k];exact e
theorem UuJ.next{w0 w:ZY}{p:Nat}{pre:Z6}{sv:Z1}{l:Z3 Rw}{fl cd:Int}(H:UuJ w0 w W p h pre sv l fl cd c)(a:p<h)(J:UnJ w0 W W' p h bt pre sv l fl cd c' s):UuJ w0 w W' p h pre sv l fl cd c':=by
 have z:=H.z;exact⟨J.sh,aJ H.g J.g,J.cp,(J.g.block (h+1) (by omega) (fun e=>by have:=ZL e;omega)).trans H.kL,by have:=J.g.size;omega⟩
theorem UuJ.start{w0 w:ZY}{p:Nat}{pre:Z6}{sv:Z1}{l:Z3 Rw}{fl cd:Int}(H:UuJ w0 w W p h pre sv l fl cd c)(f:p<h)(k:w0.heap.size<=h)(o:∀ b,sv.ownBlock=Z9 b->b<h):UnJ w0 W (W.alloc (.cells #[.bool Z2] 4)) p h W.heap.size pre sv l fl cd c Z2:=by
 have b:=aj W (.cells #[.bool Z2] 4);have z:=H.z;exact⟨H.sh.below b,bo _ b,(ZU (a:=⟨h,0,Z7⟩) (b.block h (by omega))).trans H.cp,by simp [go_sem],by simp [go_sem],by omega,by omega,ZV _,by omega,by omega,fun q e=>by have:=o q e;omega⟩
theorem sB(sv:Z1)(l:Z3 Rw)(fl cd j id:Int)(w0 w:ZY)(hm:MaxL w0)(S:SHs w0 w p sv l fl cd j)(z:∀ b,sv.ownBlock=Z9 b->b<w.heap.size)(hl:l.length<=1000)(U:∀ x∈l,x.2.1.size<=1000)(V:pre.size<=1000)(G:0<=j)(a0:j<=80000)(K:cd≠0/\cd≠6\/fl<=0) :
 ZJ Z8 87 #[.iface 56 (.pointer (Z9 ⟨p,0,Z7⟩)),.int .i64 id,.string pre] w fun r w' =>
  r=.returned (.int .i64 (et l fl cd j id pre).1)/\SHs w0 w' p sv l fl cd (et l fl cd j id pre).2/\w.grownBy w' (Z9 p):=by
 have n:=S.pl;have A:=S.b.size;obtain⟨g,B⟩:∃ g,et l fl cd j id pre=g:=⟨_,rfl⟩;rw[B];unfold et at B;have kc:=Go.Lib.run_convert_bytes_const (P:=Z8) (w.alloc (.cells #[.string pre] 9)) 156 5 #[.int .u8 68,.int .u8 71,.int .u8 65] 3 3 Tryz.underlying156 Tryz.underlying5;obtain⟨h,O⟩:∃ h,w.heap.size=h:=⟨_,rfl⟩;simp only[X2] at kc
 rw[O] at kc n z A
 have o:UuJ w0 w ((w.alloc (.cells #[.string pre] 9)).alloc (.cells #[.int .u8 68,.int .u8 71,.int .u8 65] 5 (3,4))) p h pre sv l fl cd j:=by
  have b:Z4 w.heap.size w ((w.alloc (.cells #[.string pre] 9)).alloc (.cells #[.int .u8 68,.int .u8 71,.int .u8 65] 5 (3,4))):=by exact aB
  refine⟨S.below b,bo _ b,by rw[<-O];simp [go_sem],?_,by simp;omega⟩
  have:=heap_alloc_new (w.alloc (.cells #[.string pre] 9)) (.cells #[.int .u8 68,.int .u8 71,.int .u8 65] 5 (3,4));rw[X2,O] at this;exact this
 have D:=lh o;have HG:=lh B;clear o S B;go_enter Tryz.func87,Tryz.ntmps87
 go_wp2_with fail
 go_loopw [14] (fun X wr=>∃ (i:Nat) (c:Int),X=.int .i64 (i:Int)/\i<=3/\Hid (ji l fl cd id pre (qR i) c=g)/\0<=c/\c<=j+i*(l.length+1)/\Hid (UuJ w0 w wr p h pre sv l fl cd c)) (fun X _=>(3 - intOf X).toNat)
 case atStart=>exact⟨0,j,rfl,by omega,HG,G,by omega,D⟩
 case round =>
  obtain⟨i,c,rfl,hi,Y,I,a1,HJ⟩:=hrel;by_cases R:i<3
  rotate_left
  .obtain rfl:i=3:=by omega
   have hL:=Y.o;have F:((0:Int),c)=g:=hL;subst F;go_wp2_with fail
   go_ret
   exact⟨rfl,HJ.o.sh,HJ.o.g⟩
  obtain⟨L,q,y,t⟩:=EU i R;have kL:=Fd HJ.o.kL t;have Z:=FX l fl cd id pre L c
  have N:c<=90000:=by
   have:(i:Int)*((l.length:Int)+1)<=3*1001:=Int.mul_le_mul (by omega) (by omega) (by omega) (by omega);omega
  have f:=Im p h wr.heap.size pre sv l fl cd c id L w0 wr _ hm y (HJ.o.start n A z) hl U V I N K;have H:=Y.o;rw[q,ji] at H;have T:((i+1:Nat):Int)*((l.length:Int)+1)=(i:Int)*((l.length:Int)+1)+(l.length+1):=by rw[Int.natCast_add,Int.add_mul];omega
  generalize ee l fl cd id pre L c=Q at f Z H;obtain⟨⟨s,C⟩,c2⟩:=Q;dsimp only at f Z H;have k:=lh f;have m:=lh H;clear f H y t q;by_cases E:C=0
  rotate_left
  .have t1:(C != 0)=ZZ:=Zi.2 E;go_wp2_with (go_at_call 184;(refine k.o.mono ?_);rintro _ w3 ⟨rfl,a⟩;have J:=lh a;clear a)
   go_ret
   have e:=m.o;rw[ZT E] at e;subst e;exact⟨rfl,J.o.sh,aJ HJ.o.g J.o.g⟩
  subst E;cases s
  .go_wp2_with (go_at_call 184;(refine k.o.mono ?_);rintro _ w3 ⟨rfl,a⟩;have J:=lh a;have ct:=a.ct;clear a)
   go_roundw
   case rel=>exact⟨i+1,c2,rfl,by omega,lh (by have e:=m.o;rw[ZX (fun h=>h rfl),ZX (by decide)] at e;exact e),by omega,by rw[T];omega,lh (HJ.o.next n J.o)⟩
   case measure=>simp [intOf];omega
  .go_wp2_with (go_at_call 184;(refine k.o.mono ?_);rintro _ w3 ⟨rfl,a⟩;have J:=lh a;have ct:=a.ct;clear a)
   go_ret
   have e:=m.o;rw[ZX (fun h=>h rfl),ZT trivial] at e;subst e;exact⟨rfl,J.o.sh,aJ HJ.o.g J.o.g⟩
end
section
set_option linter.unusedSimpArgs false
attribute [local go_sem ↓] aZ bf bq cl eX
attribute [local go_sem] bn aS aH bE bH aK aT ak aI aw az aM ah aQ aL aP aO aR aY aW bD ap aq
def di(pre:Z6)(id:Int):Fu:=({ En.zero with kind:=3,name:=pre,cat:=id },[],[])
def fk(pre:Z6)(id:Int):Array Z1:=#[.int .i64 3,.string pre,.int .i64 0,.int .i64 0,.int .i64 0,.int .i64 0,.int .i64 0,.int .i64 0,.int .i64 0,.int .i64 0,.int .i64 0,.int .i64 0,.int .i64 0,.int .i64 0,.int .i64 0,.int .i64 0,.bool Z2,.int .i64 0,.string ⟨#[]⟩,.string ⟨#[]⟩,.int .i64 0,.int .i64 0,.bool Z2,.slice Z7 0 0,.int .i64 0,.int .i64 0,.int .i64 0,.bool Z2,.string ⟨#[]⟩,.string ⟨#[]⟩,.int .i64 id,.int .i64 0,.slice Z7 0 0]
theorem uv(id:Int):(di pre id).1.vals (.slice Z7 0 0) (.slice Z7 0 0)=fk pre id:=by unfold di fk En.vals En.zero;rfl
def con1F(l:Z3 Rw)(fl cd j o:Int)(pre:Z6)(id:Int):(Z3 Ch × Int) × Int :=
 if (et l fl cd j o pre).1≠0 then (([],(et l fl cd j o pre).1),(et l fl cd j o pre).2)
 else if aA (di pre id)=ZZ then (([bI 1 (di pre id)],0),(et l fl cd j o pre).2) else (([],1),(et l fl cd j o pre).2)
def kG(l:Z3 Rw)(fl cd j:Int)(pre:Z6)(id:Int):(Z3 Ch × Int) × Int :=
 if dy pre=Z2\/id<2\/15<id then (([],1),j)
 else if (aG l fl cd j 1 3 pre).1.2=0 then (([],5),(aG l fl cd j 1 3 pre).2)
 else if (aG l fl cd j 1 3 pre).1.2≠6 then (([],(aG l fl cd j 1 3 pre).1.2),(aG l fl cd j 1 3 pre).2)
 else eK l fl cd (aG l fl cd j 1 3 pre).2 pre (fun o c=>con1F l fl cd c o pre id)
def kH(l:Z3 Rw)(fl cd j:Int)(pre:Z6):(Z3 Ch × Int) × Int :=
 if dy pre=Z2 then (([],1),j)
 else if (aG l fl cd j 1 3 pre).1.2≠0 then (([],(aG l fl cd j 1 3 pre).1.2),(aG l fl cd j 1 3 pre).2)
 else if (et l fl cd (aG l fl cd j 1 3 pre).2 (aG l fl cd j 1 3 pre).1.1.1.cat pre).1≠0 then (([],(et l fl cd (aG l fl cd j 1 3 pre).2 (aG l fl cd j 1 3 pre).1.1.1.cat pre).1),(et l fl cd (aG l fl cd j 1 3 pre).2 (aG l fl cd j 1 3 pre).1.1.1.cat pre).2)
 else (([bJ 1 (aG l fl cd j 1 3 pre).1.1],0),(et l fl cd (aG l fl cd j 1 3 pre).2 (aG l fl cd j 1 3 pre).1.1.1.cat pre).2)
theorem EV(h:Nat)(sv:Z1)(l:Z3 Rw)(fl cd j O id:Int)(pre:Z6)(w0 w:ZY)(hm:MaxL w0)(hT:Tab w0)(P:SHs w0 w p sv l fl cd j)(Z:∀ b,sv.ownBlock=Z9 b->b<w.heap.size)(hl:l.length<=1000)(Y:∀ x∈l,x.2.1.size<=1000)(Q:0<=j)(T:j<=80000)(V:cd≠0/\cd≠6\/fl<=0)(D:pre.size<=1000)(e:p<h)(B:MrB w h p (.string pre) (.int .i64 id)) :
 ZJ Z8 86 #[.int .i64 O,.pointer (Z9 ⟨h,0,Z7⟩),.pointer (Z9 ⟨h+1,0,Z7⟩),.pointer (Z9 ⟨h+2,0,Z7⟩)] w fun r w'=>dm w0 w w' p sv l fl cd (con1F l fl cd j O pre id) r:=by
 have c0:=B.r;have c1:=B.u;have c2:=B.v;have J:=sB p pre sv l fl cd j O w0 w hm P Z hl Y D Q T V;have a0:=P.b.size;unfold con1F;generalize et l fl cd j O pre=U at J |-;obtain⟨C,cu⟩:=U;dsimp only at J |-;have L:=lh J;have X:=lh B;clear J P B;by_cases t:C=0
 rotate_left
 .rw[ZT t];have t1:(C != 0)=ZZ:=Zi.2 t;clear t;go_enter Tryz.func86,Tryz.ntmps86
  go_wp2_with (go_at_call 87;(refine L.o.mono ?_);rintro _ F ⟨rfl,m,H⟩;have S:=lh m;have G:=lh H;clear m H)
  go_ret2
  exact⟨_,rfl,bu _,S.o,G.o⟩
 rw[ZX (fun h=>h t)];subst t;have n:=fun W (b:Z4 w0.heap.size w0 W)=>vO (di pre id) (.slice Z7 0 0) (.slice Z7 0 0) W (hm.below b) (hT.below b) D (IS.nil _) (GS.nil _)
 rw[uv] at n;have E:∀ W:ZY,row (W.alloc (.cells (fk pre id) 29)) W.heap.size=fk pre id:=fun W=>ak W _ _ (0,0)
 have z:(fk pre id).size=33:=rfl;have v0:(fk pre id)[0]?=Z9 (.int .i64 3):=rfl;have v1:(fk pre id)[1]?=Z9 (.string pre):=rfl;have q:=lh (fun (W W':ZY) (a:Z4 (W.heap.size+1) (W.alloc (.cells (fk pre id) 29)) W')=>am (by rw[X2];exact a) (E W) (by rw[z];decide));have f:bh (fk pre id).toList=ZZ:=by unfold fk;simp [go_sem,aQ,aL,aP,aO,aR,aW]
 have HK:=lh (fun W=>jI 3 pre W);clear E;cases k:aA (di pre id)
 .rw[ZX (by decide)];simp only[k] at n
  generalize bC (di pre id)=rz at n;unfold fk at n;have N:=lh n;clear n k q f v0 v1 z;go_enter Tryz.func86,Tryz.ntmps86
  go_wp2_with first|go_at_call 87;(refine L.o.mono ?_);rintro _ F ⟨rfl,m,H⟩;have c1:=(X.o.grown e H).u;have c2:=(X.o.grown e H).v;have S:=lh m;have G:=lh H;clear m H|go_at_call 76;(refine (N.o _ (S.o.below (aj _ _)).b).mono ?_);rintro _ w3 ⟨rfl,a⟩;have I:=lh (bt (aj F _) a);clear a
  go_ret2
  exact⟨_,rfl,bu _,S.o.below I.o,bx G.o (I.o.mono G.o.size)⟩
 rw[ZT rfl];have o:=fun W=>iT W (bI 1 (di pre id))
 unfold bI ch5 at o;have A:aC (di pre id).1.kind (di pre id).1.name=aC 3 pre:=rfl;rw[A] at o;unfold bI;rw[A];simp only[k] at n
 generalize bC (di pre id)=rz at n o |-;generalize aC 3 pre=kz at HK o |-;have K:=lh o;unfold fk at n;have N:=lh n;clear n k o f;go_enter Tryz.func86,Tryz.ntmps86
 go_wp2_with first|go_at_call 87;(refine L.o.mono ?_);rintro _ F ⟨rfl,m,H⟩;have c1:=(X.o.grown e H).u;have c2:=(X.o.grown e H).v;have S:=lh m;have G:=lh H;clear m H|go_at_call 76;(refine (N.o _ (S.o.below (aj _ _)).b).mono ?_);rintro _ w3 ⟨rfl,a⟩;have R:=q.o F w3 (by rw[X2] at a;exact a);have n0:=ae R 0 _ v0;have n1:=ae R 1 _ v1;have I:=lh (bt (aj F _) a);clear a R|go_at_call 88;(with_reducible refine (HK.o _).mono ?_);rintro _ w4 ⟨rfl,y⟩;have B4:=lh (bt (bt I.o y) (aj w4 (.cells #[.int .i64 0,.int .i64 1,.string kz,.string rz,.string ⟨#[]⟩] 67)));clear y
 go_ret2
 exact⟨_,rfl,K.o _,S.o.below B4.o,bx G.o (B4.o.mono G.o.size)⟩
theorem yQ(R:MaxL w0)(hT:Tab w0)(hS:SHs w0 w p sv l fl cd j)(a5:∀ b,sv.ownBlock=Z9 b->b<w.heap.size)(hl:l.length<=1000)(a3:∀ x∈l,x.2.1.size<=1000)(a0:0<=j)(a7:j<=60000)(t:cd≠0/\cd≠6\/fl<=0)(a4:pre.size<=1000) :
 ZJ Z8 35 #[.iface 56 (.pointer (Z9 ⟨p,0,Z7⟩)),.string pre,.int .i64 id] w fun r w'=>dm w0 w w' p sv l fl cd (kG l fl cd j pre id) r:=by
 have B:=hS.pl;have N:cd≠0\/fl<=0:=t.imp (fun h=>h.1) (fun h=>h);have Y:=lh hS;have L:Z4 w.heap.size w (((w.alloc (.cells #[.iface 56 (.pointer (Z9 ⟨p,0,Z7⟩))] 115)).alloc (.cells #[.string pre] 9)).alloc (.cells #[.int .i64 id] 3)):=by exact aB
 have I:MrB (((w.alloc (.cells #[.iface 56 (.pointer (Z9 ⟨p,0,Z7⟩))] 115)).alloc (.cells #[.string pre] 9)).alloc (.cells #[.int .i64 id] 3)) w.heap.size p (.string pre) (.int .i64 id):=⟨by simp [go_sem],by simp [go_sem],by simp [go_sem],by simp⟩;have E:=lh L;have U:=lh I;have z:=fun W (b:Z4 w0.heap.size w0 W)=>sA pre W (R.below b)
 have H:=fun W (h:SHs w0 W p sv l fl cd j)=>iy p sv l fl cd j 1 3 pre w0 W R hT h a0 (by omega) N
 have f:=dS l fl cd j 1 3 pre;unfold kG;generalize dy pre=pf at z |-;have X:=lh z;clear hS I L z;cases pf
 rw[ZT (.inl rfl)];clear H f;rotate_left;by_cases q:id<2
 rw[ZT (.inr (.inl q))];have t1:decide (id<2)=ZZ:=ZO q;clear H f q;rotate_left;have t1:decide (id<2)=Z2:=ZN q;by_cases m:15<id
 rw[ZT (.inr (.inr m))];have t2:decide (15<id)=ZZ:=ZO m;clear H f q m;rotate_left;have t2:decide (15<id)=Z2:=ZN m;rw[ZX (by rintro (h|h|h);cases h;exact q h;exact m h)];generalize aG l fl cd j 1 3 pre=gg at H f |-;obtain⟨⟨y,C⟩,Z⟩:=gg;dsimp only at f |-;have V:=lh H;clear H q m;by_cases F:C=0
 subst F;rw[ZT rfl];rotate_left;rw[ZX F];have t3:(C==0)=Z2:=ZS.2 F;by_cases D:C≠6
 rw[ZT D];have t4:(C != 6)=ZZ:=Zi.2 D;clear F D;rotate_left;rw[ZX D];have t4:(C != 6)=Z2:=by simpa using D
 have HH:=lh (fun W (S:SHs w0 W p sv l fl cd Z) (hz:w.heap.size<=W.heap.size) (K:MrB W w.heap.size p (.string pre) (.int .i64 id))=>np 86 (.inr (.inr (.inr (.inr (.inr rfl))))) #[.pointer (Z9 ⟨w.heap.size,0,Z7⟩),.pointer (Z9 ⟨w.heap.size+1,0,Z7⟩),.pointer (Z9 ⟨w.heap.size+2,0,Z7⟩)] p sv l fl cd Z pre (fun o c=>con1F l fl cd c o pre id) w0 W R hT S (by omega) (by omega) t (fun o c W2 m g2 q1 q2=>EV p w.heap.size sv l fl cd c o id pre w0 W2 R hT m (fun b e=>by have:=a5 b e;have:=g2.size;omega) hl a3 (by omega) (by omega) t a4 B (K.grown B g2)));generalize eK l fl cd Z pre (fun o c=>con1F l fl cd c o pre id)=g at HH |-;clear F D
 all_goals
  go_enter Tryz.func35,Tryz.ntmps35
  go_wp2_with first|go_at_call 84;(refine (X.o _ (Y.o.below E.o).b).mono ?_);rintro _ w2 ⟨rfl,K⟩;have k:=lh (U.o.below K);have r2:=k.o.r;have u2:=k.o.u;have v2:=k.o.v;have Q:=lh (bt E.o K);clear K|go_at_call 82;(refine (V.o _ (Y.o.below Q.o)).mono ?_);rintro _ w3 ⟨⟨A,G,rfl,hI,J,a1,a2⟩,P,a⟩;have a6:=ay y.1 A G (aD hI) (aE J);have n:=lh ((k.o.grown B a).below (aj w3 (.cells (y.1.vals A G) 29)));have r3:=n.o.r;have u3:=n.o.u;have S3:=lh (P.below (aj w3 (.cells (y.1.vals A G) 29)));have T:=lh (cU (aJ (bo _ Q.o) a) (aj w3 (.cells (y.1.vals A G) 29)));clear hI J a1 a2 P a|go_at_call 85;(refine (HH.o _ S3.o T.o.size n.o).mono ?_);rintro _ w4 ⟨ov,rfl,O,S,a⟩;have S4:=lh S;have G4:=lh a;have C4:=lh O;clear S a O
  go_ret2
  first|exact⟨_,rfl,C4.o,S4.o,aJ T.o G4.o⟩|exact⟨_,rfl,bu _,S3.o,T.o⟩|exact⟨_,rfl,bu _,Y.o.below Q.o,bo _ Q.o⟩
theorem xH(hm:MaxL w0)(hT:Tab w0)(hS:SHs w0 w p sv l fl cd j)(a9:∀ b,sv.ownBlock=Z9 b->b<w.heap.size)(hl:l.length<=1000)(a7:∀ x∈l,x.2.1.size<=1000)(a6:0<=j)(ab:j<=70000)(a0:cd≠0/\cd≠6\/fl<=0)(a8:pre.size<=1000) :
 ZJ Z8 38 #[.iface 56 (.pointer (Z9 ⟨p,0,Z7⟩)),.string pre] w fun r w'=>dm w0 w w' p sv l fl cd (kH l fl cd j pre) r:=by
 have ac:=hS.pl;have a1:cd≠0\/fl<=0:=a0.imp (fun h=>h.1) (fun h=>h);have S:=lh hS;have R:=fun W (b:Z4 w0.heap.size w0 W)=>sA pre W (hm.below b)
 have t:=fun W (h:SHs w0 W p sv l fl cd j)=>iy p sv l fl cd j 1 3 pre w0 W hm hT h a6 (by omega) a1
 have Q:=dS l fl cd j 1 3 pre;unfold kH;generalize dy pre=pf at R |-;have F:=lh R;clear hS R;cases pf
 .rw[ZT rfl];clear t Q;go_enter Tryz.func38,Tryz.ntmps38
  go_wp2_with (go_at_call 84;(refine (F.o _ S.o.b).mono ?_);rintro _ w2 ⟨rfl,o⟩;have B:=lh o;clear o)
  go_ret2
  exact⟨_,rfl,bu _,S.o.below B.o,bo _ B.o⟩
 rw[ZX (by decide)];generalize aG l fl cd j 1 3 pre=gg at t Q |-;obtain⟨⟨y,E⟩,cb⟩:=gg;dsimp only at Q |-;have N:=lh t;clear t;by_cases h0:E=0
 rotate_left
 .rw[ZT h0];have t3:(E != 0)=ZZ:=Zi.2 h0;clear h0;go_enter Tryz.func38,Tryz.ntmps38
  go_wp2_with first|go_at_call 84;(refine (F.o _ S.o.b).mono ?_);rintro _ w2 ⟨rfl,o⟩;have B:=lh o;clear o|go_at_call 82;(refine (N.o _ (S.o.below B.o)).mono ?_);rintro _ C ⟨⟨a,G,rfl,I,f,z,A⟩,H,k⟩;have J:=ay y.1 a G (aD I) (aE f);have X:=lh (H.below (aj C (.cells (y.1.vals a G) 29)));have L:=lh (cU (aJ (bo _ B.o) k) (aj C (.cells (y.1.vals a G) 29)));clear I f z A H k
  go_ret2
  exact⟨_,rfl,bu _,X.o,L.o⟩
 subst h0;rw[ZX (fun h=>h rfl)];have D:=fun W (T:SHs w0 W p sv l fl cd cb) (hz:w.heap.size<=W.heap.size)=>sB p pre sv l fl cd cb y.1.cat w0 W hm T (fun b e=>by have:=a9 b e;omega) hl a7 a8 (by omega) (by omega) a0
 have v0:=fun O P=>ap y.1 O P
 have v1:=fun O P=>aq y.1 O P
 have a2:=fun O P=>dv y.1 O P
 have K:=fun O P=>ah y.1 O P
 have a4:=lh v0;have Y:=lh v1;have n:=lh a2;have a5:=lh K;clear v0 v1 a2 K;generalize et l fl cd cb y.1.cat pre=U at D |-;obtain⟨uc,cu⟩:=U;dsimp only at D |-;have V:=lh D;clear D;by_cases h1:uc=0
 rotate_left
 .rw[ZT h1];have t3:(uc != 0)=ZZ:=Zi.2 h1;clear h1;go_enter Tryz.func38,Tryz.ntmps38
  go_wp2_with first|go_at_call 84;(refine (F.o _ S.o.b).mono ?_);rintro _ w2 ⟨rfl,o⟩;have B:=lh o;clear o|go_at_call 82;(refine (N.o _ (S.o.below B.o)).mono ?_);rintro _ C ⟨⟨a,G,rfl,I,f,z,A⟩,H,k⟩;have J:=ay y.1 a G (aD I) (aE f);have R3:=ak C (y.1.vals a G) 29 (0,0);have aa:=ae R3 30 _ (n.o _ _);have X:=lh (H.below (aj C (.cells (y.1.vals a G) 29)));have L:=lh (cU (aJ (bo _ B.o) k) (aj C (.cells (y.1.vals a G) 29)));clear I f z A H k|go_at_call 87;(refine (V.o _ X.o L.o.size).mono ?_);rintro _ w4 ⟨rfl,T,m⟩;have S4:=lh T;have G4:=lh m;clear T m
  go_ret2
  exact⟨_,rfl,bu _,S4.o,aJ L.o G4.o⟩
 subst h1;rw[ZX (fun h=>h rfl)];have q:=fun W=>iT W (bJ 1 y)
 unfold bJ ch5 at q;dsimp only at q;unfold bJ;have HK:=lh (fun W=>jI y.1.kind y.1.name W);generalize aC y.1.kind y.1.name=kz at HK q |-;have a3:=lh q;clear q;go_enter Tryz.func38,Tryz.ntmps38
 go_wp2_with first|go_at_call 84;(refine (F.o _ S.o.b).mono ?_);rintro _ w2 ⟨rfl,o⟩;have B:=lh o;clear o|go_at_call 82;(refine (N.o _ (S.o.below B.o)).mono ?_);rintro _ C ⟨⟨a,G,rfl,I,f,z,A⟩,H,k⟩;have J:=ay y.1 a G (aD I) (aE f);have zp:=H.pl;have R3:=ak C (y.1.vals a G) 29 (0,0);have aa:=ae R3 30 _ (n.o _ _);have X:=lh (H.below (aj C (.cells (y.1.vals a G) 29)));have L:=lh (cU (aJ (bo _ B.o) k) (aj C (.cells (y.1.vals a G) 29)));clear I f z A H k|go_at_call 87;(refine (V.o _ X.o L.o.size).mono ?_);rintro _ w4 ⟨rfl,T,m⟩;have R4:=dP R3 (by rw[a5.o];decide) m (by omega);have n0:=ae R4 0 _ (a4.o _ _);have n1:=ae R4 1 _ (Y.o _ _);have S4:=lh T;have G4:=lh (aJ L.o m);clear T m|go_at_call 88;(with_reducible refine (HK.o _).mono ?_);rintro _ w5 ⟨rfl,Z⟩;have B5:=lh (bt Z (aj w5 (.cells #[.int .i64 1,.int .i64 1,.string kz,.string ⟨#[]⟩,.string ⟨#[]⟩] 67)));clear Z
 go_ret2
 exact⟨_,rfl,a3.o _,S4.o.below B5.o,bx G4.o (B5.o.mono G4.o.size)⟩
end
end Go.Proofs.YtnkjliahpeebjaaGreatDoor
