/- Catalogs. -/
import Derived.Test.YtnkjliahpeebjaaGreatDoorRuC
import Derived.Test.YtnkjliahpeebjaaGreatDoorSaL
set_option maxRecDepth 8000
set_option maxHeartbeats 8000000
open Option renaming some->Z9,none->Z7
open Go.Proofs.Tryz renaming prog->Z8
open _root_ renaming ByteArray->Z6,List->Z1
open Go.Proofs.YtnkjliahpeebjaaGreatDoor.Ds renaming bl->Z5,bl_length->ZZ,bl_mk->X1,bl_append->XK
open Go.RowKit renaming Below->Z4
open Go renaming World->ZY,Calls->ZH
open Nat renaming le_refl->ZV,lt_of_lt_of_le->Zz,le_of_ble_eq_true->Zl,zero_le->Y6
open Go.RowKit.Below renaming refl->ZR,drew->Y3
open List renaming take_succ_eq_append_getElem->ZK,length_cons->Zw,append_assoc->Zr,getElem_mem->YN,take_length->X0,length_nil->XX
open ByteArray renaming size_append->YW
open UInt8 renaming ofNat->Yo
namespace Go.Proofs.YtnkjliahpeebjaaGreatDoor
open Go.RowKit
variable(e:En)(s:Z6)(v m:Value)(a:Option Addr){f b W:ZY}(n c:Nat){p j:Addr}(l:Z1 Int)(d:Z1 Gr)(k y:Bool)(g:Z1 UInt8){u q:Addr}{i h r t:Value}(w:ZY)
theorem rbool:ZH Z8 283 #[.bool y] w fun r o=>r=.returned (.string ⟨#[tb y]⟩)/\w=o:=by
 cases y
 .go_enter Tryz.func283,Tryz.ntmps283
  go_wp2_with fail
  go_ret
  exact⟨rfl,rfl⟩
 .go_enter Tryz.func283,Tryz.ntmps283
  go_wp2_with fail
  go_ret
  exact⟨rfl,rfl⟩
def cL(n:Nat):Z6:=⟨(Wi.enc n).toArray⟩
theorem kj:Z5 (cL n)=Wi.enc n:=X1 _
theorem iS(h:n<2 ^ 64):(cL n).size<=10:=by
 rw[<-ZZ,kj];exact Wi.enc_len 9 n (Zz h (by decide))
theorem belowd{w:ZY}{o:Obj}(H:Z4 (w.alloc o).drew.heap.size (w.alloc o).drew b):Z4 w.heap.size w b :=
 (Y3 ((ZR w.heap.size w).alloc (ZV _) o)).trans (H.mono (by simp))
theorem belowe{w:ZY}(H:Z4 w.drew.heap.size w.drew b):Z4 w.heap.size w b:=(Y3 (ZR w.heap.size w)).trans H
theorem rnumber:∀ (n:Nat),n<2 ^ 64->∀ w:ZY,ZH Z8 313 #[.int .u64 n] w fun r K=>r=.returned (.string (cL n))/\Z4 w.heap.size w K:=by
 intro n
 induction n using Nat.strongRecOn with
 | _ n I =>
   intro O w;by_cases h:n<128
   .have z:IntKind.u8.wrap (n:Int)=((Yo n).toNat:Nat):=by rw[Wi.u8_of n (by omega)];exact IntWalk.u8_in _ ⟨by omega,by omega⟩
    have o:=pu (Yo n);have D:Hid (cL n=⟨#[Yo n]⟩):=lh (by unfold cL;rw[Wi.enc_lt n h]);go_enter Tryz.func313,Tryz.ntmps313
    go_wp2_with fail
    go_ret
    exact⟨by rw[D.o];rfl,by exact aB⟩
   .have F:n / 128<n:=Nat.div_lt_self (by omega) (by decide);have x:=fun W=>I (n / 128) F (by omega) W
    rw[show ((n / 128:Nat):Int)=(n:Int) / 128 by omega] at x;have G:IntKind.u64.wrap ((n:Int) % 128+128)=(n:Int) % 128+128:=by rw[IntKind.wrap_u64];omega
    have E:(n:Int).tmod 128=(n:Int) % 128:=Int.tmod_eq_emod_of_nonneg (by omega);have B:IntKind.u64.wrap ((n:Int) / 128)=(n:Int) / 128:=by rw[IntKind.wrap_u64];omega
    have z:IntKind.u8.wrap ((n:Int) % 128+128)=((Yo (n % 128+128)).toNat:Nat):=by rw[Wi.u8_of _ (by omega)];rw[IntWalk.u8_in _ ⟨by omega,by omega⟩];omega
    have o:=pu (Yo (n % 128+128));have J:=iS (n / 128) (by omega)
    have D:Hid (cL n=(⟨#[Yo (n % 128+128)]⟩:Z6)++cL (n / 128)):=lh (by
     unfold cL;rw[Wi.enc_ge n (by omega),r7];simp)
    have C:=lh x;have L:¬ 9223372036854775807<1+(cL (n / 128)).size:=by omega
    clear x I;generalize Yo (n % 128+128)=A at z o D;generalize cL (n / 128)=T at C J D L;go_enter Tryz.func313,Tryz.ntmps313
    go_wp2_with fail
    go_region_law (first|(go_simp;go_at_call 313;(with_reducible refine (C.o _).mono ?_);rintro _ f ⟨rfl,H⟩;(first|(have N:f.cell? ⟨w.heap.size,0,Z7⟩=Z9 (.int .u8 (A.toNat:Nat)):=(by simpa using rE H))|skip)))
    all_goals
     go_wp2_with fail
     go_ret
     exact⟨by rw[D.o];rfl,by first|exact belowd H|exact Below.alloc (belowe H) (belowe H).size _|exact belowe H⟩
theorem rtext(B:s.size<=1000) :
 ZH Z8 284 #[.string s] w fun r A=>r=.returned (.string (cL s.size++s))/\Z4 w.heap.size w A:=by
 have o:=fun W=>rnumber s.size (by omega) W
 have z:=iS s.size (by omega);have C:IntKind.u64.wrap (s.size:Int)=(s.size:Int):=by rw[IntKind.wrap_u64];omega
 have H:=lh o;have L:¬ 9223372036854775807<(cL s.size).size+s.size:=by omega
 clear o;generalize cL s.size=t at H z L |-;go_enter Tryz.func284,Tryz.ntmps284
 go_wp2_with (go_at_call 313;(with_reducible refine (H.o _).mono ?_);rintro _ f ⟨rfl,x⟩)
 go_ret
 exact⟨rfl,x⟩
theorem tC:∀ (a b:Z1 Nat),encs (a++b)=encs a++encs b
 | [],b=>rfl
 | n::a,b=>by simp only[List.cons_append,encs,tC a b,Zr]
def dw(l:Z1 Int):Z6:=⟨(encs (l.map Int.toNat)).toArray⟩
theorem zf(k:Nat)(H:k<l.length):dw (l.take (k+1))=dw (l.take k)++cL l[k].toNat:=by
 unfold dw cL;rw[ZK H,List.map_append,tC,r7];simp [encs]
theorem sj:∀ (l:Z1 Nat),(∀ n∈l,n<2 ^ 64)->(encs l).length<=10*l.length
 | [],_=>by simp [encs]
 | n::r,h=>by
   have o:=Wi.enc_len 9 n (Zz (h n (by simp)) (by decide));have x:=sj r (fun m H=>h m (by simp [H]));simp only[encs,List.length_append,Zw];omega
theorem gF(h:gS l):(dw l).size<=10*l.length:=by
 unfold dw;rw[<-ZZ,X1];have:=sj (l.map Int.toNat) (fun n H=>by have:=jr l h n H;omega);rwa [List.length_map] at this
theorem rnumbers(h:IS w v l)(U:l.length<=50)(D:gS l) :
 ZH Z8 282 #[v] w fun r R=>r=.returned (.string (dw l))/\Z4 w.heap.size w R:=by
 obtain⟨a,c,rfl,V,I⟩:=id h;have HI:=lh h;have N:=lh D;have K:=lh I;clear h D I;go_enter Tryz.func282,Tryz.ntmps282
 go_wp2_with fail
 go_loopw [3,4] (fun t i wr=>∃ k:Nat,k<=l.length/\i=.int .i64 k/\t=.string (dw (l.take k))/\Z4 w.heap.size w wr) (fun _ i _=>l.length - (intOf i).toNat)
 case atStart=>exact⟨0,Y6 _,rfl,rfl,ZR _ _⟩
 case round =>
  obtain⟨k,S,rfl,rfl,B⟩:=hrel;by_cases A:k<l.length
  .obtain⟨b,o,rfl,P,z⟩:=K.o (by omega);have J:=N.o _ (YN A);have O:=(B.cell (p:=⟨b,o+k,Z7⟩) P).trans (z k A);have F:IntKind.u64.wrap l[k]=l[k]:=by rw[IntKind.wrap_u64];omega
   have H:=fun W=>rnumber l[k].toNat (by omega) W
   rw[Int.toNat_of_nonneg J.1] at H;have C:=gF (l.take k) (fun n D=>N.o n (List.mem_of_mem_take D));have G:=iS l[k].toNat (by omega);have X:=lh (zf l k A);rw[List.length_take] at C;clear z J;generalize cL l[k].toNat=Q at H G X;generalize dw (l.take k)=T at C X |-;generalize l[k]=x at O F H;have L:=lh H;have Y:¬ 9223372036854775807<T.size+Q.size:=by omega
   clear H;go_wp2_with (go_at_call 313;(with_reducible refine (L.o _).mono ?_);rintro _ f ⟨rfl,E⟩)
   go_roundw
   case rel=>exact⟨k+1,by omega,by go_num,by rw[X.o],bt B E⟩
   case measure=>simp [intOf];omega
  .obtain rfl:k=l.length:=by omega
   rw[X0];go_wp2_with fail
   go_ret
   exact⟨rfl,B⟩
section
theorem pj(n:Int)(t:TypeId):IS (w.alloc (.cells #[.int .i64 n] t)) (.slice (Z9 ⟨w.heap.size,0,Z7⟩) 1 1) [n] :=
 ⟨_,1,rfl,by simp,fun _=>⟨w.heap.size,0,rfl,by simp,fun k H=>by
  obtain rfl:k=0:=by simpa using H
  rw[cell_of_row _ w.heap.size (0+0) _ t (0,0) (heap_alloc_new w _)];rfl⟩⟩
theorem jz(W:ZY)(n:Int)(t:TypeId)(k:Nat)(H:k=W.heap.size):IS (W.alloc (.cells #[.int .i64 n] t)) (.slice (Z9 ⟨k,0,Z7⟩) 1 1) [n]:=by
 subst H;exact pj W n t
theorem jA(W:ZY)(n:Int)(t:TypeId)(k:Nat)(H:k=W.heap.size):IS (W.alloc (.cells #[.int .i64 n] t)).drew (.slice (Z9 ⟨k,0,Z7⟩) 1 1) [n]:=by
 subst H;exact (pj W n t).below (Y3 (ZR _ _))
theorem wN(H:Z4 b.heap.size b f)(s:b.cell? j=Z9 i/\b.cell? p=Z9 h/\b.cell? q=Z9 r/\b.cell? u=Z9 t/\Hid (Z4 W.heap.size W b)) :
 f.cell? j=Z9 i/\f.cell? p=Z9 h/\f.cell? q=Z9 r/\f.cell? u=Z9 t/\Hid (Z4 W.heap.size W f):=⟨ai H s.1,ai H s.2.1,ai H s.2.2.1,ai H s.2.2.2.1,lh (bt s.2.2.2.2.o H)⟩
theorem jy{v:Value}{l:Z1 Int}(h:IS W v l):IS W.drew v l:=h.below (Y3 (ZR _ _))
theorem wO(H:Z4 b.heap.size b f)(s:b.cell? j=Z9 i/\b.cell? p=Z9 h/\b.cell? q=Z9 r/\Hid (Z4 W.heap.size W b)) :
 f.cell? j=Z9 i/\f.cell? p=Z9 h/\f.cell? q=Z9 r/\Hid (Z4 W.heap.size W f):=⟨ai H s.1,ai H s.2.1,ai H s.2.2.1,lh (bt s.2.2.2.o H)⟩
theorem fq(o:Obj):Z4 w.heap.size w (w.alloc o):=(ZR _ _).alloc (ZV _) o
theorem nums1{n:Int}(h:0<=n/\n<=1099511627776):gS [n]:=fun x H=>by rw[List.mem_singleton] at H;subst H;exact h
theorem kf:Z5 (dw l)=encs (l.map Int.toNat):=X1 _
attribute [local go_sem ↓] aZ bf bq fe kF
attribute [local go_sem] bn aS aH aK aT fx ak aI aw az aM ah fp bW aQ aL aP aO aR aY aW ap aq bN cK cC
theorem rbody4(S:e.kind=4)(h2:GS w (.slice a n c) d)(hp:ProfOk e d) :
 ZH Z8 223 #[.agg (e.vals m (.slice a n c))] w fun r E=>∃ t,r=.returned (.string t)/\Z5 t=dH e d/\Z4 w.heap.size w E:=by
 have k0:(e.kind==0)=false:=by rw[S];rfl
 have k1:(e.kind==1)=false:=by rw[S];rfl
 have k2:(e.kind==2)=false:=by rw[S];rfl
 have k3:(e.kind==3)=false:=by rw[S];rfl
 have a3:=gO e;obtain⟨a',c',e',hz,-⟩:=id h2;obtain⟨rfl,rfl,rfl⟩:a=a'/\n=d.length/\c=c':=by injection e' with x y z;exact⟨x,y,z⟩
 clear e';have a0:=hp.l;have a1:e.owner.size<=1000:=Nat.le_trans hp.o (by decide);have a4:=hp.g8;have H:=lh (fun W v (h:IS W v [e.lev])=>rnumbers v [e.lev] W h (Zl rfl) (nums1 a0));have L:=lh (fun W v (h:IS W v [(d.length:Int)])=>rnumbers v [(d.length:Int)] W h (Zl rfl) (nums1 ⟨by omega,by omega⟩));have P:=lh (fun W=>rtext e.owner W a1);have V:=gF [e.lev] (nums1 a0);have z2:(cL e.owner.size++e.owner).size<=1010:=by rw[YW];have:=iS e.owner.size (by omega);omega
 have Z:=gF [(d.length:Int)] (nums1 ⟨by omega,by omega⟩);simp only[Zw,XX] at V Z
 have HG:=lh h2;have HP:=lh hp;clear S h2 hp;generalize F:dw [e.lev]=A at H V;generalize I:cL e.owner.size++e.owner=D at P z2;generalize J:dw [(d.length:Int)]=K at L Z
 have HA:Hid (Z5 A++(Z5 D++Z5 K)=Wi.enc e.lev.toNat++((Wi.enc e.owner.size++Z5 e.owner)++Wi.enc d.length)):=lh (by
  rw[<-F,<-I,<-J,XK,kj,kf,kf];simp [encs])
 clear F I J;have l1:¬ 9223372036854775807<A.size+D.size:=by omega
 have l2:¬ 9223372036854775807<A.size+D.size+K.size:=by omega
 have l3:¬ 9223372036854775807<(A++D).size+K.size:=by rw[YW];omega
 go_enter Tryz.func223,Tryz.ntmps223
 go_upto_region 12 with fail
 have W0:∀ W,W=((w.alloc (.cells (e.vals m (.slice a d.length c)) 29)).alloc (.cells e.dat 25))->W.drew.cell? ⟨w.heap.size,31,Z7⟩=Z9 (.int .i64 e.lev)/\W.drew.cell? ⟨w.heap.size,28,Z7⟩=Z9 (.string e.owner)/\W.drew.cell? ⟨w.heap.size,32,Z7⟩=Z9 (.slice a d.length c)/\Hid (Z4 w.heap.size w W.drew):=fun W hW=>by
  subst hW;have R:=aI w (e.vals m (.slice a d.length c)) 29 (0,0) (.cells e.dat 25);exact⟨ae R 31 _ (cK _ _ _),ae R 28 _ (bN _ _ _),ae R 32 _ (cC _ _ _),lh (by exact aB)⟩
 go_cut [1,5] (fun t1 t5 wx=>t1=.pointer (Z9 ⟨w.heap.size,0,Z7⟩)/\t5=.string ((A++D)++K)/\wx.cell? ⟨w.heap.size,32,Z7⟩=Z9 (.slice a d.length c)/\Z4 w.heap.size w wx)
 case first =>
  go_region_held3 (fun E=>E.cell? ⟨w.heap.size,31,Z7⟩=Z9 (.int .i64 e.lev)/\E.cell? ⟨w.heap.size,28,Z7⟩=Z9 (.string e.owner)/\E.cell? ⟨w.heap.size,32,Z7⟩=Z9 (.slice a d.length c)/\Hid (Z4 w.heap.size w E)) (first|assumption|exact W0 _ rfl|exact wO Q (by assumption)|exact wO (fq _ _) (by assumption)) (first
   | (go_at_call 282;(refine (H.o _ _ ?_).mono ?_);(focus ((repeat (first|(with_reducible refine jz _ _ _ _ ?_;first|with_reducible rfl|(simp;done))|(with_reducible refine jA _ _ _ _ ?_;first|with_reducible rfl|(simp;done))|(with_reducible apply IS.below;rotate_left 1;with_reducible assumption)|(with_reducible refine IS.below ?_ (fq _ _))|(with_reducible refine jy ?_)));done));rintro _ w3 ⟨rfl,Q⟩)
   | (go_at_call 282;(refine (L.o _ _ ?_).mono ?_);(focus ((repeat (first|(with_reducible refine jz _ _ _ _ ?_;first|with_reducible rfl|(simp;done))|(with_reducible refine jA _ _ _ _ ?_;first|with_reducible rfl|(simp;done))|(with_reducible apply IS.below;rotate_left 1;with_reducible assumption)|(with_reducible refine IS.below ?_ (fq _ _))|(with_reducible refine jy ?_)));done));rintro _ w3 ⟨rfl,Q⟩)
   | (go_at_call 284;(with_reducible refine (P.o _).mono ?_);rintro _ w3 ⟨rfl,Q⟩))
  all_goals
   obtain⟨_,_,C,hB⟩:=(by assumption:_/\_/\_/\Hid _);go_wp2_with fail
   go_meet
   exact⟨rfl,rfl,C,hB.o⟩
 case rest =>
  obtain⟨rfl,rfl,C,B⟩:=hcut;clear W0 H L P l1 l2 l3;go_wp2_with fail
  go_loopw [5,6] (fun s i wr=>∃ (k:Nat) (t:Z6),k<=d.length/\i=.int .i64 k/\s=.string t/\Hid (Z5 t=(Wi.enc e.lev.toNat++((Wi.enc e.owner.size++Z5 e.owner)++Wi.enc d.length))++grs (d.take k))/\t.size<=2000+2000*k/\wr.cell? ⟨w.heap.size,32,Z7⟩=Z9 (.slice a d.length c)/\Z4 w.heap.size w wr) (fun _ i _=>d.length - (intOf i).toNat)
  case atStart=>exact⟨0,_,Y6 _,rfl,rfl,lh (by rw[XK,XK,<-HA.o,Zr];simp [grs]),by rw[YW,YW];omega,C,B⟩
  case round =>
   clear HA V z2 Z C B;obtain⟨k,t,S,rfl,rfl,T,a2,C,B⟩:=hrel;by_cases O:k<d.length
   .obtain⟨b,o,rfl,pg⟩:=GS.at (HG.o.below B) (by omega);obtain⟨j,p,q⟩:=pg k O;obtain⟨N,G⟩:=HP.o.ng _ (YN O);have i1:(0:Int)<=(k:Int):=by omega
    have i2:(k:Int)<(d.length:Int):=by omega
    have HE:Hid (grs (d.take (k+1))=grs (d.take k)++((Wi.enc d[k].1.size++Z5 d[k].1)++([tb d[k].2.1]++Wi.enc d[k].2.2.toNat))):=lh (by
     rw[ZK O,jY];simp [grs])
    clear pg;generalize d[k]=x at j p q N G HE;obtain⟨X,xg,U⟩:=x;simp only at j p q N G HE
    have H:=lh (fun W v (h:IS W v [U])=>rnumbers v [U] W h (Zl rfl) (nums1 G));have P:=lh (fun W=>rtext X W (by omega));have HB:=lh (fun W=>rbool xg W);have V:(cL X.size++X).size<=1010:=by rw[YW];have:=iS X.size (by omega);omega
    have Z:=gF [U] (nums1 G);simp only[Zw,XX] at Z
    have z2:(⟨#[tb xg]⟩:Z6).size=1:=rfl;generalize F:cL X.size++X=A at P V;generalize I:(⟨#[tb xg]⟩:Z6)=D at HB z2;generalize J:dw [U]=K at H Z
    have HA:Hid (Z5 A++(Z5 D++Z5 K)=(Wi.enc X.size++Z5 X)++([tb xg]++Wi.enc U.toNat)):=lh (by
     rw[<-F,<-I,<-J,XK,kj,kf];simp [encs,Z5])
    clear F I J;have l1:¬ 9223372036854775807<t.size+A.size:=by omega
    have l2:¬ 9223372036854775807<t.size+A.size+D.size:=by omega
    have l3:¬ 9223372036854775807<(t++A).size+D.size:=by rw[YW];omega
    have l4:¬ 9223372036854775807<t.size+A.size+D.size+K.size:=by omega
    have l5:¬ 9223372036854775807<((t++A)++D).size+K.size:=by rw[YW,YW];omega
    have HZ:Hid ((((t++A)++D)++K).size<=2000+2000*(k+1)):=lh (by rw[YW,YW,YW];omega);clear V z2 Z N G a2;go_upto_region 16 with fail
    go_region_held3 (fun E=>E.cell? ⟨w.heap.size,32,Z7⟩=Z9 (.slice (Z9 ⟨b,o,Z7⟩) d.length c)/\E.cell? ⟨b,o+k*3,Z7⟩=Z9 (.string X)/\E.cell? ⟨b,o+k*3+1,Z7⟩=Z9 (.bool xg)/\E.cell? ⟨b,o+k*3+2,Z7⟩=Z9 (.int .i64 U)/\Hid (Z4 w.heap.size w E)) (first|assumption|exact⟨C,j,p,q,lh B.drew⟩|exact wN Q (by assumption)|exact wN (fq _ _) (by assumption)) (first
     | (go_at_call 282;(refine (H.o _ _ ?_).mono ?_);(focus ((repeat (first|(with_reducible refine jz _ _ _ _ ?_;first|with_reducible rfl|(simp;done))|(with_reducible refine jA _ _ _ _ ?_;first|with_reducible rfl|(simp;done))|(with_reducible apply IS.below;rotate_left 1;with_reducible assumption)|(with_reducible refine IS.below ?_ (fq _ _))|(with_reducible refine jy ?_)));done));rintro _ w3 ⟨rfl,Q⟩)
     | (go_at_call 284;(with_reducible refine (P.o _).mono ?_);rintro _ w3 ⟨rfl,Q⟩)
     | (go_at_call 283;(with_reducible refine (HB.o _).mono ?_);rintro _ w3 ⟨rfl,rfl⟩))
    all_goals
     obtain⟨Y,_,_,_,hB⟩:=(by assumption:_/\_/\_/\_/\Hid _);go_wp2_with fail
     go_roundw
     case rel=>exact⟨k+1,_,by omega,by go_num,rfl,lh (by rw[HE.o,XK,XK,XK,T.o,<-HA.o];simp only[Zr]),HZ.o,Y,hB.o⟩
     case measure=>simp [intOf];omega
   .obtain rfl:k=d.length:=by omega
    rw[X0] at T;go_wp2_with fail
    go_ret
    exact⟨t,rfl,by rw[T.o];unfold dH;simp only[Zr],B⟩
end
section
attribute [local go_sem ↓] aZ bf bq
attribute [local go_sem] bn aS aH aK aT ak aI aw az aM ah aQ aL aP aO aR aY aW ap aq
theorem GQ{g:Nat}{C:Array Value}(H:Z4 b.heap.size b f)(o:0<C.size)(s:row b g=C/\b.cell? j=Z9 i/\b.cell? p=Z9 h/\Hid (Z4 W.heap.size W b)) :
 row f g=C/\f.cell? j=Z9 i/\f.cell? p=Z9 h/\Hid (Z4 W.heap.size W f):=⟨am H s.1 o,ai H s.2.1,ai H s.2.2.1,lh (bt s.2.2.2.o H)⟩
theorem rencode(P:one m=true)(D:∀ W,Z4 w.heap.size w W->ZH Z8 67 #[.agg (e.vals m (.slice a n c))] W fun r o=>r=.returned (.bool k)/\Z4 W.heap.size W o)(H:k=true->g.length<=100000/\(Ek.key e.kind (Z5 e.name)).length<=100/\∀ W,Z4 w.heap.size w W->ZH Z8 223 #[.agg (e.vals m (.slice a n c))] W fun r o=>∃ t,r=.returned (.string t)/\Z5 t=g/\Z4 W.heap.size W o) :
 ZH Z8 136 #[.agg (e.vals m (.slice a n c))] w fun r o=>∃ t,r=.returned (.tuple #[.string t,.int .i64 (if k then 0 else 1)])/\Z5 t=(if k then Ek.key e.kind (Z5 e.name)++g else [])/\Z4 w.heap.size w o:=by
 have G:=ay e m (.slice a n c) P rfl;cases k
 .have V:=lh D;clear D H;go_enter Tryz.func136,Tryz.ntmps136
  go_wp2_with (go_at_call 67;(with_reducible refine (V.o _ (by exact aB)).mono ?_);rintro _ f ⟨rfl,H⟩;have B:=below1 H;clear H)
  go_ret2
  exact⟨_,rfl,rfl,B⟩
 .obtain⟨F,z,x⟩:=H rfl;have E:=fun W=>rkey e.kind e.name W
  have K:=lh E;have V:=lh D;have J:=lh x;have N:=lh F;have L:=lh z;clear D E x H F z;have O:=ak w (e.vals m (.slice a n c)) 29 (0,0);go_enter Tryz.func136,Tryz.ntmps136
  go_upto_region 3 with (go_at_call 67;(with_reducible refine (V.o _ (by exact aB)).mono ?_);rintro _ f ⟨rfl,H⟩;have B:=below1 H;have R:=am H O (by rw[ah];decide);clear H)
  go_region_held3 (fun o=>row o w.heap.size=e.vals m (.slice a n c)/\o.cell? ⟨w.heap.size,0,Z7⟩=Z9 (.int .i64 e.kind)/\o.cell? ⟨w.heap.size,1,Z7⟩=Z9 (.string e.name)/\Hid (Z4 w.heap.size w o)) (first|assumption|exact⟨R,ae R 0 _ (ap _ _ _),ae R 1 _ (aq _ _ _),lh B.drew⟩|exact GQ H (by rw[ah];decide) (by assumption)) (first
   | (go_at_call 137;(with_reducible refine (K.o _).mono ?_);rintro _ U ⟨T,rfl,A,rfl⟩;have Z:T.size<=100:=(by rw[<-ZZ,A];exact L.o))
   | (go_at_call 223;(refine (J.o _ (by assumption:row _ _=_/\_/\_/\Hid (Z4 _ _ _)).2.2.2.o).mono ?_);rintro _ X ⟨I,rfl,C,H⟩;have Y:I.size<=100000:=(by rw[<-ZZ,C];exact N.o);have S:¬ 9223372036854775807<T.size+I.size:=(by omega)))
  all_goals
   obtain⟨_,_,_,Q⟩:=(by assumption:row _ _=_/\_/\_/\Hid _);go_wp2_with fail
   go_ret2
   exact⟨_,rfl,by rw[XK,A,C],Q.o⟩
end
end Go.Proofs.YtnkjliahpeebjaaGreatDoor
