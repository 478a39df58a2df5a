/- Catalogs. -/
import Derived.Test.YtnkjliahpeebjaaGreatDoorEc
set_option maxRecDepth 8000
set_option maxHeartbeats 40000000
open Option renaming some->Z9,none->Z8
open _root_ renaming ByteArray->Z7,decide_eq_true_eq->ZU,decide_eq_true->ZL,decide_eq_false->ZF,Array->ZE
open Go.Proofs.Tryz renaming prog->Z6
open Go renaming Value->Z3,World->Z2,Calls->ZJ,heap_alloc_new->ZA
open Bool renaming true->ZZ,false->ZW,eq_false_iff->YJ,true_and->Yj,false_and->Xt
open Go.RowKit renaming Below->ZV,intOf->Y4
open List renaming getElem?_eq_getElem->ZN,getD_eq_getElem?_getD->Zx,isEmpty_iff_length_eq_zero->X1
open Cal renaming isDay->Xa
namespace Go.Proofs.YtnkjliahpeebjaaGreatDoor
open Go.RowKit
variable(i:Operand->Z3)(lo u:Int)(a c:Bool)(l:List Int)(j y n v k:Int)(w:Z2){wr:Z2}(z:ZE Z3)(f g:Bool){cs b:ZE Z3}(q s r m p x h:Int)(t:TypeId)
theorem Fh(T:Tab w) :
 ZJ Z6 288 #[.int .i64 n] w fun e W=>e=.returned (.bool (!Cal.isDay n))/\ZV w.heap.size w W:=by
 have H:=zh n w T;have A:=Cal.fmt_yes n;have o:=Cal.fmt_no n;cases h:Xa n
 .rw[o h] at H;clear A o h;go_enter Tryz.func288,Tryz.ntmps288
  go_wp2_with ((with_reducible refine H.mono ?_);rintro e W ⟨rfl,d⟩)
  go_ret
  exact⟨rfl,d⟩
 .have B:(⟨(Cal.fmt n).toArray⟩:Z7).toList.isEmpty=ZW:=gG _ (by rw[A h];simp only[ByteArray.size,List.size_toArray,List.length_append,Cal.ld_length];decide);generalize (⟨(Cal.fmt n).toArray⟩:Z7)=t at H B;clear A o h;go_enter Tryz.func288,Tryz.ntmps288
  go_wp2_with ((with_reducible refine H.mono ?_);rintro e W ⟨rfl,d⟩)
  go_ret
  exact⟨rfl,d⟩
theorem zj:Vp.days l=Ds.rest Xa l 0:=by unfold Vp.days Ds.rest;rfl
theorem CY(b c:Nat)(l:List Int)(w:Z2)(T:Tab w)(N:l.length<=1000)(J:b<w.heap.size)(E:∀ k (h:k<l.length),w.cell? ⟨b,k,Z8⟩=Z9 (.int .i64 l[k])) :
 ZJ Z6 314 #[.slice (Z9 ⟨b,0,Z8⟩) l.length c,.func (.func 288) #[] #[]] w fun e W=>∃ i:Int,e=.returned (.int .i64 i)/\decide (0<=i)=!Vp.days l/\ZV w.heap.size w W:=by
 rw[zj];have I:=lh E;clear E;go_enter Tryz.func314,Tryz.ntmps314
 go_wp2_with fail
 go_loopw [5,8] (fun _ i wr=>∃ k:Nat,k<=l.length/\i=.int .i64 k/\Ds.rest Xa l 0=Ds.rest Xa l k/\ZV w.heap.size w wr) (fun _ i _=>l.length - (Y4 i).toNat)
 case atStart=>exact⟨0,by omega,rfl,rfl,Below.refl _ _⟩
 case round =>
  obtain⟨k,L,rfl,F,B⟩:=hrel;have Q:=lh F;clear F;by_cases A:k<l.length
  .have d:=Ds.rest_next Xa l k A;have E:=(B.cell (p:=⟨b,k,Z8⟩) J).trans (I.o k A);have o:=Fh l[k] wr (T.below B);cases G:Xa l[k]
   .rw[G] at d o;have R:=lh (Q.o.trans d);have D:=lh o;clear d o;go_wp2_with (go_at_call 288;(with_reducible refine D.o.mono ?_);rintro e K ⟨rfl,H⟩;have C:=bt B H;clear H)
    go_ret
    exact⟨k,rfl,by rw[R.o];simp,C⟩
   .rw[G] at d o;have R:=lh (Q.o.trans d);have D:=lh o;clear d o;go_wp2_with (go_at_call 288;(with_reducible refine D.o.mono ?_);rintro e K ⟨rfl,H⟩;have C:=bt B H;clear H)
    go_roundw
    case rel=>exact⟨k+1,by omega,by go_num,R.o,C⟩
    case measure=>simp [Y4];omega
  .have d:=Q.o.trans (Ds.rest_end Xa l k (by omega));have R:=lh d;clear d;go_wp2_with fail
   go_ret
   exact⟨-1,rfl,by rw[R.o];simp,B⟩
theorem G6(b c:Nat)(l:List Int)(w:Z2)(T:Tab w)(A:l.length<=1000)(H:b<w.heap.size)(o:∀ k (h:k<l.length),w.cell? ⟨b,k,Z8⟩=Z9 (.int .i64 l[k])) :
 ZJ Z6 233 #[.slice (Z9 ⟨b,0,Z8⟩) l.length c] w fun e W=>e=.returned (.bool (Vp.days l))/\ZV w.heap.size w W:=by
 have j:=CY b c l w T A H o
 have d:ZJ Z6 287 #[.slice (Z9 ⟨b,0,Z8⟩) l.length c,.func (.func 288) #[] #[]] w fun e W=>e=.returned (.bool (!Vp.days l))/\ZV w.heap.size w W:=by
  clear o;go_enter Tryz.func287,Tryz.ntmps287
  go_wp2_with (go_at_call 314;(with_reducible refine j.mono ?_);rintro e W ⟨i,rfl,j,H⟩;have HI:=lh j;clear j)
  go_ret
  exact⟨aF (by rw[<-HI.o];first|done|simp),H⟩
 clear j o;generalize Vp.days l=z at d |-;go_enter Tryz.func233,Tryz.ntmps233
 go_wp2_with (go_at_call 287;(with_reducible refine d.mono ?_);rintro e W ⟨rfl,H⟩)
 go_ret
 exact⟨aF (by simp),H⟩
theorem kF(dst x y t' pos af gd)(H:z.size=21)(d:db (i x)=ZZ)(e:bF (i x)=w.heap.size)(o:cV (i y)=ZZ)(A:(bA (i y)).size=21)(B:bh (bA (i y)).toList=ZZ) :
 (execOp i ⟨dst,.store 25 x y,t',pos,af,gd⟩).run Z6 (w.alloc (.cells z t))=.ok .skip (w.alloc (.cells (bA (i y)) t)) :=
 l0 i w _ 20 (by kernel_rfl) z t dst x y t' pos af gd H d e o A B
theorem gO(e:En):bh e.dat.toList=ZZ:=by
 unfold En.dat;simp [aL,aQ,aP,aR,aO]
def DV(w:Z2)(cs b:ZE Z3)(wr:Z2):Prop:=ZV w.heap.size w wr/\row wr w.heap.size=cs/\row wr (w.heap.size+1)=b/\w.heap.size+2<=wr.heap.size
theorem DV.bel{w:Z2}(cs b:ZE Z3)(h:DV w cs b wr):ZV w.heap.size w wr:=h.1
theorem DV.new(cs b:ZE Z3)(t T:TypeId):DV w cs b ((w.alloc (.cells cs t)).alloc (.cells b T)):=by
 have S:(w.alloc (.cells cs t)).heap.size=w.heap.size+1:=by simp
 refine⟨by exact aB,fA (t:=t) (fr:=(0,0)) ((heap_alloc_old _ _ (by simp)).trans (ZA w _)),?_,by simp⟩
 have:=ZA (w.alloc (.cells cs t)) (.cells b T);rw[S] at this;exact fA this
theorem DV.below{w W:Z2}(h:DV w cs b wr)(H:ZV wr.heap.size wr W):DV w cs b W:=by
 obtain⟨d,e,o,A⟩:=h;have B:=H.size;refine⟨bt d H,?_,?_,by omega⟩
 .unfold row at *;rw[H.block _ (by omega)];exact e
 .unfold row at *;rw[H.block _ (by omega)];exact o
theorem DV.alloc{w:Z2}(h:DV w cs b wr)(o:Obj):DV w cs b (wr.alloc o):=h.below ((Below.refl _ _).alloc (Nat.le_refl _) o)
theorem DV.e{w:Z2}(h:DV w cs b wr)(o:Nat)(v:Z3)(H:cs[o]?=Z9 v):wr.cell? ⟨w.heap.size,o,Z8⟩=Z9 v:=ae h.2.1 o v H
theorem DV.d{w:Z2}(h:DV w cs b wr)(o:Nat)(v:Z3)(H:b[o]?=Z9 v):wr.cell? ⟨w.heap.size+1,o,Z8⟩=Z9 v:=ae h.2.2.1 o v H
theorem within11(W:Z2) :
 ZJ Z6 164 #[.int .i64 0,.int .i64 1099511627776,.slice (Z9 ⟨W.heap.size,0,Z8⟩) 11 11] (W.alloc (.cells #[.int .i64 u,.int .i64 y,.int .i64 v,.int .i64 k,.int .i64 q,.int .i64 s,.int .i64 r,.int .i64 m,.int .i64 p,.int .i64 x,.int .i64 h] t)) fun e d=>e=.returned (.bool (Vp.rng 0 1099511627776 [u,y,v,k,q,s,r,m,p,x,h]))/\(W.alloc (.cells #[.int .i64 u,.int .i64 y,.int .i64 v,.int .i64 k,.int .i64 q,.int .i64 s,.int .i64 r,.int .i64 m,.int .i64 p,.int .i64 x,.int .i64 h] t))=d:=by
 refine sQ 0 1099511627776 W.heap.size 11 [u,y,v,k,q,s,r,m,p,x,h] _ (by simp) (by simp) (fun j H=>?_)
 rw[cell_of_row _ W.heap.size (0+j) _ t (0,0) (ZA W _)];have H:j<11:=H;rcases (by omega:j=0\/j=1\/j=2\/j=3\/j=4\/j=5\/j=6\/j=7\/j=8\/j=9\/j=10) with rfl|rfl|rfl|rfl|rfl|rfl|rfl|rfl|rfl|rfl|rfl <;> rfl
theorem within1n(W:Z2)(b:Nat)(H:b=W.heap.size) :
 ZJ Z6 164 #[.int .i64 lo,.int .i64 j,.slice (Z9 ⟨b,0,Z8⟩) 1 1] (W.alloc (.cells #[.int .i64 n] t)) fun e d=>e=.returned (.bool (Vp.rng lo j [n]))/\(W.alloc (.cells #[.int .i64 n] t))=d :=
 kR lo j n b _ (by subst H;simp [go_sem])
theorem mw(k:Nat)(H:k<l.length)(h:Vp.altAt l k=ZW):Vp.alts l=ZW:=by
 rw[YJ];intro e;rw[mD e k H] at h;cases h
theorem sZ(h:∀ j,j<l.length->Vp.altAt l j=ZZ):Vp.alts l=ZZ:=by
 unfold Vp.alts Ds.rest;simpa using h
theorem rZ(k:Nat)(H:k<l.length)(n:Int)(d:n=l[k]):Vp.altAt l k=(decide (1<=n)&&decide (n<=1099511627776)&&(decide (k=0) || decide (l.getD (k - 1) 0<n))):=by
 unfold Vp.altAt;rw[show l.getD k 0=n by rw[d,Zx,ZN H];rfl]
attribute [local go_sem ↓] fe kF
attribute [local go_sem] fx aS aH aK aT ak aI aw az aM ah fp bW gO cf
theorem vh(s:Z7):(s.toList.isEmpty=ZZ/\(Ds.bl s).isEmpty=ZZ)\/(s.toList.isEmpty=ZW/\(Ds.bl s).isEmpty=ZW):=by
 by_cases H:s.size=0
 .exact Or.inl ⟨ju _ H,by rw[X1,Ds.bl_length];exact H⟩
 .exact Or.inr ⟨gG _ (by omega),by rw[YJ,Ne,X1,Ds.bl_length];exact H⟩
theorem AJ(X V e o A d:Bool):a=ZW\/a=ZZ/\c=ZW\/a=ZZ/\c=ZZ/\f=ZW\/a=ZZ/\c=ZZ/\f=ZZ/\g=ZW\/a=ZZ/\c=ZZ/\f=ZZ/\g=ZZ/\X=ZW\/a=ZZ/\c=ZZ/\f=ZZ/\g=ZZ/\X=ZZ/\V=ZW/\e=ZW\/a=ZZ/\c=ZZ/\f=ZZ/\g=ZZ/\X=ZZ/\V=ZZ/\o=ZW/\A=ZW\/a=ZZ/\c=ZZ/\f=ZZ/\g=ZZ/\X=ZZ/\V=ZZ/\o=ZZ/\d=ZW\/a=ZZ/\c=ZZ/\f=ZZ/\g=ZZ/\X=ZZ/\V=ZZ/\o=ZZ/\d=ZZ\/a=ZZ/\c=ZZ/\f=ZZ/\g=ZZ/\X=ZZ/\V=ZZ/\o=ZW/\A=ZZ/\d=ZW\/a=ZZ/\c=ZZ/\f=ZZ/\g=ZZ/\X=ZZ/\V=ZZ/\o=ZW/\A=ZZ/\d=ZZ\/a=ZZ/\c=ZZ/\f=ZZ/\g=ZZ/\X=ZZ/\V=ZW/\e=ZZ/\o=ZW/\A=ZW\/a=ZZ/\c=ZZ/\f=ZZ/\g=ZZ/\X=ZZ/\V=ZW/\e=ZZ/\o=ZZ/\d=ZW\/a=ZZ/\c=ZZ/\f=ZZ/\g=ZZ/\X=ZZ/\V=ZW/\e=ZZ/\o=ZZ/\d=ZZ\/a=ZZ/\c=ZZ/\f=ZZ/\g=ZZ/\X=ZZ/\V=ZW/\e=ZZ/\o=ZW/\A=ZZ/\d=ZW\/a=ZZ/\c=ZZ/\f=ZZ/\g=ZZ/\X=ZZ/\V=ZW/\e=ZZ/\o=ZW/\A=ZZ/\d=ZZ:=by
 cases a <;> cases c <;> cases f <;> cases g <;> cases X <;> cases V <;> cases e <;> cases o <;> cases A <;> cases d <;> simp
theorem Fg(e:En)(al G:Z3)(l:List Int)(w:Z2)(hm:MaxL w)(hT:Tab w)(hI:IS w al l) :
 ZJ Z6 157 #[.agg (e.vals al G)] w fun r w'=>r=.returned (.bool (Vp.dat e l))/\ZV w.heap.size w w':=by
 obtain⟨K,L,rfl,hz,B⟩:=hI;have HC:=lh B;clear B;go_enter Tryz.func157,Tryz.ntmps157
 simp only[List.append_eq,List.cons_append,List.nil_append]
 go_wp2_with fail
 go_loopw [11] (fun i wr=>∃ k:Nat,k<=l.length/\i=.int .i64 k/\DV w (e.vals (.slice K l.length L) G) e.dat wr/\∀ j,j<k->Vp.altAt l j=ZZ) (fun i _=>l.length - (Y4 i).toNat)
 case atStart=>exact⟨0,Nat.zero_le _,rfl,DV.new w _ _ _ _,fun j h=>by omega⟩
 case round =>
  obtain⟨k,hk,rfl,V,O⟩:=hrel;have HA:=lh O;clear O;have T:=V.1;have z0:=T.size;have z2:=V.2.2.2;have H:=lh V;have N:=V.e 23 _ (cf e _ G);clear V;by_cases I:k<l.length
  .obtain⟨ab,ao,rfl,Y,E⟩:=HC.o (by omega);have q0:=(T.cell (p:=⟨ab,ao+k,Z8⟩) Y).trans (E k I);obtain⟨n,hn⟩:∃ n,n=l[k]:=⟨_,rfl⟩;rw[<-hn] at q0;have o:=rZ l k I n hn;clear hn;by_cases p1:n<1
   .rw[ZF (by omega),Xt,Xt] at o;have U:=lh (mw l k I o);clear o E;go_wp2_with fail
    go_ret
    exact⟨aF (by unfold Vp.dat;rw[U.o];rfl),T⟩
   by_cases p2:1099511627776<n
   .rw[ZF (p:=n<=1099511627776) (by omega),Bool.and_false,Xt] at o;have U:=lh (mw l k I o);clear o E;go_wp2_with fail
    go_ret
    exact⟨aF (by unfold Vp.dat;rw[U.o];rfl),T⟩
   rw[ZL (p:=1<=n) (by omega),ZL (p:=n<=1099511627776) (by omega),Yj,Yj] at o;by_cases p3:k=0
   .subst p3;rw[ZL rfl,Bool.true_or] at o;rw[Nat.add_zero] at q0;have HV:=lh o;clear o E;go_wp2_with fail
    go_roundw
    case rel=>exact⟨1,by omega,by go_num,H.o,fun j hj=>by obtain rfl:j=0:=(by omega);exact HV.o⟩
    case measure=>simp [Y4];omega
   rw[ZF p3,Bool.false_or] at o;obtain⟨i,rfl⟩:∃ i,k=i+1:=⟨k - 1,by omega⟩;simp only[Nat.add_sub_cancel] at o
   have q1:=(T.cell (p:=⟨ab,ao+i,Z8⟩) Y).trans (E i (by omega));obtain⟨q,hq⟩:∃ q,q=l[i]:=⟨_,rfl⟩;rw[<-hq] at q1;rw[show l.getD i 0=q by rw[hq,Zx,ZN (by omega)];rfl] at o;clear hq E p3;by_cases p4:n<=q
   .rw[ZF (by omega)] at o;have U:=lh (mw l (i+1) I o);clear o;go_wp2_with fail
    go_ret
    exact⟨aF (by unfold Vp.dat;rw[U.o];rfl),T⟩
   .rw[ZL (by omega)] at o;have HV:=lh o;clear o;go_wp2_with fail
    go_roundw
    case rel=>exact⟨i+2,by omega,by go_num,H.o,fun j hj=>by
     by_cases e:j=i+1
     .subst e;exact HV.o
     .exact HA.o j (by omega)⟩
    case measure=>simp [Y4];omega
  .have Z:Vp.alts l=ZZ:=sZ l fun j hj=>HA.o j (by omega)
   have F:Vp.dat e l=(Vp.rng 0 1099511627776 [e.d3,e.d4,e.d5,e.d6,e.d7,e.d8,e.d9,e.d10,e.d11,e.d12,e.d13]&&(Vp.rng 1 1099511627776 [e.d0]&&(Vp.rng 0 3 [e.d1]&&(Vp.rng 0 2 [e.d2]&&(Vp.rng 0 3 [e.cls]&&(((Ds.bl e.vol).isEmpty || Vp.word (Ds.bl e.vol))&&(((Ds.bl e.own).isEmpty || Vp.word (Ds.bl e.own))&&(Vp.days [e.cr,e.ex,e.used]&&decide (l.length<=4))))))))):=by
    unfold Vp.dat Vp.own;rw[Z,Yj]
   have b1:w.heap.size<wr.heap.size:=by omega
   have b2:w.heap.size+1<wr.heap.size:=by omega
   have b3:w.heap.size+1<wr.heap.size+1:=by omega
   have b4:w.heap.size+1<wr.heap.size+1+1:=by omega
   have b5:w.heap.size+1<wr.heap.size+1+1+1:=by omega
   have b6:w.heap.size+1<wr.heap.size+1+1+1+1:=by omega
   have h0:=fun t W=>within11 e.d3 e.d4 e.d5 e.d6 e.d7 e.d8 e.d9 e.d10 e.d11 e.d12 e.d13 t W
   have h1:=fun t W b h=>within1n 1 1099511627776 e.d0 t W b h
   have h2:=fun t W b h=>within1n 0 3 e.d1 t W b h
   have h3:=fun t W b h=>within1n 0 2 e.d2 t W b h
   have h4:=fun t W b h=>within1n 0 3 e.cls t W b h
   have h5:=fun (W:Z2) (h:ZV w.heap.size w W)=>mS e.vol W (hm.below h)
   have h6:=fun (W:Z2) (h:ZV w.heap.size w W)=>mS e.own W (hm.below h)
   have h7:∀ (t:TypeId) (W:Z2),ZV w.heap.size w W->ZJ Z6 233 #[.slice (Z9 ⟨W.heap.size,0,Z8⟩) 3 3] (W.alloc (.cells #[.int .i64 e.cr,.int .i64 e.ex,.int .i64 e.used] t)) fun r w'=>r=.returned (.bool (Vp.days [e.cr,e.ex,e.used]))/\ZV (W.alloc (.cells #[.int .i64 e.cr,.int .i64 e.ex,.int .i64 e.used] t)).heap.size (W.alloc (.cells #[.int .i64 e.cr,.int .i64 e.ex,.int .i64 e.used] t)) w':=fun t W h =>
    G6 W.heap.size 3 [e.cr,e.ex,e.used] _ (hT.below (h.alloc h.size _)) (by simp) (by simp) (fun j hj=>by
     rw[cell_of_row _ W.heap.size j _ t (0,0) (ZA W _)];have hj:j<3:=hj;rcases (by omega:j=0\/j=1\/j=2) with rfl|rfl|rfl <;> rfl)
   generalize Vp.rng 0 1099511627776 [e.d3,e.d4,e.d5,e.d6,e.d7,e.d8,e.d9,e.d10,e.d11,e.d12,e.d13]=a at h0 F;generalize Vp.rng 1 1099511627776 [e.d0]=c at h1 F;generalize Vp.rng 0 3 [e.d1]=f at h2 F;generalize Vp.rng 0 2 [e.d2]=g at h3 F;generalize Vp.rng 0 3 [e.cls]=x4 at h4 F;generalize Vp.word (Ds.bl e.vol)=x5 at h5 F;generalize Vp.word (Ds.bl e.own)=x6 at h6 F;generalize Vp.days [e.cr,e.ex,e.used]=x7 at h7 F;have H0:=lh h0;have H1:=lh h1;have H2:=lh h2;have H3:=lh h3;have H4:=lh h4;have H5:=lh h5;have H6:=lh h6;have H7:=lh h7;have R:=H.o.e 24 _ (cM e _ G);have e0:=H.o.d 0 _ (qH e);have e1:=H.o.d 1 _ (qI e);have e2:=H.o.d 2 _ (qJ e);have e3:=H.o.d 3 _ (wH e);have e4:=H.o.d 4 _ (wI e);have e5:=H.o.d 5 _ (wW e);have e6:=H.o.d 6 _ (wY e);have e7:=H.o.d 7 _ (wZ e);have e8:=H.o.d 8 _ (xd e);have e9:=H.o.d 9 _ (xe e);have a5:=H.o.d 10 _ (vG e);have a6:=H.o.d 11 _ (vH e);have a7:=H.o.d 12 _ (vI e);have a8:=H.o.d 13 _ (vJ e);have a9:=H.o.d 15 _ (p9 e);have a4:=H.o.d 16 _ (mW e);have X:=H.o.d 17 _ (eQ e);have P:=H.o.d 18 _ (eB e);have Q:=H.o.d 19 _ (eC e);clear h0 h1 h2 h3 h4 h5 h6 h7 Z;obtain⟨vb,g1,g2⟩:∃ b,e.vol.toList.isEmpty=b/\(Ds.bl e.vol).isEmpty=b:=by rcases vh e.vol with h|h <;> exact⟨_,h⟩
   obtain⟨ob,k1,k2⟩:∃ b,e.own.toList.isEmpty=b/\(Ds.bl e.own).isEmpty=b:=by rcases vh e.own with h|h <;> exact⟨_,h⟩
   rw[g2,k2] at F;have HD:=lh F;clear F g2 k2;rcases AJ a c f g x4 vb x5 ob x6 x7 with rfl|⟨rfl,rfl⟩|⟨rfl,rfl,rfl⟩|⟨rfl,rfl,rfl,rfl⟩|⟨rfl,rfl,rfl,rfl,rfl⟩|⟨rfl,rfl,rfl,rfl,rfl,rfl,rfl⟩|⟨rfl,rfl,rfl,rfl,rfl,rfl,rfl,rfl⟩|⟨rfl,rfl,rfl,rfl,rfl,rfl,rfl,rfl⟩|⟨rfl,rfl,rfl,rfl,rfl,rfl,rfl,rfl⟩|⟨rfl,rfl,rfl,rfl,rfl,rfl,rfl,rfl,rfl⟩|⟨rfl,rfl,rfl,rfl,rfl,rfl,rfl,rfl,rfl⟩|⟨rfl,rfl,rfl,rfl,rfl,rfl,rfl,rfl,rfl⟩|⟨rfl,rfl,rfl,rfl,rfl,rfl,rfl,rfl,rfl⟩|⟨rfl,rfl,rfl,rfl,rfl,rfl,rfl,rfl,rfl⟩|⟨rfl,rfl,rfl,rfl,rfl,rfl,rfl,rfl,rfl,rfl⟩|⟨rfl,rfl,rfl,rfl,rfl,rfl,rfl,rfl,rfl,rfl⟩
   all_goals
    go_wp2_with (first|((with_reducible refine (H0.o _ _).mono ?_);rintro _ S ⟨rfl,rfl⟩)|((with_reducible refine (H1.o _ _ _ (by simp)).mono ?_);rintro _ S ⟨rfl,rfl⟩)|((with_reducible refine (H2.o _ _ _ (by simp)).mono ?_);rintro _ S ⟨rfl,rfl⟩)|((with_reducible refine (H3.o _ _ _ (by simp)).mono ?_);rintro _ S ⟨rfl,rfl⟩)|((with_reducible refine (H4.o _ _ _ (by simp)).mono ?_);rintro _ S ⟨rfl,a3⟩;have D:DV w (e.vals (.slice K l.length L) G) e.dat S:=(by rw[<-a3];repeat (first|exact J|exact C|exact A|exact D|exact H.o|refine DV.alloc ?_ _));have a4:=D.d 16 _ (mW e);have X:=D.d 17 _ (eQ e);have P:=D.d 18 _ (eB e);have Q:=D.d 19 _ (eC e);have R:=D.e 24 _ (cM e _ G);have N:=D.e 23 _ (cf e _ G);have z3:=D.2.2.2;have ad:w.heap.size<S.heap.size:=(by omega);have af:w.heap.size+1<S.heap.size:=(by omega);clear a3)|(go_at_call 165;(with_reducible refine (H5.o _ (DV.bel (e.vals (.slice K l.length L) G) e.dat (by repeat (first|exact J|exact C|exact A|exact D|exact H.o|refine DV.alloc ?_ _)))).mono ?_);rintro _ w4 ⟨rfl,a0⟩;have A:=DV.below (show DV w (e.vals (.slice K l.length L) G) e.dat _ by repeat (first|exact J|exact C|exact A|exact D|exact H.o|refine DV.alloc ?_ _)) a0;have X:=A.d 17 _ (eQ e);have P:=A.d 18 _ (eB e);have Q:=A.d 19 _ (eC e);have R:=A.e 24 _ (cM e _ G);have N:=A.e 23 _ (cf e _ G);have z4:=A.2.2.2;have ag:w.heap.size<w4.heap.size:=(by omega);have ar:w.heap.size+1<w4.heap.size:=(by omega);clear a0)|(go_at_call 165;(with_reducible refine (H6.o _ (DV.bel (e.vals (.slice K l.length L) G) e.dat (by repeat (first|exact J|exact C|exact A|exact D|exact H.o|refine DV.alloc ?_ _)))).mono ?_);rintro _ w5 ⟨rfl,a1⟩;have C:=DV.below (show DV w (e.vals (.slice K l.length L) G) e.dat _ by repeat (first|exact J|exact C|exact A|exact D|exact H.o|refine DV.alloc ?_ _)) a1;have P:=C.d 18 _ (eB e);have Q:=C.d 19 _ (eC e);have R:=C.e 24 _ (cM e _ G);have N:=C.e 23 _ (cf e _ G);have z5:=C.2.2.2;have av:w.heap.size<w5.heap.size:=(by omega);have b0:w.heap.size+1<w5.heap.size:=(by omega);clear a1)|(go_at_call 233;(with_reducible refine (H7.o _ _ (DV.bel (e.vals (.slice K l.length L) G) e.dat (by repeat (first|exact J|exact C|exact A|exact D|exact H.o|refine DV.alloc ?_ _)))).mono ?_);rintro _ w6 ⟨rfl,a2⟩;have J:=DV.below (show DV w (e.vals (.slice K l.length L) G) e.dat _ by repeat (first|exact J|exact C|exact A|exact D|exact H.o|refine DV.alloc ?_ _)) a2;have N:=J.e 23 _ (cf e _ G);clear a2))
    go_ret
    exact⟨aF (by rw[HD.o];first|rfl|(simp only[Yj,Bool.or_true,Bool.true_or];rw[Bool.eq_iff_iff,ZU,ZU];omega)),DV.bel (e.vals (.slice K l.length L) G) e.dat (by repeat (first|exact J|exact C|exact A|exact D|exact H.o|refine DV.alloc ?_ _))⟩
end Go.Proofs.YtnkjliahpeebjaaGreatDoor
