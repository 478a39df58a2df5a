/- Catalogs. -/
import Derived.Test.YtnkjliahpeebjaaGreatDoorEc
set_option maxRecDepth 8000
set_option maxHeartbeats 40000000
open Option renaming some->Z9,none->Z7
open Go.Proofs.Tryz renaming prog->Z8
open _root_ renaming ByteArray->Z6,decide_eq_true_eq->ZU,decide_eq_true->ZI,decide_eq_false->ZG,Array->Zy
open Go.RowKit renaming Below->Z4,intOf->Zq
open Go renaming Value->Z2,World->ZY,Calls->ZH,heap_alloc_new->Zs
open Bool renaming true->ZX,false->ZW,true_and->Zc,eq_false_iff->Yq,false_and->XT
open List renaming getElem?_eq_getElem->ZE,getD_eq_getElem?_getD->Zm,isEmpty_iff_length_eq_zero->Yi
open Cal renaming isDay->X3
namespace Go.Proofs.YtnkjliahpeebjaaGreatDoor
open Go.RowKit
variable(i:Operand->Z2)(A p:Int)(a c:Bool)(l:List Int)(j y n m v:Int)(w:ZY){wr:ZY}(z:Zy Z2)(f g:Bool){cs b:Zy Z2}(u r s q x k h:Int)(t:TypeId)
theorem Fh(T:Tab w) :
 ZH Z8 288 #[.int .i64 n] w fun e W=>e=.returned (.bool (!Cal.isDay n))/\Z4 w.heap.size w W:=by
 have H:=zh n w T;have B:=Cal.fmt_yes n;have o:=Cal.fmt_no n;cases h:X3 n
 .rw[o h] at H;clear B o h;go_enter Tryz.func288,Tryz.ntmps288
  go_wp2_with ((with_reducible refine H.mono ?_);rintro e W ⟨rfl,d⟩)
  go_ret
  exact⟨rfl,d⟩
 .have C:(⟨(Cal.fmt n).toArray⟩:Z6).toList.isEmpty=ZW:=gG _ (by rw[B h];simp only[ByteArray.size,List.size_toArray,List.length_append,Cal.ld_length];decide);generalize (⟨(Cal.fmt n).toArray⟩:Z6)=t at H C;clear B o h;go_enter Tryz.func288,Tryz.ntmps288
  go_wp2_with ((with_reducible refine H.mono ?_);rintro e W ⟨rfl,d⟩)
  go_ret
  exact⟨rfl,d⟩
theorem zj:Vp.days l=Ds.rest X3 l 0:=by unfold Vp.days Ds.rest;rfl
theorem CY(b c:Nat)(l:List Int)(w:ZY)(T:Tab w)(O:l.length<=1000)(K:b<w.heap.size)(F:∀ k (h:k<l.length),w.cell? ⟨b,k,Z7⟩=Z9 (.int .i64 l[k])) :
 ZH Z8 314 #[.slice (Z9 ⟨b,0,Z7⟩) l.length c,.func (.func 288) #[] #[]] w fun e W=>∃ i:Int,e=.returned (.int .i64 i)/\decide (0<=i)=!Vp.days l/\Z4 w.heap.size w W:=by
 rw[zj];have J:=lh F;clear F;go_enter Tryz.func314,Tryz.ntmps314
 go_wp2_with fail
 go_loopw [5,8] (fun _ i wr=>∃ k:Nat,k<=l.length/\i=.int .i64 k/\Ds.rest X3 l 0=Ds.rest X3 l k/\Z4 w.heap.size w wr) (fun _ i _=>l.length - (Zq i).toNat)
 case atStart=>exact⟨0,by omega,rfl,rfl,Below.refl _ _⟩
 case round =>
  obtain⟨k,N,rfl,I,B⟩:=hrel;have Q:=lh I;clear I;by_cases C:k<l.length
  .have d:=Ds.rest_next X3 l k C;have F:=(B.cell (p:=⟨b,k,Z7⟩) K).trans (J.o k C);have o:=Fh l[k] wr (T.below B);cases G:X3 l[k]
   .rw[G] at d o;have R:=lh (Q.o.trans d);have E:=lh o;clear d o;go_wp2_with (go_at_call 288;(with_reducible refine E.o.mono ?_);rintro e L ⟨rfl,H⟩;have D:=bt B H;clear H)
    go_ret
    exact⟨k,rfl,by rw[R.o];simp,D⟩
   .rw[G] at d o;have R:=lh (Q.o.trans d);have E:=lh o;clear d o;go_wp2_with (go_at_call 288;(with_reducible refine E.o.mono ?_);rintro e L ⟨rfl,H⟩;have D:=bt B H;clear H)
    go_roundw
    case rel=>exact⟨k+1,by omega,by go_num,R.o,D⟩
    case measure=>simp [Zq];omega
  .have d:=Q.o.trans (Ds.rest_end X3 l k (by omega));have R:=lh d;clear d;go_wp2_with fail
   go_ret
   exact⟨-1,rfl,by rw[R.o];simp,B⟩
theorem G6(b c:Nat)(l:List Int)(w:ZY)(T:Tab w)(B:l.length<=1000)(H:b<w.heap.size)(o:∀ k (h:k<l.length),w.cell? ⟨b,k,Z7⟩=Z9 (.int .i64 l[k])) :
 ZH Z8 233 #[.slice (Z9 ⟨b,0,Z7⟩) l.length c] w fun e W=>e=.returned (.bool (Vp.days l))/\Z4 w.heap.size w W:=by
 have j:=CY b c l w T B H o
 have d:ZH Z8 287 #[.slice (Z9 ⟨b,0,Z7⟩) l.length c,.func (.func 288) #[] #[]] w fun e W=>e=.returned (.bool (!Vp.days l))/\Z4 w.heap.size w W:=by
  clear o;go_enter Tryz.func287,Tryz.ntmps287
  go_wp2_with (go_at_call 314;(with_reducible refine j.mono ?_);rintro e W ⟨i,rfl,j,H⟩;have HI:=lh j;clear j)
  go_ret
  exact⟨aF (by rw[<-HI.o];first|done|simp),H⟩
 clear j o;generalize Vp.days l=z at d |-;go_enter Tryz.func233,Tryz.ntmps233
 go_wp2_with (go_at_call 287;(with_reducible refine d.mono ?_);rintro e W ⟨rfl,H⟩)
 go_ret
 exact⟨aF (by simp),H⟩
theorem kF(dst x y t' pos af gd)(H:z.size=21)(d:db (i x)=ZX)(e:bF (i x)=w.heap.size)(o:cV (i y)=ZX)(B:(bA (i y)).size=21)(C:bh (bA (i y)).toList=ZX) :
 (execOp i ⟨dst,.store 25 x y,t',pos,af,gd⟩).run Z8 (w.alloc (.cells z t))=.ok .skip (w.alloc (.cells (bA (i y)) t)) :=
 l0 i w _ 20 (by kernel_rfl) z t dst x y t' pos af gd H d e o B C
theorem gO(e:En):bh e.dat.toList=ZX:=by
 unfold En.dat;simp [aL,aQ,aP,aR,aO]
def DV(w:ZY)(cs b:Zy Z2)(wr:ZY):Prop:=Z4 w.heap.size w wr/\row wr w.heap.size=cs/\row wr (w.heap.size+1)=b/\w.heap.size+2<=wr.heap.size
theorem DV.bel{w:ZY}(cs b:Zy Z2)(h:DV w cs b wr):Z4 w.heap.size w wr:=h.1
theorem DV.new(cs b:Zy Z2)(t T:TypeId):DV w cs b ((w.alloc (.cells cs t)).alloc (.cells b T)):=by
 have S:(w.alloc (.cells cs t)).heap.size=w.heap.size+1:=by simp
 refine⟨by exact aB,fA (t:=t) (fr:=(0,0)) ((heap_alloc_old _ _ (by simp)).trans (Zs w _)),?_,by simp⟩
 have:=Zs (w.alloc (.cells cs t)) (.cells b T);rw[S] at this;exact fA this
theorem DV.below{w W:ZY}(h:DV w cs b wr)(H:Z4 wr.heap.size wr W):DV w cs b W:=by
 obtain⟨d,e,o,B⟩:=h;have C:=H.size;refine⟨bt d H,?_,?_,by omega⟩
 .unfold row at *;rw[H.block _ (by omega)];exact e
 .unfold row at *;rw[H.block _ (by omega)];exact o
theorem DV.alloc{w:ZY}(h:DV w cs b wr)(o:Obj):DV w cs b (wr.alloc o):=h.below ((Below.refl _ _).alloc (Nat.le_refl _) o)
theorem DV.e{w:ZY}(h:DV w cs b wr)(o:Nat)(v:Z2)(H:cs[o]?=Z9 v):wr.cell? ⟨w.heap.size,o,Z7⟩=Z9 v:=ae h.2.1 o v H
theorem DV.d{w:ZY}(h:DV w cs b wr)(o:Nat)(v:Z2)(H:b[o]?=Z9 v):wr.cell? ⟨w.heap.size+1,o,Z7⟩=Z9 v:=ae h.2.2.1 o v H
theorem within11(W:ZY) :
 ZH Z8 164 #[.int .i64 0,.int .i64 1099511627776,.slice (Z9 ⟨W.heap.size,0,Z7⟩) 11 11] (W.alloc (.cells #[.int .i64 p,.int .i64 y,.int .i64 m,.int .i64 v,.int .i64 u,.int .i64 r,.int .i64 s,.int .i64 q,.int .i64 x,.int .i64 k,.int .i64 h] t)) fun e d=>e=.returned (.bool (Vp.rng 0 1099511627776 [p,y,m,v,u,r,s,q,x,k,h]))/\(W.alloc (.cells #[.int .i64 p,.int .i64 y,.int .i64 m,.int .i64 v,.int .i64 u,.int .i64 r,.int .i64 s,.int .i64 q,.int .i64 x,.int .i64 k,.int .i64 h] t))=d:=by
 refine sQ 0 1099511627776 W.heap.size 11 [p,y,m,v,u,r,s,q,x,k,h] _ (by simp) (by simp) (fun j H=>?_)
 rw[cell_of_row _ W.heap.size (0+j) _ t (0,0) (Zs W _)];have H:j<11:=H;rcases (by omega:j=0\/j=1\/j=2\/j=3\/j=4\/j=5\/j=6\/j=7\/j=8\/j=9\/j=10) with rfl|rfl|rfl|rfl|rfl|rfl|rfl|rfl|rfl|rfl|rfl <;> rfl
theorem within1n(W:ZY)(b:Nat)(H:b=W.heap.size) :
 ZH Z8 164 #[.int .i64 A,.int .i64 j,.slice (Z9 ⟨b,0,Z7⟩) 1 1] (W.alloc (.cells #[.int .i64 n] t)) fun e d=>e=.returned (.bool (Vp.rng A j [n]))/\(W.alloc (.cells #[.int .i64 n] t))=d :=
 kR A j n b _ (by subst H;simp [go_sem])
theorem mw(k:Nat)(H:k<l.length)(h:Vp.altAt l k=ZW):Vp.alts l=ZW:=by
 rw[Yq];intro e;rw[mD e k H] at h;cases h
theorem sZ(h:∀ j,j<l.length->Vp.altAt l j=ZX):Vp.alts l=ZX:=by
 unfold Vp.alts Ds.rest;simpa using h
theorem rZ(k:Nat)(H:k<l.length)(n:Int)(d:n=l[k]):Vp.altAt l k=(decide (1<=n)&&decide (n<=1099511627776)&&(decide (k=0) || decide (l.getD (k - 1) 0<n))):=by
 unfold Vp.altAt;rw[show l.getD k 0=n by rw[d,Zm,ZE H];rfl]
attribute [local go_sem ↓] fe kF
attribute [local go_sem] fx aS aH aK aT ak aI aw az aM ah fp bW gO cf
theorem vh(s:Z6):(s.toList.isEmpty=ZX/\(Ds.bl s).isEmpty=ZX)\/(s.toList.isEmpty=ZW/\(Ds.bl s).isEmpty=ZW):=by
 by_cases H:s.size=0
 .exact Or.inl ⟨ju _ H,by rw[Yi,Ds.bl_length];exact H⟩
 .exact Or.inr ⟨gG _ (by omega),by rw[Yq,Ne,Yi,Ds.bl_length];exact H⟩
theorem AJ(X V e o B d:Bool):a=ZW\/a=ZX/\c=ZW\/a=ZX/\c=ZX/\f=ZW\/a=ZX/\c=ZX/\f=ZX/\g=ZW\/a=ZX/\c=ZX/\f=ZX/\g=ZX/\X=ZW\/a=ZX/\c=ZX/\f=ZX/\g=ZX/\X=ZX/\V=ZW/\e=ZW\/a=ZX/\c=ZX/\f=ZX/\g=ZX/\X=ZX/\V=ZX/\o=ZW/\B=ZW\/a=ZX/\c=ZX/\f=ZX/\g=ZX/\X=ZX/\V=ZX/\o=ZX/\d=ZW\/a=ZX/\c=ZX/\f=ZX/\g=ZX/\X=ZX/\V=ZX/\o=ZX/\d=ZX\/a=ZX/\c=ZX/\f=ZX/\g=ZX/\X=ZX/\V=ZX/\o=ZW/\B=ZX/\d=ZW\/a=ZX/\c=ZX/\f=ZX/\g=ZX/\X=ZX/\V=ZX/\o=ZW/\B=ZX/\d=ZX\/a=ZX/\c=ZX/\f=ZX/\g=ZX/\X=ZX/\V=ZW/\e=ZX/\o=ZW/\B=ZW\/a=ZX/\c=ZX/\f=ZX/\g=ZX/\X=ZX/\V=ZW/\e=ZX/\o=ZX/\d=ZW\/a=ZX/\c=ZX/\f=ZX/\g=ZX/\X=ZX/\V=ZW/\e=ZX/\o=ZX/\d=ZX\/a=ZX/\c=ZX/\f=ZX/\g=ZX/\X=ZX/\V=ZW/\e=ZX/\o=ZW/\B=ZX/\d=ZW\/a=ZX/\c=ZX/\f=ZX/\g=ZX/\X=ZX/\V=ZW/\e=ZX/\o=ZW/\B=ZX/\d=ZX:=by
 cases a <;> cases c <;> cases f <;> cases g <;> cases X <;> cases V <;> cases e <;> cases o <;> cases B <;> cases d <;> simp
theorem Fg(e:En)(al G:Z2)(l:List Int)(w:ZY)(hm:MaxL w)(hT:Tab w)(hI:IS w al l) :
 ZH Z8 157 #[.agg (e.vals al G)] w fun r w'=>r=.returned (.bool (Vp.dat e l))/\Z4 w.heap.size w w':=by
 obtain⟨L,N,rfl,hz,C⟩:=hI;have HC:=lh C;clear C;go_enter Tryz.func157,Tryz.ntmps157
 simp only[List.append_eq,List.cons_append,List.nil_append]
 go_wp2_with fail
 go_loopw [11] (fun i wr=>∃ k:Nat,k<=l.length/\i=.int .i64 k/\DV w (e.vals (.slice L l.length N) G) e.dat wr/\∀ j,j<k->Vp.altAt l j=ZX) (fun i _=>l.length - (Zq i).toNat)
 case atStart=>exact⟨0,Nat.zero_le _,rfl,DV.new w _ _ _ _,fun j h=>by omega⟩
 case round =>
  obtain⟨k,hk,rfl,V,P⟩:=hrel;have HA:=lh P;clear P;have U:=V.1;have z0:=U.size;have z2:=V.2.2.2;have H:=lh V;have O:=V.e 23 _ (cf e _ G);clear V;by_cases J:k<l.length
  .obtain⟨ab,ao,rfl,Z,F⟩:=HC.o (by omega);have q0:=(U.cell (p:=⟨ab,ao+k,Z7⟩) Z).trans (F k J);obtain⟨n,hn⟩:∃ n,n=l[k]:=⟨_,rfl⟩;rw[<-hn] at q0;have o:=rZ l k J n hn;clear hn;by_cases p1:n<1
   .rw[ZG (by omega),XT,XT] at o;have X:=lh (mw l k J o);clear o F;go_wp2_with fail
    go_ret
    exact⟨aF (by unfold Vp.dat;rw[X.o];rfl),U⟩
   by_cases p2:1099511627776<n
   .rw[ZG (p:=n<=1099511627776) (by omega),Bool.and_false,XT] at o;have X:=lh (mw l k J o);clear o F;go_wp2_with fail
    go_ret
    exact⟨aF (by unfold Vp.dat;rw[X.o];rfl),U⟩
   rw[ZI (p:=1<=n) (by omega),ZI (p:=n<=1099511627776) (by omega),Zc,Zc] at o;by_cases p3:k=0
   .subst p3;rw[ZI rfl,Bool.true_or] at o;rw[Nat.add_zero] at q0;have HV:=lh o;clear o F;go_wp2_with fail
    go_roundw
    case rel=>exact⟨1,by omega,by go_num,H.o,fun j hj=>by obtain rfl:j=0:=(by omega);exact HV.o⟩
    case measure=>simp [Zq];omega
   rw[ZG p3,Bool.false_or] at o;obtain⟨i,rfl⟩:∃ i,k=i+1:=⟨k - 1,by omega⟩;simp only[Nat.add_sub_cancel] at o
   have q1:=(U.cell (p:=⟨ab,ao+i,Z7⟩) Z).trans (F i (by omega));obtain⟨q,hq⟩:∃ q,q=l[i]:=⟨_,rfl⟩;rw[<-hq] at q1;rw[show l.getD i 0=q by rw[hq,Zm,ZE (by omega)];rfl] at o;clear hq F p3;by_cases p4:n<=q
   .rw[ZG (by omega)] at o;have X:=lh (mw l (i+1) J o);clear o;go_wp2_with fail
    go_ret
    exact⟨aF (by unfold Vp.dat;rw[X.o];rfl),U⟩
   .rw[ZI (by omega)] at o;have HV:=lh o;clear o;go_wp2_with fail
    go_roundw
    case rel=>exact⟨i+2,by omega,by go_num,H.o,fun j hj=>by
     by_cases e:j=i+1
     .subst e;exact HV.o
     .exact HA.o j (by omega)⟩
    case measure=>simp [Zq];omega
  .have a0:Vp.alts l=ZX:=sZ l fun j hj=>HA.o j (by omega)
   have I:Vp.dat e l=(Vp.rng 0 1099511627776 [e.d3,e.d4,e.d5,e.d6,e.d7,e.d8,e.d9,e.d10,e.d11,e.d12,e.d13]&&(Vp.rng 1 1099511627776 [e.d0]&&(Vp.rng 0 3 [e.d1]&&(Vp.rng 0 2 [e.d2]&&(Vp.rng 0 3 [e.cls]&&(((Ds.bl e.vol).isEmpty || Vp.word (Ds.bl e.vol))&&(((Ds.bl e.own).isEmpty || Vp.word (Ds.bl e.own))&&(Vp.days [e.cr,e.ex,e.used]&&decide (l.length<=4))))))))):=by
    unfold Vp.dat Vp.own;rw[a0,Zc]
   have b3:w.heap.size<wr.heap.size:=by omega
   have b4:w.heap.size+1<wr.heap.size:=by omega
   have b5:w.heap.size+1<wr.heap.size+1:=by omega
   have b6:w.heap.size+1<wr.heap.size+1+1:=by omega
   have b7:w.heap.size+1<wr.heap.size+1+1+1:=by omega
   have b8:w.heap.size+1<wr.heap.size+1+1+1+1:=by omega
   have h0:=fun t W=>within11 e.d3 e.d4 e.d5 e.d6 e.d7 e.d8 e.d9 e.d10 e.d11 e.d12 e.d13 t W
   have h1:=fun t W b h=>within1n 1 1099511627776 e.d0 t W b h
   have h2:=fun t W b h=>within1n 0 3 e.d1 t W b h
   have h3:=fun t W b h=>within1n 0 2 e.d2 t W b h
   have h4:=fun t W b h=>within1n 0 3 e.cls t W b h
   have h5:=fun (W:ZY) (h:Z4 w.heap.size w W)=>mS e.vol W (hm.below h)
   have h6:=fun (W:ZY) (h:Z4 w.heap.size w W)=>mS e.own W (hm.below h)
   have h7:∀ (t:TypeId) (W:ZY),Z4 w.heap.size w W->ZH Z8 233 #[.slice (Z9 ⟨W.heap.size,0,Z7⟩) 3 3] (W.alloc (.cells #[.int .i64 e.cr,.int .i64 e.ex,.int .i64 e.used] t)) fun r w'=>r=.returned (.bool (Vp.days [e.cr,e.ex,e.used]))/\Z4 (W.alloc (.cells #[.int .i64 e.cr,.int .i64 e.ex,.int .i64 e.used] t)).heap.size (W.alloc (.cells #[.int .i64 e.cr,.int .i64 e.ex,.int .i64 e.used] t)) w':=fun t W h =>
    G6 W.heap.size 3 [e.cr,e.ex,e.used] _ (hT.below (h.alloc h.size _)) (by simp) (by simp) (fun j hj=>by
     rw[cell_of_row _ W.heap.size j _ t (0,0) (Zs W _)];have hj:j<3:=hj;rcases (by omega:j=0\/j=1\/j=2) with rfl|rfl|rfl <;> rfl)
   generalize Vp.rng 0 1099511627776 [e.d3,e.d4,e.d5,e.d6,e.d7,e.d8,e.d9,e.d10,e.d11,e.d12,e.d13]=a at h0 I;generalize Vp.rng 1 1099511627776 [e.d0]=c at h1 I;generalize Vp.rng 0 3 [e.d1]=f at h2 I;generalize Vp.rng 0 2 [e.d2]=g at h3 I;generalize Vp.rng 0 3 [e.cls]=x4 at h4 I;generalize Vp.word (Ds.bl e.vol)=x5 at h5 I;generalize Vp.word (Ds.bl e.own)=x6 at h6 I;generalize Vp.days [e.cr,e.ex,e.used]=x7 at h7 I;have H0:=lh h0;have H1:=lh h1;have H2:=lh h2;have H3:=lh h3;have H4:=lh h4;have H5:=lh h5;have H6:=lh h6;have H7:=lh h7;have S:=H.o.e 24 _ (cM e _ G);have e0:=H.o.d 0 _ (qH e);have e1:=H.o.d 1 _ (qI e);have e2:=H.o.d 2 _ (qJ e);have e3:=H.o.d 3 _ (wH e);have e4:=H.o.d 4 _ (wI e);have e5:=H.o.d 5 _ (wW e);have e6:=H.o.d 6 _ (wY e);have e7:=H.o.d 7 _ (wZ e);have e8:=H.o.d 8 _ (xd e);have e9:=H.o.d 9 _ (xe e);have a6:=H.o.d 10 _ (vG e);have a7:=H.o.d 11 _ (vH e);have a8:=H.o.d 12 _ (vI e);have a9:=H.o.d 13 _ (vJ e);have ad:=H.o.d 15 _ (p9 e);have a5:=H.o.d 16 _ (mW e);have Y:=H.o.d 17 _ (eQ e);have Q:=H.o.d 18 _ (eB e);have R:=H.o.d 19 _ (eC e);clear h0 h1 h2 h3 h4 h5 h6 h7 a0;obtain⟨vb,g1,g2⟩:∃ b,e.vol.toList.isEmpty=b/\(Ds.bl e.vol).isEmpty=b:=by rcases vh e.vol with h|h <;> exact⟨_,h⟩
   obtain⟨ob,k1,k2⟩:∃ b,e.own.toList.isEmpty=b/\(Ds.bl e.own).isEmpty=b:=by rcases vh e.own with h|h <;> exact⟨_,h⟩
   rw[g2,k2] at I;have HD:=lh I;clear I g2 k2;rcases AJ a c f g x4 vb x5 ob x6 x7 with rfl|⟨rfl,rfl⟩|⟨rfl,rfl,rfl⟩|⟨rfl,rfl,rfl,rfl⟩|⟨rfl,rfl,rfl,rfl,rfl⟩|⟨rfl,rfl,rfl,rfl,rfl,rfl,rfl⟩|⟨rfl,rfl,rfl,rfl,rfl,rfl,rfl,rfl⟩|⟨rfl,rfl,rfl,rfl,rfl,rfl,rfl,rfl⟩|⟨rfl,rfl,rfl,rfl,rfl,rfl,rfl,rfl⟩|⟨rfl,rfl,rfl,rfl,rfl,rfl,rfl,rfl,rfl⟩|⟨rfl,rfl,rfl,rfl,rfl,rfl,rfl,rfl,rfl⟩|⟨rfl,rfl,rfl,rfl,rfl,rfl,rfl,rfl,rfl⟩|⟨rfl,rfl,rfl,rfl,rfl,rfl,rfl,rfl,rfl⟩|⟨rfl,rfl,rfl,rfl,rfl,rfl,rfl,rfl,rfl⟩|⟨rfl,rfl,rfl,rfl,rfl,rfl,rfl,rfl,rfl,rfl⟩|⟨rfl,rfl,rfl,rfl,rfl,rfl,rfl,rfl,rfl,rfl⟩
   all_goals
    go_wp2_with (first|((with_reducible refine (H0.o _ _).mono ?_);rintro _ T ⟨rfl,rfl⟩)|((with_reducible refine (H1.o _ _ _ (by simp)).mono ?_);rintro _ T ⟨rfl,rfl⟩)|((with_reducible refine (H2.o _ _ _ (by simp)).mono ?_);rintro _ T ⟨rfl,rfl⟩)|((with_reducible refine (H3.o _ _ _ (by simp)).mono ?_);rintro _ T ⟨rfl,rfl⟩)|((with_reducible refine (H4.o _ _ _ (by simp)).mono ?_);rintro _ T ⟨rfl,a4⟩;have D:DV w (e.vals (.slice L l.length N) G) e.dat T:=(by rw[<-a4];repeat (first|exact K|exact E|exact B|exact D|exact H.o|refine DV.alloc ?_ _));have a5:=D.d 16 _ (mW e);have Y:=D.d 17 _ (eQ e);have Q:=D.d 18 _ (eB e);have R:=D.d 19 _ (eC e);have S:=D.e 24 _ (cM e _ G);have O:=D.e 23 _ (cf e _ G);have z3:=D.2.2.2;have af:w.heap.size<T.heap.size:=(by omega);have ar:w.heap.size+1<T.heap.size:=(by omega);clear a4)|(go_at_call 165;(with_reducible refine (H5.o _ (DV.bel (e.vals (.slice L l.length N) G) e.dat (by repeat (first|exact K|exact E|exact B|exact D|exact H.o|refine DV.alloc ?_ _)))).mono ?_);rintro _ w4 ⟨rfl,a1⟩;have B:=DV.below (show DV w (e.vals (.slice L l.length N) G) e.dat _ by repeat (first|exact K|exact E|exact B|exact D|exact H.o|refine DV.alloc ?_ _)) a1;have Y:=B.d 17 _ (eQ e);have Q:=B.d 18 _ (eB e);have R:=B.d 19 _ (eC e);have S:=B.e 24 _ (cM e _ G);have O:=B.e 23 _ (cf e _ G);have z4:=B.2.2.2;have av:w.heap.size<w4.heap.size:=(by omega);have b0:w.heap.size+1<w4.heap.size:=(by omega);clear a1)|(go_at_call 165;(with_reducible refine (H6.o _ (DV.bel (e.vals (.slice L l.length N) G) e.dat (by repeat (first|exact K|exact E|exact B|exact D|exact H.o|refine DV.alloc ?_ _)))).mono ?_);rintro _ w5 ⟨rfl,a2⟩;have E:=DV.below (show DV w (e.vals (.slice L l.length N) G) e.dat _ by repeat (first|exact K|exact E|exact B|exact D|exact H.o|refine DV.alloc ?_ _)) a2;have Q:=E.d 18 _ (eB e);have R:=E.d 19 _ (eC e);have S:=E.e 24 _ (cM e _ G);have O:=E.e 23 _ (cf e _ G);have z5:=E.2.2.2;have b1:w.heap.size<w5.heap.size:=(by omega);have b2:w.heap.size+1<w5.heap.size:=(by omega);clear a2)|(go_at_call 233;(with_reducible refine (H7.o _ _ (DV.bel (e.vals (.slice L l.length N) G) e.dat (by repeat (first|exact K|exact E|exact B|exact D|exact H.o|refine DV.alloc ?_ _)))).mono ?_);rintro _ w6 ⟨rfl,a3⟩;have K:=DV.below (show DV w (e.vals (.slice L l.length N) G) e.dat _ by repeat (first|exact K|exact E|exact B|exact D|exact H.o|refine DV.alloc ?_ _)) a3;have O:=K.e 23 _ (cf e _ G);clear a3))
    go_ret
    exact⟨aF (by rw[HD.o];first|rfl|(simp only[Zc,Bool.or_true,Bool.true_or];rw[Bool.eq_iff_iff,ZU,ZU];omega)),DV.bel (e.vals (.slice L l.length N) G) e.dat (by repeat (first|exact K|exact E|exact B|exact D|exact H.o|refine DV.alloc ?_ _))⟩
end Go.Proofs.YtnkjliahpeebjaaGreatDoor
