/- Catalogs. -/
import Derived.Test.YtnkjliahpeebjaaGreatDoorRmv
import Derived.Lib.BufferMore
set_option maxRecDepth 8000
set_option maxHeartbeats 16000000
open Option renaming some->Z9,none->Z8
open _root_ renaming ByteArray->Z7,List->Z5,if_neg->Z0,if_pos->ZX,beq_eq_false_iff_ne->ZG,Array->ZE,Option->Zy,beq_iff_eq->Yy
open Go renaming Value->Z3,World->Z2,execOp->Ya
open Bool renaming true->ZZ,false->ZW,and_eq_true->ZT
open Nat renaming lt_of_lt_of_le->ZY,le_refl->ZS,mul_le_mul_right->Yq
open List renaming getElem?_eq_getElem->ZN,length_map->Zq
open Array renaming getElem?_eq_none->Za,getElem?_eq_some_iff->Y9,getElem?_extract->Yz,getElem?_eq_getElem->Yl,ext_getElem?->Yg,getElem?_setIfInBounds->XM,size_append->Xy,getElem?_append_left->Wx
namespace Go.Proofs.YtnkjliahpeebjaaGreatDoor
open Go.RowKit
variable(f:Operand->Z3)(p:Nat){W w w' W':Z2}(t:Z3)(l:Z5 Rw){k i m:Int}{e:En}{o b:Nat}{cs g:ZE Z3}(fl cd a:Int){s:Z7}{c d:Z3}{n j:Nat}
section
set_option linter.unusedSimpArgs false
def opc(k i:Int)(g:ZE Z3)(s:Z7):ZE Z3:=(#[.int .i64 k,.int .i64 i]++g)++#[.string s]
theorem BH(h:g.size=33):(opc k i g s).size=36:=by
 unfold opc;rw[Xy,Xy,h];rfl
theorem GZ:(opc k i g s)[0]?=Z9 (.int .i64 k):=by
 unfold opc;rw[Array.append_assoc,Wx (by simp)];rfl
theorem In:(opc k i g s)[1]?=Z9 (.int .i64 i):=by
 unfold opc;rw[Array.append_assoc,Wx (by simp)];rfl
theorem Gq(h:g.size=33):(opc k i g s)[35]?=Z9 (.string s):=by
 unfold opc;rw[Array.getElem?_append_right (by rw[Xy,h];exact ZS 35),Xy,h];rfl
theorem El(h:g.size=33):(opc k i g s).extract 2 35=g:=by
 unfold opc;apply Yg
 intro j;rw[Yz];by_cases H:j<33
 .rw[ZX (by rw[Xy,Xy,h];simp;omega),Wx (by rw[Xy,h];simp;omega),Array.getElem?_append_right (by simp)];simp
 .rw[Za (by omega:g.size<=j),Z0 (by simp;omega)]
theorem Gs{v:Z3}(h:g[j]?=Z9 v):(opc k i g s)[2+j]?=Z9 v:=by
 have H:=(Y9.1 h).1;unfold opc;rw[Wx (by rw[Xy];simp;omega),Array.getElem?_append_right (by simp)];simpa using h
theorem Em(h:bh g.toList=ZZ):bh (opc k i g s).toList=ZZ:=by
 have H:∀ a b:Z5 Z3,bh a=ZZ->bh b=ZZ->bh (a++b)=ZZ:=by
  intro a b q u
  induction a with
  | nil=>exact u
  | cons x r I=>rw[List.cons_append,aL,ZT];rw[aL,ZT] at q;exact⟨q.1,I q.2⟩
 unfold opc;rw[Array.toList_append,Array.toList_append];exact H _ _ (H _ _ rfl h) rfl
def opv(k i:Int)(e:En)(c d:Z3)(s:Z7):ZE Z3:=opc k i (e.vals c d) s
theorem eO(k i:Int)(e:En)(c d:Z3)(s:Z7):(opv k i e c d s).size=36:=BH (ah _ _ _)
theorem wT:(opv k i e c d s)[0]?=Z9 (.int .i64 k):=GZ
theorem wU:(opv k i e c d s)[1]?=Z9 (.int .i64 i):=In
theorem qE:(opv k i e c d s)[35]?=Z9 (.string s):=Gq (ah _ _ _)
theorem iZ{v:Z3}(h:(e.vals c d)[j]?=Z9 v):(opv k i e c d s)[2+j]?=Z9 v:=Gs h
theorem kl(h:bh (e.vals c d).toList=ZZ):bh (opv k i e c d s).toList=ZZ:=Em h
theorem lT(w:Z2)(dst x t pos af gd)(h:db (f x)=ZZ)(H:(row w (bF (f x))).size=36) :
 (Ya f ⟨dst,.load 31 x,t,pos,af,gd⟩).run Tryz.prog w=.ok (.value (.agg (row w (bF (f x))))) w :=
 kW f w _ 35 _ Tryz.underlying31 rfl (by kernel_rfl) dst x t pos af gd h H
theorem nJ(w:Z2)(z:ZE Z3)(t:TypeId)(dst x y t' pos af gd)(h:z.size=36)(H:db (f x)=ZZ)(q:bF (f x)=w.heap.size)(r:cV (f y)=ZZ)(u:(bA (f y)).size=36)(v:bh (bA (f y)).toList=ZZ) :
 (Ya f ⟨dst,.store 31 x y,t',pos,af,gd⟩).run Tryz.prog (w.alloc (.cells z t))=.ok .skip (w.alloc (.cells (bA (f y)) t)) :=
 l0 f w _ 35 (by kernel_rfl) z t dst x y t' pos af gd h H q r u v
def eI(w:Z2)(b o:Nat):ZE Z3:=(row w b).extract o (o+36)
theorem zL(h:eI w b o=cs)(i:Nat)(v:Z3)(H:cs[i]?=Z9 v):w.cell? ⟨b,o+i,Z8⟩=Z9 v:=by
 unfold eI at h;subst h;rw[Yz] at H;split at H
 .exact ae rfl (o+i) v H
 .cases H
theorem rQ(r:Below w.heap.size w w')(h:eI w b o=cs)(q:0<cs.size):eI w' b o=cs:=by
 have z:0<(row w b).size:=by
  unfold eI at h;rcases Nat.eq_zero_or_pos (row w b).size with H|H
  .rw[<-h,Array.size_extract] at q;omega
  .exact H
 unfold eI at *;rw[am r rfl z];exact h
theorem JF(x:cs.size=36)(h:∀ i v,cs[i]?=Z9 v->w.cell? ⟨b,o+i,Z8⟩=Z9 v):eI w b o=cs:=by
 unfold eI;apply Yg
 intro i;rw[Yz];by_cases u:i<36
 .have H:=h i cs[i] (Yl (by omega))
  have q:(row w b)[o+i]?=Z9 cs[i]:=by
   unfold row
   cases e:w.heap[b]? with
   | none=>have:=block_lt_of_cell H;rw[Array.getElem?_eq_none_iff] at e;simp only at this;omega
   | some O =>
     cases O with
     | cells c t F=>simp only;rw[<-cell_of_row w b (o+i) c t F e];exact H
     | _=>simp [World.cell?,e] at H
  have r:o+i<(row w b).size:=(Y9.1 q).1;rw[ZX (by omega),q,Yl (by omega)]
 .rw[Za (by omega:cs.size<=i)];split
  .omega
  .rfl
theorem oD(h:row w b=opv k i e c d s):mid w b 2=e.vals c d:=by
 unfold mid;rw[h];exact El (ah _ _ _)
theorem wQ(w:Z2)(dst x t pos af gd)(H:lQ (f x)=ZZ)(q:(eI w (bF (f x)) (lO (f x))).size=36) :
 (Ya f ⟨dst,.load 31 x,t,pos,af,gd⟩).run Tryz.prog w=.ok (.value (.agg (eI w (bF (f x)) (lO (f x))))) w:=by
 obtain⟨g,o,r⟩:∃ g o,f x=.pointer (Z9 ⟨g,o,Z8⟩):=by
  unfold lQ at H;split at H
  .rename_i g o h;exact⟨g,o,h⟩
  .cases H
 rw[r,aH,bE] at q |-;simp only at q |-
 unfold Ya
 have y:w.rangeAt g o (eI w g o).toList:=fun j v u=>by
  rw[Array.getElem?_toList] at u;exact zL rfl j v u
 have z:(eI w g o).toList.length=36:=by simpa using q
 have A:=run_loadAt_mid (P:=Tryz.prog) w g o 31 _ _ y Tryz.underlying31 rfl (by rw[z];kernel_rfl);simp only[r,Sem.run_bind,A,Result.andThen_ok,Sem.run_pure,Array.toArray_toList]
structure Oz where
 k:Int
 i:Int
 x:Ef
 s:Z7
def OF(w:Z2)(b o:Nat)(z:Oz):Prop :=
 ∃ (A:Zy Addr) (C:Nat) (h:Zy Addr) (q:Nat),eI w b o=opv z.k z.i z.x.e (.slice A z.x.n1 C) (.slice h z.x.n2 q) z.s/\z.x.n1<=9223372036854775807/\z.x.n2<=9223372036854775807/\(z.x.n1<=1000->∃ l:Z5 Int,l.length=z.x.n1/\IS w (.slice A z.x.n1 C) l)/\(z.x.n2<=1000->z.x.gs.length=z.x.n2/\GS w (.slice h z.x.n2 q) z.x.gs)
theorem OF.below{z:Oz}(h:OF w b o z)(H:Below w.heap.size w w'):OF w' b o z:=by
 obtain⟨A,C,u,v,y,B,D,E,r⟩:=h
 exact⟨A,C,u,v,rQ H y (by rw[eO];decide),B,D,fun q=>by
  obtain⟨l,G,x⟩:=E q;exact⟨l,G,x.below H⟩,fun q=>⟨(r q).1,(r q).2.below H⟩⟩
def OS(w:Z2)(a:Zy Addr)(n:Nat)(F:Nat->Oz):Prop:=n<=9223372036854775807/\∀ k,k<n->∃ b o,a=Z9 ⟨b,o,Z8⟩/\b<w.heap.size/\OF w b (o+k*36) (F k)
theorem OS.below{a:Zy Addr}{F:Nat->Oz}(h:OS w a n F)(H:Below w.heap.size w w'):OS w' a n F :=
 ⟨h.1,fun k v=>by
  obtain⟨b,o,q,r,u⟩:=h.2 k v;exact⟨b,o,q,ZY r H.size,u.below H⟩⟩
attribute [local go_sem ↓] lT nJ wQ
attribute [local go_sem] bn aS aH bE bH aK aT ak aI aw az aM ah aQ aL aP aO aR aY aW eO
def few6X(z:Oz):Prop:=z.x.e.name.size<=60/\z.x.e.target.size<=60/\z.x.n2<=12/\z.x.n1<=8/\z.s.size<=60
def few6P(F:Nat->Oz)(n:Nat)(m:Int):Prop:=(n:Int)<=m/\∀ k,k<n->few6X (F k)
def Few6R(F:Nat->Oz)(n:Nat)(m:Int)(w w':Z2)(r:Ending):Prop:=∃ b:Bool,r=.returned (.bool b)/\(b=ZZ->few6P F n m)/\Below w.heap.size w w'
theorem Few6R.no{F:Nat->Oz}(h:Below w.heap.size w w'):Few6R F n m w w' (.returned (.bool ZW)):=⟨ZW,rfl,(fun h=>by cases h),h⟩
theorem few36(a:Zy Addr)(n c:Nat)(F:Nat->Oz)(m:Int)(w:Z2)(H:OS w a n F) :
 Calls Tryz.prog 18 #[.slice a n c,.int .i64 m] w fun r w'=>Few6R F n m w w' r:=by
 have S:=lh H;have I:=H.1;clear H;go_enter Tryz.func18,Tryz.ntmps18
 go_wp2_with fail
 go_loopw [9] (fun i wr=>∃ k:Nat,k<=n/\i=.int .i64 k/\(∀ j,j<k->few6X (F j))/\Below w.heap.size w wr) (fun i _=>n - (intOf i).toNat)
 case atStart=>exact⟨0,Nat.zero_le _,rfl,(fun j G=>absurd G (by omega)),by exact aB⟩
 case round =>
  obtain⟨k,hk,rfl,u,B⟩:=hrel;have K:=lh u;have z0:=B.size;clear u;by_cases D:k<n
  .obtain⟨b,o,rfl,hb,A,C,y,z,q,h1,h2,-,-⟩:=(S.o.below B).2 k D;have hz:(eI wr b (o+k*36)).size=36:=by rw[q];exact eO _ _ _ _ _ _
   have J:bh (opv (F k).k (F k).i (F k).x.e (.slice A (F k).x.n1 C) (.slice y (F k).x.n2 z) (F k).s).toList=ZZ:=kl (ay (F k).x.e (.slice A (F k).x.n1 C) (.slice y (F k).x.n2 z) rfl rfl);have R:=ak wr (opv (F k).k (F k).i (F k).x.e (.slice A (F k).x.n1 C) (.slice y (F k).x.n2 z) (F k).s) 31 (0,0);have n3:=ae R 3 _ (iZ (j:=1) (aq _ _ _));have Z:=ae R 31 _ (iZ (j:=29) (cB _ _ _));have a0:=ae R 34 _ (iZ (j:=32) (cC _ _ _));have Y:=ae R 25 _ (iZ (j:=23) (cf _ _ _));have a3:=ae R 35 _ qE;obtain⟨Q,E⟩:∃ b,decide (60<((F k).x.e.name.size:Int))=b:=⟨_,rfl⟩;obtain⟨L,T⟩:∃ b,decide (60<((F k).x.e.target.size:Int))=b:=⟨_,rfl⟩;obtain⟨N,U⟩:∃ b,decide (12<((F k).x.n2:Int))=b:=⟨_,rfl⟩;obtain⟨O,V⟩:∃ b,decide (8<((F k).x.n1:Int))=b:=⟨_,rfl⟩;obtain⟨P,X⟩:∃ b,decide (60<((F k).s.size:Int))=b:=⟨_,rfl⟩
   have v:Hid (Q=ZW->L=ZW->N=ZW->O=ZW->P=ZW->few6X (F k)):=lh (by
    rintro rfl rfl rfl rfl rfl;rw[decide_eq_false_iff_not] at E T U V X;exact⟨by omega,by omega,by omega,by omega,by omega⟩)
   clear R;cases Q
   cases L
   cases N
   cases O
   cases P
   .go_wp2_with fail
    go_roundw
    case rel =>
     refine⟨k+1,by omega,by go_num,fun j G=>?_,by exact aB⟩
     rcases Nat.lt_or_ge j k with h|h
     .exact K.o j h
     .obtain rfl:j=k:=by omega
      exact v.o rfl rfl rfl rfl rfl
    case measure=>simp [intOf];omega
   all_goals
    go_wp2_with fail
    go_ret
    exact Few6R.no (by exact aB)
  .obtain rfl:k=n:=by omega
   obtain⟨Q,E⟩:∃ b,decide ((k:Int)<=m)=b:=⟨_,rfl⟩;have v:Hid (Q=ZZ->(k:Int)<=m):=lh (by rintro rfl;exact of_decide_eq_true E);go_wp2_with fail
   go_ret
   exact⟨_,rfl,fun h=>⟨v.o h,K.o⟩,B⟩
end
section
set_option linter.unusedSimpArgs false
theorem xT(cs:ZE Z3)(o i:Nat)(v:Z3)(H:i<33)(q:o+33<=cs.size):(cs.setIfInBounds (o+i) v).extract o (o+33)=(cs.extract o (o+33)).setIfInBounds i v:=by
 apply Yg
 intro j;rw[Yz,Array.size_setIfInBounds,XM,XM,Yz,Array.size_extract];by_cases h:j<min (o+33) cs.size - o
 .rw[ZX h,ZX h];by_cases e:i=j
  .subst e;rw[ZX rfl,ZX rfl,ZX (by omega),ZX (by omega)]
  .rw[Z0 e,Z0 (by omega)]
 .rw[Z0 h,Z0 h];by_cases e:i=j
  .subst e;rw[ZX rfl,Z0 (by omega)]
  .rw[Z0 e]
theorem xK(cs:ZE Z3)(j k i:Nat)(v:Z3)(H:i<33)(q:j≠k):(cs.setIfInBounds (k*33+i) v).extract (j*33) (j*33+33)=cs.extract (j*33) (j*33+33):=by
 apply Yg
 intro n;rw[Yz,Yz,Array.size_setIfInBounds,XM];by_cases h:n<min (j*33+33) cs.size - j*33
 .rw[ZX h,ZX h,Z0 (by omega)]
 .rw[Z0 h,Z0 h]
structure AB (W:Z2) (b k:Nat) (cs:ZE Z3) (s:Z5 Fu):Prop where
 e:EB W b cs
 z:s.length*33<=cs.size
 m:∀ j (h:j<s.length),k<=j->∃ a1 c1 a2 c2,cs.extract (j*33) (j*33+33)=s[j].1.vals (.slice a1 0 c1) (.slice a2 0 c2)
theorem AB.block{k:Nat}{s:Z5 Fu}(h:AB W b k cs s)(e:W'.heap[b]?=W.heap[b]?)(H:W.heap.size<=W'.heap.size):AB W' b k cs s:=⟨h.e.of_block e H,h.z,h.m⟩
theorem AB.below{k:Nat}{s:Z5 Fu}(h:AB W b k cs s)(H:Below W.heap.size W W'):AB W' b k cs s:=h.block (H.block _ h.e.2.2) H.size
theorem AB.set{k:Nat}{s:Z5 Fu}(h:AB W b k cs s)(u:k<s.length)(T:Z7):∃ A C q r,AB (W.setCell ⟨b,k*33+29,Z8⟩ (.string T)) b (k+1) (cs.setIfInBounds (k*33+29) (.string T)) s/\mid (W.setCell ⟨b,k*33+29,Z8⟩ (.string T)) b (k*33)=(bT s[k] T).1.vals (.slice A 0 C) (.slice q 0 r):=by
 obtain⟨A,C,q,r,y⟩:=h.m k u (ZS _);have B:=h.z
 have H:k*33+33<=cs.size:=by
  have:(k+1)*33<=s.length*33:=Yq 33 u;omega
 refine⟨A,C,q,r,⟨h.e.set _ (by omega) _,by rw[Array.size_setIfInBounds];exact B,fun j v x=>?_⟩,?_⟩
 .rw[xK _ _ _ _ _ (by decide) (by omega)];exact h.m j v (by omega)
 .unfold mid;rw[(h.e.set (k*33+29) (by omega) (.string T)).1,xT _ _ _ _ (by decide) H,y,sS];rfl
theorem AB.at{k:Nat}{s:Z5 Fu}(h:AB W b k cs s)(H:k<s.length):∃ v,W.cell? ⟨b,k*33+29,Z8⟩=Z9 v:=by
 have:(k+1)*33<=s.length*33:=Yq 33 H;have q:=h.z;exact⟨_,h.e.cell (k*33+29) _ (Yl (by omega))⟩
theorem AB.of{B:Nat}{F:Z3}{s:Z5 Fu}{r:Z5 (ZE Z3)}(h:HJ B W F (s.map cY) r)(V:∀ a∈s,a.2.1=[]/\a.2.2=[])(h0:0<s.length):∃ b c cs,F=.slice (Z9 ⟨b,0,Z8⟩) s.length c/\B<=b/\b<W.heap.size/\AB W b 0 cs s:=by
 have S:=h.len;rw[Zq] at S;have A:=h.own;rw[Zq] at A;rcases A.2 with ⟨-,e⟩|⟨g,u,C,E,R,q,U,hm,X,ht⟩
 .omega
 have D:row W g=C:=fA q;refine⟨g,u,C,E,R,(Y9.1 q).1,⟨D,fun o=>?_,(Y9.1 q).1⟩,?_,fun j z _=>?_⟩
 .simp [World.frozen?,q]
 .rw[X];exact Yq 33 U
 .have v:j<r.length:=by omega
  have y:r[j]?=Z9 r[j]:=ZN v;have Q:(s.map cY)[j]?=Z9 (cY s[j]):=by rw[List.getElem?_map,ZN z];rfl
  obtain⟨G,J,I,K,L,-,-,-,-,-⟩:=h.el j _ _ y Q;obtain⟨g',cc,x,-,T,H⟩:=own_mid h.sz h.own j _ y;rw[E] at x;injection x with N
  injection N with O
  injection O with P
  subst P;obtain⟨Y,Z⟩:=V _ (List.getElem_mem z);refine⟨G,J,I,K,?_⟩
  unfold mid at H;rw[D] at H;rw[H,L];unfold cY;dsimp only;rw[Y,Z];rfl
attribute [local go_sem ↓] aZ fb bf bq cl eX
attribute [local go_sem] bn aS aH bE bH aK aT ak aI aw az aM ah aQ aL aP aO aR aY aW bD ap aq
end
section
set_option linter.unusedSimpArgs false
attribute [local go_sem ↓] aZ bf bq cl eX
attribute [local go_sem] bn aS aH bE bH aK aT ak aI aw az aM ah aQ aL aP aO aR aY aW bD ap aq
end
section
set_option linter.unusedSimpArgs false
def l5(l:Z5 Rw)(fl cd a k i:Int)(x:Fu)(s:Z7):(Z5 Ch × Int) × Int :=
 if k=0 then jS l fl cd a x else if k=1 then jT l fl cd a x.1.kind x.1.name else if k=2 then kB l fl cd a x.1.name s else if k=3 then kE l fl cd a s i else kG l fl cd a s
def eL(l:Z5 Rw)(k i:Int)(x:Fu)(s:Z7):Z5 Ch × Int :=
 if k=0 then jg l x else if k=1 then jb l x.1.kind x.1.name else if k=2 then jd l x.1.name s else if k=3 then jf l s i else jh l s
theorem I9(k i:Int)(x:Fu)(s:Z7)(q:fl<=0)(H:0<=a)(r:DstL l):(l5 l fl cd a k i x s).1=eL l k i x s:=by
 unfold l5 eL;by_cases h:k=0
 .rw[ZX h,ZX h,Eq l fl cd a x q H]
 rw[Z0 h,Z0 h];by_cases h:k=1
 .rw[ZX h,ZX h,EH l fl cd a _ _ q H r]
 rw[Z0 h,Z0 h];by_cases h:k=2
 .rw[ZX h,ZX h,EI l fl cd a _ _ q H r]
 rw[Z0 h,Z0 h];by_cases h:k=3
 .rw[ZX h,ZX h,wf l fl cd a _ _ q H r]
 rw[Z0 h,Z0 h,wi l fl cd a _ q H r]
attribute [local go_sem ↓] fb lT nJ
attribute [local go_sem] bn aS aH bE bH aK aT ak aI aw az aM ah eO aQ aL aP aO aR aY aW bD
theorem do36(k i:Int)(x:Fu)(s:Z7)(c d:Z3)(F w:Z2)(Y:MaxL F)(V:Tab F)(U:SHs F w p t l fl cd a)(a0:∀ b,t.ownBlock=Z9 b->b<w.heap.size)(hl:l.length<=1000)(E:∀ x∈l,x.2.1.size<=1000)(z:0<=a)(a4:a<=60000)(A:cd≠0/\cd≠6\/fl<=0)(a1:x.1.name.size<=1000)(L:s.size<=1000)(hI:IS w c x.2.1)(K:GS w d x.2.2)(o1:0<x.2.1.length->∀ q,c.ownBlock=Z9 q->q≠p)(o2:0<x.2.2.length->∀ q,d.ownBlock=Z9 q->q≠p) :
 Calls Tryz.prog 20 #[.iface 56 (.pointer (Z9 ⟨p,0,Z8⟩)),.agg (opv k i x.1 c d s)] w fun r w'=>dj F w w' p t l fl cd (l5 l fl cd a k i x s) r:=by
 have a2:=kl (k:=k) (i:=i) (s:=s) (ay x.1 c d (aD hI) (aE K));have B:=fun (W:Z2) (b:Below w.heap.size w W) q (h:t.ownBlock=Z9 q)=>ZY (a0 q h) b.size
 have O:=lh (fun W (b:Below w.heap.size w W)=>BA p t l fl cd a x c d F W Y V (U.below b) z (by omega) A a1 (hI.below b) (K.below b) o1 o2);have P:=lh (fun W (b:Below w.heap.size w W)=>BB p t l fl cd a x.1.kind x.1.name F W Y V (U.below b) (B W b) hl E z (by omega) A);have Q:=lh (fun W (b:Below w.heap.size w W)=>BE p t l fl cd a x.1.name s F W Y V (U.below b) (B W b) hl z (by omega) A a1 L);have N:=lh (fun W (b:Below w.heap.size w W)=>sX p t l fl cd a i s F W Y V (U.below b) (B W b) hl E z (by omega) A L);have X:=lh (fun W (b:Below w.heap.size w W)=>sG p t l fl cd a s F W Y V (U.below b) (B W b) hl E z (by omega) A L);have R:=ak w (opv k i x.1 c d s) 31 (0,0);have y:=lh (aj w (.cells (opv k i x.1 c d s) 31));have n0:=ae R 0 _ wT;have n1:=ae R 1 _ wU;have n2:=ae R 2 _ (iZ (j:=0) (ap _ _ _));have n3:=ae R 3 _ (iZ (j:=1) (aq _ _ _));have a5:=ae R 35 _ qE;have Z:=oD R;have a3:(mid (w.alloc (.cells (opv k i x.1 c d s) 31)) w.heap.size 2).size=33:=by rw[Z];exact ah _ _ _
 unfold l5;clear R B U a0 E hI K o1 o2;by_cases D:k=0
 rw[ZX D];have t0:(k==0)=ZZ:=Yy.2 D;clear D P Q N X;generalize jS l fl cd a x=g at O |-;rotate_left;rw[Z0 D];have t0:(k==0)=ZW:=ZG.2 D;by_cases I:k=1
 rw[ZX I];have t1:(k==1)=ZZ:=Yy.2 I;clear D I O Q N X;generalize jT l fl cd a x.1.kind x.1.name=g at P |-;rotate_left;rw[Z0 I];have t1:(k==1)=ZW:=ZG.2 I;by_cases J:k=2
 rw[ZX J];have t2:(k==2)=ZZ:=Yy.2 J;clear D I J O P N X;generalize kB l fl cd a x.1.name s=g at Q |-;rotate_left;rw[Z0 J];have t2:(k==2)=ZW:=ZG.2 J;by_cases T:k=3
 rw[ZX T];have t3:(k==3)=ZZ:=Yy.2 T;clear D I J T O P Q X;generalize kE l fl cd a s i=g at N |-;rotate_left;rw[Z0 T];have t3:(k==3)=ZW:=ZG.2 T;clear D I J T O P Q N;generalize kG l fl cd a s=g at X |-
 all_goals
  go_enter Tryz.func20,Tryz.ntmps20
  go_wp2_with first|go_at_call 38;(refine (X.o _ y.o).mono ?_);rintro _ w3 ⟨ov,rfl,H,v,u⟩;have S:=lh v;have G:=lh u;have C:=lh H;clear v u H|go_at_call 55;(refine (O.o _ y.o).mono ?_);rintro _ w3 ⟨ov,rfl,H,v,u⟩;have S:=lh v;have G:=lh u;have C:=lh H;clear v u H|go_at_call 56;(refine (P.o _ y.o).mono ?_);rintro _ w3 ⟨ov,rfl,H,v,u⟩;have S:=lh v;have G:=lh u;have C:=lh H;clear v u H|go_at_call 57;(refine (Q.o _ y.o).mono ?_);rintro _ w3 ⟨ov,rfl,H,v,u⟩;have S:=lh v;have G:=lh u;have C:=lh H;clear v u H|go_at_call 35;(refine (N.o _ y.o).mono ?_);rintro _ w3 ⟨ov,rfl,H,v,u⟩;have S:=lh v;have G:=lh u;have C:=lh H;clear v u H
  go_ret2
  exact⟨_,rfl,C.o,S.o,aJ (bo _ y.o) G.o⟩
end
end Go.Proofs.YtnkjliahpeebjaaGreatDoor
