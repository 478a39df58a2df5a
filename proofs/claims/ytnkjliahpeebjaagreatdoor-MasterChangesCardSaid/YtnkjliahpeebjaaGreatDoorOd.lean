/- Catalogs. -/
import Derived.Test.YtnkjliahpeebjaaGreatDoorRmv
import Derived.Lib.BufferMore
set_option maxRecDepth 8000
set_option maxHeartbeats 16000000
open Option renaming some->Z9,none->Z7
open Go.Proofs.Tryz renaming prog->Z8,underlying53->XJ
open _root_ renaming ByteArray->Z6,List->Z3,if_neg->ZX,if_pos->ZT,beq_eq_false_iff_ne->ZS,decide_eq_true->ZO,decide_eq_false->ZN,Array->Zz,Option->Zm,bne_iff_ne->Zi,beq_iff_eq->Zb
open Go.RowKit renaming Below->Z4
open Bool renaming false->Z2,true->ZZ,and_eq_true->ZQ
open Go renaming Value->Z1,World->ZY,Calls->ZJ,execOp->XR
open Nat renaming le_refl->ZV,lt_of_lt_of_le->ZH,le_trans->ZE,zero_le->Zc,mul_le_mul_right->X6
open List renaming getElem?_eq_getElem->ZF,length_map->Zt,append_assoc->Zs,getElem_mem->YT
open Array renaming getElem?_eq_some_iff->YO,getElem?_extract->Yc,ext_getElem?->XD,getElem?_setIfInBounds->Xn,size_append->WZ,getElem?_append_left->VY
namespace Go.Proofs.YtnkjliahpeebjaaGreatDoor
open Go.RowKit
variable(c:Operand->Z1)(p:Nat){W w' W':ZY}(v t:Z1){i k:Int}(l:Z3 Rw)(fl m:Int){n b o j:Nat}(a:Z6){e:En}(id cd:Int)(name f:Z6){cs g:Zz Z1}(x:Fu){s:Z6}{d gr:Z1}(w:ZY)
section
set_option linter.unusedSimpArgs false
def opc(k i:Int)(g:Zz Z1)(s:Z6):Zz Z1:=(#[.int .i64 k,.int .i64 i]++g)++#[.string s]
theorem BH(h:g.size=33):(opc k i g s).size=36:=by
 unfold opc;rw[WZ,WZ,h];rfl
theorem GZ:(opc k i g s)[0]?=Z9 (.int .i64 k):=by
 unfold opc;rw[Array.append_assoc,VY (by simp)];rfl
theorem In:(opc k i g s)[1]?=Z9 (.int .i64 i):=by
 unfold opc;rw[Array.append_assoc,VY (by simp)];rfl
theorem Gq(h:g.size=33):(opc k i g s)[35]?=Z9 (.string s):=by
 unfold opc;rw[Array.getElem?_append_right (by rw[WZ,h];exact ZV 35),WZ,h];rfl
theorem El(h:g.size=33):(opc k i g s).extract 2 35=g:=by
 unfold opc;apply XD
 intro j;rw[Yc];by_cases H:j<33
 .rw[ZT (by rw[WZ,WZ,h];simp;omega),VY (by rw[WZ,h];simp;omega),Array.getElem?_append_right (by simp)];simp
 .rw[Array.getElem?_eq_none (by omega:g.size<=j),ZX (by simp;omega)]
theorem Gs{v:Z1}(h:g[j]?=Z9 v):(opc k i g s)[2+j]?=Z9 v:=by
 have H:=(YO.1 h).1;unfold opc;rw[VY (by rw[WZ];simp;omega),Array.getElem?_append_right (by simp)];simpa using h
theorem Em(h:bh g.toList=ZZ):bh (opc k i g s).toList=ZZ:=by
 have H:∀ a b:Z3 Z1,bh a=ZZ->bh b=ZZ->bh (a++b)=ZZ:=by
  intro a b q u
  induction a with
  | nil=>exact u
  | cons x r I=>rw[List.cons_append,aL,ZQ];rw[aL,ZQ] at q;exact⟨q.1,I q.2⟩
 unfold opc;rw[Array.toList_append,Array.toList_append];exact H _ _ (H _ _ rfl h) rfl
def opv(k i:Int)(e:En)(d gr:Z1)(s:Z6):Zz Z1:=opc k i (e.vals d gr) s
theorem eO(k i:Int)(e:En)(d gr:Z1)(s:Z6):(opv k i e d gr s).size=36:=BH (ah _ _ _)
theorem wT:(opv k i e d gr s)[0]?=Z9 (.int .i64 k):=GZ
theorem wU:(opv k i e d gr s)[1]?=Z9 (.int .i64 i):=In
theorem qE:(opv k i e d gr s)[35]?=Z9 (.string s):=Gq (ah _ _ _)
theorem iZ{v:Z1}(h:(e.vals d gr)[j]?=Z9 v):(opv k i e d gr s)[2+j]?=Z9 v:=Gs h
theorem kl(h:bh (e.vals d gr).toList=ZZ):bh (opv k i e d gr s).toList=ZZ:=Em h
theorem lT(dst x t pos af gd)(h:db (c x)=ZZ)(H:(row w (bF (c x))).size=36) :
 (XR c ⟨dst,.load 31 x,t,pos,af,gd⟩).run Z8 w=.ok (.value (.agg (row w (bF (c x))))) w :=
 kW c w _ 35 _ Tryz.underlying31 rfl (by kernel_rfl) dst x t pos af gd h H
theorem nJ(z:Zz Z1)(t:TypeId)(dst x y t' pos af gd)(h:z.size=36)(H:db (c x)=ZZ)(q:bF (c x)=w.heap.size)(r:cV (c y)=ZZ)(u:(bA (c y)).size=36)(A:bh (bA (c y)).toList=ZZ) :
 (XR c ⟨dst,.store 31 x y,t',pos,af,gd⟩).run Z8 (w.alloc (.cells z t))=.ok .skip (w.alloc (.cells (bA (c y)) t)) :=
 l0 c w _ 35 (by kernel_rfl) z t dst x y t' pos af gd h H q r u A
theorem Hh(dst x t pos af gd)(H:cV (c x)=ZZ)(q:(bA (c x)).size=36) :
 (XR c ⟨dst,.buildSlice 22 1 #[(0,x)],t,pos,af,gd⟩).run Z8 w=.ok (.value (.slice (Z9 ⟨w.heap.size,0,Z7⟩) 1 1)) (w.alloc (.cells (bA (c x)) 31)):=by
 obtain⟨cs,r⟩:∃ cs,c x=.agg cs:=by
  unfold cV at H;split at H
  .rename_i g h;exact⟨g,h⟩
  .cases H
 rw[r,aK] at q |-;go_simp
 have z:cs.zipIdx.size=36:=by simp [q]
 rw[<-z,<-Array.foldl_toList,Array.toList_zipIdx,me,lv _ cs (by rw[q];rfl)]
def eI(w:ZY)(b o:Nat):Zz Z1:=(row w b).extract o (o+36)
theorem zL{w:ZY}(h:eI w b o=cs)(i:Nat)(v:Z1)(H:cs[i]?=Z9 v):w.cell? ⟨b,o+i,Z7⟩=Z9 v:=by
 unfold eI at h;subst h;rw[Yc] at H;split at H
 .exact ae rfl (o+i) v H
 .cases H
theorem rQ{w:ZY}(r:Z4 w.heap.size w w')(h:eI w b o=cs)(q:0<cs.size):eI w' b o=cs:=by
 have z:0<(row w b).size:=by
  unfold eI at h;rcases Nat.eq_zero_or_pos (row w b).size with H|H
  .rw[<-h,Array.size_extract] at q;omega
  .exact H
 unfold eI at *;rw[am r rfl z];exact h
theorem oD{w:ZY}(h:row w b=opv k i e d gr s):mid w b 2=e.vals d gr:=by
 unfold mid;rw[h];exact El (ah _ _ _)
theorem wQ(dst x t pos af gd)(H:lQ (c x)=ZZ)(q:(eI w (bF (c x)) (lO (c x))).size=36) :
 (XR c ⟨dst,.load 31 x,t,pos,af,gd⟩).run Z8 w=.ok (.value (.agg (eI w (bF (c x)) (lO (c x))))) w:=by
 obtain⟨g,o,r⟩:∃ g o,c x=.pointer (Z9 ⟨g,o,Z7⟩):=by
  unfold lQ at H;split at H
  .rename_i g o h;exact⟨g,o,h⟩
  .cases H
 rw[r,aH,bE] at q |-;simp only at q |-
 unfold XR
 have y:w.rangeAt g o (eI w g o).toList:=fun j v u=>by
  rw[Array.getElem?_toList] at u;exact zL rfl j v u
 have z:(eI w g o).toList.length=36:=by simpa using q
 have A:=run_loadAt_mid (P:=Z8) w g o 31 _ _ y Tryz.underlying31 rfl (by rw[z];kernel_rfl);simp only[r,Sem.run_bind,A,Result.andThen_ok,Sem.run_pure,Array.toArray_toList]
structure Oz where
 k:Int
 i:Int
 x:Ef
 s:Z6
def OF(w:ZY)(b o:Nat)(z:Oz):Prop :=
 ∃ (A:Zm Addr) (C:Nat) (h:Zm Addr) (q:Nat),eI w b o=opv z.k z.i z.x.e (.slice A z.x.n1 C) (.slice h z.x.n2 q) z.s/\z.x.n1<=9223372036854775807/\z.x.n2<=9223372036854775807/\(z.x.n1<=1000->∃ l:Z3 Int,l.length=z.x.n1/\IS w (.slice A z.x.n1 C) l)/\(z.x.n2<=1000->z.x.gs.length=z.x.n2/\GS w (.slice h z.x.n2 q) z.x.gs)
theorem OF.below{w:ZY}{z:Oz}(h:OF w b o z)(H:Z4 w.heap.size w w'):OF w' b o z:=by
 obtain⟨A,C,u,y,D,E,F,I,r⟩:=h
 exact⟨A,C,u,y,rQ H D (by rw[eO];decide),E,F,fun q=>by
  obtain⟨l,G,B⟩:=I q;exact⟨l,G,B.below H⟩,fun q=>⟨(r q).1,(r q).2.below H⟩⟩
def OS(w:ZY)(a:Zm Addr)(n:Nat)(F:Nat->Oz):Prop:=n<=9223372036854775807/\∀ k,k<n->∃ b o,a=Z9 ⟨b,o,Z7⟩/\b<w.heap.size/\OF w b (o+k*36) (F k)
theorem OS.below{w:ZY}{a:Zm Addr}{F:Nat->Oz}(h:OS w a n F)(H:Z4 w.heap.size w w'):OS w' a n F :=
 ⟨h.1,fun k y=>by
  obtain⟨b,o,q,r,u⟩:=h.2 k y;exact⟨b,o,q,ZH r H.size,u.below H⟩⟩
attribute [local go_sem ↓] lT nJ wQ
attribute [local go_sem] bn aS aH bE bH aK aT ak aI aw az aM ah aQ aL aP aO aR aY aW eO
def few6X(z:Oz):Prop:=z.x.e.name.size<=60/\z.x.e.target.size<=60/\z.x.n2<=12/\z.x.n1<=8/\z.s.size<=60
def few6P(F:Nat->Oz)(n:Nat)(m:Int):Prop:=(n:Int)<=m/\∀ k,k<n->few6X (F k)
def Few6R(F:Nat->Oz)(n:Nat)(m:Int)(w w':ZY)(r:Ending):Prop:=∃ b:Bool,r=.returned (.bool b)/\(b=ZZ->few6P F n m)/\Z4 w.heap.size w w'
theorem Few6R.no{F:Nat->Oz}{m:Int}{w:ZY}(h:Z4 w.heap.size w w'):Few6R F n m w w' (.returned (.bool Z2)):=⟨Z2,rfl,(fun h=>by cases h),h⟩
theorem few36(a:Zm Addr)(n c:Nat)(F:Nat->Oz)(m:Int)(w:ZY)(H:OS w a n F) :
 ZJ Z8 18 #[.slice a n c,.int .i64 m] w fun r w'=>Few6R F n m w w' r:=by
 have S:=lh H;have J:=H.1;clear H;go_enter Tryz.func18,Tryz.ntmps18
 go_wp2_with fail
 go_loopw [9] (fun i wr=>∃ k:Nat,k<=n/\i=.int .i64 k/\(∀ j,j<k->few6X (F j))/\Z4 w.heap.size w wr) (fun i _=>n - (intOf i).toNat)
 case atStart=>exact⟨0,Zc _,rfl,(fun j I=>absurd I (by omega)),by exact aB⟩
 case round =>
  obtain⟨k,hk,rfl,u,B⟩:=hrel;have K:=lh u;have z0:=B.size;clear u;by_cases G:k<n
  .obtain⟨b,o,rfl,hb,A,C,z,D,q,h1,h2,-,-⟩:=(S.o.below B).2 k G;have hz:(eI wr b (o+k*36)).size=36:=by rw[q];exact eO _ _ _ _ _ _
   have L:bh (opv (F k).k (F k).i (F k).x.e (.slice A (F k).x.n1 C) (.slice z (F k).x.n2 D) (F k).s).toList=ZZ:=kl (ay (F k).x.e (.slice A (F k).x.n1 C) (.slice z (F k).x.n2 D) rfl rfl);have R:=ak wr (opv (F k).k (F k).i (F k).x.e (.slice A (F k).x.n1 C) (.slice z (F k).x.n2 D) (F k).s) 31 (0,0);have n3:=ae R 3 _ (iZ (j:=1) (aq _ _ _));have a0:=ae R 31 _ (iZ (j:=29) (cB _ _ _));have a3:=ae R 34 _ (iZ (j:=32) (cC _ _ _));have Z:=ae R 25 _ (iZ (j:=23) (cf _ _ _));have a4:=ae R 35 _ qE;obtain⟨Q,E⟩:∃ b,decide (60<((F k).x.e.name.size:Int))=b:=⟨_,rfl⟩;obtain⟨N,U⟩:∃ b,decide (60<((F k).x.e.target.size:Int))=b:=⟨_,rfl⟩;obtain⟨O,V⟩:∃ b,decide (12<((F k).x.n2:Int))=b:=⟨_,rfl⟩;obtain⟨P,X⟩:∃ b,decide (8<((F k).x.n1:Int))=b:=⟨_,rfl⟩;obtain⟨T,Y⟩:∃ b,decide (60<((F k).s.size:Int))=b:=⟨_,rfl⟩
   have y:Hid (Q=Z2->N=Z2->O=Z2->P=Z2->T=Z2->few6X (F k)):=lh (by
    rintro rfl rfl rfl rfl rfl;rw[decide_eq_false_iff_not] at E U V X Y;exact⟨by omega,by omega,by omega,by omega,by omega⟩)
   clear R;cases Q
   cases N
   cases O
   cases P
   cases T
   .go_wp2_with fail
    go_roundw
    case rel =>
     refine⟨k+1,by omega,by go_num,fun j I=>?_,by exact aB⟩
     rcases Nat.lt_or_ge j k with h|h
     .exact K.o j h
     .obtain rfl:j=k:=by omega
      exact y.o rfl rfl rfl rfl rfl
    case measure=>simp [intOf];omega
   all_goals
    go_wp2_with fail
    go_ret
    exact Few6R.no (by exact aB)
  .obtain rfl:k=n:=by omega
   obtain⟨Q,E⟩:∃ b,decide ((k:Int)<=m)=b:=⟨_,rfl⟩;have y:Hid (Q=ZZ->(k:Int)<=m):=lh (by rintro rfl;exact of_decide_eq_true E);go_wp2_with fail
   go_ret
   exact⟨_,rfl,fun h=>⟨y.o h,K.o⟩,B⟩
end
section
set_option linter.unusedSimpArgs false
theorem mZ(d gr:Z1)(w:ZY)(h:aA x=ZZ)(H:x.1.name.size<=60)(q:IS w d x.2.1)(u:GS w gr x.2.2) :
 ZJ Z8 136 #[.agg (x.1.vals d gr)] w fun r w'=>r=.returned (.tuple #[.string (bC x),.int .i64 0])/\Z4 w.heap.size w w':=by
 refine (tH x d gr w H q u).mono ?_
 rintro r w' ⟨t,rfl,z,y⟩;obtain rfl:t=bC x:=Ds.bl_inj (by rw[z];unfold bC;rw[Ds.bl_mk]);rw[ZT h];exact⟨rfl,y⟩
theorem wV(d gr:Z1)(w:ZY)(h:aA x=ZZ)(H:x.1.name.size<=60)(q:IS w d x.2.1)(u:GS w gr x.2.2) :
 ZJ Z8 154 #[.int .i64 id,.agg (x.1.vals d gr)] w fun r w'=>r=.returned (.agg #[.int .i64 0,.int .i64 id,.string (aC x.1.kind x.1.name),.string (bC x),.string ⟨#[]⟩])/\Z4 w.heap.size w w' :=
 pI id x d gr w h (ay _ _ _ (aD q) (aE u)) (fun W b=>mZ x d gr W h H (q.below b) (u.below b))
theorem vj(W:ZY)(id:Int)(k r:Z6):CS (W.alloc (.cells #[.int .i64 0,.int .i64 id,.string k,.string r,.string ⟨#[]⟩] 67)) 5 (.slice (Z9 ⟨W.heap.size,0,Z7⟩) 1 1) 1 (cv [((0,id,k,r,⟨#[]⟩):Ch)]):=iE W (0,id,k,r,⟨#[]⟩) _ _ rfl
theorem xT(cs:Zz Z1)(o i:Nat)(v:Z1)(H:i<33)(q:o+33<=cs.size):(cs.setIfInBounds (o+i) v).extract o (o+33)=(cs.extract o (o+33)).setIfInBounds i v:=by
 apply XD
 intro j;rw[Yc,Array.size_setIfInBounds,Xn,Xn,Yc,Array.size_extract];by_cases h:j<min (o+33) cs.size - o
 .rw[ZT h,ZT h];by_cases e:i=j
  .subst e;rw[ZT rfl,ZT rfl,ZT (by omega),ZT (by omega)]
  .rw[ZX e,ZX (by omega)]
 .rw[ZX h,ZX h];by_cases e:i=j
  .subst e;rw[ZT rfl,ZX (by omega)]
  .rw[ZX e]
theorem xK(cs:Zz Z1)(j k i:Nat)(v:Z1)(H:i<33)(q:j≠k):(cs.setIfInBounds (k*33+i) v).extract (j*33) (j*33+33)=cs.extract (j*33) (j*33+33):=by
 apply XD
 intro n;rw[Yc,Yc,Array.size_setIfInBounds,Xn];by_cases h:n<min (j*33+33) cs.size - j*33
 .rw[ZT h,ZT h,ZX (by omega)]
 .rw[ZX h,ZX h]
structure AB (W:ZY) (b k:Nat) (cs:Zz Z1) (s:Z3 Fu):Prop where
 e:EB W b cs
 z:s.length*33<=cs.size
 m:∀ j (h:j<s.length),k<=j->∃ a1 c1 a2 c2,cs.extract (j*33) (j*33+33)=s[j].1.vals (.slice a1 0 c1) (.slice a2 0 c2)
theorem AB.block{k:Nat}{s:Z3 Fu}(h:AB W b k cs s)(e:W'.heap[b]?=W.heap[b]?)(H:W.heap.size<=W'.heap.size):AB W' b k cs s:=⟨h.e.of_block e H,h.z,h.m⟩
theorem AB.below{k:Nat}{s:Z3 Fu}(h:AB W b k cs s)(H:Z4 W.heap.size W W'):AB W' b k cs s:=h.block (H.block _ h.e.2.2) H.size
theorem AB.set{k:Nat}{s:Z3 Fu}(h:AB W b k cs s)(u:k<s.length)(f:Z6):∃ A C q r,AB (W.setCell ⟨b,k*33+29,Z7⟩ (.string f)) b (k+1) (cs.setIfInBounds (k*33+29) (.string f)) s/\mid (W.setCell ⟨b,k*33+29,Z7⟩ (.string f)) b (k*33)=(bT s[k] f).1.vals (.slice A 0 C) (.slice q 0 r):=by
 obtain⟨A,C,q,r,D⟩:=h.m k u (ZV _);have E:=h.z
 have H:k*33+33<=cs.size:=by
  have:(k+1)*33<=s.length*33:=X6 33 u;omega
 refine⟨A,C,q,r,⟨h.e.set _ (by omega) _,by rw[Array.size_setIfInBounds];exact E,fun j y B=>?_⟩,?_⟩
 .rw[xK _ _ _ _ _ (by decide) (by omega)];exact h.m j y (by omega)
 .unfold mid;rw[(h.e.set (k*33+29) (by omega) (.string f)).1,xT _ _ _ _ (by decide) H,D,sS];rfl
theorem AB.at{k:Nat}{s:Z3 Fu}(h:AB W b k cs s)(H:k<s.length):∃ v,W.cell? ⟨b,k*33+29,Z7⟩=Z9 v:=by
 have:(k+1)*33<=s.length*33:=X6 33 H;have q:=h.z;exact⟨_,h.e.cell (k*33+29) _ (Array.getElem?_eq_getElem (by omega))⟩
theorem AB.of{B:Nat}{I:Z1}{s:Z3 Fu}{r:Z3 (Zz Z1)}(h:HJ B W I (s.map cY) r)(Y:∀ a∈s,a.2.1=[]/\a.2.2=[])(h0:0<s.length):∃ b c cs,I=.slice (Z9 ⟨b,0,Z7⟩) s.length c/\B<=b/\b<W.heap.size/\AB W b 0 cs s:=by
 have U:=h.len;rw[Zt] at U;have F:=h.own;rw[Zt] at F;rcases F.2 with ⟨-,e⟩|⟨g,u,C,E,T,q,X,hm,Z,ht⟩
 .omega
 have G:row W g=C:=fA q;refine⟨g,u,C,E,T,(YO.1 q).1,⟨G,fun o=>?_,(YO.1 q).1⟩,?_,fun j D _=>?_⟩
 .simp [World.frozen?,q]
 .rw[Z];exact X6 33 X
 .have y:j<r.length:=by omega
  have A:r[j]?=Z9 r[j]:=ZF y;have S:(s.map cY)[j]?=Z9 (cY s[j]):=by rw[List.getElem?_map,ZF D];rfl
  obtain⟨J,L,K,N,O,-,-,-,-,-⟩:=h.el j _ _ A S;obtain⟨g',cc,z,-,V,H⟩:=own_mid h.sz h.own j _ A;rw[E] at z;injection z with P
  injection P with Q
  injection Q with R
  subst R;obtain⟨n1,n2⟩:=Y _ (YT D);refine⟨J,L,K,N,?_⟩
  unfold mid at H;rw[G] at H;rw[H,O];unfold cY;dsimp only;rw[n1,n2];rfl
attribute [local go_sem ↓] aZ fb bf bq cl eX
attribute [local go_sem] bn aS aH bE bH aK aT ak aI aw az aM ah aQ aL aP aO aR aY aW bD ap aq
theorem zR(hl:RwS w v l)(hn:l.length<=1000)(e4:name.size<=60)(cr:f.size<=60) :
 ZJ Z8 132 #[v,.int .i64 id,.string name,.string f] w fun r w'=>Ch2 w w' (gu l id name f) r:=by
 have hv:=fun W=>dt f W
 have hg:=fun W (b:Z4 w.heap.size w W)=>iA v l id 0 name W (hl.below b)
 have b8:=fun W=>gI name W e4
 have b9:=fun W=>gI f W cr
 have hf:=fun W (b:Z4 w.heap.size w W)=>oZ v l id f W (hl.below b)
 have S:=fun W (b:Z4 w.heap.size w W)=>rA v l id name W hn (hl.below b)
 have E:=mv l id name;have A:=uo l id name;have D:=@Fw l id name f;have a9:=@Cp l id name;obtain⟨a0,c0,rfl,-⟩:=_root_.id hl;unfold gu;clear hl;cases K:Ds.name (Ds.bl f)
 rw[ZT rfl];rw[K] at hv;have HV:=lh hv;clear hv hg b8 b9 hf S E A D a9 K;rotate_left;rw[ZX (by decide)];rw[K] at hv;have HV:=lh hv;clear hv;generalize bz l id 0 name=gg at hg a9 |-;obtain⟨y,be⟩:=gg;dsimp only at hg a9 |-;have HG:=lh hg;clear hg;by_cases h0:be=0
 rotate_left;rw[ZT h0];have t1:(be != 0)=ZZ:=Zi.2 h0;clear h0 b8 b9 hf S E A D a9 K;rotate_right
 subst h0;rw[ZX (fun h=>h rfl)];obtain⟨ab,ad⟩:=a9 rfl;clear a9;generalize Ds.gen (Ds.bl name)=b1 at b8 |-;generalize Ds.gen (Ds.bl f)=b2 at b9 |-;have C:=lh b8;have b4:=lh b9;clear b8 b9;cases b1
 rotate_left
 .rw[ZT (.inl rfl)];clear hf S E A D K ab ad;go_enter Tryz.func132,Tryz.ntmps132
  go_upto_region 4 with (first
   | (go_at_call 130;(refine (HV.o _).mono ?_);rintro _ w1 ⟨rfl,H⟩;have O:=lh H;clear H)
   | (go_at_call 134;(refine (HG.o _ O.o).mono ?_);rintro _ B ⟨⟨d,gr,rfl,I,u,G,J⟩,H⟩;have N:=ay y.1 d gr (aD I) (aE u);have HI:=lh I;have Z:=lh u;have R2:=ak B (y.1.vals d gr) 29 (0,0);have K2:=gQ B (y.1.vals d gr) 29 (ah _ _ _);have L:=lh (bt (bt O.o H) (aj B (.cells (y.1.vals d gr) 29)));have zq:=H.size;clear I u G J H))
  generalize B.alloc (.cells (y.1.vals d gr) 29)=W2 at R2 K2 L |-
  go_wp2_with first|go_at_call 143;have b3:=C;clear b3;(with_reducible refine (C.o _).mono ?_);rintro _ w3 ⟨rfl,H⟩;clear C;have P:=lh H;clear H|go_at_call 143;(with_reducible refine (b4.o _).mono ?_);rintro _ w4 ⟨rfl,H⟩;have F:=lh (bt P.o H);clear H
  go_ret2
  exact⟨_,rfl,bu _,bt L.o F.o⟩
 rotate_right
 cases b2
 rotate_left
 .rw[ZT (.inr rfl)];clear hf S E A D K ab ad;go_enter Tryz.func132,Tryz.ntmps132
  go_upto_region 4 with (first
   | (go_at_call 130;(refine (HV.o _).mono ?_);rintro _ w1 ⟨rfl,H⟩;have O:=lh H;clear H)
   | (go_at_call 134;(refine (HG.o _ O.o).mono ?_);rintro _ B ⟨⟨d,gr,rfl,I,u,G,J⟩,H⟩;have N:=ay y.1 d gr (aD I) (aE u);have HI:=lh I;have Z:=lh u;have R2:=ak B (y.1.vals d gr) 29 (0,0);have K2:=gQ B (y.1.vals d gr) 29 (ah _ _ _);have L:=lh (bt (bt O.o H) (aj B (.cells (y.1.vals d gr) 29)));have zq:=H.size;clear I u G J H))
  generalize B.alloc (.cells (y.1.vals d gr) 29)=W2 at R2 K2 L |-
  go_wp2_with first|go_at_call 143;have b3:=C;clear b3;(with_reducible refine (C.o _).mono ?_);rintro _ w3 ⟨rfl,H⟩;clear C;have P:=lh H;clear H|go_at_call 143;(with_reducible refine (b4.o _).mono ?_);rintro _ w4 ⟨rfl,H⟩;have F:=lh (bt P.o H);clear H
  go_ret2
  exact⟨_,rfl,bu _,bt L.o F.o⟩
 rotate_right
 rw[ZX (by simp)];have a8:∃ fc,(dx l id f).2=fc:=⟨_,rfl⟩;obtain⟨fc,a8⟩:=a8;rw[a8] at D |-;have HT:=lh (fun W=>sH fc W);generalize e3:dx l id f=ff at hf a8;obtain⟨yf,b5⟩:=ff;dsimp only at hf a8;subst a8;have HF:=lh hf;clear hf e3;by_cases h1:cE b5=0
 rotate_left
 .rw[ZT h1];have t1:(cE b5 != 0)=ZZ:=Zi.2 h1;clear h1 S E A D K ab ad;generalize cE b5=ac at HT t1 |-;go_enter Tryz.func132,Tryz.ntmps132
  go_upto_region 4 with (first
   | (go_at_call 130;(refine (HV.o _).mono ?_);rintro _ w1 ⟨rfl,H⟩;have O:=lh H;clear H)
   | (go_at_call 134;(refine (HG.o _ O.o).mono ?_);rintro _ B ⟨⟨d,gr,rfl,I,u,G,J⟩,H⟩;have N:=ay y.1 d gr (aD I) (aE u);have HI:=lh I;have Z:=lh u;have R2:=ak B (y.1.vals d gr) 29 (0,0);have K2:=gQ B (y.1.vals d gr) 29 (ah _ _ _);have L:=lh (bt (bt O.o H) (aj B (.cells (y.1.vals d gr) 29)));have zq:=H.size;clear I u G J H))
  generalize B.alloc (.cells (y.1.vals d gr) 29)=W2 at R2 K2 L |-
  go_wp2_with first|go_at_call 143;have b3:=C;clear b3;(with_reducible refine (C.o _).mono ?_);rintro _ w3 ⟨rfl,H⟩;clear C;have P:=lh H;clear H|go_at_call 143;(with_reducible refine (b4.o _).mono ?_);rintro _ w4 ⟨rfl,H⟩;have F:=lh (bt P.o H);clear H|go_at_call 212;(refine (HF.o _ (bt L.o F.o)).mono ?_);rintro _ w5 ⟨⟨ck,cm,rfl,-,-,-,-⟩,H⟩;have Q:=lh (bt F.o H);clear H|(go_at_call 213;(refine (HT.o _).mono ?_);rintro _ w6 ⟨rfl,rfl⟩)
  go_ret2
  exact⟨_,rfl,bu _,bt L.o Q.o⟩
 rotate_right
 rw[ZX (fun h=>h h1)];have D:=D h1;have t1:(cE b5 != 0)=Z2:=by rw[h1];rfl
 generalize cE b5=ac at HT t1;clear h1;generalize cW l id name=aa at S E A D |-;obtain⟨s,ec⟩:=aa;dsimp only at S E A D |-;have ca:=lh S;clear S;by_cases h2:ec=0
 rotate_left
 .rw[ZT h2];have t2:(ec != 0)=ZZ:=Zi.2 h2;clear h2 E A D K ab ad;go_enter Tryz.func132,Tryz.ntmps132
  go_upto_region 4 with (first
   | (go_at_call 130;(refine (HV.o _).mono ?_);rintro _ w1 ⟨rfl,H⟩;have O:=lh H;clear H)
   | (go_at_call 134;(refine (HG.o _ O.o).mono ?_);rintro _ B ⟨⟨d,gr,rfl,I,u,G,J⟩,H⟩;have N:=ay y.1 d gr (aD I) (aE u);have HI:=lh I;have Z:=lh u;have R2:=ak B (y.1.vals d gr) 29 (0,0);have K2:=gQ B (y.1.vals d gr) 29 (ah _ _ _);have L:=lh (bt (bt O.o H) (aj B (.cells (y.1.vals d gr) 29)));have zq:=H.size;clear I u G J H))
  generalize B.alloc (.cells (y.1.vals d gr) 29)=W2 at R2 K2 L |-
  go_wp2_with first|go_at_call 143;have b3:=C;clear b3;(with_reducible refine (C.o _).mono ?_);rintro _ w3 ⟨rfl,H⟩;clear C;have P:=lh H;clear H|go_at_call 143;(with_reducible refine (b4.o _).mono ?_);rintro _ w4 ⟨rfl,H⟩;have F:=lh (bt P.o H);clear H|go_at_call 212;(refine (HF.o _ (bt L.o F.o)).mono ?_);rintro _ w5 ⟨⟨ck,cm,rfl,-,-,-,-⟩,H⟩;have Q:=lh (bt F.o H);clear H|(go_at_call 213;(refine (HT.o _).mono ?_);rintro _ w6 ⟨rfl,rfl⟩)|go_at_call 215;(refine (ca.o _ (bt L.o Q.o)).mono ?_);rintro _ T ⟨hv,cu,rfl,hJ,H⟩;obtain⟨ja,jc,rfl⟩:=bX (jC hJ.own);have cb:=lh hJ;have Y:=lh (bt Q.o H);have z5:=Q.o.size;have z7:=H.size;clear H hJ
  go_ret2
  exact⟨_,rfl,bu _,bt L.o Y.o⟩
 rotate_right
 subst h2;rw[ZX (fun h=>h rfl)];have c3:∀ W d gr,bh (y.1.vals d gr).toList=ZZ->ZJ Z8 216 #[.int .i64 id,.agg (y.1.vals d gr)] W fun r w'=>r=.returned (.agg #[.int .i64 1,.int .i64 id,.string (aC y.1.kind y.1.name),.string ⟨#[]⟩,.string ⟨#[]⟩])/\Z4 W.heap.size W w':=fun W d gr h=>rX id y d gr W h
 have b7:=fun W d gr (i1:IS W d y.2.1) (i2:GS W gr y.2.2)=>wV id (dz y f) d gr W (Eg ab ad K) cr i1 i2
 have cq:=fun a (ha:a∈s) W d gr (i1:IS W d a.2.1) (i2:GS W gr a.2.2)=>wV id (bT a f) d gr W (Eh (A a ha).1 (A a ha).2.1 K (D a ha)) (ZE (pr (A a ha).1 (A a ha).2.1).2.2 (by decide)) i1 i2
 have bi:∀ a∈s,a.2.1=[]/\a.2.2=[]:=fun a ha=>⟨(pr (A a ha).1 (A a ha).2.1).1,(pr (A a ha).1 (A a ha).2.1).2.1⟩
 have d6:=lh cq;have bd:=lh bi;have bj:jO id y f s=[(1,id,aC y.1.kind y.1.name,⟨#[]⟩,⟨#[]⟩)]++([(0,id,aC (dz y f).1.kind (dz y f).1.name,bC (dz y f),⟨#[]⟩)]++s.map (fun a=>bI id (bT a f))):=rfl;rw[bj];have c6:∀ d gr,(y.1.vals d gr).setIfInBounds 1 (.string f)=(dz y f).1.vals d gr:=fun d gr=>sR y.1 d gr f
 generalize aC y.1.kind y.1.name=k1 at c3 |-;generalize aC (dz y f).1.kind (dz y f).1.name=k2 at b7 |-;generalize bC (dz y f)=r2 at b7 |-;generalize (dz y f).1=en at b7 c6;have d4:=lh c3;have d7:=lh b7;have d8:=lh c6;clear c3 b7 cq bi bj c6 A D K ab ad;rotate_left
 iterate 2
  focus
   go_enter Tryz.func132,Tryz.ntmps132
   go_wp2_with first|go_at_call 130;(refine (HV.o _).mono ?_);rintro _ w1 ⟨rfl,H⟩;have O:=lh H;clear H|go_at_call 134;(refine (HG.o _ O.o).mono ?_);rintro _ B ⟨⟨d,gr,rfl,I,u,G,J⟩,H⟩;have N:=ay y.1 d gr (aD I) (aE u);have HI:=lh I;have Z:=lh u;have R2:=ak B (y.1.vals d gr) 29 (0,0);have K2:=gQ B (y.1.vals d gr) 29 (ah _ _ _);have L:=lh (bt (bt O.o H) (aj B (.cells (y.1.vals d gr) 29)));have zq:=H.size;clear I u G J H
   go_ret2
   first|exact⟨_,rfl,bu _,L.o⟩|exact⟨_,rfl,bu _,O.o⟩
 go_enter Tryz.func132,Tryz.ntmps132
 go_upto_region 4 with (first
  | (go_at_call 130;(refine (HV.o _).mono ?_);rintro _ w1 ⟨rfl,H⟩;have O:=lh H;clear H)
  | (go_at_call 134;(refine (HG.o _ O.o).mono ?_);rintro _ B ⟨⟨d,gr,rfl,I,u,G,J⟩,H⟩;have N:=ay y.1 d gr (aD I) (aE u);have HI:=lh I;have Z:=lh u;have R2:=ak B (y.1.vals d gr) 29 (0,0);have K2:=gQ B (y.1.vals d gr) 29 (ah _ _ _);have L:=lh (bt (bt O.o H) (aj B (.cells (y.1.vals d gr) 29)));have zq:=H.size;clear I u G J H))
 generalize bs:B.alloc (.cells (y.1.vals d gr) 29)=W2 at R2 K2 L |-;have e6:B.heap.size+1=W2.heap.size:=by rw[<-bs];simp
 have d3:=lh (show Z4 B.heap.size B W2 by rw[<-bs];exact aj _ _);generalize hq:B.heap.size=q at R2 K2 e6 |-;clear bs
 go_upto_region 17 with (first
  | (go_at_call 143;have b3:=C;clear b3;(with_reducible refine (C.o _).mono ?_);rintro _ w3 ⟨rfl,H⟩;clear C;have P:=lh H;clear H)
  | (go_at_call 143;(with_reducible refine (b4.o _).mono ?_);rintro _ w4 ⟨rfl,H⟩;have F:=lh (bt P.o H);clear H)
  | (go_at_call 212;(refine (HF.o _ (bt L.o F.o)).mono ?_);rintro _ w5 ⟨⟨ck,cm,rfl,-,-,-,-⟩,H⟩;have Q:=lh (bt F.o H);clear H)
  | (go_at_call 213;(refine (HT.o _).mono ?_);rintro _ w6 ⟨rfl,rfl⟩)
  | (go_at_call 215;(refine (ca.o _ (bt L.o Q.o)).mono ?_);rintro _ T ⟨hv,cu,rfl,hJ,H⟩;obtain⟨ja,jc,rfl⟩:=bX (jC hJ.own);have cb:=lh hJ;have Y:=lh (bt Q.o H);have z5:=Q.o.size;have z7:=H.size;clear H hJ))
 have R7:=am Y.o R2 (by rw[ah];decide);have K7:=K2.below Y.o;have B7:=lh (bt L.o Y.o);have ea:=Y.o.size;go_upto_region 18 with (go_at_call 216;(refine (d4.o _ _ _ N).mono ?_);rintro _ w8 ⟨rfl,H⟩;have BE:=lh H;clear H)
 have e5:w.heap.size<=q:=by have:=O.o.size;omega
 have ct:w.heap.size<=T.heap.size:=B7.o.size;obtain⟨W8,bb⟩:∃ W8,w8.alloc (.cells #[.int .i64 1,.int .i64 id,.string k1,.string ⟨#[]⟩,.string ⟨#[]⟩] 67)=W8:=⟨_,rfl⟩;have a7:=lh (show Z4 T.heap.size T W8 by rw[<-bb];exact bt BE.o (aj _ _));have O8:=lh (show W8.ownsRow T.heap.size 67 5 (.slice (Z9 ⟨w8.heap.size,0,Z7⟩) 1 1) 1 (cv [((1,id,k1,⟨#[]⟩,⟨#[]⟩):Ch)]) by rw[<-bb];exact ej (vg w8 (1,id,k1,⟨#[]⟩,⟨#[]⟩) 67) BE.o.size);rw[bb];clear bb;generalize w8.heap.size=g8 at O8 |-;have R8:=am a7.o R7 (by rw[ah];decide);have K8:=K7.below a7.o;have cg:=lh R8;have cc:=lh K8;have f1:=K8.2.2 1;have c1:=ae R8 1 _ (aq _ _ _);clear R2 K2 R7 K7 R8 K8;go_upto_region 19 with fail
 obtain⟨W9,R⟩:∃ W9,W8.setCell ⟨q,1,Z7⟩ (.string f)=W9:=⟨_,rfl⟩;have BX:=bt d3.o (bt Y.o a7.o);have R9:row W9 q=en.vals d gr:=by rw[<-R,jU cc.o,cg.o];exact d8.o d gr
 have O9:=lh (show W9.ownsRow T.heap.size 67 5 (.slice (Z9 ⟨g8,0,Z7⟩) 1 1) 1 (cv [((1,id,k1,⟨#[]⟩,⟨#[]⟩):Ch)]) by rw[<-R];exact aV O8.o (fun x hx=>ic (fun e=>by have h1:=(ax O8.o x hx).1;have h2:x=q:=e;omega)));have I9:=lh (show IS W9 d y.2.1 by rw[<-R];exact uD HI.o (by omega) (HI.o.below BX));have G9:=lh (show GS W9 gr y.2.2 by rw[<-R];exact uQ Z.o (by omega) (Z.o.below BX));have B9:=lh (show Z4 w.heap.size w W9 by rw[<-R];exact (bt B7.o a7.o).setCell e5 _);have S9:T.heap.size<=W9.heap.size:=by rw[<-R];simp;exact a7.o.size
 have cn:0<s.length->∃ b cs,ja=Z9 ⟨b,0,Z7⟩/\w.heap.size<=b/\b<T.heap.size/\AB W9 b 0 cs s:=fun h0=>by
  obtain⟨b,c,cs,e1,h1,h2,h3⟩:=AB.of cb.o bd.o h0;injection e1 with e2
  refine⟨b,cs,e2,by omega,h2,?_⟩
  rw[<-R];exact (h3.below a7.o).block (ic (fun e=>by have h4:b=q:=e;omega)) (by simp)
 have ar:=lh cn;rw[R];clear R cn c1 f1 BX cg cc
 go_wp2_with first|go_at_call 154;(refine (d7.o _ d gr I9.o G9.o).mono ?_);rintro _ af ⟨rfl,H⟩;have bp:=lh (gH O9.o H);have c7:=lh (bt B9.o H);have d0:=lh H;have e8:=H.size;clear H|at_builtin;refine dQ _ rfl (.tmp 79) (.tmp 83) 53 67 _ _ 5 64 rfl XJ gA fZ ge gi rfl (by decide) T.heap.size (.slice (Z9 ⟨g8,0,Z7⟩) 1 1) (.slice (Z9 ⟨af.heap.size,0,Z7⟩) 1 1) 1 1 (cv [((1,id,k1,⟨#[]⟩,⟨#[]⟩):Ch)]) (cv [((0,id,k2,r2,⟨#[]⟩):Ch)]) rfl (gH bp.o (aj af _)) rfl (vj af id k2 r2) (fC _) (by unfold maxLen;omega) (by omega) (by simp;omega) ?_;intro a5 c5 cw X hg bv;have a3:=lh hg;have ch:=lh X;clear X hg bv
 have al:=bt d0.o (aj af (.cells #[.int .i64 0,.int .i64 id,.string k2,.string r2,.string ⟨#[]⟩] 67));have c8:=lh ((bt c7.o (aj af (.cells #[.int .i64 0,.int .i64 id,.string k2,.string r2,.string ⟨#[]⟩] 67))).trans (fy a3.o (fun z hz=>ZE ct (ax bp.o z hz).1) (bt c7.o (aj af _)).size));have ci:T.heap.size<=cw.heap.size:=by have h1:=al.size;have h2:=a3.o.size;omega
 have av:Hid (0<s.length->∃ b cs,ja=Z9 ⟨b,0,Z7⟩/\w.heap.size<=b/\b<T.heap.size/\AB cw b 0 cs s):=lh (fun h0=>by
  obtain⟨b,cs,e1,h1,h2,h3⟩:=ar.o h0;have h4:=h3.below al;exact⟨b,cs,e1,h1,h2,h4.block (a3.o.block b h4.e.2.2 (fun e=>by have:=(ax bp.o b e.symm).1;omega)) a3.o.size⟩)
 clear ar al;go_loopw [20,21] (fun v i wr=>∃ (k:Nat),k<=s.length/\i=.int .i64 k/\Hid (wr.ownsRow T.heap.size 67 5 v (1+1+k) (cv [((1,id,k1,⟨#[]⟩,⟨#[]⟩):Ch)]++cv [((0,id,k2,r2,⟨#[]⟩):Ch)]++cv ((s.take k).map (fun a=>bI id (bT a f)))))/\Hid (Z4 w.heap.size w wr)/\T.heap.size<=wr.heap.size/\Hid (k<s.length->∃ b cs,ja=Z9 ⟨b,0,Z7⟩/\w.heap.size<=b/\b<T.heap.size/\AB wr b k cs s)) (fun _ i _=>s.length - (intOf i).toNat)
 case atStart=>exact⟨0,Zc _,rfl,lh (by have h:=ch.o;rw[List.take_zero,List.map_nil,show cv []=[] from rfl,List.append_nil];exact h),c8,ci,av⟩
 case round =>
  clear av c8 ch ci;obtain⟨k,hk,rfl,HO,HB,zK,ar⟩:=hrel;obtain⟨ra,rc,rfl⟩:=bX HO.o;by_cases b6:k<s.length
  .obtain⟨b,cs,rfl,co,ds,ba⟩:=ar.o b6;obtain⟨a1,c1,a2,c2,bg,bc⟩:=ba.set b6 f;obtain⟨v0,e0⟩:=ba.at b6;have dq:=ba.e.2.1 (k*33+29);have b0:=lh bg;have hx:=YT b6;have c4:s.take (k+1)=s.take k++[s[k]]:=List.take_succ_eq_append_getElem b6;generalize s[k]=x at bc hx c4;obtain⟨n1,n2⟩:=bd.o x hx;have he:=fun W=>d6.o x hx W (.slice a1 0 c1) (.slice a2 0 c2) (by rw[n1];exact uC W a1 c1) (by rw[n2];exact uP W a2 c2)
   have a6:((s.take (k+1)).map (fun a=>bI id (bT a f)))=((s.take k).map (fun a=>bI id (bT a f)))++[(0,id,aC (bT x f).1.kind (bT x f).1.name,bC (bT x f),⟨#[]⟩)]:=by rw[c4,List.map_append];rfl
   generalize aC (bT x f).1.kind (bT x f).1.name=k3 at a6 he;generalize bC (bT x f)=r3 at a6 he;generalize (bT x f).1=ex at he bc;have HE:=lh he;have d5:=lh a6;have j1:(0:Int)<=(k:Int):=by omega
   have j2:(k:Int)<(s.length:Int):=by omega
   have ce:=lh bc;clear he a6 c4 bc ba bg ar n1 n2;go_upto_region 24 with fail
   obtain⟨U,hW⟩:∃ U,wr.setCell ⟨b,k*33+29,Z7⟩ (.string f)=U:=⟨_,rfl⟩;have b0:Hid (AB U b (k+1) (cs.setIfInBounds (k*33+29) (.string f)) s):=lh (by rw[<-hW];exact b0.o);have m2:mid U b (k*33)=ex.vals (.slice a1 0 c1) (.slice a2 0 c2):=by rw[<-hW];exact ce.o
   have e7:(mid U b (k*33)).size=33:=by rw[m2];exact ah _ _ _
   have O2:=lh (show U.ownsRow T.heap.size 67 5 (.slice ra (1+1+k) rc) (1+1+k) (cv [((1,id,k1,⟨#[]⟩,⟨#[]⟩):Ch)]++cv [((0,id,k2,r2,⟨#[]⟩):Ch)]++cv ((s.take k).map (fun a=>bI id (bT a f)))) by rw[<-hW];exact aV HO.o (fun z hz=>ic (fun e=>by have h1:=(ax HO.o z hz).1;have h2:z=b:=e;omega)));have BB:=lh (show Z4 w.heap.size w U by rw[<-hW];exact HB.o.setCell co _);have zW:T.heap.size<=U.heap.size:=by rw[<-hW];simp;exact zK
   rw[hW];clear hW ce e0 dq
   go_wp2_with first|go_at_call 154;(refine (HE.o _).mono ?_);rintro _ ag ⟨rfl,V⟩;have br:=lh (gH O2.o V);have c9:=lh (bt BB.o V);have d1:=lh V;have e9:=V.size;clear V|at_builtin;refine dQ _ rfl (.tmp 96) (.tmp 103) 53 67 _ _ 5 64 rfl XJ gA fZ ge gi rfl (by decide) T.heap.size (.slice ra (1+1+k) rc) (.slice (Z9 ⟨ag.heap.size,0,Z7⟩) 1 1) (1+1+k) 1 _ (cv [((0,id,k3,r3,⟨#[]⟩):Ch)]) rfl (gH br.o (aj ag _)) rfl (vj ag id k3 r3) (fC _) (by unfold maxLen;omega) (by omega) (by simp;omega) ?_;intro a5 c5 cz X hg bv;have a4:=lh hg;have d9:=lh X;clear X hg bv
   have ao:=bt d1.o (aj ag (.cells #[.int .i64 0,.int .i64 id,.string k3,.string r3,.string ⟨#[]⟩] 67));have d2:=lh ((bt c9.o (aj ag (.cells #[.int .i64 0,.int .i64 id,.string k3,.string r3,.string ⟨#[]⟩] 67))).trans (fy a4.o (fun z hz=>ZE ct (ax br.o z hz).1) (bt c9.o (aj ag _)).size));have dl:T.heap.size<=cz.heap.size:=by have h1:=ao.size;have h2:=a4.o.size;omega
   have bk:Hid (k+1<s.length->∃ b' cs,Z9 (⟨b,0,Z7⟩:Addr)=Z9 ⟨b',0,Z7⟩/\w.heap.size<=b'/\b'<T.heap.size/\AB cz b' (k+1) cs s):=lh (fun _=>by
    have h4:=b0.o.below ao;exact⟨b,_,rfl,co,ds,h4.block (a4.o.block b h4.e.2.2 (fun e=>by have:=(ax br.o b e.symm).1;omega)) a4.o.size⟩)
   clear ao;go_roundw
   case rel=>exact⟨k+1,by omega,by go_num,lh (by rw[d5.o,gP,<-Zs];exact d9.o),d2,dl,bk⟩
   case measure=>simp [intOf];omega
  .obtain rfl:k=s.length:=by omega
   have HC:Hid (ChS wr (.slice ra (1+1+s.length) rc) ([((1,id,k1,⟨#[]⟩,⟨#[]⟩):Ch)]++([((0,id,k2,r2,⟨#[]⟩):Ch)]++s.map (fun a=>bI id (bT a f))))):=lh (by
    have cp:([((1,id,k1,⟨#[]⟩,⟨#[]⟩):Ch)]++([((0,id,k2,r2,⟨#[]⟩):Ch)]++s.map (fun a=>bI id (bT a f)))).length=1+1+s.length:=by simp only[List.length_append,List.length_singleton,Zt];omega
    refine jp (by rw[cp];omega) ?_
    rw[cp,gP,gP,<-Zs];have h:=dU HO.o;rw[List.take_of_length_le (ZV _)] at h;exact h)
   clear HO;go_wp2_with fail
   go_ret2
   exact⟨_,rfl,HC.o,HB.o⟩
end
section
set_option linter.unusedSimpArgs false
attribute [local go_sem ↓] aZ bf bq cl eX
attribute [local go_sem] bn aS aH bE bH aK aT ak aI aw az aM ah aQ aL aP aO aR aY aW bD ap aq
theorem zU(E:RwS w v l)(F:l.length<=1000)(A:∀ x∈l,x.2.1.size<=60) :
 ZJ Z8 59 #[v,.int .i64 m,.string name] w fun r w'=>Ch2 w w' (jb l m name) r:=by
 have H:=lh (qF v l m name w E);have u:=lh (fun id W (b:Z4 w.heap.size w W)=>zP v l id m name W (E.below b) F A);unfold jb;clear E F A;generalize dp l m name=g at H |-;obtain⟨id,C⟩:=g;dsimp only at H |-;by_cases B:C=0
 rotate_left;rw[ZT B];have T:(C != 0)=ZZ:=Zi.2 B;clear B u;rotate_right
 subst B;rw[ZX (fun h=>h rfl)];have R:=lh (u.o id);clear u;generalize gX l id m name=q at R |-
 all_goals
  go_enter Tryz.func59,Tryz.ntmps59
  go_wp2_with first|go_at_call 68;(refine H.o.mono ?_);rintro _ J ⟨rfl,y⟩;have D:=lh y;clear y|go_at_call 129;(refine (R.o _ D.o).mono ?_);rintro _ K ⟨O,rfl,z,y⟩;have I:=lh z;have G:=lh (bt D.o y);clear y z
  go_ret2
  first|exact⟨_,rfl,I.o,G.o⟩|exact⟨_,rfl,bu _,D.o⟩
theorem zV(P:RwS w v l)(hn:l.length<=1000)(K:f.size<=60)(J:name.size<=60) :
 ZJ Z8 60 #[v,.string name,.string f] w fun r w'=>Ch2 w w' (jd l name f) r:=by
 have A:=fun W=>dt name W
 have u:=fun W=>dt f W
 have B:=fun W (b:Z4 w.heap.size w W)=>ms v l name W (P.below b)
 have y:=fun W (b:Z4 w.heap.size w W)=>ms v l f W (P.below b)
 have H:=lh (fun id W (b:Z4 w.heap.size w W)=>zR v l id name f W (P.below b) hn J K);unfold jd;clear P hn K J;cases N:Ds.name (Ds.bl name)
 rw[ZT (.inl rfl)];rw[N] at A;have C:=lh A;clear A u N B y H;rotate_left;rw[N] at A;have C:=lh A;clear A N;cases O:Ds.name (Ds.bl f)
 rw[ZT (.inr rfl)];rw[O] at u;have G:=lh u;clear u O B y H;rotate_left;rw[O] at u;have G:=lh u;clear u O;rw[ZX (by rintro (h|h) <;> cases h)];generalize cj l name=g1 at B |-;obtain⟨L,ca⟩:=g1;dsimp only at B |-;have E:=lh B;clear B;by_cases D:ca=0
 rotate_left;rw[ZT D];have X:(ca != 0)=ZZ:=Zi.2 D;clear D H y;rotate_right
 subst D;rw[ZX (fun h=>h rfl)];generalize cj l f=g2 at y |-;obtain⟨V,cb⟩:=g2;dsimp only at y |-;have T:=lh y;clear y;by_cases D:cb=0
 rotate_left;rw[ZT D];have X:(cb != 0)=ZZ:=Zi.2 D;clear D H;rotate_right
 subst D;rw[ZX (fun h=>h rfl)];by_cases F:L≠V
 rw[ZT F];have X:(L != V)=ZZ:=Zi.2 F;clear F H;rotate_left;rw[ZX F];have X:(L != V)=Z2:=by simpa using F
 have Z:=lh (H.o L);clear H F;generalize gu l L name f=q at Z |-
 all_goals
  go_enter Tryz.func60,Tryz.ntmps60
  go_wp2_with first|go_at_call 130;have U:=C;clear U;(with_reducible refine (C.o _).mono ?_);rintro _ w2 ⟨rfl,z⟩;clear C;have Y:=lh z;clear z|go_at_call 130;(with_reducible refine (G.o _).mono ?_);rintro _ w3 ⟨rfl,z⟩;have Q:=lh (bt Y.o z);clear z|go_at_call 131;have U:=E;clear U;(with_reducible refine (E.o _ Q.o).mono ?_);rintro _ w4 ⟨rfl,z⟩;clear E;have R:=lh (bt Q.o z);clear z|go_at_call 131;(with_reducible refine (T.o _ R.o).mono ?_);rintro _ w5 ⟨rfl,z⟩;have S:=lh (bt R.o z);clear z|go_at_call 132;(refine (Z.o _ S.o).mono ?_);rintro _ w6 ⟨ov,rfl,I,z⟩;have C6:=lh I;have B6:=lh (bt S.o z);clear z I
  go_ret2
  first|exact⟨_,rfl,C6.o,B6.o⟩|exact⟨_,rfl,bu _,S.o⟩|exact⟨_,rfl,bu _,R.o⟩|exact⟨_,rfl,bu _,Q.o⟩|exact⟨_,rfl,bu _,Y.o⟩
theorem xM(P:RwS w v l)(E:∀ x∈l,x.2.1.size<=1000)(A:a.size<=1000) :
 ZJ Z8 62 #[v,.string a] w fun r w'=>Ch2 w w' (jh l a) r:=by
 have z:=fun W=>rT a W A
 have D:=fun W (b:Z4 w.heap.size w W)=>iA v l 1 3 a W (P.below b)
 have N:=lh (fun id W (b:Z4 w.heap.size w W)=>re v l id a W (P.below b) E A);have S:=lh (fun W=>lH 3 a W);unfold jh;clear P E A;generalize dy a=pf at z |-;have J:=lh z;clear z;cases pf
 rw[ZT rfl];clear D;rotate_left;rw[ZX (by decide)];generalize bz l 1 3 a=gg at D |-;obtain⟨y,C⟩:=gg;dsimp only at D |-;have X:=lh D;clear D;by_cases F:C=0
 rotate_left;rw[ZT F];have t1:(C != 0)=ZZ:=Zi.2 F;clear F;rotate_right
 subst F;rw[ZX (fun h=>h rfl)];have u:=N.o y.1.cat;generalize fI l y.1.cat a=hn at u |-;have Y:=lh u;clear N u;cases hn
 rotate_left;rw[ZT rfl];rotate_right
 rw[ZX (by decide)];have H:=fun W=>iT W ((1,1,aC 3 a,⟨#[]⟩,⟨#[]⟩):Ch)
 unfold ch5 at H;generalize aC 3 a=kz at S H |-;have O:=lh H;clear H
 all_goals
  go_enter Tryz.func62,Tryz.ntmps62
  go_wp2_with first|go_at_call 133;(refine (J.o _).mono ?_);rintro _ w2 ⟨rfl,q⟩;have G:=lh q;clear q|go_at_call 134;(refine (X.o _ G.o).mono ?_);rintro _ V ⟨⟨d,gr,rfl,T,B,K,L⟩,q⟩;have U:=ay y.1 d gr (aD T) (aE B);have R:=ak V (y.1.vals d gr) 29 (0,0);have Z:=ae R 30 _ (dv _ _ _);have I:=lh (bt (bt G.o q) (aj V (.cells (y.1.vals d gr) 29)));clear T B K L q R|go_at_call 135;(refine (Y.o _ I.o).mono ?_);rintro _ w4 ⟨rfl,q⟩;have Q:=lh (bt I.o q);clear q|(go_at_call 137;(with_reducible refine (S.o _).mono ?_);rintro _ w5 ⟨rfl,rfl⟩)
  go_ret2
  first|exact⟨_,rfl,O.o _,bt Q.o (aj _ _)⟩|exact⟨_,rfl,bu _,Q.o⟩|exact⟨_,rfl,bu _,I.o⟩|exact⟨_,rfl,bu _,G.o⟩
theorem yB(T:RwS w v l)(Q:∀ x∈l,x.2.1.size<=1000)(K:a.size<=1000)(O:aA (di a id)=ZZ->∀ W,Z4 w.heap.size w W->ZJ Z8 136 #[.agg (fk a id)] W fun r w'=>r=.returned (.tuple #[.string (bC (di a id)),.int .i64 0])/\Z4 W.heap.size W w') :
 ZJ Z8 61 #[v,.string a,.int .i64 id] w fun r w'=>Ch2 w w' (jf l a id) r:=by
 have J:=fun W=>rT a W K
 have F:=fun W (b:Z4 w.heap.size w W)=>iA v l 1 3 a W (T.below b)
 have D:=fun W (b:Z4 w.heap.size w W)=>ms v l a W (T.below b)
 have N:=lh (fun id W (b:Z4 w.heap.size w W)=>re v l id a W (T.below b) Q K);have H:=fun h=>@vD a id h
 unfold jf;clear T Q K;generalize dy a=pf at J H |-;have a1:=lh J;clear J;cases pf
 rw[ZT (.inl rfl)];clear F D O H;rotate_left;by_cases E:id<2
 rw[ZT (.inr (.inl E))];have t1:decide (id<2)=ZZ:=ZO E;clear F D O H E;rotate_left;have t1:decide (id<2)=Z2:=ZN E;by_cases L:15<id
 rw[ZT (.inr (.inr L))];have t2:decide (15<id)=ZZ:=ZO L;clear F D O H E L;rotate_left;have t2:decide (15<id)=Z2:=ZN L;rw[ZX (by rintro (h|h|h);cases h;exact E h;exact L h)];have u:=H rfl (by omega) (by omega);have q:=O u;clear O H E L;generalize bz l 1 3 a=gg at F |-;obtain⟨y,C⟩:=gg;dsimp only at F |-;have HG:=lh F;clear F;by_cases B:C=0
 rw[ZT B];have t3:(C==0)=ZZ:=Zb.2 B;clear B D q u;rotate_left;rw[ZX B];have t3:(C==0)=Z2:=ZS.2 B;clear B;by_cases S:C=6
 rotate_left;rw[ZT S];have t4:(C != 6)=ZZ:=Zi.2 S;clear S D q u;rotate_right
 subst S;rw[ZX (fun h=>h rfl)];clear t3;generalize cj l a=g1 at D |-;obtain⟨R,cw⟩:=g1;dsimp only at D |-;have HW:=lh D;clear D;by_cases B:cw=0
 rotate_left;rw[ZT B];have t5:(cw != 0)=ZZ:=Zi.2 B;clear B q u;rotate_right
 subst B;rw[ZX (fun h=>h rfl)];have G:=N.o R;generalize fI l R a=hn at G |-;have HN:=lh G;clear N G;cases hn
 rotate_left;rw[ZT rfl];clear q u;rotate_right
 rw[ZX (by decide)];obtain⟨e1,e2⟩:=ul (di a id) u;have I:aC (di a id).1.kind (di a id).1.name=aC 3 a:=rfl;have A:=fun W=>iT W (bI 1 (di a id))
 unfold bI ch5 at A;rw[I] at e1 A;unfold bI;rw[I];generalize bC (di a id)=rz at q A e1 e2 |-;generalize aC 3 a=kz at e1 A |-;have Z:=lh A;unfold fk at q;have a0:=lh q;clear q A u I
 all_goals
  go_enter Tryz.func61,Tryz.ntmps61
  go_wp2_with first|go_at_call 133;(refine (a1.o _).mono ?_);rintro _ w2 ⟨rfl,z⟩;have U:=lh z;clear z|go_at_call 134;(refine (HG.o _ U.o).mono ?_);rintro _ w3 ⟨⟨d,gr,rfl,hI,P,a2,a3⟩,z⟩;have a4:=ay y.1 d gr (aD hI) (aE P);have V:=lh (bt (bt U.o z) (aj w3 (.cells (y.1.vals d gr) 29)));clear hI P a2 a3 z|go_at_call 131;(refine (HW.o _ V.o).mono ?_);rintro _ w4 ⟨rfl,z⟩;have X:=lh (bt V.o z);clear z|go_at_call 135;(refine (HN.o _ X.o).mono ?_);rintro _ w5 ⟨rfl,z⟩;have Y:=lh (bt X.o z);clear z|go_at_call 136;(refine (a0.o _ Y.o).mono ?_);rintro _ w6 ⟨rfl,z⟩;have B6:=lh (bt Y.o z);clear z
  go_ret2
  first|exact⟨_,rfl,Z.o _,bt B6.o (aj _ _)⟩|exact⟨_,rfl,bu _,Y.o⟩|exact⟨_,rfl,bu _,X.o⟩|exact⟨_,rfl,bu _,V.o⟩|exact⟨_,rfl,bu _,U.o⟩
end
section
set_option linter.unusedSimpArgs false
def lX(l:Z3 Rw)(fl cd C k i:Int)(x:Fu)(s:Z6):(Z3 Ch × Int) × Int :=
 if k=0 then kB l fl cd C x else if k=1 then kD l fl cd C x.1.kind x.1.name else if k=2 then kE l fl cd C x.1.name s else if k=3 then kG l fl cd C s i else kH l fl cd C s
def eL(l:Z3 Rw)(k i:Int)(x:Fu)(s:Z6):Z3 Ch × Int :=
 if k=0 then jg l x else if k=1 then jb l x.1.kind x.1.name else if k=2 then jd l x.1.name s else if k=3 then jf l s i else jh l s
theorem Gn(C k i:Int)(x:Fu)(s:Z6)(q:fl<=0)(H:0<=C)(r:DstL l):(lX l fl cd C k i x s).1=eL l k i x s:=by
 unfold lX eL;by_cases h:k=0
 .rw[ZT h,ZT h,Bt l fl cd C x q H]
 rw[ZX h,ZX h];by_cases h:k=1
 .rw[ZT h,ZT h,Bw l fl cd C _ _ q H r]
 rw[ZX h,ZX h];by_cases h:k=2
 .rw[ZT h,ZT h,By l fl cd C _ _ q H r]
 rw[ZX h,ZX h];by_cases h:k=3
 .rw[ZT h,ZT h,DI l fl cd C _ _ q H r]
 rw[ZX h,ZX h,Dk l fl cd C _ q H r]
attribute [local go_sem ↓] fb lT nJ
attribute [local go_sem] bn aS aH bE bH aK aT ak aI aw az aM ah eO aQ aL aP aO aR aY aW bD
theorem do36(u k i:Int)(x:Fu)(s:Z6)(d gr:Z1)(J w:ZY)(hm:MaxL J)(Z:Tab J)(Y:SHs J w p t l fl cd u)(a1:∀ b,t.ownBlock=Z9 b->b<w.heap.size)(hl:l.length<=1000)(I:∀ x∈l,x.2.1.size<=1000)(B:0<=u)(a5:u<=60000)(D:cd≠0/\cd≠6\/fl<=0)(a2:x.1.name.size<=1000)(O:s.size<=1000)(hI:IS w d x.2.1)(N:GS w gr x.2.2)(o1:0<x.2.1.length->∀ q,d.ownBlock=Z9 q->q≠p)(o2:0<x.2.2.length->∀ q,gr.ownBlock=Z9 q->q≠p) :
 ZJ Z8 20 #[.iface 56 (.pointer (Z9 ⟨p,0,Z7⟩)),.agg (opv k i x.1 d gr s)] w fun r w'=>dm J w w' p t l fl cd (lX l fl cd u k i x s) r:=by
 have a3:=kl (k:=k) (i:=i) (s:=s) (ay x.1 d gr (aD hI) (aE N));have E:=fun (W:ZY) (b:Z4 w.heap.size w W) q (h:t.ownBlock=Z9 q)=>ZH (a1 q h) b.size
 have Q:=lh (fun W (b:Z4 w.heap.size w W)=>As p t l fl cd u x d gr J W hm Z (Y.below b) B (by omega) D a2 (hI.below b) (N.below b) o1 o2);have T:=lh (fun W (b:Z4 w.heap.size w W)=>At p t l fl cd u x.1.kind x.1.name J W hm Z (Y.below b) (E W b) hl I B (by omega) D);have U:=lh (fun W (b:Z4 w.heap.size w W)=>Au p t l fl cd u x.1.name s J W hm Z (Y.below b) (E W b) hl B (by omega) D a2 O);have P:=lh (fun W (b:Z4 w.heap.size w W)=>yQ p t l fl cd u i s J W hm Z (Y.below b) (E W b) hl I B (by omega) D O);have X:=lh (fun W (b:Z4 w.heap.size w W)=>xH p t l fl cd u s J W hm Z (Y.below b) (E W b) hl I B (by omega) D O);have R:=ak w (opv k i x.1 d gr s) 31 (0,0);have A:=lh (aj w (.cells (opv k i x.1 d gr s) 31));have n0:=ae R 0 _ wT;have n1:=ae R 1 _ wU;have n2:=ae R 2 _ (iZ (j:=0) (ap _ _ _));have n3:=ae R 3 _ (iZ (j:=1) (aq _ _ _));have a6:=ae R 35 _ qE;have a0:=oD R;have a4:(mid (w.alloc (.cells (opv k i x.1 d gr s) 31)) w.heap.size 2).size=33:=by rw[a0];exact ah _ _ _
 unfold lX;clear R E Y a1 I hI N o1 o2;by_cases F:k=0
 rw[ZT F];have t0:(k==0)=ZZ:=Zb.2 F;clear F T U P X;generalize kB l fl cd u x=g at Q |-;rotate_left;rw[ZX F];have t0:(k==0)=Z2:=ZS.2 F;by_cases K:k=1
 rw[ZT K];have t1:(k==1)=ZZ:=Zb.2 K;clear F K Q U P X;generalize kD l fl cd u x.1.kind x.1.name=g at T |-;rotate_left;rw[ZX K];have t1:(k==1)=Z2:=ZS.2 K;by_cases L:k=2
 rw[ZT L];have t2:(k==2)=ZZ:=Zb.2 L;clear F K L Q T P X;generalize kE l fl cd u x.1.name s=g at U |-;rotate_left;rw[ZX L];have t2:(k==2)=Z2:=ZS.2 L;by_cases V:k=3
 rw[ZT V];have t3:(k==3)=ZZ:=Zb.2 V;clear F K L V Q T U X;generalize kG l fl cd u s i=g at P |-;rotate_left;rw[ZX V];have t3:(k==3)=Z2:=ZS.2 V;clear F K L V Q T U P;generalize kH l fl cd u s=g at X |-
 all_goals
  go_enter Tryz.func20,Tryz.ntmps20
  go_wp2_with first|go_at_call 38;(refine (X.o _ A.o).mono ?_);rintro _ w3 ⟨ov,rfl,H,z,y⟩;have S:=lh z;have G:=lh y;have C:=lh H;clear z y H|go_at_call 55;(refine (Q.o _ A.o).mono ?_);rintro _ w3 ⟨ov,rfl,H,z,y⟩;have S:=lh z;have G:=lh y;have C:=lh H;clear z y H|go_at_call 56;(refine (T.o _ A.o).mono ?_);rintro _ w3 ⟨ov,rfl,H,z,y⟩;have S:=lh z;have G:=lh y;have C:=lh H;clear z y H|go_at_call 57;(refine (U.o _ A.o).mono ?_);rintro _ w3 ⟨ov,rfl,H,z,y⟩;have S:=lh z;have G:=lh y;have C:=lh H;clear z y H|go_at_call 35;(refine (P.o _ A.o).mono ?_);rintro _ w3 ⟨ov,rfl,H,z,y⟩;have S:=lh z;have G:=lh y;have C:=lh H;clear z y H
  go_ret2
  exact⟨_,rfl,C.o,S.o,aJ (bo _ A.o) G.o⟩
theorem Gt(k i:Int)(x:Fu)(s:Z6)(d gr:Z1)(w:ZY)(P:RwS w v l)(hn:l.length<=1000)(A:∀ x∈l,x.2.1.size<=60)(E:x.1.name.size<=60)(D:s.size<=60)(U:IS w d x.2.1)(z:GS w gr x.2.2) :
 ZJ Z8 22 #[v,.agg (opv k i x.1 d gr s)] w fun r w'=>Ch2 w w' (eL l k i x s) r:=by
 have Z:=ay x.1 d gr (aD U) (aE z);have a0:=kl (k:=k) (i:=i) (s:=s) Z;have K:=lh (fun W (b:Z4 w.heap.size w W)=>zT v l x d gr W (P.below b) E Z (fun Q S=>pL x d gr Q E (U.below (bt b S)) (z.below (bt b S))) (fun I Q S=>mZ x d gr Q I E (U.below (bt b S)) (z.below (bt b S))));have L:=lh (fun W (b:Z4 w.heap.size w W)=>zU v l x.1.kind x.1.name W (P.below b) hn A);have N:=lh (fun W (b:Z4 w.heap.size w W)=>zV v l x.1.name s W (P.below b) hn D E);have J:=lh (fun W (b:Z4 w.heap.size w W)=>yB v l s i W (P.below b) (fun y hy=>ZE (A y hy) (by decide)) (ZE D (by decide)) (fun I Q _=>by have:=mZ (di s i) (.slice Z7 0 0) (.slice Z7 0 0) Q I D (IS.nil _) (GS.nil _);rw[uv] at this;exact this));have X:=lh (fun W (b:Z4 w.heap.size w W)=>xM v l s W (P.below b) (fun y hy=>ZE (A y hy) (by decide)) (ZE D (by decide)));have R:=ak w (opv k i x.1 d gr s) 31 (0,0);have H:=lh (aj w (.cells (opv k i x.1 d gr s) 31));have n0:=ae R 0 _ wT;have n1:=ae R 1 _ wU;have n2:=ae R 2 _ (iZ (j:=0) (ap _ _ _));have n3:=ae R 3 _ (iZ (j:=1) (aq _ _ _));have a3:=ae R 35 _ qE;have T:=oD R;have a2:(mid (w.alloc (.cells (opv k i x.1 d gr s) 31)) w.heap.size 2).size=33:=by rw[T];exact ah _ _ _
 unfold eL;obtain⟨va,vc,rfl,-⟩:=P;clear R A U z Z;by_cases u:k=0
 rw[ZT u];have t0:(k==0)=ZZ:=Zb.2 u;clear u L N J X;generalize jg l x=g at K |-;rotate_left;rw[ZX u];have t0:(k==0)=Z2:=ZS.2 u;by_cases F:k=1
 rw[ZT F];have t1:(k==1)=ZZ:=Zb.2 F;clear u F K N J X;generalize jb l x.1.kind x.1.name=g at L |-;rotate_left;rw[ZX F];have t1:(k==1)=Z2:=ZS.2 F;by_cases G:k=2
 rw[ZT G];have t2:(k==2)=ZZ:=Zb.2 G;clear u F G K L J X;generalize jd l x.1.name s=g at N |-;rotate_left;rw[ZX G];have t2:(k==2)=Z2:=ZS.2 G;by_cases O:k=3
 rw[ZT O];have t3:(k==3)=ZZ:=Zb.2 O;clear u F G O K L N X;generalize jf l s i=g at J |-;rotate_left;rw[ZX O];have t3:(k==3)=Z2:=ZS.2 O;clear u F G O K L N J;generalize jh l s=g at X |-
 all_goals
  go_enter Tryz.func22,Tryz.ntmps22
  go_wp2_with first|go_at_call 62;(refine (X.o _ H.o).mono ?_);rintro _ Y ⟨V,rfl,h,q⟩;have B:=lh (bt H.o q);have C:=lh h;clear q h|go_at_call 58;(refine (K.o _ H.o).mono ?_);rintro _ Y ⟨V,rfl,h,q⟩;have B:=lh (bt H.o q);have C:=lh h;clear q h|go_at_call 59;(refine (L.o _ H.o).mono ?_);rintro _ Y ⟨V,rfl,h,q⟩;have B:=lh (bt H.o q);have C:=lh h;clear q h|go_at_call 60;(refine (N.o _ H.o).mono ?_);rintro _ Y ⟨V,rfl,h,q⟩;have B:=lh (bt H.o q);have C:=lh h;clear q h|go_at_call 61;(refine (J.o _ H.o).mono ?_);rintro _ Y ⟨V,rfl,h,q⟩;have B:=lh (bt H.o q);have C:=lh h;clear q h
  go_ret2
  exact⟨_,rfl,C.o,B.o⟩
end
end Go.Proofs.YtnkjliahpeebjaaGreatDoor
