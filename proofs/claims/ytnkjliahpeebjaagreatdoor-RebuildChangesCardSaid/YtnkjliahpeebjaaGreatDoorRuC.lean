/- Catalogs. -/
import Derived.Test.YtnkjliahpeebjaaGreatDoorRsB
import Derived.Test.YtnkjliahpeebjaaGreatDoorAcA
import Derived.Test.YtnkjliahpeebjaaGreatDoorVaE
set_option maxRecDepth 8000
set_option maxHeartbeats 4000000
open Option renaming some->Z9,none->Z7
open Go.Proofs.Tryz renaming prog->Z8
open _root_ renaming ByteArray->Z6,decide_eq_true_eq->ZU,beq_eq_false_iff_ne->ZJ,decide_eq_true->ZI,decide_eq_false->ZG,decide_eq_false_iff_not->ZF,Array->Zy,beq_iff_eq->YV
open Go.Proofs.YtnkjliahpeebjaaGreatDoor.Ds renaming bl->Z5,bl_length->ZZ,name->YP,rest->XQ,bl_append->XK
open Go.RowKit renaming Below->Z4,intOf->Zq
open Go renaming Value->Z2,World->ZY,Calls->ZH,bodyPost_ret->ZD,below_setRow->ZA
open Bool renaming true->ZX,false->ZW,eq_iff_iff->Zn,true_and->Zc,false_and->XT
open Go.Act renaming put->ZL
open List renaming setIfInBounds_toArray->Zt,set_cons_zero->Ze,set_cons_succ->Zd,range->YK,mem_map->Xv
open ByteArray renaming size_append->YW
open Go.World renaming setCell->Ys
open Go.Proofs.YtnkjliahpeebjaaGreatDoor.Vp renaming rng->XD,gk->Wk
namespace Go.Proofs.YtnkjliahpeebjaaGreatDoor
open Go.RowKit
variable(e:En)(f:Operand->Z2)(k:Z6 × Bool)(s:Z6)(l:List Gr)(d:Z2){w':ZY}(a:Option Addr)(gr:Z2)(i n:Nat)(b:Bool){cs c' c:Zy Z2}(w:ZY)
theorem Br(k:Nat)(h:k<=4):Z5 ((⟨#[68,71,65,67,80]⟩:Z6).extract k (k+1))=[Ek.letter k]:=by
 obtain rfl|rfl|rfl|rfl|rfl:k=0\/k=1\/k=2\/k=3\/k=4:=by omega
 all_goals rfl
theorem rkey(k:Int)(s:Z6)(w:ZY) :
 ZH Z8 137 #[.int .i64 k,.string s] w fun r w'=>∃ t,r=.returned (.string t)/\Z5 t=Ek.key k (Z5 s)/\w'=w:=by
 by_cases u:0<=k/\k<=4/\s.size<=31
 .obtain⟨p,q,g⟩:=u;obtain⟨m,rfl⟩:=Int.eq_ofNat_of_zero_le p;have D:=lh (Ek.key_yes m (Z5 s) ⟨p,q⟩ (by rw[ZZ];exact g));have o:=Br m (by omega);have z:((⟨#[68,71,65,67,80]⟩:Z6).extract m (m+1)).size=1:=by rw[<-ZZ,o];rfl
  have C:=lh o;clear o;have x:IntKind.i64.wrap ((m:Int)+1)=(m:Int)+1:=IntWalk.i64_in _ ⟨by omega,by omega⟩;have H:((m:Int)+1).toNat=m+1:=by omega
  go_enter Tryz.func137,Tryz.ntmps137
  go_wp2_with fail
  go_loopw [5] (fun v wr=>∃ (j:Nat) (t:Z6),j<=31 - s.size/\t.size=1+s.size+j/\v=.string t/\Hid (Z5 t=Ek.letter m::Z5 s++List.replicate j 32)/\wr=w) (fun v _=>32 - Ij v)
  case atStart =>
   refine⟨0,_,Nat.zero_le _,?_,rfl,lh ?_,rfl⟩
   .rw[YW];simp only[H] at *;omega
   .rw[XK];first|rw[C.o]|(simp only[H];rw[C.o])
    simp
  case round =>
   obtain⟨j,t,A,y,rfl,T,rfl⟩:=hrel;by_cases h:t.size<32
   .go_wp2_with fail
    go_roundw
    case rel =>
     refine⟨j+1,_,by omega,?_,rfl,lh ?_,trivial⟩
     .rw[YW,y];rfl
     .rw[XK,T.o,List.replicate_succ',<-List.append_assoc];rfl
    case measure =>
     show 32 - (t++(⟨#[32]⟩:Z6)).size<32 - t.size
     rw[YW];have:(⟨#[32]⟩:Z6).size=1:=rfl;omega
   .go_wp2_with fail
    go_ret
    refine⟨t,rfl,?_,rfl⟩
    rw[D.o,T.o];unfold Ek.pad;rw[ZZ,show j=31 - s.size by omega];rfl
 .have D:=lh (show Ek.key k (Z5 s)=[] by unfold Ek.key Ek.isKind;rw[if_neg (by rw[ZZ];simp;omega)]);go_enter Tryz.func137,Tryz.ntmps137
  go_wp2_with fail
  all_goals
   first
    | (go_ret
       exact⟨_,rfl,by rw[D.o];rfl,rfl⟩)
    | (exfalso;omega)
section
attribute [local go_sem ↓] aZ bf bq
attribute [local go_sem] bn aS aH aK aT ak aI aw az aM ah aQ aL aP aO aR aY aW ap aq df dc ef bN cB dv cK cC
theorem used4(c:Nat)(w:ZY)(h:e.kind=4) :
 ZH Z8 142 #[.agg (e.vals d (.slice a n c))] w fun r w'=>r=.returned (.agg ((fG e).vals (.slice Z7 0 0) (.slice a n c)))/\Z4 w.heap.size w w':=by
 have k0:(e.kind==0)=ZW:=by rw[h];rfl
 have k1:(e.kind==1)=ZW:=by rw[h];rfl
 have K:(e.kind==2)=ZW:=by rw[h];rfl
 have g:(e.kind==3)=ZW:=by rw[h];rfl
 have j:(e.kind==4)=ZX:=by rw[h];rfl
 clear h;have H:=held3b w (e.vals d (.slice a n c));have R:=row3c' w (e.vals d (.slice a n c));go_enter Tryz.func142,Tryz.ntmps142
 go_wp2_with fail
 go_region
 all_goals
  go_wp2_with fail
  refine ZD (gN (n:=32) rfl Tryz.underlying29 rfl (by kernel_rfl) _ _ (w.heap.size+1) rfl (by rw[au (H _ _ _ _ _ rfl)];rfl)) rfl ?_
  rw[au (H _ _ _ _ _ rfl)];exact⟨by unfold fG En.vals;rfl,ZA (by exact aB) (show w.heap.size<=w.heap.size+1 by omega) _⟩
end
theorem rlevel(n:Int)(w:ZY):ZH Z8 151 #[.int .i64 n] w fun r w'=>r=.returned (.bool (XD 0 3 [n]))/\w=w':=by
 have e:XD 0 3 [n]=(decide (0<=n)&&decide (n<=3)):=by unfold XD;simp
 rw[e];by_cases h:0<=n
 .have E:decide (0<=n)=ZX:=ZI h;rw[E];go_enter Tryz.func151,Tryz.ntmps151
  go_wp2_with fail
  go_ret
  exact⟨rfl,rfl⟩
 .have E:decide (0<=n)=ZW:=ZG h;rw[E];go_enter Tryz.func151,Tryz.ntmps151
  go_wp2_with fail
  go_ret
  exact⟨rfl,rfl⟩
theorem yS(h:i<l.length):Vp.among k ((l.take (i+1)).map Wk)=(Vp.among k ((l.take i).map Wk) || decide (k=Wk l[i])):=by
 unfold Vp.among;rw[List.take_succ_eq_append_getElem h,List.map_append,List.any_append];simp
theorem yR(j:Nat)(H:i<=j)(h:Vp.among k ((l.take i).map Wk)=ZX):Vp.among k ((l.take j).map Wk)=ZX:=by
 rw[oF] at h |-;obtain⟨x,g,e⟩:=Xv.1 h;exact Xv.2 ⟨x,(List.take_subset_take_left l H) g,e⟩
theorem EL(h:i<l.length):Vp.grAt l i=(Vp.word (Z5 l[i].1)&&(XD 0 3 [l[i].2.2]&&!Vp.among (Wk l[i]) ((l.take i).map Wk))):=by
 unfold Vp.grAt;rw[List.getElem?_eq_getElem h]
theorem Cs(k:Nat)(h:k<l.length):XQ (Vp.grAt l) (YK l.length) k=(Vp.grAt l k&&XQ (Vp.grAt l) (YK l.length) (k+1)):=by
 have:=Ds.rest_next (Vp.grAt l) (YK l.length) k (by simpa using h);simpa using this
theorem Hj(a b:Gr):decide (Wk a=Wk b)=(decide (a.1=b.1)&&(a.2.1==b.2.1)):=by
 unfold Wk;rw[Zn,ZU,Bool.and_eq_true,ZU,YV,Prod.mk.injEq]
theorem rgrants(v:Z2)(l:List Gr)(w:ZY)(h:GS w v l) :
 ZH Z8 152 #[v] w fun r w'=>r=.returned (.bool (Vp.grs l&&decide (l.length<=8)))/\Z4 w.heap.size w w':=by
 obtain⟨a,c,rfl,hz,-⟩:=id h;have O:=lh h;clear h;go_enter Tryz.func152,Tryz.ntmps152
 go_wp2_with fail
 go_loopw [3] (fun i wr=>∃ k:Nat,k<=l.length/\i=.int .i64 k/\Vp.grs l=XQ (Vp.grAt l) (YK l.length) k/\Z4 w.heap.size w wr) (fun i _=>l.length - (Zq i).toNat)
 case atStart=>exact⟨0,Nat.zero_le _,rfl,rfl,Below.refl _ _⟩
 case round =>
  obtain⟨k,hk,rfl,y,B⟩:=hrel;by_cases z:k<l.length
  .obtain⟨b,o,rfl,P⟩:=GS.at (O.o.below B) (by omega);obtain⟨X,Y,F⟩:=P k z;have t:=Cs l k z;rw[EL l k z] at t;have H:=fun W=>rqual l[k].1 W
   have g:=fun W=>rlevel l[k].2.2 W
   clear P;cases J:Vp.word (Z5 l[k].1)
   .rw[J] at t H;have R:=lh (y.trans t);have Q:=lh H;clear t H g y;go_wp2_with (first|(go_at_call 229;(with_reducible refine (Q.o _).mono ?_);rintro _ K ⟨rfl,u⟩))
    go_ret
    exact⟨aF (by rw[R.o];rfl),bt B u⟩
   cases C:XD 0 3 [l[k].2.2]
   .rw[J] at t H;rw[C] at t g;have R:=lh (y.trans t);have Q:=lh H;have L:=lh g;clear t H g y;go_wp2_with (first|(go_at_call 229;(with_reducible refine (Q.o _).mono ?_);rintro _ K ⟨rfl,u⟩;have F:=ai u F)|(go_at_call 151;(with_reducible refine (L.o _).mono ?_);rintro _ w3 ⟨rfl,rfl⟩))
    go_ret
    exact⟨aF (by rw[R.o];rfl),bt B u⟩
   rw[J] at t H;rw[C] at t g;rw[Zc,Zc] at t;have R:=lh (y.trans t);have Q:=lh H;have L:=lh g;clear t H g y;go_wp2_with (first|(go_at_call 229;(with_reducible refine (Q.o _).mono ?_);rintro _ K ⟨rfl,u⟩;have G:=bt B u;have q0:=ai u X;have q1:=ai u Y;have F:=ai u F)|(go_at_call 151;(with_reducible refine (L.o _).mono ?_);rintro _ w3 ⟨rfl,rfl⟩))
   go_loopw [4] (fun j wr=>∃ i:Nat,i<=k/\j=.int .i64 i/\Vp.among (Wk l[k]) ((l.take i).map Wk)=ZW/\∃ q,wr=K.drewN q) (fun j _=>k - (Zq j).toNat)
   case atStart=>exact⟨0,Nat.zero_le _,rfl,rfl,0,rfl⟩
   case round =>
    obtain⟨i,hi,rfl,m,q,rfl⟩:=hrel;by_cases V:i<k
    .obtain⟨b',o',U,P⟩:=GS.at (O.o.below G) (by omega);cases U
     obtain⟨r0,r1,r2⟩:=P i (by omega);clear P;have p:=yS (Wk l[k]) l i (by omega);rw[Hj,m,Bool.false_or] at p;have i1:(0:Int)<=(i:Int):=by omega
     have i2:(i:Int)<(l.length:Int):=by omega
     have k1:(0:Int)<=(k:Int):=by omega
     have k2:(k:Int)<(l.length:Int):=by omega
     have S:(l[i].1.toList==l[k].1.toList)=decide (l[k].1=l[i].1):=by rw[Zn,YV,ZU,lM];exact eq_comm
     have x:=yR (Wk l[k]) l (i+1) k (by omega);by_cases D:l[k].1=l[i].1
     .rw[ZI D] at S p;rw[Zc] at p;by_cases A:l[k].2.1=l[i].2.1
      .have Z:(l[i].2.1==l[k].2.1)=ZX:=by rw[YV];exact A.symm
       have T:(l[k].2.1==l[i].2.1)=ZX:=by rw[YV];exact A
       rw[T] at p;have I:=lh (x p);clear p x D A T m;go_wp2_with fail
       go_quiet (fail)
       go_wp2_with fail
       go_ret
       exact⟨aF (by rw[R.o,I.o];rfl),below_drewN (below_drewN G _) _⟩
      .have Z:(l[i].2.1==l[k].2.1)=ZW:=by rw[ZJ];exact fun e=>A e.symm
       have T:(l[k].2.1==l[i].2.1)=ZW:=by rw[ZJ];exact A
       rw[T] at p;have N:=lh p;clear p x D A T m;go_wp2_with fail
       go_quiet (fail)
       go_wp2_with fail
       go_roundw
       case rel=>exact⟨i+1,by omega,by go_num,N.o,_,rfl⟩
       case measure=>simp [Zq];omega
     .rw[ZG D] at S p;rw[XT] at p;have N:=lh p;clear p x D m;go_wp2_with fail
      go_quiet (fail)
      go_wp2_with fail
      go_roundw
      case rel=>exact⟨i+1,by omega,by go_num,N.o,_,rfl⟩
      case measure=>simp [Zq];omega
    .obtain rfl:i=k:=by omega
     have I:=lh m;clear m;go_wp2_with fail
     go_roundw
     case rel=>exact⟨i+1,by omega,by go_num,by rw[R.o,I.o];rfl,below_drewN G _⟩
     case measure=>simp [Zq];omega
  .obtain rfl:k=l.length:=by omega
   have e:=y.trans (Ds.rest_end (Vp.grAt l) (YK l.length) l.length (by simp));have E:=lh e;clear e y;go_wp2_with fail
   go_ret
   exact⟨aF (by rw[E.o,Zc,Zn,ZU,ZU];omega),B⟩
section
def qN(e:En)(g:List Gr):Bool:=Ds.pat (Z5 e.name)&&(XD 0 3 [e.lev]&&(Vp.own (Z5 e.owner)&&(Vp.grs g&&decide (g.length<=8))))
attribute [local go_sem ↓] aZ bf bq
attribute [local go_sem] bn aS aH aK aT ak aI aw az aM ah aQ aL aP aO aR aY aW ap aq df dc ef bN cK cC
theorem rvalid4(c:Nat)(G:List Gr)(b:Bool)(w:ZY)(H:e.kind=4)(y:GS w (.slice a n c) G)(z:e.name.size<=60)(A:∀ W,Z4 w.heap.size w W->ZH Z8 141 #[.agg (e.vals d (.slice a n c)),.agg ((fG e).vals (.slice Z7 0 0) (.slice a n c))] W fun r w'=>r=.returned (.bool b)/\Z4 W.heap.size W w') :
 ZH Z8 67 #[.agg (e.vals d (.slice a n c))] w fun r w'=>r=.returned (.bool (b&&qN e G))/\Z4 w.heap.size w w':=by
 have C:=fun W=>used4 e d a n c W H
 have j:=fun W (B:Z4 w.heap.size w W)=>rgrants (.slice a n c) G W (y.below B)
 have k0:(e.kind==0)=ZW:=by rw[H];rfl
 have k1:(e.kind==1)=ZW:=by rw[H];rfl
 have k2:(e.kind==2)=ZW:=by rw[H];rfl
 have k3:(e.kind==3)=ZW:=by rw[H];rfl
 have k4:(e.kind==4)=ZX:=by rw[H];rfl
 have U:=lh C;have S:=lh A;clear H C A y;have u:∀ t,Z4 w.heap.size w (w.alloc (.cells (e.vals d (.slice a n c)) t)).drew:=fun t=>by exact aB
 have x:∀ t,row (w.alloc (.cells (e.vals d (.slice a n c)) t)).drew w.heap.size=e.vals d (.slice a n c):=fun t=>by rw[az];exact ak w _ t _
 cases b
 .rw[XT];go_enter Tryz.func67,Tryz.ntmps67
  go_wp2_with fail
  go_region_held3 (fun w'=>row w' w.heap.size=e.vals d (.slice a n c)/\Z4 w.heap.size w w') (first|exact⟨x _,u _⟩|exact keep1 h (by assumption) (by simp [ah])) (first|(go_at_call 142;(with_reducible refine (U.o _).mono ?_);rintro e T ⟨rfl,h⟩)|(go_at_call 141;(with_reducible refine (S.o _ (by assumption:row _ _=_/\Z4 _ _ _).2).mono ?_);rintro e X ⟨rfl,h⟩))
  all_goals
   go_wp2_with fail
   go_ret
   exact⟨rfl,(by assumption:row _ _=_/\Z4 _ _ _).2⟩
 .rw[Zc];unfold qN;have p:=fun W=>mP e.name W
  have m:=fun W=>rlevel e.lev W
  have o:=fun W=>rowner e.owner W
  generalize Ds.pat (Z5 e.name)=I at p |-;generalize XD 0 3 [e.lev]=J at m |-;generalize Vp.own (Z5 e.owner)=K at o |-;generalize (Vp.grs G&&decide (G.length<=8))=Z at j |-;have P:=lh p;have L:=lh m;have O:=lh o;have F:=lh j;clear p m o j;go_enter Tryz.func67,Tryz.ntmps67
  go_wp2_with fail
  go_region_held3 (fun w'=>row w' w.heap.size=e.vals d (.slice a n c)/\Z4 w.heap.size w w') (first|exact⟨x _,u _⟩|exact keep1 h (by assumption) (by simp [ah])) (first|(go_at_call 142;(with_reducible refine (U.o _).mono ?_);rintro e T ⟨rfl,h⟩)|(go_at_call 141;(with_reducible refine (S.o _ (by assumption:row _ _=_/\Z4 _ _ _).2).mono ?_);rintro e X ⟨rfl,h⟩))
  all_goals
   obtain⟨R,B⟩:=(by assumption:row _ _=_/\Z4 _ _ _);have D:=ae R 0 _ (ap e d _);have N:=ae R 1 _ (aq e d _)
   go_upto_region 15 with (first
    | (go_at_call 130;(with_reducible refine (dt e.name _).mono ?_);rintro _ w5 ⟨rfl,h⟩;have R:=am h R (by simp [ah]);have D:=ae R 0 _ (ap e d _);have N:=ae R 1 _ (aq e d _);have B:=bt B h;clear h)
    | (go_at_call 143;(with_reducible refine (gI e.name _ z).mono ?_);rintro _ w6 ⟨rfl,h⟩;have R:=am h R (by simp [ah]);have D:=ae R 0 _ (ap e d _);have N:=ae R 1 _ (aq e d _);have B:=bt B h;clear h))
   have g:=ae R 28 _ (bN e d _);have v:=ae R 31 _ (cK e d _);have V:=ae R 32 _ (cC e d _);cases I
   .go_wp2_with (first|(go_at_call 150;(with_reducible refine (P.o _).mono ?_);rintro _ q ⟨rfl,h⟩;have R:=am h R (by simp [ah]);have N:=ae R 1 _ (aq e d _);have g:=ae R 28 _ (bN e d _);have v:=ae R 31 _ (cK e d _);have V:=ae R 32 _ (cC e d _);have B:=bt B h;clear h))
    go_ret
    exact⟨rfl,B⟩
   cases J
   .go_wp2_with (first|(go_at_call 150;(with_reducible refine (P.o _).mono ?_);rintro _ q ⟨rfl,h⟩;have R:=am h R (by simp [ah]);have N:=ae R 1 _ (aq e d _);have g:=ae R 28 _ (bN e d _);have v:=ae R 31 _ (cK e d _);have V:=ae R 32 _ (cC e d _);have B:=bt B h;clear h)|(go_at_call 151;(with_reducible refine (L.o _).mono ?_);rintro _ E ⟨rfl,rfl⟩))
    go_ret
    exact⟨rfl,B⟩
   cases K
   .go_wp2_with (first|(go_at_call 150;(with_reducible refine (P.o _).mono ?_);rintro _ q ⟨rfl,h⟩;have R:=am h R (by simp [ah]);have N:=ae R 1 _ (aq e d _);have g:=ae R 28 _ (bN e d _);have v:=ae R 31 _ (cK e d _);have V:=ae R 32 _ (cC e d _);have B:=bt B h;clear h)|(go_at_call 151;(with_reducible refine (L.o _).mono ?_);rintro _ E ⟨rfl,rfl⟩)|(go_at_call 148;(with_reducible refine (O.o _).mono ?_);rintro _ Y ⟨rfl,h⟩;have R:=am h R (by simp [ah]);have N:=ae R 1 _ (aq e d _);have g:=ae R 28 _ (bN e d _);have v:=ae R 31 _ (cK e d _);have V:=ae R 32 _ (cC e d _);have B:=bt B h;clear h))
    go_ret
    exact⟨rfl,B⟩
   .go_wp2_with (first|(go_at_call 150;(with_reducible refine (P.o _).mono ?_);rintro _ q ⟨rfl,h⟩;have R:=am h R (by simp [ah]);have N:=ae R 1 _ (aq e d _);have g:=ae R 28 _ (bN e d _);have v:=ae R 31 _ (cK e d _);have V:=ae R 32 _ (cC e d _);have B:=bt B h;clear h)|(go_at_call 151;(with_reducible refine (L.o _).mono ?_);rintro _ E ⟨rfl,rfl⟩)|(go_at_call 148;(with_reducible refine (O.o _).mono ?_);rintro _ Y ⟨rfl,h⟩;have R:=am h R (by simp [ah]);have N:=ae R 1 _ (aq e d _);have g:=ae R 28 _ (bN e d _);have v:=ae R 31 _ (cK e d _);have V:=ae R 32 _ (cC e d _);have B:=bt B h;clear h)|(go_at_call 152;(with_reducible refine (F.o _ B).mono ?_);rintro _ Q ⟨rfl,h⟩;have B:=bt B h;clear h))
    go_ret
    exact⟨rfl,B⟩
end
section
attribute [local go_sem ↓] aZ bf bq
attribute [local go_sem] bn aS aH aK aT ak aI aw az aM ah aQ aL aP aO aR aY aW ap aq df dc ef bN cB dv cK cC
theorem held3n(c:Zy Z2):∀ (z x:Zy Z2) (t T g:TypeId),z.size=33->Held (((w.alloc (.cells c t)).alloc (.cells z T)).alloc (.cells x g)) (w.heap.size+1) 33:=fun z x t T g H=>by
 have h:=EB.new (w.alloc (.cells c t)) z T;rw[show (w.alloc (.cells c t)).heap.size=w.heap.size+1 by simp] at h;exact lE (h.of_block (heap_alloc_old _ _ h.2.2) (by simp)) H (by decide)
theorem row3cn(c:Zy Z2):∀ (z x:Zy Z2) (t T g:TypeId),row (((w.alloc (.cells c t)).alloc (.cells z T)).alloc (.cells x g)) (w.heap.size+1+1)=x:=fun z x t T g=>by
 have h:=ak ((w.alloc (.cells c t)).alloc (.cells z T)) x g (0,0);simpa using h
theorem used2(h:e.kind=2) :
 ZH Z8 142 #[.agg (e.vals d gr)] w fun r w'=>r=.returned (.agg ((gU e).vals (.slice Z7 0 0) (.slice Z7 0 0)))/\Z4 w.heap.size w w':=by
 have k0:(e.kind==0)=ZW:=by rw[h];rfl
 have k1:(e.kind==1)=ZW:=by rw[h];rfl
 have K:(e.kind==2)=ZX:=by rw[h];rfl
 clear h;have H:=held3n w (e.vals d gr);have R:=row3cn w (e.vals d gr);go_enter Tryz.func142,Tryz.ntmps142
 go_wp2_with fail
 refine ZD (gN (n:=32) rfl Tryz.underlying29 rfl (by kernel_rfl) _ _ (w.heap.size+1) rfl (by rw[au (H _ _ _ _ _ rfl)];rfl)) rfl ?_
 rw[au (H _ _ _ _ _ rfl)];exact⟨by unfold gU En.vals;rfl,ZA (by exact aB) (show w.heap.size<=w.heap.size+1 by omega) _⟩
theorem used3(h:e.kind=3) :
 ZH Z8 142 #[.agg (e.vals d gr)] w fun r w'=>r=.returned (.agg ((gV e).vals (.slice Z7 0 0) (.slice Z7 0 0)))/\Z4 w.heap.size w w':=by
 have k0:(e.kind==0)=ZW:=by rw[h];rfl
 have k1:(e.kind==1)=ZW:=by rw[h];rfl
 have K:(e.kind==2)=ZW:=by rw[h];rfl
 have g:(e.kind==3)=ZX:=by rw[h];rfl
 clear h;have H:=held3n w (e.vals d gr);have R:=row3cn w (e.vals d gr);go_enter Tryz.func142,Tryz.ntmps142
 go_wp2_with fail
 refine ZD (gN (n:=32) rfl Tryz.underlying29 rfl (by kernel_rfl) _ _ (w.heap.size+1) rfl (by rw[au (H _ _ _ _ _ rfl)];rfl)) rfl ?_
 rw[au (H _ _ _ _ _ rfl)];exact⟨by unfold gV En.vals;rfl,ZA (by exact aB) (show w.heap.size<=w.heap.size+1 by omega) _⟩
theorem IG(h:¬ (0<=e.kind/\e.kind<=4)) :
 ZH Z8 142 #[.agg (e.vals d gr)] w fun r w'=>r=.returned (.agg ((nB e).vals (.slice Z7 0 0) (.slice Z7 0 0)))/\Z4 w.heap.size w w':=by
 have k0:(e.kind==0)=ZW:=by rw[ZJ];omega
 have k1:(e.kind==1)=ZW:=by rw[ZJ];omega
 have K:(e.kind==2)=ZW:=by rw[ZJ];omega
 have g:(e.kind==3)=ZW:=by rw[ZJ];omega
 have j:(e.kind==4)=ZW:=by rw[ZJ];omega
 clear h;have H:=held3n w (e.vals d gr);have R:=row3cn w (e.vals d gr);go_enter Tryz.func142,Tryz.ntmps142
 go_wp2_with fail
 refine ZD (gN (n:=32) rfl Tryz.underlying29 rfl (by kernel_rfl) _ _ (w.heap.size+1) rfl (by rw[au (H _ _ _ _ _ rfl)];rfl)) rfl ?_
 rw[au (H _ _ _ _ _ rfl)];exact⟨by unfold nB En.vals;rfl,ZA (by exact aB) (show w.heap.size<=w.heap.size+1 by omega) _⟩
end
section
set_option linter.unusedSimpArgs false
theorem CM(m:s.size<=1000) :
 ZH Z8 149 #[.string s] w fun e w'=>∃ (p:List Z6) (g C:Nat),p.length=(Ds.pieces (Z5 s)).length/\e=.returned (.slice (Z9 ⟨g,0,Z7⟩) p.length C)/\Z4 w.heap.size w w' :=
 (js s w m).mono fun _ _ ⟨Q,q,g,C,h,_,_,_,H,_,_,_,j⟩=>⟨Q++[q],g,C,by rw[<-h];simp,by simpa using H,j⟩
attribute [local go_sem ↓] aZ bf bq
attribute [local go_sem] bn aS aH aK aT ak aI aw az aM ah aQ aL aP aO aR aY aW ap aq df dc ef bN cB dv cK cC
theorem rvalid2(g:e.kind=2)(z:e.name.size<=60)(q:∀ W,Z4 w.heap.size w W->ZH Z8 141 #[.agg (e.vals d gr),.agg ((gU e).vals (.slice Z7 0 0) (.slice Z7 0 0))] W fun r w'=>r=.returned (.bool b)/\Z4 W.heap.size W w') :
 ZH Z8 67 #[.agg (e.vals d gr)] w fun r w'=>r=.returned (.bool (b&&(Vp.nameA (Z5 e.name)&&Vp.ali e)))/\Z4 w.heap.size w w':=by
 have u:=fun W=>used2 e d gr W g
 have k0:(e.kind==0)=ZW:=by rw[g];rfl
 have k1:(e.kind==1)=ZW:=by rw[g];rfl
 have K:(e.kind==2)=ZX:=by rw[g];rfl
 have U:=lh u;have S:=lh q;clear g u q;have o:∀ t,Z4 w.heap.size w (w.alloc (.cells (e.vals d gr) t)).drew:=fun t=>by exact aB
 have p:∀ t,row (w.alloc (.cells (e.vals d gr) t)).drew w.heap.size=e.vals d gr:=fun t=>by rw[az];exact ak w _ t _
 cases b
 .rw[XT];go_enter Tryz.func67,Tryz.ntmps67
  go_wp2_with fail
  go_region_held3 (fun w'=>row w' w.heap.size=e.vals d gr/\Z4 w.heap.size w w') (first|exact⟨p _,o _⟩|exact keep1 h (by assumption) (by simp [ah])) (first|(go_at_call 142;(with_reducible refine (U.o _).mono ?_);rintro e D ⟨rfl,h⟩)|(go_at_call 141;(with_reducible refine (S.o _ (by assumption:row _ _=_/\Z4 _ _ _).2).mono ?_);rintro e E ⟨rfl,h⟩))
  all_goals
   go_wp2_with fail
   go_ret
   exact⟨rfl,(by assumption:row _ _=_/\Z4 _ _ _).2⟩
 .rw[Zc];have j:=fun W=>dt e.name W
  have H:=fun W=>gI e.name W z
  have m:=fun W=>dt e.target W
  unfold Vp.nameA Vp.ali;generalize YP (Z5 e.name)=C at j |-;generalize Ds.gen (Z5 e.name)=y at H |-;generalize YP (Z5 e.target)=A at m |-;generalize (⟨(Ds.splG (Z5 e.name)).toArray⟩:Z6)=G at H;generalize Ds.splN (Z5 e.name)=I at H;have N:=lh j;have P:=lh H;have T:=lh m;clear j H m;go_enter Tryz.func67,Tryz.ntmps67
  go_wp2_with fail
  go_region_held3 (fun w'=>row w' w.heap.size=e.vals d gr/\Z4 w.heap.size w w') (first|exact⟨p _,o _⟩|exact keep1 h (by assumption) (by simp [ah])) (first|(go_at_call 142;(with_reducible refine (U.o _).mono ?_);rintro e D ⟨rfl,h⟩)|(go_at_call 141;(with_reducible refine (S.o _ (by assumption:row _ _=_/\Z4 _ _ _).2).mono ?_);rintro e E ⟨rfl,h⟩))
  all_goals
   obtain⟨R,B⟩:=(by assumption:row _ _=_/\Z4 _ _ _);have x:=ae R 0 _ (ap e d gr);have V:=ae R 1 _ (aq e d gr)
   go_upto_region 11 with (first
    | (go_at_call 130;(with_reducible refine (N.o _).mono ?_);rintro _ J ⟨rfl,h⟩;have R:=am h R (by simp [ah]);have x:=ae R 0 _ (ap e d gr);have V:=ae R 1 _ (aq e d gr);have B:=bt B h;clear h)
    | (go_at_call 143;(with_reducible refine (P.o _).mono ?_);rintro _ L ⟨rfl,h⟩;have R:=am h R (by simp [ah]);have x:=ae R 0 _ (ap e d gr);have V:=ae R 1 _ (aq e d gr);have B:=bt B h;clear h))
   have v:=ae R 29 _ (cB e d gr);cases C
   .go_wp2_with fail
    go_ret
    exact⟨rfl,B⟩
   cases y
   rotate_left
   .go_wp2_with fail
    go_ret
    exact⟨rfl,B⟩
   cases A
   .go_wp2_with ((with_reducible refine (T.o _).mono ?_);rintro _ F ⟨rfl,h⟩;have R:=am h R (by simp [ah]);have V:=ae R 1 _ (aq e d gr);have v:=ae R 29 _ (cB e d gr);have B:=bt B h;clear h)
    go_ret
    exact⟨rfl,B⟩
   .go_wp2_with ((with_reducible refine (T.o _).mono ?_);rintro _ F ⟨rfl,h⟩;have R:=am h R (by simp [ah]);have V:=ae R 1 _ (aq e d gr);have v:=ae R 29 _ (cB e d gr);have B:=bt B h;clear h)
    go_ret
    exact⟨aF (by simp [bne]),B⟩
theorem rvalid3(g:e.kind=3)(E:e.name.size<=60)(I:∀ W,Z4 w.heap.size w W->ZH Z8 141 #[.agg (e.vals d gr),.agg ((gV e).vals (.slice Z7 0 0) (.slice Z7 0 0))] W fun r w'=>r=.returned (.bool b)/\Z4 W.heap.size W w') :
 ZH Z8 67 #[.agg (e.vals d gr)] w fun r w'=>r=.returned (.bool (b&&(Vp.nameC (Z5 e.name)&&Vp.cat e)))/\Z4 w.heap.size w w':=by
 have J:=fun W=>used3 e d gr W g
 have k0:(e.kind==0)=ZW:=by rw[g];rfl
 have k1:(e.kind==1)=ZW:=by rw[g];rfl
 have k2:(e.kind==2)=ZW:=by rw[g];rfl
 have k3:(e.kind==3)=ZX:=by rw[g];rfl
 have U:=lh J;have z:=lh I;clear g J I;have y:∀ t,Z4 w.heap.size w (w.alloc (.cells (e.vals d gr) t)).drew:=fun t=>by exact aB
 have A:∀ t,row (w.alloc (.cells (e.vals d gr) t)).drew w.heap.size=e.vals d gr:=fun t=>by rw[az];exact ak w _ t _
 cases b
 .rw[XT];go_enter Tryz.func67,Tryz.ntmps67
  go_wp2_with fail
  go_region_held3 (fun w'=>row w' w.heap.size=e.vals d gr/\Z4 w.heap.size w w') (first|exact⟨A _,y _⟩|exact keep1 h (by assumption) (by simp [ah])) (first|(go_at_call 142;(with_reducible refine (U.o _).mono ?_);rintro e K ⟨rfl,h⟩)|(go_at_call 141;(with_reducible refine (z.o _ (by assumption:row _ _=_/\Z4 _ _ _).2).mono ?_);rintro e O ⟨rfl,h⟩))
  all_goals
   go_wp2_with fail
   go_ret
   exact⟨rfl,(by assumption:row _ _=_/\Z4 _ _ _).2⟩
 .rw[Zc];have j:=fun W=>dt e.name W
  have H:=fun W=>gI e.name W E
  have D:=fun W=>CM e.name W (by omega)
  unfold Vp.nameC Vp.cat;rw[show XD 1 15 [e.cat]=(decide (1<=e.cat)&&decide (e.cat<=15)) by simp [XD]];generalize (⟨(Ds.splG (Z5 e.name)).toArray⟩:Z6)=sg at H;generalize Ds.splN (Z5 e.name)=sn at H;generalize Ds.gen (Z5 e.name)=c1 at H;cases u:YP (Z5 e.name)
  .rw[u] at j;have N:=lh j;have P:=lh H;clear j H D u;go_enter Tryz.func67,Tryz.ntmps67
   go_wp2_with fail
   go_region_held3 (fun w'=>row w' w.heap.size=e.vals d gr/\Z4 w.heap.size w w') (first|exact⟨A _,y _⟩|exact keep1 h (by assumption) (by simp [ah])) (first|(go_at_call 142;(with_reducible refine (U.o _).mono ?_);rintro e K ⟨rfl,h⟩)|(go_at_call 141;(with_reducible refine (z.o _ (by assumption:row _ _=_/\Z4 _ _ _).2).mono ?_);rintro e O ⟨rfl,h⟩))
   all_goals
    obtain⟨R,B⟩:=(by assumption:row _ _=_/\Z4 _ _ _);have v:=ae R 0 _ (ap e d gr);have V:=ae R 1 _ (aq e d gr)
    go_wp2_with first|go_at_call 130;(with_reducible refine (N.o _).mono ?_);rintro _ Y ⟨rfl,h⟩;have R:=am h R (by simp [ah]);have v:=ae R 0 _ (ap e d gr);have V:=ae R 1 _ (aq e d gr);have B:=bt B h;clear h|go_at_call 143;(with_reducible refine (P.o _).mono ?_);rintro _ Z ⟨rfl,h⟩;have R:=am h R (by simp [ah]);have v:=ae R 0 _ (ap e d gr);have V:=ae R 1 _ (aq e d gr);have B:=bt B h;clear h
    go_ret
    exact⟨rfl,B⟩
  .rw[u] at j;have N:=lh j;have P:=lh H;have Q:=lh D;have G:decide (1<=e.cat)=ZX\/decide (1<=e.cat)=ZW:=by cases decide (1<=e.cat) <;> simp
   generalize o:(Ds.pieces (Z5 e.name)).length=pl;have L:=lh o;clear j H D u o;go_enter Tryz.func67,Tryz.ntmps67
   go_wp2_with fail
   go_region_held3 (fun w'=>row w' w.heap.size=e.vals d gr/\Z4 w.heap.size w w') (first|exact⟨A _,y _⟩|exact keep1 h (by assumption) (by simp [ah])) (first|(go_at_call 142;(with_reducible refine (U.o _).mono ?_);rintro e K ⟨rfl,h⟩)|(go_at_call 141;(with_reducible refine (z.o _ (by assumption:row _ _=_/\Z4 _ _ _).2).mono ?_);rintro e O ⟨rfl,h⟩))
   all_goals
    obtain⟨R,B⟩:=(by assumption:row _ _=_/\Z4 _ _ _);have v:=ae R 0 _ (ap e d gr);have V:=ae R 1 _ (aq e d gr)
    go_upto_region 13 with (first
     | (go_at_call 130;(with_reducible refine (N.o _).mono ?_);rintro _ Y ⟨rfl,h⟩;have R:=am h R (by simp [ah]);have v:=ae R 0 _ (ap e d gr);have V:=ae R 1 _ (aq e d gr);have B:=bt B h;clear h)
     | (go_at_call 143;(with_reducible refine (P.o _).mono ?_);rintro _ Z ⟨rfl,h⟩;have R:=am h R (by simp [ah]);have v:=ae R 0 _ (ap e d gr);have V:=ae R 1 _ (aq e d gr);have B:=bt B h;clear h))
    have q:=ae R 30 _ (dv e d gr);by_cases x:1<=e.cat
    .have G:decide (1<=e.cat)=ZX:=ZI x;go_wp2_with (go_at_call 149;(refine (Q.o _).mono ?_);rintro _ w7 ⟨p,T,X,m,rfl,h⟩;have S:=lh (m.trans L.o);clear m;have R:=am h R (by simp [ah]);have q:=ae R 30 _ (dv e d gr);have B:=bt B h;clear h;rcases Nat.lt_or_ge 2 p.length with C|C;(have F:decide ((p.length:Int)<=2)=ZW:=(by rw[ZF];omega));rotate_left 1;(have F:decide ((p.length:Int)<=2)=ZX:=(by rw[ZU];omega));rotate_left 1)
     all_goals
      go_ret
      exact⟨aF (by have:=S.o;subst this;simp [x];omega),B⟩
    .have G:decide (1<=e.cat)=ZW:=ZG x;go_wp2_with (go_at_call 149;(refine (Q.o _).mono ?_);rintro _ w7 ⟨p,T,X,m,rfl,h⟩;have S:=lh (m.trans L.o);clear m;have R:=am h R (by simp [ah]);have q:=ae R 30 _ (dv e d gr);have B:=bt B h;clear h;rcases Nat.lt_or_ge 2 p.length with C|C;(have F:decide ((p.length:Int)<=2)=ZW:=(by rw[ZF];omega));rotate_left 1;(have F:decide ((p.length:Int)<=2)=ZX:=(by rw[ZU];omega));rotate_left 1)
     all_goals
      go_ret
      exact⟨aF (by have:=S.o;subst this;simp [x];omega),B⟩
theorem FL(m:¬ (0<=e.kind/\e.kind<=4))(z:e.name.size<=60)(p:∀ W,Z4 w.heap.size w W->ZH Z8 141 #[.agg (e.vals d gr),.agg ((nB e).vals (.slice Z7 0 0) (.slice Z7 0 0))] W fun r w'=>r=.returned (.bool b)/\Z4 W.heap.size W w') :
 ZH Z8 67 #[.agg (e.vals d gr)] w fun r w'=>r=.returned (.bool (b&&ZW))/\Z4 w.heap.size w w':=by
 have u:=fun W=>IG e d gr W m
 have k0:(e.kind==0)=ZW:=by rw[ZJ];omega
 have k1:(e.kind==1)=ZW:=by rw[ZJ];omega
 have K:(e.kind==2)=ZW:=by rw[ZJ];omega
 have y:(e.kind==3)=ZW:=by rw[ZJ];omega
 have A:(e.kind==4)=ZW:=by rw[ZJ];omega
 have U:=lh u;have S:=lh p;clear m u p;have g:∀ t,Z4 w.heap.size w (w.alloc (.cells (e.vals d gr) t)).drew:=fun t=>by exact aB
 have j:∀ t,row (w.alloc (.cells (e.vals d gr) t)).drew w.heap.size=e.vals d gr:=fun t=>by rw[az];exact ak w _ t _
 cases b
 .rw[XT];go_enter Tryz.func67,Tryz.ntmps67
  go_wp2_with fail
  go_region_held3 (fun w'=>row w' w.heap.size=e.vals d gr/\Z4 w.heap.size w w') (first|exact⟨j _,g _⟩|exact keep1 h (by assumption) (by simp [ah])) (first|(go_at_call 142;(with_reducible refine (U.o _).mono ?_);rintro e q ⟨rfl,h⟩)|(go_at_call 141;(with_reducible refine (S.o _ (by assumption:row _ _=_/\Z4 _ _ _).2).mono ?_);rintro e x ⟨rfl,h⟩))
  all_goals
   go_wp2_with fail
   go_ret
   exact⟨rfl,(by assumption:row _ _=_/\Z4 _ _ _).2⟩
 .rw[Zc];have o:=fun W=>dt e.name W
  have H:=fun W=>gI e.name W z
  generalize (⟨(Ds.splG (Z5 e.name)).toArray⟩:Z6)=C at H;have N:=lh o;have P:=lh H;clear o H;go_enter Tryz.func67,Tryz.ntmps67
  go_wp2_with fail
  go_region_held3 (fun w'=>row w' w.heap.size=e.vals d gr/\Z4 w.heap.size w w') (first|exact⟨j _,g _⟩|exact keep1 h (by assumption) (by simp [ah])) (first|(go_at_call 142;(with_reducible refine (U.o _).mono ?_);rintro e q ⟨rfl,h⟩)|(go_at_call 141;(with_reducible refine (S.o _ (by assumption:row _ _=_/\Z4 _ _ _).2).mono ?_);rintro e x ⟨rfl,h⟩))
  all_goals
   obtain⟨R,B⟩:=(by assumption:row _ _=_/\Z4 _ _ _);have v:=ae R 0 _ (ap e d gr);have V:=ae R 1 _ (aq e d gr)
   go_wp2_with first|go_at_call 130;(with_reducible refine (N.o _).mono ?_);rintro _ D ⟨rfl,h⟩;have R:=am h R (by simp [ah]);have v:=ae R 0 _ (ap e d gr);have V:=ae R 1 _ (aq e d gr);have B:=bt B h;clear h|go_at_call 143;(with_reducible refine (P.o _).mono ?_);rintro _ E ⟨rfl,h⟩;have R:=am h R (by simp [ah]);have v:=ae R 0 _ (ap e d gr);have V:=ae R 1 _ (aq e d gr);have B:=bt B h;clear h
   go_ret
   exact⟨rfl,B⟩
end
section
set_option linter.unusedSimpArgs false
theorem qz(dst x y t' pos af gd)(p:lP (f x)=ZX)(H:Held w (bF (f x)) 33)(q:cV (f y)=ZX)(m:(bA (f y)).size=21)(o:bh (bA (f y)).toList=ZX) :
 (execOp f ⟨dst,.store 25 x y,t',pos,af,gd⟩).run Z8 w=.ok .skip (w.setRow (bF (f x)) (over (row w (bF (f x))) 2 (bA (f y)).toList)):=by
 obtain⟨cs,v⟩:∃ cs,f y=.agg cs:=by
  unfold cV at q;split at q
  .rename_i g h;exact⟨g,h⟩
  .cases q
 obtain⟨g,z⟩:∃ g,f x=.pointer (Z9 ⟨g,2,Z7⟩):=by
  unfold lP at p;split at p
  .rename_i g h;exact⟨g,h⟩
  .cases p
 rw[v,aK] at m o;have o:cs.all (·.oneCell')=ZX:=by rw[<-Array.all_toList];exact l8 _ o
 rw[z,aH] at H |-;simp only at H |-
 obtain⟨t,F,u⟩:=fR H
 have A:=run_storeVar_mid (P:=Z8) w g 2 25 cs (fun j C=>by
  have r:2+j<(row w g).size:=by rw[H.1];omega
  have B:(row w g)[2+j]?=Z9 (row w g)[2+j]:=Array.getElem?_eq_getElem r;exact⟨by rw[cell_of_row w g (2+j) _ t F u,B];rfl,H.2.2 _⟩) (by rw[m];kernel_rfl) o
 rw[nW g t F cs.toList 2 w (row w g) u (by intro e;have:=congrArg List.length e;simp at this;rw[this] at m;simp at m)] at A;unfold execOp;simp only[z,v,aK,Instr.storeAt,Instr.sureAddr,Sem.run_bind,Sem.run_pure,Result.andThen_ok,A]
def U0(w w':ZY)(cs c:Zy Z2):Prop:=row w' w.heap.size=cs/\row w' (w.heap.size+1+1)=c/\c.size=33/\(∀ o,w'.frozen? ⟨w.heap.size+1+1,o,Z7⟩=ZW)/\Held w' (w.heap.size+1) 33/\Z4 w.heap.size w w'
theorem U0.held{w:ZY}(h:U0 w w' cs c):Held w' (w.heap.size+1+1) 33:=⟨by rw[h.2.1];exact h.2.2.1,by decide,h.2.2.2.1⟩
theorem AO{w:ZY}{g n:Nat}(h:Held w g n)(i:Nat)(v:Z2):w.setCell ⟨g,i,Z7⟩ v=w.setRow g ((row w g).setIfInBounds i v):=by
 obtain⟨t,F,H⟩:=fR h;exact setCell_eq_setRow w g i _ t F v H
theorem AC{w:ZY}{g G n:Nat}(h:Held w g n)(H:g≠G):Held (w.setRow G c) g n :=
 h.of_block (cP w G g c H)
theorem U0.set{w:ZY}(h:U0 w w' cs c)(z:c'.size=33):U0 w (w'.setRow (w.heap.size+1+1) c') cs c':=by
 have g:=h.held;refine⟨?_,au g _,z,fun o=>?_,AC h.2.2.2.2.1 (by omega),ZA h.2.2.2.2.2 (by omega) _⟩
 .have:=h.1;unfold row at *;rw[cP _ _ _ _ (by omega)];exact this
 .obtain⟨t,F,j⟩:=fR g;have H:=g.2.2 o;unfold World.frozen? at H |-;rw[j] at H;rw[setRow_heap w' _ _ c' t F j];exact H
theorem U0.dat{w:ZY}(h:U0 w w' cs c)(v:List Z2):U0 w (w'.setRow (w.heap.size+1+1) (over (row w' (w.heap.size+1+1)) 2 v)) cs (over c 2 v):=by
 rw[h.2.1];exact h.set (by rw[jW];exact h.2.2.1)
theorem U0.cell{w:ZY}(h:U0 w w' cs c)(i:Nat)(v:Z2):U0 w (w'.setCell ⟨w.heap.size+1+1,i,Z7⟩ v) cs (c.setIfInBounds i v):=by
 rw[AO h.held,h.2.1];exact h.set (by simpa using h.2.2.1)
theorem U0.at{w:ZY}(h:U0 w w' cs c)(i:Nat)(H:i<33):w'.cell? ⟨w.heap.size+1+1,i,Z7⟩=Z9 (c[i]'(by rw[h.2.2.1];exact H)):=ae h.2.1 i _ (Array.getElem?_eq_getElem _)
theorem U0.start(cs z x:Zy Z2)(t T g:TypeId)(H:0<cs.size)(m:z.size=33)(j:x.size=33):U0 w (((w.alloc (.cells cs t)).alloc (.cells z T)).alloc (.cells x g)).drew cs x:=by
 have h:=EB.new ((w.alloc (.cells cs t)).alloc (.cells z T)) x g;rw[show ((w.alloc (.cells cs t)).alloc (.cells z T)).heap.size=w.heap.size+1+1 by simp] at h;have r:row ((((w.alloc (.cells cs t)).alloc (.cells z T)).alloc (.cells x g))) w.heap.size=cs:=am (w:=w.alloc (.cells cs t)) (by exact aB) (ak w cs t (0,0)) H;exact⟨r,h.1,j,h.2.1,held3b w cs z x t T g m,by exact aB⟩
attribute [local go_sem ↓] aZ bf bq fe qz
attribute [local go_sem] bn aS fx aH aK aT ak aI aw az aM ah bW gO aQ aL aP aO aR aY aW ap aq cf cM
theorem qT(c:Nat):(((over (zlit e.kind e.name) 2 e.dat.toList).setIfInBounds 23 (.slice a n c)).setIfInBounds 24 (.int .i64 e.used))=(fg e).vals (.slice a n c) (.slice Z7 0 0):=by
 unfold zlit fg En.dat En.vals;simp only[over,Zt,Zd,Ze,Nat.reduceAdd]
 rfl
theorem used0(c:Nat)(gr:Z2)(w:ZY)(y:e.kind=0) :
 ZH Z8 142 #[.agg (e.vals (.slice a n c) gr)] w fun r w'=>r=.returned (.agg ((fg e).vals (.slice a n c) (.slice Z7 0 0)))/\Z4 w.heap.size w w':=by
 have k0:(e.kind==0)=ZX:=by rw[y];rfl
 clear y;have C:=held3b w (e.vals (.slice a n c) gr);have D:=row3c' w (e.vals (.slice a n c) gr);go_enter Tryz.func142,Tryz.ntmps142
 go_upto_region 4 with fail
 refine wp_region_held_drew (S:=fun w'=>row w' w.heap.size=e.vals (.slice a n c) gr/\w'.cell? ⟨w.heap.size,23,Z7⟩=Z9 (.slice a n c)/\w'.cell? ⟨w.heap.size,24,Z7⟩=Z9 (.int .i64 e.used)/\Z4 w.heap.size w w') (by kernel_rfl) ?_ (fun hHeld=>?_)
 .have U:=U0.start w (e.vals (.slice a n c) gr) (zlit 0 ⟨#[]⟩) (zlit e.kind e.name) 29 29 29 (by rw[ah];decide) rfl rfl;exact⟨U.1,ae U.1 23 _ (cf _ _ _),ae U.1 24 _ (cM _ _ _),U.2.2.2.2.2⟩
 have U:=U0.start w (e.vals (.slice a n c) gr) (zlit 0 ⟨#[]⟩) (zlit e.kind e.name) 29 29 29 (by rw[ah];decide) rfl rfl;clear C D;revert hHeld
 generalize o:World.drew _=t;intro hHeld;have U:U0 w t (e.vals (.slice a n c) gr) (zlit e.kind e.name):=by rw[<-o];exact U
 clear o
 (refine rgy (i:=0) (Z9 13) ?_;(try simp only[ZL,pz]))
 refine eq (i:=1) (Z9 14) (v:=.agg e.dat) rfl rfl (by kernel_rfl) (by kernel_rfl) (by kernel_rfl) (fun _ _ _ h=>h) (by kernel_rfl) (fun W H=>?_) (by assumption) ?_
 .refine (fe _ W _ _ _ _ _ _ rfl (by show (row W w.heap.size).size=33;rw[H.1];exact ah _ _ _)).trans ?_
  show Result.ok (Next.value (.agg ((row W w.heap.size).extract 2 23))) W=_
  rw[H.1,fp]
 (try simp only[ZL,Zt,Ze,Zd])
 (refine rgy (i:=2) (Z9 15) ?_;(try simp only[ZL,pz]))
 (refine rgy (i:=3) (Z9 16) ?_;(try simp only[ZL,pz]))
 (refine rgy (i:=4) (Z9 17) ?_;(try simp only[ZL,pz]))
 (refine rgy (i:=5) (Z9 18) ?_;(try simp only[ZL,pz]))
 (refine rgy (i:=6) (Z9 19) ?_;(try simp only[ZL,pz]))
 have g:=U.dat e.dat.toList;refine lS (i:=7) Z7 (t.setRow (w.heap.size+1+1) (over (row t (w.heap.size+1+1)) 2 e.dat.toList)) rfl rfl (by kernel_rfl) (by kernel_rfl) (qz _ _ _ (.tmp 19) (.tmp 14) _ _ _ _ rfl U.held rfl (bW e) (gO e)) ⟨g.1,ae g.1 23 _ (cf _ _ _),ae g.1 24 _ (cM _ _ _),g.2.2.2.2.2⟩ ?_
 (try simp only[ZL,Zt,Ze,Zd])
 have hHeld:row _ w.heap.size=e.vals (.slice a n c) gr/\World.cell? _ ⟨w.heap.size,23,Z7⟩=Z9 (.slice a n c)/\World.cell? _ ⟨w.heap.size,24,Z7⟩=Z9 (.int .i64 e.used)/\Z4 w.heap.size w _:=⟨g.1,ae g.1 23 _ (cf _ _ _),ae g.1 24 _ (cM _ _ _),g.2.2.2.2.2⟩;revert g hHeld
 generalize (World.setRow _ _ _:ZY)=u;intro g hHeld;clear U;have U:=g;clear g
 (refine rgy (i:=8) (Z9 20) ?_;(try simp only[ZL,pz]))
 have p:=U.at 23 (by decide);have q:=U.2.2.2.1;have g:=U.cell 23 (.slice a n c);refine lS (i:=9) Z7 (Ys u ⟨w.heap.size+1+1,23,Z7⟩ (.slice a n c)) rfl rfl (by kernel_rfl) (by kernel_rfl) (by go_simp) ⟨g.1,ae g.1 23 _ (cf _ _ _),ae g.1 24 _ (cM _ _ _),g.2.2.2.2.2⟩ ?_
 (try simp only[ZL,Zt,Ze,Zd])
 have hHeld:row _ w.heap.size=e.vals (.slice a n c) gr/\World.cell? _ ⟨w.heap.size,23,Z7⟩=Z9 (.slice a n c)/\World.cell? _ ⟨w.heap.size,24,Z7⟩=Z9 (.int .i64 e.used)/\Z4 w.heap.size w _:=⟨g.1,ae g.1 23 _ (cf _ _ _),ae g.1 24 _ (cM _ _ _),g.2.2.2.2.2⟩;revert g hHeld
 generalize (Ys _ _ _:ZY)=x;intro g hHeld;clear p q U;have U:=g;clear g
 (refine rgy (i:=10) (Z9 21) ?_;(try simp only[ZL,pz]))
 have j:=U.at 24 (by decide);have m:=U.2.2.2.1;have g:=U.cell 24 (.int .i64 e.used);refine lS (i:=11) Z7 (Ys x ⟨w.heap.size+1+1,24,Z7⟩ (.int .i64 e.used)) rfl rfl (by kernel_rfl) (by kernel_rfl) (by go_simp) ⟨g.1,ae g.1 23 _ (cf _ _ _),ae g.1 24 _ (cM _ _ _),g.2.2.2.2.2⟩ ?_
 (try simp only[ZL,Zt,Ze,Zd])
 have hHeld:row _ w.heap.size=e.vals (.slice a n c) gr/\World.cell? _ ⟨w.heap.size,23,Z7⟩=Z9 (.slice a n c)/\World.cell? _ ⟨w.heap.size,24,Z7⟩=Z9 (.int .i64 e.used)/\Z4 w.heap.size w _:=⟨g.1,ae g.1 23 _ (cf _ _ _),ae g.1 24 _ (cM _ _ _),g.2.2.2.2.2⟩;revert g hHeld
 generalize (Ys _ _ _:ZY)=A;intro g hHeld;clear j m U;have U:=g;clear g;refine wpAnyH_done (by kernel_rfl) ?_ _
 have hF:=qT e a n c;rw[hF] at U;have z:=ay (fg e) (.slice a n c) (.slice Z7 0 0) rfl rfl;have R:=U.2.1;have G:=U.2.2.2.2.1;have B:=U.2.2.2.2.2;clear hF U hHeld;go_wp2_with fail
 refine ZD (gN (n:=32) rfl Tryz.underlying29 rfl (by kernel_rfl) _ _ (w.heap.size+1) rfl (by rw[au G];exact ah _ _ _)) rfl ?_
 rw[au G];exact⟨rfl,ZA B (show w.heap.size<=w.heap.size+1 by omega) _⟩
end
end Go.Proofs.YtnkjliahpeebjaaGreatDoor
