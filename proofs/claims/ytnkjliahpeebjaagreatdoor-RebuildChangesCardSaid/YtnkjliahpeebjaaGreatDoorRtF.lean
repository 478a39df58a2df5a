/- Catalogs. -/
import Derived.Test.YtnkjliahpeebjaaGreatDoorRnC
set_option maxRecDepth 8000
set_option maxHeartbeats 16000000
open Option renaming some->Z9,none->Z7,getD_some->VF
open Go.Proofs.Tryz renaming prog->Z8
open _root_ renaming ByteArray->Z6,decide_eq_true_eq->ZU,if_neg->ZS,if_pos->ZP,decide_eq_true->ZI,decide_eq_false->ZG,Array->Zy,Option->Zp,Bool->Zj,congrArg->Y7,of_decide_eq_true->Wo
open Go.Proofs.YtnkjliahpeebjaaGreatDoor.Ds renaming bl->Z5,name->YP,bl_append->XK
open Go.RowKit renaming Below->Z4,intOf->Zq
open Go renaming Value->Z2,World->ZY,Calls->ZH,TypeId->Y2,undef->YY,Addr->XV
open Bool renaming true->ZX,false->ZW,and_eq_true->ZQ,eq_iff_iff->Zn,true_and->Zc
open Nat renaming le_refl->ZV,le_trans->ZC,le_of_ble_eq_true->Zl,lt_or_ge->YG
open Go.RowKit.Below renaming refl->ZR,drew->Y3
open Go.Value renaming int->ZB
open List renaming length_cons->Zw,mem_cons->YX,range->YK,length_nil->XX,all_eq_true->XN,mem_range->Wt
open Array renaming getElem?_eq_getElem->Zu,getElem?_eq_none->Y9,getD_eq_getD_getElem?->X2
open ByteArray renaming size_append->YW
open Classical renaming byContradiction->YD
open Cal renaming isDay->X3
open Eq renaming mp->V4
namespace Go.Proofs.YtnkjliahpeebjaaGreatDoor
open Go.RowKit
variable(e:En)(h:Operand->Z2)(x:Fu)(i gr:Z2)(s:Zj)(a:Zp XV)(n:Int){q t:ZY}{j k:XV}(w:ZY){b g m p d f A:Z6}{l W r:ZY}
section
set_option linter.unusedSimpArgs false
theorem vW(W:ZY)(l:List Int)(t:Y2)(h:l.length<=1000000):IS (W.alloc (.cells (l.map (ZB .i64)).toArray t)) (.slice (Z9 ⟨W.heap.size,0,Z7⟩) l.length l.length) l :=
 ⟨_,l.length,rfl,h,fun _=>⟨W.heap.size,0,rfl,by simp,fun k H=>by
  rw[cell_of_row _ W.heap.size (0+k) _ t (0,0) (heap_alloc_new W _)];simp [H]⟩⟩
theorem qh(dst x t pos af gd)(H:db (h x)=ZX)(o:(row w (bF (h x))).size=21) :
 (execOp h ⟨dst,.load 25 x,t,pos,af,gd⟩).run Z8 w=.ok (.value (.agg (row w (bF (h x))))) w :=
 kW h w _ 20 _ Tryz.underlying25 rfl (by kernel_rfl) dst x t pos af gd H o
attribute [local go_sem ↓] aZ bf bq fe kF qh
attribute [local go_sem] bn aS aH aK aT fx ak aI aw az aM ah fp bW aQ aL aP aO aR aY aW ap aq cf cM
theorem rnums:ZH Z8 227 #[.agg e.dat] w fun r o=>∃ v,r=.returned v/\IS o v (bK e)/\Z4 w.heap.size w o:=by
 have R:=ak w e.dat 25 (0,0);have B:=ae R 0 _ (qH e);have C:=ae R 1 _ (qI e);have D:=ae R 2 _ (qJ e);have E:=ae R 3 _ (wH e);have F:=ae R 4 _ (wI e);have G:=ae R 5 _ (wW e);have I:=ae R 6 _ (wY e);have J:=ae R 7 _ (wZ e);have K:=ae R 8 _ (xd e);have L:=ae R 9 _ (xe e);have N:=ae R 10 _ (vG e);have u:=ae R 11 _ (vH e);have y:=ae R 12 _ (vI e);have z:=ae R 13 _ (vJ e)
 have H:IS ((w.alloc (.cells e.dat 25)).alloc (.cells #[ZB .i64 e.d0,ZB .i64 e.d1,ZB .i64 e.d2,ZB .i64 e.d3,ZB .i64 e.d4,ZB .i64 e.d5,ZB .i64 e.d6,ZB .i64 e.d7,ZB .i64 e.d8,ZB .i64 e.d9,ZB .i64 e.d10,ZB .i64 e.d11,ZB .i64 e.d12,ZB .i64 e.d13] 3)) (.slice (Z9 ⟨w.heap.size+1,0,Z7⟩) 14 14) (bK e):=by
  have:=vW (w.alloc (.cells e.dat 25)) (bK e) 3 (Zl rfl);simpa [bK] using this
 have HI:=lh H;clear H R;go_enter Tryz.func227,Tryz.ntmps227
 go_wp2_with fail
 go_ret
 exact⟨_,rfl,HI.o,by exact aB⟩
def fJ(n:Int):Zj:=decide (0<=n)&&decide (n<=1099511627776)
theorem rstored:ZH Z8 228 #[.int .i64 n] w fun r o=>r=.returned (.bool (fJ n))/\w=o:=by
 unfold fJ;generalize H:decide (0<=n)=C;generalize v:decide (n<=1099511627776)=u;cases C
 .go_enter Tryz.func228,Tryz.ntmps228
  go_wp2_with fail
  go_ret
  exact⟨rfl,rfl⟩
 .go_enter Tryz.func228,Tryz.ntmps228
  go_wp2_with fail
  go_ret
  exact⟨rfl,rfl⟩
def jQ(e:En):Zj:=(bK e).all fJ&&(decide (1<=e.d0)&&(decide (e.d1<=3)&&(decide (e.d2<=2)&&(decide (0<=e.cls)&&(decide (e.cls<=3)&&(Vp.own (Z5 e.vol)&&(Vp.own (Z5 e.own)&&(X3 e.cr&&X3 e.ex))))))))
theorem rset:ZH Z8 144 #[.agg e.dat] w fun r w'=>r=.returned (.bool (jQ e))/\Z4 w.heap.size w w':=by
 have R0:=ak w e.dat 25 (0,0);have aa:=gO e;have hn:=fun W=>rnums e W
 have HN:=lh hn
 have Z:∀ k,(∀ j (h:j<(bK e).length),j<k->fJ (bK e)[j]=ZX)->k=(bK e).length->(bK e).all fJ=ZX:=fun k h hk=>by
  rw[XN];intro n hn;obtain⟨j,hj,rfl⟩:=List.getElem_of_mem hn;exact h j hj (by omega)
 have a6:∀ j (h:j<(bK e).length),fJ (bK e)[j]=ZW->(bK e).all fJ=ZW:=fun j h hf=>by
  rw[Bool.eq_false_iff];intro ha;rw[XN] at ha;rw[ha _ (List.getElem_mem h)] at hf;cases hf
 have O:=lh Z;have U:=lh a6;clear hn Z a6;unfold jQ;generalize a9:bK e=S at HN O U |-;clear a9;generalize a8:S.all fJ=ca at O U |-;clear a8;have a3:=fun W=>rowner e.vol W
 have a4:=fun W=>rowner e.own W
 have a1:=fun W=>pa e.cr W
 have a2:=fun W=>pa e.ex W
 generalize h0:decide (1<=e.d0)=c0;generalize h1:decide (e.d1<=3)=c1;generalize h2:decide (e.d2<=2)=s;generalize h3:decide (0<=e.cls)=c3;generalize h4:decide (e.cls<=3)=c4;generalize Vp.own (Z5 e.vol)=c5 at a3 |-;generalize Vp.own (Z5 e.own)=c6 at a4 |-;generalize X3 e.cr=c7 at a1 |-;generalize X3 e.ex=c8 at a2 |-;have E:=lh a3;have F:=lh a4;have C:=lh a1;have D:=lh a2;clear a3 a4 a1 a2;go_enter Tryz.func144,Tryz.ntmps144
 go_wp2_with (go_at_call 227;(with_reducible refine (HN.o _).mono ?_);rintro _ t ⟨v,rfl,hI,H⟩;have HI:=lh hI;have z:=am H R0 (by rw[bW];decide);have y:=below1 H;clear H hI)
 obtain⟨av,cv,rfl,hz,hc⟩:=HI.o;have HC:=lh hc;clear hc HN R0;go_loopw [4] (fun i wr=>∃ k:Nat,k<=S.length/\i=.int .i64 k/\(∀ j (h:j<S.length),j<k->fJ S[j]=ZX)/\row wr w.heap.size=e.dat/\Z4 w.heap.size w wr/\wr=t) (fun i _=>S.length - (Zq i).toNat)
 case atStart=>exact⟨0,by omega,rfl,fun j _ h=>absurd h (by omega),z,y,rfl⟩
 case round =>
  clear z y;obtain⟨k,hk,rfl,a7,z,y,rfl⟩:=hrel;have a0:=lh a7;clear a7;by_cases ab:k<S.length
  .obtain⟨b,o,rfl,H,L⟩:=HC.o (by omega);have c0:=L k (by omega);cases T:fJ (S[k]'(by omega))
   .obtain rfl:=U.o k (by omega) T;have HS:=lh (fun W=>by have:=rstored (S[k]'(by omega)) W;rw[T] at this;exact this);generalize (S[k]'(by omega))=x at c0 HS;clear L T;go_wp2_with (go_at_call 228;(with_reducible refine (HS.o _).mono ?_);rintro _ l ⟨rfl,rfl⟩)
    go_ret
    exact⟨rfl,y⟩
   .have HS:=lh (fun W=>by have:=rstored (S[k]'(by omega)) W;rw[T] at this;exact this);have a5:=lh T
    have HK:Hid (∀ j (h:j<S.length),j<k+1->fJ S[j]=ZX):=lh (fun j h hj=>by
     rcases YG j k with q|q
     .exact a0.o j h q
     .obtain rfl:j=k:=by omega
      exact a5.o)
    clear T a5;generalize (S[k]'(by omega))=x at c0 HS;clear L;go_wp2_with (go_at_call 228;(with_reducible refine (HS.o _).mono ?_);rintro _ l ⟨rfl,rfl⟩)
    go_roundw
    case rel =>
     exact⟨k+1,by omega,by go_num,fun j h hj=>HK.o j h hj,z,y,trivial⟩
    case measure=>simp [Zq];omega
  .obtain rfl:k=S.length:=by omega
   obtain rfl:=O.o _ a0.o rfl;clear O U a0 HC HI;have n0:=ae z 0 _ (qH e);have n1:=ae z 1 _ (qI e);have n2:=ae z 2 _ (qJ e);have ac:=ae z 15 _ (p9 e);have ad:=ae z 16 _ (mW e);have N:=ae z 17 _ (eQ e);have G:=ae z 18 _ (eB e);have I:=ae z 19 _ (eC e);cases c0
   .go_wp2_with first|go_at_call 148;have K:=B;clear K;(with_reducible refine (F.o _).mono ?_);rintro _ V ⟨rfl,H⟩;have u:=am H R (by rw[bW];decide);have G:=ae u 18 _ (eB e);have I:=ae u 19 _ (eC e);have J:=bt B H;clear H|go_at_call 148;(with_reducible refine (E.o _).mono ?_);rintro _ l ⟨rfl,H⟩;have R:=am H z (by rw[bW];decide);have N:=ae R 17 _ (eQ e);have B:=bt y H;clear H|(go_at_call 146;first|((with_reducible refine (C.o _).mono ?_);rintro _ X ⟨rfl,rfl⟩)|((with_reducible refine (D.o _).mono ?_);rintro _ Y ⟨rfl,rfl⟩))
    go_ret
    exact⟨rfl,by first|exact J|exact B|exact y⟩
   cases c1
   .go_wp2_with first|go_at_call 148;have K:=B;clear K;(with_reducible refine (F.o _).mono ?_);rintro _ V ⟨rfl,H⟩;have u:=am H R (by rw[bW];decide);have G:=ae u 18 _ (eB e);have I:=ae u 19 _ (eC e);have J:=bt B H;clear H|go_at_call 148;(with_reducible refine (E.o _).mono ?_);rintro _ l ⟨rfl,H⟩;have R:=am H z (by rw[bW];decide);have N:=ae R 17 _ (eQ e);have B:=bt y H;clear H|(go_at_call 146;first|((with_reducible refine (C.o _).mono ?_);rintro _ X ⟨rfl,rfl⟩)|((with_reducible refine (D.o _).mono ?_);rintro _ Y ⟨rfl,rfl⟩))
    go_ret
    exact⟨rfl,by first|exact J|exact B|exact y⟩
   cases s
   .go_wp2_with first|go_at_call 148;have K:=B;clear K;(with_reducible refine (F.o _).mono ?_);rintro _ V ⟨rfl,H⟩;have u:=am H R (by rw[bW];decide);have G:=ae u 18 _ (eB e);have I:=ae u 19 _ (eC e);have J:=bt B H;clear H|go_at_call 148;(with_reducible refine (E.o _).mono ?_);rintro _ l ⟨rfl,H⟩;have R:=am H z (by rw[bW];decide);have N:=ae R 17 _ (eQ e);have B:=bt y H;clear H|(go_at_call 146;first|((with_reducible refine (C.o _).mono ?_);rintro _ X ⟨rfl,rfl⟩)|((with_reducible refine (D.o _).mono ?_);rintro _ Y ⟨rfl,rfl⟩))
    go_ret
    exact⟨rfl,by first|exact J|exact B|exact y⟩
   cases c3
   .go_wp2_with first|go_at_call 148;have K:=B;clear K;(with_reducible refine (F.o _).mono ?_);rintro _ V ⟨rfl,H⟩;have u:=am H R (by rw[bW];decide);have G:=ae u 18 _ (eB e);have I:=ae u 19 _ (eC e);have J:=bt B H;clear H|go_at_call 148;(with_reducible refine (E.o _).mono ?_);rintro _ l ⟨rfl,H⟩;have R:=am H z (by rw[bW];decide);have N:=ae R 17 _ (eQ e);have B:=bt y H;clear H|(go_at_call 146;first|((with_reducible refine (C.o _).mono ?_);rintro _ X ⟨rfl,rfl⟩)|((with_reducible refine (D.o _).mono ?_);rintro _ Y ⟨rfl,rfl⟩))
    go_ret
    exact⟨rfl,by first|exact J|exact B|exact y⟩
   cases c4
   .go_wp2_with first|go_at_call 148;have K:=B;clear K;(with_reducible refine (F.o _).mono ?_);rintro _ V ⟨rfl,H⟩;have u:=am H R (by rw[bW];decide);have G:=ae u 18 _ (eB e);have I:=ae u 19 _ (eC e);have J:=bt B H;clear H|go_at_call 148;(with_reducible refine (E.o _).mono ?_);rintro _ l ⟨rfl,H⟩;have R:=am H z (by rw[bW];decide);have N:=ae R 17 _ (eQ e);have B:=bt y H;clear H|(go_at_call 146;first|((with_reducible refine (C.o _).mono ?_);rintro _ X ⟨rfl,rfl⟩)|((with_reducible refine (D.o _).mono ?_);rintro _ Y ⟨rfl,rfl⟩))
    go_ret
    exact⟨rfl,by first|exact J|exact B|exact y⟩
   cases c5
   .go_wp2_with first|go_at_call 148;have K:=B;clear K;(with_reducible refine (F.o _).mono ?_);rintro _ V ⟨rfl,H⟩;have u:=am H R (by rw[bW];decide);have G:=ae u 18 _ (eB e);have I:=ae u 19 _ (eC e);have J:=bt B H;clear H|go_at_call 148;(with_reducible refine (E.o _).mono ?_);rintro _ l ⟨rfl,H⟩;have R:=am H z (by rw[bW];decide);have N:=ae R 17 _ (eQ e);have B:=bt y H;clear H|(go_at_call 146;first|((with_reducible refine (C.o _).mono ?_);rintro _ X ⟨rfl,rfl⟩)|((with_reducible refine (D.o _).mono ?_);rintro _ Y ⟨rfl,rfl⟩))
    go_ret
    exact⟨rfl,by first|exact J|exact B|exact y⟩
   cases c6
   .go_wp2_with first|go_at_call 148;have K:=B;clear K;(with_reducible refine (F.o _).mono ?_);rintro _ V ⟨rfl,H⟩;have u:=am H R (by rw[bW];decide);have G:=ae u 18 _ (eB e);have I:=ae u 19 _ (eC e);have J:=bt B H;clear H|go_at_call 148;(with_reducible refine (E.o _).mono ?_);rintro _ l ⟨rfl,H⟩;have R:=am H z (by rw[bW];decide);have N:=ae R 17 _ (eQ e);have B:=bt y H;clear H|(go_at_call 146;first|((with_reducible refine (C.o _).mono ?_);rintro _ X ⟨rfl,rfl⟩)|((with_reducible refine (D.o _).mono ?_);rintro _ Y ⟨rfl,rfl⟩))
    go_ret
    exact⟨rfl,by first|exact J|exact B|exact y⟩
   cases c7
   .go_wp2_with first|go_at_call 148;have K:=B;clear K;(with_reducible refine (F.o _).mono ?_);rintro _ V ⟨rfl,H⟩;have u:=am H R (by rw[bW];decide);have G:=ae u 18 _ (eB e);have I:=ae u 19 _ (eC e);have J:=bt B H;clear H|go_at_call 148;(with_reducible refine (E.o _).mono ?_);rintro _ l ⟨rfl,H⟩;have R:=am H z (by rw[bW];decide);have N:=ae R 17 _ (eQ e);have B:=bt y H;clear H|(go_at_call 146;first|((with_reducible refine (C.o _).mono ?_);rintro _ X ⟨rfl,rfl⟩)|((with_reducible refine (D.o _).mono ?_);rintro _ Y ⟨rfl,rfl⟩))
    go_ret
    exact⟨rfl,by first|exact J|exact B|exact y⟩
   cases c8
   .go_wp2_with first|go_at_call 148;have K:=B;clear K;(with_reducible refine (F.o _).mono ?_);rintro _ V ⟨rfl,H⟩;have u:=am H R (by rw[bW];decide);have G:=ae u 18 _ (eB e);have I:=ae u 19 _ (eC e);have J:=bt B H;clear H|go_at_call 148;(with_reducible refine (E.o _).mono ?_);rintro _ l ⟨rfl,H⟩;have R:=am H z (by rw[bW];decide);have N:=ae R 17 _ (eQ e);have B:=bt y H;clear H|(go_at_call 146;first|((with_reducible refine (C.o _).mono ?_);rintro _ X ⟨rfl,rfl⟩)|((with_reducible refine (D.o _).mono ?_);rintro _ Y ⟨rfl,rfl⟩))
    go_ret
    exact⟨rfl,by first|exact J|exact B|exact y⟩
   go_wp2_with first|go_at_call 148;have K:=B;clear K;(with_reducible refine (F.o _).mono ?_);rintro _ V ⟨rfl,H⟩;have u:=am H R (by rw[bW];decide);have G:=ae u 18 _ (eB e);have I:=ae u 19 _ (eC e);have J:=bt B H;clear H|go_at_call 148;(with_reducible refine (E.o _).mono ?_);rintro _ l ⟨rfl,H⟩;have R:=am H z (by rw[bW];decide);have N:=ae R 17 _ (eQ e);have B:=bt y H;clear H|(go_at_call 146;first|((with_reducible refine (C.o _).mono ?_);rintro _ X ⟨rfl,rfl⟩)|((with_reducible refine (D.o _).mono ?_);rintro _ Y ⟨rfl,rfl⟩))
   go_ret
   exact⟨rfl,J⟩
theorem ralts(v:Z2)(l:List Int)(w:ZY)(h:IS w v l):ZH Z8 145 #[v] w fun r w'=>r=.returned (.bool (Vp.alts l&&decide (l.length<=4)))/\Z4 w.heap.size w w':=by
 obtain⟨av,cv,rfl,hz,hc⟩:=id h;have HC:=lh hc;have G:=mw l;have F:=sZ l;have I:=rZ l;have H:=lh G;have u:=lh F;have B:=lh I;clear hc h G F I;generalize S:Vp.alts l=O at H u |-;clear S;go_enter Tryz.func145,Tryz.ntmps145
 go_wp2_with fail
 go_loopw [3] (fun i wr=>∃ k:Nat,k<=l.length/\i=.int .i64 k/\(∀ j,j<k->Vp.altAt l j=ZX)/\Z4 w.heap.size w wr) (fun i _=>l.length - (Zq i).toNat)
 case atStart=>exact⟨0,by omega,rfl,fun j h=>absurd h (by omega),ZR _ _⟩
 case round =>
  obtain⟨k,hk,rfl,N,E⟩:=hrel;have K:=lh N;clear N;by_cases C:k<l.length
  .obtain⟨b,o,rfl,hb,y⟩:=HC.o (by omega);have T:=(E.cell (p:=⟨b,o+k,Z7⟩) hb).trans (y k C);have J:=B.o k C l[k] rfl;have L:=lh y
   have D:∀ i,k=i+1->∃ m,l.getD (k - 1) 0=m/\wr.cell? ⟨b,o+i,Z7⟩=Z9 (.int .i64 m):=fun i hi=>⟨_,rfl,by
    subst hi;rw[(E.cell (p:=⟨b,o+i,Z7⟩) hb).trans (L.o i (by omega))];simp [show i<l.length by omega]⟩
   have V:=lh D;clear D y;generalize l[k]=x at T J;cases X:decide (x<1)
   rotate_left 1
   .have q:O=ZW:=H.o k C (by rw[J,ZG (by have:=Wo X;omega)];simp);subst q;clear J H u B K V L;go_upto_region 4 with fail
    go_quiet (fail)
    go_wp2_with fail
    go_ret
    exact⟨rfl,below_drewN E _⟩
   cases Y:decide (1099511627776<x)
   rotate_left 1
   .have q:O=ZW:=H.o k C (by rw[J,ZG (p:=x<=_) (by have:=Wo Y;omega)];simp);subst q;clear J H u B K V L;go_upto_region 4 with fail
    go_quiet (fail)
    go_wp2_with fail
    go_ret
    exact⟨rfl,below_drewN E _⟩
   have z:Vp.altAt l k=(decide (k=0) || decide (l.getD (k - 1) 0<x)):=by
    rw[J,ZI (p:=1<=x) (by have:=of_decide_eq_false X;omega),ZI (p:=x<=_) (by have:=of_decide_eq_false Y;omega),Zc,Zc]
   clear J B
   cases k with
   | zero =>
     simp only[Nat.add_zero] at T
     have R:Hid (∀ j,j<0+1->Vp.altAt l j=ZX):=lh (fun j hj=>by
      obtain rfl:j=0:=by omega
      rw[z];rfl)
     clear z H u K V L;go_upto_region 4 with fail
     go_quiet (fail)
     go_wp2_with fail
     go_roundw
     case rel=>exact⟨0+1,by omega,by go_num,R.o,below_drewN E _⟩
     case measure=>simp [Zq];omega
   | succ i =>
     obtain⟨m,hm,cm⟩:=V.o i rfl;rw[hm] at z;have U:IntKind.i64.wrap (((i+1:Nat):Int) - 1)=(i:Int):=by rw[IntKind.wrap_i64];omega
     cases Z:decide (x<=m)
     rotate_left 1
     .have q:O=ZW:=H.o (i+1) C (by rw[z,ZG (p:=m<x) (by have:=Wo Z;omega)];simp);subst q;clear z H u K V L;go_upto_region 4 with fail
      go_quiet (fail)
      go_wp2_with fail
      go_ret
      exact⟨rfl,below_drewN E _⟩
     .have R:Hid (∀ j,j<i+1+1->Vp.altAt l j=ZX):=lh (fun j hj=>by
       rcases YG j (i+1) with q|q
       .exact K.o j q
       .obtain rfl:j=i+1:=by omega
        rw[z,ZI (p:=m<x) (by have:=of_decide_eq_false Z;omega)];simp)
      clear z H u K V L;go_upto_region 4 with fail
      go_quiet (fail)
      go_wp2_with fail
      go_roundw
      case rel=>exact⟨i+1+1,by omega,by go_num,R.o,below_drewN E _⟩
      case measure=>simp [Zq];omega
  .obtain rfl:k=l.length:=by omega
   obtain rfl:O=ZX:=u.o K.o;have U:decide ((l.length:Int)<=4)=decide (l.length<=4):=by rw[Zn,ZU,ZU];omega
   go_wp2_with fail
   go_ret
   exact⟨by first|rfl|(rw[Zc])|(rw[Zc,<-U]),E⟩
end
section
attribute [local go_sem ↓] aZ bf bq fe
attribute [local go_sem] bn aS aH aK aT fx ak aI aw az aM ah fp bW aQ aL aP aO aR aY aW ap aq cf cM
theorem rvalid0(n c:Nat)(gr:Z2)(b:Zj)(w:ZY)(D:e.kind=0)(K:∀ W,Z4 w.heap.size w W->ZH Z8 145 #[.slice a n c] W fun r o=>r=.returned (.bool s)/\Z4 W.heap.size W o)(F:e.name.size<=60)(u:∀ W,Z4 w.heap.size w W->ZH Z8 141 #[.agg (e.vals (.slice a n c) gr),.agg ((fg e).vals (.slice a n c) (.slice Z7 0 0))] W fun r o=>r=.returned (.bool b)/\Z4 W.heap.size W o) :
 ZH Z8 67 #[.agg (e.vals (.slice a n c) gr)] w fun r o=>r=.returned (.bool (b&&(YP (Z5 e.name)&&(jQ e&&(s&&X3 e.used)))))/\Z4 w.heap.size w o:=by
 have L:=fun W=>used0 e a n c gr W D
 have k0:(e.kind==0)=ZX:=by rw[D];rfl
 have U:=lh L;have S:=lh u;clear D L u;have G:∀ t,Z4 w.heap.size w (w.alloc (.cells (e.vals (.slice a n c) gr) t)).drew:=fun t=>by exact aB
 have J:∀ t,row (w.alloc (.cells (e.vals (.slice a n c) gr) t)).drew w.heap.size=e.vals (.slice a n c) gr:=fun t=>by rw[az];exact ak w _ t _
 cases b
 .rw[Bool.false_and];go_enter Tryz.func67,Tryz.ntmps67
  go_wp2_with fail
  go_region_held3 (fun o=>row o w.heap.size=e.vals (.slice a n c) gr/\Z4 w.heap.size w o) (first|exact⟨J _,G _⟩|exact keep1 H (by assumption) (by simp [ah])) (first|(go_at_call 142;(with_reducible refine (U.o _).mono ?_);rintro e l ⟨rfl,H⟩)|(go_at_call 141;(with_reducible refine (S.o _ (by assumption:row _ _=_/\Z4 _ _ _).2).mono ?_);rintro e w3 ⟨rfl,H⟩))
  all_goals
   go_wp2_with fail
   go_ret
   exact⟨rfl,(by assumption:row _ _=_/\Z4 _ _ _).2⟩
 .rw[Zc];have E:=fun W=>dt e.name W
  have y:=fun W=>gI e.name W F
  have u:=fun W=>rset e W
  have C:=fun W=>pa e.used W
  generalize YP (Z5 e.name)=c0 at E |-;generalize jQ e=c1 at u |-;generalize X3 e.used=c3 at C |-;have Z:=lh E;have z:=lh y;have T:=lh u;have I:=lh K;have Y:=lh C;clear E y u K C;go_enter Tryz.func67,Tryz.ntmps67
  go_wp2_with fail
  go_region_held3 (fun o=>row o w.heap.size=e.vals (.slice a n c) gr/\Z4 w.heap.size w o) (first|exact⟨J _,G _⟩|exact keep1 H (by assumption) (by simp [ah])) (first|(go_at_call 142;(with_reducible refine (U.o _).mono ?_);rintro e l ⟨rfl,H⟩)|(go_at_call 141;(with_reducible refine (S.o _ (by assumption:row _ _=_/\Z4 _ _ _).2).mono ?_);rintro e w3 ⟨rfl,H⟩))
  all_goals
   obtain⟨R,B⟩:=(by assumption:row _ _=_/\Z4 _ _ _);have N:=ae R 0 _ (ap e (.slice a n c) gr);have O:=ae R 1 _ (aq e (.slice a n c) gr)
   go_upto_region 7 with (first
    | (go_at_call 130;(with_reducible refine (Z.o _).mono ?_);rintro _ w5 ⟨rfl,H⟩;have R:=am H R (by simp [ah]);have N:=ae R 0 _ (ap e (.slice a n c) gr);have O:=ae R 1 _ (aq e (.slice a n c) gr);have B:=bt B H;clear H)
    | (go_at_call 143;(with_reducible refine (z.o _).mono ?_);rintro _ w6 ⟨rfl,H⟩;have R:=am H R (by simp [ah]);have N:=ae R 0 _ (ap e (.slice a n c) gr);have O:=ae R 1 _ (aq e (.slice a n c) gr);have B:=bt B H;clear H))
   have V:=ae R 23 _ (cf e (.slice a n c) gr);have v:=ae R 24 _ (cM e (.slice a n c) gr);have a0:(row w6 w.heap.size).size=33:=by rw[R];exact ah _ _ _
   cases c0
   .go_wp2_with fail
    go_ret
    exact⟨rfl,B⟩
   cases c1
   .go_wp2_with (go_at_call 144;(with_reducible refine (T.o _).mono ?_);rintro _ X ⟨rfl,H⟩;have B:=bt B H;clear H)
    go_ret
    exact⟨rfl,B⟩
   cases s
   .go_wp2_with (first|(go_at_call 144;(with_reducible refine (T.o _).mono ?_);rintro _ X ⟨rfl,H⟩;have R:=am H R (by simp [ah]);have V:=ae R 23 _ (cf e (.slice a n c) gr);have v:=ae R 24 _ (cM e (.slice a n c) gr);have B:=bt B H;clear H)|(go_at_call 145;(with_reducible refine (I.o _ B).mono ?_);rintro _ w8 ⟨rfl,H⟩;have B:=bt B H;clear H))
    go_ret
    exact⟨rfl,B⟩
   .go_wp2_with (first|(go_at_call 144;(with_reducible refine (T.o _).mono ?_);rintro _ X ⟨rfl,H⟩;have R:=am H R (by simp [ah]);have V:=ae R 23 _ (cf e (.slice a n c) gr);have v:=ae R 24 _ (cM e (.slice a n c) gr);have B:=bt B H;clear H)|(go_at_call 145;(with_reducible refine (I.o _ B).mono ?_);rintro _ w8 ⟨rfl,H⟩;have R:=am H R (by simp [ah]);have v:=ae R 24 _ (cM e (.slice a n c) gr);have B:=bt B H;clear H)|(go_at_call 146;(with_reducible refine (Y.o _).mono ?_);rintro _ w9 ⟨rfl,rfl⟩))
    go_ret
    exact⟨rfl,B⟩
theorem CN(l:List Int):(jQ e&&((Vp.alts l&&decide (l.length<=4))&&X3 e.used))=Vp.dat e l:=by
 unfold jQ Vp.dat Vp.rng Vp.days bK fJ;simp only[List.all_cons,List.all_nil,Bool.and_true]
 generalize Vp.alts l=o;generalize Vp.own (Z5 e.vol)=u;generalize Vp.own (Z5 e.own)=v;generalize X3 e.cr=y;generalize X3 e.ex=z;generalize X3 e.used=B;rw[Zn];simp only[ZQ,ZU]
 constructor
 .intro h;refine⟨h.2.1.1,⟨?_,?_,?_,?_,?_,?_,?_,?_,?_,?_,?_⟩,?_,?_,?_,?_,?_,?_,⟨?_,?_,?_⟩,?_⟩ <;> first|exact h.2.2|exact h.2.1.2|(obtain⟨⟨⟨_,_,_,_,_,_,_,_,_,_,_,_,_,_⟩,_,_,_,_,_,_,_,_,_⟩,⟨_,_⟩,_⟩:=h;first|assumption|omega)
 .intro h;obtain⟨H,⟨_,_,_,_,_,_,_,_,_,_,_⟩,_,_,_,_,_,_,⟨_,_,_⟩,_⟩:=h;refine⟨⟨⟨?_,?_,?_,?_,?_,?_,?_,?_,?_,?_,?_,?_,?_,?_⟩,?_,?_,?_,?_,?_,?_,?_,?_,?_⟩,⟨?_,?_⟩,?_⟩ <;> first|assumption|omega
end
theorem pL(H:x.1.name.size<=60)(v:IS w i x.2.1)(y:GS w gr x.2.2) :
 ZH Z8 67 #[.agg (x.1.vals i gr)] w fun r z=>r=.returned (.bool (aA x))/\Z4 w.heap.size w z:=by
 obtain⟨e,l,g⟩:=x;simp only at H v y |-
 obtain⟨a,c,rfl,O,-⟩:=id v;obtain⟨C,s,rfl,I,-⟩:=id y
 have N:∀ f:En,∀ W,Z4 w.heap.size w W->ZH Z8 141 #[.agg (e.vals (.slice a l.length c) (.slice C g.length s)),.agg (f.vals (.slice Z7 0 0) (.slice Z7 0 0))] W fun r z=>r=.returned (.bool (dh f e [] l [] g))/\Z4 W.heap.size W z:=fun f W B=>by
  have:=rsame e f (.slice a l.length c) (.slice C g.length s) (.slice Z7 0 0) (.slice Z7 0 0) l [] g [] W (v.below B) (IS.nil W) (y.below B) (GS.nil W);rw[mg] at this;exact this
 unfold aA;simp only
 split
 .rename_i u;have G:=fun W (B:Z4 w.heap.size w W)=>rsame e (fg e) (.slice a l.length c) (.slice C g.length s) (.slice a l.length c) (.slice Z7 0 0) l l g [] W (v.below B) (v.below B) (y.below B) (GS.nil W)
  refine (rvalid0 e _ a l.length c (.slice C g.length s) _ w u (fun W B=>ralts (.slice a l.length c) l W (v.below B)) H G).mono ?_
  rintro r z ⟨rfl,o⟩;refine⟨aF ?_,o⟩
  unfold fL;rw[<-CN,mg (fg e) e];generalize (jQ e&&((Vp.alts l&&decide (l.length<=4))&&X3 e.used))=D;generalize YP (Z5 e.name)=E;generalize dh e (fg e) l l g []=F;cases D <;> cases E <;> cases F <;> rfl
 split
 .rename_i u;exact rvalid1 e _ _ l g w u v y H
 split
 .rename_i u;refine (rvalid2 e _ _ _ w u H (N (gU e))).mono ?_
  rintro r z ⟨rfl,o⟩;refine⟨aF ?_,o⟩
  unfold eY;generalize Vp.nameA (Z5 e.name)=D;generalize Vp.ali e=E;generalize dh (gU e) e [] l [] g=F;cases D <;> cases E <;> cases F <;> rfl
 split
 .rename_i u;refine (rvalid3 e _ _ _ w u H (N (gV e))).mono ?_
  rintro r z ⟨rfl,o⟩;refine⟨aF ?_,o⟩
  unfold fK;generalize Vp.nameC (Z5 e.name)=D;generalize Vp.cat e=E;generalize dh (gV e) e [] l [] g=F;cases D <;> cases E <;> cases F <;> rfl
 split
 .rename_i u;have G:=fun W (B:Z4 w.heap.size w W)=>rsame e (fG e) (.slice a l.length c) (.slice C g.length s) (.slice Z7 0 0) (.slice C g.length s) l [] g g W (v.below B) (IS.nil W) (y.below B) (y.below B)
  refine (rvalid4 e _ C g.length s g _ w u y H G).mono ?_
  rintro r z ⟨rfl,o⟩;refine⟨aF ?_,o⟩
  unfold gD qN Vp.prof;rw[mg (fG e) e];generalize Ds.pat (Z5 e.name)=D;generalize Vp.rng 0 3 [e.lev]=E;generalize Vp.own (Z5 e.owner)=F;generalize Vp.grs g=J;generalize decide (g.length<=8)=K;generalize dh e (fG e) l [] g g=L;cases D <;> cases E <;> cases F <;> cases J <;> cases K <;> cases L <;> rfl
 .refine (FL e _ _ _ w (by omega) H (N (nB e))).mono ?_
  rintro r z ⟨rfl,o⟩;exact⟨aF (Bool.and_false _),o⟩
section
def unl(n:Nat)(L:Zy Zj):Nat:=(YK n).countP (fun i=>!L.getD i ZX)
theorem rJ{α:Type}(p q:α->Zj):∀ (l:List α),(∀ x∈l,p x=ZX->q x=ZX)->(∃ x∈l,q x=ZX/\p x=ZW)->l.countP p<l.countP q
 | [],_,h=>by obtain⟨x,o,_⟩:=h;cases o
 | y::r,H,h=>by
   have C:r.countP p<=r.countP q:=List.countP_mono_left (fun x o u=>H x (List.mem_cons_of_mem _ o) u);rw[List.countP_cons,List.countP_cons];obtain⟨x,o,v,B⟩:=h;rcases YX.1 o with rfl|o
   .rw[ZP v,ZS (by rw[B];simp)];omega
   .have I:=rJ p q r (fun z E=>H z (List.mem_cons_of_mem _ E)) ⟨x,o,v,B⟩;have D:=H y List.mem_cons_self;cases u:p y
    .cases q y <;> simp <;> omega
    .rw[D u];simp;omega
theorem FV(n:Nat)(L:Zy Zj)(i:Nat)(H:i<n)(u:L.size=n)(h:L.getD i ZX=ZW):unl n (L.setIfInBounds i ZX)<unl n L:=by
 unfold unl;refine rJ _ _ _ (fun x _ o=>?_) ⟨i,Wt.2 H,by rw[h];rfl,?_⟩
 .by_cases e:x=i
  .subst e;rw[h];rfl
  .have:(L.setIfInBounds i ZX).getD x ZX=L.getD x ZX:=by
    simp [X2,show ¬ i=x from fun q=>e q.symm]
   rw[this] at o;exact o
 .have:(L.setIfInBounds i ZX).getD i ZX=ZX:=by
   simp [X2,u,H]
  rw[this];rfl
variable {P:Program} {c:Zy Oper} {Q:Exit->Act->ZY->Prop}
def Ranked(c:Zy Oper)(R:Nat->Nat):Zj:=(YK c.size).all fun i=>((c[i]?).map (·.after.all fun e=>!Region.binds .any e || (decide (R e.on<R i)&&decide (e.on<c.size)))).getD ZW
theorem Ae(R:Nat->Nat)(G:Ranked c R=ZX)(L:Zy Zj)(N:L.size=c.size):∀ (n i:Nat),R i<=n->i<c.size->L.getD i ZX=ZW->∃ j,j∈Region.ready .any c L:=by
 intro n
 induction n with
 | zero=>intro i v o u;exact some_ready_aux i v o u (fun j K=>by omega)
 | succ n I=>intro i v o u;exact some_ready_aux i v o u (fun j K=>I j (by omega))
where
 some_ready_aux {m:Nat} (i:Nat) (v:R i<=m) (o:i<c.size) (u:L.getD i ZX=ZW) (I:∀ j,R j<R i->j<c.size->L.getD j ZX=ZW->∃ j,j∈Region.ready .any c L):∃ j,j∈Region.ready .any c L:=by
  have J:c[i]?=Z9 c[i]:=Zu o;by_cases H:∀ e∈c[i].after,Region.binds .any e=ZX->L.getD e.on ZW=ZX
  .exact⟨i,mem_ready.2 ⟨u,_,J,H⟩⟩
  .have:∃ e,e∈c[i].after/\Region.binds .any e=ZX/\L.getD e.on ZW≠ZX:=by
    refine YD fun F=>H fun e D C=>YD fun B=>F ⟨e,D,C,B⟩
   obtain⟨e,D,C,B⟩:=this;unfold Ranked at G;rw[XN] at G;have y:=G i (Wt.2 o);rw[J] at y;simp only[Option.map_some,VF] at y
   rw[Array.all_eq_true_iff_forall_mem] at y;have z:=y e D;rw[C] at z;simp only[Bool.not_true,Bool.false_or,ZQ,ZU] at z
   refine I e.on z.1 z.2 ?_
   have E:e.on<L.size:=by omega
   rw[X2,Zu E] at B |-;simpa using B
theorem qW(I:Zy Zj->Act->ZY->Prop)(R:Nat->Nat)(U:Ranked c R=ZX)(S:∀ (L:Zy Zj) (a:Act) (w:ZY) (i:Nat) (o:Oper),L.size=c.size->c[i]?=Z9 o->(∀ e∈o.after,Region.binds .any e=ZX->L.getD e.on ZW=ZX)->I L a w ->
 ∀ K:Act->ZY->Prop,(∀ B F,I (L.setIfInBounds i ZX) B F->K B F)->if Region.wanted o (yielded c a.tmps)=ZX then Oper.wp P o a w K Q else K (a.put o.dst YY) w)(D:∀ (L:Zy Zj) (a:Act) (w:ZY),(∀ i,i<c.size->L.getD i ZW=ZX)->I L a w->Q .normal a w) :
 ∀ (fuel:Nat) (L:Zy Zj) (a:Act) (w:ZY),L.size=c.size->unl c.size L<=fuel->I L a w->wpAnyH P .any c Q (fun _=>True) fuel L a w
 | 0,L,a,w,E,Z,G=>by
   have v:∀ i,i<c.size->L.getD i ZW=ZX:=fun i C=>by
    have:unl c.size L=0:=by omega
    unfold unl at this;rw[List.countP_eq_zero] at this;have:=this i (Wt.2 C);have H:i<L.size:=by omega
    rw[X2,Zu H] at this |-;simpa using this
   refine⟨?_,D L a w v G⟩
   refine List.eq_nil_iff_forall_not_mem.2 fun j J=>?_
   obtain⟨z,o,y,-⟩:=mem_ready.1 J
   have H:j<c.size:=by
    rcases YG j c.size with h|h
    .exact h
    .rw[Y9 h] at y;cases y
   have:=v j H;have u:j<L.size:=by omega
   rw[X2,Zu u] at this z;simp only[VF] at this z
   rw[this] at z;cases z
 | fuel+1,L,a,w,E,Z,G=>by
   refine⟨fun O=>?_,fun i C=>?_⟩
   .refine D L a w (fun i C=>?_) G
    refine YD fun T=>?_
    have u:i<L.size:=by omega
    have V:L.getD i ZX=ZW:=by
     rw[X2,Zu u] at T |-;simpa using T
    obtain⟨j,J⟩:=Ae R U L E _ i (ZV _) C V;rw[O] at J;cases J
   .obtain⟨z,o,y,Y⟩:=mem_ready.1 C
    have H:i<c.size:=by
     rcases YG i c.size with h|h
     .exact h
     .rw[Y9 h] at y;cases y
    refine wpOp_step y (fun K X=>S L a w i o E y Y G K (fun B F N=>X B F ⟨trivial,?_⟩))
    exact qW I R U S D fuel _ B F (by simpa using E) (by have:=FV c.size L i H E z;omega) N
theorem zZ{id:Nat}{u:Act}(I:Zy Zj->Act->ZY->Prop)(R:Nat->Nat)(z:P.follows .mixedOrders=ZX)(B:Ranked c R=ZX)(H:I (Array.replicate c.size ZW) u q.drew)(S:∀ (L:Zy Zj) (a:Act) (w:ZY) (i:Nat) (o:Oper),L.size=c.size->c[i]?=Z9 o->(∀ e∈o.after,Region.binds .any e=ZX->L.getD e.on ZW=ZX)->I L a w ->
 ∀ K:Act->ZY->Prop,(∀ v y,I (L.setIfInBounds i ZX) v y->K v y)->if Region.wanted o (yielded c a.tmps)=ZX then Oper.wp P o a w K Q else K (a.put o.dst YY) w)(D:∀ (L:Zy Zj) (a:Act) (w:ZY),(∀ i,i<c.size->L.getD i ZW=ZX)->I L a w->Q .normal a w) :
 (Code.region id c ZX).wp P Q u q :=
 wp_region_held z (qW I R B S D c.size _ u _ (by simp) (by
  unfold unl;exact ZC List.countP_le_length (by simp)) H)
end
section
theorem vZ{v V:Z2}(H:Z4 t.heap.size t l)(s:t.cell? j=Z9 v/\t.cell? k=Z9 V/\Hid (Z4 W.heap.size W t)) :
 l.cell? j=Z9 v/\l.cell? k=Z9 V/\Hid (Z4 W.heap.size W l):=⟨ai H s.1,ai H s.2.1,lh (bt s.2.2.o H)⟩
theorem keep4{o u:XV}{v V y z:Z2}(H:Z4 t.heap.size t l)(s:t.cell? j=Z9 v/\t.cell? k=Z9 V/\t.cell? o=Z9 y/\t.cell? u=Z9 z/\Hid (Z4 W.heap.size W t)) :
 l.cell? j=Z9 v/\l.cell? k=Z9 V/\l.cell? o=Z9 y/\l.cell? u=Z9 z/\Hid (Z4 W.heap.size W l):=⟨ai H s.1,ai H s.2.1,ai H s.2.2.1,ai H s.2.2.2.1,lh (bt s.2.2.2.2.o H)⟩
theorem pm(n m:Int)(t:Y2):IS (w.alloc (.cells #[.int .i64 n,.int .i64 m] t)) (.slice (Z9 ⟨w.heap.size,0,Z7⟩) 2 2) [n,m]:=by
 have:=vW w [n,m] t (Zl rfl);simpa using this
theorem mL(W:ZY)(n m:Int)(t:Y2)(k:Nat)(H:k=W.heap.size):IS (W.alloc (.cells #[.int .i64 n,.int .i64 m] t)) (.slice (Z9 ⟨k,0,Z7⟩) 2 2) [n,m]:=by
 subst H;exact pm W n m t
theorem mM(W:ZY)(n m:Int)(t:Y2)(k:Nat)(H:k=W.heap.size):IS (W.alloc (.cells #[.int .i64 n,.int .i64 m] t)).drew (.slice (Z9 ⟨k,0,Z7⟩) 2 2) [n,m]:=by
 subst H;exact (pm W n m t).below (Y3 (ZR _ _))
theorem FC(a b:Obj):Z4 w.heap.size w ((w.alloc a).alloc b):=by exact aB
theorem nums2{n m:Int}(h:0<=n/\n<=1099511627776)(o:0<=m/\m<=1099511627776):gS [n,m]:=fun x H=>by
 rcases YX.1 H with rfl|H
 .exact h
 .rw[List.mem_singleton] at H;subst H;exact o
attribute [local go_sem ↓] aZ bf bq fe kF
attribute [local go_sem] bn aS aH aK aT fx ak aI aw az aM ah fp bW aQ aL aP aO aR aY aW ap aq df dc ef bN cB dv cK cC
theorem rbody2(H:e.kind=2)(z:e.target.size<=1000) :
 ZH Z8 223 #[.agg (e.vals i gr)] w fun r y=>∃ t,r=.returned (.string t)/\Z5 t=eD e/\Z4 w.heap.size w y:=by
 have k0:(e.kind==0)=ZW:=by rw[H];rfl
 have k1:(e.kind==1)=ZW:=by rw[H];rfl
 have K:(e.kind==2)=ZX:=by rw[H];rfl
 have v:=gO e;have T:=lh (fun W=>rtext e.target W z);have o:Hid (Z5 (cL e.target.size++e.target)=eD e):=lh (by rw[XK,kj];rfl);clear H z;generalize cL e.target.size++e.target=b at T o;have R:=aI w (e.vals i gr) 29 (0,0) (.cells e.dat 25);have N:=ae R 29 _ (cB e i gr);go_enter Tryz.func223,Tryz.ntmps223
 go_wp2_with (go_at_call 284;(with_reducible refine (T.o _).mono ?_);rintro _ C ⟨rfl,u⟩;have B:=below2 u;clear u)
 go_ret
 exact⟨_,rfl,o.o,B⟩
theorem rbody3(o:e.kind=3)(z:0<=e.cat/\e.cat<=1099511627776) :
 ZH Z8 223 #[.agg (e.vals i gr)] w fun r D=>∃ t,r=.returned (.string t)/\Z5 t=eR e/\Z4 w.heap.size w D:=by
 have k0:(e.kind==0)=ZW:=by rw[o];rfl
 have k1:(e.kind==1)=ZW:=by rw[o];rfl
 have K:(e.kind==2)=ZW:=by rw[o];rfl
 have E:(e.kind==3)=ZX:=by rw[o];rfl
 have C:=gO e;have H:=lh (fun W v (h:IS W v [e.cat])=>rnumbers v [e.cat] W h (Zl rfl) (nums1 z));have u:Hid (Z5 (dw [e.cat])=eR e):=lh (by rw[kf];simp [encs,eR]);clear o z;generalize dw [e.cat]=b at H u;have R:=aI w (e.vals i gr) 29 (0,0) (.cells e.dat 25);have N:=ae R 30 _ (dv e i gr);go_enter Tryz.func223,Tryz.ntmps223
 go_wp2_with (go_at_call 282;(refine (H.o _ _ ?_).mono ?_);(focus ((repeat (first|(with_reducible refine jz _ _ _ _ ?_;first|with_reducible rfl|(simp;done))|(with_reducible refine jA _ _ _ _ ?_;first|with_reducible rfl|(simp;done))|(with_reducible refine mL _ _ _ _ _ ?_;first|with_reducible rfl|(simp;done))|(with_reducible refine mM _ _ _ _ _ ?_;first|with_reducible rfl|(simp;done))|(with_reducible apply IS.below;rotate_left 1;with_reducible assumption)|(with_reducible refine IS.below ?_ (fq _ _))|(with_reducible refine jy ?_)));done));rintro _ F ⟨rfl,y⟩;have B:=bt (FC w (.cells (e.vals i gr) 29) (.cells e.dat 25)) (below1 y);clear y)
 go_ret
 exact⟨_,rfl,u.o,B⟩
theorem rbody1(D:e.kind=1)(B:0<=e.lim/\e.lim<=1099511627776)(C:0<=e.last/\e.last<=1099511627776)(G:e.owner.size<=1000) :
 ZH Z8 223 #[.agg (e.vals i gr)] w fun r o=>∃ t,r=.returned (.string t)/\Z5 t=dG e/\Z4 w.heap.size w o:=by
 have k0:(e.kind==0)=ZW:=by rw[D];rfl
 have k1:(e.kind==1)=ZX:=by rw[D];rfl
 have U:=gO e;have H:=lh (fun W v (h:IS W v [e.lim,e.last])=>rnumbers v [e.lim,e.last] W h (Zl rfl) (nums2 B C));have T:=lh (fun W=>rtext e.owner W G);have E:=lh (fun W=>rbool e.em W);have Z:=gF [e.lim,e.last] (nums2 B C);have J:(⟨#[tb e.em]⟩:Z6).size=1:=rfl;have K:(cL e.owner.size++e.owner).size<=1010:=by rw[YW];have:=iS e.owner.size (by omega);omega
 simp only[Zw,XX] at Z
 clear D B C G;generalize u:dw [e.lim,e.last]=b at H Z;generalize y:(⟨#[tb e.em]⟩:Z6)=d at E J;generalize z:cL e.owner.size++e.owner=g at T K
 have L:Hid (Z5 ((b++d)++g)=dG e):=lh (by
  rw[<-u,<-y,<-z,XK,XK,XK,kf,kj];simp [encs,dG,Z5])
 clear u y z;have V:¬ 9223372036854775807<b.size+d.size:=by omega
 have X:¬ 9223372036854775807<b.size+d.size+g.size:=by omega
 have Y:¬ 9223372036854775807<(b++d).size+g.size:=by rw[YW];omega
 clear Z J K;go_enter Tryz.func223,Tryz.ntmps223
 go_upto_region 7 with fail
 have N:∀ W,W=((w.alloc (.cells (e.vals i gr) 29)).alloc (.cells e.dat 25))->W.drew.cell? ⟨w.heap.size,25,Z7⟩=Z9 (.int .i64 e.lim)/\W.drew.cell? ⟨w.heap.size,26,Z7⟩=Z9 (.int .i64 e.last)/\W.drew.cell? ⟨w.heap.size,27,Z7⟩=Z9 (.bool e.em)/\W.drew.cell? ⟨w.heap.size,28,Z7⟩=Z9 (.string e.owner)/\Hid (Z4 w.heap.size w W.drew):=fun W S=>by
  subst S;have R:=aI w (e.vals i gr) 29 (0,0) (.cells e.dat 25);exact⟨ae R 25 _ (df _ _ _),ae R 26 _ (dc _ _ _),ae R 27 _ (ef _ _ _),ae R 28 _ (bN _ _ _),lh (by exact aB)⟩
 go_region_held3 (fun o=>o.cell? ⟨w.heap.size,25,Z7⟩=Z9 (.int .i64 e.lim)/\o.cell? ⟨w.heap.size,26,Z7⟩=Z9 (.int .i64 e.last)/\o.cell? ⟨w.heap.size,27,Z7⟩=Z9 (.bool e.em)/\o.cell? ⟨w.heap.size,28,Z7⟩=Z9 (.string e.owner)/\Hid (Z4 w.heap.size w o)) (first|assumption|exact N _ rfl|exact keep4 F (by assumption)|exact keep4 (fq _ _) (by assumption)) (first
  | (go_at_call 282;(refine (H.o _ _ ?_).mono ?_);(focus ((repeat (first|(with_reducible refine jz _ _ _ _ ?_;first|with_reducible rfl|(simp;done))|(with_reducible refine jA _ _ _ _ ?_;first|with_reducible rfl|(simp;done))|(with_reducible refine mL _ _ _ _ _ ?_;first|with_reducible rfl|(simp;done))|(with_reducible refine mM _ _ _ _ _ ?_;first|with_reducible rfl|(simp;done))|(with_reducible apply IS.below;rotate_left 1;with_reducible assumption)|(with_reducible refine IS.below ?_ (fq _ _))|(with_reducible refine jy ?_)));done));rintro _ I ⟨rfl,F⟩)
  | (go_at_call 284;(with_reducible refine (T.o _).mono ?_);rintro _ I ⟨rfl,F⟩)
  | (go_at_call 283;(with_reducible refine (E.o _).mono ?_);rintro _ I ⟨rfl,rfl⟩))
 all_goals
  obtain⟨_,_,_,_,O⟩:=(by assumption:_/\_/\_/\_/\Hid _);go_wp2_with fail
  go_ret
  exact⟨_,rfl,L.o,O.o⟩
end
section
set_option linter.unusedSimpArgs false
attribute [local go_sem ↓] aZ bf bq fe kF qh
attribute [local go_sem] bn aS aH aK aT fx ak aI aw az aM ah fp bW aQ aL aP aO aR aY aW ap aq cf cM
def SD(w:ZY)(e:En)(a:Zp XV)(n c:Nat)(o:ZY):Prop:=row o (w.heap.size+1)=e.dat/\o.cell? ⟨w.heap.size+1,14,Z7⟩=Z9 (.bool e.uq)/\o.cell? ⟨w.heap.size+1,15,Z7⟩=Z9 (.int .i64 e.cls)/\o.cell? ⟨w.heap.size+1,16,Z7⟩=Z9 (.string e.vol)/\o.cell? ⟨w.heap.size+1,17,Z7⟩=Z9 (.string e.own)/\o.cell? ⟨w.heap.size+1,18,Z7⟩=Z9 (.int .i64 e.cr)/\o.cell? ⟨w.heap.size+1,19,Z7⟩=Z9 (.int .i64 e.ex)/\o.cell? ⟨w.heap.size+1,20,Z7⟩=Z9 (.bool e.ar)/\o.cell? ⟨w.heap.size,23,Z7⟩=Z9 (.slice a n c)/\o.cell? ⟨w.heap.size,24,Z7⟩=Z9 (.int .i64 e.used)/\Hid (Z4 w.heap.size w o)
theorem SD.keep{w:ZY}{e:En}{a:Zp XV}{n c:Nat}(h:SD w e a n c t)(H:Z4 t.heap.size t l):SD w e a n c l:=⟨am H h.1 (by rw[bW];decide),ai H h.2.1,ai H h.2.2.1,ai H h.2.2.2.1,ai H h.2.2.2.2.1,ai H h.2.2.2.2.2.1,ai H h.2.2.2.2.2.2.1,ai H h.2.2.2.2.2.2.2.1,ai H h.2.2.2.2.2.2.2.2.1,ai H h.2.2.2.2.2.2.2.2.2.1,lh (bt h.2.2.2.2.2.2.2.2.2.2.o H)⟩
def upd(u:Nat->Z2)(d:Nat)(v:Z2):Nat->Z2:=fun t=>if t=d then v else u t
def bm(w:ZY)(e:En)(a:Zp XV)(n c:Nat)(gr:Z2)(u:Nat->Z2):Zy Z2:=#[.agg (e.vals (.slice a n c) gr),.pointer (Z9 ⟨w.heap.size,0,Z7⟩),.string ⟨#[]⟩,.pointer (Z9 ⟨w.heap.size+1,0,Z7⟩),u 4,YY,YY,.pointer (Z9 ⟨w.heap.size,2,Z7⟩),.agg e.dat,.pointer (Z9 ⟨w.heap.size,0,Z7⟩),.int .i64 e.kind,.bool ZX,.bool ZX,u 13,u 14,u 15,u 16,u 17,u 18,u 19,u 20,u 21,u 22,u 23,u 24,u 25,u 26,u 27,u 28,u 29,u 30,u 31,u 32,u 33,u 34,u 35,u 36,u 37,u 38,u 39,u 40,u 41,u 42,u 43,YY,YY,YY,YY,YY,YY,YY,YY,YY,YY,YY,YY,YY,YY,YY,YY,YY,YY,YY,YY,YY,YY,YY,YY,YY,YY,YY,YY,YY,YY,YY,YY,YY,YY,YY,YY,YY,YY,YY,YY,YY,YY,YY,YY,YY,YY,YY,YY,YY,YY,YY,YY,YY,YY,YY,YY,YY,YY,YY,YY,YY,YY,YY,YY,YY,YY,YY,YY,YY,YY,YY,YY,YY,YY,YY,YY,YY,YY,YY,YY,YY,YY,YY,YY,YY,YY,YY,YY,YY,YY,YY]
def FB(w:ZY)(e:En)(f b d g m p A:Z6):Nat->Z2->ZY->Prop
 | 0,v,_=>v=.agg e.dat
 | 1,v,W=>IS W v (bK e)
 | 2,v,_=>v=.string f
 | 3,v,_=>v=.pointer (Z9 ⟨w.heap.size+1,14,Z7⟩)
 | 4,v,_=>v=.bool e.uq
 | 5,v,_=>v=.string b
 | 6,v,_=>v=.string (f++b)
 | 7,v,_=>v=.pointer (Z9 ⟨w.heap.size+1,15,Z7⟩)
 | 8,v,_=>v=.int .i64 e.cls
 | 9,v,W=>IS W v [e.cls]
 | 10,v,_=>v=.string d
 | 11,v,_=>v=.string ((f++b)++d)
 | 12,v,_=>v=.pointer (Z9 ⟨w.heap.size+1,16,Z7⟩)
 | 13,v,_=>v=.string e.vol
 | 14,v,_=>v=.string g
 | 15,v,_=>v=.string (((f++b)++d)++g)
 | 16,v,_=>v=.pointer (Z9 ⟨w.heap.size+1,17,Z7⟩)
 | 17,v,_=>v=.string e.own
 | 18,v,_=>v=.string m
 | 19,v,_=>v=.string ((((f++b)++d)++g)++m)
 | 20,v,_=>v=.pointer (Z9 ⟨w.heap.size+1,18,Z7⟩)
 | 21,v,_=>v=.int .i64 e.cr
 | 22,v,_=>v=.pointer (Z9 ⟨w.heap.size+1,19,Z7⟩)
 | 23,v,_=>v=.int .i64 e.ex
 | 24,v,W=>IS W v [e.cr,e.ex]
 | 25,v,_=>v=.string p
 | 26,v,_=>v=.string (((((f++b)++d)++g)++m)++p)
 | 27,v,_=>v=.pointer (Z9 ⟨w.heap.size+1,20,Z7⟩)
 | 28,v,_=>v=.bool e.ar
 | 29,v,_=>v=.string A
 | 30,v,_=>v=.string ((((((f++b)++d)++g)++m)++p)++A)
 | 31,v,_=>v=.string ((((((f++b)++d)++g)++m)++p)++A)
 | _,_,_=>True
def dB(k:Nat):Nat:=if k=31 then 4 else k+13
theorem FB.below{w:ZY}{e:En}{k:Nat}{v:Z2}(h:FB w e f b d g m p A k v W)(H:Z4 W.heap.size W r):FB w e f b d g m p A k v r:=by
 unfold FB at h |-;split at h <;> first|exact h|exact IS.below h H
def IVB(w:ZY)(e:En)(a:Zp XV)(n c:Nat)(gr:Z2)(f b d g m p A:Z6)(L:Zy Zj)(x:Act)(W:ZY):Prop:=∃ u,x={ tmps:=bm w e a n c gr u,defers:=[] }/\L.size=32/\SD w e a n c W/\∀ k,k<32->L.getD k ZW=ZX->FB w e f b d g m p A k (u (dB k)) W
theorem IVB.put{w:ZY}{e:En}{a:Zp XV}{n c:Nat}{gr:Z2}{L:Zy Zj}{u:Nat->Z2}(C:L.size=32)(H:SD w e a n c W)(hF:∀ k,k<32->L.getD k ZW=ZX->FB w e f b d g m p A k (u (dB k)) W)(k:Nat)(E:k<32)(v:Z2)(o:Z4 W.heap.size W r)(D:FB w e f b d g m p A k v r):IVB w e a n c gr f b d g m p A (L.setIfInBounds k ZX) { tmps:=bm w e a n c gr (upd u (dB k) v),defers:=[] } r:=by
 refine⟨_,rfl,by simpa using C,H.keep o,fun j B y=>?_⟩
 by_cases h:j=k
 .subst h;unfold upd;rw[ZP rfl];exact D
 .have z:(L.setIfInBounds k ZX).getD j ZW=L.getD j ZW:=by
   simp [X2,show ¬ k=j from fun q=>h q.symm]
  rw[z] at y;unfold upd;rw[ZS (by unfold dB;split <;> split <;> omega)];exact (hF j B y).below o
theorem rbody0(n c:Nat)(l:List Int)(gr:Z2)(w:ZY)(hk:e.kind=0)(hI:IS w (.slice a n c) l)(C:DatOk e l)(hv:e.vol.size<=1000)(H:e.own.size<=1000) :
 ZH Z8 223 #[.agg (e.vals (.slice a n c) gr)] w fun r w'=>∃ t,r=.returned (.string t)/\Z5 t=dW e l/\Z4 w.heap.size w w':=by
 obtain⟨hn,a2,-,-,a3,a4,hl,c8,hu⟩:=C;have k0:(e.kind==0)=ZX:=by rw[hk];rfl
 have c7:=gO e;obtain⟨a',c',e',hz,-⟩:=id hI;obtain⟨rfl,rfl,rfl⟩:a=a'/\n=l.length/\c=c':=by injection e' with x y z;exact⟨x,y,z⟩
 clear e';have a8:=lh (fun W=>rnums e W);have V:=lh (fun W v (h:IS W v (bK e))=>rnumbers v (bK e) W h (Zl rfl) hn);have T:=lh (fun W=>rbool e.uq W);have X:=lh (fun W v (h:IS W v [e.cls])=>rnumbers v [e.cls] W h (Zl rfl) (nums1 a2));have Z:=lh (fun W=>rtext e.vol W hv);have a0:=lh (fun W=>rtext e.own W H);have Y:=lh (fun W v (h:IS W v [e.cr,e.ex])=>rnumbers v [e.cr,e.ex] W h (Zl rfl) (nums2 a3 a4));have U:=lh (fun W=>rbool e.ar W);have a5:=lh (fun W v (h:IS W v [(l.length:Int)])=>rnumbers v [(l.length:Int)] W h (Zl rfl) (nums1 ⟨by omega,by omega⟩));have a6:=lh (fun W (B:Z4 w.heap.size w W)=>rnumbers (.slice a l.length c) l W (hI.below B) (by omega) hl);have a7:=lh (fun W v (h:IS W v [e.used])=>rnumbers v [e.used] W h (Zl rfl) (nums1 hu));have z0:=gF (bK e) hn;have z1:(⟨#[tb e.uq]⟩:Z6).size<=1:=ZV 1;have z2:=gF [e.cls] (nums1 a2);have z3:(cL e.vol.size++e.vol).size<=1010:=by rw[YW];have:=iS e.vol.size (by omega);omega
 have z4:(cL e.own.size++e.own).size<=1010:=by rw[YW];have:=iS e.own.size (by omega);omega
 have z5:=gF [e.cr,e.ex] (nums2 a3 a4);have z6:(⟨#[tb e.ar]⟩:Z6).size<=1:=ZV 1;have z7:=gF [(l.length:Int)] (nums1 ⟨by omega,by omega⟩);have z8:=gF l hl;have z9:=gF [e.used] (nums1 hu);have S:(bK e).length=14:=rfl;rw[S] at z0;simp only[Zw,XX] at z2 z5 z7 z9
 clear hk hI hn a2 a3 a4 hl hu hv H S;generalize aa:dw (bK e)=f at V z0;generalize ab:(⟨#[tb e.uq]⟩:Z6)=b at T z1;generalize ac:dw [e.cls]=d at X z2;generalize ad:cL e.vol.size++e.vol=g at Z z3;generalize af:cL e.own.size++e.own=m at a0 z4;generalize al:dw [e.cr,e.ex]=p at Y z5;generalize ao:(⟨#[tb e.ar]⟩:Z6)=A at U z6;generalize av:dw [(l.length:Int)]=A7 at a5 z7;generalize b0:dw l=A8 at a6 z8;generalize b1:dw [e.used]=A9 at a7 z9
 have HA:Hid (Z5 (((((((((f++b)++d)++g)++m)++p)++A)++A7)++A8)++A9)=dW e l):=lh (by
  rw[<-aa,<-ab,<-ac,<-ad,<-af,<-al,<-ao,<-av,<-b0,<-b1];simp only[XK,kf,kj]
  unfold dW iG;simp [encs,Z5])
 clear aa ab ac ad af al ao av b0 b1;have l1:¬ 9223372036854775807<f.size+b.size:=by omega
 have l2:¬ 9223372036854775807<f.size+b.size+d.size:=by omega
 have l3:¬ 9223372036854775807<f.size+b.size+d.size+g.size:=by omega
 have l4:¬ 9223372036854775807<f.size+b.size+d.size+g.size+m.size:=by omega
 have l5:¬ 9223372036854775807<f.size+b.size+d.size+g.size+m.size+p.size:=by omega
 have l6:¬ 9223372036854775807<f.size+b.size+d.size+g.size+m.size+p.size+A.size:=by omega
 have zs:((((((f++b)++d)++g)++m)++p)++A).size<=3000:=by simp only[YW];omega
 generalize hS:((((((f++b)++d)++g)++m)++p)++A)=s at HA zs;have HS:=lh hS;have m1:¬ 9223372036854775807<s.size+A7.size:=by omega
 have m2:¬ 9223372036854775807<s.size+A7.size+A8.size:=by omega
 have m3:¬ 9223372036854775807<s.size+A7.size+A8.size+A9.size:=by omega
 clear hS zs z0 z1 z2 z3 z4 z5 z6 z7 z8 z9;have R1:=aI w (e.vals (.slice a l.length c) gr) 29 (0,0) (.cells e.dat 25);have R:=aw w e.dat 25 (0,0) (.cells (e.vals (.slice a l.length c) gr) 29);have W0:SD w e a l.length c ((w.alloc (.cells (e.vals (.slice a l.length c) gr) 29)).alloc (.cells e.dat 25)).drew:=⟨R,ae R 14 _ (Fb e),ae R 15 _ (p9 e),ae R 16 _ (mW e),ae R 17 _ (eQ e),ae R 18 _ (eB e),ae R 19 _ (eC e),ae R 20 _ (Fc e),ae R1 23 _ (cf _ _ _),ae R1 24 _ (cM _ _ _),lh (by exact aB)⟩;clear R1 R;go_enter Tryz.func223,Tryz.ntmps223
 go_upto_region 4 with fail
 go_cut [1,4] (fun t1 t4 wx=>t1=.pointer (Z9 ⟨w.heap.size,0,Z7⟩)/\t4=.string s/\SD w e a l.length c wx)
 case first =>
  refine zZ (IVB w e a l.length c gr f b d g m p A) id (by kernel_rfl) (by kernel_rfl) ⟨fun _=>YY,rfl,rfl,W0,fun k _ h=>by simp [X2,Array.getElem?_replicate] at h;split at h <;> simp at h⟩ ?_ ?_
  .rintro L x W i o hs H C ⟨u,rfl,E,J,hF⟩ K hK
   have hi:i<32:=by
    rcases YG i 32 with h|h
    .exact h
    .rw[Y9 (by simpa using h)] at H;cases H
   have D:=lh J;have F:=lh hF;have G:=lh hK;obtain⟨q0,c9,ca,cb,cc,cd,ce,cg,b2,b3,qB⟩:=J;have c6:(row W (w.heap.size+1)).size=21:=by rw[q0];exact bW e
   clear hF hK hs W0;rcases (by omega:i=0\/i=1\/i=2\/i=3\/i=4\/i=5\/i=6\/i=7\/i=8\/i=9\/i=10\/i=11\/i=12\/i=13\/i=14\/i=15\/i=16\/i=17\/i=18\/i=19\/i=20\/i=21\/i=22\/i=23\/i=24\/i=25\/i=26\/i=27\/i=28\/i=29\/i=30\/i=31) with rfl|rfl|rfl|rfl|rfl|rfl|rfl|rfl|rfl|rfl|rfl|rfl|rfl|rfl|rfl|rfl|rfl|rfl|rfl|rfl|rfl|rfl|rfl|rfl|rfl|rfl|rfl|rfl|rfl|rfl|rfl|rfl
   .simp at H;subst H
    clear C;unfold bm;go_simp
    refine G.o _ _ ?_
    refine V4 (Y7 (fun t=>IVB w e a l.length c gr f b d g m p A (L.setIfInBounds 0 ZX) { tmps:=t,defers:=[] } _) ?_) (IVB.put (gr:=gr) E D.o F.o 0 (by decide) (.agg e.dat) (ZR _ _) rfl)
    unfold bm upd dB;simp only[reduceIte,Nat.reduceEqDiff,Nat.reduceAdd]
   .have f0:(u 13)=.agg e.dat:=F.o 0 (by decide) (C ⟨0,.data⟩ (by simp at H;subst H;simp) rfl);simp at H;subst H
    clear C;unfold bm;go_simp
    (go_at_call 227;(with_reducible refine (a8.o _).mono ?_);rintro _ N ⟨v,rfl,c5,I⟩)
    go_wp2_with fail
    refine G.o _ _ ?_
    refine V4 (Y7 (fun t=>IVB w e a l.length c gr f b d g m p A (L.setIfInBounds 1 ZX) { tmps:=t,defers:=[] } _) ?_) (IVB.put (gr:=gr) E D.o F.o 1 (by decide) v I c5)
    unfold bm upd dB;simp only[f0,reduceIte,Nat.reduceEqDiff,Nat.reduceAdd]
   .have f1:IS W (u 14) (bK e):=F.o 1 (by decide) (C ⟨1,.data⟩ (by simp at H;subst H;simp) rfl);simp at H;subst H
    clear C;unfold bm;go_simp
    (go_at_call 282;(refine (V.o _ _ f1).mono ?_);rintro _ N ⟨rfl,I⟩)
    go_wp2_with fail
    refine G.o _ _ ?_
    refine V4 (Y7 (fun t=>IVB w e a l.length c gr f b d g m p A (L.setIfInBounds 2 ZX) { tmps:=t,defers:=[] } _) ?_) (IVB.put (gr:=gr) E D.o F.o 2 (by decide) (.string f) I rfl)
    unfold bm upd dB;simp only[f1,reduceIte,Nat.reduceEqDiff,Nat.reduceAdd]
   .simp at H;subst H
    clear C;unfold bm;go_simp
    refine G.o _ _ ?_
    refine V4 (Y7 (fun t=>IVB w e a l.length c gr f b d g m p A (L.setIfInBounds 3 ZX) { tmps:=t,defers:=[] } _) ?_) (IVB.put (gr:=gr) E D.o F.o 3 (by decide) (.pointer (Z9 ⟨w.heap.size+1,14,Z7⟩)) (ZR _ _) rfl)
    unfold bm upd dB;simp only[reduceIte,Nat.reduceEqDiff,Nat.reduceAdd]
   .have f3:(u 16)=.pointer (Z9 ⟨w.heap.size+1,14,Z7⟩):=F.o 3 (by decide) (C ⟨3,.data⟩ (by simp at H;subst H;simp) rfl);simp at H;subst H
    clear C;unfold bm;go_simp
    refine G.o _ _ ?_
    refine V4 (Y7 (fun t=>IVB w e a l.length c gr f b d g m p A (L.setIfInBounds 4 ZX) { tmps:=t,defers:=[] } _) ?_) (IVB.put (gr:=gr) E D.o F.o 4 (by decide) (.bool e.uq) (ZR _ _) rfl)
    unfold bm upd dB;simp only[f3,reduceIte,Nat.reduceEqDiff,Nat.reduceAdd]
   .have f4:(u 17)=.bool e.uq:=F.o 4 (by decide) (C ⟨4,.data⟩ (by simp at H;subst H;simp) rfl);simp at H;subst H
    clear C;unfold bm;go_simp
    (go_at_call 283;(with_reducible refine (T.o _).mono ?_);rintro _ N ⟨rfl,rfl⟩)
    go_wp2_with fail
    refine G.o _ _ ?_
    refine V4 (Y7 (fun t=>IVB w e a l.length c gr f b d g m p A (L.setIfInBounds 5 ZX) { tmps:=t,defers:=[] } _) ?_) (IVB.put (gr:=gr) E D.o F.o 5 (by decide) (.string b) (ZR _ _) rfl)
    unfold bm upd dB;simp only[f4,reduceIte,Nat.reduceEqDiff,Nat.reduceAdd]
   .have f2:(u 15)=.string f:=F.o 2 (by decide) (C ⟨2,.data⟩ (by simp at H;subst H;simp) rfl);have f5:(u 18)=.string b:=F.o 5 (by decide) (C ⟨5,.data⟩ (by simp at H;subst H;simp) rfl);simp at H;subst H
    clear C;unfold bm;go_simp
    refine G.o _ _ ?_
    refine V4 (Y7 (fun t=>IVB w e a l.length c gr f b d g m p A (L.setIfInBounds 6 ZX) { tmps:=t,defers:=[] } _) ?_) (IVB.put (gr:=gr) E D.o F.o 6 (by decide) (.string (f++b)) (ZR _ _) rfl)
    unfold bm upd dB;simp only[f2,f5,reduceIte,Nat.reduceEqDiff,Nat.reduceAdd]
   .simp at H;subst H
    clear C;unfold bm;go_simp
    refine G.o _ _ ?_
    refine V4 (Y7 (fun t=>IVB w e a l.length c gr f b d g m p A (L.setIfInBounds 7 ZX) { tmps:=t,defers:=[] } _) ?_) (IVB.put (gr:=gr) E D.o F.o 7 (by decide) (.pointer (Z9 ⟨w.heap.size+1,15,Z7⟩)) (ZR _ _) rfl)
    unfold bm upd dB;simp only[reduceIte,Nat.reduceEqDiff,Nat.reduceAdd]
   .have f7:(u 20)=.pointer (Z9 ⟨w.heap.size+1,15,Z7⟩):=F.o 7 (by decide) (C ⟨7,.data⟩ (by simp at H;subst H;simp) rfl);simp at H;subst H
    clear C;unfold bm;go_simp
    refine G.o _ _ ?_
    refine V4 (Y7 (fun t=>IVB w e a l.length c gr f b d g m p A (L.setIfInBounds 8 ZX) { tmps:=t,defers:=[] } _) ?_) (IVB.put (gr:=gr) E D.o F.o 8 (by decide) (.int .i64 e.cls) (ZR _ _) rfl)
    unfold bm upd dB;simp only[f7,reduceIte,Nat.reduceEqDiff,Nat.reduceAdd]
   .have f8:(u 21)=.int .i64 e.cls:=F.o 8 (by decide) (C ⟨8,.data⟩ (by simp at H;subst H;simp) rfl);simp at H;subst H
    clear C;unfold bm;go_simp
    refine G.o _ _ ?_
    refine V4 (Y7 (fun t=>IVB w e a l.length c gr f b d g m p A (L.setIfInBounds 9 ZX) { tmps:=t,defers:=[] } _) ?_) (IVB.put (gr:=gr) E D.o F.o 9 (by decide) (.slice (Z9 ⟨W.heap.size,0,Z7⟩) 1 1) (fq _ _) (pj _ _ _))
    unfold bm upd dB;simp only[f8,reduceIte,Nat.reduceEqDiff,Nat.reduceAdd]
   .have f9:IS W (u 22) [e.cls]:=F.o 9 (by decide) (C ⟨9,.data⟩ (by simp at H;subst H;simp) rfl);simp at H;subst H
    clear C;unfold bm;go_simp
    (go_at_call 282;(refine (X.o _ _ f9).mono ?_);rintro _ N ⟨rfl,I⟩)
    go_wp2_with fail
    refine G.o _ _ ?_
    refine V4 (Y7 (fun t=>IVB w e a l.length c gr f b d g m p A (L.setIfInBounds 10 ZX) { tmps:=t,defers:=[] } _) ?_) (IVB.put (gr:=gr) E D.o F.o 10 (by decide) (.string d) I rfl)
    unfold bm upd dB;simp only[f9,reduceIte,Nat.reduceEqDiff,Nat.reduceAdd]
   .have f6:(u 19)=.string (f++b):=F.o 6 (by decide) (C ⟨6,.data⟩ (by simp at H;subst H;simp) rfl);have b4:(u 23)=.string d:=F.o 10 (by decide) (C ⟨10,.data⟩ (by simp at H;subst H;simp) rfl);simp at H;subst H
    clear C;unfold bm;go_simp
    refine G.o _ _ ?_
    refine V4 (Y7 (fun t=>IVB w e a l.length c gr f b d g m p A (L.setIfInBounds 11 ZX) { tmps:=t,defers:=[] } _) ?_) (IVB.put (gr:=gr) E D.o F.o 11 (by decide) (.string ((f++b)++d)) (ZR _ _) rfl)
    unfold bm upd dB;simp only[f6,b4,reduceIte,Nat.reduceEqDiff,Nat.reduceAdd]
   .simp at H;subst H
    clear C;unfold bm;go_simp
    refine G.o _ _ ?_
    refine V4 (Y7 (fun t=>IVB w e a l.length c gr f b d g m p A (L.setIfInBounds 12 ZX) { tmps:=t,defers:=[] } _) ?_) (IVB.put (gr:=gr) E D.o F.o 12 (by decide) (.pointer (Z9 ⟨w.heap.size+1,16,Z7⟩)) (ZR _ _) rfl)
    unfold bm upd dB;simp only[reduceIte,Nat.reduceEqDiff,Nat.reduceAdd]
   .have b6:(u 25)=.pointer (Z9 ⟨w.heap.size+1,16,Z7⟩):=F.o 12 (by decide) (C ⟨12,.data⟩ (by simp at H;subst H;simp) rfl);simp at H;subst H
    clear C;unfold bm;go_simp
    refine G.o _ _ ?_
    refine V4 (Y7 (fun t=>IVB w e a l.length c gr f b d g m p A (L.setIfInBounds 13 ZX) { tmps:=t,defers:=[] } _) ?_) (IVB.put (gr:=gr) E D.o F.o 13 (by decide) (.string e.vol) (ZR _ _) rfl)
    unfold bm upd dB;simp only[b6,reduceIte,Nat.reduceEqDiff,Nat.reduceAdd]
   .have b7:(u 26)=.string e.vol:=F.o 13 (by decide) (C ⟨13,.data⟩ (by simp at H;subst H;simp) rfl);simp at H;subst H
    clear C;unfold bm;go_simp
    (go_at_call 284;(with_reducible refine (Z.o _).mono ?_);rintro _ N ⟨rfl,I⟩)
    go_wp2_with fail
    refine G.o _ _ ?_
    refine V4 (Y7 (fun t=>IVB w e a l.length c gr f b d g m p A (L.setIfInBounds 14 ZX) { tmps:=t,defers:=[] } _) ?_) (IVB.put (gr:=gr) E D.o F.o 14 (by decide) (.string g) I rfl)
    unfold bm upd dB;simp only[b7,reduceIte,Nat.reduceEqDiff,Nat.reduceAdd]
   .have b5:(u 24)=.string ((f++b)++d):=F.o 11 (by decide) (C ⟨11,.data⟩ (by simp at H;subst H;simp) rfl);have b8:(u 27)=.string g:=F.o 14 (by decide) (C ⟨14,.data⟩ (by simp at H;subst H;simp) rfl);simp at H;subst H
    clear C;unfold bm;go_simp
    refine G.o _ _ ?_
    refine V4 (Y7 (fun t=>IVB w e a l.length c gr f b d g m p A (L.setIfInBounds 15 ZX) { tmps:=t,defers:=[] } _) ?_) (IVB.put (gr:=gr) E D.o F.o 15 (by decide) (.string (((f++b)++d)++g)) (ZR _ _) rfl)
    unfold bm upd dB;simp only[b5,b8,reduceIte,Nat.reduceEqDiff,Nat.reduceAdd]
   .simp at H;subst H
    clear C;unfold bm;go_simp
    refine G.o _ _ ?_
    refine V4 (Y7 (fun t=>IVB w e a l.length c gr f b d g m p A (L.setIfInBounds 16 ZX) { tmps:=t,defers:=[] } _) ?_) (IVB.put (gr:=gr) E D.o F.o 16 (by decide) (.pointer (Z9 ⟨w.heap.size+1,17,Z7⟩)) (ZR _ _) rfl)
    unfold bm upd dB;simp only[reduceIte,Nat.reduceEqDiff,Nat.reduceAdd]
   .have ba:(u 29)=.pointer (Z9 ⟨w.heap.size+1,17,Z7⟩):=F.o 16 (by decide) (C ⟨16,.data⟩ (by simp at H;subst H;simp) rfl);simp at H;subst H
    clear C;unfold bm;go_simp
    refine G.o _ _ ?_
    refine V4 (Y7 (fun t=>IVB w e a l.length c gr f b d g m p A (L.setIfInBounds 17 ZX) { tmps:=t,defers:=[] } _) ?_) (IVB.put (gr:=gr) E D.o F.o 17 (by decide) (.string e.own) (ZR _ _) rfl)
    unfold bm upd dB;simp only[ba,reduceIte,Nat.reduceEqDiff,Nat.reduceAdd]
   .have bb:(u 30)=.string e.own:=F.o 17 (by decide) (C ⟨17,.data⟩ (by simp at H;subst H;simp) rfl);simp at H;subst H
    clear C;unfold bm;go_simp
    (go_at_call 284;(with_reducible refine (a0.o _).mono ?_);rintro _ N ⟨rfl,I⟩)
    go_wp2_with fail
    refine G.o _ _ ?_
    refine V4 (Y7 (fun t=>IVB w e a l.length c gr f b d g m p A (L.setIfInBounds 18 ZX) { tmps:=t,defers:=[] } _) ?_) (IVB.put (gr:=gr) E D.o F.o 18 (by decide) (.string m) I rfl)
    unfold bm upd dB;simp only[bb,reduceIte,Nat.reduceEqDiff,Nat.reduceAdd]
   .have b9:(u 28)=.string (((f++b)++d)++g):=F.o 15 (by decide) (C ⟨15,.data⟩ (by simp at H;subst H;simp) rfl);have bc:(u 31)=.string m:=F.o 18 (by decide) (C ⟨18,.data⟩ (by simp at H;subst H;simp) rfl);simp at H;subst H
    clear C;unfold bm;go_simp
    refine G.o _ _ ?_
    refine V4 (Y7 (fun t=>IVB w e a l.length c gr f b d g m p A (L.setIfInBounds 19 ZX) { tmps:=t,defers:=[] } _) ?_) (IVB.put (gr:=gr) E D.o F.o 19 (by decide) (.string ((((f++b)++d)++g)++m)) (ZR _ _) rfl)
    unfold bm upd dB;simp only[b9,bc,reduceIte,Nat.reduceEqDiff,Nat.reduceAdd]
   .simp at H;subst H
    clear C;unfold bm;go_simp
    refine G.o _ _ ?_
    refine V4 (Y7 (fun t=>IVB w e a l.length c gr f b d g m p A (L.setIfInBounds 20 ZX) { tmps:=t,defers:=[] } _) ?_) (IVB.put (gr:=gr) E D.o F.o 20 (by decide) (.pointer (Z9 ⟨w.heap.size+1,18,Z7⟩)) (ZR _ _) rfl)
    unfold bm upd dB;simp only[reduceIte,Nat.reduceEqDiff,Nat.reduceAdd]
   .have bi:(u 33)=.pointer (Z9 ⟨w.heap.size+1,18,Z7⟩):=F.o 20 (by decide) (C ⟨20,.data⟩ (by simp at H;subst H;simp) rfl);simp at H;subst H
    clear C;unfold bm;go_simp
    refine G.o _ _ ?_
    refine V4 (Y7 (fun t=>IVB w e a l.length c gr f b d g m p A (L.setIfInBounds 21 ZX) { tmps:=t,defers:=[] } _) ?_) (IVB.put (gr:=gr) E D.o F.o 21 (by decide) (.int .i64 e.cr) (ZR _ _) rfl)
    unfold bm upd dB;simp only[bi,reduceIte,Nat.reduceEqDiff,Nat.reduceAdd]
   .simp at H;subst H
    clear C;unfold bm;go_simp
    refine G.o _ _ ?_
    refine V4 (Y7 (fun t=>IVB w e a l.length c gr f b d g m p A (L.setIfInBounds 22 ZX) { tmps:=t,defers:=[] } _) ?_) (IVB.put (gr:=gr) E D.o F.o 22 (by decide) (.pointer (Z9 ⟨w.heap.size+1,19,Z7⟩)) (ZR _ _) rfl)
    unfold bm upd dB;simp only[reduceIte,Nat.reduceEqDiff,Nat.reduceAdd]
   .have bp:(u 35)=.pointer (Z9 ⟨w.heap.size+1,19,Z7⟩):=F.o 22 (by decide) (C ⟨22,.data⟩ (by simp at H;subst H;simp) rfl);simp at H;subst H
    clear C;unfold bm;go_simp
    refine G.o _ _ ?_
    refine V4 (Y7 (fun t=>IVB w e a l.length c gr f b d g m p A (L.setIfInBounds 23 ZX) { tmps:=t,defers:=[] } _) ?_) (IVB.put (gr:=gr) E D.o F.o 23 (by decide) (.int .i64 e.ex) (ZR _ _) rfl)
    unfold bm upd dB;simp only[bp,reduceIte,Nat.reduceEqDiff,Nat.reduceAdd]
   .have bk:(u 34)=.int .i64 e.cr:=F.o 21 (by decide) (C ⟨21,.data⟩ (by simp at H;subst H;simp) rfl);have br:(u 36)=.int .i64 e.ex:=F.o 23 (by decide) (C ⟨23,.data⟩ (by simp at H;subst H;simp) rfl);simp at H;subst H
    clear C;unfold bm;go_simp
    refine G.o _ _ ?_
    refine V4 (Y7 (fun t=>IVB w e a l.length c gr f b d g m p A (L.setIfInBounds 24 ZX) { tmps:=t,defers:=[] } _) ?_) (IVB.put (gr:=gr) E D.o F.o 24 (by decide) (.slice (Z9 ⟨W.heap.size,0,Z7⟩) 2 2) (fq _ _) (pm _ _ _ _))
    unfold bm upd dB;simp only[bk,br,reduceIte,Nat.reduceEqDiff,Nat.reduceAdd]
   .have a9:IS W (u 37) [e.cr,e.ex]:=F.o 24 (by decide) (C ⟨24,.data⟩ (by simp at H;subst H;simp) rfl);simp at H;subst H
    clear C;unfold bm;go_simp
    (go_at_call 282;(refine (Y.o _ _ a9).mono ?_);rintro _ N ⟨rfl,I⟩)
    go_wp2_with fail
    refine G.o _ _ ?_
    refine V4 (Y7 (fun t=>IVB w e a l.length c gr f b d g m p A (L.setIfInBounds 25 ZX) { tmps:=t,defers:=[] } _) ?_) (IVB.put (gr:=gr) E D.o F.o 25 (by decide) (.string p) I rfl)
    unfold bm upd dB;simp only[a9,reduceIte,Nat.reduceEqDiff,Nat.reduceAdd]
   .have be:(u 32)=.string ((((f++b)++d)++g)++m):=F.o 19 (by decide) (C ⟨19,.data⟩ (by simp at H;subst H;simp) rfl);have bs:(u 38)=.string p:=F.o 25 (by decide) (C ⟨25,.data⟩ (by simp at H;subst H;simp) rfl);simp at H;subst H
    clear C;unfold bm;go_simp
    refine G.o _ _ ?_
    refine V4 (Y7 (fun t=>IVB w e a l.length c gr f b d g m p A (L.setIfInBounds 26 ZX) { tmps:=t,defers:=[] } _) ?_) (IVB.put (gr:=gr) E D.o F.o 26 (by decide) (.string (((((f++b)++d)++g)++m)++p)) (ZR _ _) rfl)
    unfold bm upd dB;simp only[be,bs,reduceIte,Nat.reduceEqDiff,Nat.reduceAdd]
   .simp at H;subst H
    clear C;unfold bm;go_simp
    refine G.o _ _ ?_
    refine V4 (Y7 (fun t=>IVB w e a l.length c gr f b d g m p A (L.setIfInBounds 27 ZX) { tmps:=t,defers:=[] } _) ?_) (IVB.put (gr:=gr) E D.o F.o 27 (by decide) (.pointer (Z9 ⟨w.heap.size+1,20,Z7⟩)) (ZR _ _) rfl)
    unfold bm upd dB;simp only[reduceIte,Nat.reduceEqDiff,Nat.reduceAdd]
   .have c1:(u 40)=.pointer (Z9 ⟨w.heap.size+1,20,Z7⟩):=F.o 27 (by decide) (C ⟨27,.data⟩ (by simp at H;subst H;simp) rfl);simp at H;subst H
    clear C;unfold bm;go_simp
    refine G.o _ _ ?_
    refine V4 (Y7 (fun t=>IVB w e a l.length c gr f b d g m p A (L.setIfInBounds 28 ZX) { tmps:=t,defers:=[] } _) ?_) (IVB.put (gr:=gr) E D.o F.o 28 (by decide) (.bool e.ar) (ZR _ _) rfl)
    unfold bm upd dB;simp only[c1,reduceIte,Nat.reduceEqDiff,Nat.reduceAdd]
   .have c2:(u 41)=.bool e.ar:=F.o 28 (by decide) (C ⟨28,.data⟩ (by simp at H;subst H;simp) rfl);simp at H;subst H
    clear C;unfold bm;go_simp
    (go_at_call 283;(with_reducible refine (U.o _).mono ?_);rintro _ N ⟨rfl,rfl⟩)
    go_wp2_with fail
    refine G.o _ _ ?_
    refine V4 (Y7 (fun t=>IVB w e a l.length c gr f b d g m p A (L.setIfInBounds 29 ZX) { tmps:=t,defers:=[] } _) ?_) (IVB.put (gr:=gr) E D.o F.o 29 (by decide) (.string A) (ZR _ _) rfl)
    unfold bm upd dB;simp only[c2,reduceIte,Nat.reduceEqDiff,Nat.reduceAdd]
   .have c0:(u 39)=.string (((((f++b)++d)++g)++m)++p):=F.o 26 (by decide) (C ⟨26,.data⟩ (by simp at H;subst H;simp) rfl);have c3:(u 42)=.string A:=F.o 29 (by decide) (C ⟨29,.data⟩ (by simp at H;subst H;simp) rfl);simp at H;subst H
    clear C;unfold bm;go_simp
    refine G.o _ _ ?_
    refine V4 (Y7 (fun t=>IVB w e a l.length c gr f b d g m p A (L.setIfInBounds 30 ZX) { tmps:=t,defers:=[] } _) ?_) (IVB.put (gr:=gr) E D.o F.o 30 (by decide) (.string ((((((f++b)++d)++g)++m)++p)++A)) (ZR _ _) rfl)
    unfold bm upd dB;simp only[c0,c3,reduceIte,Nat.reduceEqDiff,Nat.reduceAdd]
   .have c4:(u 43)=.string ((((((f++b)++d)++g)++m)++p)++A):=F.o 30 (by decide) (C ⟨30,.data⟩ (by simp at H;subst H;simp) rfl);simp at H;subst H
    clear C;unfold bm;go_simp
    refine G.o _ _ ?_
    refine V4 (Y7 (fun t=>IVB w e a l.length c gr f b d g m p A (L.setIfInBounds 31 ZX) { tmps:=t,defers:=[] } _) ?_) (IVB.put (gr:=gr) E D.o F.o 31 (by decide) (.string ((((((f++b)++d)++g)++m)++p)++A)) (ZR _ _) rfl)
    unfold bm upd dB;simp only[c4,reduceIte,Nat.reduceEqDiff,Nat.reduceAdd]
  .rintro L x W O ⟨u,rfl,-,J,hF⟩;have a1:=hF 31 (by decide) (O 31 (by decide));simp only[FB,dB] at a1
   rw[HS.o] at a1;clear hF O;unfold bm;go_wp2_with fail
   go_meet
   exact⟨rfl,a1,J⟩
 case rest =>
  obtain⟨rfl,rfl,J⟩:=hcut;clear W0 a8 V T X Z a0 Y U HS l1 l2 l3 l4 l5 l6;obtain⟨-,-,-,-,-,-,-,-,b2,b3,qB⟩:=J;go_upto_region 5 with fail
  go_region_held3 (fun w'=>w'.cell? ⟨w.heap.size,23,Z7⟩=Z9 (.slice a l.length c)/\w'.cell? ⟨w.heap.size,24,Z7⟩=Z9 (.int .i64 e.used)/\Hid (Z4 w.heap.size w w')) (first|assumption|exact⟨b2,b3,lh (Y3 qB.o)⟩|exact vZ I (by assumption)|exact vZ (fq _ _) (by assumption)) (first
   | (go_at_call 282;(refine (a5.o _ _ ?_).mono ?_);(focus ((repeat (first|(with_reducible assumption)|(with_reducible refine jz _ _ _ _ ?_;first|with_reducible rfl|(simp;done))|(with_reducible refine jA _ _ _ _ ?_;first|with_reducible rfl|(simp;done))|(with_reducible refine mL _ _ _ _ _ ?_;first|with_reducible rfl|(simp;done))|(with_reducible refine mM _ _ _ _ _ ?_;first|with_reducible rfl|(simp;done))|(with_reducible apply IS.below;rotate_left 1;with_reducible assumption)|(with_reducible refine IS.below ?_ (fq _ _))|(with_reducible refine jy ?_)));done));rintro _ N ⟨rfl,I⟩)
   | (go_at_call 282;(refine (a7.o _ _ ?_).mono ?_);(focus ((repeat (first|(with_reducible assumption)|(with_reducible refine jz _ _ _ _ ?_;first|with_reducible rfl|(simp;done))|(with_reducible refine jA _ _ _ _ ?_;first|with_reducible rfl|(simp;done))|(with_reducible refine mL _ _ _ _ _ ?_;first|with_reducible rfl|(simp;done))|(with_reducible refine mM _ _ _ _ _ ?_;first|with_reducible rfl|(simp;done))|(with_reducible apply IS.below;rotate_left 1;with_reducible assumption)|(with_reducible refine IS.below ?_ (fq _ _))|(with_reducible refine jy ?_)));done));rintro _ N ⟨rfl,I⟩)
   | (go_at_call 282;(refine (a6.o _ (by assumption:_/\_/\Hid (Z4 _ _ _)).2.2.o).mono ?_);rintro _ N ⟨rfl,I⟩))
  all_goals
   obtain⟨_,_,hB⟩:=(by assumption:_/\_/\Hid (Z4 _ _ _));go_wp2_with fail
   go_ret
   exact⟨_,rfl,HA.o,hB.o⟩
end
theorem Ba(H:aA x=ZX)(v:IS w i x.2.1)(y:GS w gr x.2.2) :
 ZH Z8 223 #[.agg (x.1.vals i gr)] w fun r E=>∃ t,r=.returned (.string t)/\Z5 t=dX x/\Z4 w.heap.size w E:=by
 obtain⟨e,l,g⟩:=x;obtain⟨a,c,rfl,-,-⟩:=id v;obtain⟨B,s,rfl,-,-⟩:=id y;unfold aA at H;unfold dX;simp only at H v y |-
 split at H
 .rename_i o;rw[ZP o];unfold fL at H;simp only[ZQ] at H
  have z:=kx e l H.1.2;exact rbody0 e a l.length c l _ w o v z.1 (ZC z.2.1.1 (by decide)) (ZC z.2.1.2 (by decide))
 rename_i k0;rw[ZS k0];split at H
 .rename_i o;rw[ZP o];unfold fm at H;simp only[ZQ] at H
  have u:=H.1.2;unfold Vp.grp at u;simp only[ZQ] at u
  have R:=rng1 _ _ _ u.1.1;have G:=rng1 _ _ _ u.1.2;have D:=own8 _ u.2;rw[Ds.bl_length] at D;exact rbody1 e _ _ w o (by omega) (by omega) (by omega)
 rename_i k1;rw[ZS k1];split at H
 .rename_i o;rw[ZP o];unfold eY at H;simp only[ZQ] at H
  have F:=ka e H.1.2;exact rbody2 e _ _ w o (by omega)
 rename_i K;rw[ZS K];split at H
 .rename_i o;rw[ZP o];unfold fK at H;simp only[ZQ] at H
  have R:=rng1 _ _ _ H.1.2;exact rbody3 e _ _ w o (by omega)
 rename_i C;rw[ZS C];split at H
 .rename_i o;unfold gD at H;simp only[ZQ] at H
  exact rbody4 e _ B g.length s g w o y (km e g H.1.2).1
 .cases H
theorem tH(z:x.1.name.size<=60)(o:IS w i x.2.1)(u:GS w gr x.2.2) :
 ZH Z8 136 #[.agg (x.1.vals i gr)] w fun r y=>∃ t,r=.returned (.tuple #[.string t,.int .i64 (if aA x=ZX then 0 else 1)])/\Z5 t=(if aA x=ZX then cJ x else [])/\Z4 w.heap.size w y:=by
 have H:=aD o
 have D:aA x=ZX->(dX x).length<=100000/\(Ek.key x.1.kind (Z5 x.1.name)).length<=100/\∀ W,Z4 w.heap.size w W->ZH Z8 223 #[.agg (x.1.vals i gr)] W fun r y=>∃ t,r=.returned (.string t)/\Z5 t=dX x/\Z4 W.heap.size W y:=fun v =>
  ⟨ZC (oG x v) (by decide),by have:=ki x v;unfold dL at this;omega,fun W B=>Ba x i gr W v (o.below B) (u.below B)⟩
 have E:=fun W (B:Z4 w.heap.size w W)=>pL x i gr W z (o.below B) (u.below B)
 obtain⟨C,s,rfl,-,-⟩:=id u;exact rencode x.1 i C _ s (aA x) (dX x) w H E D
end Go.Proofs.YtnkjliahpeebjaaGreatDoor
