/- Catalogs. -/
import Derived.Test.YtnkjliahpeebjaaGreatDoorFrameEs
import Derived.Test.YtnkjliahpeebjaaGreatDoorNo
set_option maxRecDepth 100000
set_option maxHeartbeats 16000000
open Go.RowKit renaming Below->Z4
open Go renaming World->ZY,Calls->ZH,block_lt_of_cell->YF
open Bool renaming true->ZX,false->ZW
namespace Go.Proofs.YtnkjliahpeebjaaGreatDoor
section
open Go.RowKit
attribute [local go_sem ↓] aZ bf bq fb
attribute [local go_sem] bn aS aH bE bH aK aT ak aI aw az aM ah aQ aL aP aO aR aY aW ap aq pS cf cB cC
def few7P(F:Nat->Ef)(n:Nat)(m:Int):Prop:=(n:Int)<=m/\∀ k,k<n->(F k).e.name.size<=60/\(F k).n2<=12/\(F k).n1<=8
def Few7R(F:Nat->Ef)(n:Nat)(m:Int)(w W:ZY)(r:Ending):Prop:=∃ b:Bool,r=.returned (.bool b)/\(b=ZX->few7P F n m)/\Z4 w.heap.size w W
theorem Few7R.no{F:Nat->Ef}{n:Nat}{m:Int}{w W:ZY}(h:Z4 w.heap.size w W):Few7R F n m w W (.returned (.bool ZW)):=⟨ZW,rfl,(fun h=>by cases h),h⟩
theorem few37(a:Option Addr)(n c:Nat)(F:Nat->Ef)(m:Int)(w:ZY)(H:ES w a n F) :
 ZH Tryz.prog 11 #[.slice a n c,.int .i64 m] w fun r W=>Few7R F n m w W r:=by
 have S:=lh H;have p:=H.1;clear H;go_enter Tryz.func11,Tryz.ntmps11
 go_wp2_with fail
 go_loopw [9] (fun i wr=>∃ k:Nat,k<=n/\i=.int .i64 k/\(∀ j,j<k->(F j).e.name.size<=60/\(F j).n2<=12/\(F j).n1<=8)/\Z4 w.heap.size w wr) (fun i _=>n - (intOf i).toNat)
 case atStart=>exact⟨0,Nat.zero_le _,rfl,(fun j l=>absurd l (by omega)),by exact aB⟩
 case round =>
  obtain⟨k,P,rfl,f,B⟩:=hrel;have K:=lh f;have Z:=B.size;clear f;by_cases t:k<n
  .obtain⟨b,o,rfl,O,A,C,v,x,d,L,N,-⟩:=(S.o.below B).2 k t;have R:(mid wr b (o+k*33)).size=33:=by rw[d];exact ah _ _ _
   have s:=ay (F k).e (.slice A (F k).n1 C) (.slice v (F k).n2 x) rfl rfl;obtain⟨q,E⟩:∃ b,decide (60<((F k).e.name.size:Int))=b:=⟨_,rfl⟩;obtain⟨D,I⟩:∃ b,decide (60<((F k).e.target.size:Int))=b:=⟨_,rfl⟩;obtain⟨Q,y⟩:∃ b,decide (12<((F k).n2:Int))=b:=⟨_,rfl⟩;obtain⟨u,z⟩:∃ b,decide (8<((F k).n1:Int))=b:=⟨_,rfl⟩;obtain⟨G,J⟩:∃ b,decide (40<((F k).e.vol.size:Int))=b:=⟨_,rfl⟩
   have g:Hid (q=ZW->Q=ZW->u=ZW->(F k).e.name.size<=60/\(F k).n2<=12/\(F k).n1<=8):=lh (by
    rintro rfl rfl rfl;rw[decide_eq_false_iff_not] at E y z;omega)
   cases q
   cases D
   cases Q
   cases u
   cases G
   .go_wp2_with fail
    go_roundw
    case rel =>
     refine⟨k+1,by omega,by go_num,fun j l=>?_,by exact aB⟩
     rcases Nat.lt_or_ge j k with h|h
     .exact K.o j h
     .obtain rfl:j=k:=by omega
      exact g.o rfl rfl rfl
    case measure=>simp [intOf];omega
   all_goals
    go_wp2_with fail
    go_ret
    exact Few7R.no (by exact aB)
  .obtain rfl:k=n:=by omega
   obtain⟨q,E⟩:∃ b,decide ((k:Int)<=m)=b:=⟨_,rfl⟩;have g:Hid (q=ZX->(k:Int)<=m):=lh (by rintro rfl;exact of_decide_eq_true E);go_wp2_with fail
   go_ret
   exact⟨_,rfl,fun h=>⟨g.o h,K.o⟩,B⟩
end
section
open Go.ChangeShapes Go.WideShapes Go.RowKit
end
section
open Go.RowKit
set_option linter.unusedSimpArgs false
def lit37:Array Value:=#[.int .i64 0,.string ⟨#[80,65,89,46,77,65,83,84,69,82]⟩,.int .i64 130,.int .i64 0,.int .i64 0,.int .i64 0,.int .i64 0,.int .i64 0,.int .i64 0,.int .i64 0,.int .i64 0,.int .i64 0,.int .i64 0,.int .i64 0,.int .i64 0,.int .i64 0,.bool ZW,.int .i64 0,.string ⟨#[86,49]⟩,.string ⟨#[]⟩,.int .i64 0,.int .i64 0,.bool ZW,.slice none 0 0,.int .i64 0,.int .i64 0,.int .i64 0,.bool ZW,.string ⟨#[]⟩,.string ⟨#[]⟩,.int .i64 0,.int .i64 0,.slice none 0 0]
theorem I7:v37=lit37:=by unfold v37 En.vals;rfl
theorem ok37:aA cu=ZX:=by
 unfold aA;rw[if_pos (show cu.1.kind=0 from rfl)];unfold fL;rw[show dh (fg cu.1) cu.1 cu.2.1 cu.2.1 [] cu.2.2=ZX from (dV _ _ _ _ _ _).2 ⟨by unfold fg cu e37;rfl,rfl,rfl⟩];decide +kernel
theorem note37:bv cu nR=ZX:=by
 unfold bv uc;rw[ok37,JI,if_neg (by decide +kernel)];rfl
def s37:ByteArray:=eg cu nR
theorem JU(x g:Fu)(h:bv x g=ZX):Ds.bl (eg x g)=sc x g:=by unfold eg;rw[if_pos h,Ds.bl_mk]
theorem KG(x g:Fu)(h:bv x g=ZX):(eg x g).size<=400:=by rw[<-Ds.bl_length,JU x g h];exact LD x g h
theorem LE(x g:Fu)(h:bv x g=ZX)(A b a G:Value)(w:ZY)(m:MaxL w)(T:Tab w)(s:x.1.name.size<=1000)(H:g.1.name.size<=1000)(c:IS w A x.2.1)(d:GS w b x.2.2)(e:IS w a g.2.1)(f:GS w G g.2.2) :
 ZH Tryz.prog 44 #[.agg (x.1.vals A b),.agg (g.1.vals a G)] w fun r W=>r=.returned (.tuple #[.string (eg x g),.int .i64 0])/\Z4 w.heap.size w W:=by
 have:=Jn x g A b a G w m T s H c d e f;rw[h] at this;exact this
theorem JL(s:ByteArray)(x g:Fu)(h:co (Ds.bl s)=some (x,g))(w:ZY)(k:s.size<=1000)(m:MaxL w)(T:Tab w) :
 ZH Tryz.prog 13 #[.string s] w fun r W=>∃ A b a G,r=.returned (.tuple #[.agg (x.1.vals A b),.agg (g.1.vals a G),.int .i64 0])/\IS W A x.2.1/\GS W b x.2.2/\IS W a g.2.1/\GS W G g.2.2/\Z4 w.heap.size w W:=by
 refine (LJ s w k m T).mono ?_
 rintro r W ⟨X,l,A,b,a,G,c,rfl,d,e,f,i,j,H⟩;rw[h] at H;rcases H with ⟨H,rfl⟩|⟨H,-⟩
 .cases Option.some.inj H
  exact⟨A,b,a,G,rfl,d,e,f,i,j⟩
 .cases H
theorem LN(e:En)(l:List Int)(L:List Gr)(A G a g:Value)(w:ZY)(h:IS w A l)(H:GS w G L)(b:IS w a l)(c:GS w g L) :
 ZH Tryz.prog 14 #[.agg (e.vals A G),.agg (e.vals a g)] w fun r W=>r=.returned (.bool ZX)/\Z4 w.heap.size w W:=by
 have:=lD e e A G a g l l L L w h b H c;rw[(dV e e l l L L).2 ⟨rfl,rfl,rfl⟩] at this;exact this
theorem Ls:co (Ds.bl s37)=some (cu,nR):=by unfold s37;rw[JU _ _ note37];exact KI _ _ note37
theorem Lp(w:ZY)(t:TypeId)(c d z y:Array Value)(h:c.size=33)(_:d.size=33)(a:z.size=33)(H:y.size=33):let W:=(((w.alloc (.cells z t)).alloc (.cells y t)).setRow w.heap.size c).setRow (w.heap.size+1) d
 Z4 w.heap.size w W/\row W w.heap.size=c/\row W (w.heap.size+1)=d:=by
 have k1:Held ((w.alloc (.cells z t)).alloc (.cells y t)) w.heap.size 33:=da _ _ _ _ (gQ _ _ _ a)
 have k:Held ((w.alloc (.cells z t)).alloc (.cells y t)) (w.heap.size+1) 33:=by
  have:=gQ (w.alloc (.cells z t)) y t H;rwa [show (w.alloc (.cells z t)).heap.size=w.heap.size+1 by simp] at this
 refine⟨below_setRow (below_setRow (by exact aB) (Nat.le_refl _) _) (by omega) _,?_,?_⟩
 .rw[cT _ _ _ _ (by omega),eT _ _ _ k1]
 .exact eT _ _ _ (k.set _ (fun _=>h))
attribute [local go_sem ↓] aZ bq fb cl Lc
attribute [local go_sem ↓ high] bf
attribute [local go_sem] bn aS aH bE bH aK aT ak aI aw az aM ah aQ aL aP aO aR aY aW bD cG eU eV fE
theorem aw37(w:ZY)(Y:MaxL w)(V:Tab w):ZH Tryz.prog 10 #[] w fun r j=>r=.returned (.bool ZX)/\Z4 w.heap.size w j:=by
 have m:=fun W (b:Z4 w.heap.size w W)=>LE cu nR note37 (.slice none 0 0) (.slice none 0 0) (.slice none 0 0) (.slice none 0 0) W (Y.below b) (V.below b) (Nat.le_of_ble_eq_true rfl) (Nat.le_of_ble_eq_true rfl) (IS.nil W) (GS.nil W) (IS.nil W) (GS.nil W)
 have T:cu.1.vals (.slice none 0 0) (.slice none 0 0)=lit37:=I7;have U:nR.1.vals (.slice none 0 0) (.slice none 0 0)=zlit 0 ⟨#[]⟩:=(eh 0 ⟨#[]⟩).symm;rw[T,U] at m;have z:=fun W (b:Z4 w.heap.size w W)=>JL s37 cu nR Ls W (Nat.le_trans (KG _ _ note37) (by decide)) (Y.below b) (V.below b)
 have q:=fun l e W (i:IS W l []) (g:GS W e [])=>LN e37 [] [] (.slice none 0 0) (.slice none 0 0) l e W (IS.nil W) (GS.nil W) i g
 rw[show e37.vals (.slice none 0 0) (.slice none 0 0)=lit37 from I7] at q;have hr:=fun t f=>ak w lit37 t f
 have H:lit37.size=33:=rfl;unfold lit37 zlit at m;change ∀ W,Z4 w.heap.size w W->ZH Tryz.prog 44 _ W (fun r j=>r=.returned (.tuple #[.string s37,.int .i64 0])/\Z4 W.heap.size W j) at m
 have C:=lh m;have y:=lh z;have H3:=lh q;clear m z q T U;generalize s37=sx at C y;go_enter Tryz.func10,Tryz.ntmps10
 go_upto_region 4 with (first
  | (go_at_call 44;(with_reducible refine (C.o _ (by exact aB)).mono ?_);rintro _ w1 ⟨rfl,h⟩;have R:row w1 w.heap.size=lit37:=am h (hr _ _) (by rw[H];decide);have P:=Below.trans (show Z4 w.heap.size w _ by exact aB) (h.mono (by simp));have z1:w.heap.size<w1.heap.size:=(by have:=h.size;simp at this;omega);clear h)
  | (go_at_call 13;(refine (y.o _ P).mono ?_);rintro _ n ⟨l,e,A,G,rfl,N,L,v,u,h⟩;have Q:row n w.heap.size=lit37:=am h R (by rw[H];decide);have B2:=bt P h;have Z:=ay cu.1 l e (aD N) (aE L);have O:=ay nR.1 A G (aD v) (aE u);have z2:w.heap.size<n.heap.size:=(by have:=h.size;omega);have HI:=lh N;have HG:=lh L;clear h N L v u))
 generalize X:World.setRow (World.setRow _ _ _) _ _=k;obtain⟨x,X5,-⟩:Z4 n.heap.size n k/\row k n.heap.size=cu.1.vals l e/\row k (n.heap.size+1)=nR.1.vals A G:=by rw[<-X];exact Lp n _ _ _ _ _ (ah _ _ _) (ah _ _ _) rfl rfl
 clear X;have S:=am x Q (by rw[H];decide);have B:=lh (bt B2 x);have HX:=lh (fun W (b:Z4 w.heap.size w W)=>(y.o W b).mono (R':=fun r j=>∃ l e A G,r=.returned (.tuple #[.agg (e37.vals l e),.agg (En.zero.vals A G),.int .i64 0])/\IS j l []/\GS j e []/\one A=ZX/\one G=ZX/\Z4 W.heap.size W j) fun r j ⟨a,b,c,d,m,z,q,h4,h5,h6⟩=>⟨a,b,c,d,m,z,q,aD h4,aE h5,h6⟩);have E:=lh (HI.o.below x);have D:=lh (HG.o.below x)
 have m0:∀ o:Obj,mid ((k.alloc (.cells lit37 29)).alloc o) k.heap.size 0=v37:=fun o=>by
  unfold mid;rw[aI,I7];rfl
 have HM:=lh m0;clear m0 hr C y R Q;unfold lit37 at S;unfold lit37 at H
 go_wp2_with first|go_at_call 15;(refine (Lf k.heap.size (k.heap.size+1) sx _ (by simp) (HM.o _) (aw _ _ _ _ _) (fun W b=>HX.o W (bt (bt B.o (below2' _ _ _)) b))).mono ?_);rintro _ w6 ⟨g,c,rfl,s,h⟩;have p:=lh (below2 h);have F:=s 0 _ rfl;have I:=s 1 _ rfl;have J:w6.cell? ⟨g,2,none⟩=some (.string ⟨#[86,50]⟩):=s 2 _ rfl;have K:=s 3 _ rfl;have R6:=am p.o S (by rw[H];decide);have X6:=am p.o X5 (by rw[ah];decide);clear s h|go_at_call 14;(refine (H3.o l e _ (E.o.below p.o) (D.o.below p.o)).mono ?_);rintro _ w7 ⟨rfl,h⟩;have F:=(h.cell (YF F)).trans F;have I:=(h.cell (YF I)).trans I;have J:=(h.cell (YF J)).trans J;have K:=(h.cell (YF K)).trans K;have B7:=lh (bt p.o h);clear h
 go_ret
 exact⟨rfl,bt B.o B7.o⟩
structure Two2 (w:ZY) (e f:En) (a1 a2 b1 b2:Option Addr) (n1 c1 n2 c2 m1 d1 m2 d2:Nat):Prop where
 s1:n1<=9223372036854775807
 s2:n2<=9223372036854775807
 s3:m1<=9223372036854775807
 s4:m2<=9223372036854775807
 i1:n1<=1000->∃ l:List Int,l.length=n1/\IS w (.slice a1 n1 c1) l
 g1:n2<=1000->∃ l:List Gr,l.length=n2/\GS w (.slice a2 n2 c2) l
 i2:m1<=1000->∃ l:List Int,l.length=m1/\IS w (.slice b1 m1 d1) l
 g2:m2<=1000->∃ l:List Gr,l.length=m2/\GS w (.slice b2 m2 d2) l
end
end Go.Proofs.YtnkjliahpeebjaaGreatDoor
