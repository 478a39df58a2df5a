/- Catalogs. -/
import Derived.Test.YtnkjliahpeebjaaGreatDoorShelf
import Derived.Test.YtnkjliahpeebjaaGreatDoorDs
import Derived.BigQuiet
import Derived.Test.YtnkjliahpeebjaaGreatDoorEn
import Derived.BigGuardPart
set_option maxRecDepth 8000
set_option maxHeartbeats 16000000
open Option renaming some->Z9,none->Z8
open Go.Proofs.Tryz renaming prog->Z6,underlying25->V5
open _root_ renaming List->Z5,decide_eq_true_eq->ZU,decide_eq_false_iff_not->Zz
open Go renaming Value->Z3,World->Z2,Calls->ZJ
open Nat renaming lt_of_lt_of_le->ZY,le_refl->ZS,le_trans->ZD
open List renaming getElem?_eq_getElem->ZN,take_of_length_le->ZC,take_succ_eq_append_getElem->ZB,getD_eq_getElem?_getD->Zx,eq_nil_of_length_eq_zero->Y3,take_length->XH
open Go.RowKit.Below renaming refl->ZM
open Go.Lib renaming toList_data->Xs
open Go.Program renaming fieldsOf->W4
namespace Go.Proofs.YtnkjliahpeebjaaGreatDoor
open Go.RowKit
variable(m s:Nat)(q:Operand->Z3)(g k:Option Addr)(e f:En){v:Z3}(p z:Nat){l:Z5 Int}(t A i j:Z3)(y r b n:Nat)(a c:Z5 Int)(h d:Z3)(x u:Bool)(w:Z2)
def IS(w:Z2)(v:Z3)(l:Z5 Int):Prop :=
 ∃ a c,v=.slice a l.length c/\l.length<=1000000/\(0<l.length->∃ b o,a=Z9 ⟨b,o,Z8⟩/\b<w.heap.size/\∀ k (h:k<l.length),w.cell? ⟨b,o+k,Z8⟩=Z9 (.int .i64 l[k]))
theorem IS.below{w W:Z2}(h:IS w v l)(B:Below w.heap.size w W):IS W v l:=by
 obtain⟨a,c,D,E,F⟩:=h;refine⟨a,c,D,E,fun C=>?_⟩
 obtain⟨b,o,ha,H,G⟩:=F C;exact⟨b,o,ha,ZY H B.size,fun k I=>(B.cell (p:=⟨b,o+k,Z8⟩) H).trans (G k I)⟩
theorem IS.nil:IS w (.slice Z8 0 0) []:=⟨Z8,0,rfl,by decide,fun h=>by simp at h⟩
theorem IS.drew{w:Z2}(h:IS w v l):IS w.drew v l:=h
theorem Cw(G:IS w t a)(I:IS w A c) :
 ZJ Z6 48 #[t,A] w fun e W=>e=.returned (.bool (decide (a=c)))/\Below w.heap.size w W:=by
 obtain⟨g,b,rfl,D,H⟩:=G;obtain⟨k,n,rfl,E,o⟩:=I;by_cases C:a.length=c.length
 .by_cases F:0<a.length
  .obtain⟨m,s,rfl,-,H⟩:=H F;obtain⟨p,r,rfl,-,o⟩:=o (by omega);refine (Tryz.slices_Equal_int m s a.length b p r c.length n a c w (ZS _) (ZS _) (ZD D (by decide)) (ZD E (by decide)) (fun j B=>?_) (fun j B=>?_)).mono ?_
   .rw[H j B];simp [Zx,ZN B]
   .rw[o j B];simp [Zx,ZN B]
   .rintro e W ⟨rfl,q,rfl⟩;exact⟨aF (by rw[XH,XH,Bool.eq_iff_iff,beq_iff_eq,ZU]),below_drewN (ZM _ _) q⟩
  .obtain rfl:a=[]:=Y3 (by omega);obtain rfl:c=[]:=Y3 (by simpa using C.symm);refine (Tryz.slices_Equal_int_empty g k b 0 n w (by decide)).mono ?_
   rintro e W ⟨rfl,rfl⟩;exact⟨rfl,ZM _ _⟩
 .refine (Tryz.slices_Equal_int_lens g k a.length b c.length n w C).mono ?_
  rintro e W ⟨rfl,rfl⟩;exact⟨aF (by rw[eq_comm,Zz];intro e;exact C (by rw[e])),ZM _ _⟩
abbrev Gr:=ByteArray × Bool × Int
def GS(w:Z2)(v:Z3)(l:Z5 Gr):Prop :=
 ∃ a c,v=.slice a l.length c/\l.length<=1000000/\(0<l.length->∃ b o,a=Z9 ⟨b,o,Z8⟩/\b<w.heap.size/\∀ k (h:k<l.length),w.cell? ⟨b,o+k*3,Z8⟩=Z9 (.string l[k].1)/\w.cell? ⟨b,o+k*3+1,Z8⟩=Z9 (.bool l[k].2.1)/\w.cell? ⟨b,o+k*3+2,Z8⟩=Z9 (.int .i64 l[k].2.2))
theorem GS.below{w W:Z2}{l:Z5 Gr}(h:GS w v l)(B:Below w.heap.size w W):GS W v l:=by
 obtain⟨a,c,F,G,I⟩:=h;refine⟨a,c,F,G,fun E=>?_⟩
 obtain⟨b,o,ha,H,C⟩:=I E;exact⟨b,o,ha,ZY H B.size,fun k D=>⟨(B.cell (p:=⟨b,o+k*3,Z8⟩) H).trans (C k D).1,(B.cell (p:=⟨b,o+k*3+1,Z8⟩) H).trans (C k D).2.1,(B.cell (p:=⟨b,o+k*3+2,Z8⟩) H).trans (C k D).2.2⟩⟩
theorem GS.nil:GS w (.slice Z8 0 0) []:=⟨Z8,0,rfl,by decide,fun h=>by simp at h⟩
theorem EN(H:z≠y) :
 ZJ Z6 49 #[.slice g z b,.slice k y n] w fun e W=>e=.returned (.bool false)/\w=W:=by
 have E:(z==y)=false:=by simpa using H
 have o:((z:Int)==(y:Int))=false:=by rw[beq_eq_false_iff_ne];omega
 clear H;go_enter Tryz.func49,Tryz.ntmps49
 go_wp2_with fail
 go_ret
 exact⟨rfl,rfl⟩
theorem Ct :
 ZJ Z6 49 #[.slice g 0 b,.slice k 0 n] w fun e W=>e=.returned (.bool true)/\w=W:=by
 go_enter Tryz.func49,Tryz.ntmps49
 go_wp2_with fail
 go_loop [5,13] (fun _ i=>i=.int .i64 0) (fun _ _=>0)
 case atStart=>exact rfl
 case round =>
  obtain rfl:=hrel;go_wp2_with fail
  go_ret
  exact⟨rfl,rfl⟩
theorem qw(a b:Gr)(w:Z2):(binOp .neq 103 (.agg #[.string a.1,.bool a.2.1,.int .i64 a.2.2]) (.agg #[.string b.1,.bool b.2.1,.int .i64 b.2.2])).run Z6 w=.ok (.bool (!decide (a=b))) w:=by
 obtain⟨g,k,B⟩:=a;obtain⟨m,p,C⟩:=b;rw[run_neq_struct,run_equalIn_struct w 9999 103 _ _ (by simp [W4,Tryz.underlying103]) (by kernel_rfl)];simp [W4,Tryz.underlying103,Op.eqFields,go_sem]
 have e:(g.toList=m.toList)=(g=m):=propext ⟨fun h=>by
  have H:=Xs g;have o:=Xs m;exact Ds.bl_inj (H.symm.trans (h.trans o)),fun h=>by rw[h]⟩
 by_cases H:g=m
 .subst H;by_cases o:k=p
  .by_cases D:B=C <;> simp [o,D]
  .simp [o]
 .rw[if_neg (fun h=>H (e ▸ h))];simp [H]
theorem EO(a c:Z5 Gr)(w:Z2)(C:a.length=c.length)(Q:a.length<=1000000)(F:∀ k (h:k<a.length),w.cell? ⟨m,s+k*3,Z8⟩=Z9 (.string a[k].1)/\w.cell? ⟨m,s+k*3+1,Z8⟩=Z9 (.bool a[k].2.1)/\w.cell? ⟨m,s+k*3+2,Z8⟩=Z9 (.int .i64 a[k].2.2))(G:∀ k (h:k<c.length),w.cell? ⟨p,r+k*3,Z8⟩=Z9 (.string c[k].1)/\w.cell? ⟨p,r+k*3+1,Z8⟩=Z9 (.bool c[k].2.1)/\w.cell? ⟨p,r+k*3+2,Z8⟩=Z9 (.int .i64 c[k].2.2)) :
 ZJ Z6 49 #[.slice (Z9 ⟨m,s,Z8⟩) a.length b,.slice (Z9 ⟨p,r,Z8⟩) c.length n] w fun e O=>e=.returned (.bool (decide (a=c)))/\Below w.heap.size w O:=by
 have K:=lh F;have L:=lh G;have N:=lh C;clear F G;rw[<-C];clear C;go_enter Tryz.func49,Tryz.ntmps49
 go_wp2_with fail
 go_loopw [5,13] (fun _ i wr=>∃ k:Nat,k<=a.length/\i=.int .i64 k/\a.take k=c.take k/\∃ q,wr=w.drewN q) (fun _ i _=>a.length - (intOf i).toNat)
 case atStart=>exact⟨0,Nat.zero_le _,rfl,rfl,0,rfl⟩
 case round =>
  obtain⟨k,P,rfl,I,q,rfl⟩:=hrel;have E:=lh I;clear I;by_cases H:k<a.length
  .obtain⟨R,S,T⟩:=K.o k H;obtain⟨U,V,X⟩:=L.o k (by rw[<-N.o];exact H);have J:=fun W=>qw a[k] c[k] W
   by_cases o:a[k]=c[k]
   .have D:=lh o;rw[decide_eq_true o] at J;clear o;go_wp2_with fail
    go_quiet (fail)
    go_wp2_with fail
    go_roundw
    case rel =>
     refine⟨k+1,by omega,by go_num,?_,_,rfl⟩
     have B:k<c.length:=by rw[<-N.o];exact H
     rw[ZB H,ZB B,E.o,D.o]
    case measure=>simp [intOf];omega
   .have D:=lh o;rw[decide_eq_false o] at J;clear o;go_wp2_with fail
    go_quiet (fail)
    go_wp2_with fail
    go_ret
    exact⟨aF (by
     symm
     rw[Zz];intro e;subst e;exact D.o rfl),below_drewN (below_drewN (ZM _ _) _) _⟩
  .go_wp2_with fail
   go_ret
   exact⟨aF (by
    symm
    rw[ZU];have:=E.o;rw[ZC (by omega),ZC (by rw[<-N.o];omega)] at this;exact this),below_drewN (ZM _ _) _⟩
theorem Cu(a c:Z5 Gr)(w:Z2)(E:GS w t a)(F:GS w A c) :
 ZJ Z6 49 #[t,A] w fun e W=>e=.returned (.bool (decide (a=c)))/\Below w.heap.size w W:=by
 obtain⟨g,b,rfl,C,H⟩:=E;obtain⟨k,n,rfl,G,o⟩:=F;by_cases B:a.length=c.length
 .by_cases D:0<a.length
  .obtain⟨m,s,rfl,-,H⟩:=H D;obtain⟨p,r,rfl,-,o⟩:=o (by omega);exact EO m s p r b n a c w B C H o
  .obtain rfl:a=[]:=Y3 (by omega);obtain rfl:c=[]:=Y3 (by simpa using B.symm);refine (Ct g k b n w).mono ?_
   rintro e W ⟨rfl,rfl⟩;exact⟨rfl,ZM _ _⟩
 .refine (EN g k a.length c.length b n w B).mono ?_
  rintro e W ⟨rfl,rfl⟩;exact⟨aF (by rw[eq_comm,Zz];intro e;exact B (by rw[e])),ZM _ _⟩
def lP:Z3->Bool|.pointer (some ⟨_,2,none⟩)=>true|_=>false
theorem fx(g:Nat):lP (.pointer (Z9 ⟨g,2,Z8⟩))=true:=rfl
theorem fe(dst x t pos af gd)(o:lP (q x)=true)(B:(row w (bF (q x))).size=33) :
 (execOp q ⟨dst,.load 25 x,t,pos,af,gd⟩).run Z6 w=.ok (.value (.agg ((row w (bF (q x))).extract 2 23))) w:=by
 obtain⟨g,C⟩:∃ g,q x=.pointer (Z9 ⟨g,2,Z8⟩):=by
  unfold lP at o;split at o
  .rename_i g h;exact⟨g,h⟩
  .cases o
 rw[C,aH] at B |-;simp only at B |-
 unfold execOp
 have D:w.rangeAt g 2 ((row w g).extract 2 23).toList:=fun j v H=>by
  rw[Array.getElem?_toList,Array.getElem?_extract] at H;split at H
  .exact ae rfl (2+j) v H
  .cases H
 have E:((row w g).extract 2 23).toList.length=21:=by simp [B]
 have F:=run_loadAt_mid (P:=Z6) w g 2 25 _ _ D V5 rfl (by rw[E];kernel_rfl);simp only[C,Sem.run_bind,F,Result.andThen_ok,Sem.run_pure,Array.toArray_toList]
theorem lM(a b:ByteArray):(a.toList=b.toList)↔(a=b):=⟨fun h=>by
 have H:=Xs a;have o:=Xs b;exact Ds.bl_inj (H.symm.trans (h.trans o)),fun h=>by rw[h]⟩
theorem GN(c:Prop)[Decidable c](b:Bool)(w:Z2):(if c then (Result.ok (Value.bool b) w:Result Z3) else .ok (.bool false) w)=.ok (.bool (decide c&&b)) w:=by by_cases h:c <;> simp [h]
theorem mI:(binOp .eql 25 (.agg e.dat) (.agg f.dat)).run Z6 w=.ok (.bool (gj e f)) w:=by
 rw[run_eql_struct,run_equalIn_struct w 9999 25 _ _ (by simp [W4,V5]) (by kernel_rfl)];unfold En.dat;simp [W4,V5,Op.eqFields,go_sem]
 simp only[GN]
 have H:∀ x y:Bool,x=y->(Result.ok (Value.bool x) w:Result Z3)=.ok (.bool y) w:=fun x y h=>by rw[h]
 apply H
 unfold gj;rw[Bool.eq_iff_iff];simp only[Bool.and_eq_true,ZU,beq_iff_eq,and_assoc,and_true]
section
attribute [local go_sem ↓ high] fe mI
attribute [local go_sem] fx aH ak aI aw az aM ah fp ap aq cf cM df dc ef bN cB dv cK cC
def dh(e f:En)(a c:Z5 Int)(G o:Z5 Gr):Bool :=
 (e.kind==f.kind)&&(e.name.toList==f.name.toList)&&gj e f&&decide (a=c)&&(e.used==f.used)&&(e.lim==f.lim)&&(e.last==f.last)&&(e.em==f.em)&&(e.owner.toList==f.owner.toList)&&(e.target.toList==f.target.toList)&&(e.cat==f.cat)&&(e.lev==f.lev)&&decide (G=o)
theorem zt(hi:∀ W,Below w.heap.size w W->ZJ Z6 48 #[i,h] W fun r C=>r=.returned (.bool x)/\Below W.heap.size W C)(hg:∀ W,Below w.heap.size w W->ZJ Z6 49 #[j,d] W fun r C=>r=.returned (.bool u)/\Below W.heap.size W C) :
 ZJ Z6 14 #[.agg (e.vals i j),.agg (f.vals h d)] w fun r C=>r=.returned (.bool ((e.kind==f.kind)&&(e.name.toList==f.name.toList)&&gj e f&&x&&(e.used==f.used)&&(e.lim==f.lim)&&(e.last==f.last)&&(e.em==f.em)&&(e.owner.toList==f.owner.toList)&&(e.target.toList==f.target.toList)&&(e.cat==f.cat)&&(e.lev==f.lev)&&u))/\Below w.heap.size w C:=by
 obtain⟨I,S⟩:∃ t,(e.kind==f.kind)=t:=⟨_,rfl⟩;obtain⟨J,U⟩:∃ t,(e.name.toList==f.name.toList)=t:=⟨_,rfl⟩;obtain⟨K,V⟩:∃ t,gj e f=t:=⟨_,rfl⟩;obtain⟨L,X⟩:∃ t,(e.used==f.used)=t:=⟨_,rfl⟩;obtain⟨N,Y⟩:∃ t,(e.lim==f.lim)=t:=⟨_,rfl⟩;obtain⟨O,Z⟩:∃ t,(e.last==f.last)=t:=⟨_,rfl⟩;obtain⟨P,E7⟩:∃ t,(e.em==f.em)=t:=⟨_,rfl⟩;obtain⟨Q,E8⟩:∃ t,(e.owner.toList==f.owner.toList)=t:=⟨_,rfl⟩;obtain⟨R,E9⟩:∃ t,(e.target.toList==f.target.toList)=t:=⟨_,rfl⟩;obtain⟨T,E⟩:∃ t,(e.cat==f.cat)=t:=⟨_,rfl⟩;obtain⟨o,D⟩:∃ t,(e.lev==f.lev)=t:=⟨_,rfl⟩;rw[S,U,V,X,Y,Z,E7,E8,E9,E,D];obtain⟨q,F⟩:∃ q,(I&&J&&K&&x&&L&&N&&O&&P&&Q&&R&&T&&o&&u)=q:=⟨_,rfl⟩;rw[F];have HQ:=lh F;clear F;have B:=ZM w.heap.size w;cases I;rotate_left;cases J;rotate_left;cases K;rotate_left;cases x;rotate_left;cases L;rotate_left;cases N;rotate_left;cases O;rotate_left;cases P;rotate_left;cases Q;rotate_left;cases R;rotate_left;cases T;rotate_left;cases o;rotate_left;cases u
 all_goals
  go_enter Tryz.func14,Tryz.ntmps14
  simp only[List.append_eq,List.cons_append,List.nil_append]
  go_wp2_with (first|(go_at_call 48;(with_reducible refine (hi _ (by exact aB)).mono ?_);rintro _ w1 ⟨rfl,G⟩;obtain⟨a0,a1⟩:=bcell G;have B:=Below.trans (show Below w.heap.size w _ by exact aB) (G.mono (by simp;omega)))|(go_at_call 49;(with_reducible refine (hg _ B).mono ?_);rintro _ w2 ⟨rfl,H⟩;have B:=bt B H))
  go_ret
  exact⟨by rw[<-HQ.o];rfl,by first|exact B|exact aB⟩
theorem lD(a c:Z5 Int)(G o:Z5 Gr)(w:Z2)(H:IS w i a)(B:IS w h c)(C:GS w j G)(D:GS w d o) :
 ZJ Z6 14 #[.agg (e.vals i j),.agg (f.vals h d)] w fun r E=>r=.returned (.bool (dh e f a c G o))/\Below w.heap.size w E :=
 zt e f i j h d _ _ w (fun W b=>Cw i h a c W (H.below b) (B.below b)) (fun W b=>Cu j d G o W (C.below b) (D.below b))
end
end Go.Proofs.YtnkjliahpeebjaaGreatDoor
