/- Catalogs. -/
import Derived.Test.YtnkjliahpeebjaaGreatDoorDsH
set_option maxHeartbeats 400000
open Option renaming some->Z9,none->Z7
open Go.Proofs.Tryz renaming prog->Z8
open _root_ renaming ByteArray->Z6,List->Z1,decide_eq_true_eq->ZU,if_pos->ZP,UInt8->ZM,decide_eq_true->ZI,decide_eq_false->ZG,decide_eq_false_iff_not->ZF
open Go.Proofs.YtnkjliahpeebjaaGreatDoor.Ds renaming bl->Z5,bl_length->ZZ,name->YP,rest->XQ,num->XO,pieces->Xw,rest_next->WU,group->WM,rest_end->WB,first->Vv
open Go.RowKit renaming Below->Z4,intOf->Zq
open Go renaming World->ZY,Calls->ZH
open Bool renaming true->ZX,false->ZW
open Nat renaming le_refl->ZV,le_trans->ZC
open List renaming take_succ_eq_append_getElem->ZK,take_of_length_le->Zv,mem_cons->YX,range->YK,take_zero->VI
open Go.Value renaming string->Y1
open Go.Lib renaming join->XS
section
namespace Go.Proofs.YtnkjliahpeebjaaGreatDoor
open Go.RowKit
variable(t:Bool)(s:Z6)(l:Z1 ZM)(k j:Nat)(c p:ZM)(w:ZY)
theorem kV :
 ZH Z8 310 #[.int .u8 c.toNat] w fun e W=>e=.returned (.bool (Ds.up c))/\w=W:=by
 go_enter Tryz.func310,Tryz.ntmps310
 go_wp2
 all_goals (go_ret;exact⟨aF (by rw[Bool.eq_iff_iff];simp [Ds.up];omega),rfl⟩)
namespace Ds
theorem bl_getD(h:k<s.size):(bl s).getD k 0=s[k]:=by
 rw[List.getD_eq_getElem?_getD,List.getElem?_eq_getElem (by rw[bl_length];exact h),bl_get s k h];rfl
theorem partR_len(h:l.length<1\/8<l.length):partR t l=ZW:=by
 unfold partR;rcases h with h|h
 .rw[ZG (by omega)];simp
 .rw[ZG (p:=l.length<=8) (by omega)];simp
theorem partR_head(h:dg (l.getD 0 0)=ZX):partR t l=ZW:=by
 unfold partR;rw[h];simp
theorem partR_rest(H:1<=l.length)(i:l.length<=8)(h:dg (l.getD 0 0)=ZW):partR t l=rest (okAt t l) (YK l.length) 0:=by
 unfold partR;rw[h,ZI H,ZI i];rfl
theorem oM(h:l.getD j 0=c)(H:l.getD (j - 1) 0=p):okAt t l j=((up c || dg c || (t&&decide (c.toNat=42)))&&!(t&&decide (c.toNat=42)&&decide (0<j)&&decide (p.toNat=42))):=by
 unfold okAt;rw[h,H]
theorem okAt_no(h:l.getD j 0=c):okAt ZW l j=(up c || dg c):=by
 rw[oM ZW l j c _ h rfl];simp
theorem okAt_pl(H:l.getD j 0=c)(h:c.toNat≠42):okAt t l j=(up c || dg c):=by
 rw[oM t l j c _ H rfl,ZG h];simp
theorem okAt_star(H:l.getD j 0=c)(i:l.getD (j - 1) 0=p)(h:c.toNat=42):okAt ZX l j=!(decide (0<j)&&decide (p.toNat=42)):=by
 rw[oM ZX l j c p H i,ZI h];simp
end Ds
theorem ya(J:1<=s.size)(O:s.size<=8)(G:Ds.dg (s[0]'J)=ZW)(v:Hid (t=ZX->(s.toList==[42,42])=ZW)) :
 ZH Z8 278 #[.string s,.bool t] w fun e W=>e=.returned (.bool (XQ (Ds.okAt t (Z5 s)) (YK (Z5 s).length) 0))/\w=W:=by
 have C:(decide ((s.size:Int)<1))=ZW:=by rw[ZF];omega
 have F:(decide (8<(s.size:Int)))=ZW:=by rw[ZF];omega
 have L:=lh (ZZ s);have D:=lh (rfl:XQ (Ds.okAt t (Z5 s)) (YK (Z5 s).length) 0=XQ (Ds.okAt t (Z5 s)) (YK (Z5 s).length) 0);cases t
 .go_enter Tryz.func278,Tryz.ntmps278
  go_wp2_with (go_at_call 285;(with_reducible refine (gZ _ _).mono ?_);rintro e W ⟨rfl,rfl⟩)
  clear C F v G;go_loopw [5,6] (fun i _ wr=>∃ k:Nat,k<=s.size/\i=.int .i64 k/\XQ (Ds.okAt ZW (Z5 s)) (YK (Z5 s).length) 0=XQ (Ds.okAt ZW (Z5 s)) (YK (Z5 s).length) k/\w=wr) (fun i _ _=>s.size - (Zq i).toNat)
  case atStart=>exact⟨0,by omega,rfl,rfl,rfl⟩
  case round =>
   obtain⟨k,N,rfl,z,rfl⟩:=hrel;have Q:=lh z;clear z;by_cases o:k<s.size
   .have u:=WU (Ds.okAt ZW (Z5 s)) (YK (Z5 s).length) k (by rw[List.length_range,L.o];exact o);rw[List.getElem_range,Ds.okAt_no _ _ _ (Ds.bl_getD s k o)] at u;cases U:Ds.up s[k] <;> cases A:Ds.dg s[k]
    all_goals
     rw[U,A] at u;have R:=lh (Q.o.trans u);clear u;go_wp2_with (first|(go_at_call 285;(with_reducible refine (gZ _ _).mono ?_);rintro e W ⟨rfl,rfl⟩)|(go_at_call 310;(with_reducible refine (kV _ _).mono ?_);rintro e W ⟨rfl,rfl⟩))
     first
     | (go_ret
        exact⟨aF R.o.symm,rfl⟩)
     | (go_roundw
        case rel=>exact⟨k+1,by omega,by go_num,R.o,trivial⟩
        case measure=>simp [Zq];omega)
   .have u:=Q.o.trans (WB (Ds.okAt ZW (Z5 s)) (YK (Z5 s).length) k (by rw[List.length_range,L.o];omega));have R:=lh u;clear u;obtain rfl:k=s.size:=by omega
    go_wp2_with fail
    go_ret
    exact⟨aF R.o.symm,rfl⟩
 .have x:=v.o rfl;go_enter Tryz.func278,Tryz.ntmps278
  go_wp2_with (go_at_call 285;(with_reducible refine (gZ _ _).mono ?_);rintro e W ⟨rfl,rfl⟩)
  clear C F v x G;go_loopw [5,6] (fun i _ wr=>∃ k:Nat,k<=s.size/\i=.int .i64 k/\XQ (Ds.okAt ZX (Z5 s)) (YK (Z5 s).length) 0=XQ (Ds.okAt ZX (Z5 s)) (YK (Z5 s).length) k/\w=wr) (fun i _ _=>s.size - (Zq i).toNat)
  case atStart=>exact⟨0,by omega,rfl,rfl,rfl⟩
  case round =>
   obtain⟨k,N,rfl,z,rfl⟩:=hrel;have Q:=lh z;clear z;by_cases o:k<s.size
   .have u:=WU (Ds.okAt ZX (Z5 s)) (YK (Z5 s).length) k (by rw[List.length_range,L.o];exact o);rw[List.getElem_range] at u;have R:=lh (Q.o.trans u);clear u;by_cases h:s[k].toNat=42
    .have E:((s[k].toNat:Int)==42)=ZX:=by simp [h]
     have U:Ds.up s[k]=ZW:=by simp [Ds.up,h]
     have A:Ds.dg s[k]=ZW:=by simp [Ds.dg,h]
     rcases k with _|j
     .have H:=Ds.okAt_star (Z5 s) 0 _ _ (Ds.bl_getD s 0 o) rfl h;have K:=lh H;clear H h;go_wp2_with (first|(go_at_call 285;(with_reducible refine (gZ _ _).mono ?_);rintro e W ⟨rfl,rfl⟩)|(go_at_call 310;(with_reducible refine (kV _ _).mono ?_);rintro e W ⟨rfl,rfl⟩))
      go_roundw
      case rel=>exact⟨1,by omega,by go_num,by rw[R.o,K.o];simp,trivial⟩
      case measure=>simp [Zq];omega
     .have H:=Ds.okAt_star (Z5 s) (j+1) _ _ (Ds.bl_getD s (j+1) o) (Ds.bl_getD s j (by omega)) h;have S:j<s.size:=by omega
      have K:=lh H;clear H h;by_cases y:s[j].toNat=42
      .have I:((s[j].toNat:Int)==42)=ZX:=by simp [y]
       have P:=lh y;clear y;go_wp2_with (first|(go_at_call 285;(with_reducible refine (gZ _ _).mono ?_);rintro e W ⟨rfl,rfl⟩)|(go_at_call 310;(with_reducible refine (kV _ _).mono ?_);rintro e W ⟨rfl,rfl⟩))
       go_ret
       exact⟨aF (by rw[R.o,K.o,P.o];simp),rfl⟩
      .have I:((s[j].toNat:Int)==42)=ZW:=by simp;omega
       have P:=lh (ZG y);clear y;go_wp2_with (first|(go_at_call 285;(with_reducible refine (gZ _ _).mono ?_);rintro e W ⟨rfl,rfl⟩)|(go_at_call 310;(with_reducible refine (kV _ _).mono ?_);rintro e W ⟨rfl,rfl⟩))
       go_roundw
       case rel=>exact⟨j+1+1,by omega,by go_num,by rw[R.o,K.o,P.o];simp,trivial⟩
       case measure=>simp [Zq];omega
    .have E:((s[k].toNat:Int)==42)=ZW:=by simp;omega
     have H:=Ds.okAt_pl ZX (Z5 s) k _ (Ds.bl_getD s k o) h;have K:=lh H;clear H h;cases U:Ds.up s[k] <;> cases A:Ds.dg s[k]
     all_goals
      have V:=lh (show Ds.okAt ZX (Z5 s) k=_ by rw[K.o,U,A]);go_wp2_with (first|(go_at_call 285;(with_reducible refine (gZ _ _).mono ?_);rintro e W ⟨rfl,rfl⟩)|(go_at_call 310;(with_reducible refine (kV _ _).mono ?_);rintro e W ⟨rfl,rfl⟩))
      first
      | (go_ret
         exact⟨aF (by rw[R.o,V.o];simp),rfl⟩)
      | (go_roundw
         case rel=>exact⟨k+1,by omega,by go_num,by rw[R.o,V.o];simp,trivial⟩
         case measure=>simp [Zq];omega)
   .have u:=Q.o.trans (WB (Ds.okAt ZX (Z5 s)) (YK (Z5 s).length) k (by rw[List.length_range,L.o];omega));have R:=lh u;clear u;obtain rfl:k=s.size:=by omega
    go_wp2_with fail
    go_ret
    exact⟨aF R.o.symm,rfl⟩
theorem uj :
 ZH Z8 278 #[.string s,.bool t] w fun e W=>e=.returned (.bool (Ds.partE t (Z5 s)))/\w=W:=by
 have v:=ZZ s;by_cases H:t=ZX/\s=⟨#[42,42]⟩
 .obtain⟨rfl,rfl⟩:=H;have D:=lh (show Ds.partE ZX (Z5 ⟨#[42,42]⟩)=ZX by decide);clear v;go_enter Tryz.func278,Tryz.ntmps278
  go_wp2_with fail
  go_ret
  exact⟨aF D.o.symm,rfl⟩
 have i:Hid (t=ZX->(s.toList==[42,42])=ZW):=lh fun h=>Ds.bl_beq s [42,42] fun e=>H ⟨h,e⟩
 have u:Ds.partE t (Z5 s)=Ds.partR t (Z5 s):=by
  unfold Ds.partE;cases t
  .rfl
  .rw[ZG (fun h=>H ⟨rfl,(Ds.bl_eq s [42,42]).2 h⟩)];rfl
 by_cases x:s.size<1
 .have D:=lh (u.trans (Ds.partR_len t _ (by omega)));have E:(decide ((s.size:Int)<1))=ZX:=by rw[ZU];omega
  clear v x H u;cases t
  all_goals
   first|(have o:=i.o rfl)|skip
   go_enter Tryz.func278,Tryz.ntmps278
   go_wp2_with fail
   go_ret
   exact⟨aF D.o.symm,rfl⟩
 by_cases C:8<s.size
 .have D:=lh (u.trans (Ds.partR_len t _ (by omega)));have E:(decide ((s.size:Int)<1))=ZW:=by rw[ZF];omega
  have A:(decide (8<(s.size:Int)))=ZX:=by rw[ZU];omega
  clear v x H u;cases t
  all_goals
   first|(have o:=i.o rfl)|skip
   go_enter Tryz.func278,Tryz.ntmps278
   go_wp2_with fail
   go_ret
   exact⟨aF D.o.symm,rfl⟩
 have z:0<s.size:=by omega
 cases y:Ds.dg s[0]
 .have h:=ya t s w z (by omega) y i;rw[u,Ds.partR_rest t _ (by omega) (by omega) (by rw[Ds.bl_getD s 0 z];exact y)];exact h
 .have D:=lh (u.trans (Ds.partR_head t _ (by rw[Ds.bl_getD s 0 z];exact y)));have E:(decide ((s.size:Int)<1))=ZW:=by rw[ZF];omega
  have A:(decide (8<(s.size:Int)))=ZW:=by rw[ZF];omega
  clear v x H C u;cases t
  all_goals
   first|(have o:=i.o rfl)|skip
   go_enter Tryz.func278,Tryz.ntmps278
   go_wp2_with (go_at_call 285;(with_reducible refine (gZ _ _).mono ?_);rintro e W ⟨rfl,rfl⟩)
   go_ret
   exact⟨aF D.o.symm,rfl⟩
end Go.Proofs.YtnkjliahpeebjaaGreatDoor
end
section
namespace Go.Proofs.YtnkjliahpeebjaaGreatDoor
open Go.RowKit
variable{w:ZY}(a s b:Z6){k e g B m n:Nat}{f d:Z1 Z6}{q r:Z6}
namespace Ds
theorem rW(l:Z1 ZM):(pieces l).length<=l.length+1/\∀ q∈pieces l,q.length<=l.length:=by
 induction l with
 | nil=>simp [pieces]
 | cons c r i =>
   simp only[pieces]
   split
   .refine⟨by simp;omega,fun q H=>?_⟩
    rcases YX.1 H with rfl|h
    .simp
    .have:=i.2 q h;simp;omega
   .cases e:pieces r with
    | nil=>exact absurd e (bd r)
    | cons p f =>
      rw[e] at i;refine⟨by have:=i.1;simp at this |-;omega,fun q H=>?_⟩
      rcases YX.1 H with rfl|h
      .have:=i.2 p (by simp);simp;omega
      .have:=i.2 q (by simp [h]);simp;omega
theorem bl_append:bl (a++b)=bl a++bl b:=by simp [bl]
theorem FE(k:Nat)(h:k<s.size):bl (s.extract k (k+1))=[s[k]]:=by
 unfold bl;rw[Lib.extract_data,show k+1 - k=1 from by omega];rw[show s.data.toList=bl s from rfl];rw[List.drop_eq_getElem_cons (by rw[bl_length];exact h),List.take_succ_cons,VI,bl_get s k h]
theorem sO(k:Nat)(h:k<s.size):(bl s).take (k+1)=(bl s).take k++[s[k]]:=by
 rw[ZK (by rw[bl_length];exact h),bl_get s k h]
def Got(s:Z6)(k:Nat)(d:Z1 Z6)(q:Z6):Prop:=d.map bl++[bl q]=pieces ((bl s).take k)
theorem Got.start:Got s 0 [] ⟨#[]⟩:=by unfold Got;rfl
theorem Got.dot{s:Z6}(h:Got s k d q)(i:k<s.size)(H:s[k]=46):Got s (k+1) (d++[q]) ⟨#[]⟩:=by
 unfold Got at *;rw[sO s k i,ry,ZP H,<-h];simp [bl]
theorem Got.more{s:Z6}(h:Got s k d q)(H:k<s.size)(i:s[k]≠46):Got s (k+1) d (q++s.extract k (k+1)):=by
 unfold Got at *;rw[sO s k H,ry,if_neg i,<-h,bl_append,FE s k H];simp
theorem Got.le{s:Z6}(h:Got s k d q)(o:k<=s.size):d.length<=k/\q.size<=k:=by
 unfold Got at h;have H:=rW ((bl s).take k);have i:((bl s).take k).length=k:=by rw[List.length_take,bl_length];omega
 rw[<-h,i] at H;refine⟨by have:=H.1;simp at this;omega,?_⟩
 have:=H.2 (bl q) (by simp);rwa [bl_length] at this
theorem Got.all{s:Z6}(h:Got s s.size d q):(d++[q]).map bl=pieces (bl s):=by
 unfold Got at h;rw[Zv (by rw[bl_length];exact ZV _)] at h;simpa using h
end Ds
theorem FP:(Tryz.prog.info? 9).map (fun i=>(i.zero,i.size,i.bytes))=Z9 (Z9 (.string ⟨#[]⟩),1,16):=by kernel_rfl
theorem AS(h:w.ownsRow B 9 1 (.slice (Z9 ⟨g,0,Z7⟩) (d.length+1) m) (d.length+1) ((d++[q]).map Y1)):w.cell? ⟨g,d.length,Z7⟩=Z9 (.string q):=by
 rw[h.cellAt _ (by omega)];simp
theorem AU(h:w.ownsRow B 9 1 (.slice (Z9 ⟨g,0,Z7⟩) (d.length+1) m) (d.length+1) ((d++[q]).map Y1)) :
 (w.setCell ⟨g,d.length,Z7⟩ (.string r)).ownsRow B 9 1 (.slice (Z9 ⟨g,0,Z7⟩) (d.length+1) m) (d.length+1) ((d++[r]).map Y1):=by
 have:=(h.stored d.length (.string r)).1;simpa [List.set_append] using this
theorem rS{v:Value}{x:Z1 Value}(h:w.ownsRow B e 1 v (n+1) x):∃ g m,v=.slice (Z9 ⟨g,0,Z7⟩) (n+1) m/\B<=g/\g<w.heap.size/\n+1<=m:=by
 rcases h.2 with ⟨_,u⟩|⟨g,m,C,rfl,H,o,i,_⟩
 .omega
 .exact⟨g,m,rfl,H,(Array.getElem?_eq_some_iff.1 o).1,i⟩
theorem AV(h:w.ownsRow B 9 1 (.slice (Z9 ⟨g,0,Z7⟩) f.length m) f.length (f.map Y1)):Strs w g f:=fun k H=>by
 rw[h.cellAt k (by omega)];simp [H]
theorem js(w:ZY)(hs:s.size<=1000) :
 ZH Z8 149 #[.string s] w fun e W=>∃ (d:Z1 Z6) (q:Z6) (g m:Nat),(d++[q]).map Z5=Xw (Z5 s)/\d.length<=s.size/\w.heap.size<=g/\g<W.heap.size/\e=.returned (.slice (Z9 ⟨g,0,Z7⟩) (d.length+1) m)/\Strs W g (d++[q])/\(∀ o,W.frozen? ⟨g,o,Z7⟩=ZW)/\d.length+1<=m/\Z4 w.heap.size w W:=by
 obtain⟨i0,X,G,I,J⟩:=info_parts FP;have HI:=lh X;have P:=lh G;have Q:=lh I;have R:=lh J;clear X G I J;go_enter Tryz.func149,Tryz.ntmps149
 go_wp2_with fail
 go_loopw [3,4] (fun v i wr=>∃ (k:Nat) (d:Z1 Z6) (q:Z6) (g m:Nat),k<=s.size/\i=.int .i64 k/\Ds.Got s k d q/\v=.slice (Z9 ⟨g,0,Z7⟩) (d.length+1) m/\wr.ownsRow w.heap.size 9 1 (.slice (Z9 ⟨g,0,Z7⟩) (d.length+1) m) (d.length+1) ((d++[q]).map Y1)/\Z4 w.heap.size w wr) (fun _ i _=>s.size - (Zq i).toNat)
 case atStart=>exact⟨0,[],⟨#[]⟩,w.heap.size,1,by omega,rfl,Ds.Got.start s,rfl,World.ownsRow_lit w #[.string ⟨#[]⟩] 1 (ZV _) (by unfold maxLen;omega) rfl,by (repeat (first|exact Below.refl _ _|assumption|(refine Below.drew ?_)|(refine Below.alloc ?_ (by simp) _)|(refine Below.setCell ?_ (by simp) _)))⟩
 case round =>
  obtain⟨k,d,q,g,m,hk,rfl,S,rfl,H,B⟩:=hrel;obtain⟨T,a3⟩:=S.le hk;have N:=lh S;clear S;by_cases F:k<s.size
  .by_cases D:s[k]=46
   .have ec:((s[k].toNat:Int)==46)=ZX:=by simp [D]
    have L:=lh D;clear D;go_wp2_with (at_builtin;refine wpList_append_own _ rfl _ _ 165 rfl w.heap.size 9 i0 (.string ⟨#[]⟩) 1 16 Tryz.underlying165 HI.o P.o Q.o R.o rfl (by decide) _ _ _ rfl (H.alloc _) ⟨wr.heap.size,0,Z7⟩ 1 1 [.string ⟨#[]⟩] rfl rfl ?c1 ?c2 ?c3 ?c4 ?c5 ?_)
    case c1 =>
     intro j u E
     match j,E with
     | 0,E=>simp at E;subst E;simp [Addr.add]
    case c2=>intro u Y;simp at Y;subst Y;rfl
    case c3=>unfold maxLen;omega
    case c4=>omega
    case c5=>have:=B.size;simp;omega
    intro v' w1 z y _;have x:w1.ownsRow w.heap.size 9 1 v' ((d++[q]).length+1) (((d++[q])++[(⟨#[]⟩:Z6)]).map Y1):=by simpa using z
    obtain⟨V,C,rfl,a0,a1,a2⟩:=rS x;have U:=(B.alloc B.size (Obj.cells #[Y1 ⟨#[]⟩] 9 (0,0))).grown y (by have:=B.size;simp;omega) (by intro j E;simp [Value.ownBlock] at E;subst E;exact (H.lt g rfl).1);have O:=lh x;have K:=lh U;have A:(d++[q]).length=d.length+1:=by simp
    have HL:=lh A;clear H z x y B U A;go_wp2_with fail
    go_roundw
    case rel=>exact⟨k+1,d++[q],⟨#[]⟩,V,C,by omega,by go_num,N.o.dot F L.o,rfl,O.o,K.o⟩
    case measure=>simp [Zq];omega
   .have ec:((s[k].toNat:Int)==46)=ZW:=by simp;intro h;exact D (UInt8.toNat_inj.1 (by rw[show (46:ZM).toNat=46 from rfl];omega))
    have L:=lh D;clear D;have c1:=AS H;have Z:=fun o=>H.frozenAt o
    go_wp2_with fail
    go_region
    have hg:=(H.lt g rfl).1;have O:=lh (AU (r:=q++s.extract k (k+1)) H).drew;have K:=lh (B.setCell (p:=⟨g,d.length,Z7⟩) hg (.string (q++s.extract k (k+1)))).drew;clear H B c1 Z;go_wp2_with fail
    go_roundw
    case rel=>exact⟨k+1,d,q++s.extract k (k+1),g,m,by omega,by go_num,N.o.more F L.o,rfl,O.o,K.o⟩
    case measure=>simp [Zq];omega
  .obtain rfl:k=s.size:=by omega
   go_wp2_with fail
   go_ret
   obtain⟨V,C,e,_,_,D⟩:=rS H;simp only[Value.slice.injEq,true_and] at e
   exact⟨d,q,g,m,N.o.all,T,(H.lt g rfl).1,(H.lt g rfl).2,rfl,AV (by simpa using H),fun o=>H.frozenAt o,by omega,B⟩
end Go.Proofs.YtnkjliahpeebjaaGreatDoor
end
section
namespace Go.Proofs.YtnkjliahpeebjaaGreatDoor
open Go.RowKit
variable(t:Bool)(s:Z6)(f:Z1 Z6)(k c:Nat)(w:ZY)
theorem Strs.drewN{w:ZY}{b:Nat}{f:Z1 Z6}(h:Strs w b f)(n:Nat):Strs (w.drewN n) b f:=h
namespace Ds
theorem validE_len(s:Z1 ZM)(h:s.length<1\/31<s.length):validE t s=ZW:=by
 unfold validE;rcases h with h|h
 .rw[ZG (by omega)];simp
 .rw[ZG (p:=s.length<=31) (by omega)];simp
theorem validE_rest(s:Z1 ZM)(H:1<=s.length)(i:s.length<=31)(f:Z1 Z6)(h:f.map bl=pieces s):validE t s=rest (fun q=>partE t (bl q)) f 0:=by
 unfold validE;rw[ZI H,ZI i,<-h,List.all_map];rfl
theorem jn_next(h:k<f.length)(H:0<k):XS ((f.map bl).take (k+1)) [46]=XS ((f.map bl).take k) [46]++[46]++bl f[k]:=by
 rw[ZK (by simpa using h),An _ _ (by
  intro e;rw[List.take_eq_nil_iff] at e;rcases e with e|e
  .omega
  .rw[List.map_eq_nil_iff] at e;subst e;simp at h)]
 simp
theorem jn_first(h:0<f.length):XS ((f.map bl).take 1) [46]=bl f[0]:=by
 rw[ZK (by simpa using h),VI,List.nil_append,Lib.join_one];simp
theorem piece_len{f:Z1 Z6}{s:Z1 ZM}(h:f.map bl=pieces s)(k:Nat)(H:k<f.length):(f[k]).size<=s.length:=by
 have:=(rW s).2 (bl f[k]) (by rw[<-h];exact List.mem_map_of_mem (List.getElem_mem H));rwa [bl_length] at this
end Ds
theorem sK :
 ZH Z8 217 #[.string s,.bool t] w fun e W=>e=.returned (.bool (Ds.validE t (Z5 s)))/\Z4 w.heap.size w W:=by
 have v:=ZZ s;by_cases u:s.size<1
 .have D:=lh (Ds.validE_len t (Z5 s) (by omega));have E:(decide ((s.size:Int)<1))=ZX:=by rw[ZU];omega
  clear v u;go_enter Tryz.func217,Tryz.ntmps217
  go_wp2_with fail
  go_ret
  exact⟨aF D.o.symm,Below.refl _ _⟩
 by_cases I:31<s.size
 .have D:=lh (Ds.validE_len t (Z5 s) (by omega));have E:(decide ((s.size:Int)<1))=ZW:=by rw[ZF];omega
  have y:(decide (31<(s.size:Int)))=ZX:=by rw[ZU];omega
  clear v u;go_enter Tryz.func217,Tryz.ntmps217
  go_wp2_with fail
  go_ret
  exact⟨aF D.o.symm,Below.refl _ _⟩
 have E:(decide ((s.size:Int)<1))=ZW:=by rw[ZF];omega
 have y:(decide (31<(s.size:Int)))=ZW:=by rw[ZF];omega
 have T:s.size<=1000:=by omega
 have D:=lh (fun f h=>Ds.validE_rest t (Z5 s) (by omega) (by omega) f h);clear v u I;go_enter Tryz.func217,Tryz.ntmps217
 go_wp2_with (go_at_call 149;(with_reducible refine (js _ _ T).mono ?_);rintro e U ⟨d,q,g,m,A,O,K,L,rfl,S,F,z,B⟩;have P:=lh (D.o _ A);clear A D F E y)
 go_loopw [6] (fun i wr=>∃ k:Nat,k<=d.length+1/\i=.int .i64 k/\Ds.validE t (Z5 s)=XQ (fun q=>Ds.partE t (Z5 q)) (d++[q]) k/\U=wr) (fun i _=>d.length+1 - (Zq i).toNat)
 case atStart=>exact⟨0,by omega,rfl,P.o,rfl⟩
 case round =>
  obtain⟨k,V,rfl,C,rfl⟩:=hrel;have Q:=lh C;clear C;by_cases N:k<d.length+1
  .have H:k<(d++[q]).length:=by simp;omega
   have o:=WU (fun q=>Ds.partE t (Z5 q)) (d++[q]) k H;have J:=S k H;generalize (d++[q])[k]=x at o J;cases G:Ds.partE t (Z5 x)
   .rw[G] at o;have R:=lh (Q.o.trans o);clear o H;go_wp2_with (go_at_call 278;(with_reducible refine (uj _ _ _).mono ?_);rintro e W ⟨rfl,rfl⟩)
    go_ret
    exact⟨aF R.o.symm,B⟩
   .rw[G] at o;have R:=lh (Q.o.trans o);clear o H;go_wp2_with (go_at_call 278;(with_reducible refine (uj _ _ _).mono ?_);rintro e W ⟨rfl,rfl⟩)
    go_roundw
    case rel=>exact⟨k+1,by omega,by go_num,R.o,trivial⟩
    case measure=>simp [Zq];omega
  .have o:=Q.o.trans (WB (fun q=>Ds.partE t (Z5 q)) (d++[q]) k (by simp;omega));have R:=lh o;clear o;obtain rfl:k=d.length+1:=by omega
   go_wp2_with fail
   go_ret
   exact⟨aF R.o.symm,B⟩
theorem dt :
 ZH Z8 130 #[.string s] w fun e W=>e=.returned (.bool (YP (Z5 s)))/\Z4 w.heap.size w W:=by
 go_enter Tryz.func130,Tryz.ntmps130
 go_wp2_with (go_at_call 217;(with_reducible refine (sK _ _ _).mono ?_);rintro e i ⟨rfl,h⟩)
 go_ret
 exact⟨aF (Ds.validE_name _),h⟩
theorem mP :
 ZH Z8 150 #[.string s] w fun e W=>e=.returned (.bool (Ds.pat (Z5 s)))/\Z4 w.heap.size w W:=by
 go_enter Tryz.func150,Tryz.ntmps150
 go_wp2_with (go_at_call 217;(with_reducible refine (sK _ _ _).mono ?_);rintro e i ⟨rfl,h⟩)
 go_ret
 exact⟨aF (Ds.validE_pat _),h⟩
theorem ui(b n c:Nat)(w:ZY)(S:Strs w b f)(F:n<=f.length)(D:n<=c)(x:(XS (f.map Z5) [46]).length<=1000)(G:f.length<=1000)(u:Hid (∀ k (h:k<f.length),f[k].size<=1000)) :
 ZH Z8 225 #[.slice (Z9 ⟨b,0,Z7⟩) n c] w fun e W=>e=.returned (.string ⟨(XS ((f.map Z5).take n) [46]).toArray⟩)/\w=W:=by
 have HJ:Hid (∀ k,(XS ((f.map Z5).take k) [46]).length<=1000):=lh fun k=>ZC (Ds.join_take _ _ k) x
 clear x;go_enter Tryz.func225,Tryz.ntmps225
 go_wp2_with fail
 go_loopw [3,4] (fun s i wr=>∃ (k:Nat) (t:Z6),k<=n/\i=.int .i64 k/\s=.string t/\Z5 t=XS ((f.map Z5).take k) [46]/\w=wr) (fun _ i _=>n - (Zq i).toNat)
 case atStart=>exact⟨0,⟨#[]⟩,by omega,rfl,rfl,rfl,rfl⟩
 case round =>
  obtain⟨k,t,E,rfl,rfl,v,rfl⟩:=hrel;have C:t.size<=1000:=by rw[<-ZZ,v];exact HJ.o k
  have T:=lh v;clear v;by_cases z:k<n
  .have H:k<f.length:=by omega
   have o:=S k H;have A:=u.o k H;by_cases y:0<k
   .have N:=lh (Ds.jn_next f k H y);go_wp2_with fail
    go_roundw
    case rel=>exact⟨k+1,_,by omega,by go_num,rfl,by rw[N.o,Ds.bl_append,Ds.bl_append,T.o];rfl,trivial⟩
    case measure=>simp [Zq];omega
   .obtain rfl:k=0:=by omega
    have N:=lh (Ds.jn_first f H);go_wp2_with fail
    go_roundw
    case rel=>exact⟨1,_,by omega,by go_num,rfl,by rw[N.o,Ds.bl_append,T.o];simp [Lib.join_nil],trivial⟩
    case measure=>simp [Zq];omega
  .obtain rfl:k=n:=by omega
   go_wp2_with fail
   go_ret
   exact⟨iD (Ds.bl_inj (by rw[T.o,Ds.bl_mk])),rfl⟩
theorem Bf(h:k=0) :
 ZH Z8 225 #[.slice Z7 k c] w fun e W=>e=.returned (.string ⟨#[]⟩)/\w=W:=by
 subst h;go_enter Tryz.func225,Tryz.ntmps225
 go_wp2_with fail
 refine wp_loop_rounds 1 ?_;rw[rounds_succ]
 go_wp2_with fail
 go_ret
 exact⟨rfl,rfl⟩
theorem oE :
 ZH Z8 147 #[.string s] w fun e W=>e=.returned (.bool (WM (Z5 s)))/\Z4 w.heap.size w W:=by
 have v:=ZZ s;cases y:YP (Z5 s)
 .have D:=lh (show WM (Z5 s)=ZW by unfold WM;rw[y];rfl);clear v;go_enter Tryz.func147,Tryz.ntmps147
  go_wp2_with (go_at_call 130;(with_reducible refine (dt _ _).mono ?_);rintro e z ⟨rfl,u⟩)
  go_ret
  exact⟨aF D.o.symm,u⟩
 by_cases J:22<s.size
 .have D:=lh (show WM (Z5 s)=ZW by unfold WM;rw[ZG (p:=(Z5 s).length<=22) (by omega)];simp);have E:(decide (22<(s.size:Int)))=ZX:=by rw[ZU];omega
  clear v;go_enter Tryz.func147,Tryz.ntmps147
  go_wp2_with (go_at_call 130;(with_reducible refine (dt _ _).mono ?_);rintro e z ⟨rfl,u⟩)
  go_ret
  exact⟨aF D.o.symm,u⟩
 have E:(decide (22<(s.size:Int)))=ZW:=by rw[ZF];omega
 have U:s.size<=1000:=by omega
 have D:=lh (fun (f:Z1 Z6) (h:f.map Z5=Xw (Z5 s))=>show WM (Z5 s)=XQ (fun q=>decide (XO (Z5 q)=0)) f 0 by
  unfold WM;rw[ZI (p:=(Z5 s).length<=22) (by omega),y,<-h,List.all_map];rfl)
 clear v J;go_enter Tryz.func147,Tryz.ntmps147
 go_wp2_with first|(go_at_call 130;(with_reducible refine (dt _ _).mono ?_);rintro e Y ⟨rfl,u⟩)|go_at_call 149;(with_reducible refine (js _ _ U).mono ?_);rintro e z ⟨d,q,g,m,C,T,L,N,rfl,S,I,A,B⟩;have P:=lh (D.o _ C);have B:=bt u B;clear C D I E y u
 go_loopw [4] (fun i wr=>∃ k:Nat,k<=d.length+1/\i=.int .i64 k/\WM (Z5 s)=XQ (fun q=>decide (XO (Z5 q)=0)) (d++[q]) k/\z=wr) (fun i _=>d.length+1 - (Zq i).toNat)
 case atStart=>exact⟨0,by omega,rfl,P.o,rfl⟩
 case round =>
  obtain⟨k,X,rfl,F,rfl⟩:=hrel;have Q:=lh F;clear F;by_cases O:k<d.length+1
  .have H:k<(d++[q]).length:=by simp;omega
   have o:=WU (fun q=>decide (XO (Z5 q)=0)) (d++[q]) k H;have K:=S k H;generalize (d++[q])[k]=x at o K;by_cases V:0<XO (Z5 x)
   .rw[ZG (by omega)] at o;have R:=lh (Q.o.trans o);have G:decide (0<(XO (Z5 x):Int))=ZX:=by rw[ZU];omega
    clear o H;go_wp2_with (go_at_call 226;(with_reducible refine (oh _ _).mono ?_);rintro e W ⟨rfl,rfl⟩)
    go_ret
    exact⟨aF R.o.symm,B⟩
   .rw[ZI (by omega)] at o;have R:=lh (Q.o.trans o);have G:decide (0<(XO (Z5 x):Int))=ZW:=by rw[ZF];omega
    clear o H;go_wp2_with (go_at_call 226;(with_reducible refine (oh _ _).mono ?_);rintro e W ⟨rfl,rfl⟩)
    go_roundw
    case rel=>exact⟨k+1,by omega,by go_num,R.o,trivial⟩
    case measure=>simp [Zq];omega
  .have o:=Q.o.trans (WB (fun q=>decide (XO (Z5 q)=0)) (d++[q]) k (by simp;omega));have R:=lh o;clear o;obtain rfl:k=d.length+1:=by omega
   go_wp2_with fail
   go_ret
   exact⟨aF R.o.symm,B⟩
theorem yq(H:YP (Z5 s)=ZW) :
 ZH Z8 279 #[.string s] w fun e W=>e=.returned (.slice Z7 0 0)/\Z4 w.heap.size w W:=by
 go_enter Tryz.func279,Tryz.ntmps279
 go_wp2_with (go_at_call 130;(with_reducible refine (dt _ _).mono ?_);rintro e i ⟨rfl,h⟩)
 go_ret
 exact⟨rfl,h⟩
theorem mf(h:YP (Z5 s)=ZX):s.size<=31/\1<=s.size:=by
 unfold YP at h;simp only[Bool.and_eq_true,ZU,ZZ] at h
 omega
theorem yb(x:YP (Z5 s)=ZX) :
 ZH Z8 279 #[.string s] w fun e W=>∃ (f:Z1 Z6) (b c:Nat),f.map Z5=Xw (Z5 s)/\f.length<=32/\w.heap.size<=b/\b<W.heap.size/\f.length<=c/\e=.returned (.slice (Z9 ⟨b,0,Z7⟩) f.length c)/\Strs W b f/\Z4 w.heap.size w W:=by
 have z:=(mf s x).1;have i:s.size<=1000:=by omega
 go_enter Tryz.func279,Tryz.ntmps279
 go_wp2_with first|(go_at_call 130;(with_reducible refine (dt _ _).mono ?_);rintro e A ⟨rfl,o⟩)|go_at_call 149;(with_reducible refine (js _ _ i).mono ?_);rintro e C ⟨d,q,g,m,u,y,v,H,rfl,S,F,h,B⟩;have P:=lh u;have B:=bt o B;clear u F
 go_ret
 exact⟨d++[q],g,m,P.o,by simp;omega,by have:=o.size;omega,H,by simpa using h,by simp,S,B⟩
end Go.Proofs.YtnkjliahpeebjaaGreatDoor
end
section
namespace Go.Proofs.YtnkjliahpeebjaaGreatDoor
open Go.RowKit
variable{f d:Z1 Z6}{q:Z6}{s:Z1 ZM}
namespace Ds
def splG(s:Z1 ZM):Z1 ZM:=if gen s then front s else []
def splN(s:Z1 ZM):Nat:=if gen s then num (last s) else 0
theorem spl_yes(s:Z1 ZM)(h:num (last s)≠0)(H:group (front s)=ZX):gen s=ZX/\splG s=front s/\splN s=num (last s):=by
 have:gen s=ZX:=by unfold gen;rw[H];simpa using h
 exact⟨this,by unfold splG;rw[ZP this],by unfold splN;rw[ZP this]⟩
theorem spl_no(s:Z1 ZM)(h:num (last s)=0\/group (front s)=ZW):gen s=ZW/\splG s=[]/\splN s=0:=by
 have:gen s=ZW:=by
  unfold gen;rcases h with h|h <;> simp [h]
 exact⟨this,by unfold splG;rw[this];rfl,by unfold splN;rw[this];rfl⟩
theorem front_of(h:(d++[q]).map bl=pieces s):front s=XS (d.map bl) [46]/\last s=bl q:=by
 unfold front last;rw[<-h];simp
theorem take_qs(h:(d++[q]).map bl=pieces s):XS (((d++[q]).map bl).take d.length) [46]=front s:=by
 rw[(front_of h).1];simp
theorem joined_len(h:f.map bl=pieces s):(XS (f.map bl) [46]).length=s.length:=by
 rw[h,join_pieces]
end Ds
theorem gI(s:Z6)(w:ZY)(hs:s.size<=60) :
 ZH Z8 143 #[.string s] w fun e w'=>e=.returned (.tuple #[.string ⟨(Ds.splG (Z5 s)).toArray⟩,.int .i64 (Ds.splN (Z5 s)),.bool (Ds.gen (Z5 s))])/\Z4 w.heap.size w w':=by
 have u:s.size<=1000:=by omega
 go_enter Tryz.func143,Tryz.ntmps143
 go_wp2_with (go_at_call 149;(with_reducible refine (js _ _ u).mono ?_);rintro e w1 ⟨d,q,g,m,J,W,U,V,rfl,S,T,G,B⟩;have P:=lh J;clear J T)
 have H:=Ds.joined_len P.o;rw[ZZ] at H;have i:(XS ((d++[q]).map Z5) [46]).length<=1000:=by omega
 have C:=lh (fun k (h:k<(d++[q]).length)=>ZC (Ds.piece_len P.o k h) (by rw[ZZ];exact u));have y:d.length<=(d++[q]).length:=by simp
 have z:d.length<=m:=by omega
 have A:(d++[q]).length<=1000:=by simp;omega
 have O:w1.cell? ⟨g,d.length,Z7⟩=Z9 (.string q):=by
  have:=S d.length (by simp);rw[this];simp
 have K:=lh (Ds.take_qs P.o);have L:=lh (Ds.front_of P.o).2;have X:IntKind.i64.wrap (d.length:Int)=d.length:=IntWalk.i64_in _ (by omega);have Y:(0:Int)<=d.length:=by omega
 have Z:(d.length:Int)<=m:=by omega
 have s4:(d.length:Int)<d.length+1:=by omega
 have s5:((d.length:Int)).toNat=d.length:=by omega
 clear H;go_quiet ((first|(go_at_call 225;exact Calls.quiet_of_same ((ui (d++[q]) g d.length m _ (S.drewN _) y z i A C).mono fun _ _ ⟨a,b⟩=>⟨a,b.symm⟩))|(go_at_call 226;exact Calls.quiet_of_same ((oh q _).mono fun _ _ ⟨a,b⟩=>⟨a,b.symm⟩))))
 rw[K.o];generalize hF:(⟨(Ds.front (Z5 s)).toArray⟩:Z6)=F;have E:=lh (show Z5 F=Ds.front (Z5 s) by rw[<-hF,Ds.bl_mk]);have R:=lh hF;clear hF X Y Z s4 s5 O S;have v:=lh (below_drewN B nq);by_cases o:XO (Z5 q)=0
 .have Q:((XO (Z5 q):Int)==0)=ZX:=by simp [o]
  have D:=lh (Ds.spl_no (Z5 s) (.inl (by rw[L.o];exact o)));clear o;go_wp2_with fail
  go_ret3
  exact⟨by rw[D.o.1,D.o.2.1,D.o.2.2];rfl,v.o⟩
 .have Q:((XO (Z5 q):Int)==0)=ZW:=by simp;omega
  have N:=lh (show XO (Ds.last (Z5 s))≠0 by rw[L.o];exact o);clear o;cases I:WM (Z5 F)
  .have D:=lh (Ds.spl_no (Z5 s) (.inr (by rw[<-E.o];exact I)));go_wp2_with (go_at_call 147;(with_reducible refine (oE _ _).mono ?_);rintro e w2 ⟨rfl,x⟩)
   go_ret3
   exact⟨by rw[D.o.1,D.o.2.1,D.o.2.2];rfl,bt v.o x⟩
  .have D:=lh (Ds.spl_yes (Z5 s) N.o (by rw[<-E.o];exact I));go_wp2_with (go_at_call 147;(with_reducible refine (oE _ _).mono ?_);rintro e w2 ⟨rfl,x⟩)
   go_ret3
   exact⟨by rw[D.o.1,D.o.2.1,D.o.2.2,L.o,R.o];rfl,bt v.o x⟩
theorem Be(n:Int)(s:Z6)(w:ZY) :
 ZH Z8 218 #[.int .i64 n,.string s] w fun e W=>e=.returned (.string ⟨(Vv n (Z5 s)).toArray⟩)/\Z4 w.heap.size w W:=by
 cases i:YP (Z5 s)
 .have D:=lh (show Vv n (Z5 s)=[] by unfold Vv;rw[i];rfl);have I:(max 0 (min n 0)).toNat=0:=by omega
  go_enter Tryz.func218,Tryz.ntmps218
  go_wp2_with first|(go_at_call 279;(with_reducible refine (yq _ _ i).mono ?_);rintro e G ⟨rfl,u⟩)|(go_at_call 225;(with_reducible refine (Bf _ _ _ (by omega)).mono ?_);rintro e W ⟨rfl,rfl⟩)
  all_goals (go_ret;exact⟨iD (by rw[D.o]),u⟩)
 .have v:(XS (Xw (Z5 s)) [46]).length<=1000:=by
   rw[Ds.join_pieces,ZZ];have:=mf s i;omega
  have D:=lh (show Vv n (Z5 s)=XS ((Xw (Z5 s)).take n.toNat) [46] by unfold Vv;rw[i];rfl);have L:=(mf s i).1;go_enter Tryz.func218,Tryz.ntmps218
  go_wp2_with first|go_at_call 279;(with_reducible refine (yb _ _ i).mono ?_);rintro e G ⟨f,b,c,x,K,E,F,J,rfl,S,u⟩;have P:=lh x;have y:=lh (fun k (h:k<f.length)=>ZC (Ds.piece_len x k h) (by rw[ZZ];omega:_<=1000));clear x|(go_at_call 225;(with_reducible refine (ui f b _ _ _ S (by omega) (by omega) (by rw[P.o];exact v) (by omega) y).mono ?_);rintro e N ⟨rfl,rfl⟩)
  all_goals
   go_ret
   refine⟨iD ?_,u⟩
   first
   | (rw[D.o,<-P.o];done)
   | (
    rw[D.o,<-P.o]
    have H:∀ m:Nat,(n.toNat=m\/(f.length<=m/\f.length<=n.toNat))->(⟨(XS ((f.map Z5).take m) [46]).toArray⟩:Z6)=⟨(XS ((f.map Z5).take n.toNat) [46]).toArray⟩:=by
     rintro m (h|⟨z,C⟩)
     .rw[h]
     .rw[Zv (by simpa using z),Zv (by simpa using C)]
    first
    | exact H _ (by omega)
    | (
     rcases Int.lt_or_le (f.length:Int) n with A|A
     .first
      | exact H f.length (.inr ⟨ZV _,by omega⟩)
      | (exact H 0 (.inr ⟨by simp only[ZP A] at *;omega,by omega⟩))
     .have o:¬ (f.length:Int)<n:=by omega
      first
      | (exact H n.toNat (.inl rfl))
      | (exact H 0 (.inl (by simp only[if_neg o] at *;omega)))
      | (exact H f.length (.inl (by simp only[if_neg o] at *;omega)))))
namespace Ds
end Ds
end Go.Proofs.YtnkjliahpeebjaaGreatDoor
end
