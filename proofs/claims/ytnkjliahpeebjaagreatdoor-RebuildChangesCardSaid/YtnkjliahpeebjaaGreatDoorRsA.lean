/- Catalogs. -/
import Derived.Test.YtnkjliahpeebjaaGreatDoorSaC
set_option maxRecDepth 8000
set_option maxHeartbeats 16000000
open Go.Proofs.Tryz renaming prog->Z8
open List renaming take_succ_eq_append_getElem->ZK,take_of_length_le->Zv,cons_append->Zg,nil_append->Yn
open _root_ renaming beq_eq_false_iff_ne->ZJ,decide_eq_true->ZI,decide_eq_false->ZG,decide_eq_false_iff_not->ZF
namespace Go.Proofs.YtnkjliahpeebjaaGreatDoor
open Go.RowKit
variable(v:Value)(e f:En)(u c a:Value)(m j:Option Addr)(h t:List Int)(i b l n:Nat)(g d s:List Gr)(w:World)
theorem Aa(H:i≠b) :
 Calls Z8 224 #[.slice m i l,.slice j b n] w fun e W=>e=.returned (.bool false)/\w=W:=by
 have k:((i:Int)==(b:Int))=false:=by rw[ZJ];omega
 have E:(i==b)=false:=by simpa using H
 clear H;go_enter Tryz.func224,Tryz.ntmps224
 go_wp2_with fail
 go_ret
 exact⟨rfl,rfl⟩
theorem rints(I:IS w v h)(J:IS w u t) :
 Calls Z8 224 #[v,u] w fun e W=>e=.returned (.bool (decide (h=t)))/\Below w.heap.size w W:=by
 obtain⟨m,l,rfl,L,x⟩:=I;obtain⟨j,n,rfl,O,y⟩:=J;by_cases A:h.length=t.length
 rotate_left
 .refine (Aa m j h.length t.length l n w A).mono ?_
  rintro e W ⟨rfl,rfl⟩;exact⟨aF (by rw[eq_comm,ZF];intro e;exact A (by rw[e])),Below.refl _ _⟩
 have F:=lh x;have G:=lh y;have N:=lh A;clear x y;rw[<-A];clear A;go_enter Tryz.func224,Tryz.ntmps224
 go_wp2_with fail
 go_loopw [5] (fun i wr=>∃ k:Nat,k<=h.length/\i=.int .i64 k/\h.take k=t.take k/\∃ q,wr=w.drewN q) (fun i _=>h.length - (intOf i).toNat)
 case atStart=>exact⟨0,Nat.zero_le _,rfl,rfl,0,rfl⟩
 case round =>
  obtain⟨k,R,rfl,C,q,rfl⟩:=hrel;have E:=lh C;clear C;by_cases o:k<h.length
  .have z:k<t.length:=by rw[<-N.o];exact o
   obtain⟨P,U,rfl,-,p⟩:=F.o (by omega);obtain⟨Q,V,rfl,-,r⟩:=G.o (by omega);have X:=p k o;have Y:=r k z;have S:(0:Int)<=(k:Int):=by omega
   have T:(k:Int)<(h.length:Int):=by omega
   clear p r;by_cases H:h[k]=t[k]
   .have D:=lh H;have K:(h[k]==t[k])=true:=by simpa using H
    have B:(h[k] != t[k])=false:=by simpa using H
    clear H;go_wp2_with fail
    go_quiet (fail)
    go_wp2_with fail
    go_roundw
    case rel =>
     refine⟨k+1,by omega,by go_num,?_,_,rfl⟩
     rw[ZK o,ZK z,E.o,D.o]
    case measure=>simp [intOf];omega
   .have D:=lh H;have K:(h[k]==t[k])=false:=by simpa using H
    have B:(h[k] != t[k])=true:=by simpa using H
    clear H;go_wp2_with fail
    go_quiet (fail)
    go_wp2_with fail
    go_ret
    exact⟨aF (by
     symm
     rw[ZF];intro e;subst e;exact D.o rfl),below_drewN (below_drewN (Below.refl _ _) _) _⟩
  .go_wp2_with fail
   go_ret
   exact⟨aF (by
    symm
    rw[decide_eq_true_eq];have:=E.o;rw[Zv (by omega),Zv (by rw[<-N.o];omega)] at this;exact this),below_drewN (Below.refl _ _) _⟩
section
attribute [local go_sem ↓ high] fe mI
attribute [local go_sem] fx aH ak aI aw az aM ah fp ap aq cf cM df dc ef bN cB dv cK cC
theorem GS.at{w:World}{a:Option Addr}{n c:Nat}{l:List Gr}(h:GS w (.slice a n c) l)(H:0<l.length):∃ b o,a=some ⟨b,o,none⟩/\∀ k (h:k<l.length),w.cell? ⟨b,o+k*3,none⟩=some (.string l[k].1)/\w.cell? ⟨b,o+k*3+1,none⟩=some (.bool l[k].2.1)/\w.cell? ⟨b,o+k*3+2,none⟩=some (.int .i64 l[k].2.2):=by
 obtain⟨A,C,e,-,h⟩:=h;obtain⟨rfl,-,rfl⟩:a=A/\n=l.length/\c=C:=by simpa using e
 obtain⟨b,o,p,-,q⟩:=h H;exact⟨b,o,p,q⟩
theorem Ab(H:i≠b) :
 Calls Z8 141 #[.agg (e.vals c (.slice m i l)),.agg (f.vals a (.slice j b n))] w fun r W=>r=.returned (.bool false)/\Below w.heap.size w W:=by
 have E:((i:Int)==(b:Int))=false:=by rw[ZJ];omega
 have k:((i:Int) != (b:Int))=true:=by rw[bne_iff_ne];omega
 clear H;go_enter Tryz.func141,Tryz.ntmps141
 go_wp2_with fail
 go_ret
 exact⟨rfl,by exact aB⟩
theorem CK(C:d.length=s.length)(A:GS w (.slice m d.length l) d)(B:GS w (.slice j s.length n) s)(z:d≠s) :
 Calls Z8 141 #[.agg (e.vals c (.slice m d.length l)),.agg (f.vals a (.slice j s.length n))] w fun r O=>r=.returned (.bool false)/\Below w.heap.size w O:=by
 have N:=lh C;have E:=lh z;rw[<-C] at B |-;clear C z;have I:d.length<=1000000:=by obtain⟨_,_,e,I,-⟩:=A;exact I
 have H:Below w.heap.size w ((w.alloc (.cells (e.vals c (.slice m d.length l)) 29)).alloc (.cells (f.vals a (.slice j d.length n)) 29)):=by exact aB
 have J:=lh (A.below H);have K:=lh (B.below H);clear A B;go_enter Tryz.func141,Tryz.ntmps141
 simp only[List.append_eq,Zg,Yn]
 go_wp2_with fail
 go_loopw [5] (fun i wr=>∃ k:Nat,k<=d.length/\i=.int .i64 k/\d.take k=s.take k/\∃ q,wr=((w.alloc (.cells (e.vals c (.slice m d.length l)) 29)).alloc (.cells (f.vals a (.slice j d.length n)) 29)).drewN q) (fun i _=>d.length - (intOf i).toNat)
 case atStart=>exact⟨0,Nat.zero_le _,rfl,rfl,0,rfl⟩
 case round =>
  obtain⟨k,R,rfl,F,q,rfl⟩:=hrel;have D:=lh F;clear F;by_cases o:k<d.length
  .have y:k<s.length:=by rw[<-N.o];exact o
   obtain⟨P,S,rfl,p⟩:=GS.at J.o (by omega);obtain⟨Q,T,rfl,r⟩:=GS.at K.o (by omega);obtain⟨U,V,X⟩:=p k o;obtain⟨Y,Z,r3⟩:=r k y;have G:=fun W=>qw d[k] s[k] W
   clear p r;by_cases x:d[k]=s[k]
   .have L:=lh x;rw[ZI x] at G;clear x;go_wp2_with fail
    go_quiet (fail)
    go_wp2_with fail
    go_roundw
    case rel =>
     refine⟨k+1,by omega,by go_num,?_,_,rfl⟩
     rw[ZK o,ZK y,D.o,L.o]
    case measure=>simp [intOf];omega
   .rw[ZG x] at G;clear x;go_wp2_with fail
    go_quiet (fail)
    go_wp2_with fail
    go_ret
    exact⟨rfl,below_drewN (below_drewN H _) _⟩
  .exact absurd (by
    have:=D.o;rw[Zv (by omega),Zv (by rw[<-N.o];omega)] at this;exact this) E.o
theorem FK(N:Bool)(w:World)(O:GS w (.slice m g.length l) g)(R:GS w (.slice j g.length n) g)(U:∀ W,Below w.heap.size w W->Calls Z8 224 #[c,a] W fun r P=>r=.returned (.bool N)/\Below W.heap.size W P) :
 Calls Z8 141 #[.agg (e.vals c (.slice m g.length l)),.agg (f.vals a (.slice j g.length n))] w fun r P=>r=.returned (.bool ((e.kind==f.kind)&&(e.name.toList==f.name.toList)&&gj e f&&N&&(e.used==f.used)&&(e.lim==f.lim)&&(e.last==f.last)&&(e.em==f.em)&&(e.owner.toList==f.owner.toList)&&(e.target.toList==f.target.toList)&&(e.cat==f.cat)&&(e.lev==f.lev)))/\Below w.heap.size w P:=by
 obtain⟨X,A⟩:∃ t,(e.kind==f.kind)=t:=⟨_,rfl⟩;obtain⟨Y,C⟩:∃ t,(e.name.toList==f.name.toList)=t:=⟨_,rfl⟩;obtain⟨Z,D⟩:∃ t,gj e f=t:=⟨_,rfl⟩;obtain⟨t4,F⟩:∃ t,(e.used==f.used)=t:=⟨_,rfl⟩;obtain⟨t5,G⟩:∃ t,(e.lim==f.lim)=t:=⟨_,rfl⟩;obtain⟨t6,I⟩:∃ t,(e.last==f.last)=t:=⟨_,rfl⟩;obtain⟨t7,J⟩:∃ t,(e.em==f.em)=t:=⟨_,rfl⟩;obtain⟨t8,K⟩:∃ t,(e.owner.toList==f.owner.toList)=t:=⟨_,rfl⟩;obtain⟨t9,L⟩:∃ t,(e.target.toList==f.target.toList)=t:=⟨_,rfl⟩;obtain⟨T,E⟩:∃ t,(e.cat==f.cat)=t:=⟨_,rfl⟩;obtain⟨z,o⟩:∃ t,(e.lev==f.lev)=t:=⟨_,rfl⟩;rw[A,C,D,F,G,I,J,K,L,E,o];obtain⟨q,y⟩:∃ q,(X&&Y&&Z&&N&&t4&&t5&&t6&&t7&&t8&&t9&&T&&z)=q:=⟨_,rfl⟩;rw[y];have HQ:=lh y;have Q:=lh (⟨A,C,D,F,G,I,J,K,L,E,o⟩:_/\_/\_/\_/\_/\_/\_/\_/\_/\_/\_);have V:g.length<=1000000:=by obtain⟨_,_,e,V,-⟩:=O;exact V
 have H:Below w.heap.size w ((w.alloc (.cells (e.vals c (.slice m g.length l)) 29)).alloc (.cells (f.vals a (.slice j g.length n)) 29)):=by exact aB
 have H3:=lh (O.below H);have H4:=lh (R.below H);have HI:=lh U;clear U y O R A C D F G I J K L E o;go_enter Tryz.func141,Tryz.ntmps141
 simp only[List.append_eq,Zg,Yn]
 go_wp2_with fail
 go_loopw [5] (fun i wr=>∃ k:Nat,k<=g.length/\i=.int .i64 k/\∃ q,wr=((w.alloc (.cells (e.vals c (.slice m g.length l)) 29)).alloc (.cells (f.vals a (.slice j g.length n)) 29)).drewN q) (fun i _=>g.length - (intOf i).toNat)
 case atStart=>exact⟨0,Nat.zero_le _,rfl,0,rfl⟩
 case round =>
  obtain⟨k,hk,rfl,q,rfl⟩:=hrel;by_cases x:k<g.length
  .obtain⟨b1,o1,rfl,p⟩:=GS.at H3.o (by omega);obtain⟨b2,o2,rfl,r⟩:=GS.at H4.o (by omega);obtain⟨p1,p2,p3⟩:=p k x;obtain⟨r1,r2,r3⟩:=r k x;have y:=fun W=>qw g[k] g[k] W
   rw[ZI rfl] at y;clear p r;go_wp2_with fail
   go_quiet (fail)
   go_wp2_with fail
   go_roundw
   case rel=>exact⟨k+1,by omega,by go_num,_,rfl⟩
   case measure=>simp [intOf];omega
  .have B:=below_drewN H q;obtain⟨A,C,D,F,G,I,J,K,L,E,o⟩:=Q.o;clear H Q;cases X;rotate_left;cases Y;rotate_left;cases Z;rotate_left;cases N;rotate_left;cases t4;rotate_left;cases t5;rotate_left;cases t6;rotate_left;cases t7;rotate_left;cases t8;rotate_left;cases t9;rotate_left;cases T;rotate_left;cases z
   all_goals
    go_wp2_with (go_at_call 224;(with_reducible refine (HI.o _ (by exact aB)).mono ?_);rintro _ w1 ⟨rfl,S⟩;obtain⟨a0,a1⟩:=bcell S;have B:=bt (show Below w.heap.size w _ by exact aB) S)
    go_ret
    exact⟨by rw[<-HQ.o];rfl,B⟩
theorem rsame(G a k:Value)(h t:List Int)(d s:List Gr)(w:World)(x:IS w c h)(y:IS w a t)(H:GS w G d)(o:GS w k s) :
 Calls Z8 141 #[.agg (e.vals c G),.agg (f.vals a k)] w fun r z=>r=.returned (.bool (dh e f h t d s))/\Below w.heap.size w z:=by
 obtain⟨m,l,rfl,-⟩:=id H;obtain⟨j,n,rfl,-⟩:=id o;unfold dh;by_cases p:d=s
 rotate_left
 .rw[ZG p,Bool.and_false];by_cases q:d.length=s.length
  .exact CK e f c a m j l n d s w q H o p
  .exact Ab e f c a m j _ _ l n w q
 subst p;rw[ZI rfl,Bool.and_true];exact FK e f c a m j l n d _ w H o fun W b=>rints c a h t W (x.below b) (y.below b)
end
section
attribute [local go_sem ↓ high] fe mI
attribute [local go_sem] fx aH ak aI aw az aM ah fp ap aq cf cM df dc ef bN cB dv cK cC
end
end Go.Proofs.YtnkjliahpeebjaaGreatDoor
