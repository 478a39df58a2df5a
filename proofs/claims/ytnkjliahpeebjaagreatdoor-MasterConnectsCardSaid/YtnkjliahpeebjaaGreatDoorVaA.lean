/- Catalogs. -/
import Derived.Test.YtnkjliahpeebjaaGreatDoorDsA
import Derived.Test.YtnkjliahpeebjaaGreatDoorRdA
import Derived.Test.YtnkjliahpeebjaaGreatDoorEn
set_option maxRecDepth 4000
set_option maxHeartbeats 800000
open _root_ renaming List->Z5,decide_eq_true_eq->ZU,decide_eq_false->ZF
open Bool renaming and_eq_true->ZT,eq_iff_iff->Zf
open List renaming mem_cons->Zw,foldl_cons->YS,isEmpty_iff_length_eq_zero->X1
namespace Go.Proofs.YtnkjliahpeebjaaGreatDoor.Vp
def word(s:Z5 UInt8):Bool:=Ds.name s&&decide ((Ds.pieces s).length=1)
def own(s:Z5 UInt8):Bool:=s.isEmpty || word s
def rng(l h:Int)(N:Z5 Int):Bool:=N.all fun n=>decide (l<=n)&&decide (n<=h)
theorem xV(N:Z5 Int)(z l:Int):l<=N.foldl min z↔l<=z/\∀ n∈N,l<=n:=by
 induction N generalizing z with
 | nil=>simp
 | cons a r i =>
   rw[YS,i];constructor
   .rintro ⟨b,H⟩;refine⟨by omega,fun n h=>?_⟩
    rcases Zw.1 h with rfl|h
    .omega
    .exact H n h
   .rintro ⟨b,H⟩;have:=H a (by simp);exact⟨by omega,fun n h=>H n (by simp [h])⟩
theorem xU(N:Z5 Int)(z i:Int):N.foldl max z<=i↔z<=i/\∀ n∈N,n<=i:=by
 induction N generalizing z with
 | nil=>simp
 | cons a r I =>
   rw[YS,I];constructor
   .rintro ⟨b,H⟩;refine⟨by omega,fun n h=>?_⟩
    rcases Zw.1 h with rfl|h
    .omega
    .exact H n h
   .rintro ⟨b,H⟩;have:=H a (by simp);exact⟨by omega,fun n h=>H n (by simp [h])⟩
theorem rng_iff(l i:Int)(N:Z5 Int)(h:N≠[]):rng l i N=(decide (l<=Lib.minOf N)&&decide (Lib.maxOf N<=i)):=by
 unfold Lib.minOf Lib.maxOf rng;rcases N with _|⟨a,r⟩
 .exact absurd rfl h
 .rw[Zf,ZT,ZU,ZU,xV,xU,List.all_eq_true];simp only[List.headD_cons,ZT,ZU]
  constructor
  .intro H;exact⟨⟨(H a (by simp)).1,fun n b=>(H n b).1⟩,⟨(H a (by simp)).2,fun n b=>(H n b).2⟩⟩
  .rintro ⟨⟨_,H⟩,⟨_,c⟩⟩ n b;exact⟨H n b,c n b⟩
end Go.Proofs.YtnkjliahpeebjaaGreatDoor.Vp
namespace Go.Proofs.YtnkjliahpeebjaaGreatDoor
section
open Go.RowKit
theorem sQ(l i:Int)(b c:Nat)(N:Z5 Int)(w:World)(d:0<N.length)(g:N.length<=1000)(f:∀ j,j<N.length->w.cell? ⟨b,0+j,none⟩=some (.int .i64 (N.getD j 0))) :
 Calls Tryz.prog 164 #[.int .i64 l,.int .i64 i,.slice (some ⟨b,0,none⟩) N.length c] w fun e W=>e=.returned (.bool (Vp.rng l i N))/\w=W:=by
 have z:N.length<=9223372036854775807:=Nat.le_trans g (by decide);have a:=Tryz.slices_Min_int b 0 N.length c N w d (Nat.le_refl _) z f;have H:=Tryz.slices_Max_int b 0 N.length c N w d (Nat.le_refl _) z f;rw[List.take_length] at a H;rw[Vp.rng_iff l i N (by intro e;rw[e] at d;simp at d)];have E:((N.length:Int)==0)=false:=by rw[beq_eq_false_iff_ne];omega
 generalize Lib.minOf N=m at a |-;generalize Lib.maxOf N=o at H |-;generalize N.length=n at a H E d g |-;clear f z;by_cases h:l<=m
 .rw[decide_eq_true h,Bool.true_and];go_enter Tryz.func164,Tryz.ntmps164
  go_wp2_with (first|((with_reducible refine a.mono ?_);rintro e W ⟨rfl,rfl⟩)|((with_reducible refine H.mono ?_);rintro e W ⟨rfl,rfl⟩))
  go_ret
  exact⟨rfl,rfl⟩
 .rw[ZF h,Bool.false_and];have k:decide (l<=m)=false:=ZF h;clear h;go_enter Tryz.func164,Tryz.ntmps164
  go_wp2_with (first|((with_reducible refine a.mono ?_);rintro e W ⟨rfl,rfl⟩)|((with_reducible refine H.mono ?_);rintro e W ⟨rfl,rfl⟩))
  go_ret
  exact⟨rfl,rfl⟩
theorem AD(l:Z5 UInt8)(c:UInt8):decide (0<=Lib.indexByte l c)=!decide (l.count c=0):=by
 rw[<-Lib.contains_iff_indexByte,Zf,List.contains_iff_mem,Bool.not_eq_true',decide_eq_false_iff_not,List.count_eq_zero,Classical.not_not]
theorem mS(s:ByteArray)(w:World)(m:MaxL w) :
 Calls Tryz.prog 165 #[.string s] w fun e a=>e=.returned (.bool (Vp.word (Ds.bl s)))/\Below w.heap.size w a:=by
 unfold Vp.word
 have p:decide ((Ds.pieces (Ds.bl s)).length=1)=!decide (0<=Lib.indexByte s.data.toList 46):=by
  rw[AD,Ds.pieces_len,Bool.not_not,Zf,ZU,ZU];exact⟨fun h=>(show (Ds.bl s).count 46=0 by omega),fun h=>by have:(Ds.bl s).count 46=0:=h;omega⟩
 rw[p];have v:=ez s w m;have H:=fun W=>Tryz.strings_Contains_one s 46 W
 generalize decide (0<=Lib.indexByte s.data.toList 46)=x at H |-;generalize Ds.name (Ds.bl s)=y at v |-;clear p;cases y
 .go_enter Tryz.func165,Tryz.ntmps165
  go_wp2_with (first|((with_reducible refine v.mono ?_);rintro e a ⟨rfl,B⟩)|((with_reducible refine (H _).mono ?_);rintro e b ⟨rfl,rfl⟩))
  go_ret
  exact⟨rfl,B⟩
 .go_enter Tryz.func165,Tryz.ntmps165
  go_wp2_with (first|((with_reducible refine v.mono ?_);rintro e a ⟨rfl,B⟩)|((with_reducible refine (H _).mono ?_);rintro e b ⟨rfl,rfl⟩))
  go_ret
  exact⟨rfl,B⟩
theorem kR(l h n:Int)(b:Nat)(w:World)(H:w.cell? ⟨b,0,none⟩=some (.int .i64 n)) :
 Calls Tryz.prog 164 #[.int .i64 l,.int .i64 h,.slice (some ⟨b,0,none⟩) 1 1] w fun e W=>e=.returned (.bool (Vp.rng l h [n]))/\w=W :=
 sQ l h b 1 [n] w (by simp) (by simp) (fun j a=>by
  obtain rfl:j=0:=by simpa using a
  simpa using H)
end
end Go.Proofs.YtnkjliahpeebjaaGreatDoor
section
namespace Go.Proofs.YtnkjliahpeebjaaGreatDoor
open Go.RowKit
attribute [local go_sem] ap aq df dc ef bN cB dv cK
namespace Vp
def grp(e:En):Bool:=rng 1 63 [e.lim]&&rng 0 9999 [e.last]&&own (Ds.bl e.owner)
end Vp
theorem CX(e:En)(A g:Value)(w:World)(m:MaxL w) :
 Calls Tryz.prog 163 #[.agg (e.vals A g)] w fun r a=>r=.returned (.bool (Vp.grp e))/\Below w.heap.size w a:=by
 have c:=fun W b h=>kR 1 63 e.lim b W h
 have d:=fun W b h=>kR 0 9999 e.last b W h
 unfold Vp.grp Vp.own;generalize Vp.rng 1 63 [e.lim]=x at c |-;generalize Vp.rng 0 9999 [e.last]=y at d |-;have i:=fun W (h:MaxL W)=>mS e.owner W h
 cases x
 .go_enter Tryz.func163,Tryz.ntmps163
  go_wp2_with ((with_reducible refine (c _ _ (by simp [go_sem])).mono ?_);rintro _ a ⟨rfl,rfl⟩)
  go_ret
  exact⟨rfl,by exact aB⟩
 cases y
 .go_enter Tryz.func163,Tryz.ntmps163
  go_wp2_with (first|((with_reducible refine (c _ _ (by simp [go_sem])).mono ?_);rintro _ a ⟨rfl,rfl⟩)|((with_reducible refine (d _ _ (by simp [go_sem])).mono ?_);rintro _ a ⟨rfl,rfl⟩))
  go_ret
  exact⟨rfl,by exact aB⟩
 by_cases H:e.owner.size=0
 .have f:e.owner.toList.isEmpty=true:=ju _ H;have E:(Ds.bl e.owner).isEmpty=true:=by rw[X1,Ds.bl_length];exact H
  rw[E];clear H E;go_enter Tryz.func163,Tryz.ntmps163
  go_wp2_with (first|((with_reducible refine (c _ _ (by simp [go_sem])).mono ?_);rintro _ a ⟨rfl,rfl⟩)|((with_reducible refine (d _ _ (by simp [go_sem])).mono ?_);rintro _ a ⟨rfl,rfl⟩))
  go_ret
  exact⟨rfl,by exact aB⟩
 .have f:e.owner.toList.isEmpty=false:=gG _ (by omega);have E:(Ds.bl e.owner).isEmpty=false:=by rw[Bool.eq_false_iff,Ne,X1,Ds.bl_length];exact H
  rw[E];clear H E;go_enter Tryz.func163,Tryz.ntmps163
  go_wp2_with (first|((with_reducible refine (c _ _ (by simp [go_sem])).mono ?_);rintro _ a ⟨rfl,rfl⟩)|((with_reducible refine (d _ _ (by simp [go_sem])).mono ?_);rintro _ a ⟨rfl,rfl⟩)|((with_reducible refine (i _ (m.below (by exact aB))).mono ?_);rintro _ a ⟨rfl,B⟩))
  go_ret
  exact⟨rfl,Below.trans (by exact aB) (B.mono (by simp;omega))⟩
end Go.Proofs.YtnkjliahpeebjaaGreatDoor
end
