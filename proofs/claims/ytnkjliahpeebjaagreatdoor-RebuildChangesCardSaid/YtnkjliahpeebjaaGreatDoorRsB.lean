/- Catalogs. -/
import Derived.Test.YtnkjliahpeebjaaGreatDoorGeA
import Derived.Test.YtnkjliahpeebjaaGreatDoorRsA
set_option maxRecDepth 8000
set_option maxHeartbeats 800000
open Go.RowKit renaming Below->Z4
open Bool renaming true->ZX,false->ZW,eq_iff_iff->Zn
open _root_ renaming decide_eq_true_eq->ZU,decide_eq_true->ZI,decide_eq_false->ZG,Array->Zy,beq_iff_eq->YV
open List renaming isEmpty_iff_length_eq_zero->Yi
namespace Go.Proofs.YtnkjliahpeebjaaGreatDoor
open Go.RowKit
variable(e f:En)(s:ByteArray){α:Type}(a gr:Value)(h d:List Int)(b:Bool)(g c:List Gr)(w:World)
section
theorem gN{P:Program}{F:Func}{p:Tmp}{T:TypeId}{d:TypeDesc}{n:Nat}(h:F.results=#[.cell p T])(u:P.underlying T=some d)(i:(match d with|.struct _|.array _ _=>ZX|_=>ZW)=ZX)(j:(P.info? T).map (·.size)=some (n+1))(t:Zy Value)(w:World)(g:Nat)(k:t.getD p undef=.pointer (some ⟨g,0,none⟩))(z:(row w g).size=n+1) :
 (results F t).run P w=.ok (.agg (row w g)) w:=by
 have l:=jV w g n T d u i j z;have H:t[p]?.getD undef=.pointer (some ⟨g,0,none⟩):=by simpa using k
 simp only[results,h]
 simp [H,asAddr,l]
attribute [local go_sem ↓] aZ bf bq
attribute [local go_sem] bn aS aH aK aT ak aI aw az aM ah aQ aL aP aO aR aY aW ap aq df dc ef bN cB dv cK cC
theorem held3b(c:Zy Value):∀ (z x:Zy Value) (t T i:TypeId),z.size=33->Held ((((w.alloc (.cells c t)).alloc (.cells z T)).alloc (.cells x i)).drew) (w.heap.size+1) 33:=fun z x t T i H=>by
 have h:=EB.new (w.alloc (.cells c t)) z T;rw[show (w.alloc (.cells c t)).heap.size=w.heap.size+1 by simp] at h;exact lE (h.of_block (heap_alloc_old _ _ h.2.2) (by simp)) H (by decide)
theorem row3c'(c:Zy Value):∀ (z x:Zy Value) (t T i:TypeId),row ((((w.alloc (.cells c t)).alloc (.cells z T)).alloc (.cells x i)).drew) (w.heap.size+1+1)=x:=fun z x t T i=>by
 have h:=ak ((w.alloc (.cells c t)).alloc (.cells z T)) x i (0,0);rw[az];simpa using h
theorem used1(H:e.kind=1) :
 Calls Tryz.prog 142 #[.agg (e.vals a gr)] w fun r W=>r=.returned (.agg ((eS e).vals (.slice none 0 0) (.slice none 0 0)))/\Z4 w.heap.size w W:=by
 have k0:(e.kind==0)=ZW:=by rw[H];rfl
 have k1:(e.kind==1)=ZX:=by rw[H];rfl
 clear H;have i:=held3b w (e.vals a gr);have R:=row3c' w (e.vals a gr);go_enter Tryz.func142,Tryz.ntmps142
 go_wp2_with fail
 go_region
 all_goals
  go_wp2_with fail
  refine bodyPost_ret (gN (n:=32) rfl Tryz.underlying29 rfl (by kernel_rfl) _ _ (w.heap.size+1) rfl (by rw[au (i _ _ _ _ _ rfl)];rfl)) rfl ?_
  rw[au (i _ _ _ _ _ rfl)];exact⟨by unfold eS En.vals;rfl,below_setRow (by exact aB) (show w.heap.size<=w.heap.size+1 by omega) _⟩
end
section
theorem CJ(h:Ds.name (Ds.bl s)=ZX):s.size<=31:=by
 unfold Ds.name at h;simp only[Bool.and_eq_true,ZU,Ds.bl_length] at h
 omega
theorem rqual :
 Calls Tryz.prog 229 #[.string s] w fun e W=>e=.returned (.bool (Vp.word (Ds.bl s)))/\Z4 w.heap.size w W:=by
 have v:=dt s w;have i:=CJ s;unfold Vp.word;cases H:Ds.name (Ds.bl s)
 .rw[H] at v;clear H i;go_enter Tryz.func229,Tryz.ntmps229
  go_wp2_with ((with_reducible refine v.mono ?_);rintro _ k ⟨rfl,B⟩)
  go_ret
  exact⟨rfl,B⟩
 .rw[H] at v;have i:=i H;clear H;go_enter Tryz.func229,Tryz.ntmps229
  go_wp2_with (first|((with_reducible refine v.mono ?_);rintro _ k ⟨rfl,B⟩)|(go_at_call 149;(with_reducible refine (js s _ (by omega)).mono ?_);rintro _ m ⟨Q,q,g,C,p,l,-,-,rfl,-,-,-,j⟩;have P:=lh p;clear p))
  go_ret
  refine⟨aF ?_,bt B j⟩
  have:=congrArg List.length P.o;simp only[List.length_map,List.length_append,List.length_singleton] at this
  rw[<-this,Bool.true_and,Zn,ZU,YV];omega
theorem rowner :
 Calls Tryz.prog 148 #[.string s] w fun e W=>e=.returned (.bool (Vp.own (Ds.bl s)))/\Z4 w.heap.size w W:=by
 have q:=rqual s w;unfold Vp.own;by_cases H:s.size=0
 .have i:s.toList.isEmpty=ZX:=ju _ H;have E:(Ds.bl s).isEmpty=ZX:=by rw[Yi,Ds.bl_length];exact H
  rw[E];clear H E;go_enter Tryz.func148,Tryz.ntmps148
  go_wp2_with fail
  go_ret
  exact⟨rfl,Below.refl _ _⟩
 .have i:s.toList.isEmpty=ZW:=gG _ (by omega);have E:(Ds.bl s).isEmpty=ZW:=by rw[Bool.eq_false_iff,Ne,Yi,Ds.bl_length];exact H
  rw[E];clear H E;go_enter Tryz.func148,Tryz.ntmps148
  go_wp2_with ((with_reducible refine q.mono ?_);rintro _ j ⟨rfl,B⟩)
  go_ret
  exact⟨rfl,B⟩
theorem bqc[BEq α][LawfulBEq α](a b:α):(a==b)=(b==a):=by
 rw[Zn,YV,YV];exact eq_comm
theorem dcc[DecidableEq α](a b:α):decide (a=b)=decide (b=a):=by
 rw[Zn,ZU,ZU];exact eq_comm
theorem yY:gj e f=gj f e:=by
 unfold gj;rw[bqc e.d0,bqc e.d1,bqc e.d2,bqc e.d3,bqc e.d4,bqc e.d5,bqc e.d6,bqc e.d7,bqc e.d8,bqc e.d9,bqc e.d10,bqc e.d11,bqc e.d12,bqc e.d13,bqc e.uq,bqc e.cls,bqc e.vol.toList,bqc e.own.toList,bqc e.cr,bqc e.ex,bqc e.ar]
theorem mg:dh e f h d g c=dh f e d h c g:=by
 unfold dh;rw[yY e f,bqc e.kind,bqc e.name.toList,dcc h,bqc e.used,bqc e.lim,bqc e.last,bqc e.em,bqc e.owner.toList,bqc e.target.toList,bqc e.cat,bqc e.lev,dcc g]
theorem keep1{w W i:World}{g:Nat}{C:Zy Value}(H:Z4 W.heap.size W i)(s:row W g=C/\Z4 w.heap.size w W)(j:0<C.size) :
 row i g=C/\Z4 w.heap.size w i:=⟨am H s.1 j,bt s.2 H⟩
def nF(e:En):Bool:=Ds.group (Ds.bl e.name)&&decide (1<=e.lim)&&decide (e.lim<=63)&&decide (0<=e.last)&&decide (e.last<=9999)&&Vp.own (Ds.bl e.owner)
theorem Ee:fm e d c=(dh e (eS e) d [] c []&&nF e):=by
 unfold fm nF Vp.grp;rw[mg e (eS e)];have E:∀ l H n:Int,Vp.rng l H [n]=(decide (l<=n)&&decide (n<=H)):=fun l H n=>by simp [Vp.rng]
 rw[E,E];simp only[Bool.and_assoc]
 generalize dh (eS e) e [] d [] c=x;cases x <;> simp
attribute [local go_sem ↓] aZ bf bq
attribute [local go_sem] bn aS aH aK aT ak aI aw az aM ah aQ aL aP aO aR aY aW ap aq df dc ef bN
theorem rvalid1b(l:e.kind=1)(z:e.name.size<=60)(m:∀ W,Z4 w.heap.size w W->Calls Tryz.prog 141 #[.agg (e.vals a gr),.agg ((eS e).vals (.slice none 0 0) (.slice none 0 0))] W fun r i=>r=.returned (.bool b)/\Z4 W.heap.size W i) :
 Calls Tryz.prog 67 #[.agg (e.vals a gr)] w fun r i=>r=.returned (.bool (b&&nF e))/\Z4 w.heap.size w i:=by
 have u:=fun W=>used1 e a gr W l
 have k0:(e.kind==0)=ZW:=by rw[l];rfl
 have k1:(e.kind==1)=ZX:=by rw[l];rfl
 have U:=lh u;clear l u;have p:∀ t,Z4 w.heap.size w (w.alloc (.cells (e.vals a gr) t)).drew:=fun t=>by exact aB
 have q:∀ t,row (w.alloc (.cells (e.vals a gr) t)).drew w.heap.size=e.vals a gr:=fun t=>by rw[az];exact ak w _ t _
 cases b
 .have S:=lh m;clear m;go_enter Tryz.func67,Tryz.ntmps67
  go_wp2_with fail
  go_region_held3 (fun i=>row i w.heap.size=e.vals a gr/\Z4 w.heap.size w i) (first|exact⟨q _,p _⟩|exact keep1 H (by assumption) (by simp [ah])) (first|(go_at_call 142;(with_reducible refine (U.o _).mono ?_);rintro e K ⟨rfl,H⟩)|(go_at_call 141;(with_reducible refine (S.o _ (by assumption:row _ _=_/\Z4 _ _ _).2).mono ?_);rintro e L ⟨rfl,H⟩))
  all_goals
   go_wp2_with fail
   go_ret
   exact⟨rfl,(by assumption:row _ _=_/\Z4 _ _ _).2⟩
 .have S:=lh m;clear m;unfold nF;have n:=fun W=>oE e.name W
  have o:=fun W=>rowner e.owner W
  generalize Ds.group (Ds.bl e.name)=D at n |-;generalize Vp.own (Ds.bl e.owner)=Q at o |-;have G:=lh n;have O:=lh o;clear n o;go_enter Tryz.func67,Tryz.ntmps67
  go_wp2_with fail
  go_region_held3 (fun i=>row i w.heap.size=e.vals a gr/\Z4 w.heap.size w i) (first|exact⟨q _,p _⟩|exact keep1 H (by assumption) (by simp [ah])) (first|(go_at_call 142;(with_reducible refine (U.o _).mono ?_);rintro e K ⟨rfl,H⟩)|(go_at_call 141;(with_reducible refine (S.o _ (by assumption:row _ _=_/\Z4 _ _ _).2).mono ?_);rintro e L ⟨rfl,H⟩))
  all_goals
   obtain⟨R,B⟩:=(by assumption:row _ _=_/\Z4 _ _ _);have N:=ae R 0 _ (ap e a gr);have x:=ae R 1 _ (aq e a gr)
   go_upto_region 9 with (first
    | (go_at_call 130;(with_reducible refine (dt e.name _).mono ?_);rintro _ T ⟨rfl,H⟩;have R:=am H R (by simp [ah]);have N:=ae R 0 _ (ap e a gr);have x:=ae R 1 _ (aq e a gr);have B:=bt B H;clear H)
    | (go_at_call 143;(with_reducible refine (gI e.name _ z).mono ?_);rintro _ X ⟨rfl,H⟩;have R:=am H R (by simp [ah]);have N:=ae R 0 _ (ap e a gr);have x:=ae R 1 _ (aq e a gr);have B:=bt B H;clear H))
   have v:=ae R 25 _ (df e a gr);have V:=ae R 26 _ (dc e a gr);have j:=ae R 28 _ (bN e a gr);cases D
   .go_wp2_with (first|(go_at_call 147;(with_reducible refine (G.o _).mono ?_);rintro _ k ⟨rfl,H⟩;have R:=am H R (by simp [ah]);have v:=ae R 25 _ (df e a gr);have V:=ae R 26 _ (dc e a gr);have j:=ae R 28 _ (bN e a gr);have B:=bt B H;clear H))
    go_ret
    exact⟨rfl,B⟩
   by_cases P:1<=e.lim
   rotate_left
   .have E:decide (1<=e.lim)=ZW:=ZG P;go_wp2_with (first|(go_at_call 147;(with_reducible refine (G.o _).mono ?_);rintro _ k ⟨rfl,H⟩;have R:=am H R (by simp [ah]);have v:=ae R 25 _ (df e a gr);have V:=ae R 26 _ (dc e a gr);have j:=ae R 28 _ (bN e a gr);have B:=bt B H;clear H))
    go_ret
    exact⟨aF (by rw[E];simp),B⟩
   by_cases y:e.lim<=63
   rotate_left
   .have F:decide (e.lim<=63)=ZW:=ZG y;go_wp2_with (first|(go_at_call 147;(with_reducible refine (G.o _).mono ?_);rintro _ k ⟨rfl,H⟩;have R:=am H R (by simp [ah]);have v:=ae R 25 _ (df e a gr);have V:=ae R 26 _ (dc e a gr);have j:=ae R 28 _ (bN e a gr);have B:=bt B H;clear H))
    go_ret
    exact⟨aF (by rw[F];simp),B⟩
   by_cases A:0<=e.last
   rotate_left
   .have I:decide (0<=e.last)=ZW:=ZG A;go_wp2_with (first|(go_at_call 147;(with_reducible refine (G.o _).mono ?_);rintro _ k ⟨rfl,H⟩;have R:=am H R (by simp [ah]);have v:=ae R 25 _ (df e a gr);have V:=ae R 26 _ (dc e a gr);have j:=ae R 28 _ (bN e a gr);have B:=bt B H;clear H))
    go_ret
    exact⟨aF (by rw[I];simp),B⟩
   by_cases C:e.last<=9999
   rotate_left
   .have J:decide (e.last<=9999)=ZW:=ZG C;go_wp2_with (first|(go_at_call 147;(with_reducible refine (G.o _).mono ?_);rintro _ k ⟨rfl,H⟩;have R:=am H R (by simp [ah]);have v:=ae R 25 _ (df e a gr);have V:=ae R 26 _ (dc e a gr);have j:=ae R 28 _ (bN e a gr);have B:=bt B H;clear H))
    go_ret
    exact⟨aF (by rw[J];simp),B⟩
   .go_wp2_with (first|(go_at_call 147;(with_reducible refine (G.o _).mono ?_);rintro _ k ⟨rfl,H⟩;have R:=am H R (by simp [ah]);have v:=ae R 25 _ (df e a gr);have V:=ae R 26 _ (dc e a gr);have j:=ae R 28 _ (bN e a gr);have B:=bt B H;clear H)|(go_at_call 148;(with_reducible refine (O.o _).mono ?_);rintro _ Y ⟨rfl,H⟩;have B:=bt B H;clear H))
    go_ret
    exact⟨aF (by rw[ZI P,ZI y,ZI A,ZI C];simp),B⟩
theorem rvalid1(k:e.kind=1)(i:IS w a d)(j:GS w gr c)(H:e.name.size<=60) :
 Calls Tryz.prog 67 #[.agg (e.vals a gr)] w fun r l=>r=.returned (.bool (fm e d c))/\Z4 w.heap.size w l:=by
 rw[Ee];exact rvalid1b e a gr _ w k H fun W b=>rsame e (eS e) a gr _ _ d [] c [] W (i.below b) (IS.nil W) (j.below b) (GS.nil W)
end
end Go.Proofs.YtnkjliahpeebjaaGreatDoor
