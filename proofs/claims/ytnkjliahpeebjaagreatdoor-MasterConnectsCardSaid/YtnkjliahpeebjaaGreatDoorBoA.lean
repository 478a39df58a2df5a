/- Catalogs. -/
import Derived.Laws.CopyOwn
import Derived.Test.YtnkjliahpeebjaaGreatDoorFoC
import Derived.Laws.EntriesVeiled
set_option maxRecDepth 4000
set_option maxHeartbeats 800000
open Option renaming some->Z9,none->Z8
open _root_ renaming ByteArray->Z7,List->Z5,UInt8->ZP,Array->ZE
open Go.Proofs.Tryz renaming prog->Z6
open Go renaming Value->Z3,World->Z2,Calls->ZJ,heap_alloc_new->ZA,heap_alloc_old->Zs,TypeId->YZ,cell_of_row->YF
open Go.World renaming cell?_of_block->Z1
open Bool renaming true->ZZ,false->ZW
open Go.RowKit renaming Below->ZV
open Go.Instr renaming findNow->Yn,lookup->X6
namespace Go.Proofs.YtnkjliahpeebjaaGreatDoor
open Go.RowKit
variable(b:Operand->Z3)(j A K:Nat){f g n:Nat}(G i:Nat)(e:En)(a d:Z3)(w:Z2)
section
theorem EB.new(c:ZE Z3)(t:YZ):EB (w.alloc (.cells c t)) w.heap.size c:=⟨ak w c t (0,0),fun o=>by simp,by simp⟩
theorem CL.new(t:YZ):CL (w.alloc (.cells #[.string ⟨#[]⟩,.pointer Z8] t)) w.heap.size []:=by
 refine⟨⟨#[]⟩,rfl,?_,?_,fun o=>by simp⟩ <;> simp [go_sem]
theorem WS.new(c:ZE Z3)(t T:YZ):WS ((w.alloc (.cells c t)).alloc (.cells #[.string ⟨#[]⟩,.pointer Z8] T)) (w.heap.size+1) w.heap.size [] c:=by
 have h:=CL.new (w.alloc (.cells c t)) T;rw[show (w.alloc (.cells c t)).heap.size=w.heap.size+1 by simp] at h;exact⟨h,(EB.new w c t).of_block (Zs _ _ (by simp)) (by simp),by omega,by simp⟩
def cN(l:Int)(a b c:Nat):ZE Z3:=#[.int .u8 l,.func (.func a) #[] #[],.func (.func b) #[] #[],.func (.func c) #[] #[]]
def cx(K:Nat):Prop:=∀ (s:ZE Z3) (w:Z2),(callFunc K s).run Z6 w=.ok (.enter K s) w
def Writes(w:Z2)(K:Nat)(C:ZE Z3)(l:Z5 ZP):Prop :=
 ∀ W c g,ZV w.heap.size w W->w.heap.size<=c->w.heap.size<=g->WS W c g [] C ->
  ZJ Z6 K #[.pointer (Z9 ⟨c,0,Z8⟩),.pointer (Z9 ⟨g,0,Z8⟩)] W fun r h=>r=.returned (.tuple #[])/\WS h c g l C/\W.grownBy h (Z9 c)
theorem ut(j:Int)(A K B:Nat)(c:ZE Z3)(l:Z5 ZP)(w:Z2)(E:cx K)(h:Writes w K c l) :
 ZJ Z6 180 #[.agg (cN j A K B),.agg c] w fun r W=>∃ t,r=.returned (.string t)/\Ds.bl t=l/\ZV w.heap.size w W:=by
 have H:=WS.new (w.alloc (.cells #[.int .u8 j,.func (.func A) #[] #[],.func (.func K) #[] #[],.func (.func B) #[] #[]] 142)) c 29 146;rw[show (w.alloc (.cells #[.int .u8 j,.func (.func A) #[] #[],.func (.func K) #[] #[],.func (.func B) #[] #[]] 142)).heap.size=w.heap.size+1 by simp] at H;have o:=h _ _ _ (by exact aB) (by omega) (by omega) H;have C:=lh o;clear o H h;unfold cN;unfold cx at E;go_enter Tryz.func180,Tryz.ntmps180
 go_wp2_with ((with_reducible refine C.o.mono ?_);rintro _ W ⟨rfl,⟨⟨s,p,k⟩,_⟩,m⟩;have u:=k.1;have q:=lh m;have S:=lh p;clear m p)
 go_ret
 exact⟨s,rfl,S.o,Below.trans (by exact aB) (gJ q.o (by omega) (by simp;omega))⟩
def Reads(w:Z2)(K:Nat)(l:Z5 ZP)(s:ZE Z3)(S:Z5 ZP × Nat)(P:Nat->Z2->ZE Z3->Prop):Prop :=
 ∀ W c R g,ZV w.heap.size w W->w.heap.size<=c->w.heap.size<=R->w.heap.size<=g->RS W c R g (l,0) s ->
  ZJ Z6 K #[.pointer (Z9 ⟨c,0,Z8⟩),.pointer (Z9 ⟨g,0,Z8⟩)] W fun r h=>r=.returned (.tuple #[])/\G2 W h R g/\∃ C,RS h c R g S C/\C.size=33/\bh C.toList=ZZ/\P W.heap.size h C
def Stable(P:Nat->Z2->ZE Z3->Prop):Prop:=∀ b W c C,P b W C->W.heap.size<=c.heap.size->(∀ k,b<=k->k<W.heap.size->c.heap[k]?=W.heap[k]?)->P b c C
def zcells(k:Int)(n:Z7):ZE Z3:=({ En.zero with kind:=k,name:=n }:En).vals (.slice none 0 0) (.slice none 0 0)
def zlit(k:Int)(n:Z7):ZE Z3:=#[.int .i64 k,.string n,.int .i64 0,.int .i64 0,.int .i64 0,.int .i64 0,.int .i64 0,.int .i64 0,.int .i64 0,.int .i64 0,.int .i64 0,.int .i64 0,.int .i64 0,.int .i64 0,.int .i64 0,.int .i64 0,.bool ZW,.int .i64 0,.string ⟨#[]⟩,.string ⟨#[]⟩,.int .i64 0,.int .i64 0,.bool ZW,.slice Z8 0 0,.int .i64 0,.int .i64 0,.int .i64 0,.bool ZW,.string ⟨#[]⟩,.string ⟨#[]⟩,.int .i64 0,.int .i64 0,.slice Z8 0 0]
theorem eh(k:Int)(n:Z7):zlit k n=zcells k n:=by unfold zcells En.vals zlit;rfl
theorem lE{w:Z2}{c:ZE Z3}(h:EB w g c)(k:c.size=n)(H:0<n):Held w g n:=⟨by rw[h.1,k],H,h.2.1⟩
theorem Held.of_block{w W:Z2}(h:Held w g n)(k:W.heap[g]?=w.heap[g]?):Held W g n :=
 ⟨by have:=h.1;unfold row at *;rw[k];exact this,h.2.1,fun o=>(World.frozen?_of_block (a:=⟨g,o,Z8⟩) k).trans (h.2.2 o)⟩
theorem ba1(W:Z2)(f e z x:ZE Z3)(t T c k:YZ)(v:Z3)(m:f[2]?=Z9 v)(q:z.size=33)(h:ZV ((((w.alloc (.cells f t)).alloc (.cells e T)).alloc (.cells z c)).alloc (.cells x k)).heap.size ((((w.alloc (.cells f t)).alloc (.cells e T)).alloc (.cells z c)).alloc (.cells x k)) W) :
 w.heap.size+4<=W.heap.size/\(∀ o O,((W.alloc o).alloc O).cell? ⟨w.heap.size,2,Z8⟩=Z9 v)/\EB W (w.heap.size+1+1+1) x/\Held W (w.heap.size+1+1) 33/\ZV w.heap.size w W:=by
 have u:(w.alloc (.cells f t)).heap.size=w.heap.size+1:=by simp
 have r:((w.alloc (.cells f t)).alloc (.cells e T)).heap.size=w.heap.size+1+1:=by simp
 have S:(((w.alloc (.cells f t)).alloc (.cells e T)).alloc (.cells z c)).heap.size=w.heap.size+1+1+1:=by simp
 have s:((((w.alloc (.cells f t)).alloc (.cells e T)).alloc (.cells z c)).alloc (.cells x k)).heap.size=w.heap.size+1+1+1+1:=by simp
 rw[s] at h;have H:=h.size;rw[s] at H;have l:=EB.new (((w.alloc (.cells f t)).alloc (.cells e T)).alloc (.cells z c)) x k;rw[S] at l;have E:=(EB.new ((w.alloc (.cells f t)).alloc (.cells e T)) z c);rw[r] at E;have E:=E.of_block (Zs (((w.alloc (.cells f t)).alloc (.cells e T)).alloc (.cells z c)) (.cells x k) (by omega)) (by rw[S,s];omega);refine⟨H,fun o O=>?_,l.of_block (h.block _ (by omega)) (by rw[s];omega),lE (E.of_block (h.block _ (by omega)) (by rw[s];omega)) q (by decide),?_⟩
 .rw[Z1 (a:=⟨w.heap.size,2,Z8⟩) (Zs _ _ (by simp;omega)),Z1 (a:=⟨w.heap.size,2,Z8⟩) (Zs _ _ (by show w.heap.size<_;omega)),h.cell (p:=⟨w.heap.size,2,Z8⟩) (by show w.heap.size<_;omega)];rw[Z1 (a:=⟨w.heap.size,2,Z8⟩) (Zs _ _ (by show w.heap.size<_;omega)),Z1 (a:=⟨w.heap.size,2,Z8⟩) (Zs _ _ (by show w.heap.size<_;omega)),Z1 (a:=⟨w.heap.size,2,Z8⟩) (Zs _ _ (by show w.heap.size<_;omega)),YF _ w.heap.size 2 f t (0,0) (ZA w _)];exact m
 .exact ((((Below.refl w.heap.size w).alloc (Nat.le_refl _) _).alloc (by omega) _).alloc (by omega) _).alloc (by omega) _ |>.trans (h.mono (by omega))
theorem ba2(W:Z2)(g:Nat)(t:Z7)(l:Z5 ZP)(x:ZE Z3)(T c:YZ)(H:Ds.bl t=l)(h:EB W g x) :
 RS ((W.alloc (.cells #[.string t,.int .i64 0] T)).alloc (.cells #[.string ⟨#[]⟩,.pointer (Z9 ⟨W.heap.size,0,Z8⟩)] c)) (W.heap.size+1) W.heap.size g (l,0) x:=by
 have s:(W.alloc (.cells #[.string t,.int .i64 0] T)).heap.size=W.heap.size+1:=by simp
 have E:=h.of_block (Zs W (.cells #[.string t,.int .i64 0] T) h.2.2) (by simp);have k:=E.of_block (Zs (W.alloc (.cells #[.string t,.int .i64 0] T)) (.cells #[.string ⟨#[]⟩,.pointer (Z9 ⟨W.heap.size,0,Z8⟩)] c) E.2.2) (by simp);have m:=h.2.2;refine⟨?_,⟨t,H,?_,?_,fun o=>?_⟩,k,by omega,by omega,by omega,by simp,by simp;omega⟩
 .unfold CI;have:=YF _ _ 1 _ c (0,0) (ZA (W.alloc (.cells #[.string t,.int .i64 0] T)) (.cells #[.string ⟨#[]⟩,.pointer (Z9 ⟨W.heap.size,0,Z8⟩)] c));rw[s] at this;rw[this];rfl
 .rw[Z1 (a:=⟨W.heap.size,0,Z8⟩) (Zs _ _ (by simp)),YF _ W.heap.size 0 _ T (0,0) (ZA W _)];rfl
 .rw[Z1 (a:=⟨W.heap.size,1,Z8⟩) (Zs _ _ (by simp)),YF _ W.heap.size 1 _ T (0,0) (ZA W _)];rfl
 .simp
theorem bq(dst x y t' pos af gd)(h:db (b x)=ZZ)(H:Held w (bF (b x)) 33)(c:cV (b y)=ZZ)(k:(bA (b y)).size=33)(l:bh (bA (b y)).toList=ZZ) :
 (execOp b ⟨dst,.store 29 x y,t',pos,af,gd⟩).run Z6 w=.ok .skip (w.setRow (bF (b x)) (bA (b y))) :=
 kN b w _ 32 (by kernel_rfl) dst x y t' pos af gd h H c k l
attribute [local go_sem ↓] aZ bf bq
attribute [local go_sem] bn aS aH aK aT ak aI aw az aM ap aq ah aQ aL aP aO aR aY aW
theorem Dz(j:Int)(A K B:Nat)(e:En)(a d:Z3)(l:Z5 ZP)(s:Z5 ZP × Nat)(P:Nat->Z2->ZE Z3->Prop)(w:Z2)(N:cx K)(h:Writes w K (e.vals a d) l)(J:Reads w K l (zcells e.kind e.name) s P)(hP:Stable P) :
 ZJ Z6 138 #[.agg (cN j A K B),.agg (e.vals a d)] w fun r D=>∃ C b,r=.returned (.tuple #[.agg C,.bool (decide (Rd.fin s=0))])/\C.size=33/\bh C.toList=ZZ/\w.heap.size<=b/\P b D C/\ZV w.heap.size w D:=by
 have R1:∀ f V X:Obj,row ((((w.alloc f).alloc (.cells (e.vals a d) 29)).alloc V).alloc X) (w.heap.size+1)=e.vals a d:=fun f V X=>fA (by
  rw[Zs _ _ (by simp),Zs _ _ (by simp)];have:=ZA (w.alloc f) (.cells (e.vals a d) 29);simpa using this)
 have H:=fun W (b:ZV w.heap.size w W)=>ut j A K B (e.vals a d) l W N (fun W' c g b1 c1 g1=>h W' c g (b.trans (b1.mono b.size)) (Nat.le_trans b.size c1) (Nat.le_trans b.size g1))
 unfold cN at H |-;unfold cx at N;have HB:=lh H;unfold Reads at J;have HR:=lh J;clear H J h;go_enter Tryz.func138,Tryz.ntmps138
 go_wp2_with first|go_at_call 180;(with_reducible refine (HB.o _ (by exact aB)).mono ?_);rintro _ p ⟨t,rfl,U,R⟩;obtain⟨z1,z2,Z,z4,z5⟩:=ba1 _ _ _ _ _ _ _ _ _ _ (.func (.func K) #[] #[]) rfl rfl R;have HT:=lh U;have z:EB p _ (zcells e.kind e.name):=(by rw[<-eh];exact Z);have HX:=lh z;clear R U Z z|(go_at_call 45;(with_reducible refine (rR _ _).mono ?_);rintro _ w2 ⟨rfl,rfl⟩)|(with_reducible refine (HR.o _ _ _ _ (by exact aB) (by omega) (by omega) (by omega) (ba2 _ _ _ _ _ _ _ HT.o HX.o)).mono ?_);rintro _ q ⟨rfl,O,C,S,x,y,v⟩;have Q:=S.1;unfold CI at Q;have L:=lh O;have u:=lh S;have E:=lh v;clear O S v
 have R3:=u.o.2.2.1.1
 have Y:Held q (w.heap.size+1+1) 33:=z4.of_block (by
  rw[L.o.block _ (by simp;omega) (by omega) (by omega),Zs _ _ (by simp;omega),Zs _ _ (by omega)])
 have T:ZJ Z6 47 #[.pointer (Z9 ⟨p.heap.size,0,Z8⟩)] q.drew fun r D=>r=.returned (.int .i64 (Rd.fin s))/\q.drew=D:=wl p.heap.size s q.drew u.o.2.1
 have HE:=lh T;have Q2:q.drew.cell? ⟨p.heap.size+1,1,Z8⟩=Z9 (.pointer (Z9 ⟨p.heap.size,0,Z8⟩)):=Q;clear T;go_region_law (first|(go_simp;go_at_call 47;(with_reducible refine HE.o.mono ?_);rintro _ w4 ⟨rfl,rfl⟩))
 all_goals
  go_wp2
  have m:row (q.drew.setRow (w.heap.size+1+1) C) (w.heap.size+1+1)=C:=au Y.drew C;refine bodyPost_ret (bV rfl Tryz.underlying29 rfl (by kernel_rfl) _ _ (w.heap.size+1+1) rfl (by rw[m];exact x)) rfl ?_
  rw[m]
  have o:((Rd.fin s:Int)==0)=decide (Rd.fin s=0):=by
   rw[Bool.eq_iff_iff,beq_iff_eq,decide_eq_true_eq];omega
  have F:ZV w.heap.size w ((p.alloc (.cells #[.string t,.int .i64 0] 188)).alloc (.cells #[.string ⟨#[]⟩,.pointer (Z9 ⟨p.heap.size,0,Z8⟩)] 146)):=(z5.alloc (by omega) _).alloc (by simp;omega) _;have I:=(F.trans (L.o.below (by omega) (by omega) (by simp;omega))).drew;exact⟨C,_,congrArg (fun b=>Ending.returned (.tuple #[.agg C,.bool b])) o,x,y,by simp;omega,hP _ _ _ _ E.o (by simp) (fun k hk _=>cP _ _ _ _ (by simp at hk;omega)),below_setRow I (by omega) _⟩
end
section
attribute [local go_sem ↓] aZ bf
attribute [local go_sem] aS aH aK aT ak aI aw az aM ap aq ah aQ aL aP aO aR aY aW bD
theorem qi(c:ZE Z3)(t:YZ)(k:Int)(v:Z3)(i:Nat)(h:Yn (.int .i64) (.int .i64 k) fe5.toList 0=Z9 (Z9 (i,v)))(w:Z2) :
 (X6 138 (.map (Z9 (w.heap.size+1))) (.int .i64 k) ZZ).run Z6 ((w.alloc (.cells c t)).alloc (.map fe5 5)).drew=.ok (.tuple #[v,.bool ZZ]) ((w.alloc (.cells c t)).alloc (.map fe5 5)).drew/\
 (∀ o,(X6 138 (.map (Z9 (w.heap.size+1))) (.int .i64 k) ZZ).run Z6 (((w.alloc (.cells c t)).alloc (.map fe5 5)).alloc o).drew=.ok (.tuple #[v,.bool ZZ]) (((w.alloc (.cells c t)).alloc (.map fe5 5)).alloc o).drew)/\
 (∀ o,(X6 138 (.map (Z9 (w.heap.size+1+1))) (.int .i64 k) ZZ).run Z6 (((w.alloc (.cells c t)).alloc o).alloc (.map fe5 5)).drew=.ok (.tuple #[v,.bool ZZ]) (((w.alloc (.cells c t)).alloc o).alloc (.map fe5 5)).drew):=by
 have s:(w.alloc (.cells c t)).heap.size=w.heap.size+1:=by simp
 refine⟨?_,fun o=>?_,fun o=>?_⟩
 .exact ny _ _ k v i (by have:=ZA (w.alloc (.cells c t)) (.map fe5 5);rw[s] at this;exact this) h
 .refine ny _ _ k v i ?_ h
  have:=ZA (w.alloc (.cells c t)) (.map fe5 5);rw[s] at this;exact (Zs ((w.alloc (.cells c t)).alloc (.map fe5 5)) o (by simp)).trans this
 .have S:((w.alloc (.cells c t)).alloc o).heap.size=w.heap.size+1+1:=by simp
  exact ny _ _ k v i (by have:=ZA ((w.alloc (.cells c t)).alloc o) (.map fe5 5);rw[S] at this;exact this) h
def VS(w W:Z2)(f:Nat)(F c:ZE Z3):Prop:=row W f=F/\row W w.heap.size=c/\f<W.heap.size/\w.heap.size<W.heap.size/\ZV w.heap.size w W
theorem VS.below{w W y:Z2}{F c:ZE Z3}(h:VS w W f F c)(H:ZV W.heap.size W y):VS w y f F c:=by
 obtain⟨m,o,k,l,p⟩:=h;refine⟨?_,?_,Nat.lt_of_lt_of_le k H.size,Nat.lt_of_lt_of_le l H.size,bt p H⟩
 .unfold row at *;rw[H.block f k];exact m
 .unfold row at *;rw[H.block _ l];exact o
theorem VS.facts{w W:Z2}{j A K B:Nat}{e:En}{a d:Z3}(h:VS w W f (cN j A K B) (e.vals a d)) :
 W.cell? ⟨f,0,Z8⟩=Z9 (.int .u8 j)/\W.cell? ⟨f,1,Z8⟩=Z9 (.func (.func A) #[] #[])/\W.cell? ⟨f,2,Z8⟩=Z9 (.func (.func K) #[] #[])/\W.cell? ⟨f,3,Z8⟩=Z9 (.func (.func B) #[] #[])/\W.cell? ⟨w.heap.size,1,Z8⟩=Z9 (.string e.name)/\row W w.heap.size=e.vals a d :=
 ⟨ae h.1 0 _ rfl,ae h.1 1 _ rfl,ae h.1 2 _ rfl,ae h.1 3 _ rfl,ae h.2.1 1 _ (aq e a d),h.2.1⟩
theorem VS.mk1(F c:ZE Z3)(t T:YZ):VS w (((w.alloc (.cells c t)).alloc (.map fe5 5)).alloc (.cells F T)).drew (w.heap.size+1+1) F c:=by
 have S:(w.alloc (.cells c t)).heap.size=w.heap.size+1:=by simp
 have s:((w.alloc (.cells c t)).alloc (.map fe5 5)).heap.size=w.heap.size+1+1:=by simp
 refine⟨?_,?_,by simp,by simp;omega,by exact aB⟩
 .rw[az,<-s];exact ak _ _ _ _
 .rw[az];exact fA (t:=t) (fr:=(0,0)) ((Zs _ _ (by simp;omega)).trans ((Zs _ _ (by simp)).trans (ZA w _)))
theorem VS.mk2(F c:ZE Z3)(t T:YZ):VS w (((w.alloc (.cells c t)).alloc (.cells F T)).alloc (.map fe5 5)).drew (w.heap.size+1) F c:=by
 have s:(w.alloc (.cells c t)).heap.size=w.heap.size+1:=by simp
 refine⟨?_,?_,by simp,by simp;omega,by exact aB⟩
 .rw[az];have:=ZA (w.alloc (.cells c t)) (.cells F T);rw[s] at this;exact fA (t:=T) (fr:=(0,0)) ((Zs _ _ (by simp)).trans this)
 .rw[az];exact fA (t:=t) (fr:=(0,0)) ((Zs _ _ (by simp;omega)).trans ((Zs _ _ (by simp)).trans (ZA w _)))
theorem VS.row_alloc{w W:Z2}{F c:ZE Z3}(h:VS w W f F c)(o:Obj):row (W.alloc o) w.heap.size=c:=by
 have H:=h.2.1;unfold row at *;rw[Zs W o h.2.2.2.1];exact H
theorem lA(E:cx A)(m:Yn (.int .i64) (.int .i64 e.kind) fe5.toList 0=Z9 (Z9 (i,.agg (cN j A K G))))(o:∀ W,ZV w.heap.size w W->ZJ Z6 A #[.string e.name] W fun r k=>r=.returned (.bool ZW)/\ZV W.heap.size W k) :
 ZJ Z6 63 #[.agg (e.vals a d)] w fun r k=>r=.returned (.bool ZW)/\ZV w.heap.size w k:=by
 obtain⟨h,H,c⟩:=qi (e.vals a d) 29 e.kind _ i m w;unfold cx at E;unfold cN at h H c;have N:=lh o;clear o m;go_enter Tryz.func63,Tryz.ntmps63
 go_upto_region 1 with fail
 go_cut [3,4] (fun t T x=>∃ f,t=.pointer (Z9 ⟨f,0,Z8⟩)/\T=.bool ZZ/\VS w x f (cN j A K G) (e.vals a d))
 case first =>
  go_region_law (first|(go_simp;go_at_call 74;(with_reducible refine (iC _).mono ?_);rintro _ v ⟨rfl,rfl⟩))
  all_goals
   go_wp2_with fail
   go_meet
   first|exact⟨_,rfl,rfl,VS.mk1 w _ _ _ _⟩|exact⟨_,rfl,rfl,VS.mk2 w _ _ _ _⟩
 case rest =>
  obtain⟨f,rfl,rfl,V⟩:=hcut;obtain⟨F,p,q,s,u,R⟩:=V.facts;have B:=V.2.2.2.2;go_wp2_with (first|((with_reducible refine (N.o _ B).mono ?_);rintro _ y ⟨rfl,l⟩;have V:=V.below l;clear l))
  go_ret
  exact⟨rfl,V.2.2.2.2⟩
theorem lf(E:cx A)(H:cx G)(o:Yn (.int .i64) (.int .i64 e.kind) fe5.toList 0=Z9 (Z9 (i,.agg (cN j A K G))))(p:∀ W,ZV w.heap.size w W->ZJ Z6 A #[.string e.name] W fun r c=>r=.returned (.bool ZZ)/\ZV W.heap.size W c)(v:∀ W,ZV w.heap.size w W->ZJ Z6 G #[.agg (e.vals a d)] W fun r c=>r=.returned (.bool ZW)/\ZV W.heap.size W c) :
 ZJ Z6 63 #[.agg (e.vals a d)] w fun r c=>r=.returned (.bool ZW)/\ZV w.heap.size w c:=by
 obtain⟨k,l,m⟩:=qi (e.vals a d) 29 e.kind _ i o w;unfold cx at E H;unfold cN at k l m;have N:=lh p;have q:=lh v;clear p o v;go_enter Tryz.func63,Tryz.ntmps63
 go_upto_region 1 with fail
 go_cut [3,4] (fun t T x=>∃ f,t=.pointer (Z9 ⟨f,0,Z8⟩)/\T=.bool ZZ/\VS w x f (cN j A K G) (e.vals a d))
 case first =>
  go_region_law (first|(go_simp;go_at_call 74;(with_reducible refine (iC _).mono ?_);rintro _ O ⟨rfl,rfl⟩))
  all_goals
   go_wp2_with fail
   go_meet
   first|exact⟨_,rfl,rfl,VS.mk1 w _ _ _ _⟩|exact⟨_,rfl,rfl,VS.mk2 w _ _ _ _⟩
 case rest =>
  obtain⟨f,rfl,rfl,V⟩:=hcut;obtain⟨F,s,u,y,L,R⟩:=V.facts;have B:=V.2.2.2.2;go_wp2_with (first|((with_reducible refine (N.o _ B).mono ?_);rintro _ P ⟨rfl,h⟩;have V:=V.below h;obtain⟨z,C,D,I,J,S⟩:=V.facts;have B:=V.2.2.2.2;clear h)|((with_reducible refine (q.o _ B).mono ?_);rintro _ Q ⟨rfl,h⟩;have B:=bt B h))
  go_ret
  exact⟨rfl,B⟩
theorem lz(l:Z5 ZP)(C:Z5 ZP × Nat)(P:Nat->Z2->ZE Z3->Prop)(z:Bool)(w:Z2)(hE:cx A)(s:cx G)(o:cx K)(q:Yn (.int .i64) (.int .i64 e.kind) fe5.toList 0=Z9 (Z9 (i,.agg (cN j A K G))))(L:∀ W,ZV w.heap.size w W->ZJ Z6 A #[.string e.name] W fun r m=>r=.returned (.bool ZZ)/\ZV W.heap.size W m)(R:∀ W,ZV w.heap.size w W->ZJ Z6 G #[.agg (e.vals a d)] W fun r m=>r=.returned (.bool ZZ)/\ZV W.heap.size W m)(h:∀ W,ZV w.heap.size w W->Writes W K (e.vals a d) l)(O:∀ W,ZV w.heap.size w W->Reads W K l (zcells e.kind e.name) C P)(p:Stable P)(t:Rd.fin C=0)(Q:∀ W b c,ZV w.heap.size w W->P b W c->ZJ Z6 14 #[.agg c,.agg (e.vals a d)] W fun r m=>r=.returned (.bool z)/\ZV W.heap.size W m) :
 ZJ Z6 63 #[.agg (e.vals a d)] w fun r m=>r=.returned (.bool z)/\ZV w.heap.size w m:=by
 obtain⟨v,x,y⟩:=qi (e.vals a d) 29 e.kind _ i q w;have H:=fun W b=>Dz j A K G e a d l C P W o (h W b) (O W b) p
 rw[decide_eq_true t] at H;unfold Stable at p;have S:=lh p;clear p;unfold cx at hE s;unfold cN at v x y H;have Y:=lh L;have HV:=lh R;have X:=lh H;have HS:=lh Q;clear L q R H h O t o Q;go_enter Tryz.func63,Tryz.ntmps63
 go_upto_region 1 with fail
 go_cut [3,4] (fun t3 t4 wx=>∃ f,t3=.pointer (Z9 ⟨f,0,Z8⟩)/\t4=.bool ZZ/\VS w wx f (cN j A K G) (e.vals a d))
 case first =>
  go_region_law (first|(go_simp;go_at_call 74;(with_reducible refine (iC _).mono ?_);rintro _ w1 ⟨rfl,rfl⟩))
  all_goals
   go_wp2_with fail
   go_meet
   first|exact⟨_,rfl,rfl,VS.mk1 w _ _ _ _⟩|exact⟨_,rfl,rfl,VS.mk2 w _ _ _ _⟩
 case rest =>
  obtain⟨f,rfl,rfl,V⟩:=hcut;obtain⟨f0,f1,f2,f3,n1,r1⟩:=V.facts;have B:=V.2.2.2.2;go_wp2_with (first|((with_reducible refine (Y.o _ B).mono ?_);rintro _ w2 ⟨rfl,H⟩;have V:=V.below H;obtain⟨D,E,F,I,T,U⟩:=V.facts;have B:=V.2.2.2.2;clear H)|((with_reducible refine (HV.o _ B).mono ?_);rintro _ w3 ⟨rfl,H⟩;have V:=V.below H;obtain⟨D,E,F,I,T,U⟩:=V.facts;have B:=V.2.2.2.2;clear H)|(go_at_call 138;(with_reducible refine (X.o _ B).mono ?_);rintro _ w4 ⟨c,b,rfl,hz,ho,a0,N,H⟩;have V:=V.below H;obtain⟨D,E,F,I,T,U⟩:=V.facts;have B:=V.2.2.2.2;have Rx:=V.row_alloc;have J:=V.2.2.2.1;have Z:=lh N;clear H N)|(go_at_call 14;(with_reducible refine (HS.o _ _ c (by exact aB) (S.o _ _ _ _ Z.o (by simp) (fun k _ q=>Zs _ _ q))).mono ?_);rintro _ w5 ⟨rfl,u⟩))
  go_ret
  exact⟨rfl,bt (B.alloc (by have:=V.2.2.2.1;omega) _) u⟩
end
end Go.Proofs.YtnkjliahpeebjaaGreatDoor
