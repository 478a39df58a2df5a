/- Catalogs. -/
import Derived.Laws.CopyOwn
import Derived.Test.YtnkjliahpeebjaaGreatDoorFoC
import Derived.Laws.EntriesVeiled
set_option maxRecDepth 4000
set_option maxHeartbeats 800000
open Option renaming some->Z9,none->Z7
open Go.Proofs.Tryz renaming prog->Z8
open _root_ renaming ByteArray->Z6,List->Z1,UInt8->ZM,Array->Zy
open Go.RowKit renaming Below->Z4
open Go renaming Value->Z2,World->ZY,Calls->ZH,heap_alloc_new->Zs,heap_alloc_old->Zk,TypeId->Y2,cell_of_row->Yy
open Bool renaming true->ZX,false->ZW
open Go.World renaming cell?_of_block->ZT
open Go.Instr renaming lookup->Yv,findNow->X8
namespace Go.Proofs.YtnkjliahpeebjaaGreatDoor
open Go.RowKit
variable(b:Operand->Z2)(d A K:Nat){f g n:Nat}(G i:Nat)(e:En)(a gr:Z2)(w:ZY)
section
theorem EB.new(c:Zy Z2)(t:Y2):EB (w.alloc (.cells c t)) w.heap.size c:=⟨ak w c t (0,0),fun o=>by simp,by simp⟩
theorem CL.new(t:Y2):CL (w.alloc (.cells #[.string ⟨#[]⟩,.pointer Z7] t)) w.heap.size []:=by
 refine⟨⟨#[]⟩,rfl,?_,?_,fun o=>by simp⟩ <;> simp [go_sem]
theorem WS.new(c:Zy Z2)(t T:Y2):WS ((w.alloc (.cells c t)).alloc (.cells #[.string ⟨#[]⟩,.pointer Z7] T)) (w.heap.size+1) w.heap.size [] c:=by
 have h:=CL.new (w.alloc (.cells c t)) T;rw[show (w.alloc (.cells c t)).heap.size=w.heap.size+1 by simp] at h;exact⟨h,(EB.new w c t).of_block (Zk _ _ (by simp)) (by simp),by omega,by simp⟩
def cN(l:Int)(a b c:Nat):Zy Z2:=#[.int .u8 l,.func (.func a) #[] #[],.func (.func b) #[] #[],.func (.func c) #[] #[]]
def cx(K:Nat):Prop:=∀ (s:Zy Z2) (w:ZY),(callFunc K s).run Z8 w=.ok (.enter K s) w
def Writes(w:ZY)(K:Nat)(C:Zy Z2)(l:Z1 ZM):Prop :=
 ∀ W c g,Z4 w.heap.size w W->w.heap.size<=c->w.heap.size<=g->WS W c g [] C ->
  ZH Z8 K #[.pointer (Z9 ⟨c,0,Z7⟩),.pointer (Z9 ⟨g,0,Z7⟩)] W fun r h=>r=.returned (.tuple #[])/\WS h c g l C/\W.grownBy h (Z9 c)
theorem ut(d:Int)(A K B:Nat)(c:Zy Z2)(l:Z1 ZM)(w:ZY)(E:cx K)(h:Writes w K c l) :
 ZH Z8 180 #[.agg (cN d A K B),.agg c] w fun r W=>∃ t,r=.returned (.string t)/\Ds.bl t=l/\Z4 w.heap.size w W:=by
 have H:=WS.new (w.alloc (.cells #[.int .u8 d,.func (.func A) #[] #[],.func (.func K) #[] #[],.func (.func B) #[] #[]] 142)) c 29 146;rw[show (w.alloc (.cells #[.int .u8 d,.func (.func A) #[] #[],.func (.func K) #[] #[],.func (.func B) #[] #[]] 142)).heap.size=w.heap.size+1 by simp] at H;have m:=h _ _ _ (by exact aB) (by omega) (by omega) H;have C:=lh m;clear m H h;unfold cN;unfold cx at E;go_enter Tryz.func180,Tryz.ntmps180
 go_wp2_with ((with_reducible refine C.o.mono ?_);rintro _ W ⟨rfl,⟨⟨s,o,j⟩,_⟩,k⟩;have q:=j.1;have p:=lh k;have S:=lh o;clear k o)
 go_ret
 exact⟨s,rfl,S.o,Below.trans (by exact aB) (gJ p.o (by omega) (by simp;omega))⟩
def Reads(w:ZY)(K:Nat)(l:Z1 ZM)(s:Zy Z2)(S:Z1 ZM × Nat)(P:Nat->ZY->Zy Z2->Prop):Prop :=
 ∀ W c R g,Z4 w.heap.size w W->w.heap.size<=c->w.heap.size<=R->w.heap.size<=g->RS W c R g (l,0) s ->
  ZH Z8 K #[.pointer (Z9 ⟨c,0,Z7⟩),.pointer (Z9 ⟨g,0,Z7⟩)] W fun r h=>r=.returned (.tuple #[])/\G2 W h R g/\∃ C,RS h c R g S C/\C.size=33/\bh C.toList=ZX/\P W.heap.size h C
def Stable(P:Nat->ZY->Zy Z2->Prop):Prop:=∀ b W c C,P b W C->W.heap.size<=c.heap.size->(∀ k,b<=k->k<W.heap.size->c.heap[k]?=W.heap[k]?)->P b c C
def zcells(k:Int)(n:Z6):Zy Z2:=({ En.zero with kind:=k,name:=n }:En).vals (.slice none 0 0) (.slice none 0 0)
def zlit(k:Int)(n:Z6):Zy Z2:=#[.int .i64 k,.string n,.int .i64 0,.int .i64 0,.int .i64 0,.int .i64 0,.int .i64 0,.int .i64 0,.int .i64 0,.int .i64 0,.int .i64 0,.int .i64 0,.int .i64 0,.int .i64 0,.int .i64 0,.int .i64 0,.bool ZW,.int .i64 0,.string ⟨#[]⟩,.string ⟨#[]⟩,.int .i64 0,.int .i64 0,.bool ZW,.slice Z7 0 0,.int .i64 0,.int .i64 0,.int .i64 0,.bool ZW,.string ⟨#[]⟩,.string ⟨#[]⟩,.int .i64 0,.int .i64 0,.slice Z7 0 0]
theorem eh(k:Int)(n:Z6):zlit k n=zcells k n:=by unfold zcells En.vals zlit;rfl
theorem lE{w:ZY}{c:Zy Z2}(h:EB w g c)(j:c.size=n)(H:0<n):Held w g n:=⟨by rw[h.1,j],H,h.2.1⟩
theorem Held.of_block{w w':ZY}(h:Held w g n)(k:w'.heap[g]?=w.heap[g]?):Held w' g n :=
 ⟨by have:=h.1;unfold row at *;rw[k];exact this,h.2.1,fun o=>(World.frozen?_of_block (a:=⟨g,o,Z7⟩) k).trans (h.2.2 o)⟩
theorem ba1(W:ZY)(f e z x:Zy Z2)(t T c j:Y2)(v:Z2)(l:f[2]?=Z9 v)(m:z.size=33)(h:Z4 ((((w.alloc (.cells f t)).alloc (.cells e T)).alloc (.cells z c)).alloc (.cells x j)).heap.size ((((w.alloc (.cells f t)).alloc (.cells e T)).alloc (.cells z c)).alloc (.cells x j)) W) :
 w.heap.size+4<=W.heap.size/\(∀ o O,((W.alloc o).alloc O).cell? ⟨w.heap.size,2,Z7⟩=Z9 v)/\EB W (w.heap.size+1+1+1) x/\Held W (w.heap.size+1+1) 33/\Z4 w.heap.size w W:=by
 have r:(w.alloc (.cells f t)).heap.size=w.heap.size+1:=by simp
 have q:((w.alloc (.cells f t)).alloc (.cells e T)).heap.size=w.heap.size+1+1:=by simp
 have S:(((w.alloc (.cells f t)).alloc (.cells e T)).alloc (.cells z c)).heap.size=w.heap.size+1+1+1:=by simp
 have s:((((w.alloc (.cells f t)).alloc (.cells e T)).alloc (.cells z c)).alloc (.cells x j)).heap.size=w.heap.size+1+1+1+1:=by simp
 rw[s] at h;have H:=h.size;rw[s] at H;have k:=EB.new (((w.alloc (.cells f t)).alloc (.cells e T)).alloc (.cells z c)) x j;rw[S] at k;have E:=(EB.new ((w.alloc (.cells f t)).alloc (.cells e T)) z c);rw[q] at E;have E:=E.of_block (Zk (((w.alloc (.cells f t)).alloc (.cells e T)).alloc (.cells z c)) (.cells x j) (by omega)) (by rw[S,s];omega);refine⟨H,fun o O=>?_,k.of_block (h.block _ (by omega)) (by rw[s];omega),lE (E.of_block (h.block _ (by omega)) (by rw[s];omega)) m (by decide),?_⟩
 .rw[ZT (a:=⟨w.heap.size,2,Z7⟩) (Zk _ _ (by simp;omega)),ZT (a:=⟨w.heap.size,2,Z7⟩) (Zk _ _ (by show w.heap.size<_;omega)),h.cell (p:=⟨w.heap.size,2,Z7⟩) (by show w.heap.size<_;omega)];rw[ZT (a:=⟨w.heap.size,2,Z7⟩) (Zk _ _ (by show w.heap.size<_;omega)),ZT (a:=⟨w.heap.size,2,Z7⟩) (Zk _ _ (by show w.heap.size<_;omega)),ZT (a:=⟨w.heap.size,2,Z7⟩) (Zk _ _ (by show w.heap.size<_;omega)),Yy _ w.heap.size 2 f t (0,0) (Zs w _)];exact l
 .exact ((((Below.refl w.heap.size w).alloc (Nat.le_refl _) _).alloc (by omega) _).alloc (by omega) _).alloc (by omega) _ |>.trans (h.mono (by omega))
theorem ba2(W:ZY)(g:Nat)(t:Z6)(l:Z1 ZM)(x:Zy Z2)(T c:Y2)(H:Ds.bl t=l)(h:EB W g x) :
 RS ((W.alloc (.cells #[.string t,.int .i64 0] T)).alloc (.cells #[.string ⟨#[]⟩,.pointer (Z9 ⟨W.heap.size,0,Z7⟩)] c)) (W.heap.size+1) W.heap.size g (l,0) x:=by
 have s:(W.alloc (.cells #[.string t,.int .i64 0] T)).heap.size=W.heap.size+1:=by simp
 have E:=h.of_block (Zk W (.cells #[.string t,.int .i64 0] T) h.2.2) (by simp);have j:=E.of_block (Zk (W.alloc (.cells #[.string t,.int .i64 0] T)) (.cells #[.string ⟨#[]⟩,.pointer (Z9 ⟨W.heap.size,0,Z7⟩)] c) E.2.2) (by simp);have k:=h.2.2;refine⟨?_,⟨t,H,?_,?_,fun o=>?_⟩,j,by omega,by omega,by omega,by simp,by simp;omega⟩
 .unfold CI;have:=Yy _ _ 1 _ c (0,0) (Zs (W.alloc (.cells #[.string t,.int .i64 0] T)) (.cells #[.string ⟨#[]⟩,.pointer (Z9 ⟨W.heap.size,0,Z7⟩)] c));rw[s] at this;rw[this];rfl
 .rw[ZT (a:=⟨W.heap.size,0,Z7⟩) (Zk _ _ (by simp)),Yy _ W.heap.size 0 _ T (0,0) (Zs W _)];rfl
 .rw[ZT (a:=⟨W.heap.size,1,Z7⟩) (Zk _ _ (by simp)),Yy _ W.heap.size 1 _ T (0,0) (Zs W _)];rfl
 .simp
theorem bq(dst x y t' pos af gd)(h:db (b x)=ZX)(H:Held w (bF (b x)) 33)(c:cV (b y)=ZX)(j:(bA (b y)).size=33)(k:bh (bA (b y)).toList=ZX) :
 (execOp b ⟨dst,.store 29 x y,t',pos,af,gd⟩).run Z8 w=.ok .skip (w.setRow (bF (b x)) (bA (b y))) :=
 kN b w _ 32 (by kernel_rfl) dst x y t' pos af gd h H c j k
attribute [local go_sem ↓] aZ bf bq
attribute [local go_sem] bn aS aH aK aT ak aI aw az aM ap aq ah aQ aL aP aO aR aY aW
theorem Dz(d:Int)(A K B:Nat)(e:En)(a gr:Z2)(l:Z1 ZM)(s:Z1 ZM × Nat)(P:Nat->ZY->Zy Z2->Prop)(w:ZY)(L:cx K)(h:Writes w K (e.vals a gr) l)(I:Reads w K l (zcells e.kind e.name) s P)(hP:Stable P) :
 ZH Z8 138 #[.agg (cN d A K B),.agg (e.vals a gr)] w fun r y=>∃ C b,r=.returned (.tuple #[.agg C,.bool (decide (Rd.fin s=0))])/\C.size=33/\bh C.toList=ZX/\w.heap.size<=b/\P b y C/\Z4 w.heap.size w y:=by
 have R1:∀ f U V:Obj,row ((((w.alloc f).alloc (.cells (e.vals a gr) 29)).alloc U).alloc V) (w.heap.size+1)=e.vals a gr:=fun f U V=>fA (by
  rw[Zk _ _ (by simp),Zk _ _ (by simp)];have:=Zs (w.alloc f) (.cells (e.vals a gr) 29);simpa using this)
 have H:=fun W (b:Z4 w.heap.size w W)=>ut d A K B (e.vals a gr) l W L (fun W' c g b1 c1 g1=>h W' c g (b.trans (b1.mono b.size)) (Nat.le_trans b.size c1) (Nat.le_trans b.size g1))
 unfold cN at H |-;unfold cx at L;have Y:=lh H;unfold Reads at I;have HR:=lh I;clear H I h;go_enter Tryz.func138,Tryz.ntmps138
 go_wp2_with first|go_at_call 180;(with_reducible refine (Y.o _ (by exact aB)).mono ?_);rintro _ o ⟨t,rfl,T,O⟩;obtain⟨z1,z2,Z,z4,z5⟩:=ba1 _ _ _ _ _ _ _ _ _ _ (.func (.func K) #[] #[]) rfl rfl O;have HT:=lh T;have z:EB o _ (zcells e.kind e.name):=(by rw[<-eh];exact Z);have HX:=lh z;clear O T Z z|(go_at_call 45;(with_reducible refine (rR _ _).mono ?_);rintro _ w2 ⟨rfl,rfl⟩)|(with_reducible refine (HR.o _ _ _ _ (by exact aB) (by omega) (by omega) (by omega) (ba2 _ _ _ _ _ _ _ HT.o HX.o)).mono ?_);rintro _ p ⟨rfl,N,C,S,v,x,u⟩;have Q:=S.1;unfold CI at Q;have J:=lh N;have q:=lh S;have D:=lh u;clear N S u
 have R3:=q.o.2.2.1.1
 have X:Held p (w.heap.size+1+1) 33:=z4.of_block (by
  rw[J.o.block _ (by simp;omega) (by omega) (by omega),Zk _ _ (by simp;omega),Zk _ _ (by omega)])
 have R:ZH Z8 47 #[.pointer (Z9 ⟨o.heap.size,0,Z7⟩)] p.drew fun r y=>r=.returned (.int .i64 (Rd.fin s))/\p.drew=y:=wl o.heap.size s p.drew q.o.2.1
 have HE:=lh R;have Q2:p.drew.cell? ⟨o.heap.size+1,1,Z7⟩=Z9 (.pointer (Z9 ⟨o.heap.size,0,Z7⟩)):=Q;clear R;go_region_law (first|(go_simp;go_at_call 47;(with_reducible refine HE.o.mono ?_);rintro _ w4 ⟨rfl,rfl⟩))
 all_goals
  go_wp2
  have j:row (p.drew.setRow (w.heap.size+1+1) C) (w.heap.size+1+1)=C:=au X.drew C;refine bodyPost_ret (bV rfl Tryz.underlying29 rfl (by kernel_rfl) _ _ (w.heap.size+1+1) rfl (by rw[j];exact v)) rfl ?_
  rw[j]
  have m:((Rd.fin s:Int)==0)=decide (Rd.fin s=0):=by
   rw[Bool.eq_iff_iff,beq_iff_eq,decide_eq_true_eq];omega
  have E:Z4 w.heap.size w ((o.alloc (.cells #[.string t,.int .i64 0] 188)).alloc (.cells #[.string ⟨#[]⟩,.pointer (Z9 ⟨o.heap.size,0,Z7⟩)] 146)):=(z5.alloc (by omega) _).alloc (by simp;omega) _;have F:=(E.trans (J.o.below (by omega) (by omega) (by simp;omega))).drew;exact⟨C,_,congrArg (fun b=>Ending.returned (.tuple #[.agg C,.bool b])) m,v,x,by simp;omega,hP _ _ _ _ D.o (by simp) (fun k hk _=>cP _ _ _ _ (by simp at hk;omega)),below_setRow F (by omega) _⟩
end
section
attribute [local go_sem ↓] aZ bf
attribute [local go_sem] aS aH aK aT ak aI aw az aM ap aq ah aQ aL aP aO aR aY aW bD
theorem qi(c:Zy Z2)(t:Y2)(k:Int)(v:Z2)(i:Nat)(h:X8 (.int .i64) (.int .i64 k) fe5.toList 0=Z9 (Z9 (i,v)))(w:ZY) :
 (Yv 138 (.map (Z9 (w.heap.size+1))) (.int .i64 k) ZX).run Z8 ((w.alloc (.cells c t)).alloc (.map fe5 5)).drew=.ok (.tuple #[v,.bool ZX]) ((w.alloc (.cells c t)).alloc (.map fe5 5)).drew/\
 (∀ o,(Yv 138 (.map (Z9 (w.heap.size+1))) (.int .i64 k) ZX).run Z8 (((w.alloc (.cells c t)).alloc (.map fe5 5)).alloc o).drew=.ok (.tuple #[v,.bool ZX]) (((w.alloc (.cells c t)).alloc (.map fe5 5)).alloc o).drew)/\
 (∀ o,(Yv 138 (.map (Z9 (w.heap.size+1+1))) (.int .i64 k) ZX).run Z8 (((w.alloc (.cells c t)).alloc o).alloc (.map fe5 5)).drew=.ok (.tuple #[v,.bool ZX]) (((w.alloc (.cells c t)).alloc o).alloc (.map fe5 5)).drew):=by
 have s:(w.alloc (.cells c t)).heap.size=w.heap.size+1:=by simp
 refine⟨?_,fun o=>?_,fun o=>?_⟩
 .exact ny _ _ k v i (by have:=Zs (w.alloc (.cells c t)) (.map fe5 5);rw[s] at this;exact this) h
 .refine ny _ _ k v i ?_ h
  have:=Zs (w.alloc (.cells c t)) (.map fe5 5);rw[s] at this;exact (Zk ((w.alloc (.cells c t)).alloc (.map fe5 5)) o (by simp)).trans this
 .have S:((w.alloc (.cells c t)).alloc o).heap.size=w.heap.size+1+1:=by simp
  exact ny _ _ k v i (by have:=Zs ((w.alloc (.cells c t)).alloc o) (.map fe5 5);rw[S] at this;exact this) h
def VS(w W:ZY)(f:Nat)(F c:Zy Z2):Prop:=row W f=F/\row W w.heap.size=c/\f<W.heap.size/\w.heap.size<W.heap.size/\Z4 w.heap.size w W
theorem VS.below{w W y:ZY}{F c:Zy Z2}(h:VS w W f F c)(H:Z4 W.heap.size W y):VS w y f F c:=by
 obtain⟨l,m,j,k,o⟩:=h;refine⟨?_,?_,Nat.lt_of_lt_of_le j H.size,Nat.lt_of_lt_of_le k H.size,bt o H⟩
 .unfold row at *;rw[H.block f j];exact l
 .unfold row at *;rw[H.block _ k];exact m
theorem VS.facts{w W:ZY}{d A K B:Nat}{e:En}{a gr:Z2}(h:VS w W f (cN d A K B) (e.vals a gr)) :
 W.cell? ⟨f,0,Z7⟩=Z9 (.int .u8 d)/\W.cell? ⟨f,1,Z7⟩=Z9 (.func (.func A) #[] #[])/\W.cell? ⟨f,2,Z7⟩=Z9 (.func (.func K) #[] #[])/\W.cell? ⟨f,3,Z7⟩=Z9 (.func (.func B) #[] #[])/\W.cell? ⟨w.heap.size,1,Z7⟩=Z9 (.string e.name)/\row W w.heap.size=e.vals a gr :=
 ⟨ae h.1 0 _ rfl,ae h.1 1 _ rfl,ae h.1 2 _ rfl,ae h.1 3 _ rfl,ae h.2.1 1 _ (aq e a gr),h.2.1⟩
theorem VS.mk1(F c:Zy Z2)(t T:Y2):VS w (((w.alloc (.cells c t)).alloc (.map fe5 5)).alloc (.cells F T)).drew (w.heap.size+1+1) F c:=by
 have S:(w.alloc (.cells c t)).heap.size=w.heap.size+1:=by simp
 have s:((w.alloc (.cells c t)).alloc (.map fe5 5)).heap.size=w.heap.size+1+1:=by simp
 refine⟨?_,?_,by simp,by simp;omega,by exact aB⟩
 .rw[az,<-s];exact ak _ _ _ _
 .rw[az];exact fA (t:=t) (fr:=(0,0)) ((Zk _ _ (by simp;omega)).trans ((Zk _ _ (by simp)).trans (Zs w _)))
theorem VS.mk2(F c:Zy Z2)(t T:Y2):VS w (((w.alloc (.cells c t)).alloc (.cells F T)).alloc (.map fe5 5)).drew (w.heap.size+1) F c:=by
 have s:(w.alloc (.cells c t)).heap.size=w.heap.size+1:=by simp
 refine⟨?_,?_,by simp,by simp;omega,by exact aB⟩
 .rw[az];have:=Zs (w.alloc (.cells c t)) (.cells F T);rw[s] at this;exact fA (t:=T) (fr:=(0,0)) ((Zk _ _ (by simp)).trans this)
 .rw[az];exact fA (t:=t) (fr:=(0,0)) ((Zk _ _ (by simp;omega)).trans ((Zk _ _ (by simp)).trans (Zs w _)))
theorem VS.row_alloc{w W:ZY}{F c:Zy Z2}(h:VS w W f F c)(o:Obj):row (W.alloc o) w.heap.size=c:=by
 have H:=h.2.1;unfold row at *;rw[Zk W o h.2.2.2.1];exact H
theorem lA(E:cx A)(l:X8 (.int .i64) (.int .i64 e.kind) fe5.toList 0=Z9 (Z9 (i,.agg (cN d A K G))))(m:∀ W,Z4 w.heap.size w W->ZH Z8 A #[.string e.name] W fun r j=>r=.returned (.bool ZW)/\Z4 W.heap.size W j) :
 ZH Z8 63 #[.agg (e.vals a gr)] w fun r j=>r=.returned (.bool ZW)/\Z4 w.heap.size w j:=by
 obtain⟨h,H,c⟩:=qi (e.vals a gr) 29 e.kind _ i l w;unfold cx at E;unfold cN at h H c;have N:=lh m;clear m l;go_enter Tryz.func63,Tryz.ntmps63
 go_upto_region 1 with fail
 go_cut [3,4] (fun t T x=>∃ f,t=.pointer (Z9 ⟨f,0,Z7⟩)/\T=.bool ZX/\VS w x f (cN d A K G) (e.vals a gr))
 case first =>
  go_region_law (first|(go_simp;go_at_call 74;(with_reducible refine (iC _).mono ?_);rintro _ u ⟨rfl,rfl⟩))
  all_goals
   go_wp2_with fail
   go_meet
   first|exact⟨_,rfl,rfl,VS.mk1 w _ _ _ _⟩|exact⟨_,rfl,rfl,VS.mk2 w _ _ _ _⟩
 case rest =>
  obtain⟨f,rfl,rfl,V⟩:=hcut;obtain⟨F,o,p,q,s,R⟩:=V.facts;have B:=V.2.2.2.2;go_wp2_with (first|((with_reducible refine (N.o _ B).mono ?_);rintro _ v ⟨rfl,k⟩;have V:=V.below k;clear k))
  go_ret
  exact⟨rfl,V.2.2.2.2⟩
theorem lf(E:cx A)(H:cx G)(m:X8 (.int .i64) (.int .i64 e.kind) fe5.toList 0=Z9 (Z9 (i,.agg (cN d A K G))))(o:∀ W,Z4 w.heap.size w W->ZH Z8 A #[.string e.name] W fun r c=>r=.returned (.bool ZX)/\Z4 W.heap.size W c)(v:∀ W,Z4 w.heap.size w W->ZH Z8 G #[.agg (e.vals a gr)] W fun r c=>r=.returned (.bool ZW)/\Z4 W.heap.size W c) :
 ZH Z8 63 #[.agg (e.vals a gr)] w fun r c=>r=.returned (.bool ZW)/\Z4 w.heap.size w c:=by
 obtain⟨j,k,l⟩:=qi (e.vals a gr) 29 e.kind _ i m w;unfold cx at E H;unfold cN at j k l;have N:=lh o;have p:=lh v;clear o m v;go_enter Tryz.func63,Tryz.ntmps63
 go_upto_region 1 with fail
 go_cut [3,4] (fun t T x=>∃ f,t=.pointer (Z9 ⟨f,0,Z7⟩)/\T=.bool ZX/\VS w x f (cN d A K G) (e.vals a gr))
 case first =>
  go_region_law (first|(go_simp;go_at_call 74;(with_reducible refine (iC _).mono ?_);rintro _ L ⟨rfl,rfl⟩))
  all_goals
   go_wp2_with fail
   go_meet
   first|exact⟨_,rfl,rfl,VS.mk1 w _ _ _ _⟩|exact⟨_,rfl,rfl,VS.mk2 w _ _ _ _⟩
 case rest =>
  obtain⟨f,rfl,rfl,V⟩:=hcut;obtain⟨F,q,s,u,J,R⟩:=V.facts;have B:=V.2.2.2.2;go_wp2_with (first|((with_reducible refine (N.o _ B).mono ?_);rintro _ O ⟨rfl,h⟩;have V:=V.below h;obtain⟨y,z,C,D,I,S⟩:=V.facts;have B:=V.2.2.2.2;clear h)|((with_reducible refine (p.o _ B).mono ?_);rintro _ P ⟨rfl,h⟩;have B:=bt B h))
  go_ret
  exact⟨rfl,B⟩
theorem lz(l:Z1 ZM)(y:Z1 ZM × Nat)(P:Nat->ZY->Zy Z2->Prop)(z:Bool)(w:ZY)(hE:cx A)(q:cx G)(m:cx K)(p:X8 (.int .i64) (.int .i64 e.kind) fe5.toList 0=Z9 (Z9 (i,.agg (cN d A K G))))(J:∀ W,Z4 w.heap.size w W->ZH Z8 A #[.string e.name] W fun r j=>r=.returned (.bool ZX)/\Z4 W.heap.size W j)(Q:∀ W,Z4 w.heap.size w W->ZH Z8 G #[.agg (e.vals a gr)] W fun r j=>r=.returned (.bool ZX)/\Z4 W.heap.size W j)(h:∀ W,Z4 w.heap.size w W->Writes W K (e.vals a gr) l)(N:∀ W,Z4 w.heap.size w W->Reads W K l (zcells e.kind e.name) y P)(o:Stable P)(t:Rd.fin y=0)(O:∀ W b c,Z4 w.heap.size w W->P b W c->ZH Z8 14 #[.agg c,.agg (e.vals a gr)] W fun r j=>r=.returned (.bool z)/\Z4 W.heap.size W j) :
 ZH Z8 63 #[.agg (e.vals a gr)] w fun r j=>r=.returned (.bool z)/\Z4 w.heap.size w j:=by
 obtain⟨u,v,x⟩:=qi (e.vals a gr) 29 e.kind _ i p w;have H:=fun W b=>Dz d A K G e a gr l y P W m (h W b) (N W b) o
 rw[decide_eq_true t] at H;unfold Stable at o;have S:=lh o;clear o;unfold cx at hE q;unfold cN at u v x H;have X:=lh J;have HV:=lh Q;have U:=lh H;have Z:=lh O;clear J p Q H h N t m O;go_enter Tryz.func63,Tryz.ntmps63
 go_upto_region 1 with fail
 go_cut [3,4] (fun t3 t4 wx=>∃ f,t3=.pointer (Z9 ⟨f,0,Z7⟩)/\t4=.bool ZX/\VS w wx f (cN d A K G) (e.vals a gr))
 case first =>
  go_region_law (first|(go_simp;go_at_call 74;(with_reducible refine (iC _).mono ?_);rintro _ w1 ⟨rfl,rfl⟩))
  all_goals
   go_wp2_with fail
   go_meet
   first|exact⟨_,rfl,rfl,VS.mk1 w _ _ _ _⟩|exact⟨_,rfl,rfl,VS.mk2 w _ _ _ _⟩
 case rest =>
  obtain⟨f,rfl,rfl,V⟩:=hcut;obtain⟨f0,f1,f2,f3,n1,r1⟩:=V.facts;have B:=V.2.2.2.2;go_wp2_with (first|((with_reducible refine (X.o _ B).mono ?_);rintro _ w2 ⟨rfl,H⟩;have V:=V.below H;obtain⟨C,D,E,F,R,T⟩:=V.facts;have B:=V.2.2.2.2;clear H)|((with_reducible refine (HV.o _ B).mono ?_);rintro _ w3 ⟨rfl,H⟩;have V:=V.below H;obtain⟨C,D,E,F,R,T⟩:=V.facts;have B:=V.2.2.2.2;clear H)|(go_at_call 138;(with_reducible refine (U.o _ B).mono ?_);rintro _ w4 ⟨c,b,rfl,hz,ho,a0,L,H⟩;have V:=V.below H;obtain⟨C,D,E,F,R,T⟩:=V.facts;have B:=V.2.2.2.2;have Rx:=V.row_alloc;have I:=V.2.2.2.1;have Y:=lh L;clear H L)|(go_at_call 14;(with_reducible refine (Z.o _ _ c (by exact aB) (S.o _ _ _ _ Y.o (by simp) (fun k _ p=>Zk _ _ p))).mono ?_);rintro _ w5 ⟨rfl,s⟩))
  go_ret
  exact⟨rfl,bt (B.alloc (by have:=V.2.2.2.1;omega) _) s⟩
end
end Go.Proofs.YtnkjliahpeebjaaGreatDoor
