/- Catalogs. -/
import Derived.Test.YtnkjliahpeebjaaGreatDoorAe
set_option maxRecDepth 8000
set_option maxHeartbeats 8000000
open Go.Proofs.Tryz renaming prog->Z8
open Go.RowKit renaming Below->Z4
open _root_ renaming List->Z3,if_neg->ZX,if_pos->ZT,beq_eq_false_iff_ne->ZS,bne_iff_ne->Zi,beq_iff_eq->Zb
open Bool renaming false->Z2,true->ZZ
open Go renaming Calls->ZJ
namespace Go.Proofs.YtnkjliahpeebjaaGreatDoor
open Go.RowKit
variable(v:Value)(l:Z3 Rw)(e fl cd b id:Int)(x:Fu)(a gr:Value)(w:World)
section
theorem sH:ZJ Z8 213 #[.int .i64 e] w fun r W=>r=.returned (.int .i64 (cE e))/\W=w:=by
 unfold cE;by_cases h:e=0
 subst h;rotate_left;have t:(e==0)=Z2:=ZS.2 h;rw[ZX h];by_cases H:e=6
 subst H;rotate_left;have T:(e==6)=Z2:=ZS.2 H;rw[ZX H]
 all_goals
  go_enter Tryz.func213,Tryz.ntmps213
  go_wp2_with fail
  go_ret
  exact⟨rfl,rfl⟩
def fV(l:Z3 Rw)(id:Int)(x:Fu):Int :=
 if x.1.kind≠2 then 0 else match dx l id x.1.target with
  | (y,c)=>if c≠0 then c else if Ds.gen (Ds.bl y.1.name)=ZZ\/y.1.kind=2 then 7 else 0
theorem ym(name:ByteArray):kq (dx l id name).1:=by
 rw[<-kh l 0 0 0 id name (by omega) (by omega)];exact rn l 0 0 0 id name
theorem sy(H:fl<=0)(h:0<=b):(du l fl cd b id x).1=fV l id x:=by
 unfold du fV;split
 .rfl
 .have e:=kh l fl cd b id x.1.target H h;rw[<-e];generalize bY l fl cd b id x.1.target=g;obtain⟨⟨y,c⟩,C⟩:=g;dsimp only;split
  .rfl
  .split <;> rfl
attribute [local go_sem ↓] aZ bf bq cl
attribute [local go_sem] bn aS aH bE bH aK aT ak aI aw az aM ah aQ aL aP aO aR aY aW bD ap aq
theorem rY(Q:RwS w v l)(_a1:bh (x.1.vals a gr).toList=ZZ) :
 ZJ Z8 153 #[v,.int .i64 id,.agg (x.1.vals a gr)] w fun r X=>r=.returned (.int .i64 (fV l id x))/\Z4 w.heap.size w X:=by
 have L:=lh Q;have N:=ak w (x.1.vals a gr) 29 (0,0);have Y:=ae N 0 _ (ap _ _ _);have Z:=ae N 29 _ (cB _ _ _);have d:=lh (aj w (.cells (x.1.vals a gr) 29));obtain⟨O,z,rfl,-⟩:=Q;unfold fV;by_cases E:x.1.kind=2
 rotate_left
 .rw[ZT E];have t0:(x.1.kind != 2)=ZZ:=Zi.2 E;have U:(x.1.kind==2)=Z2:=ZS.2 E;clear E;go_enter Tryz.func153,Tryz.ntmps153
  go_wp2_with fail
  go_ret
  exact⟨rfl,d.o⟩
 rw[ZX (fun h=>h E)];have m:=fun W (h:RwS W (.slice O l.length z) l)=>oZ (.slice O l.length z) l id x.1.target W h
 have p:=ym l id x.1.target;generalize dx l id x.1.target=T at m p |-;obtain⟨y,C⟩:=T;dsimp only at p |-;have F:=lh m;have P:=lh (fun W=>gI y.1.name W p);clear m;by_cases D:C=0
 rotate_left
 .rw[ZT D];have U:(C != 0)=ZZ:=by rw[Zi];exact D
  clear D;go_enter Tryz.func153,Tryz.ntmps153
  go_wp2_with (go_at_call 212;(refine (F.o _ (L.o.below d.o)).mono ?_);rintro _ q ⟨⟨A,g,rfl,I,H,f,i⟩,c⟩;have k:=ay y.1 A g (aD I) (aE H);have B:=lh (bt d.o c);have R:=ak q (y.1.vals A g) 29 (0,0);have G:=ae R 0 _ (ap _ _ _);have J:=ae R 1 _ (aq _ _ _);clear I H f i c)
  go_ret
  exact⟨rfl,bt B.o (aj _ _)⟩
 rw[ZX (fun h=>h D)];subst D;by_cases n:Ds.gen (Ds.bl y.1.name)=ZZ
 .rw[ZT (.inl n)];rw[n] at P;clear n;go_enter Tryz.func153,Tryz.ntmps153
  go_wp2_with first|go_at_call 212;(refine (F.o _ (L.o.below d.o)).mono ?_);rintro _ q ⟨⟨A,g,rfl,I,H,f,i⟩,c⟩;have k:=ay y.1 A g (aD I) (aE H);have B:=lh (bt d.o c);have R:=ak q (y.1.vals A g) 29 (0,0);have G:=ae R 0 _ (ap _ _ _);have J:=ae R 1 _ (aq _ _ _);clear I H f i c|go_at_call 143;(refine (P.o _).mono ?_);rintro _ S ⟨rfl,j⟩;have t:=lh (bt (bt B.o (aj _ _)) j);have u:=am j R (by rw[ah];decide);have K:=ae u 0 _ (ap _ _ _);clear j
  go_ret
  exact⟨rfl,t.o⟩
 have o:Ds.gen (Ds.bl y.1.name)=Z2:=Bool.eq_false_iff.2 n;rw[o] at P;by_cases s:y.1.kind=2
 .rw[ZT (.inr s)];have V:(y.1.kind==2)=ZZ:=Zb.2 s;clear o n s;go_enter Tryz.func153,Tryz.ntmps153
  go_wp2_with first|go_at_call 212;(refine (F.o _ (L.o.below d.o)).mono ?_);rintro _ q ⟨⟨A,g,rfl,I,H,f,i⟩,c⟩;have k:=ay y.1 A g (aD I) (aE H);have B:=lh (bt d.o c);have R:=ak q (y.1.vals A g) 29 (0,0);have G:=ae R 0 _ (ap _ _ _);have J:=ae R 1 _ (aq _ _ _);clear I H f i c|go_at_call 143;(refine (P.o _).mono ?_);rintro _ S ⟨rfl,j⟩;have t:=lh (bt (bt B.o (aj _ _)) j);have u:=am j R (by rw[ah];decide);have K:=ae u 0 _ (ap _ _ _);clear j
  go_ret
  exact⟨rfl,t.o⟩
 .rw[ZX (by rintro (h|h);exact n h;exact s h)];have V:(y.1.kind==2)=Z2:=ZS.2 s;clear o n s;go_enter Tryz.func153,Tryz.ntmps153
  go_wp2_with first|go_at_call 212;(refine (F.o _ (L.o.below d.o)).mono ?_);rintro _ q ⟨⟨A,g,rfl,I,H,f,i⟩,c⟩;have k:=ay y.1 A g (aD I) (aE H);have B:=lh (bt d.o c);have R:=ak q (y.1.vals A g) 29 (0,0);have G:=ae R 0 _ (ap _ _ _);have J:=ae R 1 _ (aq _ _ _);clear I H f i c|go_at_call 143;(refine (P.o _).mono ?_);rintro _ S ⟨rfl,j⟩;have t:=lh (bt (bt B.o (aj _ _)) j);have u:=am j R (by rw[ah];decide);have K:=ae u 0 _ (ap _ _ _);clear j
  go_ret
  exact⟨rfl,t.o⟩
end
section
theorem ul(h:aA x=ZZ):(bC x).extract 0 32=aC x.1.kind x.1.name/\32<=(bC x).size:=by
 have H:Ds.bl (bC x)=dL x++dX x:=by unfold bC;rw[ZT h,Ds.bl_mk];rfl
 have k:=ki x h;have z:32<=(bC x).size:=by rw[<-Ds.bl_length,H,List.length_append,k];omega
 refine⟨Ds.bl_inj ?_,z⟩
 rw[iU]
 have e:Ds.bl ((bC x).extract 0 32)=(Ds.bl (bC x)).take 32:=by
  unfold Ds.bl;rw[ByteArray.data_extract,Array.toList_extract];simp [List.extract]
 rw[e,H,List.take_append_of_le_length (by omega),List.take_of_length_le (by omega)];rfl
attribute [local go_sem ↓] aZ bf bq cl eX
attribute [local go_sem] bn aS aH bE bH aK aT ak aI aw az aM ah aQ aL aP aO aR aY aW bD ap aq
theorem pI(h:aA x=ZZ)(_a1:bh (x.1.vals a gr).toList=ZZ)(i:∀ W,Z4 w.heap.size w W->ZJ Z8 136 #[.agg (x.1.vals a gr)] W fun r c=>r=.returned (.tuple #[.string (bC x),.int .i64 0])/\Z4 W.heap.size W c) :
 ZJ Z8 154 #[.int .i64 id,.agg (x.1.vals a gr)] w fun r c=>r=.returned (.agg (ch5 (bI id x)))/\Z4 w.heap.size w c:=by
 have E:=lh i;have R:=aI w (x.1.vals a gr) 29 (0,0) (.cells fH 67);have f:=Held.new (w.alloc (.cells (x.1.vals a gr) 29)) fH 67 5 rfl (by decide);rw[World.size_alloc] at f;obtain⟨g,j⟩:=ul x h;clear i h;unfold fH at *;unfold bI;generalize bC x=z at E g j |-;generalize aC x.1.kind x.1.name=k at g |-;go_enter Tryz.func154,Tryz.ntmps154
 go_wp2_with (go_at_call 136;(refine (E.o _ (below2' _ _ _)).mono ?_);rintro _ m ⟨rfl,H⟩;have d:=f.below H;have B:=lh (bt (below2' _ _ _) H);clear H)
 refine bodyPost_ret (gN (n:=4) rfl Tryz.underlying67 rfl (by kernel_rfl) _ _ (w.heap.size+1) rfl (by rw[au d];rfl)) rfl ?_
 rw[au d];exact⟨rfl,below_setRow B.o (by omega) _⟩
end
section
def jP(l:Z3 Rw)(id:Int)(x:Fu):Z3 Ch × Int :=
 if aA x=ZZ then
  if (bz l id x.1.kind x.1.name).2≠0 then ([],(bz l id x.1.kind x.1.name).2)
  else if fV l id x≠0 then ([],fV l id x)
  else ([bI id x],0)
 else ([],1)
theorem FG(h:fl<=0)(H:0<=b):(iM l fl cd b id x).1=jP l id x:=by
 unfold iM jP;have e:=iz l fl cd b id x.1.kind x.1.name h H;have c:=dS l fl cd b id x.1.kind x.1.name;have E:=sy l fl cd (aG l fl cd b id x.1.kind x.1.name).2 id x h (by omega);rw[<-e,<-E];split
 .split
  .rfl
  .split <;> rfl
 .rfl
attribute [local go_sem ↓] aZ bf bq cl eX
attribute [local go_sem] bn aS aH bE bH aK aT ak aI aw az aM ah aQ aL aP aO aR aY aW bD ap aq
def Ch2(w W:World)(g:Z3 Ch × Int)(r:Ending):Prop:=∃ o,r=.returned (.tuple #[o,.int .i64 g.2])/\ChS W o g.1/\Z4 w.heap.size w W
theorem yA(S:RwS w v l)(P:bh (x.1.vals a gr).toList=ZZ)(V:∀ W,Z4 w.heap.size w W->ZJ Z8 67 #[.agg (x.1.vals a gr)] W fun r j=>r=.returned (.bool (aA x))/\Z4 W.heap.size W j)(G:aA x=ZZ->∀ W,Z4 w.heap.size w W->ZJ Z8 136 #[.agg (x.1.vals a gr)] W fun r j=>r=.returned (.tuple #[.string (bC x),.int .i64 0])/\Z4 W.heap.size W j) :
 ZJ Z8 69 #[v,.int .i64 id,.agg (x.1.vals a gr)] w fun r j=>Ch2 w j (jP l id x) r:=by
 have L:=lh S;have R0:=ak w (x.1.vals a gr) 29 (0,0);have m:=lh (aj w (.cells (x.1.vals a gr) 29));obtain⟨t,c,rfl,-⟩:=S;unfold jP;cases k:aA x
 rw[ZX (by simp)];rw[k] at V;have N:=lh V;clear V G;rotate_left;rw[ZT rfl];rw[k] at V;have N:=lh V;have H:=fun W (h:RwS W (.slice t l.length c) l)=>iA (.slice t l.length c) l id x.1.kind x.1.name W h
 have i:=fun W (h:RwS W (.slice t l.length c) l)=>rY (.slice t l.length c) l id x a gr W h P
 have u:∀ W (b:Z4 w.heap.size w W),ZJ Z8 154 #[.int .i64 id,.agg (x.1.vals a gr)] W fun r j=>r=.returned (.agg #[.int .i64 0,.int .i64 id,.string (aC x.1.kind x.1.name),.string (bC x),.string ⟨#[]⟩])/\Z4 W.heap.size W j:=fun W b=>pI id x a gr W k P (fun W2 b2=>G k W2 (b.trans (b2.mono b.size)))
 have o:=fun W=>iT W (bI id x)
 unfold bI ch5 at o;dsimp only at o;have U:=lh u;have O:=lh o;clear u o V G k;unfold bI;generalize aC x.1.kind x.1.name=kz at U O |-;generalize bC x=rz at U O |-;generalize bz l id x.1.kind x.1.name=gg at H |-;obtain⟨y,C⟩:=gg;generalize fV l id x=X at i |-;dsimp only;have E:=lh H;have F:=lh i;clear H i;by_cases n:C=0
 rotate_left;rw[ZT n];have t1:(C != 0)=ZZ:=by rw[Zi];exact n
 clear n;rotate_right
 rw[ZX (fun h=>h n)];subst n;by_cases p:X=0
 rotate_left;rw[ZT p];have t1:(X != 0)=ZZ:=by rw[Zi];exact p
 clear p;rotate_right
 rw[ZX (fun h=>h p)];subst p
 all_goals
  go_enter Tryz.func69,Tryz.ntmps69
  go_wp2_with first|go_at_call 67;(refine (N.o _ m.o).mono ?_);rintro _ w2 ⟨rfl,I⟩;have B:=lh (bt m.o I);have R:=am I R0 (by rw[ah];decide);have N0:=ae R 0 _ (ap _ _ _);have N1:=ae R 1 _ (aq _ _ _);clear I|go_at_call 134;(refine (E.o _ (L.o.below B.o)).mono ?_);rintro _ Y ⟨⟨A,g,rfl,Q,s,J,K⟩,d⟩;have T:=ay y.1 A g (aD Q) (aE s);have z:=lh (bt (bt B.o d) (aj Y (.cells (y.1.vals A g) 29)));have R3:=am (bt d (aj Y (.cells (y.1.vals A g) 29))) R (by rw[ah];decide);clear Q s J K d|go_at_call 153;(refine (F.o _ (L.o.below z.o)).mono ?_);rintro _ w4 ⟨rfl,f⟩;have D:=lh (bt z.o f);have R4:=am f R3 (by rw[ah];decide);clear f|go_at_call 154;(refine (U.o _ D.o).mono ?_);rintro _ w5 ⟨rfl,q⟩;have Z:=lh (bt (bt D.o q) (aj w5 (.cells #[.int .i64 0,.int .i64 id,.string kz,.string rz,.string ⟨#[]⟩] 67)));clear q
  go_ret2
  first|exact⟨_,rfl,O.o _,Z.o⟩|exact⟨_,rfl,bu _,D.o⟩|exact⟨_,rfl,bu _,z.o⟩|exact⟨_,rfl,bu _,B.o⟩
end
section
def lR(l:Z3 Rw)(id:Int)(x:Fu):Int:=if 2<x.1.kind then (bz l id x.1.kind x.1.name).2 else (dx l id x.1.name).2
def iK(l:Z3 Rw)(id:Int)(x:Fu):Z3 Ch × Int :=
 if aA x=ZZ then
  if cE (lR l id x)≠0 then ([],cE (lR l id x))
  else if (Ds.gen (Ds.bl x.1.name)=ZZ/\x.1.kind=0)/\(bz l id 1 (dK x.1.name)).2≠0 then ([],(bz l id 1 (dK x.1.name)).2)
  else if fV l id x≠0 then ([],fV l id x)
  else ([bI id x],0)
 else ([],1)
theorem AR(H:fl<=0)(h:0<=b):(add1F l fl cd b id x).1=cE (lR l id x):=by
 unfold add1F lR;split
 .rw[iz l fl cd b id _ _ H h]
 .rw[kh l fl cd b id _ H h]
theorem Dl(g:fl<=0)(p:0<=b):(iJ l fl cd b id x).1=iK l id x:=by
 unfold iJ iK;split
 rotate_left
 .rfl
 have i:=pO l fl cd id x 0 b;have m:=AR l fl cd b id x g p;change b<=(add1F l fl cd b id x).2/\_ at i
 show (gz l fl cd id x (2+1) 0 b).1=_
 unfold gz;change (if (add1F l fl cd b id x).1≠0 then (([],(add1F l fl cd b id x).1),(add1F l fl cd b id x).2) else gz l fl cd id x 2 (0+1) (add1F l fl cd b id x).2).1=_
 rw[m];split
 .rfl
 generalize (add1F l fl cd b id x).2=c at i;have d:0<=c:=by omega
 have j:=pO l fl cd id x 1 c
 have n:(add2F l fl cd c id x).1=if Ds.gen (Ds.bl x.1.name)=ZZ/\x.1.kind=0 then (bz l id 1 (dK x.1.name)).2 else 0:=by
  unfold add2F;split
  .rw[iz l fl cd c id _ _ g d]
  .rfl
 change c<=(add2F l fl cd c id x).2/\_ at j
 unfold gz;change (if (add2F l fl cd c id x).1≠0 then (([],(add2F l fl cd c id x).1),(add2F l fl cd c id x).2) else gz l fl cd id x 1 (0+1+1) (add2F l fl cd c id x).2).1=_
 rw[n];generalize (add2F l fl cd c id x).2=C at j;have f:0<=C:=by omega
 have o:=sy l fl cd C id x g f
 have E:(gz l fl cd id x 1 (0+1+1) C).1=if fV l id x≠0 then ([],fV l id x) else ([bI id x],0):=by
  unfold gz;change (if (du l fl cd C id x).1≠0 then (([],(du l fl cd C id x).1),(du l fl cd C id x).2) else _).1=_
  rw[o];split <;> rfl
 by_cases H:Ds.gen (Ds.bl x.1.name)=ZZ/\x.1.kind=0
 .rw[ZT H];by_cases h:(bz l id 1 (dK x.1.name)).2≠0
  .rw[ZT h,ZT ⟨H,h⟩]
  .rw[ZX h,ZX (fun k=>h k.2)];exact E
 .rw[ZX H,ZX (fun h=>h rfl),ZX (fun k=>H k.1)];exact E
attribute [local go_sem ↓] aZ bf bq cl eX
attribute [local go_sem] bn aS aH bE bH aK aT ak aI aw az aM ah aQ aL aP aO aR aY aW bD ap aq
theorem Et(hl:RwS w v l)(a3:x.1.name.size<=60)(a1:bh (x.1.vals a gr).toList=ZZ)(X:∀ W,Z4 w.heap.size w W->ZJ Z8 67 #[.agg (x.1.vals a gr)] W fun r V=>r=.returned (.bool (aA x))/\Z4 W.heap.size W V)(hE:aA x=ZZ->∀ W,Z4 w.heap.size w W->ZJ Z8 136 #[.agg (x.1.vals a gr)] W fun r V=>r=.returned (.tuple #[.string (bC x),.int .i64 0])/\Z4 W.heap.size W V) :
 ZJ Z8 128 #[v,.int .i64 id,.agg (x.1.vals a gr)] w fun r V=>Ch2 w V (iK l id x) r:=by
 have L:=lh hl;have R0:=ak w (x.1.vals a gr) 29 (0,0);have n:=lh (aj w (.cells (x.1.vals a gr) 29));obtain⟨J,C,rfl,-⟩:=hl;unfold iK;cases u:aA x
 .rw[ZX (by simp)];rw[u] at X;have HV:=lh X;clear X hE;go_enter Tryz.func128,Tryz.ntmps128
  go_wp2_with (first|(go_at_call 67;(refine (HV.o _ n.o).mono ?_);rintro _ w2 ⟨rfl,d⟩;have B:=lh (bt n.o d);have R:=am d R0 (by rw[ah];decide);have N:=ae R 0 _ (ap _ _ _);have z:=ae R 1 _ (aq _ _ _);clear d))
  go_ret2
  exact⟨_,rfl,bu _,B.o⟩
 rw[ZT rfl];rw[u] at X;have HV:=lh X;have Q:=fun W (h:RwS W (.slice J l.length C) l)=>iA (.slice J l.length C) l id x.1.kind x.1.name W h
 have K:=fun W (h:RwS W (.slice J l.length C) l)=>oZ (.slice J l.length C) l id x.1.name W h
 have j:=fun W (h:RwS W (.slice J l.length C) l)=>iA (.slice J l.length C) l id 1 (dK x.1.name) W h
 have S:=fun W (h:RwS W (.slice J l.length C) l)=>rY (.slice J l.length C) l id x a gr W h a1
 have a2:∀ W (b:Z4 w.heap.size w W),ZJ Z8 154 #[.int .i64 id,.agg (x.1.vals a gr)] W fun r V=>r=.returned (.agg #[.int .i64 0,.int .i64 id,.string (aC x.1.kind x.1.name),.string (bC x),.string ⟨#[]⟩])/\Z4 W.heap.size W V:=fun W b=>pI id x a gr W u a1 (fun W2 b2=>hE u W2 (b.trans (b2.mono b.size)))
 have G:=fun W=>iT W (bI id x)
 unfold bI ch5 at G;dsimp only at G;have U:=lh a2;have O:=lh G;have p:=fun W=>gI x.1.name W a3
 clear a2 G X hE u a3;unfold bI;unfold lR;have a0:dK x.1.name=⟨(Ds.splG (Ds.bl x.1.name)).toArray⟩:=rfl;rw[a0] at j |-;clear a0;generalize (⟨(Ds.splG (Ds.bl x.1.name)).toArray⟩:ByteArray)=sg at j p |-;generalize aC x.1.kind x.1.name=kz at U O |-;generalize bC x=rz at U O |-;generalize bz l id x.1.kind x.1.name=gg at Q |-;obtain⟨y,c1⟩:=gg;generalize dx l id x.1.name=gf at K |-;obtain⟨yf,c2⟩:=gf;generalize bz l id 1 sg=gh at j |-;obtain⟨Y,c3⟩:=gh;generalize fV l id x=lc at S |-;generalize Ds.gen (Ds.bl x.1.name)=gen at p |-;generalize Ds.splN (Ds.bl x.1.name)=sn at p;dsimp only;have E:=lh Q;have D:=lh K;have F:=lh j;have Z:=lh S;have HT:=lh (fun c W=>sH c W);clear Q K j S;by_cases hk:2<x.1.kind
 .rw[ZT hk];have tk:decide (x.1.kind<=2)=Z2:=decide_eq_false (by omega);have T:(x.1.kind==0)=Z2:=ZS.2 (by omega);have k:¬ x.1.kind=0:=by omega
  clear hk;by_cases ha:cE c1=0
  rotate_left;rw[ZT ha];have ta:(cE c1 != 0)=ZZ:=Zi.2 ha;have P:=lh p;clear ha p k;rotate_left;rw[ZX (fun h=>h ha),ZX (fun h=>k h.1.2)];have ta:(cE c1 != 0)=Z2:=by rw[ha];rfl
  clear ha k;by_cases q:lc=0
  rotate_left;rw[ZT q];have t1:(lc != 0)=ZZ:=Zi.2 q;clear q;cases gen
  have P:=lh p;clear p;rotate_left;have P:=lh p;clear p;rotate_left 2;rw[ZX (fun h=>h q)];subst q;cases gen
  have P:=lh p;clear p;rotate_left;have P:=lh p;clear p
  all_goals (go_enter Tryz.func128,Tryz.ntmps128;go_wp2_with (first|(go_at_call 67;(refine (HV.o _ n.o).mono ?_);rintro _ w2 ⟨rfl,d⟩;have B:=lh (bt n.o d);have R:=am d R0 (by rw[ah];decide);have N:=ae R 0 _ (ap _ _ _);have z:=ae R 1 _ (aq _ _ _);clear d)|(go_at_call 134;(refine (E.o _ (L.o.below B.o)).mono ?_);rintro _ o ⟨⟨A,g,rfl,I,s,f,i⟩,H⟩;clear E;have m:=ay y.1 A g (aD I) (aE s);have R:=am (bt H (aj o (.cells (y.1.vals A g) 29))) R (by rw[ah];decide);have N:=ae R 0 _ (ap _ _ _);have z:=ae R 1 _ (aq _ _ _);have B:=lh (bt (bt B.o H) (aj o (.cells (y.1.vals A g) 29)));clear I s f i H)|(go_at_call 212;(refine (D.o _ (L.o.below B.o)).mono ?_);rintro _ o ⟨⟨A,g,rfl,I,s,f,i⟩,H⟩;clear D;have m:=ay yf.1 A g (aD I) (aE s);have R:=am H R (by rw[ah];decide);have N:=ae R 0 _ (ap _ _ _);have z:=ae R 1 _ (aq _ _ _);have B:=lh (bt B.o H);clear I s f i H)|(go_at_call 213;(with_reducible refine (HT.o _ _).mono ?_);rintro _ _ ⟨rfl,rfl⟩)|(go_at_call 143;(with_reducible refine (P.o _).mono ?_);rintro _ w4 ⟨rfl,d⟩;have R:=am d R (by rw[ah];decide);have N:=ae R 0 _ (ap _ _ _);have z:=ae R 1 _ (aq _ _ _);have B:=lh (bt B.o d);clear d)|(go_at_call 134;(refine (F.o _ (L.o.below B.o)).mono ?_);rintro _ o ⟨⟨A,g,rfl,I,s,f,i⟩,H⟩;clear F;have m:=ay Y.1 A g (aD I) (aE s);have R:=am (bt H (aj o (.cells (Y.1.vals A g) 29))) R (by rw[ah];decide);have N:=ae R 0 _ (ap _ _ _);have z:=ae R 1 _ (aq _ _ _);have B:=lh (bt (bt B.o H) (aj o (.cells (Y.1.vals A g) 29)));clear I s f i H)|(go_at_call 153;(refine (Z.o _ (L.o.below B.o)).mono ?_);rintro _ w5 ⟨rfl,d⟩;have R:=am d R (by rw[ah];decide);have B:=lh (bt B.o d);clear d)|(go_at_call 154;(refine (U.o _ B.o).mono ?_);rintro _ w6 ⟨rfl,d⟩;have B:=lh (bt (bt B.o d) (aj w6 (.cells #[.int .i64 0,.int .i64 id,.string kz,.string rz,.string ⟨#[]⟩] 67)));clear d)))
  all_goals go_ret2
  all_goals first
   | exact⟨_,rfl,bu _,B.o⟩
   | exact⟨_,rfl,O.o _,B.o⟩
 rw[ZX hk];have tk:decide (x.1.kind<=2)=ZZ:=decide_eq_true (by omega);clear hk;by_cases ha:cE c2=0
 rotate_left;rw[ZT ha];have ta:(cE c2 != 0)=ZZ:=Zi.2 ha;have P:=lh p;clear ha p;rotate_left;rw[ZX (fun h=>h ha)];have ta:(cE c2 != 0)=Z2:=by rw[ha];rfl
 clear ha;by_cases j:(gen=ZZ/\x.1.kind=0)/\c3≠0
 rw[ZT j];obtain⟨⟨rfl,k⟩,h3⟩:=j;have T:(x.1.kind==0)=ZZ:=Zb.2 k;have t3:(c3 != 0)=ZZ:=Zi.2 h3;have P:=lh p;clear h3 k p;rotate_left;rw[ZX j]
 have t:gen=Z2\/(gen=ZZ/\(x.1.kind==0)=Z2)\/(gen=ZZ/\(x.1.kind==0)=ZZ/\(c3 != 0)=Z2):=by
  cases gen
  .exact .inl rfl
  .by_cases k:x.1.kind=0
   .exact .inr (.inr ⟨rfl,Zb.2 k,by rw[bne_eq_false_iff_eq];exact Decidable.byContradiction fun h=>j ⟨⟨rfl,k⟩,h⟩⟩)
   .exact .inr (.inl ⟨rfl,ZS.2 k⟩)
 clear j;by_cases q:lc=0
 rotate_left;rw[ZT q];have t1:(lc != 0)=ZZ:=Zi.2 q;clear q;rcases t with rfl|⟨rfl,T⟩|⟨rfl,T,t3⟩
 rotate_left 5;rw[ZX (fun h=>h q)];subst q;rcases t with rfl|⟨rfl,T⟩|⟨rfl,T,t3⟩
 all_goals (try (have P:=lh p;clear p))
 all_goals (go_enter Tryz.func128,Tryz.ntmps128;go_wp2_with (first|(go_at_call 67;(refine (HV.o _ n.o).mono ?_);rintro _ w2 ⟨rfl,d⟩;have B:=lh (bt n.o d);have R:=am d R0 (by rw[ah];decide);have N:=ae R 0 _ (ap _ _ _);have z:=ae R 1 _ (aq _ _ _);clear d)|(go_at_call 134;(refine (E.o _ (L.o.below B.o)).mono ?_);rintro _ o ⟨⟨A,g,rfl,I,s,f,i⟩,H⟩;clear E;have m:=ay y.1 A g (aD I) (aE s);have R:=am (bt H (aj o (.cells (y.1.vals A g) 29))) R (by rw[ah];decide);have N:=ae R 0 _ (ap _ _ _);have z:=ae R 1 _ (aq _ _ _);have B:=lh (bt (bt B.o H) (aj o (.cells (y.1.vals A g) 29)));clear I s f i H)|(go_at_call 212;(refine (D.o _ (L.o.below B.o)).mono ?_);rintro _ o ⟨⟨A,g,rfl,I,s,f,i⟩,H⟩;clear D;have m:=ay yf.1 A g (aD I) (aE s);have R:=am H R (by rw[ah];decide);have N:=ae R 0 _ (ap _ _ _);have z:=ae R 1 _ (aq _ _ _);have B:=lh (bt B.o H);clear I s f i H)|(go_at_call 213;(with_reducible refine (HT.o _ _).mono ?_);rintro _ _ ⟨rfl,rfl⟩)|(go_at_call 143;(with_reducible refine (P.o _).mono ?_);rintro _ w4 ⟨rfl,d⟩;have R:=am d R (by rw[ah];decide);have N:=ae R 0 _ (ap _ _ _);have z:=ae R 1 _ (aq _ _ _);have B:=lh (bt B.o d);clear d)|(go_at_call 134;(refine (F.o _ (L.o.below B.o)).mono ?_);rintro _ o ⟨⟨A,g,rfl,I,s,f,i⟩,H⟩;clear F;have m:=ay Y.1 A g (aD I) (aE s);have R:=am (bt H (aj o (.cells (Y.1.vals A g) 29))) R (by rw[ah];decide);have N:=ae R 0 _ (ap _ _ _);have z:=ae R 1 _ (aq _ _ _);have B:=lh (bt (bt B.o H) (aj o (.cells (Y.1.vals A g) 29)));clear I s f i H)|(go_at_call 153;(refine (Z.o _ (L.o.below B.o)).mono ?_);rintro _ w5 ⟨rfl,d⟩;have R:=am d R (by rw[ah];decide);have B:=lh (bt B.o d);clear d)|(go_at_call 154;(refine (U.o _ B.o).mono ?_);rintro _ w6 ⟨rfl,d⟩;have B:=lh (bt (bt B.o d) (aj w6 (.cells #[.int .i64 0,.int .i64 id,.string kz,.string rz,.string ⟨#[]⟩] 67)));clear d)))
 all_goals go_ret2
 all_goals first
  | exact⟨_,rfl,bu _,B.o⟩
  | exact⟨_,rfl,O.o _,B.o⟩
end
end Go.Proofs.YtnkjliahpeebjaaGreatDoor
