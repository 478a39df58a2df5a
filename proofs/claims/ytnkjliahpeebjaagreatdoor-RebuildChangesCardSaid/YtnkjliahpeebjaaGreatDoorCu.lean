/- Catalogs. -/
import Derived.Test.YtnkjliahpeebjaaGreatDoorAe
set_option maxRecDepth 8000
set_option maxHeartbeats 8000000
open Go.Proofs.Tryz renaming prog->Z8
open Bool renaming true->ZX,false->ZW
open _root_ renaming if_neg->ZS,if_pos->ZP,beq_eq_false_iff_ne->ZJ,beq_iff_eq->YV,bne_iff_ne->YQ
namespace Go.Proofs.YtnkjliahpeebjaaGreatDoor
open Go.RowKit
variable(v:Value)(l:List Rw)(e id:Int)(x:Fu)(a gr:Value)
section
theorem sH(w:World):Calls Z8 213 #[.int .i64 e] w fun r W=>r=.returned (.int .i64 (cE e))/\W=w:=by
 unfold cE;by_cases h:e=0
 subst h;rotate_left;have t:(e==0)=ZW:=ZJ.2 h;rw[ZS h];by_cases H:e=6
 subst H;rotate_left;have T:(e==6)=ZW:=ZJ.2 H;rw[ZS H]
 all_goals
  go_enter Tryz.func213,Tryz.ntmps213
  go_wp2_with fail
  go_ret
  exact⟨rfl,rfl⟩
def fV(l:List Rw)(id:Int)(x:Fu):Int :=
 if x.1.kind≠2 then 0 else match dx l id x.1.target with
  | (y,c)=>if c≠0 then c else if Ds.gen (Ds.bl y.1.name)=ZX\/y.1.kind=2 then 7 else 0
theorem ym(name:ByteArray):kq (dx l id name).1:=by
 rw[<-kh l 0 0 0 id name (by omega) (by omega)];exact rn l 0 0 0 id name
attribute [local go_sem ↓] aZ bf bq cl
attribute [local go_sem] bn aS aH bE bH aK aT ak aI aw az aM ah aQ aL aP aO aR aY aW bD ap aq
theorem rY(w:World)(O:RwS w v l)(_a1:bh (x.1.vals a gr).toList=ZX) :
 Calls Z8 153 #[v,.int .i64 id,.agg (x.1.vals a gr)] w fun r V=>r=.returned (.int .i64 (fV l id x))/\Below w.heap.size w V:=by
 have L:=lh O;have K:=ak w (x.1.vals a gr) 29 (0,0);have X:=ae K 0 _ (ap _ _ _);have Y:=ae K 29 _ (cB _ _ _);have c:=lh (aj w (.cells (x.1.vals a gr) 29));obtain⟨N,u,rfl,-⟩:=O;unfold fV;by_cases D:x.1.kind=2
 rotate_left
 .rw[ZP D];have Z:(x.1.kind != 2)=ZX:=YQ.2 D;have T:(x.1.kind==2)=ZW:=ZJ.2 D;clear D;go_enter Tryz.func153,Tryz.ntmps153
  go_wp2_with fail
  go_ret
  exact⟨rfl,c.o⟩
 rw[ZS (fun h=>h D)];have k:=fun W (h:RwS W (.slice N l.length u) l)=>oZ (.slice N l.length u) l id x.1.target W h
 have o:=ym l id x.1.target;generalize dx l id x.1.target=S at k o |-;obtain⟨y,C⟩:=S;dsimp only at o |-;have F:=lh k;have P:=lh (fun W=>gI y.1.name W o);clear k;by_cases z:C=0
 rotate_left
 .rw[ZP z];have T:(C != 0)=ZX:=by rw[YQ];exact z
  clear z;go_enter Tryz.func153,Tryz.ntmps153
  go_wp2_with (go_at_call 212;(refine (F.o _ (L.o.below c.o)).mono ?_);rintro _ p ⟨⟨A,g,rfl,I,H,d,f⟩,b⟩;have j:=ay y.1 A g (aD I) (aE H);have B:=lh (bt c.o b);have R:=ak p (y.1.vals A g) 29 (0,0);have E:=ae R 0 _ (ap _ _ _);have G:=ae R 1 _ (aq _ _ _);clear I H d f b)
  go_ret
  exact⟨rfl,bt B.o (aj _ _)⟩
 rw[ZS (fun h=>h z)];subst z;by_cases n:Ds.gen (Ds.bl y.1.name)=ZX
 .rw[ZP (.inl n)];rw[n] at P;clear n;go_enter Tryz.func153,Tryz.ntmps153
  go_wp2_with first|go_at_call 212;(refine (F.o _ (L.o.below c.o)).mono ?_);rintro _ p ⟨⟨A,g,rfl,I,H,d,f⟩,b⟩;have j:=ay y.1 A g (aD I) (aE H);have B:=lh (bt c.o b);have R:=ak p (y.1.vals A g) 29 (0,0);have E:=ae R 0 _ (ap _ _ _);have G:=ae R 1 _ (aq _ _ _);clear I H d f b|go_at_call 143;(refine (P.o _).mono ?_);rintro _ Q ⟨rfl,i⟩;have s:=lh (bt (bt B.o (aj _ _)) i);have t:=am i R (by rw[ah];decide);have J:=ae t 0 _ (ap _ _ _);clear i
  go_ret
  exact⟨rfl,s.o⟩
 have m:Ds.gen (Ds.bl y.1.name)=ZW:=Bool.eq_false_iff.2 n;rw[m] at P;by_cases q:y.1.kind=2
 .rw[ZP (.inr q)];have U:(y.1.kind==2)=ZX:=YV.2 q;clear m n q;go_enter Tryz.func153,Tryz.ntmps153
  go_wp2_with first|go_at_call 212;(refine (F.o _ (L.o.below c.o)).mono ?_);rintro _ p ⟨⟨A,g,rfl,I,H,d,f⟩,b⟩;have j:=ay y.1 A g (aD I) (aE H);have B:=lh (bt c.o b);have R:=ak p (y.1.vals A g) 29 (0,0);have E:=ae R 0 _ (ap _ _ _);have G:=ae R 1 _ (aq _ _ _);clear I H d f b|go_at_call 143;(refine (P.o _).mono ?_);rintro _ Q ⟨rfl,i⟩;have s:=lh (bt (bt B.o (aj _ _)) i);have t:=am i R (by rw[ah];decide);have J:=ae t 0 _ (ap _ _ _);clear i
  go_ret
  exact⟨rfl,s.o⟩
 .rw[ZS (by rintro (h|h);exact n h;exact q h)];have U:(y.1.kind==2)=ZW:=ZJ.2 q;clear m n q;go_enter Tryz.func153,Tryz.ntmps153
  go_wp2_with first|go_at_call 212;(refine (F.o _ (L.o.below c.o)).mono ?_);rintro _ p ⟨⟨A,g,rfl,I,H,d,f⟩,b⟩;have j:=ay y.1 A g (aD I) (aE H);have B:=lh (bt c.o b);have R:=ak p (y.1.vals A g) 29 (0,0);have E:=ae R 0 _ (ap _ _ _);have G:=ae R 1 _ (aq _ _ _);clear I H d f b|go_at_call 143;(refine (P.o _).mono ?_);rintro _ Q ⟨rfl,i⟩;have s:=lh (bt (bt B.o (aj _ _)) i);have t:=am i R (by rw[ah];decide);have J:=ae t 0 _ (ap _ _ _);clear i
  go_ret
  exact⟨rfl,s.o⟩
end
section
theorem ul(h:aA x=ZX):(bC x).extract 0 32=aC x.1.kind x.1.name/\32<=(bC x).size:=by
 have H:Ds.bl (bC x)=dL x++dX x:=by unfold bC;rw[ZP h,Ds.bl_mk];rfl
 have k:=ki x h;have z:32<=(bC x).size:=by rw[<-Ds.bl_length,H,List.length_append,k];omega
 refine⟨Ds.bl_inj ?_,z⟩
 rw[iU]
 have e:Ds.bl ((bC x).extract 0 32)=(Ds.bl (bC x)).take 32:=by
  unfold Ds.bl;rw[ByteArray.data_extract,Array.toList_extract];simp [List.extract]
 rw[e,H,List.take_append_of_le_length (by omega),List.take_of_length_le (by omega)];rfl
attribute [local go_sem ↓] aZ bf bq cl eX
attribute [local go_sem] bn aS aH bE bH aK aT ak aI aw az aM ah aQ aL aP aO aR aY aW bD ap aq
theorem pI(w:World)(h:aA x=ZX)(_a1:bh (x.1.vals a gr).toList=ZX)(g:∀ W,Below w.heap.size w W->Calls Z8 136 #[.agg (x.1.vals a gr)] W fun r b=>r=.returned (.tuple #[.string (bC x),.int .i64 0])/\Below W.heap.size W b) :
 Calls Z8 154 #[.int .i64 id,.agg (x.1.vals a gr)] w fun r b=>r=.returned (.agg (ch5 (bI id x)))/\Below w.heap.size w b:=by
 have E:=lh g;have R:=aI w (x.1.vals a gr) 29 (0,0) (.cells fH 67);have d:=Held.new (w.alloc (.cells (x.1.vals a gr) 29)) fH 67 5 rfl (by decide);rw[World.size_alloc] at d;obtain⟨f,i⟩:=ul x h;clear g h;unfold fH at *;unfold bI;generalize bC x=z at E f i |-;generalize aC x.1.kind x.1.name=k at f |-;go_enter Tryz.func154,Tryz.ntmps154
 go_wp2_with (go_at_call 136;(refine (E.o _ (below2' _ _ _)).mono ?_);rintro _ j ⟨rfl,H⟩;have c:=d.below H;have B:=lh (bt (below2' _ _ _) H);clear H)
 refine bodyPost_ret (gN (n:=4) rfl Tryz.underlying67 rfl (by kernel_rfl) _ _ (w.heap.size+1) rfl (by rw[au c];rfl)) rfl ?_
 rw[au c];exact⟨rfl,below_setRow B.o (by omega) _⟩
end
section
attribute [local go_sem ↓] aZ bf bq cl eX
attribute [local go_sem] bn aS aH bE bH aK aT ak aI aw az aM ah aQ aL aP aO aR aY aW bD ap aq
def Ch2(w W:World)(g:List Ch × Int)(r:Ending):Prop:=∃ o,r=.returned (.tuple #[o,.int .i64 g.2])/\ChS W o g.1/\Below w.heap.size w W
end
section
def lR(l:List Rw)(id:Int)(x:Fu):Int:=if 2<x.1.kind then (bz l id x.1.kind x.1.name).2 else (dx l id x.1.name).2
def iK(l:List Rw)(id:Int)(x:Fu):List Ch × Int :=
 if aA x=ZX then
  if cE (lR l id x)≠0 then ([],cE (lR l id x))
  else if (Ds.gen (Ds.bl x.1.name)=ZX/\x.1.kind=0)/\(bz l id 1 (dK x.1.name)).2≠0 then ([],(bz l id 1 (dK x.1.name)).2)
  else if fV l id x≠0 then ([],fV l id x)
  else ([bI id x],0)
 else ([],1)
attribute [local go_sem ↓] aZ bf bq cl eX
attribute [local go_sem] bn aS aH bE bH aK aT ak aI aw az aM ah aQ aL aP aO aR aY aW bD ap aq
theorem Et(w:World)(hl:RwS w v l)(a3:x.1.name.size<=60)(a1:bh (x.1.vals a gr).toList=ZX)(X:∀ W,Below w.heap.size w W->Calls Z8 67 #[.agg (x.1.vals a gr)] W fun r V=>r=.returned (.bool (aA x))/\Below W.heap.size W V)(hE:aA x=ZX->∀ W,Below w.heap.size w W->Calls Z8 136 #[.agg (x.1.vals a gr)] W fun r V=>r=.returned (.tuple #[.string (bC x),.int .i64 0])/\Below W.heap.size W V) :
 Calls Z8 128 #[v,.int .i64 id,.agg (x.1.vals a gr)] w fun r V=>Ch2 w V (iK l id x) r:=by
 have L:=lh hl;have R0:=ak w (x.1.vals a gr) 29 (0,0);have n:=lh (aj w (.cells (x.1.vals a gr) 29));obtain⟨J,C,rfl,-⟩:=hl;unfold iK;cases u:aA x
 .rw[ZS (by simp)];rw[u] at X;have HV:=lh X;clear X hE;go_enter Tryz.func128,Tryz.ntmps128
  go_wp2_with (first|(go_at_call 67;(refine (HV.o _ n.o).mono ?_);rintro _ w2 ⟨rfl,d⟩;have B:=lh (bt n.o d);have R:=am d R0 (by rw[ah];decide);have N:=ae R 0 _ (ap _ _ _);have z:=ae R 1 _ (aq _ _ _);clear d))
  go_ret2
  exact⟨_,rfl,bu _,B.o⟩
 rw[ZP rfl];rw[u] at X;have HV:=lh X;have Q:=fun W (h:RwS W (.slice J l.length C) l)=>iA (.slice J l.length C) l id x.1.kind x.1.name W h
 have K:=fun W (h:RwS W (.slice J l.length C) l)=>oZ (.slice J l.length C) l id x.1.name W h
 have j:=fun W (h:RwS W (.slice J l.length C) l)=>iA (.slice J l.length C) l id 1 (dK x.1.name) W h
 have S:=fun W (h:RwS W (.slice J l.length C) l)=>rY (.slice J l.length C) l id x a gr W h a1
 have a2:∀ W (b:Below w.heap.size w W),Calls Z8 154 #[.int .i64 id,.agg (x.1.vals a gr)] W fun r V=>r=.returned (.agg #[.int .i64 0,.int .i64 id,.string (aC x.1.kind x.1.name),.string (bC x),.string ⟨#[]⟩])/\Below W.heap.size W V:=fun W b=>pI id x a gr W u a1 (fun W2 b2=>hE u W2 (b.trans (b2.mono b.size)))
 have G:=fun W=>iT W (bI id x)
 unfold bI ch5 at G;dsimp only at G;have U:=lh a2;have O:=lh G;have p:=fun W=>gI x.1.name W a3
 clear a2 G X hE u a3;unfold bI;unfold lR;have a0:dK x.1.name=⟨(Ds.splG (Ds.bl x.1.name)).toArray⟩:=rfl;rw[a0] at j |-;clear a0;generalize (⟨(Ds.splG (Ds.bl x.1.name)).toArray⟩:ByteArray)=sg at j p |-;generalize aC x.1.kind x.1.name=kz at U O |-;generalize bC x=rz at U O |-;generalize bz l id x.1.kind x.1.name=gg at Q |-;obtain⟨y,c1⟩:=gg;generalize dx l id x.1.name=gf at K |-;obtain⟨yf,c2⟩:=gf;generalize bz l id 1 sg=gh at j |-;obtain⟨Y,c3⟩:=gh;generalize fV l id x=lc at S |-;generalize Ds.gen (Ds.bl x.1.name)=gen at p |-;generalize Ds.splN (Ds.bl x.1.name)=sn at p;dsimp only;have E:=lh Q;have D:=lh K;have F:=lh j;have Z:=lh S;have HT:=lh (fun c W=>sH c W);clear Q K j S;by_cases hk:2<x.1.kind
 .rw[ZP hk];have tk:decide (x.1.kind<=2)=ZW:=decide_eq_false (by omega);have T:(x.1.kind==0)=ZW:=ZJ.2 (by omega);have k:¬ x.1.kind=0:=by omega
  clear hk;by_cases ha:cE c1=0
  rotate_left;rw[ZP ha];have ta:(cE c1 != 0)=ZX:=YQ.2 ha;have P:=lh p;clear ha p k;rotate_left;rw[ZS (fun h=>h ha),ZS (fun h=>k h.1.2)];have ta:(cE c1 != 0)=ZW:=by rw[ha];rfl
  clear ha k;by_cases q:lc=0
  rotate_left;rw[ZP q];have t1:(lc != 0)=ZX:=YQ.2 q;clear q;cases gen
  have P:=lh p;clear p;rotate_left;have P:=lh p;clear p;rotate_left 2;rw[ZS (fun h=>h q)];subst q;cases gen
  have P:=lh p;clear p;rotate_left;have P:=lh p;clear p
  all_goals (go_enter Tryz.func128,Tryz.ntmps128;go_wp2_with (first|(go_at_call 67;(refine (HV.o _ n.o).mono ?_);rintro _ w2 ⟨rfl,d⟩;have B:=lh (bt n.o d);have R:=am d R0 (by rw[ah];decide);have N:=ae R 0 _ (ap _ _ _);have z:=ae R 1 _ (aq _ _ _);clear d)|(go_at_call 134;(refine (E.o _ (L.o.below B.o)).mono ?_);rintro _ o ⟨⟨A,g,rfl,I,s,f,i⟩,H⟩;clear E;have m:=ay y.1 A g (aD I) (aE s);have R:=am (bt H (aj o (.cells (y.1.vals A g) 29))) R (by rw[ah];decide);have N:=ae R 0 _ (ap _ _ _);have z:=ae R 1 _ (aq _ _ _);have B:=lh (bt (bt B.o H) (aj o (.cells (y.1.vals A g) 29)));clear I s f i H)|(go_at_call 212;(refine (D.o _ (L.o.below B.o)).mono ?_);rintro _ o ⟨⟨A,g,rfl,I,s,f,i⟩,H⟩;clear D;have m:=ay yf.1 A g (aD I) (aE s);have R:=am H R (by rw[ah];decide);have N:=ae R 0 _ (ap _ _ _);have z:=ae R 1 _ (aq _ _ _);have B:=lh (bt B.o H);clear I s f i H)|(go_at_call 213;(with_reducible refine (HT.o _ _).mono ?_);rintro _ _ ⟨rfl,rfl⟩)|(go_at_call 143;(with_reducible refine (P.o _).mono ?_);rintro _ w4 ⟨rfl,d⟩;have R:=am d R (by rw[ah];decide);have N:=ae R 0 _ (ap _ _ _);have z:=ae R 1 _ (aq _ _ _);have B:=lh (bt B.o d);clear d)|(go_at_call 134;(refine (F.o _ (L.o.below B.o)).mono ?_);rintro _ o ⟨⟨A,g,rfl,I,s,f,i⟩,H⟩;clear F;have m:=ay Y.1 A g (aD I) (aE s);have R:=am (bt H (aj o (.cells (Y.1.vals A g) 29))) R (by rw[ah];decide);have N:=ae R 0 _ (ap _ _ _);have z:=ae R 1 _ (aq _ _ _);have B:=lh (bt (bt B.o H) (aj o (.cells (Y.1.vals A g) 29)));clear I s f i H)|(go_at_call 153;(refine (Z.o _ (L.o.below B.o)).mono ?_);rintro _ w5 ⟨rfl,d⟩;have R:=am d R (by rw[ah];decide);have B:=lh (bt B.o d);clear d)|(go_at_call 154;(refine (U.o _ B.o).mono ?_);rintro _ w6 ⟨rfl,d⟩;have B:=lh (bt (bt B.o d) (aj w6 (.cells #[.int .i64 0,.int .i64 id,.string kz,.string rz,.string ⟨#[]⟩] 67)));clear d)))
  all_goals go_ret2
  all_goals first
   | exact⟨_,rfl,bu _,B.o⟩
   | exact⟨_,rfl,O.o _,B.o⟩
 rw[ZS hk];have tk:decide (x.1.kind<=2)=ZX:=decide_eq_true (by omega);clear hk;by_cases ha:cE c2=0
 rotate_left;rw[ZP ha];have ta:(cE c2 != 0)=ZX:=YQ.2 ha;have P:=lh p;clear ha p;rotate_left;rw[ZS (fun h=>h ha)];have ta:(cE c2 != 0)=ZW:=by rw[ha];rfl
 clear ha;by_cases j:(gen=ZX/\x.1.kind=0)/\c3≠0
 rw[ZP j];obtain⟨⟨rfl,k⟩,h3⟩:=j;have T:(x.1.kind==0)=ZX:=YV.2 k;have t3:(c3 != 0)=ZX:=YQ.2 h3;have P:=lh p;clear h3 k p;rotate_left;rw[ZS j]
 have t:gen=ZW\/(gen=ZX/\(x.1.kind==0)=ZW)\/(gen=ZX/\(x.1.kind==0)=ZX/\(c3 != 0)=ZW):=by
  cases gen
  .exact .inl rfl
  .by_cases k:x.1.kind=0
   .exact .inr (.inr ⟨rfl,YV.2 k,by rw[bne_eq_false_iff_eq];exact Decidable.byContradiction fun h=>j ⟨⟨rfl,k⟩,h⟩⟩)
   .exact .inr (.inl ⟨rfl,ZJ.2 k⟩)
 clear j;by_cases q:lc=0
 rotate_left;rw[ZP q];have t1:(lc != 0)=ZX:=YQ.2 q;clear q;rcases t with rfl|⟨rfl,T⟩|⟨rfl,T,t3⟩
 rotate_left 5;rw[ZS (fun h=>h q)];subst q;rcases t with rfl|⟨rfl,T⟩|⟨rfl,T,t3⟩
 all_goals (try (have P:=lh p;clear p))
 all_goals (go_enter Tryz.func128,Tryz.ntmps128;go_wp2_with (first|(go_at_call 67;(refine (HV.o _ n.o).mono ?_);rintro _ w2 ⟨rfl,d⟩;have B:=lh (bt n.o d);have R:=am d R0 (by rw[ah];decide);have N:=ae R 0 _ (ap _ _ _);have z:=ae R 1 _ (aq _ _ _);clear d)|(go_at_call 134;(refine (E.o _ (L.o.below B.o)).mono ?_);rintro _ o ⟨⟨A,g,rfl,I,s,f,i⟩,H⟩;clear E;have m:=ay y.1 A g (aD I) (aE s);have R:=am (bt H (aj o (.cells (y.1.vals A g) 29))) R (by rw[ah];decide);have N:=ae R 0 _ (ap _ _ _);have z:=ae R 1 _ (aq _ _ _);have B:=lh (bt (bt B.o H) (aj o (.cells (y.1.vals A g) 29)));clear I s f i H)|(go_at_call 212;(refine (D.o _ (L.o.below B.o)).mono ?_);rintro _ o ⟨⟨A,g,rfl,I,s,f,i⟩,H⟩;clear D;have m:=ay yf.1 A g (aD I) (aE s);have R:=am H R (by rw[ah];decide);have N:=ae R 0 _ (ap _ _ _);have z:=ae R 1 _ (aq _ _ _);have B:=lh (bt B.o H);clear I s f i H)|(go_at_call 213;(with_reducible refine (HT.o _ _).mono ?_);rintro _ _ ⟨rfl,rfl⟩)|(go_at_call 143;(with_reducible refine (P.o _).mono ?_);rintro _ w4 ⟨rfl,d⟩;have R:=am d R (by rw[ah];decide);have N:=ae R 0 _ (ap _ _ _);have z:=ae R 1 _ (aq _ _ _);have B:=lh (bt B.o d);clear d)|(go_at_call 134;(refine (F.o _ (L.o.below B.o)).mono ?_);rintro _ o ⟨⟨A,g,rfl,I,s,f,i⟩,H⟩;clear F;have m:=ay Y.1 A g (aD I) (aE s);have R:=am (bt H (aj o (.cells (Y.1.vals A g) 29))) R (by rw[ah];decide);have N:=ae R 0 _ (ap _ _ _);have z:=ae R 1 _ (aq _ _ _);have B:=lh (bt (bt B.o H) (aj o (.cells (Y.1.vals A g) 29)));clear I s f i H)|(go_at_call 153;(refine (Z.o _ (L.o.below B.o)).mono ?_);rintro _ w5 ⟨rfl,d⟩;have R:=am d R (by rw[ah];decide);have B:=lh (bt B.o d);clear d)|(go_at_call 154;(refine (U.o _ B.o).mono ?_);rintro _ w6 ⟨rfl,d⟩;have B:=lh (bt (bt B.o d) (aj w6 (.cells #[.int .i64 0,.int .i64 id,.string kz,.string rz,.string ⟨#[]⟩] 67)));clear d)))
 all_goals go_ret2
 all_goals first
  | exact⟨_,rfl,bu _,B.o⟩
  | exact⟨_,rfl,O.o _,B.o⟩
end
end Go.Proofs.YtnkjliahpeebjaaGreatDoor
