/- Catalogs. -/
import Derived.Test.YtnkjliahpeebjaaGreatDoorOd
import Derived.Test.YtnkjliahpeebjaaGreatDoorYr
set_option maxRecDepth 8000
set_option maxHeartbeats 16000000
open Option renaming some->Z9
open _root_ renaming ByteArray->Z6,List->Z1,decide_eq_true_eq->ZU,if_neg->ZS,if_pos->ZP,decide_eq_true->ZI,Option->Zp
open Go.Proofs.YtnkjliahpeebjaaGreatDoor.Ds renaming bl->Z5,name->YP,bl_mk->X1,gen->XA
open Bool renaming true->ZX,and_eq_true->ZQ,eq_false_iff->Yq
open List renaming length_append->ZO,length_cons->Zw,append_assoc->Zr,length_map->Y4,mem_cons->YX,mem_singleton->YM,mem_append->Yg,foldl_cons->XW,mem_map->Xv,pairwise_cons->Vk
open Nat renaming lt_of_lt_of_le->Zz,zero_le->Y6
open Classical renaming byContradiction->YD
namespace Go.Proofs.YtnkjliahpeebjaaGreatDoor
variable{P:Rw->Prop}{R l e D:Z1 Rw}{d id:Int}{p:Prop}{cs:Z1 Ch}(c:Ch)(x:Fu){y:Fu}{r name key:Z6}(k:Int){g a b:Z1 Ch × Int}
theorem AN{x y:Rw}(h:ed x y=false):ed y x=false:=by
 have e:ed y x=ed x y:=by unfold ed;rw[decide_eq_decide.2 (eq_comm:y.1=x.1↔x.1=y.1),decide_eq_decide.2 (eq_comm:aU y=aU x↔aU x=aU y)]
 rw[e,h]
theorem oB(x:Rw)(o:Z1 Rw):(cO x o).Perm (x::o):=by
 have e:o.takeWhile (cy x)++o.dropWhile (cy x)=o:=List.takeWhile_append_dropWhile;unfold cO;refine List.perm_middle.trans ?_
 rw[e]
theorem tB{a b:Z1 Rw}(p:a.Perm b)(h:DstL b):DstL a:=(List.Perm.pairwise_iff (fun h=>AN h) p).2 h
theorem Cv{x:Rw}{o:Z1 Rw}(h:DstL o)(H:∀ y∈o,ed x y=false):DstL (cO x o):=tB (oB x o) (Vk.2 ⟨H,h⟩)
theorem rO:∀ (l o:Z1 Rw),(l.foldl (fun o x=>cO x o) o).Perm (l++o)
 | [],o=>List.Perm.refl _
 | x::l,o=>by
   rw[XW];refine (rO l (cO x o)).trans ?_
   exact ((oB x o).append_left l).trans (List.perm_middle)
theorem rD(l:Z1 Rw):(eA l).Perm l:=by
 have:=rO l [];rwa [List.append_nil] at this
theorem Dn(h:DstL D):DstL (eJ D c):=by
 have f:DstL (cD c D):=List.Pairwise.filter _ h;unfold eJ;split
 .refine Cv f fun y m=>?_
  have i:=(List.mem_filter.1 m).2;unfold ed;rw[Yq];intro H;rw[ZQ,ZU,ZU] at H
  have j:jL c y=ZX:=by
   unfold jL;rw[ZQ,ZU,ZU];exact⟨H.1.symm,(Ds.bl_inj H.2).symm⟩
  rw[j] at i;cases i
 .exact f
theorem Dw(cs:Z1 Ch)(h:DstL D):DstL (apl D cs):=by
 have:∀ (l:Z1 Ch) (o:Z1 Rw),DstL o->DstL (l.foldl eJ o):=by
  intro l
  induction l with
  | nil=>intro o H;exact H
  | cons c l i=>intro o H;rw[XW];exact i _ (Dn c H)
 exact this cs _ (tB (rD D) h)
theorem Dm{c:Ch}(h:∀ x∈D,P x)(f:P (c.2.1,c.2.2.1,c.2.2.2.1)):∀ x∈eJ D c,P x:=by
 intro x H;unfold eJ at H;split at H
 .rcases YX.1 ((oB _ _).subset H) with rfl|H
  .exact f
  .exact h x (List.mem_filter.1 H).1
 .exact h x (List.mem_filter.1 H).1
theorem Dv(h:∀ x∈D,P x)(j:∀ c∈cs,P (c.2.1,c.2.2.1,c.2.2.2.1)):∀ x∈apl D cs,P x:=by
 have:∀ (l:Z1 Ch) (o:Z1 Rw),(∀ c∈l,P (c.2.1,c.2.2.1,c.2.2.2.1))->(∀ x∈o,P x)->∀ x∈l.foldl eJ o,P x:=by
  intro l
  induction l with
  | nil=>intro o _ H;exact H
  | cons c l I=>intro o f H;rw[XW];exact I _ (fun C i=>f C (by simp [i])) (Dm H (f c (by simp)))
 exact this cs _ j (fun x m=>h x ((rD D).subset m))
theorem oY(s:Z6):(aC k s).size<=32:=by
 rw[<-Ds.bl_length,iU];unfold Ek.key;split
 .rename_i h;rw[Zw,Ek.pad_len _ h.2];omega
 .simp
def Kz(g:Z1 Ch × Int):Prop:=∀ c∈g.1,c.2.2.1.size<=32
theorem Kz.nil(e:Int):Kz ([],e):=fun _ h=>by cases h
theorem Kz.one{c:Ch}{e:Int}(h:c.2.2.1.size<=32):Kz ([c],e):=fun d H=>by rw[YM.1 H];exact h
theorem nu(id:Int)(x:Fu):(bI id x).2.2.1.size<=32:=oY _ _
theorem mY(id:Int)(x:Fu):(bJ id x).2.2.1.size<=32:=oY _ _
theorem Kz.ite[Decidable p](h:Kz a)(H:Kz b):Kz (if p then a else b):=by split <;> assumption
theorem BG(l:Z1 Rw)(k i:Int)(x:Fu)(s:Z6):Kz (eL l k i x s):=by
 have H:∀ id d name,Kz (gX l id d name):=fun id d name=>by
  unfold gX;refine Kz.ite (Kz.nil _) (Kz.ite (Kz.nil _) (Kz.ite (Kz.ite (Kz.nil _) ?_) (Kz.one (mY _ _))))
  intro c h;rcases Yg.1 h with h|h
  .obtain⟨a,-,rfl⟩:=Xv.1 h;exact mY _ _
  .rw[YM.1 h];exact mY _ _
 have n:∀ id name t,Kz (gu l id name t):=fun id name t=>by
  unfold gu;refine Kz.ite (Kz.nil _) (Kz.ite (Kz.nil _) (Kz.ite (Kz.nil _) (Kz.ite (Kz.nil _) (Kz.ite (Kz.nil _) ?_))))
  intro c h;unfold jO at h;rcases YX.1 h with rfl|h
  .exact mY _ _
  rcases YX.1 h with rfl|h
  .exact nu _ _
  obtain⟨a,-,rfl⟩:=Xv.1 h;exact nu _ _
 unfold eL;refine Kz.ite ?_ (Kz.ite ?_ (Kz.ite ?_ (Kz.ite ?_ ?_)))
 .unfold jg iK;exact Kz.ite (Kz.ite (Kz.nil _) (Kz.ite (Kz.ite (Kz.nil _) (Kz.ite (Kz.nil _) (Kz.ite (Kz.nil _) (Kz.one (nu _ _))))) (Kz.nil _))) (Kz.nil _)
 .unfold jb;exact Kz.ite (Kz.nil _) (H _ _ _)
 .unfold jd;exact Kz.ite (Kz.nil _) (Kz.ite (Kz.nil _) (Kz.ite (Kz.nil _) (Kz.ite (Kz.nil _) (n _ _ _))))
 .unfold jf;exact Kz.ite (Kz.nil _) (Kz.ite (Kz.nil _) (Kz.ite (Kz.nil _) (Kz.ite (Kz.nil _) (Kz.ite (Kz.nil _) (Kz.one (nu _ _))))))
 .unfold jh;exact Kz.ite (Kz.nil _) (Kz.ite (Kz.nil _) (Kz.ite (Kz.nil _) (Kz.one (oY _ _))))
def Lz(n:Nat)(g:Z1 Ch × Int):Prop:=g.1.length<=n
theorem Lz.nil(n:Nat)(e:Int):Lz n ([],e):=Y6 _
theorem Lz.one{n:Nat}(h:1<=n)(c:Ch)(e:Int):Lz n ([c],e):=h
theorem Lz.ite{n:Nat}[Decidable p](h:Lz n a)(H:Lz n b):Lz n (if p then a else b):=by split <;> assumption
theorem uz(l:Z1 Rw)(k i:Int)(x:Fu)(s:Z6):Lz (l.length+2) (eL l k i x s):=by
 have one:1<=l.length+2:=by omega
 have h:∀ id d name,Lz (l.length+2) (gX l id d name):=fun id d name=>by
  unfold gX;refine Lz.ite (Lz.nil _ _) (Lz.ite (Lz.nil _ _) (Lz.ite (Lz.ite (Lz.nil _ _) ?_) (Lz.one one _ _)))
  have:=mv l id name;show (List.map (bJ id) (cW l id name).1++[_]).length<=_
  rw[ZO,Y4,List.length_singleton];omega
 have H:∀ id name t,Lz (l.length+2) (gu l id name t):=fun id name t=>by
  unfold gu;refine Lz.ite (Lz.nil _ _) (Lz.ite (Lz.nil _ _) (Lz.ite (Lz.nil _ _) (Lz.ite (Lz.nil _ _) (Lz.ite (Lz.nil _ _) ?_))))
  have:=mv l id name;show (jO id _ t (cW l id name).1).length<=_
  unfold jO;rw[Zw,Zw,Y4];omega
 unfold eL;refine Lz.ite ?_ (Lz.ite ?_ (Lz.ite ?_ (Lz.ite ?_ ?_)))
 .unfold jg iK;exact Lz.ite (Lz.ite (Lz.nil _ _) (Lz.ite (Lz.ite (Lz.nil _ _) (Lz.ite (Lz.nil _ _) (Lz.ite (Lz.nil _ _) (Lz.one one _ _)))) (Lz.nil _ _))) (Lz.nil _ _)
 .unfold jb;exact Lz.ite (Lz.nil _ _) (h _ _ _)
 .unfold jd;exact Lz.ite (Lz.nil _ _) (Lz.ite (Lz.nil _ _) (Lz.ite (Lz.nil _ _) (Lz.ite (Lz.nil _ _) (H _ _ _))))
 .unfold jf;exact Lz.ite (Lz.nil _ _) (Lz.ite (Lz.nil _ _) (Lz.ite (Lz.nil _ _) (Lz.ite (Lz.nil _ _) (Lz.ite (Lz.nil _ _) (Lz.one one _ _)))))
 .unfold jh;exact Lz.ite (Lz.nil _ _) (Lz.ite (Lz.nil _ _) (Lz.ite (Lz.nil _ _) (Lz.one one _ _)))
abbrev Zo:=Int × Int × Fu × Z6
def iN(R:Z1 Rw)(z:Zo):Z1 Rw:=if (eL R z.1 z.2.1 z.2.2.1 z.2.2.2).2=0 then apl R (eL R z.1 z.2.1 z.2.2.1 z.2.2.2).1 else R
def dd(Z:Nat->Zo):Nat->Z1 Rw
 | 0=>[]
 | k+1=>iN (dd Z k) (Z k)
theorem Gp(z:Zo)(h:DstL R/\∀ x∈R,x.2.1.size<=60):DstL (iN R z)/\∀ x∈iN R z,x.2.1.size<=60:=by
 unfold iN;split
 .exact⟨Dw _ h.1,Dv h.2 fun c H=>Nat.le_trans (BG R _ _ _ _ c H) (by decide)⟩
 .exact h
theorem uV(Z:Nat->Zo):∀ n,DstL (dd Z n)/\∀ x∈dd Z n,x.2.1.size<=60
 | 0=>⟨List.Pairwise.nil,fun _ h=>by cases h⟩
 | k+1=>Gp (Z k) (uV Z k)
section
open Go.RowKit
set_option linter.unusedSimpArgs false
def OL(w:World)(a:Zp Addr)(n:Nat)(Z:Nat->Zo):Prop:=∀ k,k<n->∃ b o A G,a=Z9 ⟨b,o,none⟩/\b<w.heap.size/\eI w b (o+k*36)=opv (Z k).1 (Z k).2.1 (Z k).2.2.1.1 A G (Z k).2.2.2/\IS w A (Z k).2.2.1.2.1/\GS w G (Z k).2.2.1.2.2/\(Z k).2.2.1.1.name.size<=60/\(Z k).2.2.2.size<=60
theorem OL.below{w w':World}{a:Zp Addr}{n:Nat}{Z:Nat->Zo}(h:OL w a n Z)(H:Below w.heap.size w w'):OL w' a n Z:=fun k t=>by
 obtain⟨b,o,A,G,f,i,j,m,q,s⟩:=h k t;exact⟨b,o,A,G,f,Zz i H.size,rQ H j (by rw[eO];decide),m.below H,q.below H,s⟩
attribute [local go_sem ↓] wQ nJ
attribute [local go_sem] bn aS aH bE bH aK aT ak aI aw az aM eO aQ aL aP aO aR aY aW bD
end
/-! records in rows whose places differ -/
theorem Jj{id:Int}{key s:Z6}:∀ {l:Z1 Rw},bZ id key l=Z9 s->(id,key,s)∈l
 | [],h=>by cases h
 | x::l,h=>by
   rw[bZ] at h;split at h
   .rename_i i;obtain⟨a,b,c⟩:=x;obtain⟨H,f⟩:=i;dsimp only at H f h;cases h
    rw[H,f];exact List.mem_cons_self
   .exact List.mem_cons_of_mem _ (Jj h)
theorem Jo{id:Int}{key s:Z6}:∀ {l:Z1 Rw},DstL l->(id,key,s)∈l->bZ id key l=Z9 s
 | [],_,h=>by cases h
 | x::l,j,h=>by
   obtain⟨H,i⟩:=Vk.1 j;rw[bZ];rcases YX.1 h with e|h
   .rw[<-e,ZP ⟨rfl,rfl⟩]
   .have:=H _ h;rw[ZS]
    .exact Jo i h
    .rintro ⟨E,f⟩;unfold ed at this;rw[ZI (by exact E),ZI (by show Z5 x.2.1=Z5 key;rw[f])] at this;cases this
theorem JM{a b:Z1 Rw}(p:a.Perm b)(h:DstL b):bZ id key a=bZ id key b:=by
 have ha:DstL a:=tB p h
 cases e:bZ id key b with
 | some s=>exact Jo ha (p.mem_iff.2 (Jj e))
 | none =>
   cases E:bZ id key a with
   | none=>rfl
   | some s=>rw[Jo h (p.mem_iff.1 (Jj E))] at e;cases e
theorem JN{id:Int}{key:Z6}(c:Ch):∀ (l:Z1 Rw),bZ id key (cD c l)=if c.2.1=id/\c.2.2.1=key then none else bZ id key l
 | []=>by unfold cD bZ;simp
 | x::l=>by
   have i:=JN (id:=id) (key:=key) c l;unfold cD at i |-;rw[List.filter_cons,bZ];by_cases H:jL c x=ZX
   .rw[ZS (by rw[H];simp),i];unfold jL at H;rw[ZQ,ZU,ZU] at H;by_cases h:c.2.1=id/\c.2.2.1=key
    .rw[ZP h,ZP h]
    .rw[ZS h,ZS h,ZS (fun q=>h ⟨H.1.symm.trans q.1,H.2.symm.trans q.2⟩)]
   .rw[ZP (by rw[Yq.2 H];rfl),bZ,i];unfold jL at H;rw[ZQ,ZU,ZU] at H;by_cases f:x.1=id/\x.2.1=key
    .rw[ZP f,ZP f,ZS (fun q=>H ⟨f.1.trans q.1.symm,f.2.trans q.2.symm⟩)]
    .rw[ZS f,ZS f]
theorem Ji(h:DstL R)(c:Ch):bZ id key (eJ R c)=if c.2.1=id/\c.2.2.1=key then (if c.1=0 then Z9 c.2.2.2.1 else none) else bZ id key R:=by
 have i:=Dn c h;have j:=JN (id:=id) (key:=key) c R;unfold eJ at i |-;by_cases f:c.1=0
 .rw[ZP f] at i;have p:=oB (c.2.1,c.2.2.1,c.2.2.2.1) (cD c R);have m:DstL ((c.2.1,c.2.2.1,c.2.2.2.1)::cD c R):=tB p.symm i;rw[ZP f,JM p m,bZ,j];by_cases H:c.2.1=id/\c.2.2.1=key
  .rw[ZP H,ZP H,ZP f]
  .rw[ZS H,ZS H,ZS H]
 .rw[ZS f,j];by_cases H:c.2.1=id/\c.2.2.1=key
  .rw[ZP H,ZP H,ZS f]
  .rw[ZS H,ZS H]
theorem LK(h:DstL D):bZ id key (apl D [])=bZ id key D:=JM (rD D) h
theorem LL(h:DstL D)(i:∀ c∈cs,¬ (c.2.1=id/\c.2.2.1=key)):bZ id key (apl D cs)=bZ id key D:=by
 have:∀ (l:Z1 Ch) (o:Z1 Rw),DstL o->(∀ c∈l,¬ (c.2.1=id/\c.2.2.1=key))->bZ id key (l.foldl eJ o)=bZ id key o:=by
  intro l
  induction l with
  | nil=>intro o _ _;rfl
  | cons c l I =>
    intro o f H;rw[XW,I _ (Dn c f) (fun d j=>H d (List.mem_cons_of_mem _ j)),Ji f,ZS (H c List.mem_cons_self)]
 exact (this cs _ (tB (rD D) h) i).trans (LK h)
theorem JC(h:DstL D){a b:Z1 Ch}{v:Z6}(i:∀ c∈b,¬ (c.2.1=id/\c.2.2.1=key)):bZ id key (apl D (a++(0,id,key,r,v)::b))=Z9 r:=by
 have:∀ (l:Z1 Ch) (o:Z1 Rw),DstL o->(∀ c∈l,¬ (c.2.1=id/\c.2.2.1=key))->bZ id key (l.foldl eJ o)=bZ id key o:=by
  intro l
  induction l with
  | nil=>intro o _ _;rfl
  | cons c l I =>
    intro o f H;rw[XW,I _ (Dn c f) (fun d j=>H d (List.mem_cons_of_mem _ j)),Ji f,ZS (H c List.mem_cons_self)]
 have ha:=Dw a h
 have e:apl D (a++(0,id,key,r,v)::b)=b.foldl eJ (eJ (apl D a) (0,id,key,r,v)):=by
  unfold apl;rw[List.foldl_append,XW]
 rw[e,this b _ (Dn _ ha) i,Ji ha,ZP ⟨rfl,rfl⟩,ZP rfl]
theorem Lh(h:bZ id (aC d name) l=bZ id (aC d name) e):bz l id d name=bz e id d name:=by
 unfold bz aG;rw[h]
/-! keys of different kinds differ -/
theorem Jm{k j:Int}{a b:Z6}(f:0<=k/\k<=4)(H:0<=j/\j<=4)(ha:aC k a≠⟨#[]⟩)(h:aC k a=aC j b):k=j:=by
 have e:=congrArg Z5 h;rw[iU,iU] at e;unfold Ek.key at e;split at e
 .split at e
  .injection e with E _
   exact Ek.letter_inj _ _ f H E
  .cases e
 .rename_i n;exfalso
  refine ha ?_
  unfold aC Ek.key;rw[ZS n]
theorem Li(h:aC d name≠⟨#[]⟩->bZ id (aC d name) l=bZ id (aC d name) e):bz l id d name=bz e id d name:=by
 by_cases H:aC d name=⟨#[]⟩
 .unfold bz aG;rw[ZP H,ZP H]
 .exact Lh (h H)
theorem JO(h:∀ m,bz l 1 3 m=bz e 1 3 m):cj l name=cj e name:=by
 have:∀ N,kp l name N=kp e name N:=by
  intro N
  induction N with
  | nil=>rfl
  | cons n N i=>rw[kp,kp,h,i]
 unfold cj;rw[this]
def I0(d:Int)(cs:Z1 Ch):Prop:=∀ c∈cs,∃ k n,(0<=k/\k<=4)/\k≠d/\c.2.2.1=aC k n
theorem I6(n:DstL D)(o:0<=d/\d<=4)(h:I0 d cs):bz (apl D cs) id d name=bz D id d name :=
 Li fun H=>LL n fun c m=>by
  rintro ⟨-,e⟩;obtain⟨k,N,f,i,j⟩:=h c m;rw[j] at e;exact i (Jm o f H e.symm).symm
/-! reading what was put -/
theorem Kw(h:aA x=ZX):bw (aC x.1.kind x.1.name) (bC x)=(x,0):=by
 have H:cF (Z5 (bC x))=Z9 x:=by
  unfold bC;rw[ZP h,X1];exact BV _ h (Bp _ h)
 unfold bw;rw[H];exact ZP (iU _ _).symm
theorem Jl(h:aA x=ZX):¬ aC x.1.kind x.1.name=⟨#[]⟩:=by
 intro e;have:=ki x h;unfold dL at this;rw[<-iU,e] at this;cases this
theorem JR{x:Fu}(H:aA x=ZX)(h:bZ id (aC x.1.kind x.1.name) l=Z9 (bC x)):bz l id x.1.kind x.1.name=(x,0):=by
 unfold bz aG;rw[ZS (Jl x H),ZS (by decide),h];exact Kw x H
theorem FQ(h:aA x=ZX):cF (Z5 (bC x))=Z9 x:=by
 unfold bC;rw[ZP h,X1];exact BV _ h (Bp _ h)
theorem IM{x:Fu}(h:aA x=ZX)(H:1<=id/\id<=15):nI (bI id x)=Z9 x:=by
 unfold nI bI;rw[ZP ⟨rfl,H.1,H.2⟩];dsimp only;rw[FQ x h];exact ZP (iU _ _).symm
theorem Jr(h:(cj l name).2=0):(1<=(cj l name).1/\(cj l name).1<=15)/\YP (Z5 name)=ZX:=by
 have L:∀ N,(kp l name N).2=0->1<=(kp l name N).1/\(kp l name N).1<=15:=by
  intro N
  induction N with
  | nil=>intro _;exact⟨(by decide:(1:Int)<=1),(by decide:(1:Int)<=15)⟩
  | cons n N I =>
    intro h;rw[kp] at h |-;have i:=@pD l 1 3 (iF n name);generalize bz l 1 3 (iF n name)=g at i h |-;obtain⟨x,c⟩:=g;dsimp only at i h |-;by_cases f:c=0
    .rw[ZP f];obtain⟨-,H,q⟩:=i f;have j:x.1.kind=3:=Jm (pH H) (by decide) (Jl x H) q;unfold aA fK Vp.cat Vp.rng at H;rw[j] at H;simp at H
     exact H.1.2
    .rw[ZS f] at h |-;by_cases m:c=6
     .rw[ZP m] at h |-;exact I h
     .rw[ZS m] at h;exact absurd h f
 unfold cj at h |-;cases o:YP (Z5 name)
 .rw[o,ZP rfl] at h;exact absurd h (by decide)
 .rw[o,ZS (by simp)] at h;rw[ZS (by simp)];exact⟨L _ h,rfl⟩
theorem JJ(i:aA y=ZX)(f:y.1.kind=0)(o:XA (Z5 y.1.name)=ZX->(bz l id 1 (dK y.1.name)).2=0):(ci l id y).2=0:=by
 unfold ci;cases h:XA (Z5 y.1.name)
 .rw[ZS (by simp)];rw[JT _ _ (LB y i f h)]
 .rw[ZP rfl];have H:=o h;have q:=@Kx l id (dK y.1.name);generalize bz l id 1 (dK y.1.name)=g at H q;obtain⟨z,c⟩:=g;dsimp only at H |-;subst H;obtain⟨j,m,n⟩:=q z (by rw[Ki];exact KO _ h) rfl;rw[ZS (by simp),JT _ _ (KF y z i f h j m (by rw[n,Ki]))]
theorem Kt(h:XA (Z5 y.1.name)=ZX->bz l id 1 (dK y.1.name)=bz e id 1 (dK y.1.name)):ci l id y=ci e id y:=by
 unfold ci;cases H:XA (Z5 y.1.name)
 .rfl
 .rw[ZP rfl,ZP rfl,h H]
theorem JK(w:cj l y.1.name=(id,0))(h:y.1.kind=0)(n:YP (Z5 y.1.name)=ZX)(f:bz l id 0 y.1.name=(y,0)):kc l y.1.name=ci l id y:=by
 have H:dx l id y.1.name=(y,0):=by
  unfold dx;rw[n,ZS (by simp),ij,f,ZS (show ¬ (0:Int)=6 by decide)]
 have m:jH l y.1.name=(y,id,0):=by
  unfold jH;rw[w];dsimp only;rw[ZS (by simp),H];dsimp only;rw[ZS (by simp),ZP (by rw[h];decide)]
 unfold kc;rw[m];dsimp only;rw[ZS (by simp),ZS (by rw[h];simp)]
/-! the law -/
def bg(c:Ch):Zp Fu:=if c.1=0 then (match cF (Z5 c.2.2.2.1) with
 | some y=>if y.1.kind=0 then Z9 y else none
 | none=>none) else none
def zS(R:Z1 Rw)(y:Fu):Ch:=(7,y.1.d0,⟨#[]⟩,(kc R y.1.name).1,y.1.vol)
def bj(R:Z1 Rw)(cs:Z1 Ch):Z1 Ch:=cs.filterMap fun c=>(bg c).map (zS R)
def IZ(D R:Z1 Rw)(cs:Z1 Ch):Prop:=(∀ c∈cs,∀ y,nI c=Z9 y->y.1.kind≠1)/\∀ c∈cs,∀ y,bg c=Z9 y->nI c=Z9 y/\(kc R y.1.name).2=0/\ci D c.2.1 y=kc R y.1.name
theorem KM{c:Ch}(h:bg c=Z9 y):y.1.kind=0:=by
 unfold bg at h;split at h
 .split at h
  .split at h
   .cases h;assumption
   .cases h
  .cases h
 .cases h
theorem JP{c:Ch}(h:nI c=Z9 y)(i:y.1.kind=0):bg c=Z9 y:=by
 unfold nI at h;split at h
 .rename_i f;unfold bg;rw[ZP f.1]
  cases H:cF (Z5 c.2.2.2.1) with
  | none=>rw[H] at h;cases h
  | some z =>
    rw[H] at h;dsimp only at h |-;split at h
    .cases h;rw[ZP i]
    .cases h
 .cases h
theorem LT(h:∀ c∈cs,∀ y,nI c=Z9 y->y.1.kind≠1)(id:Int)(n:Z6):lW cs id n=none:=by
 have:∀ (l:Z1 Ch),(∀ c∈l,∀ y,nI c=Z9 y->y.1.kind≠1)->l.foldl (nG id n) none=none:=by
  intro l
  induction l with
  | nil=>intro _;rfl
  | cons c l I =>
    intro H
    have e:nG id n none c=none:=by
     unfold nG qO
     cases i:nI c with
     | none=>rfl
     | some y =>
       dsimp only;rw[ZS (fun q=>H c List.mem_cons_self y i q.1)]
    rw[XW,e];exact I fun d f=>H d (List.mem_cons_of_mem _ f)
 exact this cs h
theorem IU{D R:Z1 Rw}:∀ (cs f o:Z1 Ch),IZ D R (f++cs)->ch D f cs o=(o++bj R cs,0)
 | [],f,o,_=>by rw[ch];unfold bj;simp
 | c::cs,f,o,h=>by
   have m:IZ D R ((f++[c])++cs):=by rw[Zr];exact h
   have n:c∈f++c::cs:=by simp
   cases i:nI c with
   | none =>
     rw[Jc i,IU cs (f++[c]) o m]
     have H:bg c=none:=by
      cases H:bg c with
      | none=>rfl
      | some y=>rw[(h.2 c n y H).1] at i;cases i
     unfold bj;rw[List.filterMap_cons,H];rfl
   | some y =>
     by_cases j:y.1.kind=0
     .have H:=JP i j;obtain⟨-,q,s⟩:=h.2 c n y H
      have t:qt D f c y=((kc R y.1.name).1,0):=by
       unfold qt;rw[LT (fun d H=>h.1 d (List.mem_append_left _ H)),s,<-q]
      rw[Jd i j t,IU cs (f++[c]) _ m];unfold bj;rw[List.filterMap_cons,H,Zr];rfl
     .rw[IR i j,IU cs (f++[c]) o m]
      have H:bg c=none:=by
       cases H:bg c with
       | none=>rfl
       | some z =>
         have:=(h.2 c n z H).1;rw[i] at this;cases this
         exact absurd (KM H) j
      unfold bj;rw[List.filterMap_cons,H];rfl
theorem Jx{D:Z1 Rw}:∀ (cs f o:Z1 Ch),(∀ c∈cs,bg c=none)->ch D f cs o=(o,0)
 | [],f,o,_=>by rw[ch]
 | c::cs,f,o,h=>by
   have i:=Jx (D:=D) cs (f++[c]) o fun d m=>h d (List.mem_cons_of_mem _ m)
   have j:=h c List.mem_cons_self
   cases H:nI c with
   | none=>rw[Jc H,i]
   | some y=>rw[IR H (fun n=>by rw[JP H n] at j;cases j),i]
theorem IQ(h:c.1≠0):nI c=none/\bg c=none:=by
 unfold nI bg;rw[ZS h,ZS (fun q=>h q.1)];exact⟨rfl,rfl⟩
theorem IT{x:Fu}(h:aA x=ZX):bg (bI id x)=if x.1.kind=0 then Z9 x else none:=by
 unfold bg bI;rw[ZP rfl];dsimp only;rw[FQ x h]
def LwC(D:Z1 Rw)(g:Z1 Ch × Int):Prop:=g.2=0->ch D [] g.1 []=(bj (apl D g.1) g.1,0)/\∀ c∈g.1,∀ y,bg c=Z9 y->(kc (apl D g.1) y.1.name).2=0
theorem LwC.bad{e:Int}(h:e≠0):LwC D ([],e):=fun q=>absurd q h
theorem LwC.none(h:∀ c∈g.1,bg c=none):LwC D g:=fun _=>by
 refine⟨?_,fun c H y f=>by rw[h c H] at f;cases f⟩
 rw[Jx _ _ _ h]
 have e:bj (apl D g.1) g.1=[]:=by
  unfold bj;rw[List.filterMap_eq_nil_iff];intro c H;rw[h c H];rfl
 rw[e]
theorem LwC.good(h:IZ D (apl D g.1) g.1):LwC D g:=fun _=>⟨by rw[IU g.1 [] [] h];rfl,fun c H y f=>(h.2 c H y f).2.1⟩
theorem LwC.ite[Decidable p](h:p->LwC D a)(H:¬ p->LwC D b):LwC D (if p then a else b):=by
 split
 .exact h ‹_›
 .exact H ‹_›
theorem KY(u:DstL D)(x:Fu):LwC D (jg D x):=by
 unfold jg;refine LwC.ite (fun H=>?_) (fun _=>LwC.bad (by decide))
 refine LwC.ite (fun h=>LwC.bad h) (fun h=>?_)
 have s:(dp D x.1.kind x.1.name).2=0:=YD h;unfold iK;rw[ZP H];refine LwC.ite (fun h=>LwC.bad h) (fun _=>?_)
 refine LwC.ite (fun h=>LwC.bad h.2) (fun v=>?_)
 refine LwC.ite (fun h=>LwC.bad h) (fun _=>?_)
 by_cases i:x.1.kind=0
 .refine LwC.good ?_
  have A:dp D x.1.kind x.1.name=cj D x.1.name:=by
   unfold dp;rw[ZS (by omega),ZS (by omega)]
  rw[A] at s v |-;obtain⟨B,E⟩:=Jr s;generalize w:(cj D x.1.name).1=id at B v |-;have F:cj D x.1.name=(id,0):=by rw[<-w,<-s]
  have o:∀ d,d≠0->I0 d [bI id x]:=fun d z c f=>by
   rw[YM.1 f];exact⟨x.1.kind,x.1.name,pH H,by rw[i];exact fun q=>z q.symm,rfl⟩
  have C:cj (apl D [bI id x]) x.1.name=(id,0):=by
   rw[<-F];exact JO fun N=>I6 u (by decide) (o 3 (by decide))
  have t:bz (apl D [bI id x]) id 0 x.1.name=(x,0):=by
   have:=JR (l:=apl D [bI id x]) (id:=id) H (JC (a:=[]) u (fun c f=>by cases f));rwa [i] at this
  have n:ci (apl D [bI id x]) id x=ci D id x:=Kt fun _=>I6 u (by decide) (o 1 (by decide))
  have j:=JK C i E t;refine⟨fun c f y m=>?_,fun c f y m=>?_⟩
  .rw[YM.1 f,IM H B] at m;cases m;rw[i];decide
  .rw[YM.1 f] at m |-;rw[IT H,ZP i] at m;cases m
   refine⟨IM H B,?_,?_⟩
   .rw[j,n];exact JJ H i fun q=>YD fun Q=>v ⟨⟨q,i⟩,Q⟩
   .rw[j,n];rfl
 .refine LwC.none fun c f=>?_
  rw[YM.1 f,IT H,ZS i]
theorem La(n:Z6):LwC D (jb D k n):=by
 unfold jb;refine LwC.ite (fun h=>LwC.bad h) (fun _=>?_)
 unfold gX;have E:∀ id y,bg (bJ id y)=none:=fun id y=>(IQ _ (show (1:Int)≠0 by decide)).2
 refine LwC.ite (fun h=>LwC.bad h) (fun _=>LwC.ite (fun _=>LwC.bad (by decide)) (fun _=>LwC.ite (fun _=>LwC.ite (fun h=>LwC.bad h) (fun _=>LwC.none ?_)) (fun _=>LwC.none ?_)))
 .intro c H;rcases Yg.1 H with H|H
  .obtain⟨a,-,rfl⟩:=Xv.1 H;exact E _ _
  .rw[YM.1 H];exact E _ _
 .intro c H;rw[YM.1 H];exact E _ _
theorem Lb(V:DstL D)(name t:Z6):LwC D (jd D name t):=by
 unfold jd;refine LwC.ite (fun _=>LwC.bad (by decide)) (fun a1=>LwC.ite (fun h=>LwC.bad h) (fun X=>LwC.ite (fun h=>LwC.bad h) (fun Y=>LwC.ite (fun _=>LwC.bad (by decide)) (fun Z=>?_))))
 have w1:(cj D name).2=0:=YD X;have W:(cj D t).2=0:=YD Y;have w3:(cj D name).1=(cj D t).1:=YD Z;unfold gu;refine LwC.ite (fun _=>LwC.bad (by decide)) (fun _=>LwC.ite (fun h=>LwC.bad h) (fun L=>LwC.ite (fun _=>LwC.bad (by decide)) (fun O=>LwC.ite (fun h=>LwC.bad h) (fun B=>LwC.ite (fun h=>LwC.bad h) (fun _=>LwC.good ?_)))))
 obtain⟨J,S⟩:=Jr W;rw[w3] at L B |-;generalize Q:(cj D t).1=id at J L B |-;have hw:cj D t=(id,0):=by rw[<-Q,<-W]
 have N:(bz D id 0 name).2=0:=YD L;have C:cE (dx D id t).2=0:=YD B;obtain⟨T,I⟩:=Cp N;have i:=uo D id name;have E:=Fw (name:=name) C;generalize (cW D id name).1=A at i E |-;generalize (bz D id 0 name).1=e at T I |-;have w:¬ XA (Z5 t)=ZX:=fun q=>O (Or.inr q)
 have f:=Eg T I S;have H:(dz e t).1.kind=0:=I;have s:(dz e t).1.name=t:=rfl;have u:∀ a∈A,aA (bT a t)=ZX/\(bT a t).1.kind=2:=fun a ha=>⟨Eh (i a ha).1 (i a ha).2.1 S (E a ha),(i a ha).2.1⟩
 dsimp only;unfold jO;generalize hY:dz e t=y at f H s |-
 have m:∀ c∈bJ id e::bI id y::A.map (fun a=>bI id (bT a t)),c=bJ id e\/c=bI id y\/∃ a∈A,c=bI id (bT a t):=fun c n=>by
  rcases YX.1 n with rfl|n
  .exact .inl rfl
  rcases YX.1 n with rfl|n
  .exact .inr (.inl rfl)
  obtain⟨a,ha,rfl⟩:=Xv.1 n;exact .inr (.inr ⟨a,ha,rfl⟩)
 have F:I0 3 (bJ id e::bI id y::A.map (fun a=>bI id (bT a t))):=fun c n=>by
  rcases m c n with rfl|rfl|⟨a,ha,rfl⟩
  .exact⟨e.1.kind,e.1.name,pH T,by rw[I];decide,rfl⟩
  .exact⟨y.1.kind,y.1.name,pH f,by rw[H];decide,rfl⟩
  .exact⟨(bT a t).1.kind,(bT a t).1.name,pH (u a ha).1,by rw[(u a ha).2];decide,rfl⟩
 have j:=JR (l:=apl D ([bJ id e]++bI id y::A.map (fun a=>bI id (bT a t)))) (id:=id) f (JC V (fun c n=>by
  obtain⟨a,ha,rfl⟩:=Xv.1 n;rintro ⟨-,q⟩;have q2:aC (bT a t).1.kind (bT a t).1.name=aC y.1.kind y.1.name:=q;have:=Jm (pH (u a ha).1) (pH f) (Jl _ (u a ha).1) q2;rw[(u a ha).2,H] at this;exact absurd this (by decide)))
 rw[List.singleton_append] at j;rw[H] at j;generalize a0:bJ id e::bI id y::A.map (fun a=>bI id (bT a t))=cs at m F j |-
 have U:cj (apl D cs) y.1.name=(id,0):=by
  rw[s,<-hw];exact JO fun nm=>I6 V (by decide) F
 have G:=JK U H (by rw[s];exact S) j
 have v:∀ R,ci R id y=cR y bL:=fun R=>by
  unfold ci;rw[s,ZS w]
 have K:=JJ (l:=D) (id:=id) f H (fun q=>by rw[s] at q;exact absurd q w);refine⟨fun c n z o=>?_,fun c n z o=>?_⟩
 .rcases m c n with rfl|rfl|⟨a,ha,rfl⟩
  .rw[(IQ (bJ id e) (show (1:Int)≠0 by decide)).1] at o;cases o
  .rw[IM f J] at o;cases o;rw[H];decide
  .rw[IM (u a ha).1 J] at o;cases o;rw[(u a ha).2];decide
 .rcases m c n with rfl|rfl|⟨a,ha,rfl⟩
  .rw[(IQ (bJ id e) (show (1:Int)≠0 by decide)).2] at o;cases o
  .rw[IT f,ZP H] at o;cases o
   refine⟨IM f J,?_,?_⟩
   .rw[G,v,<-v D];exact K
   .rw[G];show ci D id y=ci (apl D cs) id y
    rw[v,v]
  .rw[IT (u a ha).1,ZS (by rw[(u a ha).2];decide)] at o;cases o
theorem KV(p:Z6)(i:Int):LwC D (jf D p i):=by
 unfold jf;refine LwC.ite (fun _=>LwC.bad (by decide)) (fun h=>LwC.ite (fun _=>LwC.bad (by decide)) (fun j=>LwC.ite (fun _=>LwC.bad j) (fun _=>LwC.ite (fun h=>LwC.bad h) (fun _=>LwC.ite (fun _=>LwC.bad (by decide)) (fun _=>LwC.none ?_)))))
 intro c m;rw[YM.1 m];unfold bg bI;rw[ZP rfl];dsimp only
 cases H:cF (Z5 (bC (di p i))) with
 | none=>rfl
 | some y =>
   dsimp only;rw[ZS];intro n;unfold bC at H;rw[X1] at H;split at H
   .rename_i o;rw[BV _ o (Bp _ o)] at H;cases H
    exact absurd (show (3:Int)=0 from n) (by decide)
   .have:=mb _ _ H;have f:=Kd y this.1;rw[this.2] at f;exact absurd f (by decide)
theorem KZ(p:Z6):LwC D (jh D p):=by
 unfold jh;refine LwC.ite (fun _=>LwC.bad (by decide)) (fun _=>LwC.ite (fun h=>LwC.bad h) (fun _=>LwC.ite (fun _=>LwC.bad (by decide)) (fun _=>LwC.none ?_)))
 intro c H;rw[YM.1 H];exact (IQ _ (show (1:Int)≠0 by decide)).2
theorem Ma(h:DstL D)(k i:Int)(x:Fu)(s:Z6):LwC D (eL D k i x s):=by
 unfold eL;exact LwC.ite (fun _=>KY h x) (fun _=>LwC.ite (fun _=>La _ _) (fun _=>LwC.ite (fun _=>Lb h _ _) (fun _=>LwC.ite (fun _=>KV _ _) (fun _=>KZ _))))
/-! an operation adds one row at most -/
theorem KL{x y z:Rw}(h:ed x y=ZX)(H:ed x z=ZX):ed y z=ZX:=by
 unfold ed at h H |-;rw[ZQ,ZU,ZU] at h H |-;exact⟨h.1.symm.trans H.1,h.2.symm.trans H.2⟩
theorem JZ:∀ (A B:Z1 Rw),DstL A->(∀ x∈A,∃ y∈B,ed y x=ZX)->A.length<=B.length
 | [],B,_,_=>Y6 _
 | x::A,B,q,h=>by
   obtain⟨n,o⟩:=Vk.1 q;obtain⟨y,t,s⟩:=h x List.mem_cons_self;obtain⟨j,m,rfl⟩:=List.append_of_mem t
   have I:=JZ A (j++m) o fun z i=>by
    obtain⟨u,f,H⟩:=h z (List.mem_cons_of_mem _ i);rcases Yg.1 f with f|f
    .exact⟨u,List.mem_append_left _ f,H⟩
    .rcases YX.1 f with rfl|f
     .have:=n z i;rw[KL s H] at this;cases this
     .exact⟨u,List.mem_append_right _ f,H⟩
   rw[ZO] at I;rw[ZO,Zw,Zw];omega
def Old1(R:Z1 Rw)(cs:Z1 Ch):Prop:=∃ p:Rw,∀ c∈cs,c.1=0->∃ y∈p::R,y.1=c.2.1/\y.2.1=c.2.2.1
theorem Lt(j:DstL R)(h:Old1 R cs):(apl R cs).length<=R.length+1:=by
 obtain⟨p,s⟩:=h
 have f:∀ x∈apl R cs,∃ y∈p::R,ed y x=ZX:=by
  have:∀ (l:Z1 Ch) (o:Z1 Rw),(∀ c∈l,c.1=0->∃ y∈p::R,y.1=c.2.1/\y.2.1=c.2.2.1)->(∀ x∈o,∃ y∈p::R,ed y x=ZX)->∀ x∈l.foldl eJ o,∃ y∈p::R,ed y x=ZX:=by
   intro l
   induction l with
   | nil=>intro o _ i;exact i
   | cons c l I =>
     intro o m i;rw[XW];refine I _ (fun d j=>m d (List.mem_cons_of_mem _ j)) fun x H=>?_
     unfold eJ at H;split at H
     .rename_i q;rcases YX.1 ((oB _ _).subset H) with rfl|H
      .obtain⟨y,t,E,n⟩:=m c List.mem_cons_self q;refine⟨y,t,?_⟩
       unfold ed;rw[ZI (by exact E),ZI (by exact congrArg Z5 n)];rfl
      .exact i x (List.mem_filter.1 H).1
     .exact i x (List.mem_filter.1 H).1
  refine this cs _ s fun x H=>⟨x,List.mem_cons_of_mem _ ((rD R).subset H),?_⟩
  unfold ed;rw[ZI rfl,ZI rfl];rfl
 have:=JZ _ _ (Dw cs j) f;rw[Zw] at this;exact this
theorem Old1.nil(R:Z1 Rw):Old1 R []:=⟨(0,⟨#[]⟩,⟨#[]⟩),fun _ h=>by cases h⟩
theorem Old1.one(R:Z1 Rw)(c:Ch):Old1 R [c]:=⟨(c.2.1,c.2.2.1,⟨#[]⟩),fun d h _=>by rw[YM.1 h];exact⟨_,List.mem_cons_self,rfl,rfl⟩⟩
theorem Old1.era(h:∀ c∈cs,c.1≠0):Old1 R cs:=⟨(0,⟨#[]⟩,⟨#[]⟩),fun c f H=>absurd H (h c f)⟩
theorem Old1.ite[Decidable p](h:Old1 R a.1)(H:Old1 R b.1):Old1 R (if p then a else b).1:=by split <;> assumption
theorem Ln(l:Z1 Rw)(k i:Int)(x:Fu)(s:Z6):Old1 l (eL l k i x s).1:=by
 have N:=Old1.nil l;have E:∀ id y,(bJ id y).1≠0:=fun id y=>(show (1:Int)≠0 by decide)
 have m:∀ id d name,Old1 l (gX l id d name).1:=fun id d name=>by
  unfold gX;refine Old1.ite N (Old1.ite N (Old1.ite (Old1.ite N (Old1.era ?_)) (Old1.one _ _)))
  intro c h;rcases Yg.1 h with h|h
  .obtain⟨a,-,rfl⟩:=Xv.1 h;exact E _ _
  .rw[YM.1 h];exact E _ _
 have n:∀ id name t,Old1 l (gu l id name t).1:=fun id name t=>by
  unfold gu;refine Old1.ite N (Old1.ite N (Old1.ite N (Old1.ite N (Old1.ite N ?_))))
  have H:=uo l id name;dsimp only;generalize (cW l id name).1=A at H |-;generalize (bz l id 0 name).1=e;refine⟨((bI id (dz e t)).2.1,(bI id (dz e t)).2.2.1,⟨#[]⟩),fun c h o=>?_⟩
  unfold jO at h;rcases YX.1 h with rfl|h
  .exact absurd o (E _ _)
  rcases YX.1 h with rfl|h
  .exact⟨_,List.mem_cons_self,rfl,rfl⟩
  obtain⟨a,ha,rfl⟩:=Xv.1 h;obtain⟨-,q,x,u,f,j⟩:=H a ha;refine⟨x,List.mem_cons_of_mem _ u,f,?_⟩
  rw[j];show aC 2 a.1.name=aC a.1.kind a.1.name
  rw[q]
 unfold eL;refine Old1.ite ?_ (Old1.ite ?_ (Old1.ite ?_ (Old1.ite ?_ ?_)))
 .unfold jg iK;exact Old1.ite (Old1.ite N (Old1.ite (Old1.ite N (Old1.ite N (Old1.ite N (Old1.one _ _)))) N)) N
 .unfold jb;exact Old1.ite N (m _ _ _)
 .unfold jd;exact Old1.ite N (Old1.ite N (Old1.ite N (Old1.ite N (n _ _ _))))
 .unfold jf;exact Old1.ite N (Old1.ite N (Old1.ite N (Old1.ite N (Old1.ite N (Old1.one _ _)))))
 .unfold jh;exact Old1.ite N (Old1.ite N (Old1.ite N (Old1.one _ _)))
theorem LF(h:DstL R)(z:Zo):(iN R z).length<=R.length+1:=by
 unfold iN;split
 .exact Lt h (Ln R _ _ _ _)
 .omega
theorem Jf(Z:Nat->Zo):∀ n,(dd Z n).length<=n
 | 0=>Y6 _
 | k+1=>by
   have h:=Jf Z k;have H:=LF (uV Z k).1 (Z k);rw[dd];omega
section
open Go.RowKit
set_option linter.unusedSimpArgs false
attribute [local go_sem ↓] wQ nJ
attribute [local go_sem] bn aS aH bE bH aK aT ak aI aw az aM eO aQ aL aP aO aR aY aW bD
theorem mk36(a:Zp Addr)(n c:Nat)(Z:Nat->Zo)(w:World)(hn:n<=100)(hF:OL w a n Z) :
 Calls Tryz.prog 26 #[.slice a n c] w fun r w'=>∃ v',r=.returned v'/\RwS w' v' (dd Z n)/\(∀ q,v'.ownBlock=Z9 q->q<w'.heap.size)/\Below w.heap.size w w':=by
 have HF:=lh hF;clear hF;go_enter Tryz.func26,Tryz.ntmps26
 go_wp2_with fail
 go_loopw [3,4] (fun v i wr=>∃ (k:Nat),k<=n/\i=.int .i64 k/\Hid (RwS wr v (dd Z k))/\Hid (∀ q,v.ownBlock=Z9 q->q<wr.heap.size)/\Hid (Below w.heap.size w wr)) (fun _ i _=>n - (intOf i).toNat)
 case atStart=>exact⟨0,Y6 _,rfl,lh ⟨_,0,rfl,by simp [dd],fun h=>by simp [dd] at h⟩,lh (fun q V=>by cases V;simp),lh (by exact aB)⟩
 case round =>
  obtain⟨k,hk,rfl,I,HQ,HB⟩:=hrel;obtain⟨va,vc,rfl,-⟩:=_root_.id I.o;have a6:=Jf Z k;obtain⟨hd,G⟩:=uV Z k;have H:dd Z (k+1)=iN (dd Z k) (Z k):=rfl;unfold iN at H;by_cases a5:k<n
  .obtain⟨b,o,al,gr,rfl,hb,j,L,K,t,m⟩:=(HF.o.below HB.o) k a5;generalize dd Z k=D at a6 hd G H I HQ |-;generalize Z k=z at j L K t m H;obtain⟨Y,X,x,s⟩:=z;dsimp only at j L K t m H;have U:=kl (k:=Y) (i:=X) (s:=s) (ay x.1 al gr (aD L) (aE K));have a7:(eI wr b (o+k*36)).size=36:=by rw[j];exact eO _ _ _ _ _ _
   have j1:(0:Int)<=(k:Int):=by omega
   have j2:(k:Int)<(n:Int):=by omega
   have F:=Gt (.slice va D.length vc) D Y X x s al gr wr I.o (by omega) G t m L K;have E:=uz D Y X x s;unfold Lz at E;generalize eL D Y X x s=g at F H E;obtain⟨cs,C⟩:=g;dsimp only at H E
   have O:=lh F;have T:=lh H;generalize Q:opv Y X x.1 al gr s=cv at j U O;have a8:cv.size=36:=by rw[<-Q];exact eO _ _ _ _ _ _
   clear F H L K t m hd G Q;by_cases J:C=0
   rotate_left
   .have t1:(C==0)=false:=beq_eq_false_iff_ne.2 J;have B:Hid (dd Z (k+1)=D):=lh (by rw[T.o,ZS J]);clear J;go_wp2_with (go_at_call 22;(refine O.o.mono ?_);rintro _ w5 ⟨ov,rfl,hc,f⟩;have A:=lh (I.o.below f);have u:=lh (bt HB.o f);have a2:=lh (fun q V=>Zz (HQ.o q V) f.size);clear hc f)
    go_roundw
    case rel=>exact⟨k+1,by omega,by go_num,lh (by rw[B.o];exact A.o),a2,u⟩
    case measure=>simp [intOf];omega
   have t1:(C==0)=ZX:=beq_iff_eq.2 J;have B:Hid (dd Z (k+1)=apl D cs):=lh (by rw[T.o,ZP J]);clear J
   go_wp2_with first|go_at_call 22;(refine O.o.mono ?_);rintro _ w5 ⟨ov,rfl,hc,f⟩;have A:=lh (I.o.below f);have u:=lh (bt HB.o f);have a1:=lh hc;clear hc f|go_at_call 29;(refine (AY _ D _ cs w5 A.o a1.o (by omega) (by omega)).mono ?_);rintro _ w6 ⟨v6,rfl,W,S,N⟩;have a4:=lh W;have a3:=lh (fun q V=>(S q V).2);have a0:=lh (bt u.o N);clear W S N
   go_roundw
   case rel=>exact⟨k+1,by omega,by go_num,lh (by rw[B.o];exact a4.o),a3,a0⟩
   case measure=>simp [intOf];omega
  .obtain rfl:k=n:=by omega
   go_wp2_with fail
   go_ret
   exact⟨_,rfl,I.o,HQ.o,HB.o⟩
end
end Go.Proofs.YtnkjliahpeebjaaGreatDoor
