/- Catalogs. -/
import Derived.Test.YtnkjliahpeebjaaGreatDoorNx
set_option maxRecDepth 8000
set_option maxHeartbeats 16000000
open Option renaming some->Z9,none->Z8
open _root_ renaming ByteArray->Z7,List->Z5,if_neg->Z0,if_pos->ZX,Array->ZE,Option->Zy
open Go renaming Value->Z3,World->Z2,heap_alloc_new->ZA,MapEntry->Ws
open Array renaming getElem?_eq_some_iff->Y9
namespace Go.Proofs.YtnkjliahpeebjaaGreatDoor
open Go.RowKit
variable{w0 w d wr W w':Z2}{l:Z5 Rw}{ei es:ZE Ws}{j p k:Nat}{v sv ov:Z3}{cd fl:Int}{b cs out:Z5 Ch}
section
open Go.Maps Go.WideMaps
open Go.ChangeMaps (setBlock)
variable {P:Program} {c:ZE Oper} {rest:Z5 Oper} {o:Oper} {a:Act} {Q:Exit->Act->Z2->Prop}
def vol1:Z7:=⟨#[86,49]⟩
def vol2:Z7:=⟨#[86,50]⟩
end
section
set_option linter.unusedSimpArgs false
def e37:En:={ En.zero with kind:=0,name:=⟨#[80,65,89,46,77,65,83,84,69,82]⟩,d0:=130,vol:=vol1 }
def v37:ZE Z3:=e37.vals (.slice Z8 0 0) (.slice Z8 0 0)
theorem Fe:v37.extract 2 23=e37.dat:=fp e37 _ _
theorem De:bh e37.dat.toList=true:=gO e37
theorem CU:v37.size=33:=ah e37 _ _
theorem Fv:bh (En.zero.vals (.slice Z8 0 0) (.slice Z8 0 0)).toList=true:=ay _ _ _ rfl rfl
theorem Ff:bh v37.toList=true:=ay e37 _ _ rfl rfl
structure CMW (w wr:Z2) (es ei:ZE Ws) (k j:Nat):Prop where
 bel:Below w.heap.size w wr
 m1:wr.heap[w.heap.size]?=Z9 (.map es k)
 m2:wr.heap[w.heap.size+1]?=Z9 (.map ei j)
theorem CMW.lt(h:CMW w wr es ei k j):w.heap.size+1<wr.heap.size:=by
 rcases Nat.lt_or_ge (w.heap.size+1) wr.heap.size with q|q
 .exact q
 .have:=h.m2;rw[Array.getElem?_eq_none q] at this;cases this
theorem CMW.below(h:CMW w wr es ei k j)(H:Below wr.heap.size wr W):CMW w W es ei k j :=
 ⟨bt h.bel H,(H.block _ (by have:=h.lt;omega)).trans h.m1,(H.block _ h.lt).trans h.m2⟩
theorem CMW.grown{p:Zy Nat}(h:CMW w wr es ei k j)(H:wr.grownBy W p)(f:∀ q,p=Z9 q->w.heap.size+1<q):CMW w W es ei k j :=
 ⟨h.bel.trans ⟨H.os,H.tape,H.output,H.size,fun i g=>H.block i (by have:=h.lt;omega) (fun e=>by have:=f i e.symm;omega)⟩,(H.block _ (by have:=h.lt;omega) (fun e=>by have:=f _ e.symm;omega)).trans h.m1,(H.block _ h.lt (fun e=>by have:=f _ e.symm;omega)).trans h.m2⟩
theorem CMW.start(w:Z2):CMW w ((w.alloc (.map #[] 0)).alloc (.map #[] 0)) #[] #[] 0 0:=by
 refine⟨by exact aB,?_,?_⟩
 .exact (((Below.refl _ _).alloc (Nat.le_refl _) (.map #[] 0):Below (w.alloc (.map #[] 0)).heap.size (w.alloc (.map #[] 0)) _).block _ (by simp)).trans (ZA w _)
 .have:=ZA (w.alloc (.map #[] 0)) (.map #[] 0);simpa using this
theorem CMW.drew(h:CMW w wr es ei k j):CMW w wr.drew es ei k j:=h.below (Below.drew (Below.refl _ _))
attribute [local go_sem ↓] aZ bq fb fe kF
attribute [local go_sem ↓ high] bf
attribute [local go_sem] da gQ FJ run_makeMap bn aS aH bE bH fx aK aT ak aI aw az aM ah fp bW aQ aL aP aO aR aY aW bD CU Ff Fe De Fv
def DFo(w wr:Z2)(o:Z3):Prop:=∃ g c,o=.slice (Z9 ⟨g,0,Z8⟩) 1 c/\(∀ j v,(#[.int .i64 3,.int .i64 130,.string vol2,.string ⟨#[80,65,89,46,77,65,83,84,69,82]⟩]:ZE Z3)[j]?=Z9 v->wr.cell? ⟨g,j,Z8⟩=Z9 v)/\Below w.heap.size w wr
theorem DFo.of{a:Zy Addr}{c:Nat}(h:d.ownsRow w.heap.size 41 4 (.slice a 1 c) 1 [.int .i64 3,.int .i64 130,.string vol2,.string ⟨#[80,65,89,46,77,65,83,84,69,82]⟩])(f:Below w.heap.size w d):DFo w d (.slice a 1 c):=by
 obtain⟨A,n,e,-,p⟩:=dU h;rcases h.2 with ⟨H,-⟩|⟨g,C,r,H,-⟩
 .cases H
 .cases H
  cases e
  obtain⟨m,E,q⟩:=p (by decide);cases E
  refine⟨g,_,rfl,fun j v i=>?_,f⟩
  have:=q j v (by simpa using i);rwa [Addr.add_lit,Nat.zero_add] at this
attribute [local go_sem] cG eU eV fE
end
section
open Go.ChangeMaps (setBlock)
abbrev PK:=Int × Z7
def pk(k:PK):Z3:=.agg #[.int .i64 k.1,.string k.2]
def pents:Z5 (PK × Z3)->Nat->Z5 Ws
 | [],_=>[]
 | x::r,i=>⟨pk x.1,x.2,i⟩::pents r (i+1)
def pent(es:Z5 (PK × Z3)):ZE Ws:=(pents es 0).toArray
def mget(k:PK):Z5 (PK × Z3)->Zy Z3
 | []=>Z8
 | x::r=>if k=x.1 then Z9 x.2 else mget k r
def mset(k:PK)(v:Z3):Z5 (PK × Z3)->Z5 (PK × Z3)
 | []=>[]
 | x::r=>if k=x.1 then (x.1,v)::r else x::mset k v r
def mput(k:PK)(v:Z3)(es:Z5 (PK × Z3)):Z5 (PK × Z3):=if mget k es=Z8 then es++[(k,v)] else mset k v es
theorem rU(k j:PK)(v:Z3):∀ es,mget j (es++[(k,v)])=match mget j es with|some u=>Z9 u|none=>if j=k then Z9 v else Z8
 | []=>rfl
 | x::r=>by
   rw[List.cons_append,mget,mget,rU k j v r];by_cases h:j=x.1
   .rw[ZX h,ZX h]
   .rw[Z0 h,Z0 h]
theorem tQ(k j:PK)(v:Z3):∀ es,mget j (mset k v es)=if j=k then (if mget k es=Z8 then Z8 else Z9 v) else mget j es
 | []=>by simp [mset,mget]
 | x::r=>by
   unfold mset;by_cases h:k=x.1
   .rw[ZX h,mget,mget,mget];subst h;by_cases H:j=x.1
    .rw[ZX H,ZX H,ZX rfl];simp
    .rw[Z0 H,Z0 H,Z0 H]
   .rw[Z0 h,mget,mget,mget,Z0 h,tQ k j v r];by_cases H:j=k
    .subst H;rw[Z0 h,ZX rfl,ZX rfl]
    .rw[Z0 H,Z0 H]
theorem Bv(k j:PK)(v:Z3)(es:Z5 (PK × Z3)):mget j (mput k v es)=if j=k then Z9 v else mget j es:=by
 unfold mput;by_cases h:mget k es=Z8
 .rw[ZX h,rU];by_cases H:j=k
  .subst H;simp [h]
  .rw[Z0 H,Z0 H];cases mget j es <;> rfl
 .rw[Z0 h,tQ,Z0 h]
variable {P:Program} {c:ZE Oper} {rest:Z5 Oper} {o:Oper} {a:Act} {Q:Exit->Act->Z2->Prop}
end
def qO(c:Ch)(id:Int)(n:Z7):Zy Fu:=match nI c with
 | some y=>if y.1.kind=1/\c.2.1=id/\y.1.name=n then Z9 y else Z8
 | none=>Z8
def nG(id:Int)(n:Z7)(o:Zy Fu)(c:Ch):Zy Fu:=match qO c id n with
 | some y=>Z9 y
 | none=>o
def lW(b:Z5 Ch)(id:Int)(n:Z7):Zy Fu:=b.foldl (nG id n) Z8
theorem tR(b:Z5 Ch)(c:Ch)(id:Int)(n:Z7):lW (b++[c]) id n=nG id n (lW b id n) c:=by
 unfold lW;rw[List.foldl_append];rfl
theorem Er(c:Ch)(y:Fu)(h:nI c=Z9 y):aA y=true:=by
 unfold nI at h;split at h
 .cases H:cF (Ds.bl c.2.2.2.1) with
  | none=>rw[H] at h;cases h
  | some z =>
    rw[H] at h;dsimp only at h;split at h
    .cases h;exact (mb _ _ H).1
    .cases h
 .cases h
def qt(l:Z5 Rw)(b:Z5 Ch)(c:Ch)(y:Fu):Z7 × Int:=match lW b c.2.1 (dK y.1.name) with
 | some g=>cR y g
 | none=>ci l c.2.1 y
def zip(l:Z5 Rw):Z5 Ch->Z5 Ch->Z5 Ch->Z5 Ch × Int
 | _,[],out=>(out,0)
 | b,c::cs,out=>match nI c with
   | none=>zip l (b++[c]) cs out
   | some y=>if y.1.kind≠0 then zip l (b++[c]) cs out else match qt l b c y with
     | (s,C)=>if C≠0 then ([],C) else zip l (b++[c]) cs (out++[(7,y.1.d0,⟨#[]⟩,s,y.1.vol)])
theorem Ki(s:Z7):Ds.bl (dK s)=Ds.splG (Ds.bl s):=Ds.bl_mk _
theorem KO(s:Z5 UInt8)(h:Ds.gen s=true):Ds.group (Ds.splG s)=true:=by
 unfold Ds.splG;rw[ZX h];unfold Ds.gen at h;rw[Bool.and_eq_true] at h;exact h.1
theorem Jc{c:Ch}(h:nI c=Z8):zip l b (c::cs) out=zip l (b++[c]) cs out:=by
 rw[zip,h]
theorem IR{c:Ch}{y:Fu}(h:nI c=Z9 y)(H:y.1.kind≠0):zip l b (c::cs) out=zip l (b++[c]) cs out:=by
 rw[zip,h];exact ZX H
def ch5(c:Ch):ZE Z3:=#[.int .i64 c.1,.int .i64 c.2.1,.string c.2.2.1,.string c.2.2.2.1,.string c.2.2.2.2]
def cv:Z5 Ch->Z5 Z3
 | []=>[]
 | c::l=>(ch5 c).toList++cv l
theorem vF:∀ l,(cv l).length=l.length*5
 | []=>rfl
 | c::l=>by rw[cv,List.length_append,vF l,List.length_cons];show 5+_=_;omega
theorem fC:∀ (l:Z5 Ch),∀ u∈cv l,u.oneCell'=true
 | [],u,h=>by cases h
 | c::r,u,h=>by
   rw[cv,List.mem_append] at h;rcases h with h|h
   .simp only[ch5,List.mem_cons,List.not_mem_nil,or_false] at h
    rcases h with rfl|rfl|rfl|rfl|rfl <;> rfl
   .exact fC r u h
theorem gP:∀ (l m:Z5 Ch),cv (l++m)=cv l++cv m
 | [],m=>rfl
 | x::r,m=>by rw[List.cons_append,cv,cv,gP r m,List.append_assoc]
theorem p7:∀ (l:Z5 Ch) (k:Nat) (h:k<l.length),∀ i v,(ch5 l[k])[i]?=Z9 v->(cv l)[k*5+i]?=Z9 v
 | x::r,0,_,i,v,H=>by
   have e:i<5:=(Y9.1 H).1;rw[cv,Nat.zero_mul,Nat.zero_add,List.getElem?_append_left (by show i<5;exact e)];simpa using H
 | x::r,k+1,h,i,v,H=>by
   have:=p7 r k (by simpa using h) i v H;rw[cv,List.getElem?_append_right (by show 5<=_;omega),<-this];congr 1
   show _ - 5=_
   omega
def ChS(w:Z2)(v:Z3)(l:Z5 Ch):Prop :=
 ∃ a c,v=.slice a l.length c/\l.length<=1000000/\(0<l.length->∃ b o,a=Z9 ⟨b,o,Z8⟩/\b<w.heap.size/\∀ k (h:k<l.length) i u,(ch5 l[k])[i]?=Z9 u->w.cell? ⟨b,o+k*5+i,Z8⟩=Z9 u)
theorem ChS.below{l:Z5 Ch}(h:ChS w v l)(e:Below w.heap.size w w'):ChS w' v l:=by
 obtain⟨a,c,g,m,n⟩:=h;refine⟨a,c,g,m,fun f=>?_⟩
 obtain⟨b,o,ha,H,q⟩:=n f;exact⟨b,o,ha,Nat.lt_of_lt_of_le H e.size,fun k r i u s=>(e.cell (p:=⟨b,o+k*5+i,Z8⟩) H).trans (q k r i u s)⟩
theorem jp{l:Z5 Ch}(z:l.length<=1000000)(h:CS w 5 v l.length (cv l)):ChS w v l:=by
 obtain⟨a,c,rfl,n,f⟩:=h;refine⟨a,c,rfl,z,fun H=>?_⟩
 obtain⟨⟨b,o,s⟩,rfl,p⟩:=f H;have e:=p 0 _ (p7 l 0 H 0 _ rfl)
 obtain rfl:s=Z8:=by
  have:=World.cell?_spot e;simpa [Addr.add] using this
 refine⟨b,o,rfl,block_lt_of_cell (by simpa [Addr.add] using e:w.cell? ⟨b,o,Z8⟩=_),fun k g i u m=>?_⟩
 have r:=p _ _ (p7 l k g i u m);rw[Addr.add_lit] at r;rw[Nat.add_assoc];exact r
theorem gA:Tryz.prog.info? 67=Z9 ((Tryz.prog.info? 67).getD default):=by kernel_rfl
theorem fZ:((Tryz.prog.info? 67).getD default).zero=Z9 (.agg #[.int .i64 0,.int .i64 0,.string ⟨#[]⟩,.string ⟨#[]⟩,.string ⟨#[]⟩]):=by kernel_rfl
theorem ge:((Tryz.prog.info? 67).getD default).size=5:=by kernel_rfl
theorem gi:((Tryz.prog.info? 67).getD default).bytes=64:=by kernel_rfl
theorem iE(W:Z2)(x:Ch)(t:TypeId)(k:Nat)(H:k=W.heap.size):CS (W.alloc (.cells (ch5 x) t)) 5 (.slice (Z9 ⟨k,0,Z8⟩) 1 1) 1 (cv [x]):=by
 subst H;refine⟨_,_,rfl,rfl,fun _=>⟨_,rfl,fun j u h=>?_⟩⟩
 rw[Addr.add_lit,Nat.zero_add,cell_of_row _ W.heap.size j _ t (0,0) (ZA W _)];have:cv [x]=(ch5 x).toList:=List.append_nil _;rw[this] at h;simpa using h
section
open Go.ChangeMaps (setBlock)
set_option linter.unusedSimpArgs false
def GV(o:Zy Z3)(g:Zy Fu):Prop:=match o,g with
 | none,none=>True
 | some v,some y=>aA y=true/\y.1.kind=1/\∃ A C e f,v=.agg (y.1.vals (.slice A 0 C) (.slice e 0 f))
 | _,_=>False
def GM(es:Z5 (PK × Z3))(b:Z5 Ch):Prop:=∀ id n,GV (mget (id,n) es) (lW b id n)
theorem GM.start:GM [] []:=fun _ _=>trivial
theorem GM.same{es:Z5 (PK × Z3)}(h:GM es b)(c:Ch)(H:∀ id n,qO c id n=Z8):GM es (b++[c]):=fun id n=>by
 rw[tR];unfold nG;rw[H];exact h id n
theorem GM.put{es:Z5 (PK × Z3)}(h:GM es b)(c:Ch)(y:Fu)(i:nI c=Z9 y)(H:y.1.kind=1)(A:Zy Addr)(C:Nat)(f:Zy Addr)(g:Nat):GM (mput (c.2.1,y.1.name) (.agg (y.1.vals (.slice A 0 C) (.slice f 0 g))) es) (b++[c]):=fun id n=>by
 rw[tR,Bv];unfold nG qO;rw[i];dsimp only;by_cases e:(id,n)=(c.2.1,y.1.name)
 .rw[ZX e];injection e with E m
  rw[ZX ⟨H,E.symm,m.symm⟩];exact⟨Er c y i,H,A,C,f,g,rfl⟩
 .rw[Z0 e,Z0 (fun q=>e (by rw[q.2.1,q.2.2]))];exact h id n
structure NSt (w0 w wr:Z2) (p:Nat) (sv:Z3) (l:Z5 Rw) (fl cd c:Int) (es:Z5 (PK × Z3)) (ov:Z3) (out:Z5 Ch):Prop where
 own:wr.ownsRow (w.heap.size+1) 67 5 ov out.length (cv out)
 sh:SHs w0 wr p sv l fl cd c
 g:w.grownBy wr (Z9 p)
 m:wr.heap[w.heap.size]?=Z9 (.map (pent es) es.length)
theorem NSt.below{c:Int}{es:Z5 (PK × Z3)}(h:NSt w0 w wr p sv l fl cd c es ov out)(H:Below wr.heap.size wr w'):NSt w0 w w' p sv l fl cd c es ov out :=
 ⟨aV h.own (fun x e=>H.block x (ax h.own x e).2),h.sh.below H,bx h.g (H.mono h.g.size),(H.block _ (Y9.1 h.m).1).trans h.m⟩
theorem NSt.tick{c C:Int}{es:Z5 (PK × Z3)}(h:NSt w0 w wr p sv l fl cd c es ov out)(i:p<w.heap.size)(H:wr.grownBy w' (Z9 p))(s:SHs w0 w' p sv l fl cd C):NSt w0 w w' p sv l fl cd C es ov out :=
 ⟨aV h.own (fun x f=>H.block x (ax h.own x f).2 (fun e=>by have:=Option.some.inj e;have:=(ax h.own x f).1;omega)),s,aJ h.g H,(H.block _ (Y9.1 h.m).1 (fun e=>by have:=Option.some.inj e;omega)).trans h.m⟩
theorem NSt.upd{c C:Int}{es e:Z5 (PK × Z3)}(h:NSt w0 w wr p sv l fl cd c es ov out)(S:SHs w0 w p sv l fl cd C):NSt w0 w (setBlock wr w.heap.size (.map (pent e) e.length)) p sv l fl cd c e ov out:=by
 have t:=(Y9.1 h.m).1;have H:Below w.heap.size wr (setBlock wr w.heap.size (.map (pent e) e.length)):=qU (Below.refl _ _) (Nat.le_refl _) _;exact⟨aV h.own (fun x i=>kP _ _ _ _ (by have:=(ax h.own x i).1;omega)),h.sh.belowB H S.pl (fun f b H=>jw S.r f b H),bx h.g H,nZ _ _ _ t⟩
attribute [local go_sem ↓] aZ bf bq cl
attribute [local go_sem] bn aS aH bE bH aK aT ak aI aw az aM ah aQ aL aP aO aR aY aW bD ap aq
end
section
set_option linter.unusedSimpArgs false
structure RNs (w wr:Z2) (ov:Z3) (out:Z5 Ch):Prop where
 own:wr.ownsRow w.heap.size 67 5 ov out.length (cv out)
 b:Below w.heap.size w wr
theorem RNs.below(h:RNs w wr ov out)(H:Below wr.heap.size wr w'):RNs w w' ov out :=
 ⟨aV h.own (fun x e=>H.block x (ax h.own x e).2),bt h.b H⟩
theorem RNs.belowB{B:Nat}(h:RNs w wr ov out)(H:Below B wr w')(e:w.heap.size<=B)(f:∀ q,ov.ownBlock=Z9 q->q<B):RNs w w' ov out :=
 ⟨aV h.own (fun x g=>H.block x (f x g)),h.b.trans (H.mono e)⟩
attribute [local go_sem ↓] aZ bf bq cl
attribute [local go_sem] bn aS aH bE bH aK aT ak aI aw az aM ah aQ aL aP aO aR aY aW bD ap aq
end
end Go.Proofs.YtnkjliahpeebjaaGreatDoor
