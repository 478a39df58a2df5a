/- Catalogs. -/
import Derived.Test.YtnkjliahpeebjaaGreatDoorNx
set_option maxRecDepth 8000
set_option maxHeartbeats 16000000
open Option renaming some->Z9,none->Z7
open _root_ renaming ByteArray->Z6,List->Z3,if_neg->ZX,if_pos->ZT,Array->Zz,Option->Zm
open Go renaming Value->Z1,World->ZY,heap_alloc_new->Zu,execOp->XR,MapEntry->VI
open List renaming setIfInBounds_toArray->Zw,cons_append->Zp,set_cons_zero->Za,set_cons_succ->Y9
open Array renaming getElem?_eq_some_iff->YO
namespace Go.Proofs.YtnkjliahpeebjaaGreatDoor
open Go.RowKit
variable(d:Operand->Z1){w' w0 w:ZY}(f g:Z1){wr W:ZY}{v ov sv:Z1}(c:Ch){ei es:Zz VI}{k p j:Nat}{l:Z3 Rw}{fl cd:Int}{b out:Z3 Ch}
section
open Go.Maps Go.WideMaps
open Go.ChangeMaps (setBlock)
variable {P:Program} {e:Zz Oper} {rest:Z3 Oper} {o:Oper} {a:Act} {Q:Exit->Act->ZY->Prop}
def vol1:Z6:=⟨#[86,49]⟩
def vol2:Z6:=⟨#[86,50]⟩
end
section
set_option linter.unusedSimpArgs false
def e37:En:={ En.zero with kind:=0,name:=⟨#[80,65,89,46,77,65,83,84,69,82]⟩,d0:=130,vol:=vol1 }
def v37:Zz Z1:=e37.vals (.slice Z7 0 0) (.slice Z7 0 0)
theorem Fe:v37.extract 2 23=e37.dat:=fp e37 _ _
theorem De:bh e37.dat.toList=true:=gO e37
theorem CU:v37.size=33:=ah e37 _ _
theorem Fv:bh (En.zero.vals (.slice Z7 0 0) (.slice Z7 0 0)).toList=true:=ay _ _ _ rfl rfl
theorem Ff:bh v37.toList=true:=ay e37 _ _ rfl rfl
structure CMW (w wr:ZY) (es ei:Zz VI) (k j:Nat):Prop where
 bel:Below w.heap.size w wr
 m1:wr.heap[w.heap.size]?=Z9 (.map es k)
 m2:wr.heap[w.heap.size+1]?=Z9 (.map ei j)
theorem CMW.lt(h:CMW w wr es ei k j):w.heap.size+1<wr.heap.size:=by
 rcases Nat.lt_or_ge (w.heap.size+1) wr.heap.size with q|q
 .exact q
 .have:=h.m2;rw[Array.getElem?_eq_none q] at this;cases this
theorem CMW.below(h:CMW w wr es ei k j)(H:Below wr.heap.size wr W):CMW w W es ei k j :=
 ⟨bt h.bel H,(H.block _ (by have:=h.lt;omega)).trans h.m1,(H.block _ h.lt).trans h.m2⟩
theorem CMW.grown{p:Zm Nat}(h:CMW w wr es ei k j)(H:wr.grownBy W p)(m:∀ q,p=Z9 q->w.heap.size+1<q):CMW w W es ei k j :=
 ⟨h.bel.trans ⟨H.os,H.tape,H.output,H.size,fun i n=>H.block i (by have:=h.lt;omega) (fun e=>by have:=m i e.symm;omega)⟩,(H.block _ (by have:=h.lt;omega) (fun e=>by have:=m _ e.symm;omega)).trans h.m1,(H.block _ h.lt (fun e=>by have:=m _ e.symm;omega)).trans h.m2⟩
theorem CMW.start(w:ZY):CMW w ((w.alloc (.map #[] 0)).alloc (.map #[] 0)) #[] #[] 0 0:=by
 refine⟨by exact aB,?_,?_⟩
 .exact (((Below.refl _ _).alloc (Nat.le_refl _) (.map #[] 0):Below (w.alloc (.map #[] 0)).heap.size (w.alloc (.map #[] 0)) _).block _ (by simp)).trans (Zu w _)
 .have:=Zu (w.alloc (.map #[] 0)) (.map #[] 0);simpa using this
theorem CMW.drew(h:CMW w wr es ei k j):CMW w wr.drew es ei k j:=h.below (Below.drew (Below.refl _ _))
attribute [local go_sem ↓] aZ bq fb fe kF
attribute [local go_sem ↓ high] bf
attribute [local go_sem] da gQ FJ run_makeMap bn aS aH bE bH fx aK aT ak aI aw az aM ah fp bW aQ aL aP aO aR aY aW bD CU Ff Fe De Fv
def DFo(w wr:ZY)(o:Z1):Prop:=∃ g c,o=.slice (Z9 ⟨g,0,Z7⟩) 1 c/\(∀ j v,(#[.int .i64 3,.int .i64 130,.string vol2,.string ⟨#[80,65,89,46,77,65,83,84,69,82]⟩]:Zz Z1)[j]?=Z9 v->wr.cell? ⟨g,j,Z7⟩=Z9 v)/\Below w.heap.size w wr
theorem DFo.of{i:ZY}{a:Zm Addr}{c:Nat}(h:i.ownsRow w.heap.size 41 4 (.slice a 1 c) 1 [.int .i64 3,.int .i64 130,.string vol2,.string ⟨#[80,65,89,46,77,65,83,84,69,82]⟩])(m:Below w.heap.size w i):DFo w i (.slice a 1 c):=by
 obtain⟨A,t,e,-,p⟩:=dU h;rcases h.2 with ⟨H,-⟩|⟨g,C,r,H,-⟩
 .cases H
 .cases H
  cases e
  obtain⟨s,E,q⟩:=p (by decide);cases E
  refine⟨g,_,rfl,fun j v n=>?_,m⟩
  have:=q j v (by simpa using n);rwa [Addr.add_lit,Nat.zero_add] at this
attribute [local go_sem] cG eU eV fE
end
section
open Go.ChangeMaps (setBlock)
abbrev PK:=Int × Z6
def pk(k:PK):Z1:=.agg #[.int .i64 k.1,.string k.2]
def pents:Z3 (PK × Z1)->Nat->Z3 VI
 | [],_=>[]
 | x::r,i=>⟨pk x.1,x.2,i⟩::pents r (i+1)
def pent(es:Z3 (PK × Z1)):Zz VI:=(pents es 0).toArray
def mget(k:PK):Z3 (PK × Z1)->Zm Z1
 | []=>Z7
 | x::r=>if k=x.1 then Z9 x.2 else mget k r
def mset(k:PK)(v:Z1):Z3 (PK × Z1)->Z3 (PK × Z1)
 | []=>[]
 | x::r=>if k=x.1 then (x.1,v)::r else x::mset k v r
def mput(k:PK)(v:Z1)(es:Z3 (PK × Z1)):Z3 (PK × Z1):=if mget k es=Z7 then es++[(k,v)] else mset k v es
theorem rU(k j:PK)(v:Z1):∀ es,mget j (es++[(k,v)])=match mget j es with|some u=>Z9 u|none=>if j=k then Z9 v else Z7
 | []=>rfl
 | x::r=>by
   rw[Zp,mget,mget,rU k j v r];by_cases h:j=x.1
   .rw[ZT h,ZT h]
   .rw[ZX h,ZX h]
theorem tQ(k j:PK)(v:Z1):∀ es,mget j (mset k v es)=if j=k then (if mget k es=Z7 then Z7 else Z9 v) else mget j es
 | []=>by simp [mset,mget]
 | x::r=>by
   unfold mset;by_cases h:k=x.1
   .rw[ZT h,mget,mget,mget];subst h;by_cases H:j=x.1
    .rw[ZT H,ZT H,ZT rfl];simp
    .rw[ZX H,ZX H,ZX H]
   .rw[ZX h,mget,mget,mget,ZX h,tQ k j v r];by_cases H:j=k
    .subst H;rw[ZX h,ZT rfl,ZT rfl]
    .rw[ZX H,ZX H]
theorem Bv(k j:PK)(v:Z1)(es:Z3 (PK × Z1)):mget j (mput k v es)=if j=k then Z9 v else mget j es:=by
 unfold mput;by_cases h:mget k es=Z7
 .rw[ZT h,rU];by_cases H:j=k
  .subst H;simp [h]
  .rw[ZX H,ZX H];cases mget j es <;> rfl
 .rw[ZX h,tQ,ZX h]
variable {P:Program} {e:Zz Oper} {rest:Z3 Oper} {o:Oper} {a:Act} {Q:Exit->Act->ZY->Prop}
end
def qO(c:Ch)(id:Int)(n:Z6):Zm Fu:=match nI c with
 | some y=>if y.1.kind=1/\c.2.1=id/\y.1.name=n then Z9 y else Z7
 | none=>Z7
def nG(id:Int)(n:Z6)(o:Zm Fu)(c:Ch):Zm Fu:=match qO c id n with
 | some y=>Z9 y
 | none=>o
def lW(b:Z3 Ch)(id:Int)(n:Z6):Zm Fu:=b.foldl (nG id n) Z7
theorem tR(b:Z3 Ch)(c:Ch)(id:Int)(n:Z6):lW (b++[c]) id n=nG id n (lW b id n) c:=by
 unfold lW;rw[List.foldl_append];rfl
theorem Er(y:Fu)(h:nI c=Z9 y):aA y=true:=by
 unfold nI at h;split at h
 .cases H:cF (Ds.bl c.2.2.2.1) with
  | none=>rw[H] at h;cases h
  | some z =>
    rw[H] at h;dsimp only at h;split at h
    .cases h;exact (mb _ _ H).1
    .cases h
 .cases h
def ch5(c:Ch):Zz Z1:=#[.int .i64 c.1,.int .i64 c.2.1,.string c.2.2.1,.string c.2.2.2.1,.string c.2.2.2.2]
def cv:Z3 Ch->Z3 Z1
 | []=>[]
 | c::l=>(ch5 c).toList++cv l
theorem vF:∀ l,(cv l).length=l.length*5
 | []=>rfl
 | c::l=>by rw[cv,List.length_append,vF l,List.length_cons];show 5+_=_;omega
theorem fC:∀ (l:Z3 Ch),∀ u∈cv l,u.oneCell'=true
 | [],u,h=>by cases h
 | c::r,u,h=>by
   rw[cv,List.mem_append] at h;rcases h with h|h
   .simp only[ch5,List.mem_cons,List.not_mem_nil,or_false] at h
    rcases h with rfl|rfl|rfl|rfl|rfl <;> rfl
   .exact fC r u h
theorem gP:∀ (l m:Z3 Ch),cv (l++m)=cv l++cv m
 | [],m=>rfl
 | x::r,m=>by rw[Zp,cv,cv,gP r m,List.append_assoc]
theorem p7:∀ (l:Z3 Ch) (k:Nat) (h:k<l.length),∀ i v,(ch5 l[k])[i]?=Z9 v->(cv l)[k*5+i]?=Z9 v
 | x::r,0,_,i,v,H=>by
   have m:i<5:=(YO.1 H).1;rw[cv,Nat.zero_mul,Nat.zero_add,List.getElem?_append_left (by show i<5;exact m)];simpa using H
 | x::r,k+1,h,i,v,H=>by
   have:=p7 r k (by simpa using h) i v H;rw[cv,List.getElem?_append_right (by show 5<=_;omega),<-this];congr 1
   show _ - 5=_
   omega
def ChS(w:ZY)(v:Z1)(l:Z3 Ch):Prop :=
 ∃ a c,v=.slice a l.length c/\l.length<=1000000/\(0<l.length->∃ b o,a=Z9 ⟨b,o,Z7⟩/\b<w.heap.size/\∀ k (h:k<l.length) i u,(ch5 l[k])[i]?=Z9 u->w.cell? ⟨b,o+k*5+i,Z7⟩=Z9 u)
theorem ChS.below{l:Z3 Ch}(h:ChS w v l)(m:Below w.heap.size w w'):ChS w' v l:=by
 obtain⟨a,c,q,r,s⟩:=h;refine⟨a,c,q,r,fun n=>?_⟩
 obtain⟨b,o,ha,H,t⟩:=s n;exact⟨b,o,ha,Nat.lt_of_lt_of_le H m.size,fun k x i u y=>(m.cell (p:=⟨b,o+k*5+i,Z7⟩) H).trans (t k x i u y)⟩
theorem jp{l:Z3 Ch}(z:l.length<=1000000)(h:CS w 5 v l.length (cv l)):ChS w v l:=by
 obtain⟨a,c,rfl,x,n⟩:=h;refine⟨a,c,rfl,z,fun H=>?_⟩
 obtain⟨⟨b,o,s⟩,rfl,p⟩:=n H;have m:=p 0 _ (p7 l 0 H 0 _ rfl)
 obtain rfl:s=Z7:=by
  have:=World.cell?_spot m;simpa [Addr.add] using this
 refine⟨b,o,rfl,block_lt_of_cell (by simpa [Addr.add] using m:w.cell? ⟨b,o,Z7⟩=_),fun k q i u t=>?_⟩
 have r:=p _ _ (p7 l k q i u t);rw[Addr.add_lit] at r;rw[Nat.add_assoc];exact r
theorem gA:Tryz.prog.info? 67=Z9 ((Tryz.prog.info? 67).getD default):=by kernel_rfl
theorem fZ:((Tryz.prog.info? 67).getD default).zero=Z9 (.agg #[.int .i64 0,.int .i64 0,.string ⟨#[]⟩,.string ⟨#[]⟩,.string ⟨#[]⟩]):=by kernel_rfl
theorem ge:((Tryz.prog.info? 67).getD default).size=5:=by kernel_rfl
theorem gi:((Tryz.prog.info? 67).getD default).bytes=64:=by kernel_rfl
theorem iE(W:ZY)(x:Ch)(t:TypeId)(k:Nat)(H:k=W.heap.size):CS (W.alloc (.cells (ch5 x) t)) 5 (.slice (Z9 ⟨k,0,Z7⟩) 1 1) 1 (cv [x]):=by
 subst H;refine⟨_,_,rfl,rfl,fun _=>⟨_,rfl,fun j u h=>?_⟩⟩
 rw[Addr.add_lit,Nat.zero_add,cell_of_row _ W.heap.size j _ t (0,0) (Zu W _)];have:cv [x]=(ch5 x).toList:=List.append_nil _;rw[this] at h;simpa using h
section
open Go.ChangeMaps (setBlock)
set_option linter.unusedSimpArgs false
def GV(o:Zm Z1)(g:Zm Fu):Prop:=match o,g with
 | none,none=>True
 | some v,some y=>aA y=true/\y.1.kind=1/\∃ A C h i,v=.agg (y.1.vals (.slice A 0 C) (.slice h 0 i))
 | _,_=>False
def GM(es:Z3 (PK × Z1))(b:Z3 Ch):Prop:=∀ id n,GV (mget (id,n) es) (lW b id n)
theorem GM.start:GM [] []:=fun _ _=>trivial
theorem GM.same{es:Z3 (PK × Z1)}(h:GM es b)(c:Ch)(H:∀ id n,qO c id n=Z7):GM es (b++[c]):=fun id n=>by
 rw[tR];unfold nG;rw[H];exact h id n
theorem GM.put{es:Z3 (PK × Z1)}(h:GM es b)(c:Ch)(y:Fu)(n:nI c=Z9 y)(H:y.1.kind=1)(A:Zm Addr)(C:Nat)(i:Zm Addr)(m:Nat):GM (mput (c.2.1,y.1.name) (.agg (y.1.vals (.slice A 0 C) (.slice i 0 m))) es) (b++[c]):=fun id N=>by
 rw[tR,Bv];unfold nG qO;rw[n];dsimp only;by_cases e:(id,N)=(c.2.1,y.1.name)
 .rw[ZT e];injection e with E r
  rw[ZT ⟨H,E.symm,r.symm⟩];exact⟨Er c y n,H,A,C,i,m,rfl⟩
 .rw[ZX e,ZX (fun q=>e (by rw[q.2.1,q.2.2]))];exact h id N
structure NSt (w0 w wr:ZY) (p:Nat) (sv:Z1) (l:Z3 Rw) (fl cd c:Int) (es:Z3 (PK × Z1)) (ov:Z1) (out:Z3 Ch):Prop where
 own:wr.ownsRow (w.heap.size+1) 67 5 ov out.length (cv out)
 sh:SHs w0 wr p sv l fl cd c
 g:w.grownBy wr (Z9 p)
 m:wr.heap[w.heap.size]?=Z9 (.map (pent es) es.length)
theorem NSt.below{c:Int}{es:Z3 (PK × Z1)}(h:NSt w0 w wr p sv l fl cd c es ov out)(H:Below wr.heap.size wr w'):NSt w0 w w' p sv l fl cd c es ov out :=
 ⟨aV h.own (fun x i=>H.block x (ax h.own x i).2),h.sh.below H,bx h.g (H.mono h.g.size),(H.block _ (YO.1 h.m).1).trans h.m⟩
theorem NSt.tick{c C:Int}{es:Z3 (PK × Z1)}(h:NSt w0 w wr p sv l fl cd c es ov out)(n:p<w.heap.size)(H:wr.grownBy w' (Z9 p))(s:SHs w0 w' p sv l fl cd C):NSt w0 w w' p sv l fl cd C es ov out :=
 ⟨aV h.own (fun x i=>H.block x (ax h.own x i).2 (fun e=>by have:=Option.some.inj e;have:=(ax h.own x i).1;omega)),s,aJ h.g H,(H.block _ (YO.1 h.m).1 (fun e=>by have:=Option.some.inj e;omega)).trans h.m⟩
theorem NSt.upd{c C:Int}{es E:Z3 (PK × Z1)}(h:NSt w0 w wr p sv l fl cd c es ov out)(S:SHs w0 w p sv l fl cd C):NSt w0 w (setBlock wr w.heap.size (.map (pent E) E.length)) p sv l fl cd c E ov out:=by
 have t:=(YO.1 h.m).1;have H:Below w.heap.size wr (setBlock wr w.heap.size (.map (pent E) E.length)):=qU (Below.refl _ _) (Nat.le_refl _) _;exact⟨aV h.own (fun x n=>kP _ _ _ _ (by have:=(ax h.own x n).1;omega)),h.sh.belowB H S.pl (fun i b H=>jw S.r i b H),bx h.g H,nZ _ _ _ t⟩
attribute [local go_sem ↓] aZ bf bq cl
attribute [local go_sem] bn aS aH bE bH aK aT ak aI aw az aM ah aQ aL aP aO aR aY aW bD ap aq
end
section
set_option linter.unusedSimpArgs false
structure RNs (w wr:ZY) (ov:Z1) (out:Z3 Ch):Prop where
 own:wr.ownsRow w.heap.size 67 5 ov out.length (cv out)
 b:Below w.heap.size w wr
theorem RNs.below(h:RNs w wr ov out)(H:Below wr.heap.size wr w'):RNs w w' ov out :=
 ⟨aV h.own (fun x i=>H.block x (ax h.own x i).2),bt h.b H⟩
theorem RNs.belowB{B:Nat}(h:RNs w wr ov out)(H:Below B wr w')(i:w.heap.size<=B)(m:∀ q,ov.ownBlock=Z9 q->q<B):RNs w w' ov out :=
 ⟨aV h.own (fun x n=>H.block x (m x n)),h.b.trans (H.mono i)⟩
attribute [local go_sem ↓] aZ bf bq cl
attribute [local go_sem] bn aS aH bE bH aK aT ak aI aw az aM ah aQ aL aP aO aR aY aW bD ap aq
end
theorem DG(w:ZY):(binOp .neq 67 (.agg (ch5 c)) (.agg (ch5 c))).run Tryz.prog w=.ok (.bool false) w:=by
 rw[run_neq_struct,run_equalIn_struct w 9999 67 _ _ (by simp [Program.fieldsOf,Tryz.underlying67]) (by kernel_rfl)];unfold ch5;simp [Program.fieldsOf,Tryz.underlying67,Op.eqFields,go_sem]
theorem GY(w:ZY)(dst x y t pos af gd)(c:Ch)(h:d x=.agg (ch5 c))(H:d y=.agg (ch5 c)) :
 (XR d ⟨dst,.binOp .neq 67 x y 67,t,pos,af,gd⟩).run Tryz.prog w=.ok (.value (.bool false)) w:=by
 unfold XR;simp only[h,H,Sem.run_bind,DG,Sem.run_pure]
 simp [eqGuard,go_sem]
theorem wP(w:ZY)(dst x t pos af gd)(b o:Nat)(c:Ch)(m:d x=.pointer (Z9 ⟨b,o,Z7⟩))(H:∀ i u,(ch5 c)[i]?=Z9 u->w.cell? ⟨b,o+i,Z7⟩=Z9 u) :
 (XR d ⟨dst,.load 67 x,t,pos,af,gd⟩).run Tryz.prog w=.ok (.value (.agg (ch5 c))) w:=by
 unfold XR;have r:=run_loadAt_mid (P:=Tryz.prog) w b o 67 (ch5 c).toList _ (fun j v h=>by rw[Array.getElem?_toList] at h;exact H j v h) Tryz.underlying67 rfl (by kernel_rfl);simp only[m,Sem.run_bind,r,Result.andThen_ok,Sem.run_pure,Array.toArray_toList]
def nE(w:ZY)(b o:Nat)(c:Ch):Prop:=∀ i u,(ch5 c)[i]?=Z9 u->w.cell? ⟨b,o+i,Z7⟩=Z9 u
theorem rchanges(l:Z3 Ch)(w:ZY)(F:ChS w f l)(G:ChS w g l) :
 Calls Tryz.prog 25 #[f,g] w fun r w'=>r=.returned (.bool true)/\Below w.heap.size w w':=by
 obtain⟨J,L,rfl,U,n⟩:=F;obtain⟨K,N,rfl,-,s⟩:=G;have z:=lh n;have A:=lh s;clear n s;go_enter Tryz.func25,Tryz.ntmps25
 go_wp2_with fail
 go_loopw [5] (fun i wr=>∃ k:Nat,k<=l.length/\i=.int .i64 k/\∃ q,wr=w.drewN q) (fun i _=>l.length - (intOf i).toNat)
 case atStart=>exact⟨0,Nat.zero_le _,rfl,0,rfl⟩
 case round =>
  obtain⟨k,T,rfl,q,rfl⟩:=hrel;by_cases t:k<l.length
  .obtain⟨b,o,rfl,R,m⟩:=z.o (by omega);obtain⟨B,O,rfl,I,H⟩:=A.o (by omega);have x:=m k t;have y:=H k t;generalize l[k]=C at x y;have D:nE (w.drewN q) b (o+k*5) C:=x;have E:nE (w.drewN q) B (O+k*5) C:=y;have V:(0:Int)<=(k:Int):=by omega
   have X:(k:Int)<(l.length:Int):=by omega
   clear x y m H;go_upto_region 6 with fail
   refine wp_region_held_drew (S:=fun w'=>nE w' b (o+k*5) C/\nE w' B (O+k*5) C) (by kernel_rfl) ?_ (fun hHeld=>?_)
   .exact⟨D,E⟩
   (refine rgy (i:=0) (Z9 17) ?_;(try simp only[Act.put,pz]))
   (refine rgy (i:=1) (Z9 18) ?_;(try simp only[Act.put,pz]))
   (refine rgy (i:=2) (Z9 19) ?_;(try simp only[Act.put,pz]))
   refine eq (i:=3) (Z9 20) (v:=.agg (ch5 C)) rfl rfl (by kernel_rfl) (by kernel_rfl) (by kernel_rfl) (fun _ _ _ h=>h) (by kernel_rfl) (fun w' u=>?_) (by assumption) ?_
   .exact wP _ w' _ _ _ _ _ _ b (o+k*5) C rfl u.1
   try simp only[Act.put,Zw,Za,Y9]
   (refine rgy (i:=4) (Z9 21) ?_;(try simp only[Act.put,pz]))
   (refine rgy (i:=5) (Z9 22) ?_;(try simp only[Act.put,pz]))
   (refine rgy (i:=6) (Z9 23) ?_;(try simp only[Act.put,pz]))
   refine eq (i:=7) (Z9 24) (v:=.agg (ch5 C)) rfl rfl (by kernel_rfl) (by kernel_rfl) (by kernel_rfl) (fun _ _ _ h=>h) (by kernel_rfl) (fun w' u=>?_) (by assumption) ?_
   .exact wP _ w' _ _ _ _ _ _ B (O+k*5) C rfl u.2
   try simp only[Act.put,Zw,Za,Y9]
   refine eq (i:=8) (Z9 25) (v:=.bool false) rfl rfl (by kernel_rfl) (by kernel_rfl) (by kernel_rfl) (fun _ _ _ h=>h) (by kernel_rfl) (fun w' u=>?_) (by assumption) ?_
   .exact GY _ w' _ _ _ _ _ _ _ C rfl rfl
   try simp only[Act.put,Zw,Za,Y9]
   refine wpAnyH_done (by kernel_rfl) ?_ _
   go_wp2_with fail
   go_roundw
   case rel=>exact⟨k+1,by omega,by go_num,q+1,rfl⟩
   case measure=>simp [intOf];omega
  .obtain rfl:k=l.length:=by omega
   go_wp2_with fail
   go_ret
   exact⟨rfl,below_drewN (Below.refl _ _) _⟩
end Go.Proofs.YtnkjliahpeebjaaGreatDoor
