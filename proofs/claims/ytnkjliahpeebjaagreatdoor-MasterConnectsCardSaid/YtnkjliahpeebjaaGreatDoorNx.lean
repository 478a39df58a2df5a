/- Catalogs. -/
import Derived.Test.YtnkjliahpeebjaaGreatDoorGt
set_option maxRecDepth 8000
set_option maxHeartbeats 16000000
open Option renaming some->Z9,none->Z8
open _root_ renaming ByteArray->Z7,List->Z5,UInt8->ZP,Option->Zy
open Go renaming Value->Z3,World->Z2
open Nat renaming lt_of_lt_of_le->ZY,le_refl->ZS
open Go.RowKit renaming Below->ZV
open Option.some renaming inj->ZR
namespace Go.Proofs.YtnkjliahpeebjaaGreatDoor
variable{t b:TypeId}(l:Z5 Rw){w W w' a W':Z2}(fl cd c:Int){p rb q:Nat}(id d:Int){g x:Fu}(name:Z7){gr al al2 gr2:Z3}
def wtx(s:Z5 ZP):Z5 ZP:=Wi.enc s.length++s
def nR:Fu:=(En.zero,[],[])
def IO(g:Fu):Bool:=dh g.1 En.zero g.2.1 [] g.2.2 []
def uc(n:Z5 ZP)(g:Fu):Bool:=if Ds.gen n=true then aA g&&(decide (g.1.kind=1)&&decide (Ds.bl g.1.name=Ds.splG n)) else IO g
def bv(x g:Fu):Bool:=aA x&&(decide (x.1.kind=0)&&uc (Ds.bl x.1.name) g)
def ek(x g:Fu):Z5 ZP:=if Ds.gen (Ds.bl x.1.name)=true then cJ g else []
def sc(x g:Fu):Z5 ZP:=wtx (cJ x)++wtx (ek x g)
def sr(x g:Fu):Zy (Z5 ZP):=if bv x g=true then Z9 (sc x g) else Z8
def co(s:Z5 ZP):Zy (Fu × Fu) :=
 let a:=Rd.txt 200 (s,0)
 let b:=Rd.txt 200 a.2
 if Rd.fin b.2=0 then
  match cF a.1 with
  | none=>Z8
  | some x=>match (if b.1=[] then Z9 nR else cF b.1) with
    | none=>Z8
    | some g=>if sr x g=Z9 s then Z9 (x,g) else Z8
 else Z8
section
open Go.RowKit
set_option linter.unusedSimpArgs false
def eg(x g:Fu):Z7:=if bv x g=true then ⟨(sc x g).toArray⟩ else ⟨#[]⟩
attribute [local go_sem ↓] aZ bf
attribute [local go_sem] aS aH aK aT ak aI aw az aM ah aQ aL aP aO aR aY aW bD
end
section
open Go.RowKit
def ParRo(w w':Z2)(s:Z5 ZP)(r:Ending):Prop:=∃ (x g:Fu) (al gr al2 gr2:Z3) (C:Int),r=.returned (.tuple #[.agg (x.1.vals al gr),.agg (g.1.vals al2 gr2),.int .i64 C])/\IS w' al x.2.1/\GS w' gr x.2.2/\IS w' al2 g.2.1/\GS w' gr2 g.2.2/\ZV w.heap.size w w'/\(co s=Z9 (x,g)/\C=0\/co s=Z8/\x=nR/\g=nR/\C=11)/\
 (∀ y,al.ownBlock=Z9 y->w.heap.size<=y)/\(∀ y,gr.ownBlock=Z9 y->w.heap.size<=y)/\(∀ y,al2.ownBlock=Z9 y->w.heap.size<=y)/\(∀ y,gr2.ownBlock=Z9 y->w.heap.size<=y)
theorem ParRo.bad{s:Z5 ZP}(e:co s=Z8)(H:ZV w.heap.size w w'):ParRo w w' s (.returned (.tuple #[.agg (zlit 0 ⟨#[]⟩),.agg (zlit 0 ⟨#[]⟩),.int .i64 11])):=by
 rw[eh];exact⟨nR,nR,.slice Z8 0 0,.slice Z8 0 0,.slice Z8 0 0,.slice Z8 0 0,11,rfl,IS.nil _,GS.nil _,IS.nil _,GS.nil _,H,Or.inr ⟨e,rfl,rfl,rfl⟩,(fun y h=>by cases h),(fun y h=>by cases h),(fun y h=>by cases h),(fun y h=>by cases h)⟩
def PW(w W:Z2)(rb:Nat):Prop:=ZV w.heap.size w W/\Held W w.heap.size 33/\Held W (w.heap.size+1) 33/\w.heap.size+1<rb/\rb<W.heap.size
theorem PW.lt(h:PW w W rb):rb<W.heap.size:=h.2.2.2.2
theorem PW.bel(h:PW w W rb):ZV w.heap.size w W:=h.1
theorem PW.r0(h:PW w W rb):Held W w.heap.size 33:=h.2.1
theorem PW.r1(h:PW w W rb):Held W (w.heap.size+1) 33:=h.2.2.1
theorem PW.grown(h:PW w W rb)(H:W.grownBy W' (Z9 rb)):PW w W' rb:=by
 obtain⟨j,f,i,k,m⟩:=h;refine⟨j.trans (gJ H (by omega) (by omega)),f.of_block (H.block _ f.lt (by intro e;have:=ZR e;omega)),i.of_block (H.block _ i.lt (by intro e;have:=ZR e;omega)),k,ZY m H.size⟩
theorem PW.below(h:PW w W rb)(H:ZV W.heap.size W W'):PW w W' rb :=
 ⟨bt h.1 H,h.2.1.below H,h.2.2.1.below H,h.2.2.2.1,ZY h.2.2.2.2 H.size⟩
theorem PW.alloc(h:PW w W rb)(o:Obj):PW w (W.alloc o) rb:=h.below ((Below.refl _ _).alloc (ZS _) o)
def P4(W:Z2)(g p q:Nat)(X gv:Array Z3):Prop:=row W p=X/\row W q=gv/\Held W g 33/\Held W (g+1) 33
theorem P4.set{g k:Nat}{X gv:Array Z3}(h:P4 W g p q X gv)(c:Array Z3)(H:c.size=33)(f:g+1<p)(i:g+1<q)(e:k=g\/k=g+1):P4 (W.setRow k c) g p q X gv :=
 ⟨by rw[cT _ _ _ _ (by omega)];exact h.1,by rw[cT _ _ _ _ (by omega)];exact h.2.1,h.2.2.1.set c (fun _=>H),h.2.2.2.set c (fun _=>H)⟩
theorem below2'(w:Z2)(a b:Obj):ZV w.heap.size w ((w.alloc a).alloc b):=by exact aB
structure FNs (w W:Z2) (rb p q:Nat) (x g:Fu) (al gr al2 gr2:Z3):Prop where
 pw:PW w W rb
 rx:row W p=x.1.vals al gr
 rg:row W q=g.1.vals al2 gr2
 ix:IS W al x.2.1
 gx:GS W gr x.2.2
 ig:IS W al2 g.2.1
 gg:GS W gr2 g.2.2
 nx:x.1.name.size<=1000
 ng:g.1.name.size<=1000
 pp:w.heap.size+1<p
 qq:w.heap.size+1<q
 o1:∀ y,al.ownBlock=Z9 y->w.heap.size+2<=y
 o2:∀ y,gr.ownBlock=Z9 y->w.heap.size+2<=y
 o3:∀ y,al2.ownBlock=Z9 y->w.heap.size+2<=y
 o4:∀ y,gr2.ownBlock=Z9 y->w.heap.size+2<=y
theorem FNs.below(h:FNs w W rb p q x g al gr al2 gr2)(H:ZV W.heap.size W W'):FNs w W' rb p q x g al gr al2 gr2 :=
 ⟨h.pw.below H,am H h.rx (by rw[ah];decide),am H h.rg (by rw[ah];decide),h.ix.below H,h.gx.below H,h.ig.below H,h.gg.below H,h.nx,h.ng,h.pp,h.qq,h.o1,h.o2,h.o3,h.o4⟩
theorem FNs.p4(h:FNs w W rb p q x g al gr al2 gr2):P4 W w.heap.size p q (x.1.vals al gr) (g.1.vals al2 gr2):=⟨h.rx,h.rg,h.pw.r0,h.pw.r1⟩
theorem FNs.start{e:Z2}(H:PW w e rb)(f:rb<a.heap.size)(k:x.1.name.size<=1000)(j:IS e al x.2.1)(i:GS e gr x.2.2)(o:∀ y,al.ownBlock=Z9 y->a.heap.size<=y)(O:∀ y,gr.ownBlock=Z9 y->a.heap.size<=y) :
 FNs w ((e.alloc (.cells (x.1.vals al gr) t)).alloc (.cells (zlit 0 ⟨#[]⟩) b)) rb e.heap.size (e.heap.size+1) x nR al gr (.slice Z8 0 0) (.slice Z8 0 0)/\Held ((e.alloc (.cells (x.1.vals al gr) t)).alloc (.cells (zlit 0 ⟨#[]⟩) b)) (e.heap.size+1) 33:=by
 have B:=below2' e (.cells (x.1.vals al gr) t) (.cells (zlit 0 ⟨#[]⟩) b);have z:=H.2.2.2.1;have Z:=H.lt;refine⟨⟨H.below B,aI _ _ _ _ _,?_,j.below B,i.below B,IS.nil _,GS.nil _,k,by decide,by omega,by omega,fun y h=>by have:=o y h;omega,fun y h=>by have:=O y h;omega,(fun y h=>by cases h),(fun y h=>by cases h)⟩,?_⟩
 .rw[aw,eh];rfl
 .have:=Held.new (e.alloc (.cells (x.1.vals al gr) t)) (zlit 0 ⟨#[]⟩) b 33 rfl (by decide);simpa using this
attribute [local go_sem ↓] aZ bf bq
attribute [local go_sem] bn aS aH aK aT ak aI aw az aM ah aQ aL aP aO aR aY aW bD
end
section
open Go.RowKit
set_option linter.unusedSimpArgs false
attribute [local go_sem ↓] aZ bf
attribute [local go_sem] aS aH aK aT ak aI aw az aM ah aQ aL aP aO aR aY aW bD
end
section
open Go.RowKit
set_option linter.unusedSimpArgs false
theorem FNs.two{f e:Z2}(j:PW w f rb)(i:ZV f.heap.size f a)(u:IS a al x.2.1)(r:GS a gr x.2.2)(v:∀ y,al.ownBlock=Z9 y->f.heap.size<=y)(z:∀ y,gr.ownBlock=Z9 y->f.heap.size<=y)(A:x.1.name.size<=60)(H:ZV (a.alloc (.cells (x.1.vals al gr) t)).heap.size (a.alloc (.cells (x.1.vals al gr) t)) e)(m:IS e al2 g.2.1)(k:GS e gr2 g.2.2)(o:∀ y,al2.ownBlock=Z9 y->(a.alloc (.cells (x.1.vals al gr) t)).heap.size<=y)(O:∀ y,gr2.ownBlock=Z9 y->(a.alloc (.cells (x.1.vals al gr) t)).heap.size<=y)(s:g.1.name.size<=60) :
 FNs w (e.alloc (.cells (g.1.vals al2 gr2) b)) rb a.heap.size e.heap.size x g al gr al2 gr2:=by
 have P:=j.below i;have P4:=((P.alloc (.cells (x.1.vals al gr) t)).below H).alloc (.cells (g.1.vals al2 gr2) b);have C:=i.size;have Z:=H.size;have E:=j.2.2.2.1;have D:=j.lt;simp at Z o O
 have B:ZV e.heap.size e (e.alloc (.cells (g.1.vals al2 gr2) b)):=(Below.refl _ _).alloc (ZS _) _;have n:ZV a.heap.size a (e.alloc (.cells (g.1.vals al2 gr2) b)):=bt (((Below.refl _ _).alloc (ZS _) _).trans (H.mono (by simp))) B;refine⟨P4,?_,ak _ _ _ _,u.below n,r.below n,m.below B,k.below B,by omega,by omega,by omega,by omega,fun y h=>by have:=v y h;omega,fun y h=>by have:=z y h;omega,fun y h=>by have:=o y h;omega,fun y h=>by have:=O y h;omega⟩
 exact am B (am H (ak a _ _ _) (by rw[ah];decide)) (by rw[ah];decide)
attribute [local go_sem ↓] aZ bq jM jR
attribute [local go_sem ↓ high] bf
attribute [local go_sem] bn aS aH aK aT ak aI aw az aM ah aQ aL aP aO aR aY aW eo
end
section
open Go.RowKit
def dK(s:Z7):Z7:=⟨(Ds.splG (Ds.bl s)).toArray⟩
def cR(x g:Fu):Z7 × Int:=(eg x g,if bv x g=true then 0 else 1)
def ci(l:Z5 Rw)(id:Int)(x:Fu):Z7 × Int :=
 if Ds.gen (Ds.bl x.1.name)=true then match bz l id 1 (dK x.1.name) with
  | (g,c)=>if c≠0 then (⟨#[]⟩,c) else cR x g
 else cR x bL
def kc(l:Z5 Rw)(name:Z7):Z7 × Int:=match jH l name with
 | (x,id,c)=>if c≠0 then (⟨#[]⟩,c) else if x.1.kind≠0 then (⟨#[]⟩,7) else ci l id x
def kq(x:Fu):Prop:=x.1.name.size<=60
theorem jF:kq bL:=by show (0:Nat)<=60;omega
theorem yD(key s:Z7):kq (bw key s).1:=by
 unfold bw
 cases h:cF (Ds.bl s) with
 | none=>exact jF
 | some y =>
   dsimp only;split
   .have:=(iR y (mb _ _ h).1).1;rw[Ds.bl_length] at this;exact Nat.le_trans this (by decide)
   .exact jF
theorem rP:kq (aG l fl cd c id d name).1.1:=by
 unfold aG;split
 .exact jF
 split
 .exact jF
 split
 .exact jF
 .exact yD _ _
theorem rq(l:Z5 Rw)(fl cd id:Int)(name:Z7):∀ (K:Z5 Int) (c:Int),kq (gm l fl cd id name K c).1.1
 | [],_=>jF
 | k::K,c=>by
   unfold gm;split
   .exact rq l fl cd id name K _
   .exact rP _ _ _ _ _ _ _
theorem rn:kq (bY l fl cd c id name).1.1:=by
 unfold bY;split
 .exact jF
 .exact rq _ _ _ _ _ _ _
theorem fP{l:Z5 Int}(h:IS w al l)(H:w.grownBy w' (Z9 p))(o:∀ q,al.ownBlock=Z9 q->p<q):IS w' al l :=
 h.keep (p+1) (fun q i=>o q i) H.size (fun k j f=>H.block k f (fun e=>by have:=ZR e;omega))
theorem fQ{l:Z5 Gr}(h:GS w al l)(H:w.grownBy w' (Z9 p))(o:∀ q,al.ownBlock=Z9 q->p<q):GS w' al l :=
 h.keep (p+1) (fun q i=>o q i) H.size (fun k j f=>H.block k f (fun e=>by have:=ZR e;omega))
theorem dP{b:Nat}{C:Array Z3}(h:row w b=C)(i:0<C.size)(k:w.grownBy w' (Z9 p))(f:b≠p):row w' b=C:=by
 have j:b<w.heap.size:=by
  rcases Nat.lt_or_ge b w.heap.size with H|H
  .exact H
  .exfalso
   unfold row at h;rw[Array.getElem?_eq_none H] at h;subst h;simp at i
 unfold row at *;rw[k.block b j (fun e=>f (ZR e))];exact h
attribute [local go_sem ↓] aZ bf bq cl
attribute [local go_sem] bn aS aH bE bH aK aT ak aI aw az aM ah aQ aL aP aO aR aY aW bD ap aq
end
section
open Go.RowKit
attribute [local go_sem ↓] aZ bf bq cl
attribute [local go_sem] bn aS aH bE bH aK aT ak aI aw az aM ah aQ aL aP aO aR aY aW bD ap aq
end
section
open Go.RowKit
set_option linter.unusedSimpArgs false
abbrev Ch:=Int × Int × Z7 × Z7 × Z7
def nI(c:Ch):Zy Fu :=
 if c.1=0/\1<=c.2.1/\c.2.1<=15 then (match cF (Ds.bl c.2.2.2.1) with
  | some y=>if dL y=Ds.bl c.2.2.1 then Z9 y else Z8
  | none=>Z8) else Z8
def PutR(w w':Z2)(o:Zy Fu)(r:Ending):Prop:=∃ (x:Fu) (al gr:Z3) (b:Bool),r=.returned (.tuple #[.agg (x.1.vals al gr),.bool b])/\IS w' al x.2.1/\GS w' gr x.2.2/\ZV w.heap.size w w'/\(o=Z9 x/\b=true\/o=Z8/\b=false)/\(∀ q,al.ownBlock=Z9 q->w.heap.size<=q)/\(∀ q,gr.ownBlock=Z9 q->w.heap.size<=q)
theorem PutR.put{o:Zy Fu}{b:Bool}(i:Held W (w.heap.size+1) 33)(m:ZV w.heap.size w W)(I:IS W al x.2.1)(n:GS W gr x.2.2)(h:∀ q,al.ownBlock=Z9 q->w.heap.size+1<q)(f:∀ q,gr.ownBlock=Z9 q->w.heap.size+1<q)(r:o=Z9 x/\b=true\/o=Z8/\b=false) :
 PutR w (W.setRow (w.heap.size+1) (x.1.vals al gr)) o (.returned (.tuple #[.agg (row (W.setRow (w.heap.size+1) (x.1.vals al gr)) (w.heap.size+1)),.bool b])):=by
 have k:∀ j,w.heap.size+1+1<=j->j<W.heap.size->(W.setRow (w.heap.size+1) (x.1.vals al gr)).heap[j]?=W.heap[j]?:=fun j h _=>cP _ _ _ _ (by omega)
 exact⟨x,al,gr,b,congrArg (fun z=>Ending.returned (.tuple #[.agg z,.bool b])) (au i _),I.keep (w.heap.size+1+1) (fun y e=>h y e) (by simp) k,n.keep (w.heap.size+1+1) (fun y e=>f y e) (by simp) k,below_setRow m (by omega) _,r,fun q H=>by have:=h q H;omega,fun q H=>by have:=f q H;omega⟩
theorem PutR.put0(H:Held W (w.heap.size+1) 33)(e:ZV w.heap.size w W) :
 PutR w (W.setRow (w.heap.size+1) (zlit 0 ⟨#[]⟩)) Z8 (.returned (.tuple #[.agg (row (W.setRow (w.heap.size+1) (zlit 0 ⟨#[]⟩)) (w.heap.size+1)),.bool false])):=by
 rw[eh];exact PutR.put (x:=bL) H e (IS.nil _) (GS.nil _) (fun _ h=>by cases h) (fun _ h=>by cases h) (Or.inr ⟨rfl,rfl⟩)
attribute [local go_sem ↓] aZ bf bq cl
attribute [local go_sem] bn aS aH bE bH aK aT ak aI aw az aM ah aQ aL aP aO aR aY aW bD ap aq
end
section
open Go.RowKit
set_option linter.unusedSimpArgs false
attribute [local go_sem ↓] aZ bf bq cl
attribute [local go_sem] bn aS aH bE bH aK aT ak aI aw az aM ah aQ aL aP aO aR aY aW bD ap aq
end
end Go.Proofs.YtnkjliahpeebjaaGreatDoor
