/- Catalogs. -/
import Derived.Test.YtnkjliahpeebjaaGreatDoorGt
set_option maxRecDepth 8000
set_option maxHeartbeats 16000000
open Option renaming some->Z9,none->Z7
open _root_ renaming ByteArray->Z6,List->Z3,Array->Zz
open Go renaming Value->Z1,World->ZY
open Nat renaming le_refl->ZV,lt_of_lt_of_le->ZH
open Option.some renaming inj->ZL
namespace Go.Proofs.YtnkjliahpeebjaaGreatDoor
variable{w W w' a W' b:ZY}{p q rb:Nat}{l:Z3 Int}{gr2 al v:Z1}{g x:Fu}{gr al2:Z1}{c t:TypeId}
def nR:Fu:=(En.zero,[],[])
section
open Go.RowKit
set_option linter.unusedSimpArgs false
attribute [local go_sem ↓] aZ bf
attribute [local go_sem] aS aH aK aT ak aI aw az aM ah aQ aL aP aO aR aY aW bD
end
section
open Go.RowKit
def PW(w W:ZY)(rb:Nat):Prop:=Below w.heap.size w W/\Held W w.heap.size 33/\Held W (w.heap.size+1) 33/\w.heap.size+1<rb/\rb<W.heap.size
theorem PW.lt(h:PW w W rb):rb<W.heap.size:=h.2.2.2.2
theorem PW.bel(h:PW w W rb):Below w.heap.size w W:=h.1
theorem PW.r0(h:PW w W rb):Held W w.heap.size 33:=h.2.1
theorem PW.r1(h:PW w W rb):Held W (w.heap.size+1) 33:=h.2.2.1
theorem PW.grown(h:PW w W rb)(H:W.grownBy W' (Z9 rb)):PW w W' rb:=by
 obtain⟨i,d,f,j,k⟩:=h;refine⟨i.trans (gJ H (by omega) (by omega)),d.of_block (H.block _ d.lt (by intro e;have:=ZL e;omega)),f.of_block (H.block _ f.lt (by intro e;have:=ZL e;omega)),j,ZH k H.size⟩
theorem PW.below(h:PW w W rb)(H:Below W.heap.size W W'):PW w W' rb :=
 ⟨bt h.1 H,h.2.1.below H,h.2.2.1.below H,h.2.2.2.1,ZH h.2.2.2.2 H.size⟩
theorem PW.alloc(h:PW w W rb)(o:Obj):PW w (W.alloc o) rb:=h.below ((Below.refl _ _).alloc (ZV _) o)
def P4(W:ZY)(g p q:Nat)(X gv:Zz Z1):Prop:=row W p=X/\row W q=gv/\Held W g 33/\Held W (g+1) 33
theorem P4.set{g k:Nat}{X gv:Zz Z1}(h:P4 W g p q X gv)(c:Zz Z1)(H:c.size=33)(e:g+1<p)(f:g+1<q)(d:k=g\/k=g+1):P4 (W.setRow k c) g p q X gv :=
 ⟨by rw[cT _ _ _ _ (by omega)];exact h.1,by rw[cT _ _ _ _ (by omega)];exact h.2.1,h.2.2.1.set c (fun _=>H),h.2.2.2.set c (fun _=>H)⟩
theorem below2'(w:ZY)(a b:Obj):Below w.heap.size w ((w.alloc a).alloc b):=by exact aB
theorem GL(h:IS W v l)(c:Zz Z1)(n:∀ y,v.ownBlock=Z9 y->y≠q):IS (W.setRow q c) v l:=by
 obtain⟨a,C,rfl,f,i⟩:=h;refine⟨a,C,rfl,f,fun d=>?_⟩
 obtain⟨B,o,rfl,H,j⟩:=i d;refine⟨B,o,rfl,by simpa using H,fun k m=>?_⟩
 have e:=n B rfl;rw[World.cell?_of_block (a:=⟨B,o+k,Z7⟩) (cP W q B c e)];exact j k m
theorem GF{l:Z3 Gr}(h:GS W v l)(c:Zz Z1)(s:∀ y,v.ownBlock=Z9 y->y≠q):GS (W.setRow q c) v l:=by
 obtain⟨a,C,rfl,i,m⟩:=h;refine⟨a,C,rfl,i,fun f=>?_⟩
 obtain⟨B,o,rfl,H,n⟩:=m f;have d:=s B rfl;refine⟨B,o,rfl,by simpa using H,fun k r=>?_⟩
 have e:=fun j=>World.cell?_of_block (a:=⟨B,j,Z7⟩) (cP W q B c d)
 rw[e,e,e];exact n k r
structure FNs (w W:ZY) (rb p q:Nat) (x g:Fu) (al gr al2 gr2:Z1):Prop where
 pw:PW w W rb
 rx:row W p=x.1.vals al gr
 rg:row W q=g.1.vals al2 gr2
 ix:IS W al x.2.1
 gx:GS W gr x.2.2
 ig:IS W al2 g.2.1
 gg:GS W gr2 g.2.2
 nx:x.1.name.size<=1000
 ng:g.1.name.size<=1000
 pp:w.heap.size+1<p
 qq:w.heap.size+1<q
 o1:∀ y,al.ownBlock=Z9 y->w.heap.size+2<=y
 o2:∀ y,gr.ownBlock=Z9 y->w.heap.size+2<=y
 o3:∀ y,al2.ownBlock=Z9 y->w.heap.size+2<=y
 o4:∀ y,gr2.ownBlock=Z9 y->w.heap.size+2<=y
theorem FNs.below(h:FNs w W rb p q x g al gr al2 gr2)(H:Below W.heap.size W W'):FNs w W' rb p q x g al gr al2 gr2 :=
 ⟨h.pw.below H,am H h.rx (by rw[ah];decide),am H h.rg (by rw[ah];decide),h.ix.below H,h.gx.below H,h.ig.below H,h.gg.below H,h.nx,h.ng,h.pp,h.qq,h.o1,h.o2,h.o3,h.o4⟩
theorem FNs.p4(h:FNs w W rb p q x g al gr al2 gr2):P4 W w.heap.size p q (x.1.vals al gr) (g.1.vals al2 gr2):=⟨h.rx,h.rg,h.pw.r0,h.pw.r1⟩
theorem FNs.start(H:PW w b rb)(d:rb<a.heap.size)(f:x.1.name.size<=1000)(i:IS b al x.2.1)(e:GS b gr x.2.2)(o:∀ y,al.ownBlock=Z9 y->a.heap.size<=y)(O:∀ y,gr.ownBlock=Z9 y->a.heap.size<=y) :
 FNs w ((b.alloc (.cells (x.1.vals al gr) t)).alloc (.cells (zlit 0 ⟨#[]⟩) c)) rb b.heap.size (b.heap.size+1) x nR al gr (.slice Z7 0 0) (.slice Z7 0 0)/\Held ((b.alloc (.cells (x.1.vals al gr) t)).alloc (.cells (zlit 0 ⟨#[]⟩) c)) (b.heap.size+1) 33:=by
 have B:=below2' b (.cells (x.1.vals al gr) t) (.cells (zlit 0 ⟨#[]⟩) c);have z:=H.2.2.2.1;have Z:=H.lt;refine⟨⟨H.below B,aI _ _ _ _ _,?_,i.below B,e.below B,IS.nil _,GS.nil _,f,by decide,by omega,by omega,fun y h=>by have:=o y h;omega,fun y h=>by have:=O y h;omega,(fun y h=>by cases h),(fun y h=>by cases h)⟩,?_⟩
 .rw[aw,eh];rfl
 .have:=Held.new (b.alloc (.cells (x.1.vals al gr) t)) (zlit 0 ⟨#[]⟩) c 33 rfl (by decide);simpa using this
attribute [local go_sem ↓] aZ bf bq
attribute [local go_sem] bn aS aH aK aT ak aI aw az aM ah aQ aL aP aO aR aY aW bD
end
section
open Go.RowKit
set_option linter.unusedSimpArgs false
attribute [local go_sem ↓] aZ bf
attribute [local go_sem] aS aH aK aT ak aI aw az aM ah aQ aL aP aO aR aY aW bD
end
section
open Go.RowKit
set_option linter.unusedSimpArgs false
theorem FNs.two{e d:ZY}(i:PW w e rb)(f:Below e.heap.size e a)(s:IS a al x.2.1)(n:GS a gr x.2.2)(u:∀ y,al.ownBlock=Z9 y->e.heap.size<=y)(z:∀ y,gr.ownBlock=Z9 y->e.heap.size<=y)(A:x.1.name.size<=60)(H:Below (a.alloc (.cells (x.1.vals al gr) t)).heap.size (a.alloc (.cells (x.1.vals al gr) t)) d)(k:IS d al2 g.2.1)(j:GS d gr2 g.2.2)(o:∀ y,al2.ownBlock=Z9 y->(a.alloc (.cells (x.1.vals al gr) t)).heap.size<=y)(O:∀ y,gr2.ownBlock=Z9 y->(a.alloc (.cells (x.1.vals al gr) t)).heap.size<=y)(r:g.1.name.size<=60) :
 FNs w (d.alloc (.cells (g.1.vals al2 gr2) c)) rb a.heap.size d.heap.size x g al gr al2 gr2:=by
 have P:=i.below f;have P4:=((P.alloc (.cells (x.1.vals al gr) t)).below H).alloc (.cells (g.1.vals al2 gr2) c);have C:=f.size;have Z:=H.size;have E:=i.2.2.2.1;have D:=i.lt;simp at Z o O
 have B:Below d.heap.size d (d.alloc (.cells (g.1.vals al2 gr2) c)):=(Below.refl _ _).alloc (ZV _) _;have m:Below a.heap.size a (d.alloc (.cells (g.1.vals al2 gr2) c)):=bt (((Below.refl _ _).alloc (ZV _) _).trans (H.mono (by simp))) B;refine⟨P4,?_,ak _ _ _ _,s.below m,n.below m,k.below B,j.below B,by omega,by omega,by omega,by omega,fun y h=>by have:=u y h;omega,fun y h=>by have:=z y h;omega,fun y h=>by have:=o y h;omega,fun y h=>by have:=O y h;omega⟩
 exact am B (am H (ak a _ _ _) (by rw[ah];decide)) (by rw[ah];decide)
attribute [local go_sem ↓] aZ bq jM jR
attribute [local go_sem ↓ high] bf
attribute [local go_sem] bn aS aH aK aT ak aI aw az aM ah aQ aL aP aO aR aY aW eo
end
section
open Go.RowKit
def dK(s:Z6):Z6:=⟨(Ds.splG (Ds.bl s)).toArray⟩
def kq(x:Fu):Prop:=x.1.name.size<=60
theorem jF:kq bL:=by show (0:Nat)<=60;omega
theorem yD(key s:Z6):kq (bw key s).1:=by
 unfold bw
 cases h:cF (Ds.bl s) with
 | none=>exact jF
 | some y =>
   dsimp only;split
   .have:=(iR y (mb _ _ h).1).1;rw[Ds.bl_length] at this;exact Nat.le_trans this (by decide)
   .exact jF
theorem rP(l:Z3 Rw)(f d C id k:Int)(name:Z6):kq (aG l f d C id k name).1.1:=by
 unfold aG;split
 .exact jF
 split
 .exact jF
 split
 .exact jF
 .exact yD _ _
theorem rq(l:Z3 Rw)(f d id:Int)(name:Z6):∀ (K:Z3 Int) (C:Int),kq (gm l f d id name K C).1.1
 | [],_=>jF
 | k::K,C=>by
   unfold gm;split
   .exact rq l f d id name K _
   .exact rP _ _ _ _ _ _ _
theorem rn(l:Z3 Rw)(f d C id:Int)(name:Z6):kq (bY l f d C id name).1.1:=by
 unfold bY;split
 .exact jF
 .exact rq _ _ _ _ _ _ _
theorem fP(h:IS w al l)(H:w.grownBy w' (Z9 p))(o:∀ q,al.ownBlock=Z9 q->p<q):IS w' al l :=
 h.keep (p+1) (fun q f=>o q f) H.size (fun k i d=>H.block k d (fun e=>by have:=ZL e;omega))
theorem fQ{l:Z3 Gr}(h:GS w al l)(H:w.grownBy w' (Z9 p))(o:∀ q,al.ownBlock=Z9 q->p<q):GS w' al l :=
 h.keep (p+1) (fun q f=>o q f) H.size (fun k i d=>H.block k d (fun e=>by have:=ZL e;omega))
theorem dP{b:Nat}{C:Zz Z1}(h:row w b=C)(f:0<C.size)(j:w.grownBy w' (Z9 p))(d:b≠p):row w' b=C:=by
 have i:b<w.heap.size:=by
  rcases Nat.lt_or_ge b w.heap.size with H|H
  .exact H
  .exfalso
   unfold row at h;rw[Array.getElem?_eq_none H] at h;subst h;simp at f
 unfold row at *;rw[j.block b i (fun e=>d (ZL e))];exact h
attribute [local go_sem ↓] aZ bf bq cl
attribute [local go_sem] bn aS aH bE bH aK aT ak aI aw az aM ah aQ aL aP aO aR aY aW bD ap aq
end
section
open Go.RowKit
attribute [local go_sem ↓] aZ bf bq cl
attribute [local go_sem] bn aS aH bE bH aK aT ak aI aw az aM ah aQ aL aP aO aR aY aW bD ap aq
end
section
open Go.RowKit
set_option linter.unusedSimpArgs false
abbrev Ch:=Int × Int × Z6 × Z6 × Z6
def nI(c:Ch):Option Fu :=
 if c.1=0/\1<=c.2.1/\c.2.1<=15 then (match cF (Ds.bl c.2.2.2.1) with
  | some y=>if dL y=Ds.bl c.2.2.1 then Z9 y else Z7
  | none=>Z7) else Z7
def PutR(w w':ZY)(o:Option Fu)(r:Ending):Prop:=∃ (x:Fu) (al gr:Z1) (b:Bool),r=.returned (.tuple #[.agg (x.1.vals al gr),.bool b])/\IS w' al x.2.1/\GS w' gr x.2.2/\Below w.heap.size w w'/\(o=Z9 x/\b=true\/o=Z7/\b=false)/\(∀ q,al.ownBlock=Z9 q->w.heap.size<=q)/\(∀ q,gr.ownBlock=Z9 q->w.heap.size<=q)
theorem PutR.put{o:Option Fu}{b:Bool}(f:Held W (w.heap.size+1) 33)(i:Below w.heap.size w W)(I:IS W al x.2.1)(m:GS W gr x.2.2)(h:∀ q,al.ownBlock=Z9 q->w.heap.size+1<q)(e:∀ q,gr.ownBlock=Z9 q->w.heap.size+1<q)(n:o=Z9 x/\b=true\/o=Z7/\b=false) :
 PutR w (W.setRow (w.heap.size+1) (x.1.vals al gr)) o (.returned (.tuple #[.agg (row (W.setRow (w.heap.size+1) (x.1.vals al gr)) (w.heap.size+1)),.bool b])):=by
 have k:∀ j,w.heap.size+1+1<=j->j<W.heap.size->(W.setRow (w.heap.size+1) (x.1.vals al gr)).heap[j]?=W.heap[j]?:=fun j h _=>cP _ _ _ _ (by omega)
 exact⟨x,al,gr,b,congrArg (fun z=>Ending.returned (.tuple #[.agg z,.bool b])) (au f _),I.keep (w.heap.size+1+1) (fun y d=>h y d) (by simp) k,m.keep (w.heap.size+1+1) (fun y d=>e y d) (by simp) k,below_setRow i (by omega) _,n,fun q H=>by have:=h q H;omega,fun q H=>by have:=e q H;omega⟩
theorem PutR.put0(H:Held W (w.heap.size+1) 33)(d:Below w.heap.size w W) :
 PutR w (W.setRow (w.heap.size+1) (zlit 0 ⟨#[]⟩)) Z7 (.returned (.tuple #[.agg (row (W.setRow (w.heap.size+1) (zlit 0 ⟨#[]⟩)) (w.heap.size+1)),.bool false])):=by
 rw[eh];exact PutR.put (x:=bL) H d (IS.nil _) (GS.nil _) (fun _ h=>by cases h) (fun _ h=>by cases h) (Or.inr ⟨rfl,rfl⟩)
attribute [local go_sem ↓] aZ bf bq cl
attribute [local go_sem] bn aS aH bE bH aK aT ak aI aw az aM ah aQ aL aP aO aR aY aW bD ap aq
end
section
open Go.RowKit
set_option linter.unusedSimpArgs false
attribute [local go_sem ↓] aZ bf bq cl
attribute [local go_sem] bn aS aH bE bH aK aT ak aI aw az aM ah aQ aL aP aO aR aY aW bD ap aq
end
end Go.Proofs.YtnkjliahpeebjaaGreatDoor
