/- Catalogs. -/
import Derived.Test.YtnkjliahpeebjaaGreatDoorRm
import Derived.StillTailTactics
import Derived.Test.YtnkjliahpeebjaaGreatDoorMx
import Derived.Test.YtnkjliahpeebjaaGreatDoorCu
set_option maxRecDepth 8000
set_option maxHeartbeats 16000000
open _root_ renaming ByteArray->Z7,List->Z5
namespace Go.Proofs.YtnkjliahpeebjaaGreatDoor
variable{w w1 wr w':World}{ov c a:Value}
theorem qy(id:Int)(c:UInt8)(l:Z5 Rw):(srt id c l).length<=l.length:=by
 have:=pN id c l l.length;rwa [List.take_of_length_le (Nat.le_refl _)] at this
section
open Go.RowKit
structure KW (w w1 wr:World) (ov:Value):Prop where
 b:Below w.heap.size w wr
 s:w1.heap.size<=wr.heap.size
 k:∀ b,w.heap.size<b->b<w1.heap.size->wr.heap[b]?=w1.heap[b]?
 o:∀ b,ov.ownBlock=some b->b=w.heap.size\/w1.heap.size<=b
 z:w.heap.size<=w1.heap.size
theorem KW.below(h:KW w w1 wr ov)(H:Below wr.heap.size wr w'):KW w w1 w' ov :=
 ⟨bt h.b H,Nat.le_trans h.s H.size,fun b e d=>(H.block b (Nat.lt_of_lt_of_le d h.s)).trans (h.k b e d),h.o,h.z⟩
theorem KW.grown(h:KW w w1 wr ov)(g:wr.grownBy w' ov.ownBlock)(H:a.ownBlock=ov.ownBlock\/a.ownBlock=some wr.heap.size):KW w w1 w' a:=by
 have f:=h.s;have m:=h.z;refine⟨h.b.trans (fy g (fun q l=>?_) (by omega)),Nat.le_trans f g.size,fun b i j=>(g.block b (by omega) (fun e=>?_)).trans (h.k b i j),fun b d=>?_,h.z⟩
 .rcases h.o q l with h|h <;> omega
 .rcases h.o b e.symm with h|h <;> omega
 .rcases H with H|H
  .exact h.o b (H ▸ d)
  .rw[H] at d;cases d;exact .inr f
theorem KW.rws{S:Z5 Rw}(h:KW w w1 wr ov)(H:RwS w1 c S)(v:∀ q,c.ownBlock=some q->w.heap.size<q):RwS wr c S :=
 H.keep h.s (fun b d l=>h.k b (v b d) l)
attribute [local go_sem ↓] aZ bq cl
attribute [local go_sem ↓ high] bf
attribute [local go_sem] bn aS aH bE bH aK aT ak aI aw az aM ah aQ aL aP aO aR aY aW bD ap aq
end
section
open Go.RowKit
set_option linter.unusedSimpArgs false
attribute [local go_sem ↓] aZ bf bq fb
attribute [local go_sem] bn aS aH bE bH aK aT ak aI aw az aM ah aQ aL aP aO aR aY aW
end
section
open Go.RowKit
set_option linter.unusedSimpArgs false
def dp(l:Z5 Rw)(k:Int)(name:Z7):Int × Int :=
 if k<0\/4<k\/k=3 then (0,1) else if k=4 then (1,0) else cj l name
def iw(id:Int)(p:Z7)(x:Rw):Bool:=decide (x.1=id)&&((decide ((Ds.bl x.2.1).headD 0=68) || decide ((Ds.bl x.2.1).headD 0=71) || decide ((Ds.bl x.2.1).headD 0=65))&&Ds.match_ (Ds.bl (p++⟨#[46,42,42]⟩)) (Ds.bl (aN x.2.1)))
def fI(l:Z5 Rw)(id:Int)(p:Z7):Bool:=l.any (iw id p)
end
section
open Go.RowKit
set_option linter.unusedSimpArgs false
attribute [local go_sem ↓] aZ bf bq cl eX
attribute [local go_sem] bn aS aH bE bH aK aT ak aI aw az aM ah aQ aL aP aO aR aY aW bD ap aq
def jg(l:Z5 Rw)(x:Fu):Z5 Ch × Int:=if aA x=true then (if (dp l x.1.kind x.1.name).2≠0 then ([],(dp l x.1.kind x.1.name).2) else iK l (dp l x.1.kind x.1.name).1 x) else ([],1)
end
section
open Go.RowKit
set_option linter.unusedSimpArgs false
def gW(g:Z7):Z5 Rw->Z5 Int->Z5 Int
 | [],o=>o
 | x::X,o=>gW g X (if (Ds.gen (Ds.bl (aN x.2.1))=true/\dK (aN x.2.1)=g)/\x.2.1=aC 0 (aN x.2.1) then o++[((Ds.splN (Ds.bl (aN x.2.1)):Nat):Int)] else o)
def jj(l:Z5 Rw)(id:Int)(g:Z7):Z5 Int:=gW g (srt id 68 l) []
theorem uX{id:Int}{c:UInt8}{l:Z5 Rw}{x:Rw}(h:x∈srt id c l):x∈l/\cH id c x=true:=by
 have:=(iV id c l l.length x).1 (by rw[List.take_length];exact h);rw[List.take_length] at this;exact this
end
section
open Go.RowKit
set_option linter.unusedSimpArgs false
def eH(name:Z7):Z5 Rw->Z5 Fu->Z5 Fu × Int
 | [],o=>(o,0)
 | x::X,o=>if (bw x.2.1 x.2.2).2≠0 then ([],(bw x.2.1 x.2.2).2) else if (bw x.2.1 x.2.2).1.1.target=name then eH name X (o++[(bw x.2.1 x.2.2).1]) else eH name X o
def cW(l:Z5 Rw)(id:Int)(name:Z7):Z5 Fu × Int:=eH name (srt id 65 l) []
attribute [local go_sem ↓] aZ bq cl
attribute [local go_sem ↓ high] bf
attribute [local go_sem] bn aS aH bE bH aK aT ak aI aw az aM ah aQ aL aP aO aR aY aW bD ap aq
end
end Go.Proofs.YtnkjliahpeebjaaGreatDoor
