/- Catalogs. -/
import Derived.Test.YtnkjliahpeebjaaGreatDoorSrt
import Derived.Test.YtnkjliahpeebjaaGreatDoorRm
import Derived.Test.YtnkjliahpeebjaaGreatDoorRh
import Derived.StillTailTactics
set_option maxRecDepth 8000
set_option maxHeartbeats 16000000
namespace Go.Proofs.YtnkjliahpeebjaaGreatDoor
variable{w w1 wr w':World}{ov c a:Value}
theorem qy(id:Int)(c:UInt8)(l:List Rw):(srt id c l).length<=l.length:=by
 have:=pN id c l l.length;rwa [List.take_of_length_le (Nat.le_refl _)] at this
section
open Go.RowKit
theorem HJ.startA(b:Nat)(w:World)(q:Nat)(H:q=w.heap.size)(h:b<=w.heap.size):HJ b (w.alloc (.cells #[] 29)) (.slice (some ⟨q,0,none⟩) 0 0) [] []:=by
 subst H;exact⟨World.ownsRow_made w #[] 0 h (Nat.zero_le _) rfl,rfl,(fun _ h=>by cases h),(fun _ h=>by cases h),(fun _ _ _ h=>by simp at h)⟩
def xz(w w':World)(R:List Fu × Int)(r:Ending):Prop :=
 ∃ h s,r=.returned (.tuple #[h,.int .i64 R.2])/\HJ w.heap.size w' h (R.1.map cY) s/\Below w.heap.size w w'
theorem kd{o:Obj}(h:Below (w.alloc o).heap.size (w.alloc o) w1):Below w.heap.size w w1:=((Below.refl _ _).alloc (Nat.le_refl _) _).trans (h.mono (by simp))
structure KW (w w1 wr:World) (ov:Value):Prop where
 b:Below w.heap.size w wr
 s:w1.heap.size<=wr.heap.size
 k:∀ b,w.heap.size<b->b<w1.heap.size->wr.heap[b]?=w1.heap[b]?
 o:∀ b,ov.ownBlock=some b->b=w.heap.size\/w1.heap.size<=b
 z:w.heap.size<=w1.heap.size
theorem KW.below(h:KW w w1 wr ov)(H:Below wr.heap.size wr w'):KW w w1 w' ov :=
 ⟨bt h.b H,Nat.le_trans h.s H.size,fun b e d=>(H.block b (Nat.lt_of_lt_of_le d h.s)).trans (h.k b e d),h.o,h.z⟩
theorem KW.grown(h:KW w w1 wr ov)(g:wr.grownBy w' ov.ownBlock)(H:a.ownBlock=ov.ownBlock\/a.ownBlock=some wr.heap.size):KW w w1 w' a:=by
 have f:=h.s;have m:=h.z;refine⟨h.b.trans (fy g (fun q l=>?_) (by omega)),Nat.le_trans f g.size,fun b i j=>(g.block b (by omega) (fun e=>?_)).trans (h.k b i j),fun b d=>?_,h.z⟩
 .rcases h.o q l with h|h <;> omega
 .rcases h.o b e.symm with h|h <;> omega
 .rcases H with H|H
  .exact h.o b (H ▸ d)
  .rw[H] at d;cases d;exact .inr f
theorem KW.rws{S:List Rw}(h:KW w w1 wr ov)(H:RwS w1 c S)(v:∀ q,c.ownBlock=some q->w.heap.size<q):RwS wr c S :=
 H.keep h.s (fun b d l=>h.k b (v b d) l)
attribute [local go_sem ↓] aZ bq cl
attribute [local go_sem ↓ high] bf
attribute [local go_sem] bn aS aH bE bH aK aT ak aI aw az aM ah aQ aL aP aO aR aY aW bD ap aq
end
section
open Go.RowKit
set_option linter.unusedSimpArgs false
attribute [local go_sem ↓] aZ bf bq fb
attribute [local go_sem] bn aS aH bE bH aK aT ak aI aw az aM ah aQ aL aP aO aR aY aW
end
end Go.Proofs.YtnkjliahpeebjaaGreatDoor
