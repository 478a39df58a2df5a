/- Catalogs. -/
import Derived.Test.YtnkjliahpeebjaaGreatDoorRf
import Derived.Test.YtnkjliahpeebjaaGreatDoorRtF
set_option maxRecDepth 8000
set_option maxHeartbeats 8000000
open Option renaming some->Z9,none->Z8
open _root_ renaming ByteArray->Z7,Array->ZE
open Go renaming Value->Z3,World->Z2,below_setRow->YB
open Nat renaming le_refl->ZS,zero_lt_succ->W9
namespace Go.Proofs.YtnkjliahpeebjaaGreatDoor
open Go.RowKit
variable{w W' W w' wr c l:Z2}{b g x:Nat}{cs ds:ZE Z3}{d0 d1:Z3}{t:Z7}{s A:Int}{d2 gr:Z3}{a d k:Nat}{v z n u p q:Int}{m xs:List Z3}{f i j e y r:Int}
section
set_option linter.unusedSimpArgs false
theorem FW.read(h:FW w c cs t x)(T:Z7)(X:Nat):FW w (c.setRow (w.heap.size+1) #[.string T,.int .i64 X]) cs T X :=
 ⟨by rw[cT _ _ _ _ (by omega)];exact h.r0,au h.h1 _,h.h0.set _ (fun e=>absurd e (by omega)),h.h1.set _ (fun _=>rfl),h.h2.set _ (fun e=>absurd e (by omega)),h.h3.set _ (fun e=>absurd e (by omega)),YB h.bel (by omega) _⟩
theorem FW.blocks(h:FW w c cs t x)(H:∀ j,j<w.heap.size+1+1+1+1->l.heap[j]?=c.heap[j]?)(o:Below w.heap.size w l):FW w l cs t x :=
 ⟨by unfold row;rw[H _ (by omega)];exact h.r0,by unfold row;rw[H _ (by omega)];exact h.r1,h.h0.of_block (H _ (by omega)),h.h1.of_block (H _ (by omega)),h.h2.of_block (H _ (by omega)),h.h3.of_block (H _ (by omega)),o⟩
theorem FW.setE(h:FW w c cs t x)(i:Nat)(v:Z3):FW w (c.setCell ⟨w.heap.size,i,Z8⟩ v) (cs.setIfInBounds i v) t x :=
 ⟨by rw[jU h.h0,h.r0],by rw[kO _ _ _ _ _ (by omega)];exact h.r1,bG h.h0 _ _ _,bG h.h1 _ _ _,bG h.h2 _ _ _,bG h.h3 _ _ _,Below.setCell h.bel (ZS _) _⟩
structure F4 (w wr:Z2) (g:Nat) (cs:ZE Z3) (d0 d1 d2:Z3) (gr:Z3) (k:Nat) (xs:List Z3) (t:Z7) (x:Nat):Prop where
 f:FW w wr cs t x
 rg:row wr g=#[d0,d1,d2]
 hg:Held wr g 3
 far:w.heap.size+1+1+1<g
 own:wr.ownsRow (w.heap.size+1+1+1+1) 103 3 gr k xs
 lt:∀ y,gr.ownBlock=Z9 y->y<g
theorem F4.below(h:F4 w wr g cs d0 d1 d2 gr k xs t x)(H:Below wr.heap.size wr c):F4 w c g cs d0 d1 d2 gr k xs t x :=
 ⟨h.f.below H,am H h.rg (W9 2),h.hg.below H,h.far,aV h.own (fun y o=>H.block y (ax h.own y o).2),h.lt⟩
theorem F4.start(h:FW w wr cs t x)(own:wr.ownsRow (w.heap.size+1+1+1+1) 103 3 gr k xs)(d0 d1 d2:Z3)(T:TypeId):F4 w (wr.alloc (.cells #[d0,d1,d2] T)) wr.heap.size cs d0 d1 d2 gr k xs t x:=by
 have B:Below wr.heap.size wr (wr.alloc (.cells #[d0,d1,d2] T)):=(Below.refl _ _).alloc (ZS _) _;exact⟨h.below B,ak wr _ T (0,0),Held.new wr _ T 3 rfl (by decide),h.h3.lt,aV own (fun y H=>B.block y (ax own y H).2),fun y H=>(ax own y H).2⟩
theorem F4.step{E o B:Z3}(h:F4 w c g cs d0 d1 d2 gr k xs t x)(i:Nat)(v:Z3)(T:Z7)(X:Nat)(C:(#[d0,d1,d2]:ZE Z3).setIfInBounds i v=#[E,o,B]):F4 w ((c.setCell ⟨g,i,Z8⟩ v).setRow (w.heap.size+1) #[.string T,.int .i64 X]) g cs E o B gr k xs T X:=by
 have k1:=h.far
 have hF:FW w (c.setCell ⟨g,i,Z8⟩ v) cs t x :=
  ⟨by rw[kO _ _ _ _ _ (by omega)];exact h.f.r0,by rw[kO _ _ _ _ _ (by omega)];exact h.f.r1,bG h.f.h0 _ _ _,bG h.f.h1 _ _ _,bG h.f.h2 _ _ _,bG h.f.h3 _ _ _,Below.setCell h.f.bel (by show w.heap.size<=g;omega) _⟩
 refine⟨hF.read T X,?_,(bG h.hg _ _ _).set _ (fun e=>absurd e (by omega)),k1,aV h.own (fun y H=>?_),h.lt⟩
 .rw[cT _ _ _ _ (by omega),jU h.hg,h.rg,C]
 .have Q:=(ax h.own y H).1;have D:=h.lt y H;rw[cP _ _ _ _ (by omega),ic (a:=⟨g,i,Z8⟩) (by show y≠g;omega)]
theorem F4.done{e:En}{B G:Z3}{o:Obj}(h:F4 w c g (e.vals B gr) d0 d1 d2 gr k xs t x)(H:l.ownsRow (w.heap.size+1+1+1+1) 103 3 G (k+1) (xs++m))(I:(c.alloc o).grownBy l gr.ownBlock):FW w (l.setCell ⟨w.heap.size,32,Z8⟩ G) (e.vals B G) t x/\(l.setCell ⟨w.heap.size,32,Z8⟩ G).ownsRow (w.heap.size+1+1+1+1) 103 3 G (k+1) (xs++m):=by
 have K:Below c.heap.size c (c.alloc o):=(Below.refl _ _).alloc (ZS _) _;have Z:=h.f.h3.lt;have F:=h.f.below K;have C:∀ j,j<w.heap.size+1+1+1+1->Z9 j≠gr.ownBlock:=fun j J e=>by have:=(ax h.own j e.symm).1;omega
 have L:FW w l (e.vals B gr) t x:=F.blocks (fun j J=>I.block j (by simp;omega) (C j J)) (F.bel.grown I (by simp;omega) (fun y D=>by have:=(ax h.own y D).1;omega));have E:=L.setE 32 G;rw[wE] at E;refine⟨E,aV H (fun y D=>ic (a:=⟨w.heap.size,32,Z8⟩) (by have:=(ax H y D).1;show y≠w.heap.size;omega))⟩
attribute [local go_sem ↓] aZ bf bq jM jR
attribute [local go_sem] bn aS aH aK aT az aM ah aQ aL aP aO aR aY aW
end
section
set_option linter.unusedSimpArgs false
structure F0 (w wr:Z2) (b:Nat) (cs ds:ZE Z3) (t:Z7) (x:Nat):Prop where
 r0:row wr w.heap.size=cs
 rb:row wr b=#[.string t,.int .i64 x]
 rd:row wr (b+1)=ds
 h0:Held wr w.heap.size 33
 hb:Held wr b 2
 hd:Held wr (b+1) 21
 h2:Held wr (w.heap.size+1+1) 33
 h3:Held wr (w.heap.size+1+1+1) 2
 bel:Below w.heap.size w wr
 far:w.heap.size+1+1+1<b
theorem F0.below(h:F0 w wr b cs ds t x)(H:Below wr.heap.size wr c):F0 w c b cs ds t x :=
 ⟨am H h.r0 (by rw[<-h.r0,h.h0.1];decide),am H h.rb (W9 1),am H h.rd (by rw[<-h.rd,h.hd.1];decide),h.h0.below H,h.hb.below H,h.hd.below H,h.h2.below H,h.h3.below H,bt h.bel H,h.far⟩
theorem F0.step(h:F0 w c b cs ds t x)(i:Nat)(v:Z3)(T:Z7)(X:Nat):F0 w ((c.setCell ⟨b+1,i,Z8⟩ v).setRow b #[.string T,.int .i64 X]) b cs (ds.setIfInBounds i v) T X:=by
 have k:=h.far;have K:=bG h.hb (b+1) i v;refine⟨?_,au K _,?_,(bG h.h0 _ _ _).set _ (fun e=>absurd e (by omega)),K.set _ (fun _=>rfl),(bG h.hd _ _ _).set _ (fun e=>absurd e (by omega)),(bG h.h2 _ _ _).set _ (fun e=>absurd e (by omega)),(bG h.h3 _ _ _).set _ (fun e=>absurd e (by omega)),YB (Below.setCell h.bel (by show w.heap.size<=b+1;omega) _) (by omega) _,k⟩
 .rw[cT _ _ _ _ (by omega),kO _ _ _ _ _ (by omega),h.r0]
 .rw[cT _ _ _ _ (by omega),jU h.hd,h.rd]
theorem F0.read(h:F0 w c b cs ds t x)(T:Z7)(X:Nat):F0 w (c.setRow b #[.string T,.int .i64 X]) b cs ds T X:=by
 have k:=h.far;exact⟨by rw[cT _ _ _ _ (by omega)];exact h.r0,au h.hb _,by rw[cT _ _ _ _ (by omega)];exact h.rd,h.h0.set _ (fun e=>absurd e (by omega)),h.hb.set _ (fun _=>rfl),h.hd.set _ (fun e=>absurd e (by omega)),h.h2.set _ (fun e=>absurd e (by omega)),h.h3.set _ (fun e=>absurd e (by omega)),YB h.bel (by omega) _,k⟩
theorem F0.start{l:Z7}(h:FW w c cs l x)(B:Z7)(X:Nat)(ds:ZE Z3)(T C:TypeId)(H:ds.size=21):F0 w ((c.alloc (.cells #[.string B,.int .i64 X] T)).alloc (.cells ds C)) c.heap.size cs ds B X:=by
 have D:∀ (W:Z2) o,Below W.heap.size W (W.alloc o):=fun W o=>(Below.refl _ _).alloc (ZS _) o
 have E:=Held.new c #[.string B,.int .i64 X] T 2 rfl (by decide);have Q:=Held.new (c.alloc (.cells #[.string B,.int .i64 X] T)) ds C 21 H (by decide);have R:=ak (c.alloc (.cells #[.string B,.int .i64 X] T)) ds C (0,0);have S:(c.alloc (.cells #[.string B,.int .i64 X] T)).heap.size=c.heap.size+1:=by simp
 rw[S] at Q R;have g:=(h.below (D c (.cells #[.string B,.int .i64 X] T))).below (D _ (.cells ds C));exact⟨g.r0,am (D _ _) (ak c _ T (0,0)) (W9 1),R,g.h0,E.below (D _ _),Q,g.h2,g.h3,g.bel,h.h3.lt⟩
def G14(W:Z2)(d a:Nat)(n r s A y z v u p q f i j e:Int):Prop:=W.cell? ⟨d,a+0,Z8⟩=Z9 (.int .i64 n)/\W.cell? ⟨d,a+1,Z8⟩=Z9 (.int .i64 r)/\W.cell? ⟨d,a+2,Z8⟩=Z9 (.int .i64 s)/\W.cell? ⟨d,a+3,Z8⟩=Z9 (.int .i64 A)/\W.cell? ⟨d,a+4,Z8⟩=Z9 (.int .i64 y)/\W.cell? ⟨d,a+5,Z8⟩=Z9 (.int .i64 z)/\W.cell? ⟨d,a+6,Z8⟩=Z9 (.int .i64 v)/\W.cell? ⟨d,a+7,Z8⟩=Z9 (.int .i64 u)/\W.cell? ⟨d,a+8,Z8⟩=Z9 (.int .i64 p)/\W.cell? ⟨d,a+9,Z8⟩=Z9 (.int .i64 q)/\W.cell? ⟨d,a+10,Z8⟩=Z9 (.int .i64 f)/\W.cell? ⟨d,a+11,Z8⟩=Z9 (.int .i64 i)/\W.cell? ⟨d,a+12,Z8⟩=Z9 (.int .i64 j)/\W.cell? ⟨d,a+13,Z8⟩=Z9 (.int .i64 e)
theorem G14.below(H:Below W.heap.size W W')(h:G14 W d a n r s A y z v u p q f i j e):G14 W' d a n r s A y z v u p q f i j e:=⟨ai H h.1,ai H h.2.1,ai H h.2.2.1,ai H h.2.2.2.1,ai H h.2.2.2.2.1,ai H h.2.2.2.2.2.1,ai H h.2.2.2.2.2.2.1,ai H h.2.2.2.2.2.2.2.1,ai H h.2.2.2.2.2.2.2.2.1,ai H h.2.2.2.2.2.2.2.2.2.1,ai H h.2.2.2.2.2.2.2.2.2.2.1,ai H h.2.2.2.2.2.2.2.2.2.2.2.1,ai H h.2.2.2.2.2.2.2.2.2.2.2.2.1,ai H h.2.2.2.2.2.2.2.2.2.2.2.2.2⟩
theorem F0.setD(h:F0 w wr b cs ds t x)(D:ZE Z3)(H:D.size=21):F0 w (wr.setRow (b+1) D) b cs D t x:=by
 have k:=h.far;exact⟨by rw[cT _ _ _ _ (by omega)];exact h.r0,by rw[cT _ _ _ _ (by omega)];exact h.rb,au h.hd _,h.h0.set _ (fun e=>absurd e (by omega)),h.hb.set _ (fun e=>absurd e (by omega)),h.hd.set _ (fun _=>H),h.h2.set _ (fun e=>absurd e (by omega)),h.h3.set _ (fun e=>absurd e (by omega)),YB h.bel (by omega) _,k⟩
theorem wF(E:Operand->Z3)(w:Z2)(dst x y t' pos af gd)(h:db (E x)=true)(H:Held w (bF (E x)) 21)(o:cV (E y)=true)(B:(bA (E y)).size=21)(C:bh (bA (E y)).toList=true) :
 (execOp E ⟨dst,.store 25 x y,t',pos,af,gd⟩).run Tryz.prog w=.ok .skip (w.setRow (bF (E x)) (bA (E y))) :=
 kN E w _ 20 (by kernel_rfl) dst x y t' pos af gd h H o B C
theorem S14.of(D:Below W.heap.size W w')(h:G14 W d a n r s A y z v u p q f i j e):w'.cell? ⟨d,a,Z8⟩=Z9 (.int .i64 n)/\w'.cell? ⟨d,a+1,Z8⟩=Z9 (.int .i64 r)/\w'.cell? ⟨d,a+2,Z8⟩=Z9 (.int .i64 s)/\w'.cell? ⟨d,a+3,Z8⟩=Z9 (.int .i64 A)/\w'.cell? ⟨d,a+4,Z8⟩=Z9 (.int .i64 y)/\w'.cell? ⟨d,a+5,Z8⟩=Z9 (.int .i64 z)/\w'.cell? ⟨d,a+6,Z8⟩=Z9 (.int .i64 v)/\w'.cell? ⟨d,a+7,Z8⟩=Z9 (.int .i64 u)/\w'.cell? ⟨d,a+8,Z8⟩=Z9 (.int .i64 p)/\w'.cell? ⟨d,a+9,Z8⟩=Z9 (.int .i64 q)/\w'.cell? ⟨d,a+10,Z8⟩=Z9 (.int .i64 f)/\w'.cell? ⟨d,a+11,Z8⟩=Z9 (.int .i64 i)/\w'.cell? ⟨d,a+12,Z8⟩=Z9 (.int .i64 j)/\w'.cell? ⟨d,a+13,Z8⟩=Z9 (.int .i64 e)/\Below W.heap.size W w':=by
 obtain⟨E,F,G,I,J,K,L,N,O,P,H,o,B,C⟩:=G14.below D h;exact⟨E,F,G,I,J,K,L,N,O,P,H,o,B,C,D⟩
attribute [local go_sem ↓] aZ bf bq jM jR fe qh wF qz
attribute [local go_sem] bn aS fx aH aK aT az aM ah bW aQ aL aP aO aR aY aW
-- PRINTED BY mkrg0.py
end
end Go.Proofs.YtnkjliahpeebjaaGreatDoor
