/- Catalogs. -/
import Derived.Test.YtefcmdmfgdcpmaaGreatDoorRf
import Derived.Test.YtefcmdmfgdcpmaaGreatDoorRtF
set_option maxRecDepth 8000
set_option maxHeartbeats 8000000
namespace Go.Proofs.YtefcmdmfgdcpmaaGreatDoor
open Go.RowKit
section
set_option linter.unusedSimpArgs false
theorem FW.read{w w2:World}{cs:Array Value}{t:ByteArray}{x:Nat}(h:FW w w2 cs t x)(t':ByteArray)(x':Nat):FW w (w2.setRow (w.heap.size+1) #[.string t',.int .i64 x']) cs t' x' :=
 ⟨by rw[zbr _ _ _ _ (by omega)];exact h.r0,zaQ h.h1 _,h.h0.set _ (fun e=>absurd e (by omega)),h.h1.set _ (fun _=>rfl),h.h2.set _ (fun e=>absurd e (by omega)),h.h3.set _ (fun e=>absurd e (by omega)),below_setRow h.bel (by omega) _⟩
theorem FW.blocks{w w2 w5:World}{cs:Array Value}{t:ByteArray}{x:Nat}(h:FW w w2 cs t x)(hk:∀ j,j<w.heap.size+1+1+1+1->w5.heap[j]?=w2.heap[j]?)(hb:Below w.heap.size w w5):FW w w5 cs t x :=
 ⟨by unfold row;rw[hk _ (by omega)];exact h.r0,by unfold row;rw[hk _ (by omega)];exact h.r1,h.h0.of_block (hk _ (by omega)),h.h1.of_block (hk _ (by omega)),h.h2.of_block (hk _ (by omega)),h.h3.of_block (hk _ (by omega)),hb⟩
theorem FW.setE{w w2:World}{cs:Array Value}{t:ByteArray}{x:Nat}(h:FW w w2 cs t x)(i:Nat)(v:Value):FW w (w2.setCell ⟨w.heap.size,i,none⟩ v) (cs.setIfInBounds i v) t x :=
 ⟨by rw[zce h.h0,h.r0],by rw[zcf _ _ _ _ _ (by omega)];exact h.r1,zaY h.h0 _ _ _,zaY h.h1 _ _ _,zaY h.h2 _ _ _,zaY h.h3 _ _ _,Below.setCell h.bel (Nat.le_refl _) _⟩
structure F4 (w wr:World) (g:Nat) (cs:Array Value) (d0 d1 d2:Value) (gr:Value) (k:Nat) (xs:List Value) (t:ByteArray) (x:Nat):Prop where
 f:FW w wr cs t x
 rg:row wr g=#[d0,d1,d2]
 hg:Held wr g 3
 far:w.heap.size+1+1+1<g
 own:wr.ownsRow (w.heap.size+1+1+1+1) 103 3 gr k xs
 lt:∀ y,gr.ownBlock=some y->y<g
theorem F4.below{w wr w2:World}{g:Nat}{cs:Array Value}{d0 d1 d2 gr:Value}{k:Nat}{xs:List Value}{t:ByteArray}{x:Nat}(h:F4 w wr g cs d0 d1 d2 gr k xs t x)(hb:Below wr.heap.size wr w2):F4 w w2 g cs d0 d1 d2 gr k xs t x :=
 ⟨h.f.below hb,zaB hb h.rg (Nat.zero_lt_succ 2),h.hg.below hb,h.far,zaD h.own (fun y hy=>hb.block y (zam h.own y hy).2),h.lt⟩
theorem F4.start{w wr:World}{cs:Array Value}{gr:Value}{k:Nat}{xs:List Value}{t:ByteArray}{x:Nat}(h:FW w wr cs t x)(own:wr.ownsRow (w.heap.size+1+1+1+1) 103 3 gr k xs)(d0 d1 d2:Value)(T:TypeId):F4 w (wr.alloc (.cells #[d0,d1,d2] T)) wr.heap.size cs d0 d1 d2 gr k xs t x:=by
 have bb:Below wr.heap.size wr (wr.alloc (.cells #[d0,d1,d2] T)):=(Below.refl _ _).alloc (Nat.le_refl _) _;exact⟨h.below bb,zai wr _ T (0,0),Held.new wr _ T 3 rfl (by decide),h.h3.lt,zaD own (fun y hy=>bb.block y (zam own y hy).2),fun y hy=>(zam own y hy).2⟩
theorem F4.step{w w2:World}{g:Nat}{cs:Array Value}{d0 d1 d2 e0 e1 e2 gr:Value}{k:Nat}{xs:List Value}{t:ByteArray}{x:Nat}(h:F4 w w2 g cs d0 d1 d2 gr k xs t x)(i:Nat)(v:Value)(t':ByteArray)(x':Nat)(he:(#[d0,d1,d2]:Array Value).setIfInBounds i v=#[e0,e1,e2]):F4 w ((w2.setCell ⟨g,i,none⟩ v).setRow (w.heap.size+1) #[.string t',.int .i64 x']) g cs e0 e1 e2 gr k xs t' x':=by
 have k1:=h.far
 have hF:FW w (w2.setCell ⟨g,i,none⟩ v) cs t x :=
  ⟨by rw[zcf _ _ _ _ _ (by omega)];exact h.f.r0,by rw[zcf _ _ _ _ _ (by omega)];exact h.f.r1,zaY h.f.h0 _ _ _,zaY h.f.h1 _ _ _,zaY h.f.h2 _ _ _,zaY h.f.h3 _ _ _,Below.setCell h.f.bel (by show w.heap.size<=g;omega) _⟩
 refine⟨hF.read t' x',?_,(zaY h.hg _ _ _).set _ (fun e=>absurd e (by omega)),k1,zaD h.own (fun y hy=>?_),h.lt⟩
 · rw[zbr _ _ _ _ (by omega),zce h.hg,h.rg,he]
 · have q1:=(zam h.own y hy).1;have q2:=h.lt y hy;rw[zaX _ _ _ _ (by omega),zbI (a:=⟨g,i,none⟩) (by show y≠g;omega)]
theorem F4.done{w w2 w5:World}{g:Nat}{e:En}{al d0 d1 d2 gr gr':Value}{k:Nat}{xs news:List Value}{t:ByteArray}{x:Nat}{o:Obj}(h:F4 w w2 g (e.vals al gr) d0 d1 d2 gr k xs t x)(hown:w5.ownsRow (w.heap.size+1+1+1+1) 103 3 gr' (k+1) (xs++news))(hg:(w2.alloc o).grownBy w5 gr.ownBlock):FW w (w5.setCell ⟨w.heap.size,32,none⟩ gr') (e.vals al gr') t x∧(w5.setCell ⟨w.heap.size,32,none⟩ gr').ownsRow (w.heap.size+1+1+1+1) 103 3 gr' (k+1) (xs++news):=by
 have bb:Below w2.heap.size w2 (w2.alloc o):=(Below.refl _ _).alloc (Nat.le_refl _) _;have z3:=h.f.h3.lt;have f1:=h.f.below bb;have hne:∀ j,j<w.heap.size+1+1+1+1->some j≠gr.ownBlock:=fun j hj e=>by have:=(zam h.own j e.symm).1;omega
 have f2:FW w w5 (e.vals al gr) t x:=f1.blocks (fun j hj=>hg.block j (by simp;omega) (hne j hj)) (f1.bel.grown hg (by simp;omega) (fun y hy=>by have:=(zam h.own y hy).1;omega));have f3:=f2.setE 32 gr';rw[zqy] at f3;refine⟨f3,zaD hown (fun y hy=>zbI (a:=⟨w.heap.size,32,none⟩) (by have:=(zam hown y hy).1;show y≠w.heap.size;omega))⟩
attribute [local go_sem ↓] zaV zaW zaz zr0 zsV
attribute [local go_sem] zav zap zal zae zaq zas zan zaa zaj zaf zaA zax zak zag zar
end
section
set_option linter.unusedSimpArgs false
structure F0 (w wr:World) (b:Nat) (cs ds:Array Value) (t:ByteArray) (x:Nat):Prop where
 r0:row wr w.heap.size=cs
 rb:row wr b=#[.string t,.int .i64 x]
 rd:row wr (b+1)=ds
 h0:Held wr w.heap.size 33
 hb:Held wr b 2
 hd:Held wr (b+1) 21
 h2:Held wr (w.heap.size+1+1) 33
 h3:Held wr (w.heap.size+1+1+1) 2
 bel:Below w.heap.size w wr
 far:w.heap.size+1+1+1<b
theorem F0.below{w wr w2:World}{b:Nat}{cs ds:Array Value}{t:ByteArray}{x:Nat}(h:F0 w wr b cs ds t x)(hb:Below wr.heap.size wr w2):F0 w w2 b cs ds t x :=
 ⟨zaB hb h.r0 (by rw[<-h.r0,h.h0.1];decide),zaB hb h.rb (Nat.zero_lt_succ 1),zaB hb h.rd (by rw[<-h.rd,h.hd.1];decide),h.h0.below hb,h.hb.below hb,h.hd.below hb,h.h2.below hb,h.h3.below hb,bt h.bel hb,h.far⟩
theorem F0.step{w w2:World}{b:Nat}{cs ds:Array Value}{t:ByteArray}{x:Nat}(h:F0 w w2 b cs ds t x)(i:Nat)(v:Value)(t':ByteArray)(x':Nat):F0 w ((w2.setCell ⟨b+1,i,none⟩ v).setRow b #[.string t',.int .i64 x']) b cs (ds.setIfInBounds i v) t' x':=by
 have k:=h.far;have kb:=zaY h.hb (b+1) i v;refine⟨?_,zaQ kb _,?_,(zaY h.h0 _ _ _).set _ (fun e=>absurd e (by omega)),kb.set _ (fun _=>rfl),(zaY h.hd _ _ _).set _ (fun e=>absurd e (by omega)),(zaY h.h2 _ _ _).set _ (fun e=>absurd e (by omega)),(zaY h.h3 _ _ _).set _ (fun e=>absurd e (by omega)),below_setRow (Below.setCell h.bel (by show w.heap.size<=b+1;omega) _) (by omega) _,k⟩
 · rw[zbr _ _ _ _ (by omega),zcf _ _ _ _ _ (by omega),h.r0]
 · rw[zbr _ _ _ _ (by omega),zce h.hd,h.rd]
theorem F0.read{w w2:World}{b:Nat}{cs ds:Array Value}{t:ByteArray}{x:Nat}(h:F0 w w2 b cs ds t x)(t':ByteArray)(x':Nat):F0 w (w2.setRow b #[.string t',.int .i64 x']) b cs ds t' x':=by
 have k:=h.far;exact⟨by rw[zbr _ _ _ _ (by omega)];exact h.r0,zaQ h.hb _,by rw[zbr _ _ _ _ (by omega)];exact h.rd,h.h0.set _ (fun e=>absurd e (by omega)),h.hb.set _ (fun _=>rfl),h.hd.set _ (fun e=>absurd e (by omega)),h.h2.set _ (fun e=>absurd e (by omega)),h.h3.set _ (fun e=>absurd e (by omega)),below_setRow h.bel (by omega) _,k⟩
theorem F0.start{w w2:World}{cs:Array Value}{l:ByteArray}{x:Nat}(h:FW w w2 cs l x)(t':ByteArray)(x':Nat)(ds:Array Value)(T1 T2:TypeId)(hd:ds.size=21):F0 w ((w2.alloc (.cells #[.string t',.int .i64 x'] T1)).alloc (.cells ds T2)) w2.heap.size cs ds t' x':=by
 have bb:∀ (W:World) o,Below W.heap.size W (W.alloc o):=fun W o=>(Below.refl _ _).alloc (Nat.le_refl _) o
 have q0:=Held.new w2 #[.string t',.int .i64 x'] T1 2 rfl (by decide);have q1:=Held.new (w2.alloc (.cells #[.string t',.int .i64 x'] T1)) ds T2 21 hd (by decide);have r1:=zai (w2.alloc (.cells #[.string t',.int .i64 x'] T1)) ds T2 (0,0);have s1:(w2.alloc (.cells #[.string t',.int .i64 x'] T1)).heap.size=w2.heap.size+1:=by simp
 rw[s1] at q1 r1;have g:=(h.below (bb w2 (.cells #[.string t',.int .i64 x'] T1))).below (bb _ (.cells ds T2));exact⟨g.r0,zaB (bb _ _) (zai w2 _ T1 (0,0)) (Nat.zero_lt_succ 1),r1,g.h0,q0.below (bb _ _),q1,g.h2,g.h3,g.bel,h.h3.lt⟩
def G14(W:World)(vb vo:Nat)(a0 a1 a2 a3 a4 a5 a6 a7 a8 a9 a10 a11 a12 a13:Int):Prop:=W.cell? ⟨vb,vo+0,none⟩=some (.int .i64 a0)∧W.cell? ⟨vb,vo+1,none⟩=some (.int .i64 a1)∧W.cell? ⟨vb,vo+2,none⟩=some (.int .i64 a2)∧W.cell? ⟨vb,vo+3,none⟩=some (.int .i64 a3)∧W.cell? ⟨vb,vo+4,none⟩=some (.int .i64 a4)∧W.cell? ⟨vb,vo+5,none⟩=some (.int .i64 a5)∧W.cell? ⟨vb,vo+6,none⟩=some (.int .i64 a6)∧W.cell? ⟨vb,vo+7,none⟩=some (.int .i64 a7)∧W.cell? ⟨vb,vo+8,none⟩=some (.int .i64 a8)∧W.cell? ⟨vb,vo+9,none⟩=some (.int .i64 a9)∧W.cell? ⟨vb,vo+10,none⟩=some (.int .i64 a10)∧W.cell? ⟨vb,vo+11,none⟩=some (.int .i64 a11)∧W.cell? ⟨vb,vo+12,none⟩=some (.int .i64 a12)∧W.cell? ⟨vb,vo+13,none⟩=some (.int .i64 a13)
theorem G14.below{W W':World}{vb vo:Nat}{a0 a1 a2 a3 a4 a5 a6 a7 a8 a9 a10 a11 a12 a13:Int}(hb:Below W.heap.size W W')(h:G14 W vb vo a0 a1 a2 a3 a4 a5 a6 a7 a8 a9 a10 a11 a12 a13):G14 W' vb vo a0 a1 a2 a3 a4 a5 a6 a7 a8 a9 a10 a11 a12 a13:=⟨zac hb h.1,zac hb h.2.1,zac hb h.2.2.1,zac hb h.2.2.2.1,zac hb h.2.2.2.2.1,zac hb h.2.2.2.2.2.1,zac hb h.2.2.2.2.2.2.1,zac hb h.2.2.2.2.2.2.2.1,zac hb h.2.2.2.2.2.2.2.2.1,zac hb h.2.2.2.2.2.2.2.2.2.1,zac hb h.2.2.2.2.2.2.2.2.2.2.1,zac hb h.2.2.2.2.2.2.2.2.2.2.2.1,zac hb h.2.2.2.2.2.2.2.2.2.2.2.2.1,zac hb h.2.2.2.2.2.2.2.2.2.2.2.2.2⟩
theorem F0.setD{w wr:World}{b:Nat}{cs ds:Array Value}{t:ByteArray}{x:Nat}(h:F0 w wr b cs ds t x)(ds':Array Value)(hz:ds'.size=21):F0 w (wr.setRow (b+1) ds') b cs ds' t x:=by
 have k:=h.far;exact⟨by rw[zbr _ _ _ _ (by omega)];exact h.r0,by rw[zbr _ _ _ _ (by omega)];exact h.rb,zaQ h.hd _,h.h0.set _ (fun e=>absurd e (by omega)),h.hb.set _ (fun e=>absurd e (by omega)),h.hd.set _ (fun _=>hz),h.h2.set _ (fun e=>absurd e (by omega)),h.h3.set _ (fun e=>absurd e (by omega)),below_setRow h.bel (by omega) _,k⟩
theorem zuZ(ev:Operand->Value)(w:World)(dst x y t' pos af gd)(h1:zbA (ev x)=true)(h2:Held w (za0 (ev x)) 21)(h3:zbC (ev y)=true)(h4:(zaK (ev y)).size=21)(h5:zaM (zaK (ev y)).toList=true) :
  (execOp ev ⟨dst,.store 37 x y,t',pos,af,gd⟩).run Tryz.prog w=.ok .skip (w.setRow (za0 (ev x)) (zaK (ev y))) :=
 zbN ev w _ 20 (by kernel_rfl) dst x y t' pos af gd h1 h2 h3 h4 h5
theorem S14.of{W w':World}{vb vo:Nat}{a0 a1 a2 a3 a4 a5 a6 a7 a8 a9 a10 a11 a12 a13:Int}(hb:Below W.heap.size W w')(h:G14 W vb vo a0 a1 a2 a3 a4 a5 a6 a7 a8 a9 a10 a11 a12 a13):w'.cell? ⟨vb,vo,none⟩=some (.int .i64 a0)∧w'.cell? ⟨vb,vo+1,none⟩=some (.int .i64 a1)∧w'.cell? ⟨vb,vo+2,none⟩=some (.int .i64 a2)∧w'.cell? ⟨vb,vo+3,none⟩=some (.int .i64 a3)∧w'.cell? ⟨vb,vo+4,none⟩=some (.int .i64 a4)∧w'.cell? ⟨vb,vo+5,none⟩=some (.int .i64 a5)∧w'.cell? ⟨vb,vo+6,none⟩=some (.int .i64 a6)∧w'.cell? ⟨vb,vo+7,none⟩=some (.int .i64 a7)∧w'.cell? ⟨vb,vo+8,none⟩=some (.int .i64 a8)∧w'.cell? ⟨vb,vo+9,none⟩=some (.int .i64 a9)∧w'.cell? ⟨vb,vo+10,none⟩=some (.int .i64 a10)∧w'.cell? ⟨vb,vo+11,none⟩=some (.int .i64 a11)∧w'.cell? ⟨vb,vo+12,none⟩=some (.int .i64 a12)∧w'.cell? ⟨vb,vo+13,none⟩=some (.int .i64 a13)∧Below W.heap.size W w':=by
 obtain⟨h0,h1,h2,h3,h4,h5,h6,h7,h8,h9,h10,h11,h12,h13⟩:=G14.below hb h;exact⟨h0,h1,h2,h3,h4,h5,h6,h7,h8,h9,h10,h11,h12,h13,hb⟩
attribute [local go_sem ↓] zaV zaW zaz zr0 zsV zew zmq zuZ zqC
attribute [local go_sem] zav zap zbG zal zae zaq zas zan zaa zb1 zaj zaf zaA zax zak zag zar
-- PRINTED BY mkrg0.py
end
end Go.Proofs.YtefcmdmfgdcpmaaGreatDoor
