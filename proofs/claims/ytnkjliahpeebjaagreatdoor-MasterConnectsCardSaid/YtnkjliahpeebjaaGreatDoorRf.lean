/- Catalogs. -/
import Derived.Test.YtnkjliahpeebjaaGreatDoorRy
import Derived.Test.YtnkjliahpeebjaaGreatDoorAcA
import Derived.Test.YtnkjliahpeebjaaGreatDoorSaL
set_option maxRecDepth 8000
set_option maxHeartbeats 8000000
open _root_ renaming ByteArray->Z7
open Go renaming Value->Z3,World->Z2,setCell_eq_setRow->Xx
open Nat renaming le_refl->ZS,zero_lt_succ->W9
namespace Go.Proofs.YtnkjliahpeebjaaGreatDoor
open Go.RowKit
variable{wr w a:Z2}{cs:Array Z3}{s:List UInt8 × Nat}{t:Z7}{out:Z3}{g b n k:Nat}
section
attribute [local go_sem ↓] jM jR
attribute [local go_sem] bn aS aH aK aT ak aI aw az aM aQ aL aP aO aR
structure RLs (w wr:Z2) (s:List UInt8 × Nat) (k:Nat) (t:Z7) (out:Z3):Prop where
 own:wr.ownsRow (w.heap.size+2) 3 1 out k (iv (rL s k).1)
 txt:Ds.bl t=(rL s k).2.1
 row0:row wr w.heap.size=#[.string t,.int .i64 (rL s k).2.2]
 h0:Held wr w.heap.size 2
 h1:Held wr (w.heap.size+1) 2
 bel:Below w.heap.size w wr
 sz:w.heap.size+2<=wr.heap.size
theorem RLs.start(w:Z2)(b:Z7)(x:Nat)(T c:TypeId):RLs w (((w.alloc (.cells #[.string b,.int .i64 x] T)).alloc (.cells #[.string ⟨#[]⟩,.int .i64 0] c)).alloc (.cells #[] 3)) (Ds.bl b,x) 0 b (.slice (some ⟨w.heap.size+1+1,0,none⟩) 0 0):=by
 have B:Below (w.alloc (.cells #[.string b,.int .i64 x] T)).heap.size (w.alloc (.cells #[.string b,.int .i64 x] T)) (((w.alloc (.cells #[.string b,.int .i64 x] T)).alloc (.cells #[.string ⟨#[]⟩,.int .i64 0] c)).alloc (.cells #[] 3)):=by exact aB
 have d:Below ((w.alloc (.cells #[.string b,.int .i64 x] T)).alloc (.cells #[.string ⟨#[]⟩,.int .i64 0] c)).heap.size ((w.alloc (.cells #[.string b,.int .i64 x] T)).alloc (.cells #[.string ⟨#[]⟩,.int .i64 0] c)) (((w.alloc (.cells #[.string b,.int .i64 x] T)).alloc (.cells #[.string ⟨#[]⟩,.int .i64 0] c)).alloc (.cells #[] 3)):=by exact aB
 have q:=Held.new (w.alloc (.cells #[.string b,.int .i64 x] T)) #[.string ⟨#[]⟩,.int .i64 0] c 2 rfl (by decide);rw[show (w.alloc (.cells #[.string b,.int .i64 x] T)).heap.size=w.heap.size+1 by simp] at q;refine⟨?_,rfl,am B (ak w _ _ _) (W9 1),(Held.new w _ T 2 rfl (by decide)).below B,q.below d,by exact aB,by simp⟩
 exact⟨rfl,.inr ⟨w.heap.size+1+1,0,#[],rfl,ZS _,by have:=heap_alloc_new ((w.alloc (.cells #[.string b,.int .i64 x] T)).alloc (.cells #[.string ⟨#[]⟩,.int .i64 0] c)) (.cells #[] 3);simpa using this,ZS _,by unfold maxLen;omega,rfl,rfl⟩⟩
theorem nw(w:Z2)(o:Obj)(i:Nat)(h:i<w.heap.size):(w.alloc o).heap[i]?=w.heap[i]?:=((Below.refl w.heap.size w).alloc (ZS _) o).block i h
theorem RLs.own_far(h:RLs w wr s k t out):∀ y,out.ownBlock=some y->w.heap.size+2<=y/\y<wr.heap.size:=(NW.owns h.own).2.2
theorem RLs.own_mid(h:RLs w wr s k t out)(H:Below wr.heap.size wr a)(c:Array Z3)(o O:Obj) :
 (((a.alloc o).setRow w.heap.size c).alloc O).ownsRow (w.heap.size+2) 3 1 out k (iv (rL s k).1):=by
 refine mr h.own fun x d=>?_
 obtain⟨Y,y⟩:=h.own_far x d;have z:=H.size;rw[nw _ _ _ (by simp;omega),cP _ _ _ _ (by omega),nw _ _ _ (by omega)];exact H.block x y
theorem RLs.step{W:Z2}{T:Z7}{A:Option Addr}{O:Obj}{o:TypeId}(h:RLs w wr s k t out)(p:Below wr.heap.size wr a)(v:Ds.bl T=(rN (rL s k).2).2.1)(l:W.ownsRow (w.heap.size+2) 3 1 (.slice A (k+1) b) (k+1) (iv (rL s k).1++[.int .i64 (rN (rL s k).2).1]))(c:(((a.alloc O).setRow w.heap.size #[.string T,.int .i64 (rN (rL s k).2).2.2]).alloc (.cells #[.int .i64 (rN (rL s k).2).1] o)).grownBy W out.ownBlock):RLs w W s (k+1) T (.slice A (k+1) b):=by
 have z:=p.size;have Z:=h.sz;have y:=c.size;simp at y
 have B:Below a.heap.size a (a.alloc O):=(Below.refl _ _).alloc (ZS _) _;have k0:=(h.h0.below p).below B;have k1:=(h.h1.below p).below B;have u:∀ x:Z2,Below x.heap.size x (x.alloc (.cells #[.int .i64 (rN (rL s k).2).1] o)):=fun x=>(Below.refl _ _).alloc (ZS _) _
 have f:∀ j,j<w.heap.size+2->some j≠out.ownBlock:=fun j r e=>by have:=(h.own_far j e.symm).1;omega
 have d:∀ j,j<w.heap.size+2->j<(((a.alloc O).setRow w.heap.size #[.string T,.int .i64 (rN (rL s k).2).2.2]).alloc (.cells #[.int .i64 (rN (rL s k).2).1] o)).heap.size:=fun j r=>by simp;omega
 have H:=fun j (r:j<w.heap.size+2)=>c.block j (d j r) (f j r)
 have m:row W w.heap.size=#[.string T,.int .i64 (rN (rL s k).2).2.2]:=by
  unfold row;rw[H _ (by omega),nw _ _ _ (by simp;omega)];exact au k0 _
 have E:rL s (k+1)=((rL s k).1++[(rN (rL s k).2).1],(rN (rL s k).2).2):=rfl;refine⟨?_,by rw[E];exact v,by rw[E];exact m,?_,?_,?_,by omega⟩
 .rw[E];unfold iv;rw[List.map_append];exact l
 .exact ((k0.set _ (fun _=>rfl)).below (u _)).of_block (H _ (by omega))
 .exact ((k1.set _ (fun e=>absurd e (by omega))).below (u _)).of_block (H _ (by omega))
 .have q:Below w.heap.size w (((a.alloc O).setRow w.heap.size #[.string T,.int .i64 (rN (rL s k).2).2.2]).alloc (.cells #[.int .i64 (rN (rL s k).2).1] o)):=by
   refine Below.alloc (below_setRow (((h.bel.trans (p.mono (by omega))).alloc (by omega) _)) (ZS _) _) ?_ _
   simp;omega
  refine q.trans ⟨c.os,c.tape,c.output,c.size,fun i C=>c.block i (d i (by omega)) (f i (by omega))⟩
end
section
theorem bG(h:Held w g n)(G i:Nat)(v:Z3):Held (w.setCell ⟨G,i,none⟩ v) g n:=by
 by_cases e:G=g
 .subst e;obtain⟨t,f,H⟩:=fR h;rw[Xx w G i _ t f v H];exact h.set _ (fun _=>by simpa using h.1)
 .exact h.of_block (ic (a:=⟨G,i,none⟩) (fun q=>e q.symm))
theorem kO(w:Z2)(g G i:Nat)(v:Z3)(h:g≠G):row (w.setCell ⟨G,i,none⟩ v) g=row w g:=by
 unfold row;rw[ic (a:=⟨G,i,none⟩) h]
theorem jU(h:Held w g n)(i:Nat)(v:Z3):row (w.setCell ⟨g,i,none⟩ v) g=(row w g).setIfInBounds i v:=by
 obtain⟨t,f,H⟩:=fR h;rw[Xx w g i _ t f v H];exact au h _
structure FW (w wr:Z2) (cs:Array Z3) (t:Z7) (x:Nat):Prop where
 r0:row wr w.heap.size=cs
 r1:row wr (w.heap.size+1)=#[.string t,.int .i64 x]
 h0:Held wr w.heap.size 33
 h1:Held wr (w.heap.size+1) 2
 h2:Held wr (w.heap.size+1+1) 33
 h3:Held wr (w.heap.size+1+1+1) 2
 bel:Below w.heap.size w wr
theorem FW.start(w:Z2)(cs z:Array Z3)(l:Z7)(x:Nat)(T c d e:TypeId)(h:cs.size=33)(H:z.size=33):FW w ((((w.alloc (.cells cs T)).alloc (.cells #[.string l,.int .i64 x] c)).alloc (.cells z d)).alloc (.cells #[.string ⟨#[]⟩,.int .i64 0] e)) cs l x:=by
 have b:∀ (W:Z2) o,Below W.heap.size W (W.alloc o):=fun W o=>(Below.refl _ _).alloc (ZS _) o
 have i:=Held.new w cs T 33 h (by decide);have q:=Held.new (w.alloc (.cells cs T)) #[.string l,.int .i64 x] c 2 rfl (by decide);have Q:=Held.new ((w.alloc (.cells cs T)).alloc (.cells #[.string l,.int .i64 x] c)) z d 33 H (by decide);have f:=Held.new (((w.alloc (.cells cs T)).alloc (.cells #[.string l,.int .i64 x] c)).alloc (.cells z d)) #[.string ⟨#[]⟩,.int .i64 0] e 2 rfl (by decide);have R:=ak w cs T (0,0);have r:=ak (w.alloc (.cells cs T)) #[.string l,.int .i64 x] c (0,0);have S:(w.alloc (.cells cs T)).heap.size=w.heap.size+1:=by simp
 have j:((w.alloc (.cells cs T)).alloc (.cells #[.string l,.int .i64 x] c)).heap.size=w.heap.size+1+1:=by simp
 have m:(((w.alloc (.cells cs T)).alloc (.cells #[.string l,.int .i64 x] c)).alloc (.cells z d)).heap.size=w.heap.size+1+1+1:=by simp
 rw[S] at q r;rw[j] at Q;rw[m] at f;exact⟨am (b _ _) (am (b _ _) (am (b _ _) R (by omega)) (by omega)) (by omega),am (b _ _) (am (b _ _) r (W9 1)) (W9 1),((i.below (b _ _)).below (b _ _)).below (b _ _),(q.below (b _ _)).below (b _ _),Q.below (b _ _),f,by exact aB⟩
theorem FW.below{x:Nat}(h:FW w wr cs t x)(H:Below wr.heap.size wr a):FW w a cs t x :=
 ⟨am H h.r0 (by rw[<-h.r0,h.h0.1];decide),am H h.r1 (W9 1),h.h0.below H,h.h1.below H,h.h2.below H,h.h3.below H,bt h.bel H⟩
theorem FW.step{x:Nat}(h:FW w a cs t x)(i:Nat)(v:Z3)(T:Z7)(X:Nat):FW w ((a.setCell ⟨w.heap.size,i,none⟩ v).setRow (w.heap.size+1) #[.string T,.int .i64 X]) (cs.setIfInBounds i v) T X:=by
 have k1:=bG h.h1 w.heap.size i v;refine⟨?_,au k1 _,(bG h.h0 _ _ _).set _ (fun e=>absurd e (by omega)),k1.set _ (fun _=>rfl),(bG h.h2 _ _ _).set _ (fun e=>absurd e (by omega)),(bG h.h3 _ _ _).set _ (fun e=>absurd e (by omega)),below_setRow (Below.setCell h.bel (ZS _) _) (by omega) _⟩
 rw[cT _ _ _ _ (by omega),jU h.h0,h.r0]
attribute [local go_sem ↓] aZ bf bq jM jR
attribute [local go_sem] bn aS aH aK aT az aM ah aQ aL aP aO aR aY aW
end
end Go.Proofs.YtnkjliahpeebjaaGreatDoor
