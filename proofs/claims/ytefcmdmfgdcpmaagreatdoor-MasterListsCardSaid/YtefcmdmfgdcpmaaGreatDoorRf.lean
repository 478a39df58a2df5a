/- Catalogs. -/
import Derived.Test.YtefcmdmfgdcpmaaGreatDoorRy
import Derived.Test.YtefcmdmfgdcpmaaGreatDoorAcA
import Derived.Test.YtefcmdmfgdcpmaaGreatDoorSaL
set_option maxRecDepth 8000
set_option maxHeartbeats 8000000
namespace Go.Proofs.YtefcmdmfgdcpmaaGreatDoor
open Go.RowKit
section
attribute [local go_sem ↓] zr0 zsV
attribute [local go_sem] zav zap zal zae zaq zai zaw zao zas zan zaj zaf zaA zax zak
structure RLs (w wr:World) (s:List UInt8 × Nat) (k:Nat) (t:ByteArray) (out:Value):Prop where
 own:wr.ownsRow (w.heap.size+2) 3 1 out k (iv (rL s k).1)
 txt:Ds.bl t=(rL s k).2.1
 row0:row wr w.heap.size=#[.string t,.int .i64 (rL s k).2.2]
 h0:Held wr w.heap.size 2
 h1:Held wr (w.heap.size+1) 2
 bel:Below w.heap.size w wr
 sz:w.heap.size+2<=wr.heap.size
theorem RLs.start(w:World)(b:ByteArray)(x:Nat)(T1 T2:TypeId):RLs w (((w.alloc (.cells #[.string b,.int .i64 x] T1)).alloc (.cells #[.string ⟨#[]⟩,.int .i64 0] T2)).alloc (.cells #[] 3)) (Ds.bl b,x) 0 b (.slice (some ⟨w.heap.size+1+1,0,none⟩) 0 0):=by
 have b1:Below (w.alloc (.cells #[.string b,.int .i64 x] T1)).heap.size (w.alloc (.cells #[.string b,.int .i64 x] T1)) (((w.alloc (.cells #[.string b,.int .i64 x] T1)).alloc (.cells #[.string ⟨#[]⟩,.int .i64 0] T2)).alloc (.cells #[] 3)):=by exact zbo
 have b2:Below ((w.alloc (.cells #[.string b,.int .i64 x] T1)).alloc (.cells #[.string ⟨#[]⟩,.int .i64 0] T2)).heap.size ((w.alloc (.cells #[.string b,.int .i64 x] T1)).alloc (.cells #[.string ⟨#[]⟩,.int .i64 0] T2)) (((w.alloc (.cells #[.string b,.int .i64 x] T1)).alloc (.cells #[.string ⟨#[]⟩,.int .i64 0] T2)).alloc (.cells #[] 3)):=by exact zbo
 have q:=Held.new (w.alloc (.cells #[.string b,.int .i64 x] T1)) #[.string ⟨#[]⟩,.int .i64 0] T2 2 rfl (by decide);rw[show (w.alloc (.cells #[.string b,.int .i64 x] T1)).heap.size=w.heap.size+1 by simp] at q;refine⟨?_,rfl,zaB b1 (zai w _ _ _) (Nat.zero_lt_succ 1),(Held.new w _ T1 2 rfl (by decide)).below b1,q.below b2,by exact zbo,by simp⟩
 exact⟨rfl,.inr ⟨w.heap.size+1+1,0,#[],rfl,Nat.le_refl _,by have:=heap_alloc_new ((w.alloc (.cells #[.string b,.int .i64 x] T1)).alloc (.cells #[.string ⟨#[]⟩,.int .i64 0] T2)) (.cells #[] 3);simpa using this,Nat.le_refl _,by unfold maxLen;omega,rfl,rfl⟩⟩
theorem zqN(w:World)(o:Obj)(i:Nat)(h:i<w.heap.size):(w.alloc o).heap[i]?=w.heap[i]?:=((Below.refl w.heap.size w).alloc (Nat.le_refl _) o).block i h
theorem RLs.own_far{w wr:World}{s:List UInt8 × Nat}{k:Nat}{t:ByteArray}{out:Value}(h:RLs w wr s k t out):∀ y,out.ownBlock=some y->w.heap.size+2<=y∧y<wr.heap.size:=(NW.owns h.own).2.2
theorem RLs.own_mid{w wr w2:World}{s:List UInt8 × Nat}{k:Nat}{t:ByteArray}{out:Value}(h:RLs w wr s k t out)(hb:Below wr.heap.size wr w2)(c:Array Value)(o1 o2:Obj) :
  (((w2.alloc o1).setRow w.heap.size c).alloc o2).ownsRow (w.heap.size+2) 3 1 out k (iv (rL s k).1):=by
 refine zd7 h.own fun x hx=>?_
 obtain⟨y1,y2⟩:=h.own_far x hx;have z:=hb.size;rw[zqN _ _ _ (by simp;omega),zaX _ _ _ _ (by omega),zqN _ _ _ (by omega)];exact hb.block x y2
theorem RLs.step{w wr w2 w':World}{s:List UInt8 × Nat}{k:Nat}{t t':ByteArray}{out:Value}{a':Option Addr}{c':Nat}{o1:Obj}{T1:TypeId}(h:RLs w wr s k t out)(hb:Below wr.heap.size wr w2)(ht:Ds.bl t'=(rN (rL s k).2).2.1)(hown:w'.ownsRow (w.heap.size+2) 3 1 (.slice a' (k+1) c') (k+1) (iv (rL s k).1++[.int .i64 (rN (rL s k).2).1]))(hg:(((w2.alloc o1).setRow w.heap.size #[.string t',.int .i64 (rN (rL s k).2).2.2]).alloc (.cells #[.int .i64 (rN (rL s k).2).1] T1)).grownBy w' out.ownBlock):RLs w w' s (k+1) t' (.slice a' (k+1) c'):=by
 have z:=hb.size;have z2:=h.sz;have hz:=hg.size;simp at hz
 have b1:Below w2.heap.size w2 (w2.alloc o1):=(Below.refl _ _).alloc (Nat.le_refl _) _;have k0:=(h.h0.below hb).below b1;have k1:=(h.h1.below hb).below b1;have b2:∀ x:World,Below x.heap.size x (x.alloc (.cells #[.int .i64 (rN (rL s k).2).1] T1)):=fun x=>(Below.refl _ _).alloc (Nat.le_refl _) _
 have hne:∀ j,j<w.heap.size+2->some j≠out.ownBlock:=fun j hj e=>by have:=(h.own_far j e.symm).1;omega
 have hlt:∀ j,j<w.heap.size+2->j<(((w2.alloc o1).setRow w.heap.size #[.string t',.int .i64 (rN (rL s k).2).2.2]).alloc (.cells #[.int .i64 (rN (rL s k).2).1] T1)).heap.size:=fun j hj=>by simp;omega
 have hkeep:=fun j (hj:j<w.heap.size+2)=>hg.block j (hlt j hj) (hne j hj)
 have hrow:row w' w.heap.size=#[.string t',.int .i64 (rN (rL s k).2).2.2]:=by
  unfold row;rw[hkeep _ (by omega),zqN _ _ _ (by simp;omega)];exact zaQ k0 _
 have e1:rL s (k+1)=((rL s k).1++[(rN (rL s k).2).1],(rN (rL s k).2).2):=rfl;refine⟨?_,by rw[e1];exact ht,by rw[e1];exact hrow,?_,?_,?_,by omega⟩
 · rw[e1];unfold iv;rw[List.map_append];exact hown
 · exact ((k0.set _ (fun _=>rfl)).below (b2 _)).of_block (hkeep _ (by omega))
 · exact ((k1.set _ (fun e=>absurd e (by omega))).below (b2 _)).of_block (hkeep _ (by omega))
 · have q:Below w.heap.size w (((w2.alloc o1).setRow w.heap.size #[.string t',.int .i64 (rN (rL s k).2).2.2]).alloc (.cells #[.int .i64 (rN (rL s k).2).1] T1)):=by
    refine Below.alloc (below_setRow (((h.bel.trans (hb.mono (by omega))).alloc (by omega) _)) (Nat.le_refl _) _) ?_ _
    simp;omega
   refine q.trans ⟨hg.os,hg.tape,hg.output,hg.size,fun i hi=>hg.block i (hlt i (by omega)) (hne i (by omega))⟩
end
section
theorem zaY{w:World}{g n:Nat}(h:Held w g n)(g' i:Nat)(v:Value):Held (w.setCell ⟨g',i,none⟩ v) g n:=by
 by_cases e:g'=g
 · subst e;obtain⟨t,fr,hb⟩:=zbm h;rw[setCell_eq_setRow w g' i _ t fr v hb];exact h.set _ (fun _=>by simpa using h.1)
 · exact h.of_block (zbI (a:=⟨g',i,none⟩) (fun q=>e q.symm))
theorem zcf(w:World)(g g' i:Nat)(v:Value)(h:g≠g'):row (w.setCell ⟨g',i,none⟩ v) g=row w g:=by
 unfold row;rw[zbI (a:=⟨g',i,none⟩) h]
theorem zce{w:World}{g n:Nat}(h:Held w g n)(i:Nat)(v:Value):row (w.setCell ⟨g,i,none⟩ v) g=(row w g).setIfInBounds i v:=by
 obtain⟨t,fr,hb⟩:=zbm h;rw[setCell_eq_setRow w g i _ t fr v hb];exact zaQ h _
structure FW (w wr:World) (cs:Array Value) (t:ByteArray) (x:Nat):Prop where
 r0:row wr w.heap.size=cs
 r1:row wr (w.heap.size+1)=#[.string t,.int .i64 x]
 h0:Held wr w.heap.size 33
 h1:Held wr (w.heap.size+1) 2
 h2:Held wr (w.heap.size+1+1) 33
 h3:Held wr (w.heap.size+1+1+1) 2
 bel:Below w.heap.size w wr
theorem FW.start(w:World)(cs z:Array Value)(l:ByteArray)(x:Nat)(T1 T2 T3 T4:TypeId)(hc:cs.size=33)(hz:z.size=33):FW w ((((w.alloc (.cells cs T1)).alloc (.cells #[.string l,.int .i64 x] T2)).alloc (.cells z T3)).alloc (.cells #[.string ⟨#[]⟩,.int .i64 0] T4)) cs l x:=by
 have b:∀ (W:World) o,Below W.heap.size W (W.alloc o):=fun W o=>(Below.refl _ _).alloc (Nat.le_refl _) o
 have q0:=Held.new w cs T1 33 hc (by decide);have q1:=Held.new (w.alloc (.cells cs T1)) #[.string l,.int .i64 x] T2 2 rfl (by decide);have q2:=Held.new ((w.alloc (.cells cs T1)).alloc (.cells #[.string l,.int .i64 x] T2)) z T3 33 hz (by decide);have q3:=Held.new (((w.alloc (.cells cs T1)).alloc (.cells #[.string l,.int .i64 x] T2)).alloc (.cells z T3)) #[.string ⟨#[]⟩,.int .i64 0] T4 2 rfl (by decide);have r0:=zai w cs T1 (0,0);have r1:=zai (w.alloc (.cells cs T1)) #[.string l,.int .i64 x] T2 (0,0);have s1:(w.alloc (.cells cs T1)).heap.size=w.heap.size+1:=by simp
 have s2:((w.alloc (.cells cs T1)).alloc (.cells #[.string l,.int .i64 x] T2)).heap.size=w.heap.size+1+1:=by simp
 have s3:(((w.alloc (.cells cs T1)).alloc (.cells #[.string l,.int .i64 x] T2)).alloc (.cells z T3)).heap.size=w.heap.size+1+1+1:=by simp
 rw[s1] at q1 r1;rw[s2] at q2;rw[s3] at q3;exact⟨zaB (b _ _) (zaB (b _ _) (zaB (b _ _) r0 (by omega)) (by omega)) (by omega),zaB (b _ _) (zaB (b _ _) r1 (Nat.zero_lt_succ 1)) (Nat.zero_lt_succ 1),((q0.below (b _ _)).below (b _ _)).below (b _ _),(q1.below (b _ _)).below (b _ _),q2.below (b _ _),q3,by exact zbo⟩
theorem FW.below{w wr w2:World}{cs:Array Value}{t:ByteArray}{x:Nat}(h:FW w wr cs t x)(hb:Below wr.heap.size wr w2):FW w w2 cs t x :=
 ⟨zaB hb h.r0 (by rw[<-h.r0,h.h0.1];decide),zaB hb h.r1 (Nat.zero_lt_succ 1),h.h0.below hb,h.h1.below hb,h.h2.below hb,h.h3.below hb,bt h.bel hb⟩
theorem FW.step{w w2:World}{cs:Array Value}{t:ByteArray}{x:Nat}(h:FW w w2 cs t x)(i:Nat)(v:Value)(t':ByteArray)(x':Nat):FW w ((w2.setCell ⟨w.heap.size,i,none⟩ v).setRow (w.heap.size+1) #[.string t',.int .i64 x']) (cs.setIfInBounds i v) t' x':=by
 have k1:=zaY h.h1 w.heap.size i v;refine⟨?_,zaQ k1 _,(zaY h.h0 _ _ _).set _ (fun e=>absurd e (by omega)),k1.set _ (fun _=>rfl),(zaY h.h2 _ _ _).set _ (fun e=>absurd e (by omega)),(zaY h.h3 _ _ _).set _ (fun e=>absurd e (by omega)),below_setRow (Below.setCell h.bel (Nat.le_refl _) _) (by omega) _⟩
 rw[zbr _ _ _ _ (by omega),zce h.h0,h.r0]
attribute [local go_sem ↓] zaV zaW zaz zr0 zsV
attribute [local go_sem] zav zap zal zae zaq zas zan zaa zaj zaf zaA zax zak zag zar
end
end Go.Proofs.YtefcmdmfgdcpmaaGreatDoor
