/- Catalogs. -/
import Derived.Test.YtnkjliahpeebjaaGreatDoorDcA
import Derived.Test.YtnkjliahpeebjaaGreatDoorRg0
set_option maxRecDepth 8000
set_option maxHeartbeats 16000000
namespace Go.Proofs.YtnkjliahpeebjaaGreatDoor
open Go.RowKit
variable(w:World){s:List UInt8}(c cs:Array Value)(e:En)(t:TypeId)(o:Obj)(al gr:Value)(g p:Nat)
theorem mK{w:World}{g p n m:Nat}(h:Held w g n)(H:Held w p m)(a:n≠m):g≠p:=fun e=>by subst e;exact a (h.1.symm.trans H.1)
theorem da(n:Nat)(h:Held w g n):Held (w.alloc o) g n:=h.below ((Below.refl _ _).alloc (Nat.le_refl _) o)
theorem gQ(h:cs.size=33):Held (w.alloc (.cells cs t)) w.heap.size 33:=Held.new w cs t _ h (by decide)
theorem GI(h:cs.size=2):Held (w.alloc (.cells cs t)) w.heap.size 2:=Held.new w cs t _ h (by decide)
theorem fD(h:Held w g 2)(H:Held w p 33):Held (w.setRow p c) g 2:=h.set c (fun e=>absurd e.symm (mK h H (by decide)))
theorem fE(h:Held w g 33):Held (w.setRow p (e.vals al gr)) g 33:=h.set _ (fun _=>ah _ _ _)
theorem eb(t:TypeId):Held (w.alloc (.cells (e.vals al gr) t)) w.heap.size 33:=gQ _ _ _ (ah _ _ _)
theorem cG:Held (w.alloc (.cells #[.int .i64 0,.string ⟨#[]⟩,.int .i64 0,.int .i64 0,.int .i64 0,.int .i64 0,.int .i64 0,.int .i64 0,.int .i64 0,.int .i64 0,.int .i64 0,.int .i64 0,.int .i64 0,.int .i64 0,.int .i64 0,.int .i64 0,.bool false,.int .i64 0,.string ⟨#[]⟩,.string ⟨#[]⟩,.int .i64 0,.int .i64 0,.bool false,.slice none 0 0,.int .i64 0,.int .i64 0,.int .i64 0,.bool false,.string ⟨#[]⟩,.string ⟨#[]⟩,.int .i64 0,.int .i64 0,.slice none 0 0] t)) w.heap.size 33:=gQ _ _ _ rfl
theorem eU:Held ((w.alloc (.cells #[.int .i64 0,.string ⟨#[]⟩,.int .i64 0,.int .i64 0,.int .i64 0,.int .i64 0,.int .i64 0,.int .i64 0,.int .i64 0,.int .i64 0,.int .i64 0,.int .i64 0,.int .i64 0,.int .i64 0,.int .i64 0,.int .i64 0,.bool false,.int .i64 0,.string ⟨#[]⟩,.string ⟨#[]⟩,.int .i64 0,.int .i64 0,.bool false,.slice none 0 0,.int .i64 0,.int .i64 0,.int .i64 0,.bool false,.string ⟨#[]⟩,.string ⟨#[]⟩,.int .i64 0,.int .i64 0,.slice none 0 0] t)).alloc o) w.heap.size 33:=da _ _ _ _ (cG _ _)
theorem eV:Held ((w.alloc o).alloc (.cells #[.int .i64 0,.string ⟨#[]⟩,.int .i64 0,.int .i64 0,.int .i64 0,.int .i64 0,.int .i64 0,.int .i64 0,.int .i64 0,.int .i64 0,.int .i64 0,.int .i64 0,.int .i64 0,.int .i64 0,.int .i64 0,.int .i64 0,.bool false,.int .i64 0,.string ⟨#[]⟩,.string ⟨#[]⟩,.int .i64 0,.int .i64 0,.bool false,.slice none 0 0,.int .i64 0,.int .i64 0,.int .i64 0,.bool false,.string ⟨#[]⟩,.string ⟨#[]⟩,.int .i64 0,.int .i64 0,.slice none 0 0] t)) (w.heap.size+1) 33:=by
 have:=cG (w.alloc o) t;rwa [show (w.alloc o).heap.size=w.heap.size+1 by simp] at this
theorem eo:Held (w.alloc (.cells #[.string ⟨#[]⟩,.int .i64 0] t)) w.heap.size 2:=GI _ _ _ rfl
theorem fi:Held ((w.alloc (.cells #[.string ⟨#[]⟩,.int .i64 0] t)).alloc o) w.heap.size 2:=da _ _ _ _ (eo _ _)
theorem fj:Held ((w.alloc o).alloc (.cells #[.string ⟨#[]⟩,.int .i64 0] t)) (w.heap.size+1) 2:=by
 have:=eo (w.alloc o) t;rwa [show (w.alloc o).heap.size=w.heap.size+1 by simp] at this
theorem eT(h:Held w p 33):row (w.setRow p c) p=c:=au h c
theorem FJ(h:Held w g 33):row (w.alloc o) g=row w g:=am ((Below.refl _ _).alloc (Nat.le_refl _) o) rfl (by rw[h.1];decide)
section
set_option linter.unusedSimpArgs false
structure DR (wr W:World) (p r:Nat) (x:Fu) (al gr:Value) (t:ByteArray) (st:List UInt8 × Nat):Prop where
 bel:Below wr.heap.size wr W
 p0:wr.heap.size<=p
 rp:row W p=x.1.vals al gr
 hp:Held W p 33
 rr:row W r=#[.string t,.int .i64 st.2]
 is:IS W al x.2.1
 gs:GS W gr x.2.2
 ao:∀ y,al.ownBlock=some y->wr.heap.size<=y
 go:∀ y,gr.ownBlock=some y->wr.heap.size<=y
 tx:Ds.bl t=st.1
theorem DR.below{wr W a:World}{p r:Nat}{x:Fu}{al gr:Value}{t:ByteArray}{S:List UInt8 × Nat}(h:DR wr W p r x al gr t S)(H:Below W.heap.size W a):DR wr a p r x al gr t S :=
 ⟨bt h.bel H,h.p0,am H h.rp (by rw[ah];decide),h.hp.below H,am H h.rr (Nat.zero_lt_succ 1),h.is.below H,h.gs.below H,h.ao,h.go,h.tx⟩
def TrR(C:UInt8)(s:List UInt8)(k:Nat):Prop:=∀ j:Int,0<=j->j<k->Ek.letter j=C->gY j s=none
theorem TrR.next{C:UInt8}{k:Nat}(h:TrR C s k)(b:Ek.letter k=C->gY k s=none):TrR C s (k+1):=by
 intro j a d H;by_cases e:j=k
 .subst e;exact b H
 .exact h j a (by omega) H
theorem TrR.all(h:TrR (s.headD 0) s 5)(l:32<=s.length/\s.length<=200):cF s=none:=by
 rw[tw s l]
 cases H:iW (s.headD 0) with
 | none=>rfl
 | some k =>
   simp only
   have:0<=k/\k<5/\Ek.letter k=s.headD 0:=by
    unfold iW at H
    (repeat' split at H) <;> first|(cases H;rename_i e;exact⟨by decide,by decide,e.symm⟩)|cases H
   exact h k this.1 this.2.1 this.2.2
attribute [local go_sem ↓] aZ bf bq jM jR
attribute [local go_sem] bn aS aH aK aT ak aI aw az aM ah aQ aL aP aO aR aY aW
attribute [local go_sem] cG eU eV eo fi fj da fD
attribute [local go_sem ↓ high] bf
end
end Go.Proofs.YtnkjliahpeebjaaGreatDoor
