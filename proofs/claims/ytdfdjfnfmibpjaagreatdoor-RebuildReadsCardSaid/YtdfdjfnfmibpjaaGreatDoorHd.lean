/- Blocks of the call's own that may be written: kept over allocs, calls and stores into others. -/
import Derived.Test.YtdfdjfnfmibpjaaGreatDoorRy
import Derived.Test.YtdfdjfnfmibpjaaGreatDoorAcA
namespace Go.Proofs.YtdfdjfnfmibpjaaGreatDoor
open Go.RowKit
theorem held_ne {w:World} {g p n m:Nat} (h:Held w g n) (h2:Held w p m) (hn:n≠m):g≠p:=fun e=>by subst e;exact hn (h.1.symm.trans h2.1)
theorem held_a (w:World) (o:Obj) (g n:Nat) (h:Held w g n):Held (w.alloc o) g n:=h.below ((Below.refl _ _).alloc (Nat.le_refl _) o)
theorem held_n (w:World) (cs:Array Value) (t:TypeId) (h:cs.size=33):Held (w.alloc (.cells cs t)) w.heap.size 33:=Held.new w cs t _ h (by decide)
theorem held_m (w:World) (cs:Array Value) (t:TypeId) (h:cs.size=2):Held (w.alloc (.cells cs t)) w.heap.size 2:=Held.new w cs t _ h (by decide)
theorem held_r (w:World) (c:Array Value) (g p:Nat) (h:Held w g 33) (h2:Held w p 2):Held (w.setRow p c) g 33:=h.set c (fun e=>absurd e.symm (held_ne h h2 (by decide)))
theorem held_p (w:World) (c:Array Value) (g p:Nat) (h:Held w g 2) (h2:Held w p 33):Held (w.setRow p c) g 2:=h.set c (fun e=>absurd e.symm (held_ne h h2 (by decide)))
theorem held_v (w:World) (e:En) (al gr:Value) (g p:Nat) (h:Held w g 33):Held (w.setRow p (e.vals al gr)) g 33:=h.set _ (fun _=>vals_size _ _ _)
theorem hv_n (w:World) (e:En) (al gr:Value) (t:TypeId):Held (w.alloc (.cells (e.vals al gr) t)) w.heap.size 33:=held_n _ _ _ (vals_size _ _ _)
theorem hv_b (w:World) (e:En) (al gr:Value) (t:TypeId) (o:Obj):Held ((w.alloc o).alloc (.cells (e.vals al gr) t)) (w.heap.size+1) 33:=by
 have:=hv_n (w.alloc o) e al gr t
 rwa [show (w.alloc o).heap.size=w.heap.size+1 by simp] at this
theorem hz_n (w:World) (t:TypeId):Held (w.alloc (.cells #[.int .i64 0,.string ⟨#[]⟩,.int .i64 0,.int .i64 0,.int .i64 0,.int .i64 0,.int .i64 0,.int .i64 0,.int .i64 0,.int .i64 0,.int .i64 0,.int .i64 0,.int .i64 0,.int .i64 0,.int .i64 0,.int .i64 0,.bool false,.int .i64 0,.string ⟨#[]⟩,.string ⟨#[]⟩,.int .i64 0,.int .i64 0,.bool false,.slice none 0 0,.int .i64 0,.int .i64 0,.int .i64 0,.bool false,.string ⟨#[]⟩,.string ⟨#[]⟩,.int .i64 0,.int .i64 0,.slice none 0 0] t)) w.heap.size 33:=held_n _ _ _ rfl
theorem hz_a (w:World) (t:TypeId) (o:Obj):Held ((w.alloc (.cells #[.int .i64 0,.string ⟨#[]⟩,.int .i64 0,.int .i64 0,.int .i64 0,.int .i64 0,.int .i64 0,.int .i64 0,.int .i64 0,.int .i64 0,.int .i64 0,.int .i64 0,.int .i64 0,.int .i64 0,.int .i64 0,.int .i64 0,.bool false,.int .i64 0,.string ⟨#[]⟩,.string ⟨#[]⟩,.int .i64 0,.int .i64 0,.bool false,.slice none 0 0,.int .i64 0,.int .i64 0,.int .i64 0,.bool false,.string ⟨#[]⟩,.string ⟨#[]⟩,.int .i64 0,.int .i64 0,.slice none 0 0] t)).alloc o) w.heap.size 33:=held_a _ _ _ _ (hz_n _ _)
theorem hz_b (w:World) (t:TypeId) (o:Obj):Held ((w.alloc o).alloc (.cells #[.int .i64 0,.string ⟨#[]⟩,.int .i64 0,.int .i64 0,.int .i64 0,.int .i64 0,.int .i64 0,.int .i64 0,.int .i64 0,.int .i64 0,.int .i64 0,.int .i64 0,.int .i64 0,.int .i64 0,.int .i64 0,.int .i64 0,.bool false,.int .i64 0,.string ⟨#[]⟩,.string ⟨#[]⟩,.int .i64 0,.int .i64 0,.bool false,.slice none 0 0,.int .i64 0,.int .i64 0,.int .i64 0,.bool false,.string ⟨#[]⟩,.string ⟨#[]⟩,.int .i64 0,.int .i64 0,.slice none 0 0] t)) (w.heap.size+1) 33:=by
 have:=hz_n (w.alloc o) t
 rwa [show (w.alloc o).heap.size=w.heap.size+1 by simp] at this
theorem hm_n (w:World) (t:TypeId):Held (w.alloc (.cells #[.string ⟨#[]⟩,.int .i64 0] t)) w.heap.size 2:=held_m _ _ _ rfl
theorem hm_a (w:World) (t:TypeId) (o:Obj):Held ((w.alloc (.cells #[.string ⟨#[]⟩,.int .i64 0] t)).alloc o) w.heap.size 2:=held_a _ _ _ _ (hm_n _ _)
theorem hm_b (w:World) (t:TypeId) (o:Obj):Held ((w.alloc o).alloc (.cells #[.string ⟨#[]⟩,.int .i64 0] t)) (w.heap.size+1) 2:=by
 have:=hm_n (w.alloc o) t
 rwa [show (w.alloc o).heap.size=w.heap.size+1 by simp] at this
theorem row_p (w:World) (c:Array Value) (p:Nat) (h:Held w p 33):row (w.setRow p c) p=c:=row_setRow h c
theorem row_r (w:World) (c:Array Value) (p:Nat) (h:Held w p 2):row (w.setRow p c) p=c:=row_setRow h c
theorem row_pr (w:World) (c:Array Value) (g p:Nat) (h:Held w g 33) (h2:Held w p 2):row (w.setRow p c) g=row w g:=row_set_ne _ _ _ _ (held_ne h h2 (by decide))
theorem row_rp (w:World) (c:Array Value) (g p:Nat) (h:Held w g 2) (h2:Held w p 33):row (w.setRow p c) g=row w g:=row_set_ne _ _ _ _ (held_ne h h2 (by decide))
theorem row_a33 (w:World) (o:Obj) (g:Nat) (h:Held w g 33):row (w.alloc o) g=row w g:=row_below ((Below.refl _ _).alloc (Nat.le_refl _) o) rfl (by rw[h.1];decide)
end Go.Proofs.YtdfdjfnfmibpjaaGreatDoor
