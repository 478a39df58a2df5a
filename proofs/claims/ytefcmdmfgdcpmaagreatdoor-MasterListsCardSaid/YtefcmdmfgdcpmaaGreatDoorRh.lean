/- Catalogs. -/
import Derived.Test.YtefcmdmfgdcpmaaGreatDoorDcA
import Derived.Test.YtefcmdmfgdcpmaaGreatDoorRg0
set_option maxRecDepth 8000
set_option maxHeartbeats 16000000
namespace Go.Proofs.YtefcmdmfgdcpmaaGreatDoor
open Go.RowKit
theorem zrN{w:World}{g p n m:Nat}(h:Held w g n)(h2:Held w p m)(hn:n≠m):g≠p:=fun e=>by subst e;exact hn (h.1.symm.trans h2.1)
theorem zci(w:World)(o:Obj)(g n:Nat)(h:Held w g n):Held (w.alloc o) g n:=h.below ((Below.refl _ _).alloc (Nat.le_refl _) o)
theorem zhG(w:World)(cs:Array Value)(t:TypeId)(h:cs.size=33):Held (w.alloc (.cells cs t)) w.heap.size 33:=Held.new w cs t _ h (by decide)
theorem zt2(w:World)(cs:Array Value)(t:TypeId)(h:cs.size=2):Held (w.alloc (.cells cs t)) w.heap.size 2:=Held.new w cs t _ h (by decide)
theorem zt3(w:World)(c:Array Value)(g p:Nat)(h:Held w g 2)(h2:Held w p 33):Held (w.setRow p c) g 2:=h.set c (fun e=>absurd e.symm (zrN h h2 (by decide)))
theorem zt4(w:World)(e:En)(al gr:Value)(g p:Nat)(h:Held w g 33):Held (w.setRow p (e.vals al gr)) g 33:=h.set _ (fun _=>zaa _ _ _)
theorem zt5(w:World)(e:En)(al gr:Value)(t:TypeId):Held (w.alloc (.cells (e.vals al gr) t)) w.heap.size 33:=zhG _ _ _ (zaa _ _ _)
theorem zmc(w:World)(t:TypeId):Held (w.alloc (.cells #[.int .i64 0,.string ⟨#[]⟩,.int .i64 0,.int .i64 0,.int .i64 0,.int .i64 0,.int .i64 0,.int .i64 0,.int .i64 0,.int .i64 0,.int .i64 0,.int .i64 0,.int .i64 0,.int .i64 0,.int .i64 0,.int .i64 0,.bool false,.int .i64 0,.string ⟨#[]⟩,.string ⟨#[]⟩,.int .i64 0,.int .i64 0,.bool false,.slice none 0 0,.int .i64 0,.int .i64 0,.int .i64 0,.bool false,.string ⟨#[]⟩,.string ⟨#[]⟩,.int .i64 0,.int .i64 0,.slice none 0 0] t)) w.heap.size 33:=zhG _ _ _ rfl
theorem hz_a(w:World)(t:TypeId)(o:Obj):Held ((w.alloc (.cells #[.int .i64 0,.string ⟨#[]⟩,.int .i64 0,.int .i64 0,.int .i64 0,.int .i64 0,.int .i64 0,.int .i64 0,.int .i64 0,.int .i64 0,.int .i64 0,.int .i64 0,.int .i64 0,.int .i64 0,.int .i64 0,.int .i64 0,.bool false,.int .i64 0,.string ⟨#[]⟩,.string ⟨#[]⟩,.int .i64 0,.int .i64 0,.bool false,.slice none 0 0,.int .i64 0,.int .i64 0,.int .i64 0,.bool false,.string ⟨#[]⟩,.string ⟨#[]⟩,.int .i64 0,.int .i64 0,.slice none 0 0] t)).alloc o) w.heap.size 33:=zci _ _ _ _ (zmc _ _)
theorem hz_b(w:World)(t:TypeId)(o:Obj):Held ((w.alloc o).alloc (.cells #[.int .i64 0,.string ⟨#[]⟩,.int .i64 0,.int .i64 0,.int .i64 0,.int .i64 0,.int .i64 0,.int .i64 0,.int .i64 0,.int .i64 0,.int .i64 0,.int .i64 0,.int .i64 0,.int .i64 0,.int .i64 0,.int .i64 0,.bool false,.int .i64 0,.string ⟨#[]⟩,.string ⟨#[]⟩,.int .i64 0,.int .i64 0,.bool false,.slice none 0 0,.int .i64 0,.int .i64 0,.int .i64 0,.bool false,.string ⟨#[]⟩,.string ⟨#[]⟩,.int .i64 0,.int .i64 0,.slice none 0 0] t)) (w.heap.size+1) 33:=by
 have:=zmc (w.alloc o) t;rwa [show (w.alloc o).heap.size=w.heap.size+1 by simp] at this
theorem zvj(w:World)(t:TypeId):Held (w.alloc (.cells #[.string ⟨#[]⟩,.int .i64 0] t)) w.heap.size 2:=zt2 _ _ _ rfl
theorem hm_a(w:World)(t:TypeId)(o:Obj):Held ((w.alloc (.cells #[.string ⟨#[]⟩,.int .i64 0] t)).alloc o) w.heap.size 2:=zci _ _ _ _ (zvj _ _)
theorem hm_b(w:World)(t:TypeId)(o:Obj):Held ((w.alloc o).alloc (.cells #[.string ⟨#[]⟩,.int .i64 0] t)) (w.heap.size+1) 2:=by
 have:=zvj (w.alloc o) t;rwa [show (w.alloc o).heap.size=w.heap.size+1 by simp] at this
theorem zsP(w:World)(c:Array Value)(p:Nat)(h:Held w p 33):row (w.setRow p c) p=c:=zaQ h c
theorem zsO(w:World)(o:Obj)(g:Nat)(h:Held w g 33):row (w.alloc o) g=row w g:=zaB ((Below.refl _ _).alloc (Nat.le_refl _) o) rfl (by rw[h.1];decide)
section
set_option linter.unusedSimpArgs false
structure DR (wr W:World) (p r:Nat) (x:Fu) (al gr:Value) (t:ByteArray) (st:List UInt8 × Nat):Prop where
 bel:Below wr.heap.size wr W
 p0:wr.heap.size<=p
 rp:row W p=x.1.vals al gr
 hp:Held W p 33
 rr:row W r=#[.string t,.int .i64 st.2]
 is:IS W al x.2.1
 gs:GS W gr x.2.2
 ao:∀ y,al.ownBlock=some y->wr.heap.size<=y
 go:∀ y,gr.ownBlock=some y->wr.heap.size<=y
 tx:Ds.bl t=st.1
theorem DR.below{wr W W':World}{p r:Nat}{x:Fu}{al gr:Value}{t:ByteArray}{st:List UInt8 × Nat}(h:DR wr W p r x al gr t st)(hb:Below W.heap.size W W'):DR wr W' p r x al gr t st :=
 ⟨bt h.bel hb,h.p0,zaB hb h.rp (by rw[zaa];decide),h.hp.below hb,zaB hb h.rr (Nat.zero_lt_succ 1),h.is.below hb,h.gs.below hb,h.ao,h.go,h.tx⟩
def TrR(c0:UInt8)(s:List UInt8)(k:Nat):Prop:=∀ j:Int,0<=j->j<k->Ek.letter j=c0->zqF j s=none
theorem TrR.next{c0:UInt8}{s:List UInt8}{k:Nat}(h:TrR c0 s k)(h2:Ek.letter k=c0->zqF k s=none):TrR c0 s (k+1):=by
 intro j h0 h1 hl;by_cases e:j=k
 · subst e;exact h2 hl
 · exact h j h0 (by omega) hl
theorem TrR.all{s:List UInt8}(h:TrR (s.headD 0) s 5)(hl:32<=s.length∧s.length<=200):zc6 s=none:=by
 rw[zn4 s hl]
 cases hk:zeL (s.headD 0) with
 | none=>rfl
 | some k =>
   simp only
   have:0<=k∧k<5∧Ek.letter k=s.headD 0:=by
    unfold zeL at hk
    (repeat' split at hk) <;> first|(cases hk;rename_i e;exact⟨by decide,by decide,e.symm⟩)|cases hk
   exact h k this.1 this.2.1 this.2.2
attribute [local go_sem ↓] zaV zaW zaz zr0 zsV
attribute [local go_sem] zav zap zal zae zaq zai zaw zao zas zan zaa zaj zaf zaA zax zak zag zar
attribute [local go_sem] zmc hz_a hz_b zvj hm_a hm_b zci zt3
attribute [local go_sem ↓ high] zaW
end
end Go.Proofs.YtefcmdmfgdcpmaaGreatDoor
