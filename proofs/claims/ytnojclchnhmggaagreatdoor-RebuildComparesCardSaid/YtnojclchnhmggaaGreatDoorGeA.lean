/- Contracts of package generation: fold. -/
import Derived.Lib.Bytealg
import Derived.Test.YtnojclchnhmggaaGreatDoorVaG
import Derived.Deep.AppendLies
import Derived.Deep.RegionLaw
import Derived.Laws.EntriesVeiled
section
namespace Go.Proofs.YtnojclchnhmggaaGreatDoor.Ge
def fits (b:Int):List Int->Int->Bool
 | [],m=>decide (b<=m)
 | n::r,m=>if n<=b then false else fits n r m
def at_ (l:List Int) (m:Int) (i:Nat):Bool:=decide (1<=l.getD i 0)&&decide (l.getD i 0<=m)&&(decide (i=0) || decide (l.getD (i - 1) 0<l.getD i 0))
end Go.Proofs.YtnojclchnhmggaaGreatDoor.Ge
end
section
namespace Go.Proofs.YtnojclchnhmggaaGreatDoor.Ge
end Go.Proofs.YtnojclchnhmggaaGreatDoor.Ge
end
namespace Go.Proofs.YtnojclchnhmggaaGreatDoor
section
open Go.RowKit
set_option maxHeartbeats 800000
set_option maxRecDepth 4000
def iv (l:List Int):List Value:=l.map (Value.int .i64)
theorem below1 {w w1:World} {o:Obj} (hb:Below (w.alloc o).heap.size (w.alloc o) w1):Below w.heap.size w w1:=((Below.refl _ _).alloc (Nat.le_refl _) _).trans (hb.mono (by simp))
attribute [local go_sem ↓] ldEnt
attribute [local go_sem] isHead_mk headOf_mk row_new row_new2 row_new2' row_drew row_drewN vals_0 vals_26 vals_size
end
section
open Go.RowKit
set_option maxHeartbeats 800000
set_option maxRecDepth 4000
def NW (w:World) (v:Value) (l:List Int):Prop :=
 ∃ a c,v=.slice a l.length c∧l.length<=c∧((a=none∧l=[]∧c=0)∨∃ b o,a=some ⟨b,o,none⟩∧b<w.heap.size∧∀ j (h:j<l.length),w.cell? ⟨b,o+j,none⟩=some (.int .i64 l[j]))
theorem NW.keep {w w':World} {v:Value} {l:List Int} (h:NW w v l) (hs:w.heap.size<=w'.heap.size) (k:∀ x,v.ownBlock=some x->x<w.heap.size->w'.heap[x]?=w.heap[x]?):NW w' v l:=by
 obtain⟨a,c,rfl,h1,h2⟩:=h
 refine⟨a,c,rfl,h1,?_⟩
 rcases h2 with h2 | ⟨b,o,rfl,hb,hc⟩
 · exact .inl h2
 · exact .inr ⟨b,o,rfl,Nat.lt_of_lt_of_le hb hs,fun j hj=>(World.cell?_of_block (a:=⟨b,o+j,none⟩) (k b rfl hb)).trans (hc j hj)⟩
theorem NW.is {w:World} {v:Value} {l:List Int} (h:NW w v l) (hz:l.length<=1000000):IS w v l:=by
 obtain⟨a,c,rfl,h1,h2⟩:=h
 refine⟨a,c,rfl,hz,fun h0=>?_⟩
 rcases h2 with ⟨_,rfl,_⟩ | ⟨b,o,rfl,hb,hc⟩
 · simp at h0
 · exact⟨b,o,rfl,hb,hc⟩
theorem NW.owns {w:World} {v:Value} {B e:Nat} {l:List Int} {n:Nat} (h:w.ownsRow B e 1 v n (iv l)):NW w v l∧n=l.length∧∀ x,v.ownBlock=some x->B<=x∧x<w.heap.size:=by
 obtain⟨hl,h⟩:=h
 have hn:n=l.length:=by unfold iv at hl;rw[List.length_map] at hl;omega
 subst hn
 rcases h with ⟨rfl,h0⟩ | ⟨g,cap,cur,rfl,hB,hg,hc,_,_,ht⟩
 · refine⟨⟨none,0,by rw[h0],by omega,.inl ⟨rfl,List.eq_nil_of_length_eq_zero h0,rfl⟩⟩,rfl,fun x hx=>by cases hx⟩
 · have hlt:g<w.heap.size:=by
    rcases Nat.lt_or_ge g w.heap.size with h | h
    · exact h
    · rw[Array.getElem?_eq_none h] at hg;cases hg
   refine⟨⟨_,cap,rfl,hc,.inr ⟨g,0,rfl,hlt,fun j hj=>?_⟩⟩,rfl,fun x hx=>by cases hx;exact⟨hB,hlt⟩⟩
   rw[Nat.zero_add,cell_of_row w g j cur e (0,0) hg]
   have:(cur.toList.take (l.length*1))[j]?=(iv l)[j]?:=by rw[ht]
   rw[List.getElem?_take_of_lt (by omega),Array.getElem?_toList] at this
   rw[this];unfold iv
   rw[List.getElem?_map,List.getElem?_eq_getElem hj];rfl
structure FI (w wr:World) (B nb kb:Nat) (cs:Array Value) (now gone:List Int) (nv gv:Value):Prop where
 hE:EB wr w.heap.size cs
 hR:Held wr (w.heap.size+1) 33
 hB:w.heap.size+2<=B
 hBs:B<=wr.heap.size
 hn:wr.cell? ⟨nb,0,none⟩=some nv
 hnf:wr.frozen? ⟨nb,0,none⟩=false
 hk:wr.cell? ⟨kb,0,none⟩=some gv
 hkf:wr.frozen? ⟨kb,0,none⟩=false
 hNB:B<=nb
 hKB:B<=kb
 hne:kb≠nb
 hnow:NW wr nv now
 hgone:wr.ownsRow B 3 1 gv gone.length (iv gone)
 s1:∀ x,nv.ownBlock=some x->B<=x∧x≠nb∧x≠kb∧gv.ownBlock≠some x
 s2:gv.ownBlock≠some nb∧gv.ownBlock≠some kb
 hw:Below w.heap.size w wr
theorem setCell_other {w:World} {a:Addr} {v:Value} {k:Nat} (h:k≠a.block):(w.setCell a v).heap[k]?=w.heap[k]?:=heap_setCell_other w a k v h
theorem owns_keep {w w':World} {B e n:Nat} {v:Value} {xs:List Value} (h:w.ownsRow B e 1 v n xs) (k:∀ x,v.ownBlock=some x->w'.heap[x]?=w.heap[x]?):w'.ownsRow B e 1 v n xs:=by
 refine⟨h.1,?_⟩
 rcases h.2 with h | ⟨g,cap,cur,rfl,h2,h3,h4⟩
 · exact .inl h
 · exact .inr ⟨g,cap,cur,rfl,h2,(k g rfl).trans h3,h4⟩
theorem FI.set {w wr:World} {B nb kb:Nat} {cs:Array Value} {now gone:List Int} {nv gv:Value} (h:FI w wr B nb kb cs now gone nv gv) (o:Nat) (ho:o<cs.size) (v:Value) :
  FI w (wr.setCell ⟨w.heap.size,o,none⟩ v) B nb kb (cs.setIfInBounds o v) now gone nv gv:=by
 have hB:=h.hB
 have kk:∀ x,x≠w.heap.size->(wr.setCell ⟨w.heap.size,o,none⟩ v).heap[x]?=wr.heap[x]?:=fun x hx=>setCell_other hx
 have n1:=h.hNB
 have n2:=h.hKB
 have hg:∀ x,gv.ownBlock=some x->B<=x:=fun x hx=>((NW.owns h.hgone).2.2 x hx).1
 refine⟨h.hE.set o ho v,h.hR.of_block (kk _ (by omega)),hB,by simpa using h.hBs,?_,by simpa using h.hnf,?_,by simpa using h.hkf,n1,n2,h.hne,h.hnow.keep (by simp) (fun x hx _=>kk x (by have:=(h.s1 x hx).1;omega)),owns_keep h.hgone (fun x hx=>kk x (by have:=hg x hx;omega)),h.s1,h.s2,h.hw.setCell (Nat.le_refl _) _⟩
 · exact (World.cell?_of_block (a:=⟨nb,0,none⟩) (kk nb (by omega))).trans h.hn
 · exact (World.cell?_of_block (a:=⟨kb,0,none⟩) (kk kb (by omega))).trans h.hk
theorem FI.alloc {w wr:World} {B nb kb:Nat} {cs:Array Value} {now gone:List Int} {nv gv:Value} (h:FI w wr B nb kb cs now gone nv gv) {w':World} (G:wr.grownBy w' none) :
  FI w w' B nb kb cs now gone nv gv:=by
 have kk:∀ x,x<wr.heap.size->w'.heap[x]?=wr.heap[x]?:=fun x hx=>G.block x hx (by simp)
 have l1:=World.block_lt_of_cell? wr _ h.hn
 have l2:=World.block_lt_of_cell? wr _ h.hk
 simp only at l1 l2
 have hB:=h.hB
 have hBs:=h.hBs
 have hg:∀ x,gv.ownBlock=some x->x<wr.heap.size:=fun x hx=>((NW.owns h.hgone).2.2 x hx).2
 exact⟨h.hE.of_block (kk _ (by omega)) G.size,h.hR.of_block (kk _ (by omega)),hB,Nat.le_trans hBs G.size,(World.cell?_of_block (a:=⟨nb,0,none⟩) (kk nb l1)).trans h.hn,(World.frozen?_of_block (a:=⟨nb,0,none⟩) (kk nb l1)).trans h.hnf,(World.cell?_of_block (a:=⟨kb,0,none⟩) (kk kb l2)).trans h.hk,(World.frozen?_of_block (a:=⟨kb,0,none⟩) (kk kb l2)).trans h.hkf,h.hNB,h.hKB,h.hne,h.hnow.keep G.size (fun x _ hx=>kk x hx),owns_keep h.hgone (fun x hx=>kk x (hg x hx)),h.s1,h.s2,h.hw.trans ⟨G.os,G.tape,G.output,G.size,fun x hx=>kk x (by omega)⟩⟩
theorem FI.put {w wr:World} {B nb kb:Nat} {cs:Array Value} {now gone now':List Int} {nv gv nv':Value} (h:FI w wr B nb kb cs now gone nv gv) (hN:NW wr nv' now') (hs:∀ x,nv'.ownBlock=some x->B<=x∧x≠nb∧x≠kb∧gv.ownBlock≠some x) :
  FI w (wr.setCell ⟨nb,0,none⟩ nv') B nb kb cs now' gone nv' gv:=by
 have kk:∀ x,x≠nb->(wr.setCell ⟨nb,0,none⟩ nv').heap[x]?=wr.heap[x]?:=fun x hx=>setCell_other hx
 have hB:=h.hB
 have hNB:=h.hNB
 exact⟨h.hE.of_block (kk _ (by omega)) (by simp),h.hR.of_block (kk _ (by omega)),hB,by simpa using h.hBs,World.cell?_setCell_same' _ _ _ (by rw[h.hn];rfl),by simpa using h.hnf,(World.cell?_of_block (a:=⟨kb,0,none⟩) (kk kb h.hne)).trans h.hk,by simpa using h.hkf,hNB,h.hKB,h.hne,hN.keep (by simp) (fun x hx _=>kk x (hs x hx).2.1),owns_keep h.hgone (fun x hx=>kk x (fun e=>h.s2.1 (e ▸ hx))),hs,h.s2,h.hw.setCell (by show w.heap.size<=nb;omega) _⟩
theorem FI.app {w wr w':World} {B nb kb:Nat} {cs:Array Value} {now gone:List Int} {nv gv nv':Value} {x:Int} (h:FI w wr B nb kb cs now gone nv gv) (hown:w'.ownsRow wr.heap.size 3 1 nv' (now.length+1) (iv now++iv [x])) (G:wr.grownBy w' none) :
  FI w (w'.setCell ⟨nb,0,none⟩ nv') B nb kb cs (now++[x]) gone nv' gv:=by
 have e:iv now++iv [x]=iv (now++[x]):=by unfold iv;rw[List.map_append]
 rw[e] at hown
 obtain⟨h1,h2,h3⟩:=NW.owns hown
 have l1:=World.block_lt_of_cell? wr _ h.hn
 have l2:=World.block_lt_of_cell? wr _ h.hk
 simp only at l1 l2
 have hg:∀ x,gv.ownBlock=some x->x<wr.heap.size:=fun x hx=>((NW.owns h.hgone).2.2 x hx).2
 exact (h.alloc G).put h1 (fun y hy=>by
  have:=h3 y hy
  have:=h.hBs
  exact⟨by omega,by omega,by omega,fun e=>by have:=hg y e;omega⟩)
end
section
open Go.RowKit
set_option maxHeartbeats 1600000
set_option maxRecDepth 8000
def IB (base:Nat) (w:World) (v:Value) (l:List Int):Prop:=IS w v l∧∀ x,v.ownBlock=some x->base<=x
theorem IB.nil (base:Nat) (w:World):IB base w (.slice none 0 0) []:=⟨IS.nil w,fun _ h=>by cases h⟩
theorem IB.keep {base:Nat} {w w':World} {v:Value} {l:List Int} (h:IB base w v l) (hs:w.heap.size<=w'.heap.size) (k:∀ x,base<=x->x<w.heap.size->w'.heap[x]?=w.heap[x]?):IB base w' v l:=by
 obtain⟨⟨a,c,rfl,h1,h2⟩,h3⟩:=h
 refine⟨⟨a,c,rfl,h1,fun h0=>?_⟩,h3⟩
 obtain⟨b,o,rfl,hb,hc⟩:=h2 h0
 exact⟨b,o,rfl,Nat.lt_of_lt_of_le hb hs,fun j hj=>(World.cell?_of_block (a:=⟨b,o+j,none⟩) (k b (h3 b rfl) hb)).trans (hc j hj)⟩
theorem IB.mono {base base':Nat} {w:World} {v:Value} {l:List Int} (h:IB base w v l) (hb:base'<=base):IB base' w v l:=⟨h.1,fun x hx=>Nat.le_trans hb (h.2 x hx)⟩
def FoldR (F:Int × Int × List Int × List Int) (cs:Int->Array Value) (w:World) (r:Ending) (w':World):Prop :=
 ∃ v1 v2,r=.returned (.tuple #[.agg (if F.1=0 then cs F.2.1 else zcells 0 ⟨#[]⟩),v1,v2,.int .i64 F.1])∧IB w.heap.size w' v1 F.2.2.1∧IB w.heap.size w' v2 F.2.2.2∧Below w.heap.size w w'
theorem FoldR.bad {w w':World} {cs:Int->Array Value} {x:Int} {z:Array Value} (hx:x≠0) (hz:z=zcells 0 ⟨#[]⟩) (B:Below w.heap.size w w'):FoldR (x,0,[],[]) cs w (.returned (.tuple #[.agg z,.slice none 0 0,.slice none 0 0,.int .i64 x])) w' :=
 ⟨_,_,by rw[if_neg hx,hz],IB.nil _ _,IB.nil _ _,B⟩
attribute [local go_sem ↓] ldEnt stEnt stEntRow
attribute [local go_sem] Held_drew isHead_mk headOf_mk cellsOfV_mk isAggV_mk row_new row_new2 row_new2' row_drew row_drewN vals_0 vals_25 vals_26 vals_27 vals_size allOne_nil allOne_cons one_int one_bool one_string one_pointer one_slice
end
end Go.Proofs.YtnojclchnhmggaaGreatDoor
