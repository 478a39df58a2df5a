/- Several texts in one: Ks Bl. -/
import Derived.Test.YtdfdjfnfmibpjaaGreatDoorAcA
import Derived.Maps.OwnSet
import Derived.Maps.Views
import Derived.Maps.OwnOps
import Derived.StringKeys
import Derived.Deep.AppendLies
section
/- A map from texts to truth values of the call's own; an append of elements of several cells as one step of a region. -/
namespace Go.Proofs.YtdfdjfnfmibpjaaGreatDoor
open Go.RowKit
open Go.Maps Go.WideMaps
set_option maxHeartbeats 4000000
set_option maxRecDepth 8000
def KS (w:World) (b n:Nat) (S:ByteArray→Bool):Prop:=∃ D:DataW Unit,w.ownsMap Tryz.prog 9 (plainElem Tryz.prog 4) b n D∧∀ x:ByteArray,D.atKey (.string x.data.toList) (.lit (.bool false))=.lit (.bool (S x))
theorem KS.made (w:World):KS (w.alloc (.map #[] 0)) w.heap.size 0 (fun _=>false) :=
 ⟨.map [],World.ownsMap_made w _ _ _,fun _=>rfl⟩
end Go.Proofs.YtdfdjfnfmibpjaaGreatDoor
end
section
/- Slices of entries, built of entries. -/
namespace Go.Proofs.YtdfdjfnfmibpjaaGreatDoor
open Go.RowKit
set_option maxHeartbeats 8000000
set_option maxRecDepth 8000
theorem foldl_over:∀ (l:List Value) (i:Nat) (zs:Array Value),(l.zipIdx i).foldl (fun (cs:Array Value) (x:Value × Nat)=>cs.setIfInBounds x.2 x.1) zs=over zs i l
 | [],_,_=>rfl
 | v::l,i,zs=>by rw[List.zipIdx_cons,List.foldl_cons,foldl_over l (i+1)];rfl
theorem bldEnt (ev:Operand→Value) (w:World) (dst x t pos af gd) (h3:isAggV (ev x)=true) (h4:(cellsOfV (ev x)).size=33) :
  (execOp ev ⟨dst,.buildSlice 39 1 #[(0,x)],t,pos,af,gd⟩).run Tryz.prog w=.ok (.value (.slice (some ⟨w.heap.size,0,none⟩) 1 1)) (w.alloc (.cells (cellsOfV (ev x)) 27)):=by
 obtain⟨cs,hc⟩:∃ cs,ev x=.agg cs:=by
  unfold isAggV at h3
  split at h3
  · rename_i g h;exact⟨g,h⟩
  · cases h3
 rw[hc,cellsOfV_mk] at h4 ⊢
 go_simp
 have hsz:cs.zipIdx.size=33:=by simp [h4]
 rw[← hsz,← Array.foldl_toList,Array.toList_zipIdx,foldl_over,over_all _ cs (by rw[h4];rfl)]
theorem foldl_overK (k:Nat):∀ (l:List Value) (i:Nat) (zs:Array Value),(l.zipIdx i).foldl (fun (cs:Array Value) (x:Value × Nat)=>cs.setIfInBounds (k+x.2) x.1) zs=over zs (k+i) l
 | [],_,_=>rfl
 | v::l,i,zs=>by rw[List.zipIdx_cons,List.foldl_cons,foldl_overK k l (i+1)];rfl
theorem over_app:∀ (l m:List Value) (i:Nat) (zs:Array Value),over (over zs i l) (i+l.length) m=over zs i (l++m)
 | [],_,_,_=>rfl
 | v::l,m,i,zs=>by
   rw[over,List.cons_append,over,← over_app l m (i+1),List.length_cons,show i+(l.length+1)=i+1+l.length by omega]
theorem bld_two (zs cs ds:Array Value) (hz:zs.size=66) (hc:cs.size=33) (hd:ds.size=33) :
  Array.foldl (fun cs (x:Value × Nat)=>cs.setIfInBounds (33+x.snd) x.fst) (Array.foldl (fun cs (x:Value × Nat)=>cs.setIfInBounds x.snd x.fst) zs cs.zipIdx 0 33) ds.zipIdx 0 33=cs++ds∧(Array.foldl (fun cs (x:Value × Nat)=>cs.setIfInBounds x.snd x.fst) zs cs.zipIdx 0 33).size=66:=by
 have e1:Array.foldl (fun cs (x:Value × Nat)=>cs.setIfInBounds x.snd x.fst) zs cs.zipIdx 0 33=over zs 0 cs.toList:=by
  have hs:cs.zipIdx.size=33:=by simp [hc]
  rw[← hs,← Array.foldl_toList,Array.toList_zipIdx,foldl_over]
 rw[e1]
 refine⟨?_,by rw[over_size];exact hz⟩
 have hs:ds.zipIdx.size=33:=by simp [hd]
 rw[← hs,← Array.foldl_toList,Array.toList_zipIdx]
 rw[hs,foldl_overK 33 ds.toList 0]
 have:=over_app cs.toList ds.toList 0 zs
 rw[Array.length_toList,hc] at this
 rw[show 33+0=0+33 by rfl,this,← Array.toList_append]
 exact over_all _ _ (by rw[hz,Array.size_append,hc,hd])
theorem bldEnt2 (ev:Operand→Value) (w:World) (dst x y t pos af gd) (h3:isAggV (ev x)=true) (h4:(cellsOfV (ev x)).size=33) (h5:isAggV (ev y)=true) (h6:(cellsOfV (ev y)).size=33) :
  (execOp ev ⟨dst,.buildSlice 39 2 #[(0,x),(1,y)],t,pos,af,gd⟩).run Tryz.prog w=.ok (.value (.slice (some ⟨w.heap.size,0,none⟩) 2 2)) (w.alloc (.cells (cellsOfV (ev x)++cellsOfV (ev y)) 27)):=by
 obtain⟨cs,hc⟩:∃ cs,ev x=.agg cs:=by
  unfold isAggV at h3
  split at h3
  · rename_i g h;exact⟨g,h⟩
  · cases h3
 obtain⟨ds,hd⟩:∃ cs,ev y=.agg cs:=by
  unfold isAggV at h5
  split at h5
  · rename_i g h;exact⟨g,h⟩
  · cases h5
 rw[hc,cellsOfV_mk] at h4 ⊢
 rw[hd,cellsOfV_mk] at h6 ⊢
 go_simp
 have hb:=fun zs hz=>bld_two zs cs ds hz h4 h6
 rw[(hb _ rfl).1,(hb _ rfl).2]
 rfl
end Go.Proofs.YtdfdjfnfmibpjaaGreatDoor
end
