/- Contracts of package master: Find. -/
import Derived.Test.YtnojclchnhmggaaGreatDoorChA
import Derived.Test.YtnojclchnhmggaaGreatDoorRh
import Derived.Test.YtnojclchnhmggaaGreatDoorRuC
import Derived.Test.YtnojclchnhmggaaGreatDoorDsW
import Derived.Test.YtnojclchnhmggaaGreatDoorDsR
import Derived.Test.YtnojclchnhmggaaGreatDoorAcA
import Derived.Test.YtnojclchnhmggaaGreatDoorGeA
namespace Go.Proofs.YtnojclchnhmggaaGreatDoor
open Go.RowKit
set_option maxRecDepth 8000
set_option maxHeartbeats 8000000
section
def zF0:Fu:=(En.zero,[],[])
end
section
def EnR (B:Nat) (w':World) (x:Fu) (code:Int) (r:Ending):Prop :=
 ∃ (al gr:Value),r=.returned (.tuple #[.agg (x.1.vals al gr),.int .i64 code])∧IS w' al x.2.1∧GS w' gr x.2.2∧(∀ q,al.ownBlock=some q->B<=q)∧(∀ q,gr.ownBlock=some q->B<=q)
theorem EnR.zero (B:Nat) (w':World) (code:Int):EnR B w' zF0 code (.returned (.tuple #[.agg (zlit 0 ⟨#[]⟩),.int .i64 code])) :=
 ⟨.slice none 0 0,.slice none 0 0,by rw[zlit_eq];rfl,IS.nil _,GS.nil _,(fun _ h=>by cases h),(fun _ h=>by cases h)⟩
theorem EnR.le {B C:Nat} {w':World} {x:Fu} {code:Int} {r:Ending} (h:EnR B w' x code r) (hl:C<=B):EnR C w' x code r:=by
 obtain⟨al,gr,h1,h2,h3,h4,h5⟩:=h
 exact⟨al,gr,h1,h2,h3,fun q hq=>Nat.le_trans hl (h4 q hq),fun q hq=>Nat.le_trans hl (h5 q hq)⟩
theorem EnR.put {B:Nat} {W:World} {x:Fu} {al gr:Value} {code:Int} (hH:Held W B 33) (hI:IS W al x.2.1) (hG:GS W gr x.2.2) (h1:∀ q,al.ownBlock=some q->B<q) (h2:∀ q,gr.ownBlock=some q->B<q) :
  EnR B (W.setRow B (x.1.vals al gr)) x code (.returned (.tuple #[.agg (row (W.setRow B (x.1.vals al gr)) B),.int .i64 code])):=by
 have hk:∀ j,B+1<=j->j<W.heap.size->(W.setRow B (x.1.vals al gr)).heap[j]?=W.heap[j]?:=fun j h1 _=>setRow_block _ _ _ _ (by omega)
 refine⟨al,gr,congrArg (fun z=>Ending.returned (.tuple #[.agg z,.int .i64 code])) (row_setRow hH _),hI.keep (B+1) (fun y hy=>h1 y hy) (by simp) hk,hG.keep (B+1) (fun y hy=>h2 y hy) (by simp) hk,fun q hq=>Nat.le_of_lt (h1 q hq),fun q hq=>Nat.le_of_lt (h2 q hq)⟩
theorem EnR.put0 {B:Nat} {W:World} {code:Int} (hH:Held W B 33):EnR B (W.setRow B (zlit 0 ⟨#[]⟩)) zF0 code (.returned (.tuple #[.agg (row (W.setRow B (zlit 0 ⟨#[]⟩)) B),.int .i64 code])):=by
 rw[zlit_eq]
 exact EnR.put (x:=zF0) hH (IS.nil _) (GS.nil _) (fun _ h=>by cases h) (fun _ h=>by cases h)
theorem Held.grown {w w':World} {p:Option Nat} {g n:Nat} (h:Held w g n) (hg:w.grownBy w' p) (hne:p≠some g):Held w' g n:=by
 obtain⟨t,fr,hb⟩:=held_block h
 have hlt:=(Array.getElem?_eq_some_iff.1 hb).1
 have e:=hg.block g hlt (fun e=>hne e.symm)
 refine⟨?_,h.2.1,fun o=>(World.frozen?_of_block (a:=⟨g,o,none⟩) e).trans (h.2.2 o)⟩
 have:=h.1
 unfold row at this ⊢
 rw[e];exact this
attribute [local go_sem ↓] ldEnt stEnt stEntRow bldEnt
attribute [local go_sem] Held_drew isHead_mk headOf_mk offOf_mk isPtr_mk cellsOfV_mk isAggV_mk row_new row_new2 row_new2' row_drew row_drewN vals_size allOne_nil allOne_cons one_int one_bool one_string one_pointer one_slice one_func vals_0 vals_1
def CatR (w0 w w':World) (p:Nat) (sv:Value) (l:List Rw) (fl cd:Int) (g:(Fu × Int) × Int) (r:Ending):Prop :=
 EnR w.heap.size w' g.1.1 g.1.2 r∧SHs w0 w' p sv l fl cd g.2∧w.grownBy w' (some p)
theorem CatR.put {w0 w W:World} {p:Nat} {sv:Value} {l:List Rw} {fl cd ca c:Int} {x:Fu} {al gr:Value} {code:Int} (hS:SHs w0 w p sv l fl cd ca) (hH:Held W w.heap.size 33) (h3:SHs w0 W p sv l fl cd c) (hG:w.grownBy W (some p)) (hI:IS W al x.2.1) (hg:GS W gr x.2.2) (h1:∀ q,al.ownBlock=some q->w.heap.size<q) (h2:∀ q,gr.ownBlock=some q->w.heap.size<q) :
  CatR w0 w (W.setRow w.heap.size (x.1.vals al gr)) p sv l fl cd ((x,code),c) (.returned (.tuple #[.agg (row (W.setRow w.heap.size (x.1.vals al gr)) w.heap.size),.int .i64 code])):=by
 have hb:Below w.heap.size W (W.setRow w.heap.size (x.1.vals al gr)):=below_setRow (Below.refl _ _) (Nat.le_refl _) _
 exact⟨EnR.put hH hI hg h1 h2,h3.belowB hb hS.pl (fun h b hb=>rws_own_lt hS.r h b hb),grown_bel hG hb⟩
theorem CatR.put0 {w0 w W:World} {p:Nat} {sv:Value} {l:List Rw} {fl cd ca c:Int} {code:Int} (hS:SHs w0 w p sv l fl cd ca) (hH:Held W w.heap.size 33) (h3:SHs w0 W p sv l fl cd c) (hG:w.grownBy W (some p)) :
  CatR w0 w (W.setRow w.heap.size (zlit 0 ⟨#[]⟩)) p sv l fl cd ((zF0,code),c) (.returned (.tuple #[.agg (row (W.setRow w.heap.size (zlit 0 ⟨#[]⟩)) w.heap.size),.int .i64 code])):=by
 rw[zlit_eq]
 exact CatR.put (x:=zF0) hS hH h3 hG (IS.nil _) (GS.nil _) (fun _ h=>by cases h) (fun _ h=>by cases h)
end
section
attribute [local go_sem ↓] ldEnt stEnt stEntRow bldEnt
attribute [local go_sem] Held_drew isHead_mk headOf_mk offOf_mk isPtr_mk cellsOfV_mk isAggV_mk row_new row_new2 row_new2' row_drew row_drewN vals_size allOne_nil allOne_cons one_int one_bool one_string one_pointer one_slice one_func vals_0 vals_1
def RatR (w w':World) (g:Fu × Int) (r:Ending):Prop:=EnR w.heap.size w' g.1 g.2 r∧Below w.heap.size w w'
theorem RatR.put {w W:World} {x:Fu} {al gr:Value} {code:Int} (hH:Held W w.heap.size 33) (hb:Below w.heap.size w W) (hI:IS W al x.2.1) (hg:GS W gr x.2.2) (h1:∀ q,al.ownBlock=some q->w.heap.size<q) (h2:∀ q,gr.ownBlock=some q->w.heap.size<q) :
  RatR w (W.setRow w.heap.size (x.1.vals al gr)) (x,code) (.returned (.tuple #[.agg (row (W.setRow w.heap.size (x.1.vals al gr)) w.heap.size),.int .i64 code])) :=
 ⟨EnR.put hH hI hg h1 h2,below_setRow hb (Nat.le_refl _) _⟩
theorem RatR.put0 {w W:World} {code:Int} (hH:Held W w.heap.size 33) (hb:Below w.heap.size w W) :
  RatR w (W.setRow w.heap.size (zlit 0 ⟨#[]⟩)) (zF0,code) (.returned (.tuple #[.agg (row (W.setRow w.heap.size (zlit 0 ⟨#[]⟩)) w.heap.size),.int .i64 code])) :=
 ⟨EnR.put0 hH,below_setRow hb (Nat.le_refl _) _⟩
end
section
attribute [local go_sem ↓] ldEnt stEnt stEntRow bldEnt
attribute [local go_sem] Held_drew isHead_mk headOf_mk offOf_mk isPtr_mk cellsOfV_mk isAggV_mk row_new row_new2 row_new2' row_drew row_drewN vals_size allOne_nil allOne_cons one_int one_bool one_string one_pointer one_slice one_func vals_0 vals_1
end
section
attribute [local go_sem ↓] ldEnt stEnt stEntRow bldEnt
attribute [local go_sem] Held_drew isHead_mk headOf_mk offOf_mk isPtr_mk cellsOfV_mk isAggV_mk row_new row_new2 row_new2' row_drew row_drewN vals_size allOne_nil allOne_cons one_int one_bool one_string one_pointer one_slice one_func vals_0 vals_1
def En3 (B:Nat) (w':World) (g:Fu × Int × Int) (r:Ending):Prop :=
 ∃ (al gr:Value),r=.returned (.tuple #[.agg (g.1.1.vals al gr),.int .i64 g.2.1,.int .i64 g.2.2])∧IS w' al g.1.2.1∧GS w' gr g.1.2.2∧(∀ q,al.ownBlock=some q->B<=q)∧(∀ q,gr.ownBlock=some q->B<=q)
theorem En3.put {B:Nat} {W:World} {x:Fu} {al gr:Value} {id code:Int} (hH:Held W B 33) (hI:IS W al x.2.1) (hG:GS W gr x.2.2) (h1:∀ q,al.ownBlock=some q->B<q) (h2:∀ q,gr.ownBlock=some q->B<q) :
  En3 B (W.setRow B (x.1.vals al gr)) (x,id,code) (.returned (.tuple #[.agg (row (W.setRow B (x.1.vals al gr)) B),.int .i64 id,.int .i64 code])):=by
 have hk:∀ j,B+1<=j->j<W.heap.size->(W.setRow B (x.1.vals al gr)).heap[j]?=W.heap[j]?:=fun j h1 _=>setRow_block _ _ _ _ (by omega)
 refine⟨al,gr,congrArg (fun z=>Ending.returned (.tuple #[.agg z,.int .i64 id,.int .i64 code])) (row_setRow hH _),hI.keep (B+1) (fun y hy=>h1 y hy) (by simp) hk,hG.keep (B+1) (fun y hy=>h2 y hy) (by simp) hk,fun q hq=>Nat.le_of_lt (h1 q hq),fun q hq=>Nat.le_of_lt (h2 q hq)⟩
theorem En3.put0 {B:Nat} {W:World} {code:Int} (hH:Held W B 33):En3 B (W.setRow B (zlit 0 ⟨#[]⟩)) (zF0,0,code) (.returned (.tuple #[.agg (row (W.setRow B (zlit 0 ⟨#[]⟩)) B),.int .i64 0,.int .i64 code])):=by
 rw[zlit_eq]
 exact En3.put (x:=zF0) hH (IS.nil _) (GS.nil _) (fun _ h=>by cases h) (fun _ h=>by cases h)
theorem En3.le {B C:Nat} {w':World} {g:Fu × Int × Int} {r:Ending} (h:En3 B w' g r) (hl:C<=B):En3 C w' g r:=by
 obtain⟨al,gr,h1,h2,h3,h4,h5⟩:=h
 exact⟨al,gr,h1,h2,h3,fun q hq=>Nat.le_trans hl (h4 q hq),fun q hq=>Nat.le_trans hl (h5 q hq)⟩
end
section
def isIntV:Value->Bool | .int .i64 _=>true | _=>false
theorem isIntV_mk (k:Int):isIntV (.int .i64 k)=true:=rfl
theorem bld_one (zs cs:Array Value) (v:Value) (hz:zs.size=34) (hc:cs.size=33) :
  (Array.foldl (fun cs (x:Value × Nat)=>cs.setIfInBounds x.snd x.fst) zs cs.zipIdx 0 33).setIfInBounds 33 v=cs.push v∧(Array.foldl (fun cs (x:Value × Nat)=>cs.setIfInBounds x.snd x.fst) zs cs.zipIdx 0 33).size=34:=by
 have e1:Array.foldl (fun cs (x:Value × Nat)=>cs.setIfInBounds x.snd x.fst) zs cs.zipIdx 0 33=over zs 0 cs.toList:=by
  have hs:cs.zipIdx.size=33:=by simp [hc]
  rw[<-hs,<-Array.foldl_toList,Array.toList_zipIdx,foldl_over]
 rw[e1]
 refine⟨?_,by rw[over_size];exact hz⟩
 have:=over_app cs.toList [v] 0 zs
 rw[Array.length_toList,hc] at this
 have e2:over (over zs 0 cs.toList) (0+33) [v]=(over zs 0 cs.toList).setIfInBounds 33 v:=rfl
 rw[<-e2,this,<-Array.toList_push]
 exact over_all _ _ (by rw[hz,Array.size_push,hc])
def fc (cs:Array Value) (v:Value):Array Value:=cs.push v
theorem fc_size (cs:Array Value) (v:Value):(fc cs v).size=cs.size+1:=by unfold fc;rw[Array.size_push]
theorem bldFou (ev:Operand->Value) (w:World) (dst x y t pos af gd) (h3:isAggV (ev x)=true) (h4:(cellsOfV (ev x)).size=33) (h5:isIntV (ev y)=true) :
  (execOp ev ⟨dst,.build 149 #[(0,x),(1,y)],t,pos,af,gd⟩).run Tryz.prog w=.ok (.value (.agg (fc (cellsOfV (ev x)) (ev y)))) w:=by
 obtain⟨cs,hc⟩:∃ cs,ev x=.agg cs:=by
  unfold isAggV at h3
  split at h3
  · rename_i g h;exact⟨g,h⟩
  · cases h3
 obtain⟨k,hk⟩:∃ k,ev y=.int .i64 k:=by
  unfold isIntV at h5
  split at h5
  · rename_i g h;exact⟨g,h⟩
  · cases h5
 rw[hc,cellsOfV_mk] at h4 ⊢
 rw[hk]
 unfold fc
 go_simp
 have hb:=fun zs hz=>bld_one zs cs (.int .i64 k) hz h4
 rw[(hb _ rfl).1,(hb _ rfl).2]
 rfl
theorem ldFou (ev:Operand->Value) (w:World) (dst x t pos af gd) (h1:isHead (ev x)=true) (h2:(row w (headOf (ev x))).size=34) :
  (execOp ev ⟨dst,.load 149 x,t,pos,af,gd⟩).run Tryz.prog w=.ok (.value (.agg (row w (headOf (ev x))))) w :=
 exec_load_row ev w _ 33 _ Tryz.underlying149 rfl (by kernel_rfl) dst x t pos af gd h1 h2
theorem stFou (ev:Operand->Value) (w:World) (zs:Array Value) (t:TypeId) (dst x y t' pos af gd) (h0:zs.size=34) (h1:isHead (ev x)=true) (h2:headOf (ev x)=w.heap.size) (h3:isAggV (ev y)=true) (h4:(cellsOfV (ev y)).size=34) (h5:allOne (cellsOfV (ev y)).toList=true) :
  (execOp ev ⟨dst,.store 149 x y,t',pos,af,gd⟩).run Tryz.prog (w.alloc (.cells zs t))=.ok .skip (w.alloc (.cells (cellsOfV (ev y)) t)) :=
 exec_store_new ev w _ 33 (by kernel_rfl) zs t dst x y t' pos af gd h0 h1 h2 h3 h4 h5
theorem stFouRow (ev:Operand->Value) (w:World) (dst x y t' pos af gd) (h1:isHead (ev x)=true) (h2:Held w (headOf (ev x)) 34) (h3:isAggV (ev y)=true) (h4:(cellsOfV (ev y)).size=34) (h5:allOne (cellsOfV (ev y)).toList=true) :
  (execOp ev ⟨dst,.store 149 x y,t',pos,af,gd⟩).run Tryz.prog w=.ok .skip (w.setRow (headOf (ev x)) (cellsOfV (ev y))) :=
 exec_store_row ev w _ 33 (by kernel_rfl) dst x y t' pos af gd h1 h2 h3 h4 h5
def fcells (x:En) (al gr:Value) (id:Int):Array Value:=fc (x.vals al gr) (.int .i64 id)
def FouR (B:Nat) (w':World) (g:Fu × Int × Int) (r:Ending):Prop :=
 ∃ (al gr:Value),r=.returned (.tuple #[.agg (fcells g.1.1 al gr g.2.1),.int .i64 g.2.2])∧IS w' al g.1.2.1∧GS w' gr g.1.2.2∧(∀ q,al.ownBlock=some q->B<=q)∧(∀ q,gr.ownBlock=some q->B<=q)
def FinR (w0 w w':World) (p:Nat) (sv:Value) (l:List Rw) (fl cd:Int) (g:(Fu × Int × Int) × Int) (r:Ending):Prop :=
 FouR w.heap.size w' g.1 r∧SHs w0 w' p sv l fl cd g.2∧w.grownBy w' (some p)
theorem FinR.put {w0 w W:World} {p:Nat} {sv:Value} {l:List Rw} {fl cd ca c:Int} {x:Fu} {al gr:Value} {id code:Int} (hS:SHs w0 w p sv l fl cd ca) (hH:Held W w.heap.size 34) (h3:SHs w0 W p sv l fl cd c) (hG:w.grownBy W (some p)) (hI:IS W al x.2.1) (hg:GS W gr x.2.2) (h1:∀ q,al.ownBlock=some q->w.heap.size<q) (h2:∀ q,gr.ownBlock=some q->w.heap.size<q) :
  FinR w0 w (W.setRow w.heap.size (fcells x.1 al gr id)) p sv l fl cd ((x,id,code),c) (.returned (.tuple #[.agg (row (W.setRow w.heap.size (fcells x.1 al gr id)) w.heap.size),.int .i64 code])):=by
 have hb:Below w.heap.size W (W.setRow w.heap.size (fcells x.1 al gr id)):=below_setRow (Below.refl _ _) (Nat.le_refl _) _
 have hk:∀ j,w.heap.size+1<=j->j<W.heap.size->(W.setRow w.heap.size (fcells x.1 al gr id)).heap[j]?=W.heap[j]?:=fun j h1 _=>setRow_block _ _ _ _ (by omega)
 exact⟨⟨al,gr,congrArg (fun z=>Ending.returned (.tuple #[.agg z,.int .i64 code])) (row_setRow hH _),hI.keep (w.heap.size+1) (fun y hy=>h1 y hy) (by simp) hk,hg.keep (w.heap.size+1) (fun y hy=>h2 y hy) (by simp) hk,fun q hq=>Nat.le_of_lt (h1 q hq),fun q hq=>Nat.le_of_lt (h2 q hq)⟩,h3.belowB hb hS.pl (fun h b hb=>rws_own_lt hS.r h b hb),grown_bel hG hb⟩
def flit:Array Value:=(zlit 0 ⟨#[]⟩).push (.int .i64 0)
theorem flit_eq:flit=fcells zF0.1 (.slice none 0 0) (.slice none 0 0) 0:=by unfold flit fcells fc;rw[zlit_eq];rfl
theorem FinR.put0 {w0 w W:World} {p:Nat} {sv:Value} {l:List Rw} {fl cd ca c:Int} {code:Int} (hS:SHs w0 w p sv l fl cd ca) (hH:Held W w.heap.size 34) (h3:SHs w0 W p sv l fl cd c) (hG:w.grownBy W (some p)) :
  FinR w0 w (W.setRow w.heap.size flit) p sv l fl cd ((zF0,0,code),c) (.returned (.tuple #[.agg (row (W.setRow w.heap.size flit) w.heap.size),.int .i64 code])):=by
 rw[flit_eq]
 exact FinR.put (x:=zF0) hS hH h3 hG (IS.nil _) (GS.nil _) (fun _ h=>by cases h) (fun _ h=>by cases h)
attribute [local go_sem ↓] ldEnt stEnt stEntRow ldFou stFou stFouRow bldFou
attribute [local go_sem] Held_drew isHead_mk headOf_mk offOf_mk isPtr_mk cellsOfV_mk isAggV_mk isIntV_mk row_new row_new2 row_new2' row_drew row_drewN vals_size fc_size allOne_nil allOne_cons one_int one_bool one_string one_pointer one_slice one_func vals_0 vals_1
attribute [local go_sem ↓] ldEntM
end
end Go.Proofs.YtnojclchnhmggaaGreatDoor
