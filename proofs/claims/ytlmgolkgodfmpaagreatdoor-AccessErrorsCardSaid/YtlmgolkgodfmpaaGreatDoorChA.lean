/- Several texts in one: Ta Tb PrA ChA. -/
import Derived.Test.YtlmgolkgodfmpaaGreatDoorAcD
import Derived.Test.YtlmgolkgodfmpaaGreatDoorKs
import Derived.Deep.AppendLies
import Derived.Test.YtlmgolkgodfmpaaGreatDoorSh
import Derived.Test.YtlmgolkgodfmpaaGreatDoorDcA
section
/- TopAccess: the example, and how a level rises. -/
namespace Go.Proofs.YtlmgolkgodfmpaaGreatDoor
open Go.RowKit
set_option maxHeartbeats 4000000
set_option maxRecDepth 8000
def BS (w:World) (a:Option Addr) (n:Nat):Prop:=n≤9223372036854775807∧∀ k,k<n→∃ (b o:Nat) (v:UInt8),a=some ⟨b,o,none⟩∧b<w.heap.size∧w.cell? ⟨b,o+k,none⟩=some (.int .u8 (v.toNat:Nat))
theorem BS.below {w w':World} {a:Option Addr} {n:Nat} (h:BS w a n) (hb:Below w.heap.size w w'):BS w' a n :=
 ⟨h.1,fun k hk=>by
  obtain⟨b,o,v,h1,h2,h3⟩:=h.2 k hk
  exact⟨b,o,v,h1,Nat.lt_of_lt_of_le h2 hb.size,below_cell hb h3⟩⟩
end Go.Proofs.YtlmgolkgodfmpaaGreatDoor
end
section
/- TopAccess: what its loop keeps. -/
namespace Go.Proofs.YtlmgolkgodfmpaaGreatDoor
open Go.RowKit
set_option maxHeartbeats 4000000
set_option maxRecDepth 8000
def GE (wr:World) (ob:Option Nat) (r:Array Value) (x:Ef):Prop :=
 ∃ (a1:Option Addr) (c1:Nat) (a2:Option Addr) (c2:Nat),r=x.e.vals (.slice a1 x.n1 c1) (.slice a2 x.n2 c2)∧x.n1≤9223372036854775807∧x.n2≤12∧x.gs.length=x.n2∧GS wr (.slice a2 x.n2 c2) x.gs∧(0<x.n2→∀ b,(Value.slice a2 x.n2 c2).ownBlock=some b→ob≠some b∧b<wr.heap.size)
theorem GE.keep {w w':World} {ob:Option Nat} {r:Array Value} {x:Ef} (h:GE w ob r x) (hs:w.heap.size≤w'.heap.size) (hk:∀ k,k<w.heap.size→some k≠ob→w'.heap[k]?=w.heap[k]?) (ob':Option Nat) (ho:ob'=ob∨ob'=some w.heap.size):GE w' ob' r x:=by
 obtain⟨a1,c1,a2,c2,h1,h2,h3,h4,h5,h6⟩:=h
 refine⟨a1,c1,a2,c2,h1,h2,h3,h4,?_,fun hp b hb=>?_⟩
 · obtain⟨a,c,e,hz,hc⟩:=h5
   refine⟨a,c,e,hz,fun h0=>?_⟩
   obtain⟨b,o,ha,hlt,hcs⟩:=hc h0
   subst ha
   have hb:=h6 (by omega) b (by rw[e];rfl)
   have q:=fun i=>World.cell?_of_block (w:=w) (w':=w') (a:=⟨b,i,none⟩) (hk b hlt (fun e=>hb.1 e.symm))
   exact⟨b,o,rfl,Nat.lt_of_lt_of_le hlt hs,fun k hk'=>⟨(q _).trans (hcs k hk').1,(q _).trans (hcs k hk').2.1,(q _).trans (hcs k hk').2.2⟩⟩
 · have:=h6 hp b hb
   refine⟨?_,by omega⟩
   rcases ho with rfl | rfl
   · exact this.1
   · intro e;cases e;omega
structure HI (W0 wr:World) (F:Nat→Ef) (k:Nat) (hv:Value) (H:List Ef) (rows:List (Array Value)):Prop where
 own:wr.ownsRow W0.heap.size 27 33 hv k (ec rows)
 len:rows.length=k
 sz:∀ r∈rows,r.size=33
 one:∀ r∈rows,allOne r.toList=true
 up:All2 Rise (lst F k) H
 el:∀ (j:Nat) (r:Array Value) (x:Ef),rows[j]?=some r→H[j]?=some x→GE wr hv.ownBlock r x
 bel:Below W0.heap.size W0 wr
theorem HI.start (W0:World) (F:Nat→Ef):HI W0 W0 F 0 (.slice none 0 0) [] [] :=
 ⟨World.ownsRow_nil W0 _ _ 33,rfl,(fun _ h=>by cases h),(fun _ h=>by cases h),All2.nil,(fun _ _ _ h=>by simp at h),Below.refl _ _⟩
theorem HI.below {W0 wr w':World} {F:Nat→Ef} {k:Nat} {hv:Value} {H:List Ef} {rows:List (Array Value)} (h:HI W0 wr F k hv H rows) (hb:Below wr.heap.size wr w'):HI W0 w' F k hv H rows:=by
 refine⟨own_keep h.own (fun x hx=>hb.block x (own_base h.own x hx).2),h.len,h.sz,h.one,h.up,fun j r x h1 h2=>(h.el j r x h1 h2).keep hb.size (fun k hk _=>hb.block k hk) _ (.inl rfl),h.bel.trans (hb.mono h.bel.size)⟩
theorem HI.snoc {W0 wr w':World} {F:Nat→Ef} {k:Nat} {hv hv':Value} {H:List Ef} {rows:List (Array Value)} {x:Ef} {r:Array Value} (h:HI W0 wr F k hv H rows) (hown:w'.ownsRow W0.heap.size 27 33 hv' (k+1) (ec rows++r.toList)) (hg:wr.grownBy w' hv.ownBlock) (hat:hv'.ownBlock=hv.ownBlock∨hv'.ownBlock=some wr.heap.size)
  (hr:Rise (F k) x) (hz:r.size=33) (h1:allOne r.toList=true) (hge:GE wr hv.ownBlock r x):HI W0 w' F (k+1) hv' (H++[x]) (rows++[r]):=by
 refine⟨?_,by simp [h.len],fun q hq=>?_,fun q hq=>?_,?_,fun j q y hj hy=>?_,?_⟩
 · rw[ec_app,show ec [r]=r.toList from List.append_nil _];exact hown
 · rcases List.mem_append.1 hq with hq | hq
   · exact h.sz q hq
   · rw[List.mem_singleton] at hq;subst hq;exact hz
 · rcases List.mem_append.1 hq with hq | hq
   · exact h.one q hq
   · rw[List.mem_singleton] at hq;subst hq;exact h1
 · rw[lst_succ];exact h.up.snoc hr
 · have hl:=h.up.length
   rw[lst_len] at hl
   have hrl:=h.len
   by_cases hjk:j<k
   · rw[List.getElem?_append_left (by omega)] at hj hy
     exact (h.el j q y hj hy).keep hg.size (fun i hi hne=>hg.block i hi hne) _ hat
   · have hj2:=(List.getElem?_eq_some_iff.1 hj).1
     simp at hj2
     obtain rfl:j=k:=by omega
     rw[List.getElem?_append_right (by omega),hrl,Nat.sub_self] at hj
     rw[List.getElem?_append_right (by omega),← hl,Nat.sub_self] at hy
     simp at hj hy
     subst hj hy
     exact hge.keep hg.size (fun i hi hne=>hg.block i hi hne) _ hat
 · exact h.bel.grown hg h.bel.size (fun q hq=>(own_base h.own q hq).1)
theorem HI.es {W0 wr:World} {F:Nat→Ef} {k:Nat} {hv:Value} {H:List Ef} {rows:List (Array Value)} (h:HI W0 wr F k hv H rows) (hk:k≤1000) :
  ∃ (a:Option Addr) (c:Nat) (G:Nat→Ef),hv=.slice a k c∧ES wr a k G∧lst G k=H∧(∀ j,j<k→(G j).n2≤12):=by
 have hl:=h.up.length
 rw[lst_len] at hl
 obtain⟨a,c,rfl⟩:=owns_sl h.own
 have at_:∀ j (hj:j<k),∃ r,rows[j]?=some r∧GE wr (Value.slice a k c).ownBlock r (H.getD j ⟨En.zero,0,0,[]⟩):=fun j hj=>by
  have h1:rows[j]?=some (rows[j]'(by have:=h.len;omega)):=List.getElem?_eq_getElem _
  have h2:H[j]?=some (H[j]'(by omega)):=List.getElem?_eq_getElem _
  refine⟨_,h1,?_⟩
  rw[List.getD_eq_getElem?_getD,h2]
  exact h.el j _ _ h1 h2
 refine⟨a,c,fun j=>H.getD j ⟨En.zero,0,0,[]⟩,rfl,⟨by omega,fun j hj=>?_⟩,?_,fun j hj=>?_⟩
 · obtain⟨r,h1,a1,c1,a2,c2,h2,h3,h4,h5,h6,-⟩:=at_ j hj
   obtain⟨g,cc,e,-,hlt,hm⟩:=own_mid h.sz h.own j r h1
   injection e with e1
   refine⟨g,0,e1,hlt,a1,c1,a2,c2,?_,h3,Nat.le_trans h4 (by decide),fun _=>⟨h5,h6⟩⟩
   rw[Nat.zero_add,hm,h2]
 · apply List.ext_getElem?
   intro j
   unfold lst
   rw[List.getElem?_map]
   by_cases hj:j<k
   · rw[List.getElem?_range hj,Option.map_some,List.getD_eq_getElem?_getD,List.getElem?_eq_getElem (by omega)];rfl
   · rw[List.getElem?_eq_none (by simp;omega),List.getElem?_eq_none (by omega)];rfl
 · obtain⟨r,h1,a1,c1,a2,c2,h2,h3,h4,h5,h6,-⟩:=at_ j hj
   exact h4
theorem cs_one {X:World} {cs:Array Value} {t:TypeId} {q:Nat} (hq:X.heap.size=q) (hz:cs.size=33):CS (X.alloc (.cells cs t)) 33 (.slice (some ⟨q,0,none⟩) 1 1) 1 cs.toList:=by
 subst hq
 refine⟨_,_,rfl,by simp [hz],fun _=>⟨_,rfl,fun j u hu=>?_⟩⟩
 rw[Addr.add_lit,Nat.zero_add,cell_of_row _ X.heap.size j cs t (0,0) (heap_alloc_new X _)]
 simpa using hu
theorem all1 {cs:Array Value} (h:allOne cs.toList=true):∀ u∈cs.toList,u.oneCell'=true:=fun u hu=>List.all_eq_true.1 (allOne_all _ h) u hu
theorem ES.all {w:World} {a:Option Addr} {n c:Nat} {F:Nat→Ef} (h:ES w a n F) :
  ∃ rows:List (Array Value),CS w 33 (.slice a n c) n (ec rows)∧rows.length=n∧(∀ r∈rows,r.size=33)∧(∀ r∈rows,allOne r.toList=true)∧∀ (k:Nat) (r:Array Value),rows[k]?=some r→∃ b o,a=some ⟨b,o,none⟩∧mid w b (o+k*33)=r∧k<n:=by
 rcases Nat.eq_zero_or_pos n with h0 | h0
 · subst h0
   exact⟨[],⟨a,c,rfl,rfl,fun h=>absurd h (by decide)⟩,rfl,(fun _ h=>by cases h),(fun _ h=>by cases h),fun k r h=>by simp at h⟩
 · obtain⟨b,o,rfl,-⟩:=h.2 0 h0
   refine⟨rowsOf w b o n,h.cells,by unfold rowsOf;simp,h.size b o rfl,h.ones b o rfl,fun k r hr=>?_⟩
   have hk:=(List.getElem?_eq_some_iff.1 hr).1
   unfold rowsOf at hk hr
   simp at hk
   refine⟨b,o,rfl,?_,hk⟩
   rw[List.getElem?_map,List.getElem?_range hk,Option.map_some] at hr
   exact Option.some.inj hr
end Go.Proofs.YtlmgolkgodfmpaaGreatDoor
end
section
/- Contracts of package access: Profiles over the reference's shelf. -/
namespace Go.Proofs.YtlmgolkgodfmpaaGreatDoor
open Go.RowKit
set_option maxHeartbeats 8000000
set_option maxRecDepth 8000
def GJ (base:Nat) (wr:World) (ob:Option Nat) (r:Array Value) (x:Ef):Prop :=
 ∃ (a1:Option Addr) (c1:Nat) (a2:Option Addr) (c2:Nat),r=x.e.vals (.slice a1 x.n1 c1) (.slice a2 x.n2 c2)∧x.n1≤9223372036854775807∧x.n2≤1000∧x.gs.length=x.n2∧GS wr (.slice a2 x.n2 c2) x.gs∧(0<x.n2→∀ b,(Value.slice a2 x.n2 c2).ownBlock=some b→ob≠some b∧base≤b∧b<wr.heap.size)
theorem GJ.keep {base:Nat} {w w':World} {ob:Option Nat} {r:Array Value} {x:Ef} (h:GJ base w ob r x) (hs:w.heap.size≤w'.heap.size) (hk:∀ k,base≤k→k<w.heap.size→some k≠ob→w'.heap[k]?=w.heap[k]?) (ob':Option Nat) (ho:ob'=ob∨ob'=some w.heap.size):GJ base w' ob' r x:=by
 obtain⟨a1,c1,a2,c2,h1,h2,h3,h4,h5,h6⟩:=h
 refine⟨a1,c1,a2,c2,h1,h2,h3,h4,?_,fun hp b hb=>?_⟩
 · obtain⟨a,c,e,hz,hc⟩:=h5
   refine⟨a,c,e,hz,fun h0=>?_⟩
   obtain⟨b,o,ha,hlt,hcs⟩:=hc h0
   subst ha
   have hb:=h6 (by omega) b (by rw[e];rfl)
   have q:=fun i=>World.cell?_of_block (w:=w) (w':=w') (a:=⟨b,i,none⟩) (hk b hb.2.1 hlt (fun e=>hb.1 e.symm))
   exact⟨b,o,rfl,Nat.lt_of_lt_of_le hlt hs,fun k hk'=>⟨(q _).trans (hcs k hk').1,(q _).trans (hcs k hk').2.1,(q _).trans (hcs k hk').2.2⟩⟩
 · have:=h6 hp b hb
   refine⟨?_,this.2.1,by omega⟩
   rcases ho with rfl | rfl
   · exact this.1
   · intro e;cases e;omega
structure HJ (base:Nat) (wr:World) (hv:Value) (H:List Ef) (rows:List (Array Value)):Prop where
 own:wr.ownsRow base 27 33 hv H.length (ec rows)
 len:rows.length=H.length
 sz:∀ r∈rows,r.size=33
 one:∀ r∈rows,allOne r.toList=true
 el:∀ (j:Nat) (r:Array Value) (x:Ef),rows[j]?=some r→H[j]?=some x→GJ base wr hv.ownBlock r x
theorem HJ.start (base:Nat) (wr:World):HJ base wr (.slice none 0 0) [] [] :=
 ⟨World.ownsRow_nil wr _ _ 33,rfl,(fun _ h=>by cases h),(fun _ h=>by cases h),(fun _ _ _ h=>by simp at h)⟩
theorem HJ.keep {base:Nat} {w w':World} {hv:Value} {H:List Ef} {rows:List (Array Value)} (h:HJ base w hv H rows) (hs:w.heap.size≤w'.heap.size) (hk:∀ k,base≤k→k<w.heap.size→w'.heap[k]?=w.heap[k]?):HJ base w' hv H rows :=
 ⟨own_keep h.own (fun x hx=>hk x (own_base h.own x hx).1 (own_base h.own x hx).2),h.len,h.sz,h.one,fun j r x h1 h2=>(h.el j r x h1 h2).keep hs (fun k h1 h2 _=>hk k h1 h2) _ (.inl rfl)⟩
theorem HJ.snoc {base:Nat} {wr w':World} {hv hv':Value} {H:List Ef} {rows:List (Array Value)} {x:Ef} {r:Array Value} (h:HJ base wr hv H rows) (hown:w'.ownsRow base 27 33 hv' (H.length+1) (ec rows++r.toList)) (hg:wr.grownBy w' hv.ownBlock) (hat:hv'.ownBlock=hv.ownBlock∨hv'.ownBlock=some wr.heap.size)
  (hz:r.size=33) (h1:allOne r.toList=true) (hge:GJ base wr hv.ownBlock r x):HJ base w' hv' (H++[x]) (rows++[r]):=by
 refine⟨?_,by simp [h.len],fun q hq=>?_,fun q hq=>?_,fun j q y hj hy=>?_⟩
 · rw[ec_app,show ec [r]=r.toList from List.append_nil _,List.length_append];exact hown
 · rcases List.mem_append.1 hq with hq | hq
   · exact h.sz q hq
   · rw[List.mem_singleton] at hq;subst hq;exact hz
 · rcases List.mem_append.1 hq with hq | hq
   · exact h.one q hq
   · rw[List.mem_singleton] at hq;subst hq;exact h1
 · have hrl:=h.len
   by_cases hjk:j<H.length
   · rw[List.getElem?_append_left (by omega)] at hj hy
     exact (h.el j q y hj hy).keep hg.size (fun i _ hi hne=>hg.block i hi hne) _ hat
   · have hj2:=(List.getElem?_eq_some_iff.1 hj).1
     simp at hj2
     obtain rfl:j=H.length:=by omega
     rw[List.getElem?_append_right (by omega),hrl,Nat.sub_self] at hj
     rw[List.getElem?_append_right (by omega),Nat.sub_self] at hy
     simp at hj hy
     subst hj hy
     exact hge.keep hg.size (fun i _ hi hne=>hg.block i hi hne) _ hat
theorem HJ.es {base:Nat} {wr:World} {hv:Value} {H:List Ef} {rows:List (Array Value)} (h:HJ base wr hv H rows) (hk:H.length≤1000000) :
  ∃ (a:Option Addr) (c:Nat) (G:Nat→Ef),hv=.slice a H.length c∧ES wr a H.length G∧lst G H.length=H∧(∀ j,j<H.length→(G j).n2≤1000):=by
 obtain⟨a,c,rfl⟩:=owns_sl h.own
 have at_:∀ j (hj:j<H.length),∃ r,rows[j]?=some r∧GJ base wr (Value.slice a H.length c).ownBlock r (H.getD j ⟨En.zero,0,0,[]⟩):=fun j hj=>by
  have h1:rows[j]?=some (rows[j]'(by have:=h.len;omega)):=List.getElem?_eq_getElem _
  have h2:H[j]?=some (H[j]'(by omega)):=List.getElem?_eq_getElem _
  refine⟨_,h1,?_⟩
  rw[List.getD_eq_getElem?_getD,h2]
  exact h.el j _ _ h1 h2
 refine⟨a,c,fun j=>H.getD j ⟨En.zero,0,0,[]⟩,rfl,⟨by omega,fun j hj=>?_⟩,?_,fun j hj=>?_⟩
 · obtain⟨r,h1,a1,c1,a2,c2,h2,h3,h4,h5,h6,-⟩:=at_ j hj
   obtain⟨g,cc,e,-,hlt,hm⟩:=own_mid h.sz h.own j r h1
   injection e with e1
   refine⟨g,0,e1,hlt,a1,c1,a2,c2,?_,h3,Nat.le_trans h4 (by decide),fun _=>⟨h5,h6⟩⟩
   rw[Nat.zero_add,hm,h2]
 · apply List.ext_getElem?
   intro j
   unfold lst
   rw[List.getElem?_map]
   by_cases hj:j<H.length
   · rw[List.getElem?_range hj,Option.map_some,List.getD_eq_getElem?_getD,List.getElem?_eq_getElem (by omega)];rfl
   · rw[List.getElem?_eq_none (by simp;omega),List.getElem?_eq_none (by omega)];rfl
 · obtain⟨r,h1,a1,c1,a2,c2,h2,h3,h4,h5,h6,-⟩:=at_ j hj
   exact h4
def toEf (y:Fu):Ef:=⟨y.1,y.2.1.length,y.2.2.length,y.2.2⟩
structure SHs (w0 wr:World) (p:Nat) (sv:Value) (l:List Rw) (fl cd ca:Int):Prop where
 f:SHf wr p sv fl cd ca
 r:RwS wr sv l
 ne:∀ b,sv.ownBlock=some b→b≠p
 p0:w0.heap.size≤p
 pl:p<wr.heap.size
 b:Below w0.heap.size w0 wr
theorem SHs.below {w0 wr w':World} {p:Nat} {sv:Value} {l:List Rw} {fl cd ca:Int} (h:SHs w0 wr p sv l fl cd ca) (hb:Below wr.heap.size wr w'):SHs w0 w' p sv l fl cd ca :=
 ⟨⟨row_below hb h.f.1 (by simp),fun o=>(hb.frozen (p:=⟨p,o,none⟩) h.pl).trans (h.f.2 o)⟩,h.r.below hb,h.ne,h.p0,Nat.lt_of_lt_of_le h.pl hb.size,bt h.b hb⟩
theorem SHs.tick {w0 wr:World} {p:Nat} {sv:Value} {l:List Rw} {fl cd ca:Int} (h:SHs w0 wr p sv l fl cd ca) (c:Int) (q:Nat):SHs w0 ((wr.setCell ⟨p,3,none⟩ (.int .i64 c)).drewN q) p sv l fl cd c∧wr.grownBy ((wr.setCell ⟨p,3,none⟩ (.int .i64 c)).drewN q) (some p):=by
 have hg:wr.grownBy ((wr.setCell ⟨p,3,none⟩ (.int .i64 c)).drewN q) (some p):=by
  have:=grown_setCell wr ⟨p,3,none⟩ (.int .i64 c)
  exact⟨this.os,this.tape,this.output,this.size,this.block⟩
 have hH:Held wr p 4:=⟨by rw[h.f.1];rfl,by decide,h.f.2⟩
 refine⟨⟨⟨?_,fun o=>?_⟩,h.r.keep hg.size (fun b hb hl=>hg.block b hl (fun e=>h.ne b hb (Option.some.inj e))),h.ne,h.p0,?_,?_⟩,hg⟩
 · rw[row_drewN,set_held hH,row_setRow hH,h.f.1];rfl
 · have:=h.f.2 o;simpa using this
 · have:=h.pl;simpa using this
 · exact h.b.trans (grown_below hg h.p0 h.b.size)
theorem grown_tr {a b c:World} {p:Option Nat} (h:a.grownBy b p) (k:b.grownBy c p):a.grownBy c p:=World.grownBy.trans h k
theorem grown_of_below {a b:World} (p:Option Nat) (h:Below a.heap.size a b):a.grownBy b p:=⟨h.os,h.tape,h.output,h.size,fun k hk _=>h.block k hk⟩
def strOf:Value→ByteArray | .string s=>s | _=>⟨#[]⟩
def PrR (w0 w w':World) (p:Nat) (sv:Value) (l:List Rw) (fl cd:Int) (R:List Fu × Int × Int) (r:Ending):Prop :=
 ∃ hv rows,r=.returned (.tuple #[hv,.int .i64 R.2.1])∧HJ w.heap.size w' hv (R.1.map toEf) rows∧SHs w0 w' p sv l fl cd R.2.2∧w.grownBy w' (some p)
theorem HJ.tick {base p:Nat} {w w':World} {hv:Value} {H:List Ef} {rows:List (Array Value)} (h:HJ base w hv H rows) (hg:w.grownBy w' (some p)) (hp:p<base):HJ base w' hv H rows :=
 h.keep hg.size fun k h1 h2=>hg.block k h2 (fun e=>by have:=Option.some.inj e;omega)
theorem first1 (s:ByteArray) (h:0<s.size):(s.extract 0 1).toList=[(Ds.bl s).headD 0]:=by
 rw[show (s.extract 0 1).toList=Ds.bl (s.extract 0 1) from Lib.toList_data _]
 have hl:0<(Ds.bl s).length:=by rw[Ds.bl_length];exact h
 unfold Ds.bl at *
 rw[ByteArray.data_extract,Array.toList_extract]
 cases e:s.data.toList with
 | nil=>rw[e] at hl;simp at hl
 | cons x r=>rfl
theorem meth_next (a : Addr) (n : Nat) (w : World) : (method (n + 1) 45 (.pointer (some a)) "Next").run Tryz.prog w = .ok (308, .pointer (some a)) w := by kernel_rfl
theorem HJ.below {base:Nat} {w w':World} {hv:Value} {H:List Ef} {rows:List (Array Value)} (h:HJ base w hv H rows) (hb:Below w.heap.size w w'):HJ base w' hv H rows :=
 h.keep hb.size fun k _ h2=>hb.block k h2
theorem sh_nextS (p:Nat) (sv:Value) (l:List Rw) (fl cd ca id:Int) (key:ByteArray) (w0 w:World) (h:SHs w0 w p sv l fl cd ca) (h0:0≤ca) (h1:ca<1000000000) :
  Calls Tryz.prog 308 #[.pointer (some ⟨p,0,none⟩),.int .i64 id,.string key] w fun r w'=>r=.returned (nxV fl cd ca (nx id (Ds.bl key) l))∧SHs w0 w' p sv l fl cd (ca+1)∧w.grownBy w' (some p):=by
 refine (sh_next p sv fl cd ca id key l w h.f h.r h.ne h0 h1).mono ?_
 rintro _ w' ⟨rfl,q,rfl⟩
 exact⟨rfl,(h.tick (ca+1) q).1,(h.tick (ca+1) q).2⟩
theorem dec_some (s:ByteArray) (y:Fu) (w:World) (hm:MaxL w) (hT:Tab w) (h:decX (Ds.bl s)=some y) :
  Calls Tryz.prog 45 #[.string s] w fun r w'=>∃ (a1:Option Addr) (c1:Nat) (a2:Option Addr) (c2:Nat),r=.returned (.tuple #[.agg (y.1.vals (.slice a1 y.2.1.length c1) (.slice a2 y.2.2.length c2)),.int .i64 0])∧IS w' (.slice a1 y.2.1.length c1) y.2.1∧GS w' (.slice a2 y.2.2.length c2) y.2.2∧Below w.heap.size w w'∧(∀ q,(Value.slice a1 y.2.1.length c1).ownBlock=some q→w.heap.size≤q)∧(∀ q,(Value.slice a2 y.2.2.length c2).ownBlock=some q→w.heap.size≤q):=by
 refine (en_decodeF s w hm hT).mono ?_
 rintro _ w' ⟨x,al,gr,code,rfl,hI,hG,hb,hc,hf1,hf2⟩
 rcases hc with ⟨h1,rfl⟩ | ⟨h1,-,-⟩
 · obtain rfl:x=y:=Option.some.inj (h1.symm.trans h)
   obtain⟨a1,c1,rfl,-⟩:=id hI
   obtain⟨a2,c2,rfl,-⟩:=id hG
   exact⟨a1,c1,a2,c2,rfl,hI,hG,hb,hf1,hf2⟩
 · rw[h] at h1;cases h1
theorem dec_none (s:ByteArray) (w:World) (hm:MaxL w) (hT:Tab w) (h:decX (Ds.bl s)=none) :
  Calls Tryz.prog 45 #[.string s] w fun r w'=>∃ (a1:Option Addr) (c1:Nat) (a2:Option Addr) (c2:Nat),r=.returned (.tuple #[.agg (En.zero.vals (.slice a1 0 c1) (.slice a2 0 c2)),.int .i64 11])∧IS w' (.slice a1 0 c1) []∧GS w' (.slice a2 0 c2) []∧Below w.heap.size w w':=by
 refine (en_decodeF s w hm hT).mono ?_
 rintro _ w' ⟨x,al,gr,code,rfl,hI,hG,hb,hc,hf1,hf2⟩
 rcases hc with ⟨h1,rfl⟩ | ⟨-,rfl,rfl⟩
 · rw[h] at h1;cases h1
 · obtain⟨a1,c1,rfl,-⟩:=id hI
   obtain⟨a2,c2,rfl,-⟩:=id hG
   exact⟨a1,c1,a2,c2,rfl,hI,hG,hb⟩
def keyZ (k:Int) (s:ByteArray):ByteArray:=⟨(Ek.key k (Ds.bl s)).toArray⟩
theorem keyZ_bl (k:Int) (s:ByteArray):Ds.bl (keyZ k s)=Ek.key k (Ds.bl s):=Ds.bl_mk _
theorem pr_key (k:Int) (s:ByteArray) (w:World):Calls Tryz.prog 14 #[.int .i64 k,.string s] w fun r w'=>r=.returned (.string (keyZ k s))∧Below w.heap.size w w':=by
 refine (en_key k s w).mono ?_
 rintro _ w' ⟨t,rfl,ht,hb⟩
 exact⟨ret_str (Ds.bl_inj (ht.trans (keyZ_bl k s).symm)),hb⟩
theorem keyZ_eq (y:Fu) (k:ByteArray):((keyZ y.1.kind y.1.name).toList==k.toList)=decide (keyX y=Ds.bl k):=by
 rw[tl_beq,Bool.eq_iff_iff,decide_eq_true_eq,decide_eq_true_eq]
 constructor
 · intro h;rw[← h,keyZ_bl];rfl
 · intro h;exact Ds.bl_inj ((keyZ_bl _ _).trans h)
theorem okX_gs (y:Fu) (h:okX y=true):y.2.2.length≤8:=by
 have z:∀ (l2:List Int) (g:List Gr) (e f:En),sameE e f l2 y.2.1 [] y.2.2=true→y.2.2.length≤8:=fun l2 g e f h=>by
  have:=((sameE_eq _ _ _ _ _ _).1 h).2.2
  rw[← this];decide
 unfold okX at h
 split at h
 · unfold okD at h;simp only[Bool.and_eq_true] at h;exact z _ [] _ _ h.2
 split at h
 · unfold okG at h;simp only[Bool.and_eq_true] at h;exact z _ [] _ _ h.2
 split at h
 · unfold okA at h;simp only[Bool.and_eq_true] at h;exact z _ [] _ _ h.2
 split at h
 · unfold okC at h;simp only[Bool.and_eq_true] at h;exact z _ [] _ _ h.2
 split at h
 · unfold okP Vp.prof at h;simp only[Bool.and_eq_true,decide_eq_true_eq] at h;exact h.1.2.2.2.2
 · cases h
theorem gs_own_lt {w:World} {a:Option Addr} {n c:Nat} {l:List Gr} (h:GS w (.slice a n c) l) (h0:0<n) (b:Nat) (hb:(Value.slice a n c).ownBlock=some b):b<w.heap.size:=by
 obtain⟨a',c',e,hz,hc⟩:=h
 injection e with e1 e2 e3
 obtain⟨b',o',ha,hl,-⟩:=hc (by omega)
 rw[e1,ha] at hb
 cases hb;exact hl
theorem rws_own_lt {w:World} {v:Value} {l:List Rw} (h:RwS w v l) (h0:l≠[]) (b:Nat) (hb:v.ownBlock=some b):b<w.heap.size:=by
 obtain⟨a',c',rfl,hz,hc⟩:=h
 obtain⟨b',o',ha,hl,-⟩:=hc (by rcases l with _ | ⟨_,_⟩;exact absurd rfl h0;simp)
 rw[ha] at hb
 cases hb;exact hl
theorem SHs.belowB {B:Nat} {w0 wr w':World} {p:Nat} {sv:Value} {l:List Rw} {fl cd ca:Int} (h:SHs w0 wr p sv l fl cd ca) (hb:Below B wr w') (hp:p<B) (hsv:l≠[]→∀ b,sv.ownBlock=some b→b<B):SHs w0 w' p sv l fl cd ca:=by
 refine⟨⟨?_,fun o=>(hb.frozen (p:=⟨p,o,none⟩) hp).trans (h.f.2 o)⟩,?_,h.ne,h.p0,Nat.lt_of_lt_of_le h.pl hb.size,h.b.trans (hb.mono (by have:=h.p0;omega))⟩
 · have:=h.f.1
   unfold row at *
   rw[hb.block p hp];exact this
 · rcases l with _ | ⟨x,l⟩
   · obtain⟨a,c,h1,h2,-⟩:=h.r
     exact⟨a,c,h1,h2,fun h=>by simp at h⟩
   · exact h.r.keep hb.size fun b hb' _=>hb.block b (hsv (by simp) b hb')
theorem grown_bel {a b c:World} {p:Option Nat} (h:a.grownBy b p) (k:Below a.heap.size b c):a.grownBy c p :=
 ⟨k.os.trans h.os,k.tape.trans h.tape,k.output.trans h.output,Nat.le_trans h.size k.size,fun i hi hne=>(k.block i hi).trans (h.block i hi hne)⟩
theorem p_gt {l:List UInt8} {c:UInt8} (e:l=[c]) (h:80<c):Op.bytesLess l [80]=false∧(l==[80])=false:=by
 subst e
 have h1:¬ c<80:=fun h'=>absurd (UInt8.lt_trans h h') (UInt8.lt_irrefl _)
 have h2:c≠80:=fun e=>by subst e;exact absurd h (UInt8.lt_irrefl _)
 simp [Op.bytesLess,h1,h2]
theorem p_lt {l:List UInt8} {c:UInt8} (e:l=[c]) (h:c<80):Op.bytesLess l [80]=true∧(l==[80])=false:=by
 subst e
 have h2:c≠80:=fun e=>by subst e;exact absurd h (UInt8.lt_irrefl _)
 simp [Op.bytesLess,h,h2]
theorem p_eq {l:List UInt8} (e:l=[80]):Op.bytesLess l [80]=false∧(l==[80])=true:=by
 subst e;simp [Op.bytesLess]
theorem map_own {w:World} {base e size:Nat} {v:Value} {xs:List Value} {l:List Fu} (h:w.ownsRow base e size v (l.map toEf).length xs):w.ownsRow base e size v l.length xs:=by rwa [List.length_map] at h
theorem map_own' {w:World} {base e size:Nat} {v:Value} {xs:List Value} {l:List Fu} (h:w.ownsRow base e size v (l.length+1) xs):w.ownsRow base e size v ((l.map toEf).length+1) xs:=by rwa [List.length_map]
attribute [local go_sem ↓] ldEnt stEnt stEntRow bldEnt
attribute [local go_sem] Held_drew isHead_mk headOf_mk offOf_mk isPtr_mk cellsOfV_mk isAggV_mk row_new row_new2 row_new2' row_drew row_drewN vals_size allOne_nil allOne_cons one_int one_bool one_string one_pointer one_slice one_func vals_0 vals_1
theorem pr_loop (p:Nat) (sv:Value) (l:List Rw) (fl cd ca id:Int) (w0 w:World) (hm:MaxL w0) (hT:Tab w0) (hS:SHs w0 w p sv l fl cd ca) (hc0:0≤ca) (hc1:ca≤1000) (hl:l.length≤1000) (hcd:cd≠0∧cd≠6∨fl≤0) :
  Calls Tryz.prog 36 #[.iface 45 (.pointer (some ⟨p,0,none⟩)),.int .i64 id] w fun r w'=>PrR w0 w w' p sv l fl cd (proF l id fl cd (l.length+1) ca [79,255] []) r:=by
 have hR0:cnt id [79,255] l<l.length+1:=Nat.lt_succ_of_le (cnt_le _ _ _)
 generalize hR:proF l id fl cd (l.length+1) ca [79,255] []=R
 have HR:=Lib.hid hR
 have HR0:=Lib.hid hR0
 have HS:=Lib.hid hS
 clear hR hR0 hS
 go_enter Tryz.func36,Tryz.ntmps36
 go_wp2_with fail
 go_loopw [6,7] (fun ov kv wr=>∃ (f:Nat) (c:Int) (k:ByteArray) (out:List Fu) (rows:List (Array Value)),kv=.string k∧Hid (proF l id fl cd f c (Ds.bl k) out=R)∧Hid (cnt id (Ds.bl k) l<f)∧0≤c∧c+f≤ca+l.length+1∧out.length+f≤l.length+1∧HJ w.heap.size wr ov (out.map toEf) rows∧SHs w0 wr p sv l fl cd c∧w.grownBy wr (some p)) (fun _ kv _=>cnt id (Ds.bl (strOf kv)) l)
 case atStart=>exact⟨l.length+1,ca,_,[],[],rfl,HR,HR0,hc0,by omega,by simp,HJ.start _ _,HS.out,World.grownBy.refl w _⟩
 case round =>
  obtain⟨f,c,k,out,rows,rfl,HP,HC,hc2,hc3,ho,hJ,hS,hG⟩:=hrel
  obtain⟨va,vc,rfl⟩:=owns_sl hJ.own
  rw[List.length_map] at hJ
  have hpl:=HS.out.pl
  obtain⟨g,rfl⟩:∃ g,f=g+1:=⟨f - 1,by have:=HC.out;omega⟩
  have hnx:=sh_nextS p sv l fl cd c id k w0 wr hS hc2 (by omega)
  have hmt:=meth_next ⟨p,0,none⟩
  have HJ1:=Lib.hid hJ
  have HS1:=Lib.hid hS
  have HG1:=Lib.hid hG
  clear hJ hS hG
  have hP:=HP.out
  unfold proF at hP
  by_cases hf:c+1=fl
  · rw[if_pos hf] at hP
    have hcd':cd≠0∧cd≠6:=by rcases hcd with h | h;exact h;omega
    unfold nxV at hnx
    rw[if_pos hf] at hnx
    have HN:=Lib.hid hnx
    have HPP:=Lib.hid hP
    have t1:(cd==6)=false:=by rw[beq_eq_false_iff_ne];exact hcd'.2
    have t2:(cd==0)=false:=by rw[beq_eq_false_iff_ne];exact hcd'.1
    have t3:(cd != 0)=true:=by rw[bne_iff_ne];exact hcd'.1
    clear hnx hP hcd' hf
    go_wp2_with (go_at_call 308;(with_reducible refine HN.out.mono ?_);rintro _ w2 ⟨rfl,s1,s2⟩;have S1:=Lib.hid s1;have S2:=Lib.hid s2;clear s1 s2)
    go_ret2
    exact⟨.slice none 0 0,[],by rw[← HPP.out];rfl,by rw[← HPP.out];exact HJ.start _ _,by rw[← HPP.out];exact S1.out,grown_tr HG1.out S2.out⟩
  rw[if_neg hf] at hP
  unfold nxV at hnx
  rw[if_neg hf] at hnx
  clear hf
  cases hx:nx id (Ds.bl k) l with
  | none =>
    rw[hx] at hP hnx
    have HN:=Lib.hid hnx
    have HPP:=Lib.hid hP
    clear hnx hP hx
    go_wp2_with (go_at_call 308;(with_reducible refine HN.out.mono ?_);rintro _ w2 ⟨rfl,s1,s2⟩;have S1:=Lib.hid s1;have S2:=Lib.hid s2;clear s1 s2)
    go_ret2
    exact⟨.slice va out.length vc,rows,by rw[← HPP.out];rfl,by rw[← HPP.out];exact HJ1.out.tick S2.out hpl,by rw[← HPP.out];exact S1.out,grown_tr HG1.out S2.out⟩
  | some x =>
    rw[hx] at hP hnx
    obtain⟨-,-,hx3⟩:=nx_some hx
    have hcn:=cnt_lt hx
    obtain⟨xi,xk,xr⟩:=x
    simp only at hP hnx hx3 hcn
    have hpos:1≤xk.size:=by
     rcases Nat.eq_zero_or_pos xk.size with h | h
     · have:Ds.bl xk=[]:=List.eq_nil_of_length_eq_zero (by rw[Ds.bl_length];exact h)
       rw[this,ltB_nil] at hx3;cases hx3
     · exact h
    have e1:=first1 xk hpos
    have HN:=Lib.hid hnx
    have HCM:=Lib.hid hcn
    have HCN:Hid (cnt id (Ds.bl xk) l<g):=Lib.hid (by have:=HC.out;omega)
    clear hnx hx hx3 hcn
    by_cases h80:80<(Ds.bl xk).headD 0
    · rw[if_pos h80] at hP
      have HPP:=Lib.hid hP
      have q1:=p_gt e1 h80
      clear hP h80 e1
      go_wp2_with (go_at_call 308;(with_reducible refine HN.out.mono ?_);rintro _ w2 ⟨rfl,s1,s2⟩;have S1:=Lib.hid s1;have S2:=Lib.hid s2;clear s1 s2)
      go_ret2
      exact⟨.slice va out.length vc,rows,by rw[← HPP.out];rfl,by rw[← HPP.out];exact HJ1.out.tick S2.out hpl,by rw[← HPP.out];exact S1.out,grown_tr HG1.out S2.out⟩
    rw[if_neg h80] at hP
    by_cases h8:(Ds.bl xk).headD 0<80
    · rw[if_pos h8] at hP
      have HPP:=Lib.hid hP
      have q1:=p_lt e1 h8
      clear hP h80 h8 e1
      go_wp2_with (go_at_call 308;(with_reducible refine HN.out.mono ?_);rintro _ w2 ⟨rfl,s1,s2⟩;have S1:=Lib.hid s1;have S2:=Lib.hid s2;clear s1 s2)
      go_roundw
      case rel=>exact⟨g,c+1,xk,out,rows,rfl,HPP,HCN,by omega,by omega,by omega,HJ1.out.tick S2.out hpl,S1.out,grown_tr HG1.out S2.out⟩
      case measure=>exact HCM.out
    rw[if_neg h8] at hP
    have e2:(xk.extract 0 1).toList=[80]:=by
     rw[e1]
     rcases Ds.u8_tri 80 ((Ds.bl xk).headD 0) with h | h | h
     · exact absurd h h80
     · rw[← h]
     · exact absurd h h8
    have q1:=p_eq e2
    clear e1 e2 h80 h8
    cases hdx:decX (Ds.bl xr) with
    | none =>
      rw[hdx] at hP
      have HPP:=Lib.hid hP
      have HD:=Lib.hid (fun W (b:Below w0.heap.size w0 W)=>dec_none xr W (hm.below b) (hT.below b) hdx)
      clear hP hdx
      go_wp2_with (first
       | (go_at_call 308;(with_reducible refine HN.out.mono ?_);rintro _ w2 ⟨rfl,s1,s2⟩;have S1:=Lib.hid s1;have S2:=Lib.hid s2;clear s1 s2)
       | (go_at_call 45;(refine (HD.out _ S1.out.b).mono ?_);rintro _ w3 ⟨a1,c1,a2,c2,rfl,hI,hGs,hb3⟩;have hone:=vals_one En.zero (.slice a1 0 c1) (.slice a2 0 c2) rfl rfl;have B3:=Lib.hid hb3;clear hI hGs hb3))
      go_ret2
      have B4:Below w2.heap.size w2 (w3.alloc (.cells (En.zero.vals (.slice a1 0 c1) (.slice a2 0 c2)) 27)):=bt B3.out ((Below.refl _ _).alloc (Nat.le_refl _) _)
      exact⟨.slice none 0 0,[],by rw[← HPP.out];rfl,by rw[← HPP.out];exact HJ.start _ _,by rw[← HPP.out];exact S1.out.below B4,grown_tr (grown_tr HG1.out S2.out) (grown_of_below _ B4)⟩
    | some y =>
      rw[hdx] at hP
      simp only at hP
      have hky:=keyZ_eq y xk
      have hg8:=okX_gs y (decX_sound _ _ hdx).1
      have HD:=Lib.hid (fun W (b:Below w0.heap.size w0 W)=>dec_some xr y W (hm.below b) (hT.below b) hdx)
      have HK:=Lib.hid (fun W=>pr_key y.1.kind y.1.name W)
      clear hdx
      by_cases hk:keyX y=Ds.bl xk
      · rw[if_pos hk] at hP
        rw[decide_eq_true hk] at hky
        have HPP:=Lib.hid hP
        clear hP hk
        generalize keyZ y.1.kind y.1.name=kz at hky HK
        go_wp2_with (first
         | (go_at_call 308;(with_reducible refine HN.out.mono ?_);rintro _ w2 ⟨rfl,s1,s2⟩;have S1:=Lib.hid s1;have S2:=Lib.hid s2;clear s1 s2)
         | (go_at_call 45;(refine (HD.out _ S1.out.b).mono ?_);rintro _ w3 ⟨a1,c1,a2,c2,rfl,hI,hGs,hb3,hf1,hf2⟩;have hone:=vals_one y.1 (.slice a1 y.2.1.length c1) (.slice a2 y.2.2.length c2) rfl rfl;have B3:=Lib.hid hb3;have HI:=Lib.hid hI;have HGS:=Lib.hid hGs;have HF2:=Lib.hid hf2;clear hI hGs hb3 hf1 hf2;have R0:=row_new w3 (y.1.vals (.slice a1 y.2.1.length c1) (.slice a2 y.2.2.length c2)) 27 (0,0);have N0:=cell_row R0 0 _ (vals_0 _ _ _);have N1:=cell_row R0 1 _ (vals_1 _ _ _))
         | (go_at_call 14;(with_reducible refine (HK.out _).mono ?_);rintro _ w4 ⟨rfl,hb4⟩;have R4:=row_below hb4 R0 (by rw[vals_size];decide);have B24:=Lib.hid (bt B3.out (below1 hb4));have GS4:=Lib.hid (HGS.out.below (below1 hb4));have HJ4:=Lib.hid ((HJ1.out.tick S2.out hpl).below B24.out);have HJ5:=Lib.hid (HJ4.out.below (below_al' w4 (.cells (y.1.vals (.slice a1 y.2.1.length c1) (.slice a2 y.2.2.length c2)) 27)));have z24:=B24.out.size;have z2:=(grown_tr HG1.out S2.out).size;clear hb4)
         | (at_builtin;refine wp_appX _ rfl (.tmp 55) (.tmp 57) 39 27 _ _ 33 336 rfl Tryz.underlying39 en_i en_i0 en_i1 en_i2 (vals_size _ _ _) (by decide) w.heap.size (.slice va out.length vc) (.slice (some ⟨w4.heap.size,0,none⟩) 1 1) out.length 1 (ec rows) ((y.1.vals (.slice a1 y.2.1.length c1) (.slice a2 y.2.2.length c2))).toList rfl (map_own HJ5.out.own) rfl (cs_one rfl (vals_size _ _ _)) (all1 hone) (by unfold maxLen;omega) (by omega) (by simp;omega) ?_;intro a5 c5 w5 hown hg hat;have HOWN:=Lib.hid hown;have HGR:=Lib.hid hg;have HAT:=Lib.hid hat;clear hown hg hat))
        have hge:GJ w.heap.size (w4.alloc (.cells (y.1.vals (.slice a1 y.2.1.length c1) (.slice a2 y.2.2.length c2)) 27)) (Value.slice va out.length vc).ownBlock (y.1.vals (.slice a1 y.2.1.length c1) (.slice a2 y.2.2.length c2)) (toEf y):=by
         refine⟨a1,c1,a2,c2,rfl,?_,Nat.le_trans hg8 (by decide),rfl,GS4.out.below (below_al' _ _),fun h0 b hb=>⟨fun e=>?_,?_,?_⟩⟩
         · obtain⟨_,_,e,hz,-⟩:=HI.out
           show y.2.1.length≤_
           omega
         · have h1:=(own_base (HJ1.out.tick S2.out hpl).own b e).2
           have h2:=HF2.out b hb
           omega
         · have h2:=HF2.out b hb
           omega
         · have h3:=gs_own_lt GS4.out h0 b hb
           simp;omega
        have hJ6:=HJ5.out.snoc (x:=toEf y) (map_own' HOWN.out) HGR.out HAT.out (vals_size _ _ _) hone hge
        have B5:Below w.heap.size (w4.alloc (.cells (y.1.vals (.slice a1 y.2.1.length c1) (.slice a2 y.2.2.length c2)) 27)) w5:=grown_keep HGR.out (fun q hq=>(own_base HJ5.out.own q hq).1) (by simp;omega)
        have B2a:Below w2.heap.size w2 (w4.alloc (.cells (y.1.vals (.slice a1 y.2.1.length c1) (.slice a2 y.2.2.length c2)) 27)):=bt B24.out (below_al' _ _)
        have hS6:=(S1.out.below B2a).belowB B5 hpl (fun h b hb=>rws_own_lt HS.out.r h b hb)
        have hG6:=grown_bel (grown_tr (grown_tr HG1.out S2.out) (grown_of_below _ B2a)) B5
        have HJ6:=Lib.hid hJ6
        have HS6:=Lib.hid hS6
        have HG6:=Lib.hid hG6
        clear hge hJ6 hS6 hG6 B5 B2a
        go_roundw
        case rel=>exact⟨g,c+1,xk,out++[y],_,rfl,HPP,HCN,by omega,by omega,by rw[List.length_append,List.length_singleton];omega,by rw[List.map_append];exact HJ6.out,HS6.out,HG6.out⟩
        case measure=>exact HCM.out
      · rw[if_neg hk] at hP
        rw[decide_eq_false hk] at hky
        have HPP:=Lib.hid hP
        clear hP hk
        generalize keyZ y.1.kind y.1.name=kz at hky HK
        go_wp2_with (first
         | (go_at_call 308;(with_reducible refine HN.out.mono ?_);rintro _ w2 ⟨rfl,s1,s2⟩;have S1:=Lib.hid s1;have S2:=Lib.hid s2;clear s1 s2)
         | (go_at_call 45;(refine (HD.out _ S1.out.b).mono ?_);rintro _ w3 ⟨a1,c1,a2,c2,rfl,hI,hGs,hb3,hf1,hf2⟩;have hone:=vals_one y.1 (.slice a1 y.2.1.length c1) (.slice a2 y.2.2.length c2) rfl rfl;have B3:=Lib.hid hb3;clear hI hGs hb3 hf1 hf2;have R0:=row_new w3 (y.1.vals (.slice a1 y.2.1.length c1) (.slice a2 y.2.2.length c2)) 27 (0,0);have N0:=cell_row R0 0 _ (vals_0 _ _ _);have N1:=cell_row R0 1 _ (vals_1 _ _ _))
         | (go_at_call 14;(with_reducible refine (HK.out _).mono ?_);rintro _ w4 ⟨rfl,hb4⟩;have B24:=Lib.hid (bt B3.out (below1 hb4));clear hb4))
        go_ret2
        exact⟨.slice none 0 0,[],by rw[← HPP.out];rfl,by rw[← HPP.out];exact HJ.start _ _,by rw[← HPP.out];exact S1.out.below B24.out,grown_tr (grown_tr HG1.out S2.out) (grown_of_below _ B24.out)⟩
end Go.Proofs.YtlmgolkgodfmpaaGreatDoor
end
section
/- Contracts of package access: Check over the reference's shelf. -/
namespace Go.Proofs.YtlmgolkgodfmpaaGreatDoor
open Go.RowKit
set_option maxHeartbeats 8000000
set_option maxRecDepth 8000
theorem proF_ok (l:List Rw) (id fl cd:Int):∀ (f:Nat) (ca:Int) (k:List UInt8) (out:List Fu),(∀ y∈out,okX y=true)→∀ y∈(proF l id fl cd f ca k out).1,okX y=true
 | 0,_,_,out,h=>h
 | f+1,ca,k,out,h=>by
   rw[proF]
   split
   · intro y hy;cases hy
   split
   · exact h
   split
   · exact h
   split
   · exact proF_ok l id fl cd f _ _ _ h
   split
   · intro y hy;cases hy
   rename_i y hd
   split
   · refine proF_ok l id fl cd f _ _ _ (fun z hz=>?_)
     rcases List.mem_append.1 hz with hz | hz
     · exact h z hz
     · rw[List.mem_singleton] at hz;subst hz;exact (decX_sound _ _ hd).1
   · intro y hy;cases hy
theorem proF_len (l:List Rw) (id fl cd:Int):∀ (f:Nat) (ca:Int) (k:List UInt8) (out:List Fu),(proF l id fl cd f ca k out).1.length≤out.length+f
 | 0,_,_,out=>Nat.le_add_right _ _
 | f+1,ca,k,out=>by
   rw[proF]
   split
   · simp
   split
   · show out.length≤_
     omega
   split
   · show out.length≤_
     omega
   split
   · exact Nat.le_trans (proF_len l id fl cd f (ca+1) _ out) (by omega)
   split
   · simp
   split
   · refine Nat.le_trans (proF_len l id fl cd f (ca+1) _ (out++[_])) ?_
     rw[List.length_append,List.length_singleton]
     omega
   · simp
theorem SS.keep {w w':World} {v:Value} {l:List ByteArray} (h:SS w v l) (hs:w.heap.size≤w'.heap.size) (hk:l≠[]→∀ b,v.ownBlock=some b→b<w.heap.size→w'.heap[b]?=w.heap[b]?):SS w' v l:=by
 obtain⟨a,c,h1,h2,h3⟩:=h
 refine⟨a,c,h1,h2,fun h0=>?_⟩
 obtain⟨b,o,ha,hlt,hc⟩:=h3 h0
 subst ha
 have q:=fun i=>World.cell?_of_block (w:=w) (w':=w') (a:=⟨b,i,none⟩) (hk (List.ne_nil_of_length_pos h0) b (by rw[h1];rfl) hlt)
 exact⟨b,o,rfl,Nat.lt_of_lt_of_le hlt hs,fun k hk=>(q _).trans (hc k hk)⟩
def chkF (l:List Rw) (id fl cd ca:Int) (u:ByteArray) (gl:List ByteArray) (name:ByteArray) (need:Int):Int × Int :=
 if Ds.name (Ds.bl name)=false∨need<0∨3<need then (1,ca) else if need=0 then (0,ca) else
 let R:=proF l id fl cd (l.length+1) ca [79,255] []
 (if R.2.1≠0 then R.2.1 else if lvl (R.1.map toEf) u gl name<need then 17 else 0,R.2.2)
theorem chk_bd {out:List Fu} {G:Nat→Ef} (hok:∀ y∈out,okX y=true) (hl:lst G (out.map toEf).length=out.map toEf) (h2:∀ j,j<(out.map toEf).length→(G j).n2≤1000):∀ k,k<(out.map toEf).length→(G k).e.name.size≤60∧(G k).n2≤1000:=by
 intro k hk
 refine⟨?_,h2 k hk⟩
 have e:=congrArg (fun l=>l[k]?) hl
 simp only[lst] at e
 rw[List.getElem?_map,List.getElem?_range hk,Option.map_some,List.getElem?_map] at e
 have hk':k<out.length:=by rwa [List.length_map] at hk
 rw[List.getElem?_eq_getElem hk',Option.map_some] at e
 rw[Option.some.inj e]
 have:=(okX_name _ (hok _ (List.getElem_mem hk'))).1
 rw[Ds.bl_length] at this
 show (toEf out[k]).e.name.size≤60
 unfold toEf
 simp only
 omega
theorem SHs.sub {w0 w:World} {p:Nat} {sv:Value} {l:List Rw} {fl cd ca:Int} (h:SHs w0 w p sv l fl cd ca):Below w0.heap.size w0 w:=h.b
theorem ac_check (p:Nat) (sv:Value) (l:List Rw) (fl cd ca id:Int) (u:ByteArray) (gv:Value) (gl:List ByteArray) (name:ByteArray) (need:Int) (w0 w:World) (hm:MaxL w0) (hT:Tab w0) (hS:SHs w0 w p sv l fl cd ca) (hc0:0≤ca) (hc1:ca≤1000) (hl:l.length≤900) (hcd:cd≠0∧cd≠6∨fl≤0) (hgl:SS w gv gl) (hgp:gl≠[]→∀ b,gv.ownBlock=some b→b≠p) :
  Calls Tryz.prog 39 #[.iface 45 (.pointer (some ⟨p,0,none⟩)),.int .i64 id,.string u,gv,.string name,.int .i64 need] w fun r w'=>r=.returned (.int .i64 (chkF l id fl cd ca u gl name need).1)∧SHs w0 w' p sv l fl cd (chkF l id fl cd ca u gl name need).2∧w.grownBy w' (some p):=by
 have HV:=Lib.hid (fun W (b:Below w0.heap.size w0 W)=>ds_valid name W (hm.below b))
 generalize hR:chkF l id fl cd ca u gl name need=R
 unfold chkF at hR
 have B0:=hS.b
 have HS:=Lib.hid hS
 have fin:∀ W,Below w.heap.size w W→SHs w0 W p sv l fl cd ca∧w.grownBy W (some p):=fun W b=>⟨hS.below b,grown_of_below _ b⟩
 have FIN:=Lib.hid fin
 clear hS fin
 cases hn:Ds.name (Ds.bl name)
 · rw[if_pos (Or.inl hn)] at hR
   have HV1:=HV.out
   rw[hn] at HV1
   have HV2:=Lib.hid HV1
   subst hR
   clear HV HV1 hn
   go_enter Tryz.func39,Tryz.ntmps39
   go_wp2_with (go_at_call 42;(with_reducible refine (HV2.out _ B0).mono ?_);rintro _ w2 ⟨rfl,hb⟩)
   go_ret
   exact⟨rfl,FIN.out _ hb⟩
 have HV1:=HV.out
 rw[hn] at HV1
 have HV2:=Lib.hid HV1
 clear HV HV1
 by_cases h1:need<0
 · rw[if_pos (Or.inr (Or.inl h1))] at hR
   subst hR
   clear hn
   go_enter Tryz.func39,Tryz.ntmps39
   go_wp2_with (go_at_call 42;(with_reducible refine (HV2.out _ B0).mono ?_);rintro _ w2 ⟨rfl,hb⟩)
   go_ret
   exact⟨rfl,FIN.out _ hb⟩
 by_cases h2:3<need
 · rw[if_pos (Or.inr (Or.inr h2))] at hR
   subst hR
   clear hn
   go_enter Tryz.func39,Tryz.ntmps39
   go_wp2_with (go_at_call 42;(with_reducible refine (HV2.out _ B0).mono ?_);rintro _ w2 ⟨rfl,hb⟩)
   go_ret
   exact⟨rfl,FIN.out _ hb⟩
 rw[if_neg (by rw[hn];simp;omega)] at hR
 clear hn
 by_cases h3:need=0
 · rw[if_pos h3] at hR
   subst hR h3
   go_enter Tryz.func39,Tryz.ntmps39
   go_wp2_with (go_at_call 42;(with_reducible refine (HV2.out _ B0).mono ?_);rintro _ w2 ⟨rfl,hb⟩)
   go_ret
   exact⟨rfl,FIN.out _ hb⟩
 rw[if_neg h3] at hR
 have q3:(need==0)=false:=by rw[beq_eq_false_iff_ne];exact h3
 have q1:decide (need<0)=false:=decide_eq_false h1
 have q2:decide (3<need)=false:=decide_eq_false h2
 have hpr:=fun W (s:SHs w0 W p sv l fl cd ca)=>pr_loop p sv l fl cd ca id w0 W hm hT s hc0 hc1 (by omega) hcd
 have hok:=proF_ok l id fl cd (l.length+1) ca [79,255] [] (fun y h=>by cases h)
 have hlen:=proF_len l id fl cd (l.length+1) ca [79,255] []
 simp only at hR
 generalize proF l id fl cd (l.length+1) ca [79,255] []=P at hR hpr hok hlen
 obtain⟨out,code,c2⟩:=P
 simp only at hR hok hlen
 rw[List.length_nil] at hlen
 have HP:=Lib.hid hpr
 have HOK:=Lib.hid hok
 have HGL:=Lib.hid hgl
 have HGP:=Lib.hid hgp
 clear hpr hok hgl hgp h3
 by_cases h4:code=0
 · rw[if_neg (by simp [h4])] at hR
   have q4:(code != 0)=false:=by rw[h4];rfl
   have HC:=Lib.hid h4
   have HR:=Lib.hid hR
   clear hR
   go_enter Tryz.func39,Tryz.ntmps39
   go_wp2_with (first
    | (go_at_call 42;(with_reducible refine (HV2.out _ B0).mono ?_);rintro _ w2 ⟨rfl,hb⟩;obtain⟨s1,s2⟩:=FIN.out _ hb;have S1:=Lib.hid s1;have S2:=Lib.hid s2;clear s1 s2 hb)
    | (go_at_call 36;(refine (HP.out _ S1.out).mono ?_);rintro _ w3 ⟨hv,rows,rfl,hJ,hS3,hG3⟩;dsimp only at hJ hS3;obtain⟨a,cc,G,rfl,hES,hlst,hn2⟩:=hJ.es (by rw[List.length_map];omega);have hbd:=chk_bd HOK.out hlst hn2;rw[List.length_map] at hES hlst hbd;have S3:=Lib.hid hS3;have G3:=Lib.hid (grown_tr S2.out hG3);have LV:=Lib.hid (fun W (b:Below w3.heap.size w3 W)=>ac_level a out.length cc G u name gv gl W (hm.below (bt hS3.b b)) (hES.below b) (by omega) hbd ((HGL.out.keep G3.out.size (fun h0 b hb hl=>G3.out.block b hl (fun e=>HGP.out h0 b hb (Option.some.inj e)))).below b));rw[hlst] at LV;clear hJ hS3 hG3 hES hlst hn2 hbd)
    | (go_at_call 97;(with_reducible refine (LV.out _ (Below.refl _ _)).mono ?_);rintro _ w4 ⟨rfl,hb4⟩))
   all_goals
    go_ret
    exact⟨by rw[← HR.out];first | (rw[if_pos (by omega)];rfl) | (rw[if_neg (by omega)];rfl),by rw[← HR.out];exact S3.out.below hb4,grown_tr G3.out (grown_of_below _ hb4)⟩
 · rw[if_pos h4] at hR
   have q4:(code != 0)=true:=by rw[bne_iff_ne];exact h4
   subst hR
   go_enter Tryz.func39,Tryz.ntmps39
   go_wp2_with (first
    | (go_at_call 42;(with_reducible refine (HV2.out _ B0).mono ?_);rintro _ w2 ⟨rfl,hb⟩;obtain⟨s1,s2⟩:=FIN.out _ hb;have S1:=Lib.hid s1;have S2:=Lib.hid s2;clear s1 s2 hb)
    | (go_at_call 36;(refine (HP.out _ S1.out).mono ?_);rintro _ w3 ⟨hv,rows,rfl,-,hS3,hG3⟩))
   go_ret
   exact⟨rfl,hS3,grown_tr S2.out hG3⟩
end Go.Proofs.YtlmgolkgodfmpaaGreatDoor
end
