/- Catalogs. -/
import Derived.Test.YtefcmdmfgdcpmaaGreatDoorSh
import Derived.Test.YtefcmdmfgdcpmaaGreatDoorDcA
set_option maxRecDepth 8000
set_option maxHeartbeats 40000000
namespace Go.Proofs.YtefcmdmfgdcpmaaGreatDoor
open Go.RowKit
section
attribute [local go_sem ↓] zaV zaW zaz zcu
attribute [local go_sem] zav zap zal zaI zaJ zae zaq zai zaw zao zas zan zaa zaj zaf zaA zax zak zag zar zaC zaE zbl
def BI2(nm:List UInt8)(F:Nat->Ef)(k:Nat)(j:Int):Prop:=(best nm (lst F k)=none∧j=-1)∨∃ i:Nat,j=i∧i<k∧best nm (lst F k)=some (F i)
theorem BI2.keep{nm:List UInt8}{F:Nat->Ef}{k:Nat}{j:Int}(h:BI2 nm F k j)(hh:hits nm (F k)=false∨ahead (F k) (best nm (lst F k))=false):BI2 nm F (k+1) j:=by
 have e:best nm (lst F (k+1))=best nm (lst F k):=by
  rw[zgQ,zhl];unfold bstep;rw[if_neg (by rcases hh with h|h <;> simp [h])]
 unfold BI2;rw[e];rcases h with h|⟨i,h1,h2,h3⟩
 · exact Or.inl h
 · exact Or.inr ⟨i,h1,by omega,h3⟩
theorem BI2.take{nm:List UInt8}{F:Nat->Ef}{k:Nat}(h1:hits nm (F k)=true)(h2:ahead (F k) (best nm (lst F k))=true):BI2 nm F (k+1) (k:Int):=by
 refine Or.inr ⟨k,rfl,by omega,?_⟩
 rw[zgQ,zhl];unfold bstep;rw[if_pos ⟨h1,h2⟩]
def zE:Array Value:=zlit 0 ⟨#[]⟩
def BW(w wr:World):Prop:=EB wr w.heap.size zE∧Below w.heap.size w wr
theorem BW.below{w wr w':World}(h:BW w wr)(hb:Below wr.heap.size wr w'):BW w w' :=
 ⟨h.1.of_block (hb.block _ h.1.2.2) hb.size,bt h.2 hb⟩
theorem BW.after{w wr w':World}{o:Obj}(h:BW w wr)(hb:Below (wr.alloc o).heap.size (wr.alloc o) w'):BW w w':=h.below (below1 hb)
theorem zpk{w:World}{g n:Nat}(h:Held w g n)(i:Nat)(v:Value):w.setCell ⟨g,i,none⟩ v=w.setRow g ((row w g).setIfInBounds i v):=by
 obtain⟨t,fr,hb⟩:=zbm h;exact setCell_eq_setRow w g i _ t fr v hb
end
section
attribute [local go_sem ↓] zaV
attribute [local go_sem] zav zap zal zae zaq zas zan zaa zaC zaE zbg zbs zbl
end
section
theorem zi6(w:World)(zs cs:Array Value)(t:TypeId)(o:Obj):((w.alloc (.cells zs t)).alloc o).setRow w.heap.size cs=(w.alloc (.cells cs t)).alloc o:=by
 unfold World.setRow World.alloc;congr 1
 apply Array.ext_getElem?
 intro i;simp only[Array.getElem?_modify,Array.getElem?_push,Array.size_push]
 by_cases h:w.heap.size=i
 · subst h;simp
 · rw[if_neg h];by_cases h2:i=w.heap.size+1
   · rw[if_pos h2,if_pos h2]
   · rw[if_neg h2,if_neg h2,if_neg (fun e=>h e.symm),if_neg (fun e=>h e.symm)]
theorem znp(ev:Operand->Value)(w:World)(zs:Array Value)(t:TypeId)(o:Obj)(dst x y t' pos af gd)(h0:zs.size=33)(h1:zbA (ev x)=true)(h2:za0 (ev x)=w.heap.size)(h3:zbC (ev y)=true)(h4:(zaK (ev y)).size=33)(h5:zaM (zaK (ev y)).toList=true) :
  (execOp ev ⟨dst,.store 40 x y,t',pos,af,gd⟩).run Tryz.prog ((w.alloc (.cells zs t)).alloc o)=.ok .skip ((w.alloc (.cells (zaK (ev y)) t)).alloc o):=by
 have hH:Held ((w.alloc (.cells zs t)).alloc o) w.heap.size 33:=⟨by rw[zaw];exact h0,by decide,fun q=>by simp⟩;rw[<-zi6 w zs (zaK (ev y)) t o,<-h2];exact zaz ev _ dst x y t' pos af gd h1 (by rw[h2];exact hH) h3 h4 h5
attribute [local go_sem ↓] zaV zaW znp
attribute [local go_sem] zap zal zae zaq zai zaw zao zas zan zaa zaj zaf zaA zax zak zag zar zaG
end
def BS(w:World)(a:Option Addr)(n:Nat):Prop:=n<=9223372036854775807∧∀ k,k<n->∃ (b o:Nat) (v:UInt8),a=some ⟨b,o,none⟩∧b<w.heap.size∧w.cell? ⟨b,o+k,none⟩=some (.int .u8 (v.toNat:Nat))
theorem BS.below{w w':World}{a:Option Addr}{n:Nat}(h:BS w a n)(hb:Below w.heap.size w w'):BS w' a n :=
 ⟨h.1,fun k hk=>by
  obtain⟨b,o,v,h1,h2,h3⟩:=h.2 k hk;exact⟨b,o,v,h1,Nat.lt_of_lt_of_le h2 hb.size,zac hb h3⟩⟩
def GE(wr:World)(ob:Option Nat)(r:Array Value)(x:Ef):Prop :=
 ∃ (a1:Option Addr) (c1:Nat) (a2:Option Addr) (c2:Nat),r=x.e.vals (.slice a1 x.n1 c1) (.slice a2 x.n2 c2)∧x.n1<=9223372036854775807∧x.n2<=12∧x.gs.length=x.n2∧GS wr (.slice a2 x.n2 c2) x.gs∧(0<x.n2->∀ b,(Value.slice a2 x.n2 c2).ownBlock=some b->ob≠some b∧b<wr.heap.size)
theorem GE.keep{w w':World}{ob:Option Nat}{r:Array Value}{x:Ef}(h:GE w ob r x)(hs:w.heap.size<=w'.heap.size)(hk:∀ k,k<w.heap.size->some k≠ob->w'.heap[k]?=w.heap[k]?)(ob':Option Nat)(ho:ob'=ob∨ob'=some w.heap.size):GE w' ob' r x:=by
 obtain⟨a1,c1,a2,c2,h1,h2,h3,h4,h5,h6⟩:=h;refine⟨a1,c1,a2,c2,h1,h2,h3,h4,?_,fun hp b hb=>?_⟩
 · obtain⟨a,c,e,hz,hc⟩:=h5;refine⟨a,c,e,hz,fun h0=>?_⟩
   obtain⟨b,o,ha,hlt,hcs⟩:=hc h0;subst ha;have hb:=h6 (by omega) b (by rw[e];rfl);have q:=fun i=>World.cell?_of_block (w:=w) (w':=w') (a:=⟨b,i,none⟩) (hk b hlt (fun e=>hb.1 e.symm))
   exact⟨b,o,rfl,Nat.lt_of_lt_of_le hlt hs,fun k hk'=>⟨(q _).trans (hcs k hk').1,(q _).trans (hcs k hk').2.1,(q _).trans (hcs k hk').2.2⟩⟩
 · have:=h6 hp b hb;refine⟨?_,by omega⟩
   rcases ho with rfl|rfl
   · exact this.1
   · intro e;cases e;omega
structure HI (W0 wr:World) (F:Nat->Ef) (k:Nat) (hv:Value) (H:List Ef) (rows:List (Array Value)):Prop where
 own:wr.ownsRow W0.heap.size 40 33 hv k (ec rows)
 len:rows.length=k
 sz:∀ r∈rows,r.size=33
 one:∀ r∈rows,zaM r.toList=true
 up:All2 Rise (lst F k) H
 el:∀ (j:Nat) (r:Array Value) (x:Ef),rows[j]?=some r->H[j]?=some x->GE wr hv.ownBlock r x
 bel:Below W0.heap.size W0 wr
theorem HI.start(W0:World)(F:Nat->Ef):HI W0 W0 F 0 (.slice none 0 0) [] [] :=
 ⟨World.ownsRow_nil W0 _ _ 33,rfl,(fun _ h=>by cases h),(fun _ h=>by cases h),All2.nil,(fun _ _ _ h=>by simp at h),Below.refl _ _⟩
theorem HI.below{W0 wr w':World}{F:Nat->Ef}{k:Nat}{hv:Value}{H:List Ef}{rows:List (Array Value)}(h:HI W0 wr F k hv H rows)(hb:Below wr.heap.size wr w'):HI W0 w' F k hv H rows:=by
 refine⟨zaD h.own (fun x hx=>hb.block x (zam h.own x hx).2),h.len,h.sz,h.one,h.up,fun j r x h1 h2=>(h.el j r x h1 h2).keep hb.size (fun k hk _=>hb.block k hk) _ (.inl rfl),h.bel.trans (hb.mono h.bel.size)⟩
theorem HI.snoc{W0 wr w':World}{F:Nat->Ef}{k:Nat}{hv hv':Value}{H:List Ef}{rows:List (Array Value)}{x:Ef}{r:Array Value}(h:HI W0 wr F k hv H rows)(hown:w'.ownsRow W0.heap.size 40 33 hv' (k+1) (ec rows++r.toList))(hg:wr.grownBy w' hv.ownBlock)(hat:hv'.ownBlock=hv.ownBlock∨hv'.ownBlock=some wr.heap.size)(hr:Rise (F k) x)(hz:r.size=33)(h1:zaM r.toList=true)(hge:GE wr hv.ownBlock r x):HI W0 w' F (k+1) hv' (H++[x]) (rows++[r]):=by
 refine⟨?_,by simp [h.len],fun q hq=>?_,fun q hq=>?_,?_,fun j q y hj hy=>?_,?_⟩
 · rw[zhw,show ec [r]=r.toList from List.append_nil _];exact hown
 · rcases List.mem_append.1 hq with hq|hq
   · exact h.sz q hq
   · rw[List.mem_singleton] at hq;subst hq;exact hz
 · rcases List.mem_append.1 hq with hq|hq
   · exact h.one q hq
   · rw[List.mem_singleton] at hq;subst hq;exact h1
 · rw[zgQ];exact h.up.snoc hr
 · have hl:=h.up.length;rw[zmA] at hl;have hrl:=h.len;by_cases hjk:j<k
   · rw[List.getElem?_append_left (by omega)] at hj hy;exact (h.el j q y hj hy).keep hg.size (fun i hi hne=>hg.block i hi hne) _ hat
   · have hj2:=(List.getElem?_eq_some_iff.1 hj).1;simp at hj2
     obtain rfl:j=k:=by omega
     rw[List.getElem?_append_right (by omega),hrl,Nat.sub_self] at hj;rw[List.getElem?_append_right (by omega),<-hl,Nat.sub_self] at hy;simp at hj hy
     subst hj hy;exact hge.keep hg.size (fun i hi hne=>hg.block i hi hne) _ hat
 · exact h.bel.grown hg h.bel.size (fun q hq=>(zam h.own q hq).1)
theorem HI.es{W0 wr:World}{F:Nat->Ef}{k:Nat}{hv:Value}{H:List Ef}{rows:List (Array Value)}(h:HI W0 wr F k hv H rows)(hk:k<=1000) :
  ∃ (a:Option Addr) (c:Nat) (G:Nat->Ef),hv=.slice a k c∧ES wr a k G∧lst G k=H∧(∀ j,j<k->(G j).n2<=12):=by
 have hl:=h.up.length;rw[zmA] at hl;obtain⟨a,c,rfl⟩:=za6 h.own
 have at_:∀ j (hj:j<k),∃ r,rows[j]?=some r∧GE wr (Value.slice a k c).ownBlock r (H.getD j ⟨En.zero,0,0,[]⟩):=fun j hj=>by
  have h1:rows[j]?=some (rows[j]'(by have:=h.len;omega)):=List.getElem?_eq_getElem _;have h2:H[j]?=some (H[j]'(by omega)):=List.getElem?_eq_getElem _;refine⟨_,h1,?_⟩
  rw[List.getD_eq_getElem?_getD,h2];exact h.el j _ _ h1 h2
 refine⟨a,c,fun j=>H.getD j ⟨En.zero,0,0,[]⟩,rfl,⟨by omega,fun j hj=>?_⟩,?_,fun j hj=>?_⟩
 · obtain⟨r,h1,a1,c1,a2,c2,h2,h3,h4,h5,h6,-⟩:=at_ j hj;obtain⟨g,cc,e,-,hlt,hm⟩:=own_mid h.sz h.own j r h1;injection e with e1
   refine⟨g,0,e1,hlt,a1,c1,a2,c2,?_,h3,Nat.le_trans h4 (by decide),fun _=>⟨h5,h6⟩⟩
   rw[Nat.zero_add,hm,h2]
 · apply List.ext_getElem?
   intro j;unfold lst;rw[List.getElem?_map];by_cases hj:j<k
   · rw[List.getElem?_range hj,Option.map_some,List.getD_eq_getElem?_getD,List.getElem?_eq_getElem (by omega)];rfl
   · rw[List.getElem?_eq_none (by simp;omega),List.getElem?_eq_none (by omega)];rfl
 · obtain⟨r,h1,a1,c1,a2,c2,h2,h3,h4,h5,h6,-⟩:=at_ j hj;exact h4
theorem cs_one{X:World}{cs:Array Value}{t:TypeId}{q:Nat}(hq:X.heap.size=q)(hz:cs.size=33):CS (X.alloc (.cells cs t)) 33 (.slice (some ⟨q,0,none⟩) 1 1) 1 cs.toList:=by
 subst hq;refine⟨_,_,rfl,by simp [hz],fun _=>⟨_,rfl,fun j u hu=>?_⟩⟩
 rw[Addr.add_lit,Nat.zero_add,cell_of_row _ X.heap.size j cs t (0,0) (heap_alloc_new X _)];simpa using hu
theorem all1{cs:Array Value}(h:zaM cs.toList=true):∀ u∈cs.toList,u.oneCell'=true:=fun u hu=>List.all_eq_true.1 (zcH _ h) u hu
theorem ES.all{w:World}{a:Option Addr}{n c:Nat}{F:Nat->Ef}(h:ES w a n F) :
  ∃ rows:List (Array Value),CS w 33 (.slice a n c) n (ec rows)∧rows.length=n∧(∀ r∈rows,r.size=33)∧(∀ r∈rows,zaM r.toList=true)∧∀ (k:Nat) (r:Array Value),rows[k]?=some r->∃ b o,a=some ⟨b,o,none⟩∧mid w b (o+k*33)=r∧k<n:=by
 rcases Nat.eq_zero_or_pos n with h0|h0
 · subst h0;exact⟨[],⟨a,c,rfl,rfl,fun h=>absurd h (by decide)⟩,rfl,(fun _ h=>by cases h),(fun _ h=>by cases h),fun k r h=>by simp at h⟩
 · obtain⟨b,o,rfl,-⟩:=h.2 0 h0;refine⟨zdA w b o n,h.cells,by unfold zdA;simp,h.size b o rfl,h.ones b o rfl,fun k r hr=>?_⟩
   have hk:=(List.getElem?_eq_some_iff.1 hr).1;unfold zdA at hk hr;simp at hk
   refine⟨b,o,rfl,?_,hk⟩
   rw[List.getElem?_map,List.getElem?_range hk,Option.map_some] at hr;exact Option.some.inj hr
section
def GJ(base:Nat)(wr:World)(ob:Option Nat)(r:Array Value)(x:Ef):Prop :=
 ∃ (a1:Option Addr) (c1:Nat) (a2:Option Addr) (c2:Nat),r=x.e.vals (.slice a1 x.n1 c1) (.slice a2 x.n2 c2)∧x.n1<=9223372036854775807∧x.n2<=1000∧x.gs.length=x.n2∧GS wr (.slice a2 x.n2 c2) x.gs∧(0<x.n2->∀ b,(Value.slice a2 x.n2 c2).ownBlock=some b->ob≠some b∧base<=b∧b<wr.heap.size)
theorem GJ.keep{base:Nat}{w w':World}{ob:Option Nat}{r:Array Value}{x:Ef}(h:GJ base w ob r x)(hs:w.heap.size<=w'.heap.size)(hk:∀ k,base<=k->k<w.heap.size->some k≠ob->w'.heap[k]?=w.heap[k]?)(ob':Option Nat)(ho:ob'=ob∨ob'=some w.heap.size):GJ base w' ob' r x:=by
 obtain⟨a1,c1,a2,c2,h1,h2,h3,h4,h5,h6⟩:=h;refine⟨a1,c1,a2,c2,h1,h2,h3,h4,?_,fun hp b hb=>?_⟩
 · obtain⟨a,c,e,hz,hc⟩:=h5;refine⟨a,c,e,hz,fun h0=>?_⟩
   obtain⟨b,o,ha,hlt,hcs⟩:=hc h0;subst ha;have hb:=h6 (by omega) b (by rw[e];rfl);have q:=fun i=>World.cell?_of_block (w:=w) (w':=w') (a:=⟨b,i,none⟩) (hk b hb.2.1 hlt (fun e=>hb.1 e.symm))
   exact⟨b,o,rfl,Nat.lt_of_lt_of_le hlt hs,fun k hk'=>⟨(q _).trans (hcs k hk').1,(q _).trans (hcs k hk').2.1,(q _).trans (hcs k hk').2.2⟩⟩
 · have:=h6 hp b hb;refine⟨?_,this.2.1,by omega⟩
   rcases ho with rfl|rfl
   · exact this.1
   · intro e;cases e;omega
structure HJ (base:Nat) (wr:World) (hv:Value) (H:List Ef) (rows:List (Array Value)):Prop where
 own:wr.ownsRow base 40 33 hv H.length (ec rows)
 len:rows.length=H.length
 sz:∀ r∈rows,r.size=33
 one:∀ r∈rows,zaM r.toList=true
 el:∀ (j:Nat) (r:Array Value) (x:Ef),rows[j]?=some r->H[j]?=some x->GJ base wr hv.ownBlock r x
theorem HJ.start(base:Nat)(wr:World):HJ base wr (.slice none 0 0) [] [] :=
 ⟨World.ownsRow_nil wr _ _ 33,rfl,(fun _ h=>by cases h),(fun _ h=>by cases h),(fun _ _ _ h=>by simp at h)⟩
theorem HJ.keep{base:Nat}{w w':World}{hv:Value}{H:List Ef}{rows:List (Array Value)}(h:HJ base w hv H rows)(hs:w.heap.size<=w'.heap.size)(hk:∀ k,base<=k->k<w.heap.size->w'.heap[k]?=w.heap[k]?):HJ base w' hv H rows :=
 ⟨zaD h.own (fun x hx=>hk x (zam h.own x hx).1 (zam h.own x hx).2),h.len,h.sz,h.one,fun j r x h1 h2=>(h.el j r x h1 h2).keep hs (fun k h1 h2 _=>hk k h1 h2) _ (.inl rfl)⟩
theorem HJ.snoc{base:Nat}{wr w':World}{hv hv':Value}{H:List Ef}{rows:List (Array Value)}{x:Ef}{r:Array Value}(h:HJ base wr hv H rows)(hown:w'.ownsRow base 40 33 hv' (H.length+1) (ec rows++r.toList))(hg:wr.grownBy w' hv.ownBlock)(hat:hv'.ownBlock=hv.ownBlock∨hv'.ownBlock=some wr.heap.size)(hz:r.size=33)(h1:zaM r.toList=true)(hge:GJ base wr hv.ownBlock r x):HJ base w' hv' (H++[x]) (rows++[r]):=by
 refine⟨?_,by simp [h.len],fun q hq=>?_,fun q hq=>?_,fun j q y hj hy=>?_⟩
 · rw[zhw,show ec [r]=r.toList from List.append_nil _,List.length_append];exact hown
 · rcases List.mem_append.1 hq with hq|hq
   · exact h.sz q hq
   · rw[List.mem_singleton] at hq;subst hq;exact hz
 · rcases List.mem_append.1 hq with hq|hq
   · exact h.one q hq
   · rw[List.mem_singleton] at hq;subst hq;exact h1
 · have hrl:=h.len;by_cases hjk:j<H.length
   · rw[List.getElem?_append_left (by omega)] at hj hy;exact (h.el j q y hj hy).keep hg.size (fun i _ hi hne=>hg.block i hi hne) _ hat
   · have hj2:=(List.getElem?_eq_some_iff.1 hj).1;simp at hj2
     obtain rfl:j=H.length:=by omega
     rw[List.getElem?_append_right (by omega),hrl,Nat.sub_self] at hj;rw[List.getElem?_append_right (by omega),Nat.sub_self] at hy;simp at hj hy
     subst hj hy;exact hge.keep hg.size (fun i _ hi hne=>hg.block i hi hne) _ hat
theorem HJ.es{base:Nat}{wr:World}{hv:Value}{H:List Ef}{rows:List (Array Value)}(h:HJ base wr hv H rows)(hk:H.length<=1000000) :
  ∃ (a:Option Addr) (c:Nat) (G:Nat->Ef),hv=.slice a H.length c∧ES wr a H.length G∧lst G H.length=H∧(∀ j,j<H.length->(G j).n2<=1000):=by
 obtain⟨a,c,rfl⟩:=za6 h.own
 have at_:∀ j (hj:j<H.length),∃ r,rows[j]?=some r∧GJ base wr (Value.slice a H.length c).ownBlock r (H.getD j ⟨En.zero,0,0,[]⟩):=fun j hj=>by
  have h1:rows[j]?=some (rows[j]'(by have:=h.len;omega)):=List.getElem?_eq_getElem _;have h2:H[j]?=some (H[j]'(by omega)):=List.getElem?_eq_getElem _;refine⟨_,h1,?_⟩
  rw[List.getD_eq_getElem?_getD,h2];exact h.el j _ _ h1 h2
 refine⟨a,c,fun j=>H.getD j ⟨En.zero,0,0,[]⟩,rfl,⟨by omega,fun j hj=>?_⟩,?_,fun j hj=>?_⟩
 · obtain⟨r,h1,a1,c1,a2,c2,h2,h3,h4,h5,h6,-⟩:=at_ j hj;obtain⟨g,cc,e,-,hlt,hm⟩:=own_mid h.sz h.own j r h1;injection e with e1
   refine⟨g,0,e1,hlt,a1,c1,a2,c2,?_,h3,Nat.le_trans h4 (by decide),fun _=>⟨h5,h6⟩⟩
   rw[Nat.zero_add,hm,h2]
 · apply List.ext_getElem?
   intro j;unfold lst;rw[List.getElem?_map];by_cases hj:j<H.length
   · rw[List.getElem?_range hj,Option.map_some,List.getD_eq_getElem?_getD,List.getElem?_eq_getElem (by omega)];rfl
   · rw[List.getElem?_eq_none (by simp;omega),List.getElem?_eq_none (by omega)];rfl
 · obtain⟨r,h1,a1,c1,a2,c2,h2,h3,h4,h5,h6,-⟩:=at_ j hj;exact h4
def zfV(y:Fu):Ef:=⟨y.1,y.2.1.length,y.2.2.length,y.2.2⟩
structure SHs (w0 wr:World) (p:Nat) (sv:Value) (l:List Rw) (fl cd ca:Int):Prop where
 f:SHf wr p sv fl cd ca
 r:RwS wr sv l
 ne:∀ b,sv.ownBlock=some b->b≠p
 p0:w0.heap.size<=p
 pl:p<wr.heap.size
 b:Below w0.heap.size w0 wr
theorem SHs.below{w0 wr w':World}{p:Nat}{sv:Value}{l:List Rw}{fl cd ca:Int}(h:SHs w0 wr p sv l fl cd ca)(hb:Below wr.heap.size wr w'):SHs w0 w' p sv l fl cd ca :=
 ⟨⟨zaB hb h.f.1 (by simp),fun o=>(hb.frozen (p:=⟨p,o,none⟩) h.pl).trans (h.f.2 o)⟩,h.r.below hb,h.ne,h.p0,Nat.lt_of_lt_of_le h.pl hb.size,bt h.b hb⟩
theorem SHs.tick{w0 wr:World}{p:Nat}{sv:Value}{l:List Rw}{fl cd ca:Int}(h:SHs w0 wr p sv l fl cd ca)(c:Int)(q:Nat):SHs w0 ((wr.setCell ⟨p,3,none⟩ (.int .i64 c)).drewN q) p sv l fl cd c∧wr.grownBy ((wr.setCell ⟨p,3,none⟩ (.int .i64 c)).drewN q) (some p):=by
 have hg:wr.grownBy ((wr.setCell ⟨p,3,none⟩ (.int .i64 c)).drewN q) (some p):=by
  have:=zaH wr ⟨p,3,none⟩ (.int .i64 c);exact⟨this.os,this.tape,this.output,this.size,this.block⟩
 have hH:Held wr p 4:=⟨by rw[h.f.1];rfl,by decide,h.f.2⟩;refine⟨⟨⟨?_,fun o=>?_⟩,h.r.keep hg.size (fun b hb hl=>hg.block b hl (fun e=>h.ne b hb (Option.some.inj e))),h.ne,h.p0,?_,?_⟩,hg⟩
 · rw[zan,zpk hH,zaQ hH,h.f.1];rfl
 · have:=h.f.2 o;simpa using this
 · have:=h.pl;simpa using this
 · exact h.b.trans (zaU hg h.p0 h.b.size)
theorem zat{a b c:World}{p:Option Nat}(h:a.grownBy b p)(k:b.grownBy c p):a.grownBy c p:=World.grownBy.trans h k
theorem zad{a b:World}(p:Option Nat)(h:Below a.heap.size a b):a.grownBy b p:=⟨h.os,h.tape,h.output,h.size,fun k hk _=>h.block k hk⟩
def zsX:Value->ByteArray|.string s=>s|_=>⟨#[]⟩
theorem HJ.tick{base p:Nat}{w w':World}{hv:Value}{H:List Ef}{rows:List (Array Value)}(h:HJ base w hv H rows)(hg:w.grownBy w' (some p))(hp:p<base):HJ base w' hv H rows :=
 h.keep hg.size fun k h1 h2=>hg.block k h2 (fun e=>by have:=Option.some.inj e;omega)
theorem zfu(a : Addr)(n : Nat)(w : World) : (method (n + 1) 31 (.pointer (some a)) "Next").run Tryz.prog w = .ok (324, .pointer (some a)) w := by kernel_rfl
theorem HJ.below{base:Nat}{w w':World}{hv:Value}{H:List Ef}{rows:List (Array Value)}(h:HJ base w hv H rows)(hb:Below w.heap.size w w'):HJ base w' hv H rows :=
 h.keep hb.size fun k _ h2=>hb.block k h2
theorem zhb(p:Nat)(sv:Value)(l:List Rw)(fl cd ca id:Int)(key:ByteArray)(w0 w:World)(h:SHs w0 w p sv l fl cd ca)(h0:0<=ca)(h1:ca<1000000000) :
  Calls Tryz.prog 324 #[.pointer (some ⟨p,0,none⟩),.int .i64 id,.string key] w fun r w'=>r=.returned (nxV fl cd ca (nx id (Ds.bl key) l))∧SHs w0 w' p sv l fl cd (ca+1)∧w.grownBy w' (some p):=by
 refine (zsT p sv fl cd ca id key l w h.f h.r h.ne h0 h1).mono ?_
 rintro _ w' ⟨rfl,q,rfl⟩;exact⟨rfl,(h.tick (ca+1) q).1,(h.tick (ca+1) q).2⟩
theorem zdn(s:ByteArray)(y:Fu)(w:World)(hm:MaxL w)(hT:Tab w)(h:zc6 (Ds.bl s)=some y) :
  Calls Tryz.prog 12 #[.string s] w fun r w'=>∃ (a1:Option Addr) (c1:Nat) (a2:Option Addr) (c2:Nat),r=.returned (.tuple #[.agg (y.1.vals (.slice a1 y.2.1.length c1) (.slice a2 y.2.2.length c2)),.int .i64 0])∧IS w' (.slice a1 y.2.1.length c1) y.2.1∧GS w' (.slice a2 y.2.2.length c2) y.2.2∧Below w.heap.size w w'∧(∀ q,(Value.slice a1 y.2.1.length c1).ownBlock=some q->w.heap.size<=q)∧(∀ q,(Value.slice a2 y.2.2.length c2).ownBlock=some q->w.heap.size<=q):=by
 refine (zf6 s w hm hT).mono ?_
 rintro _ w' ⟨x,al,gr,code,rfl,hI,hG,hb,hc,hf1,hf2⟩;rcases hc with ⟨h1,rfl⟩|⟨h1,-,-⟩
 · obtain rfl:x=y:=Option.some.inj (h1.symm.trans h);obtain⟨a1,c1,rfl,-⟩:=id hI;obtain⟨a2,c2,rfl,-⟩:=id hG;exact⟨a1,c1,a2,c2,rfl,hI,hG,hb,hf1,hf2⟩
 · rw[h] at h1;cases h1
theorem zn7(s:ByteArray)(w:World)(hm:MaxL w)(hT:Tab w)(h:zc6 (Ds.bl s)=none) :
  Calls Tryz.prog 12 #[.string s] w fun r w'=>∃ (a1:Option Addr) (c1:Nat) (a2:Option Addr) (c2:Nat),r=.returned (.tuple #[.agg (En.zero.vals (.slice a1 0 c1) (.slice a2 0 c2)),.int .i64 11])∧IS w' (.slice a1 0 c1) []∧GS w' (.slice a2 0 c2) []∧Below w.heap.size w w':=by
 refine (zf6 s w hm hT).mono ?_
 rintro _ w' ⟨x,al,gr,code,rfl,hI,hG,hb,hc,hf1,hf2⟩;rcases hc with ⟨h1,rfl⟩|⟨-,rfl,rfl⟩
 · rw[h] at h1;cases h1
 · obtain⟨a1,c1,rfl,-⟩:=id hI;obtain⟨a2,c2,rfl,-⟩:=id hG;exact⟨a1,c1,a2,c2,rfl,hI,hG,hb⟩
def zaT(k:Int)(s:ByteArray):ByteArray:=⟨(Ek.key k (Ds.bl s)).toArray⟩
theorem zbD(k:Int)(s:ByteArray):Ds.bl (zaT k s)=Ek.key k (Ds.bl s):=Ds.bl_mk _
theorem zd9(k:Int)(s:ByteArray)(w:World):Calls Tryz.prog 70 #[.int .i64 k,.string s] w fun r w'=>r=.returned (.string (zaT k s))∧Below w.heap.size w w':=by
 refine (zpU k s w).mono ?_
 rintro _ w' ⟨t,rfl,ht,hb⟩;exact⟨zfD (Ds.bl_inj (ht.trans (zbD k s).symm)),hb⟩
theorem ziQ(y:Fu)(k:ByteArray):((zaT y.1.kind y.1.name).toList==k.toList)=decide (zfr y=Ds.bl k):=by
 rw[zei,Bool.eq_iff_iff,decide_eq_true_eq,decide_eq_true_eq];constructor
 · intro h;rw[<-h,zbD];rfl
 · intro h;exact Ds.bl_inj ((zbD _ _).trans h)
theorem zqc(y:Fu)(h:okX y=true):y.2.2.length<=8:=by
 have z:∀ (l2:List Int) (g:List Gr) (e f:En),zeF e f l2 y.2.1 [] y.2.2=true->y.2.2.length<=8:=fun l2 g e f h=>by
  have:=((zbj _ _ _ _ _ _).1 h).2.2;rw[<-this];decide
 unfold okX at h;split at h
 · unfold okD at h;simp only[Bool.and_eq_true] at h;exact z _ [] _ _ h.2
 split at h
 · unfold okG at h;simp only[Bool.and_eq_true] at h;exact z _ [] _ _ h.2
 split at h
 · unfold okA at h;simp only[Bool.and_eq_true] at h;exact z _ [] _ _ h.2
 split at h
 · unfold okC at h;simp only[Bool.and_eq_true] at h;exact z _ [] _ _ h.2
 split at h
 · unfold okP Vp.prof at h;simp only[Bool.and_eq_true,decide_eq_true_eq] at h;exact h.1.2.2.2.2
 · cases h
theorem zl4{w:World}{a:Option Addr}{n c:Nat}{l:List Gr}(h:GS w (.slice a n c) l)(h0:0<n)(b:Nat)(hb:(Value.slice a n c).ownBlock=some b):b<w.heap.size:=by
 obtain⟨a',c',e,hz,hc⟩:=h;injection e with e1 e2 e3
 obtain⟨b',o',ha,hl,-⟩:=hc (by omega);rw[e1,ha] at hb;cases hb;exact hl
theorem zbZ{w:World}{v:Value}{l:List Rw}(h:RwS w v l)(h0:l≠[])(b:Nat)(hb:v.ownBlock=some b):b<w.heap.size:=by
 obtain⟨a',c',rfl,hz,hc⟩:=h;obtain⟨b',o',ha,hl,-⟩:=hc (by rcases l with _|⟨_,_⟩;exact absurd rfl h0;simp);rw[ha] at hb;cases hb;exact hl
theorem SHs.belowB{B:Nat}{w0 wr w':World}{p:Nat}{sv:Value}{l:List Rw}{fl cd ca:Int}(h:SHs w0 wr p sv l fl cd ca)(hb:Below B wr w')(hp:p<B)(hsv:l≠[]->∀ b,sv.ownBlock=some b->b<B):SHs w0 w' p sv l fl cd ca:=by
 refine⟨⟨?_,fun o=>(hb.frozen (p:=⟨p,o,none⟩) hp).trans (h.f.2 o)⟩,?_,h.ne,h.p0,Nat.lt_of_lt_of_le h.pl hb.size,h.b.trans (hb.mono (by have:=h.p0;omega))⟩
 · have:=h.f.1;unfold row at *;rw[hb.block p hp];exact this
 · rcases l with _|⟨x,l⟩
   · obtain⟨a,c,h1,h2,-⟩:=h.r;exact⟨a,c,h1,h2,fun h=>by simp at h⟩
   · exact h.r.keep hb.size fun b hb' _=>hb.block b (hsv (by simp) b hb')
theorem zay{a b c:World}{p:Option Nat}(h:a.grownBy b p)(k:Below a.heap.size b c):a.grownBy c p :=
 ⟨k.os.trans h.os,k.tape.trans h.tape,k.output.trans h.output,Nat.le_trans h.size k.size,fun i hi hne=>(k.block i hi).trans (h.block i hi hne)⟩
theorem zr9{w:World}{base e size:Nat}{v:Value}{xs:List Value}{l:List Fu}(h:w.ownsRow base e size v (l.map zfV).length xs):w.ownsRow base e size v l.length xs:=by rwa [List.length_map] at h
theorem zoG{w:World}{base e size:Nat}{v:Value}{xs:List Value}{l:List Fu}(h:w.ownsRow base e size v (l.length+1) xs):w.ownsRow base e size v ((l.map zfV).length+1) xs:=by rwa [List.length_map]
attribute [local go_sem ↓] zaV zaW zaz za1
attribute [local go_sem] zav zap zal zaI zaJ zae zaq zai zaw zao zas zan zaa zaj zaf zaA zax zak zag zar zaG zaC zaE
end
theorem SS.keep{w w':World}{v:Value}{l:List ByteArray}(h:SS w v l)(hs:w.heap.size<=w'.heap.size)(hk:l≠[]->∀ b,v.ownBlock=some b->b<w.heap.size->w'.heap[b]?=w.heap[b]?):SS w' v l:=by
 obtain⟨a,c,h1,h2,h3⟩:=h;refine⟨a,c,h1,h2,fun h0=>?_⟩
 obtain⟨b,o,ha,hlt,hc⟩:=h3 h0;subst ha;have q:=fun i=>World.cell?_of_block (w:=w) (w':=w') (a:=⟨b,i,none⟩) (hk (List.ne_nil_of_length_pos h0) b (by rw[h1];rfl) hlt)
 exact⟨b,o,rfl,Nat.lt_of_lt_of_le hlt hs,fun k hk=>(q _).trans (hc k hk)⟩
theorem SHs.sub{w0 w:World}{p:Nat}{sv:Value}{l:List Rw}{fl cd ca:Int}(h:SHs w0 w p sv l fl cd ca):Below w0.heap.size w0 w:=h.b
end Go.Proofs.YtefcmdmfgdcpmaaGreatDoor
