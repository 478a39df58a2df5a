/- Catalogs. -/
import Derived.Test.YtnkjliahpeebjaaGreatDoorVaG
import Derived.Deep.AppendLies
set_option maxRecDepth 8000
set_option maxHeartbeats 1600000
open Option renaming some->Z9,none->Z8
open Go renaming Value->Z3,World->Z2
open Go.World renaming cell?_of_block->Z1,frozen?_of_block->Zr,block_lt_of_cell?->WL
open Nat renaming lt_of_lt_of_le->ZY,le_refl->ZS,le_trans->ZD
namespace Go.Proofs.YtnkjliahpeebjaaGreatDoor.Ge
def fits(b:Int):List Int->Int->Bool
 | [],m=>decide (b<=m)
 | n::r,m=>if n<=b then false else fits n r m
def jm(l:List Int)(m:Int)(i:Nat):Bool:=decide (1<=l.getD i 0)&&decide (l.getD i 0<=m)&&(decide (i=0) || decide (l.getD (i - 1) 0<l.getD i 0))
end Go.Proofs.YtnkjliahpeebjaaGreatDoor.Ge
namespace Go.Proofs.YtnkjliahpeebjaaGreatDoor.Ge
end Go.Proofs.YtnkjliahpeebjaaGreatDoor.Ge
namespace Go.Proofs.YtnkjliahpeebjaaGreatDoor
variable{w w' a wr:Z2}{e k base nb kb:Nat}{z cs:Array Z3}{B n:Nat}{gone c now l:List Int}{nv gv b v:Z3}
section
open Go.RowKit
theorem Hp:Tryz.prog.info? 3=Z9 ((Tryz.prog.info? 3).getD default):=by kernel_rfl
theorem GA:((Tryz.prog.info? 3).getD default).zero=Z9 (.int .i64 0):=by kernel_rfl
theorem GC:((Tryz.prog.info? 3).getD default).size=1:=by kernel_rfl
theorem EK:((Tryz.prog.info? 3).getD default).bytes=8:=by kernel_rfl
def iv(l:List Int):List Z3:=l.map (Value.int .i64)
theorem IA(l:List Int):∀ u∈iv l,u.oneCell'=true:=by
 intro u h;obtain⟨x,_,rfl⟩:=List.mem_map.1 h;rfl
theorem below1{o:Obj}(h:Below (w.alloc o).heap.size (w.alloc o) a):Below w.heap.size w a:=((Below.refl _ _).alloc (ZS _) _).trans (h.mono (by simp))
attribute [local go_sem ↓] aZ
attribute [local go_sem] aS aH ak aI aw az aM ap dc ah
end
section
open Go.RowKit
def NW(w:Z2)(v:Z3)(l:List Int):Prop :=
 ∃ a c,v=.slice a l.length c/\l.length<=c/\((a=Z8/\l=[]/\c=0)\/∃ b o,a=Z9 ⟨b,o,Z8⟩/\b<w.heap.size/\∀ j (h:j<l.length),w.cell? ⟨b,o+j,Z8⟩=Z9 (.int .i64 l[j]))
theorem NW.keep(h:NW w v l)(s:w.heap.size<=w'.heap.size)(k:∀ x,v.ownBlock=Z9 x->x<w.heap.size->w'.heap[x]?=w.heap[x]?):NW w' v l:=by
 obtain⟨a,c,rfl,f,H⟩:=h;refine⟨a,c,rfl,f,?_⟩
 rcases H with H|⟨b,o,rfl,d,g⟩
 .exact .inl H
 .exact .inr ⟨b,o,rfl,ZY d s,fun j i=>(Z1 (a:=⟨b,o+j,Z8⟩) (k b rfl d)).trans (g j i)⟩
theorem NW.is(h:NW w v l)(i:l.length<=1000000):IS w v l:=by
 obtain⟨a,c,rfl,j,d⟩:=h;refine⟨a,c,rfl,i,fun H=>?_⟩
 rcases d with ⟨_,rfl,_⟩|⟨b,o,rfl,f,g⟩
 .simp at H
 .exact⟨b,o,rfl,f,g⟩
theorem NW.owns(h:w.ownsRow B e 1 v n (iv l)):NW w v l/\n=l.length/\∀ x,v.ownBlock=Z9 x->B<=x/\x<w.heap.size:=by
 obtain⟨m,h⟩:=h;have s:n=l.length:=by unfold iv at m;rw[List.length_map] at m;omega
 subst s;rcases h with ⟨rfl,i⟩|⟨g,p,C,rfl,o,d,q,_,_,t⟩
 .refine⟨⟨Z8,0,by rw[i],by omega,.inl ⟨rfl,List.eq_nil_of_length_eq_zero i,rfl⟩⟩,rfl,fun x f=>by cases f⟩
 .have H:g<w.heap.size:=by
   rcases Nat.lt_or_ge g w.heap.size with h|h
   .exact h
   .rw[Array.getElem?_eq_none h] at d;cases d
  refine⟨⟨_,p,rfl,q,.inr ⟨g,0,rfl,H,fun j r=>?_⟩⟩,rfl,fun x f=>by cases f;exact⟨o,H⟩⟩
  rw[Nat.zero_add,cell_of_row w g j C e (0,0) d];have:(C.toList.take (l.length*1))[j]?=(iv l)[j]?:=by rw[t]
  rw[List.getElem?_take_of_lt (by omega),Array.getElem?_toList] at this;rw[this];unfold iv;rw[List.getElem?_map,List.getElem?_eq_getElem r];rfl
structure FI (w wr:Z2) (B nb kb:Nat) (cs:Array Z3) (now gone:List Int) (nv gv:Z3):Prop where
 hE:EB wr w.heap.size cs
 hR:Held wr (w.heap.size+1) 33
 hB:w.heap.size+2<=B
 hBs:B<=wr.heap.size
 hn:wr.cell? ⟨nb,0,Z8⟩=Z9 nv
 hnf:wr.frozen? ⟨nb,0,Z8⟩=false
 hk:wr.cell? ⟨kb,0,Z8⟩=Z9 gv
 hkf:wr.frozen? ⟨kb,0,Z8⟩=false
 hNB:B<=nb
 hKB:B<=kb
 hne:kb≠nb
 hnow:NW wr nv now
 hgone:wr.ownsRow B 3 1 gv gone.length (iv gone)
 s1:∀ x,nv.ownBlock=Z9 x->B<=x/\x≠nb/\x≠kb/\gv.ownBlock≠Z9 x
 s2:gv.ownBlock≠Z9 nb/\gv.ownBlock≠Z9 kb
 hw:Below w.heap.size w wr
theorem ic{a:Addr}(h:k≠a.block):(w.setCell a v).heap[k]?=w.heap[k]?:=heap_setCell_other w a k v h
theorem mr{X:List Z3}(h:w.ownsRow B e 1 v n X)(k:∀ x,v.ownBlock=Z9 x->w'.heap[x]?=w.heap[x]?):w'.ownsRow B e 1 v n X:=by
 refine⟨h.1,?_⟩
 rcases h.2 with h|⟨g,C,r,rfl,H,d,f⟩
 .exact .inl h
 .exact .inr ⟨g,C,r,rfl,H,(k g rfl).trans d,f⟩
theorem FI.set(h:FI w wr B nb kb cs now gone nv gv)(o:Nat)(f:o<cs.size)(v:Z3) :
 FI w (wr.setCell ⟨w.heap.size,o,Z8⟩ v) B nb kb (cs.setIfInBounds o v) now gone nv gv:=by
 have d:=h.hB;have K:∀ x,x≠w.heap.size->(wr.setCell ⟨w.heap.size,o,Z8⟩ v).heap[x]?=wr.heap[x]?:=fun x H=>ic H
 have N:=h.hNB;have i:=h.hKB;have g:∀ x,gv.ownBlock=Z9 x->B<=x:=fun x H=>((NW.owns h.hgone).2.2 x H).1
 refine⟨h.hE.set o f v,h.hR.of_block (K _ (by omega)),d,by simpa using h.hBs,?_,by simpa using h.hnf,?_,by simpa using h.hkf,N,i,h.hne,h.hnow.keep (by simp) (fun x H _=>K x (by have:=(h.s1 x H).1;omega)),mr h.hgone (fun x H=>K x (by have:=g x H;omega)),h.s1,h.s2,h.hw.setCell (ZS _) _⟩
 .exact (Z1 (a:=⟨nb,0,Z8⟩) (K nb (by omega))).trans h.hn
 .exact (Z1 (a:=⟨kb,0,Z8⟩) (K kb (by omega))).trans h.hk
theorem FI.alloc(h:FI w wr B nb kb cs now gone nv gv)(G:wr.grownBy w' Z8) :
 FI w w' B nb kb cs now gone nv gv:=by
 have K:∀ x,x<wr.heap.size->w'.heap[x]?=wr.heap[x]?:=fun x H=>G.block x H (by simp)
 have L:=WL wr _ h.hn;have d:=WL wr _ h.hk;simp only at L d
 have f:=h.hB;have s:=h.hBs;have g:∀ x,gv.ownBlock=Z9 x->x<wr.heap.size:=fun x H=>((NW.owns h.hgone).2.2 x H).2
 exact⟨h.hE.of_block (K _ (by omega)) G.size,h.hR.of_block (K _ (by omega)),f,ZD s G.size,(Z1 (a:=⟨nb,0,Z8⟩) (K nb L)).trans h.hn,(Zr (a:=⟨nb,0,Z8⟩) (K nb L)).trans h.hnf,(Z1 (a:=⟨kb,0,Z8⟩) (K kb d)).trans h.hk,(Zr (a:=⟨kb,0,Z8⟩) (K kb d)).trans h.hkf,h.hNB,h.hKB,h.hne,h.hnow.keep G.size (fun x _ H=>K x H),mr h.hgone (fun x H=>K x (g x H)),h.s1,h.s2,h.hw.trans ⟨G.os,G.tape,G.output,G.size,fun x H=>K x (by omega)⟩⟩
theorem FI.put(h:FI w wr B nb kb cs now gone nv gv)(N:NW wr b c)(s:∀ x,b.ownBlock=Z9 x->B<=x/\x≠nb/\x≠kb/\gv.ownBlock≠Z9 x) :
 FI w (wr.setCell ⟨nb,0,Z8⟩ b) B nb kb cs c gone b gv:=by
 have K:∀ x,x≠nb->(wr.setCell ⟨nb,0,Z8⟩ b).heap[x]?=wr.heap[x]?:=fun x H=>ic H
 have f:=h.hB;have d:=h.hNB;exact⟨h.hE.of_block (K _ (by omega)) (by simp),h.hR.of_block (K _ (by omega)),f,by simpa using h.hBs,World.cell?_setCell_same' _ _ _ (by rw[h.hn];rfl),by simpa using h.hnf,(Z1 (a:=⟨kb,0,Z8⟩) (K kb h.hne)).trans h.hk,by simpa using h.hkf,d,h.hKB,h.hne,N.keep (by simp) (fun x H _=>K x (s x H).2.1),mr h.hgone (fun x H=>K x (fun e=>h.s2.1 (e ▸ H))),s,h.s2,h.hw.setCell (by show w.heap.size<=nb;omega) _⟩
end
section
open Go.RowKit
theorem yt{P:Program}{f:Func}{p u v:Tmp}{T:TypeId}{d:TypeDesc}(h:f.results=#[.cell p T,.tmp u,.tmp v])(q:P.underlying T=Z9 d)(i:(match d with|.struct _|.array _ _=>true|_=>false)=true)(j:(P.info? T).map (·.size)=Z9 (n+1))(t:Array Z3)(w:Z2)(g:Nat)(o:t.getD p undef=.pointer (Z9 ⟨g,0,Z8⟩))(r:(row w g).size=n+1) :
 (results f t).run P w=.ok (.tuple #[.agg (row w g),t.getD u undef,t.getD v undef]) w:=by
 have m:=jV w g n T d q i j r;have H:t[p]?.getD undef=.pointer (Z9 ⟨g,0,Z8⟩):=by simpa using o
 simp only[results,h]
 simp [Result.andThen,H,asAddr,m]
def IB(base:Nat)(w:Z2)(v:Z3)(l:List Int):Prop:=IS w v l/\∀ x,v.ownBlock=Z9 x->base<=x
theorem IB.nil(base:Nat)(w:Z2):IB base w (.slice Z8 0 0) []:=⟨IS.nil w,fun _ h=>by cases h⟩
theorem IB.keep(h:IB base w v l)(s:w.heap.size<=w'.heap.size)(k:∀ x,base<=x->x<w.heap.size->w'.heap[x]?=w.heap[x]?):IB base w' v l:=by
 obtain⟨⟨a,c,rfl,g,i⟩,H⟩:=h;refine⟨⟨a,c,rfl,g,fun f=>?_⟩,H⟩
 obtain⟨b,o,rfl,d,m⟩:=i f;exact⟨b,o,rfl,ZY d s,fun j p=>(Z1 (a:=⟨b,o+j,Z8⟩) (k b (H b rfl) d)).trans (m j p)⟩
theorem IB.mono{d:Nat}(h:IB base w v l)(H:d<=base):IB d w v l:=⟨h.1,fun x f=>ZD H (h.2 x f)⟩
def FoldR(F:Int × Int × List Int × List Int)(cs:Int->Array Z3)(w:Z2)(r:Ending)(w':Z2):Prop :=
 ∃ V d,r=.returned (.tuple #[.agg (if F.1=0 then cs F.2.1 else zcells 0 ⟨#[]⟩),V,d,.int .i64 F.1])/\IB w.heap.size w' V F.2.2.1/\IB w.heap.size w' d F.2.2.2/\Below w.heap.size w w'
theorem FoldR.bad{cs:Int->Array Z3}{x:Int}(h:x≠0)(H:z=zcells 0 ⟨#[]⟩)(B:Below w.heap.size w w'):FoldR (x,0,[],[]) cs w (.returned (.tuple #[.agg z,.slice Z8 0 0,.slice Z8 0 0,.int .i64 x])) w' :=
 ⟨_,_,by rw[if_neg h,H],IB.nil _ _,IB.nil _ _,B⟩
attribute [local go_sem ↓] aZ bf bq
attribute [local go_sem] bn aS aH aK aT ak aI aw az aM ap df dc ef ah aQ aL aP aO aR aY aW
end
end Go.Proofs.YtnkjliahpeebjaaGreatDoor
