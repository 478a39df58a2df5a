/- Contract of the reference of chapter 34: Sorted. Printed by wip/mksrt.py. -/
import Derived.Test.YtnojclchnhmggaaGreatDoorSh
import Derived.Deep.QuietTactic
import Derived.BigQuiet
import Derived.Test.YtnojclchnhmggaaGreatDoorAcA
namespace Go.Proofs.YtnojclchnhmggaaGreatDoor
set_option maxRecDepth 8000
set_option maxHeartbeats 8000000
section
abbrev kyR (x:Rw):List UInt8:=Ds.bl x.2.1
def samR (x y:Rw):Bool:=decide (x.1=y.1)&&decide (kyR x=kyR y)
def agn (l:List Rw) (k:Nat) (x:Rw):Bool:=(l.take k).any fun y=>samR y x
def dst (l:List Rw):Nat->List Rw
 | 0=>[]
 | k+1=>match l[k]? with | none=>dst l k | some x=>if agn l k x=true then dst l k else dst l k++[x]
def DstL (l:List Rw):Prop:=l.Pairwise fun x y=>samR x y=false
theorem DstL.inj {l:List Rw} (h:DstL l) {x y:Rw} (hx:x∈l) (hy:y∈l) (h1:x.1=y.1) (h2:kyR x=kyR y):x=y:=by
 induction l with
 | nil=>cases hx
 | cons z l ih =>
   unfold DstL at h
   rw[List.pairwise_cons] at h
   have key:∀ u v:Rw,samR u v=false->¬ (u.1=v.1∧kyR u=kyR v):=fun u v hs ⟨q1,q2⟩=>by
    unfold samR at hs;rw[decide_eq_true q1,decide_eq_true q2] at hs;cases hs
   rcases List.mem_cons.1 hx with e1 | hx'
   · rcases List.mem_cons.1 hy with e2 | hy'
     · exact e1.trans e2.symm
     · subst e1;exact absurd ⟨h1,h2⟩ (key _ _ (h.1 y hy'))
   · rcases List.mem_cons.1 hy with e2 | hy'
     · subst e2;exact absurd ⟨h1.symm,h2.symm⟩ (key _ _ (h.1 x hx'))
     · exact ih h.2 hx' hy'
end
section
open Go.RowKit
def RwAt (w:World) (b o:Nat) (x:Rw):Prop:=w.cell? ⟨b,o,none⟩=some (.int .i64 x.1)∧w.cell? ⟨b,o+1,none⟩=some (.string x.2.1)∧w.cell? ⟨b,o+2,none⟩=some (.string x.2.2)
theorem RwAt.below {w w':World} {b o:Nat} {x:Rw} (h:RwAt w b o x) (hb:Below w.heap.size w w'):RwAt w' b o x:=⟨below_cell hb h.1,below_cell hb h.2.1,below_cell hb h.2.2⟩
def RwL (w:World) (a:Option Addr) (n:Nat) (F:Nat->Rw):Prop:=n<=9223372036854775807∧∀ k,k<n->∃ b o,a=some ⟨b,o,none⟩∧b<w.heap.size∧RwAt w b (o+k*3) (F k)
theorem RwL.below {w w':World} {a:Option Addr} {n:Nat} {F:Nat->Rw} (h:RwL w a n F) (hb:Below w.heap.size w w'):RwL w' a n F :=
 ⟨h.1,fun k hk=>by
  obtain⟨b,o,h1,h2,h3⟩:=h.2 k hk
  exact⟨b,o,h1,by have:=hb.size;omega,h3.below hb⟩⟩
def rlst (F:Nat->Rw) (n:Nat):List Rw:=(List.range n).map F
theorem rlst_len (F:Nat->Rw) (n:Nat):(rlst F n).length=n:=by unfold rlst;simp
theorem rlst_get (F:Nat->Rw) (n k:Nat) (h:k<(rlst F n).length):(rlst F n)[k]=F k:=by
 have:∀ (h:k<((List.range n).map F).length),((List.range n).map F)[k]=F k:=fun h=>by simp
 exact this h
theorem RwL.rws {w:World} {a:Option Addr} {n:Nat} {F:Nat->Rw} (h:RwL w a n F) (c:Nat) (hn:n<=1000000):RwS w (.slice a n c) (rlst F n):=by
 refine⟨a,c,by rw[rlst_len],by rw[rlst_len];exact hn,fun h0=>?_⟩
 rw[rlst_len] at h0
 obtain⟨b,o,ha,hb,-⟩:=h.2 0 h0
 refine⟨b,o,ha,hb,fun k hk=>?_⟩
 rw[rlst_len] at hk
 obtain⟨b',o',ha',-,h3⟩:=h.2 k hk
 rw[ha] at ha'
 cases ha'
 rw[rlst_get]
 exact h3
def fewR (F:Nat->Rw) (n:Nat) (m:Int):Prop:=(n:Int)<=m∧∀ k,k<n->(F k).2.1.size<=60∧(F k).2.2.size<=300
def FewRR (F:Nat->Rw) (n:Nat) (m:Int) (w w':World) (r:Ending):Prop:=∃ b:Bool,r=.returned (.bool b)∧(b=true->fewR F n m)∧w'=w
theorem FewRR.no {F:Nat->Rw} {n:Nat} {m:Int} {w:World}:FewRR F n m w w (.returned (.bool false)):=⟨false,rfl,(fun h=>by cases h),rfl⟩
theorem bdr (B:Nat) (w:World) (n:Nat):Below B w (w.drewN n):=⟨rfl,rfl,rfl,Nat.le_refl _,fun _ _=>rfl⟩
end
section
open Go.RowKit
set_option linter.unusedSimpArgs false
theorem own_zeroR {w:World} {e:TypeId} {size q base:Nat} (hq:w.heap.size=q) (hb:base<=q):(w.alloc (.cells #[] e)).ownsRow base e size (.slice (some ⟨q,0,none⟩) 0 0) 0 []:=by
 subst hq
 exact⟨by simp,.inr ⟨w.heap.size,0,#[],rfl,hb,heap_alloc_new w _,Nat.le_refl _,by unfold maxLen;omega,by simp,by simp⟩⟩
theorem CS.grown {w w':World} {size m:Nat} {b o c:Nat} {news:List Value} {row:Option Nat} (h:CS w size (.slice (some ⟨b,o,none⟩) m c) m news) (hg:w.grownBy w' row) (hne:some b≠row) (hlt:b<w.heap.size):CS w' size (.slice (some ⟨b,o,none⟩) m c) m news:=by
 obtain⟨a,c',e,h2,h3⟩:=h
 cases e
 refine⟨_,_,rfl,h2,fun h0=>?_⟩
 obtain⟨ad,e,p⟩:=h3 h0
 cases e
 exact⟨_,rfl,fun j u hu=>by
  have:=p j u hu
  rw[Addr.add_lit] at this ⊢
  exact (World.cell?_of_block (a:=(⟨b,o+j,none⟩:Addr)) (hg.block b hlt hne)).trans this⟩
theorem own_le {w:World} {base b e size n:Nat} {v:Value} {xs:List Value} (h:w.ownsRow base e size v n xs) (hb:b<=base):w.ownsRow b e size v n xs:=by
 refine⟨h.1,?_⟩
 rcases h.2 with h0 | ⟨g,cap,cur,rfl,h1,hr⟩
 · exact .inl h0
 · exact .inr ⟨g,cap,cur,rfl,Nat.le_trans hb h1,hr⟩
theorem own_someR {w:World} {base e size n c:Nat} {a:Option Addr} {xs:List Value} (h:w.ownsRow base e size (.slice a n c) n xs) (hn:0<n):∃ g,a=some ⟨g,0,none⟩∧n<=c∧c<=maxLen:=by
 rcases h.2 with ⟨h1,h2⟩ | ⟨g,cap,cur,h1,_,_,h3,h4,_⟩
 · cases h1;omega
 · cases h1;exact⟨g,rfl,h3,h4⟩
theorem own_capR {w:World} {base e size n c g:Nat} {xs:List Value} (h:w.ownsRow base e size (.slice (some ⟨g,0,none⟩) n c) n xs):n<=c∧c<=maxLen:=by
 rcases h.2 with ⟨h1,h2⟩ | ⟨g',cap,cur,h1,_,_,h3,h4,_⟩
 · cases h1
 · cases h1;exact⟨h3,h4⟩
end
end Go.Proofs.YtnojclchnhmggaaGreatDoor
