/- Contracts of the reference of chapter 34: Rows. -/
import Derived.Test.YtnojclchnhmggaaGreatDoorAcA
import Derived.Test.YtnojclchnhmggaaGreatDoorEc
import Derived.Test.YtnojclchnhmggaaGreatDoorDsH
namespace Go.Proofs.YtnojclchnhmggaaGreatDoor
set_option maxRecDepth 8000
set_option maxHeartbeats 4000000
section
abbrev Rw:=Int × ByteArray × ByteArray
def ltB (a b:List UInt8):Bool:=decide (Lib.compareBytes a b<0)
def nxq (id:Int) (k:List UInt8) (o:Option Rw) (x:Rw):Bool:=decide (x.1=id)&&(ltB k (Ds.bl x.2.1)&&(match o with | none=>true | some y=>ltB (Ds.bl x.2.1) (Ds.bl y.2.1)))
def nxs (id:Int) (k:List UInt8) (o:Option Rw) (x:Rw):Option Rw:=if nxq id k o x=true then some x else o
def nx (id:Int) (k:List UInt8) (l:List Rw):Option Rw:=l.foldl (nxs id k) none
theorem nx_snoc (id:Int) (k:List UInt8) (l:List Rw) (x:Rw):nx id k (l++[x])=nxs id k (nx id k l) x:=by
 unfold nx;rw[List.foldl_append];rfl
theorem nx_keep {id:Int} {k:List UInt8} {l:List Rw} {x:Rw} (h:nxq id k (nx id k l) x=false):nx id k (l++[x])=nx id k l:=by
 rw[nx_snoc];unfold nxs;rw[if_neg (by rw[h];simp)]
theorem nx_take {id:Int} {k:List UInt8} {l:List Rw} {x:Rw} (h:nxq id k (nx id k l) x=true):nx id k (l++[x])=some x:=by
 rw[nx_snoc];unfold nxs;rw[if_pos h]
def NI (id:Int) (key:List UInt8) (l:List Rw) (k:Nat) (j:Int):Prop:=(nx id key (l.take k)=none∧j=-1)∨∃ (i:Nat) (h:i<l.length),j=i∧i<k∧nx id key (l.take k)=some l[i]
theorem NI.keep {id:Int} {key:List UInt8} {l:List Rw} {k:Nat} {j:Int} (h:NI id key l k j) (hk:k<l.length) (hq:nxq id key (nx id key (l.take k)) l[k]=false):NI id key l (k+1) j:=by
 have e:nx id key (l.take (k+1))=nx id key (l.take k):=by rw[List.take_succ_eq_append_getElem hk];exact nx_keep hq
 unfold NI;rw[e]
 rcases h with h | ⟨i,h1,h2,h3,h4⟩
 · exact Or.inl h
 · exact Or.inr ⟨i,h1,h2,by omega,h4⟩
theorem NI.take {id:Int} {key:List UInt8} {l:List Rw} {k:Nat} (hk:k<l.length) (hq:nxq id key (nx id key (l.take k)) l[k]=true):NI id key l (k+1) (k:Int):=by
 refine Or.inr ⟨k,hk,rfl,by omega,?_⟩
 rw[List.take_succ_eq_append_getElem hk];exact nx_take hq
def cnt (id:Int) (k:List UInt8) (l:List Rw):Nat:=l.countP fun x=>decide (x.1=id)&&ltB k (Ds.bl x.2.1)
theorem cnt_le (id:Int) (k:List UInt8) (l:List Rw):cnt id k l<=l.length:=List.countP_le_length
end
section
open Go.RowKit
def RwS (w:World) (v:Value) (l:List Rw):Prop :=
 ∃ a c,v=.slice a l.length c∧l.length<=1000000∧(0<l.length->∃ b o,a=some ⟨b,o,none⟩∧b<w.heap.size∧∀ k (h:k<l.length),w.cell? ⟨b,o+k*3,none⟩=some (.int .i64 l[k].1)∧w.cell? ⟨b,o+k*3+1,none⟩=some (.string l[k].2.1)∧w.cell? ⟨b,o+k*3+2,none⟩=some (.string l[k].2.2))
theorem RwS.keep {w w':World} {v:Value} {l:List Rw} (h:RwS w v l) (hs:w.heap.size<=w'.heap.size) (hk:∀ b,v.ownBlock=some b->b<w.heap.size->w'.heap[b]?=w.heap[b]?):RwS w' v l:=by
 obtain⟨a,c,h1,h2,h3⟩:=h
 refine⟨a,c,h1,h2,fun h0=>?_⟩
 obtain⟨b,o,ha,hlt,hc⟩:=h3 h0
 subst ha
 have q:=fun i=>World.cell?_of_block (w:=w) (w':=w') (a:=⟨b,i,none⟩) (hk b (by rw[h1];rfl) hlt)
 exact⟨b,o,rfl,Nat.lt_of_lt_of_le hlt hs,fun k hk=>⟨(q _).trans (hc k hk).1,(q _).trans (hc k hk).2.1,(q _).trans (hc k hk).2.2⟩⟩
theorem RwS.below {w w':World} {v:Value} {l:List Rw} (h:RwS w v l) (hb:Below w.heap.size w w'):RwS w' v l:=h.keep hb.size (fun b _ hl=>hb.block b hl)
theorem RwS.nil (w:World):RwS w (.slice none 0 0) []:=⟨none,0,rfl,by decide,fun h=>by simp at h⟩
def SHf (w:World) (p:Nat) (sv:Value) (fl cd ca:Int):Prop:=row w p=#[sv,.int .i64 fl,.int .i64 cd,.int .i64 ca]∧∀ o,w.frozen? ⟨p,o,none⟩=false
theorem less_bl (a b:ByteArray):Op.bytesLess a.toList b.toList=ltB (Ds.bl a) (Ds.bl b):=by
 rw[show a.toList=Ds.bl a from Lib.toList_data a,show b.toList=Ds.bl b from Lib.toList_data b,Ds.less_cmp];rfl
end
section
open Go.RowKit
def rv:List Rw->List Value
 | []=>[]
 | x::r=>[.int .i64 x.1,.string x.2.1,.string x.2.2]++rv r
theorem rv_len:∀ l:List Rw,(rv l).length=l.length*3
 | []=>rfl
 | x::r=>by rw[rv,List.length_append,rv_len r,List.length_cons,List.length_cons,List.length_cons,List.length_cons,List.length_nil];omega
theorem rv_get:∀ (l:List Rw) (k:Nat) (h:k<l.length),(rv l)[k*3]?=some (.int .i64 l[k].1)∧(rv l)[k*3+1]?=some (.string l[k].2.1)∧(rv l)[k*3+2]?=some (.string l[k].2.2)
 | x::r,0,_=>⟨rfl,rfl,rfl⟩
 | x::r,k+1,h=>by
   have:=rv_get r k (by simpa using h)
   have e:(k+1)*3=k*3+3:=by omega
   rw[e,rv]
   simpa using this
theorem rv_all (l:List Rw) (P:Nat->Value->Prop) (h:∀ k (h:k<l.length),P (k*3) (.int .i64 l[k].1)∧P (k*3+1) (.string l[k].2.1)∧P (k*3+2) (.string l[k].2.2)):∀ j u,(rv l)[j]?=some u->P j u:=by
 intro j u hu
 have hj:=(List.getElem?_eq_some_iff.1 hu).1
 rw[rv_len] at hj
 have hk:j / 3<l.length:=by omega
 obtain⟨p0,p1,p2⟩:=h (j / 3) hk
 obtain⟨q0,q1,q2⟩:=rv_get l (j / 3) hk
 rcases (by omega:j=j / 3*3∨j=j / 3*3+1∨j=j / 3*3+2) with e | e | e
 · rw[<-e] at p0 q0;rw[q0] at hu;cases hu;exact p0
 · rw[<-e] at p1 q1;rw[q1] at hu;cases hu;exact p1
 · rw[<-e] at p2 q2;rw[q2] at hu;cases hu;exact p2
theorem RwS.cells {w:World} {v:Value} {l:List Rw} (h:RwS w v l):CS w 3 v l.length (rv l):=by
 obtain⟨a,c,rfl,-,hc⟩:=h
 refine⟨a,c,rfl,rv_len l,fun h0=>?_⟩
 obtain⟨b,o,rfl,-,p⟩:=hc h0
 refine⟨_,rfl,rv_all l (fun j u=>w.cell? ((⟨b,o,none⟩:Addr).add j)=some u) fun k hk=>?_⟩
 rw[Addr.add_lit,Addr.add_lit,Addr.add_lit]
 exact p k hk
theorem below_al' (w:World) (o:Obj):Below w.heap.size w (w.alloc o):=(Below.refl _ _).alloc (Nat.le_refl _) o
attribute [local go_sem ↓] ldEntM
attribute [local go_sem] headOf_mk offOf_mk isPtr_mk row_drew row_drewN
end
end Go.Proofs.YtnojclchnhmggaaGreatDoor
