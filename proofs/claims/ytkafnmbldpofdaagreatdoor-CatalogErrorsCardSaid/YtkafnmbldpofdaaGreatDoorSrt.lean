/- Contract of the reference of chapter 34: Sorted. Printed by wip/mksrt.py. -/
import Derived.Test.YtkafnmbldpofdaaGreatDoorSh
import Derived.Deep.QuietTactic
import Derived.BigQuiet
import Derived.Test.YtkafnmbldpofdaaGreatDoorAcA
namespace Go.Proofs.YtkafnmbldpofdaaGreatDoor
set_option maxRecDepth 8000
set_option maxHeartbeats 8000000
section
abbrev kyR(x:Rw):List UInt8:=Ds.bl x.2.1
def ztf(x y:Rw):Bool:=decide (x.1=y.1)&&decide (kyR x=kyR y)
def agn(l:List Rw)(k:Nat)(x:Rw):Bool:=(l.take k).any fun y=>ztf y x
def dst(l:List Rw):Nat->List Rw
 | 0=>[]
 | k+1=>match l[k]? with|none=>dst l k|some x=>if agn l k x=true then dst l k else dst l k++[x]
def DstL(l:List Rw):Prop:=l.Pairwise fun x y=>ztf x y=false
theorem DstL.inj{l:List Rw}(h:DstL l){x y:Rw}(hx:x∈l)(hy:y∈l)(h1:x.1=y.1)(h2:kyR x=kyR y):x=y:=by
 induction l with
 | nil=>cases hx
 | cons z l ih =>
   unfold DstL at h
   rw[List.pairwise_cons] at h
   have key:∀ u v:Rw,ztf u v=false->¬ (u.1=v.1∧kyR u=kyR v):=fun u v hs ⟨q1,q2⟩=>by
    unfold ztf at hs;rw[decide_eq_true q1,decide_eq_true q2] at hs;cases hs
   rcases List.mem_cons.1 hx with e1|hx'
   · rcases List.mem_cons.1 hy with e2|hy'
     · exact e1.trans e2.symm
     · subst e1;exact absurd ⟨h1,h2⟩ (key _ _ (h.1 y hy'))
   · rcases List.mem_cons.1 hy with e2|hy'
     · subst e2;exact absurd ⟨h1.symm,h2.symm⟩ (key _ _ (h.1 x hx'))
     · exact ih h.2 hx' hy'
def zjA(x y:Rw):Bool:=ltB (kyR y) (kyR x)
def zhF(x:Rw)(out:List Rw):List Rw:=out.takeWhile (zjA x)++x::out.dropWhile (zjA x)
def inL(id:Int)(c:UInt8)(x:Rw):Bool:=decide (x.1=id)&&decide ((kyR x).head?=some c)
def srtS(id:Int)(c:UInt8)(out:List Rw)(x:Rw):List Rw:=if inL id c x=true then zhF x out else out
def srt(id:Int)(c:UInt8)(l:List Rw):List Rw:=l.foldl (srtS id c) []
theorem zdX(x:Rw)(out:List Rw)(y:Rw):y∈zhF x out↔y=x∨y∈out:=by
 unfold zhF
 have e:out.takeWhile (zjA x)++out.dropWhile (zjA x)=out:=List.takeWhile_append_dropWhile
 have h:y∈out↔y∈out.takeWhile (zjA x)∨y∈out.dropWhile (zjA x):=by
  rw[<-List.mem_append,e]
 rw[List.mem_append,List.mem_cons,h]
 constructor
 · rintro (h|h|h)
   · exact .inr (.inl h)
   · exact .inl h
   · exact .inr (.inr h)
 · rintro (h|h|h)
   · exact .inr (.inl h)
   · exact .inl h
   · exact .inr (.inr h)
def zoQ(l:List Rw):Prop:=l.Pairwise fun x y=>ltB (kyR x) (kyR y)=true
theorem ziZ(x:Rw):∀ (out:List Rw),zoQ out->(∀ y∈out,kyR y≠kyR x)->zoQ (zhF x out)
 | [],_,_=>List.pairwise_singleton _ _
 | y::out,h,hne=>by
   unfold zoQ at h
   rw[List.pairwise_cons] at h
   by_cases c:zjA x y=true
   · have e:zhF x (y::out)=y::zhF x out:=by unfold zhF;rw[List.takeWhile_cons,List.dropWhile_cons,if_pos c,if_pos c];rfl
     unfold zoQ;rw[e,List.pairwise_cons]
     refine⟨fun z hz=>?_,ziZ x out h.2 fun z hz=>hne z (by simp [hz])⟩
     rcases (zdX x out z).1 hz with rfl|hz
     · exact c
     · exact h.1 z hz
   · have e:zhF x (y::out)=x::y::out:=by unfold zhF;rw[List.takeWhile_cons,List.dropWhile_cons,if_neg c,if_neg c];rfl
     have hxy:ltB (kyR x) (kyR y)=true:=zow (by simpa [zjA] using c) (hne y (by simp))
     unfold zoQ;rw[e,List.pairwise_cons]
     refine⟨fun z hz=>?_,List.pairwise_cons.2 h⟩
     rcases List.mem_cons.1 hz with rfl|hz
     · exact hxy
     · exact zd8 hxy (h.1 z hz)
end
section
open Go.RowKit
def RwAt(w:World)(b o:Nat)(x:Rw):Prop:=w.cell? ⟨b,o,none⟩=some (.int .i64 x.1)∧w.cell? ⟨b,o+1,none⟩=some (.string x.2.1)∧w.cell? ⟨b,o+2,none⟩=some (.string x.2.2)
theorem RwAt.below{w w':World}{b o:Nat}{x:Rw}(h:RwAt w b o x)(hb:Below w.heap.size w w'):RwAt w' b o x:=⟨zac hb h.1,zac hb h.2.1,zac hb h.2.2⟩
def RwL(w:World)(a:Option Addr)(n:Nat)(F:Nat->Rw):Prop:=n<=9223372036854775807∧∀ k,k<n->∃ b o,a=some ⟨b,o,none⟩∧b<w.heap.size∧RwAt w b (o+k*3) (F k)
theorem RwL.below{w w':World}{a:Option Addr}{n:Nat}{F:Nat->Rw}(h:RwL w a n F)(hb:Below w.heap.size w w'):RwL w' a n F :=
 ⟨h.1,fun k hk=>by
  obtain⟨b,o,h1,h2,h3⟩:=h.2 k hk
  exact⟨b,o,h1,by have:=hb.size;omega,h3.below hb⟩⟩
def rlst(F:Nat->Rw)(n:Nat):List Rw:=(List.range n).map F
theorem zeP(F:Nat->Rw)(n:Nat):(rlst F n).length=n:=by unfold rlst;simp
theorem znH(F:Nat->Rw)(n k:Nat)(h:k<(rlst F n).length):(rlst F n)[k]=F k:=by
 have:∀ (h:k<((List.range n).map F).length),((List.range n).map F)[k]=F k:=fun h=>by simp
 exact this h
theorem RwL.rws{w:World}{a:Option Addr}{n:Nat}{F:Nat->Rw}(h:RwL w a n F)(c:Nat)(hn:n<=1000000):RwS w (.slice a n c) (rlst F n):=by
 refine⟨a,c,by rw[zeP],by rw[zeP];exact hn,fun h0=>?_⟩
 rw[zeP] at h0
 obtain⟨b,o,ha,hb,-⟩:=h.2 0 h0
 refine⟨b,o,ha,hb,fun k hk=>?_⟩
 rw[zeP] at hk
 obtain⟨b',o',ha',-,h3⟩:=h.2 k hk
 rw[ha] at ha'
 cases ha'
 rw[znH]
 exact h3
def fewR(F:Nat->Rw)(n:Nat)(m:Int):Prop:=(n:Int)<=m∧∀ k,k<n->(F k).2.1.size<=60∧(F k).2.2.size<=300
def FewRR(F:Nat->Rw)(n:Nat)(m:Int)(w w':World)(r:Ending):Prop:=∃ b:Bool,r=.returned (.bool b)∧(b=true->fewR F n m)∧w'=w
theorem FewRR.no{F:Nat->Rw}{n:Nat}{m:Int}{w:World}:FewRR F n m w w (.returned (.bool false)):=⟨false,rfl,(fun h=>by cases h),rfl⟩
theorem bdr(B:Nat)(w:World)(n:Nat):Below B w (w.drewN n):=⟨rfl,rfl,rfl,Nat.le_refl _,fun _ _=>rfl⟩
end
section
open Go.RowKit
set_option linter.unusedSimpArgs false
theorem zcx{w:World}{e:TypeId}{size q base:Nat}(hq:w.heap.size=q)(hb:base<=q):(w.alloc (.cells #[] e)).ownsRow base e size (.slice (some ⟨q,0,none⟩) 0 0) 0 []:=by
 subst hq
 exact⟨by simp,.inr ⟨w.heap.size,0,#[],rfl,hb,heap_alloc_new w _,Nat.le_refl _,by unfold maxLen;omega,by simp,by simp⟩⟩
theorem CS.grown{w w':World}{size m:Nat}{b o c:Nat}{news:List Value}{row:Option Nat}(h:CS w size (.slice (some ⟨b,o,none⟩) m c) m news)(hg:w.grownBy w' row)(hne:some b≠row)(hlt:b<w.heap.size):CS w' size (.slice (some ⟨b,o,none⟩) m c) m news:=by
 obtain⟨a,c',e,h2,h3⟩:=h
 cases e
 refine⟨_,_,rfl,h2,fun h0=>?_⟩
 obtain⟨ad,e,p⟩:=h3 h0
 cases e
 exact⟨_,rfl,fun j u hu=>by
  have:=p j u hu
  rw[Addr.add_lit] at this ⊢
  exact (World.cell?_of_block (a:=(⟨b,o+j,none⟩:Addr)) (hg.block b hlt hne)).trans this⟩
theorem zdE{w:World}{base b e size n:Nat}{v:Value}{xs:List Value}(h:w.ownsRow base e size v n xs)(hb:b<=base):w.ownsRow b e size v n xs:=by
 refine⟨h.1,?_⟩
 rcases h.2 with h0|⟨g,cap,cur,rfl,h1,hr⟩
 · exact .inl h0
 · exact .inr ⟨g,cap,cur,rfl,Nat.le_trans hb h1,hr⟩
theorem zbY{w:World}{base e size n c:Nat}{a:Option Addr}{xs:List Value}(h:w.ownsRow base e size (.slice a n c) n xs)(hn:0<n):∃ g,a=some ⟨g,0,none⟩∧n<=c∧c<=maxLen:=by
 rcases h.2 with ⟨h1,h2⟩|⟨g,cap,cur,h1,_,_,h3,h4,_⟩
 · cases h1;omega
 · cases h1;exact⟨g,rfl,h3,h4⟩
theorem zno{w:World}{base e size n c g:Nat}{xs:List Value}(h:w.ownsRow base e size (.slice (some ⟨g,0,none⟩) n c) n xs):n<=c∧c<=maxLen:=by
 rcases h.2 with ⟨h1,h2⟩|⟨g',cap,cur,h1,_,_,h3,h4,_⟩
 · cases h1
 · cases h1;exact⟨h3,h4⟩
theorem zkA:∀ (l:List Rw) (k:Nat),rv (l.drop k)=(rv l).drop (k*3)
 | _,0=>by rw[List.drop_zero,Nat.zero_mul,List.drop_zero]
 | [],k+1=>by rw[List.drop_nil];exact List.drop_nil.symm
 | x::l,k+1=>by
   rw[List.drop_succ_cons,zkA l k,rv,show (k+1)*3=3+k*3 by omega,<-List.drop_drop];rfl
def zj6(c k:Nat):Nat:=if c=k then 0 else k*3
theorem zjs{w:World}{base n g c k:Nat}{l:List Rw}(h:w.ownsRow base 97 3 (.slice (some ⟨g,0,none⟩) n c) n (rv l))(hl:l.length=n)(hc:n<=c):CS w 3 (.slice (some ⟨g,zj6 c k,none⟩) (n - k) (c - k)) (n - k) (rv (l.drop k)):=by
 refine⟨_,_,rfl,by rw[zhk,List.length_drop,hl],fun h0=>⟨_,rfl,fun j u hu=>?_⟩⟩
 have hk:zj6 c k=k*3:=if_neg (by omega)
 obtain⟨a,c',e,-,p⟩:=zbq h
 obtain⟨ad,e2,q⟩:=p (by omega)
 injection e with e1
 rw[e2] at e1
 cases e1
 rw[zkA,List.getElem?_drop] at hu
 have:=q _ u hu
 rw[Addr.add_lit] at this ⊢
 rw[Nat.zero_add] at this
 rw[hk]
 exact this
theorem zjp{w:World}{base n g c k:Nat}{l:List Rw}(h:w.ownsRow base 97 3 (.slice (some ⟨g,0,none⟩) n c) n (rv l))(hl:l.length=n)(hk:k<=n):CS w 3 (.slice (some ⟨g,0,none⟩) k c) k (rv (l.take k)):=by
 refine⟨_,_,rfl,by rw[zhk,List.length_take,hl,Nat.min_eq_left hk],fun h0=>⟨_,rfl,fun j u hu=>?_⟩⟩
 obtain⟨a,c',e,-,p⟩:=zbq h
 obtain⟨ad,e2,q⟩:=p (by omega)
 injection e with e1
 rw[e2] at e1
 cases e1
 refine q j u ?_
 rw[<-List.take_append_drop k l,zeH,List.getElem?_append_left (List.getElem?_eq_some_iff.1 hu).1]
 exact hu
theorem zoq{w:World}{g n c k:Nat}(hk:k<=n):(Instr.slice 25 (.slice (some ⟨g,0,none⟩) n c) (some (.int .i64 (k:Int))) none none).run Tryz.prog w=.ok (.slice (some ⟨g,zj6 c k,none⟩) (n - k) (c - k)) w:=by
 have h3:(0:Int)<=k:=by omega
 have h4:(k:Int)<=n:=by omega
 simp only[Instr.slice,Instr.sliceBounds,Sem.run_bind,Sem.run_pure,run_underlying Tryz.underlying25,Result.andThen_ok,run_sliceBound _ _ _ _ _ h3 h4,Option.isSome,Bool.false_eq_true,if_false]
 rw[Tryz.sizeOf97]
 unfold zj6
 by_cases h1:c=k
 · simp only[Result.andThen_ok,Int.toNat_natCast,if_pos h1]
 · simp only[Result.andThen_ok,Int.toNat_natCast,if_neg h1,Option.map,Addr.add_lit,Nat.zero_add]
theorem zox{w:World}{g n c k:Nat}(hk:k<=n)(hc:n<=c):(Instr.slice 25 (.slice (some ⟨g,0,none⟩) n c) none (some (.int .i64 (k:Int))) none).run Tryz.prog w=.ok (.slice (some ⟨g,0,none⟩) k c) w:=by
 have h3:(0:Int)<=k:=by omega
 have h4:(k:Int)<=c:=by omega
 simp only[Instr.slice,Instr.sliceBounds,Sem.run_bind,Sem.run_pure,run_underlying Tryz.underlying25,Result.andThen_ok,run_sliceBound _ _ _ _ _ h3 h4,Option.isSome,Bool.false_eq_true,if_false,if_true]
 rw[Tryz.sizeOf97]
 by_cases h1:c=0
 · simp only[Result.andThen_ok,Int.toNat_natCast,if_pos h1,Nat.sub_zero]
 · simp only[Result.andThen_ok,Int.toNat_natCast,if_neg h1,Option.map,Addr.add_lit,Nat.zero_mul,Nat.sub_zero,Nat.zero_add]
theorem zsL(p:Rw->Bool):∀ (l:List Rw) (j:Nat) (h:j<l.length),(j<(l.takeWhile p).length->p l[j]=true)∧(j=(l.takeWhile p).length->p l[j]=false)
 | x::l,0,_=>by
   rw[List.takeWhile_cons]
   by_cases c:p x=true
   · rw[if_pos c];exact⟨fun _=>c,fun h=>by simp at h⟩
   · rw[if_neg c];exact⟨fun h=>by simp at h,fun _=>by simpa using c⟩
 | x::l,j+1,h=>by
   have:=zsL p l j (by simpa using h)
   rw[List.takeWhile_cons]
   by_cases c:p x=true
   · rw[if_pos c]
     exact⟨fun q=>this.1 (by simpa using q),fun q=>this.2 (by simpa using q)⟩
   · rw[if_neg c];exact⟨fun q=>by simp at q,fun q=>by simp at q⟩
theorem ztW(p:Rw->Bool)(l:List Rw):(l.takeWhile p).length<=l.length:=(List.takeWhile_prefix p).length_le
end
end Go.Proofs.YtkafnmbldpofdaaGreatDoor
