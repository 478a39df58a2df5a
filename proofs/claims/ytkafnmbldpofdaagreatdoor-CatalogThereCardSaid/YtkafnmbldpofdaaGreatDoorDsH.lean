/- Contracts: the closures of Match; Match. -/
import Derived.Test.YtkafnmbldpofdaaGreatDoorChecked
import Derived.Test.YtkafnmbldpofdaaGreatDoorKit
import Derived.Test.YtkafnmbldpofdaaGreatDoorDs
import Derived.Test.YtkafnmbldpofdaaGreatDoorCalE
import Derived.Test.YtkafnmbldpofdaaGreatDoorDsA
import Derived.RegionTactic
import Derived.BigQuiet
import Derived.Deep.QuietTactic
import Derived.Deep.RegionHeld3
import Derived.IntWalk
namespace Go.Proofs.YtkafnmbldpofdaaGreatDoor
section
open Go.RowKit
set_option maxRecDepth 20000
def zTab:Array Value:=Array.replicate 1600 (.bool false)
theorem zTab_get (i:Nat) (h:i<1600):zTab[i]?=some (.bool false):=by simp [zTab,h]
theorem tabZero:(Tryz.prog.info? 269).bind (·.zero)=some (.agg zTab):=by kernel_rfl
attribute [irreducible] zTab
theorem run_info {P:Program} {w:World} {t:TypeId} {i:TypeInfo} (h:P.info? t=some i):(typeInfo t).run P w=.ok i w:=by
 simp [typeInfo,h]
theorem run_zero {P:Program} (t:TypeId) (v:Value) (w:World) (h:(P.info? t).bind (·.zero)=some v):(zeroValue t).run P w=.ok v w:=by
 cases e:P.info? t with
 | none=>rw[e] at h;cases h
 | some i =>
   rw[e] at h
   have h':i.zero=some v:=h
   unfold zeroValue
   simp only[Sem.run_bind,run_info e,Result.andThen_ok,h',Sem.run_pure]
theorem exec_alloc_tab (ev:Operand->Value) (w:World) (dst t pos af gd) :
  (execOp ev ⟨dst,.alloc 269,t,pos,af,gd⟩).run Tryz.prog w=.ok (.value (.pointer (some ⟨w.heap.size,0,none⟩))) (w.alloc (.cells zTab 269)):=by
 have hz:=run_zero 269 (.agg zTab) w tabZero
 unfold execOp
 simp only[Instr.alloc,Sem.run_bind,hz,Result.andThen_ok]
 simp [go_sem,newVar,newRow]
def TI (w:World) (b:Nat) (F:Nat->Nat->Bool):Prop:=(∀ r c,r<40->c<40->w.cell? ⟨b,r*40+c,none⟩=some (.bool (F r c)))∧(∀ o,w.frozen? ⟨b,o,none⟩=false)
theorem TI.new (w:World):TI (w.alloc (.cells zTab 269)) w.heap.size (fun _ _=>false) :=
 ⟨fun r c hr hc=>by rw[cell_of_row _ w.heap.size _ _ 269 (0,0) (heap_alloc_new w _)];exact zTab_get _ (by omega),fun o=>by simp⟩
theorem TI.below {w w':World} {b:Nat} {F:Nat->Nat->Bool} (h:TI w b F) (hb:Below w.heap.size w w') (hlt:b<w.heap.size):TI w' b F :=
 ⟨fun r c hr hc=>below_cell hb (h.1 r c hr hc),fun o=>by rw[(bcell hb).2 b o hlt];exact h.2 o⟩
theorem TI.set {w:World} {b:Nat} {F:Nat->Nat->Bool} (h:TI w b F) (r0 c0:Nat) (hr0:r0<40) (hc0:c0<40) (v:Bool):TI (w.setCell ⟨b,r0*40+c0,none⟩ (.bool v)) b (fun r c=>if r=r0∧c=c0 then v else F r c):=by
 refine⟨fun r c hr hc=>?_,fun o=>by have:=h.2 o;simpa using this⟩
 have h1:=h.1 r c hr hc
 have h0:=h.1 r0 c0 hr0 hc0
 by_cases e:r=r0∧c=c0
 · obtain⟨rfl,rfl⟩:=e
   simp [go_sem,h0]
 · have hne:r0*40+c0≠r*40+c:=by omega
   show _=some (Value.bool (if r=r0∧c=c0 then v else F r c))
   rw[if_neg e,<-h1]
   simp [go_sem]
theorem TI.drew {w:World} {b:Nat} {F:Nat->Nat->Bool} (h:TI w b F):TI w.drew b F:=h
theorem TI.start (w:World) (p n:Nat) (hp:p<40) (hn:n<40):TI (w.alloc (.cells (zTab.setIfInBounds (p*40+n) (.bool true)) 269)) w.heap.size (fun r c=>if r=p∧c=n then true else false):=by
 have h:=(TI.new w).set p n hp hn true
 simpa [go_sem] using h
def bvc (w:World) (b o:Nat):Bool:=match w.cell? ⟨b,o,none⟩ with | some (.bool x)=>x | _=>false
theorem bvc_of {w:World} {b o:Nat} {x:Bool} (h:w.cell? ⟨b,o,none⟩=some (.bool x)):w.cell? ⟨b,o,none⟩=some (.bool (bvc w b o)):=by
 rw[h];unfold bvc;rw[h]
def TJ (w:World) (b:Nat) (F:Nat->Nat->Bool) (r c:Nat):Prop:=∃ x,TI w b (fun r' c'=>if r'=r∧c'=c then x else F r' c')
theorem TJ.of {w:World} {b:Nat} {F:Nat->Nat->Bool} (h:TI w b F) (r c:Nat):TJ w b F r c:=⟨F r c,⟨fun r' c' h1 h2=>by
 rw[h.1 r' c' h1 h2]
 show _=some (Value.bool (if r'=r∧c'=c then F r c else F r' c'))
 by_cases e:r'=r∧c'=c
 · rw[if_pos e,e.1,e.2]
 · rw[if_neg e],h.2⟩⟩
theorem TJ.set {w:World} {b:Nat} {F:Nat->Nat->Bool} {r c:Nat} (h:TJ w b F r c) (hr:r<40) (hc:c<40) (v:Bool):TI (w.setCell ⟨b,r*40+c,none⟩ (.bool v)) b (fun r' c'=>if r'=r∧c'=c then v else F r' c'):=by
 obtain⟨x,h⟩:=h
 have h2:=h.set r c hr hc v
 have e:(fun r' c'=>if r'=r∧c'=c then v else (if r'=r∧c'=c then x else F r' c'))=fun r' c'=>if r'=r∧c'=c then v else F r' c':=by
  funext r' c';split <;> rfl
 rw[e] at h2;exact h2
theorem TJ.set' {w:World} {b:Nat} {F:Nat->Nat->Bool} {r c:Nat} (h:TJ w b F r c) (hr:r<40) (hc:c<40) (v:Bool):TJ (w.setCell ⟨b,r*40+c,none⟩ (.bool v)) b F r c:=⟨v,h.set hr hc v⟩
def SJ (W:World) (b:Nat) (F:Nat->Nat->Bool) (r c:Nat) (w:World):Prop:=w.cell? ⟨b,(r+1)*40+(c+1),none⟩=some (.bool true)∧w.cell? ⟨b,r*40+c,none⟩=some (.bool (bvc w b (r*40+c)))∧(∀ o,w.frozen? ⟨b,o,none⟩=false)∧TJ w b F r c∧b<w.heap.size∧Below W.heap.size W w
theorem SJ.start {W w:World} {b r c:Nat} {F:Nat->Nat->Bool} (h:TI w b F) (hr:r+1<40) (hc:c+1<40) (hv:F (r+1) (c+1)=true) (hb:b<w.heap.size) (B:Below W.heap.size W w):SJ W b F r c w.drew :=
 ⟨by have:=h.1 (r+1) (c+1) hr hc;rw[hv] at this;exact this,bvc_of (h.1 r c (by omega) (by omega)),h.2,TJ.of h r c,hb,B.drew⟩
theorem SJ.call {W w w2:World} {b r c:Nat} {F:Nat->Nat->Bool} (hb:Below w.heap.size w w2) (h:SJ W b F r c w):SJ W b F r c w2:=by
 obtain⟨h1,h2,h3,⟨x,h4⟩,h5,h6⟩:=h
 exact⟨below_cell hb h1,bvc_of (below_cell hb h2),(h4.below hb h5).2,⟨x,h4.below hb h5⟩,Nat.lt_of_lt_of_le h5 hb.size,bt h6 hb⟩
theorem SJ.store {W w:World} {r c:Nat} {F:Nat->Nat->Bool} (hr:r+1<40) (hc:c+1<40) (v:Bool) (h:SJ W W.heap.size F r c w):SJ W W.heap.size F r c (w.setCell ⟨W.heap.size,r*40+c,none⟩ (.bool v)):=by
 obtain⟨h1,h2,h3,h4,h5,h6⟩:=h
 have hT:=h4.set (by omega) (by omega) v
 have g1:=hT.1 (r+1) (c+1) hr hc
 have g2:=hT.1 r c (by omega) (by omega)
 refine⟨?_,bvc_of g2,hT.2,h4.set' (by omega) (by omega) v,by simpa using h5,h6.setCell (by simp) _⟩
 have hne:r*40+c≠(r+1)*40+(c+1):=by omega
 rw[<-h1]
 simp [go_sem]
end
end Go.Proofs.YtkafnmbldpofdaaGreatDoor
section
namespace Go.Proofs.YtkafnmbldpofdaaGreatDoor.Ds
open Lib (compareBytes)
theorem cmp_cons (x:UInt8) (a b:List UInt8):compareBytes (x::a) (x::b)=compareBytes a b:=by
 rw[compareBytes];simp [UInt8.lt_irrefl]
theorem u8_tri (x y:UInt8):x<y∨x=y∨y<x:=by
 rcases Nat.lt_trichotomy x.toNat y.toNat with h | h | h
 · exact .inl (UInt8.lt_iff_toNat_lt.2 h)
 · exact .inr (.inl (UInt8.toNat_inj.1 h))
 · exact .inr (.inr (UInt8.lt_iff_toNat_lt.2 h))
theorem cmp_lt (x y:UInt8) (a b:List UInt8) (h:x<y):compareBytes (x::a) (y::b)=-1:=by rw[compareBytes];simp [h]
theorem cmp_gt (x y:UInt8) (a b:List UInt8) (h:y<x):compareBytes (x::a) (y::b)=1:=by
 have:¬ x<y:=fun h'=>absurd (UInt8.lt_trans h h') (UInt8.lt_irrefl y)
 rw[compareBytes];simp [h,this]
theorem cmp_zero:∀ a b:List UInt8,compareBytes a b=0↔a=b
 | [],[]=>by simp [compareBytes]
 | [],_::_=>by simp [compareBytes]
 | _::_,[]=>by simp [compareBytes]
 | x::a,y::b=>by
   rcases u8_tri x y with h | h | h
   · rw[cmp_lt _ _ _ _ h]
     have:x≠y:=fun e=>UInt8.lt_irrefl y (e ▸ h)
     simp [this]
   · subst h;rw[cmp_cons,cmp_zero a b];simp
   · rw[cmp_gt _ _ _ _ h]
     have:x≠y:=fun e=>UInt8.lt_irrefl y (e ▸ h)
     simp [this]
theorem cmp_neg:∀ a b:List UInt8,compareBytes b a=- compareBytes a b
 | [],[]=>by simp [compareBytes]
 | [],_::_=>by simp [compareBytes]
 | _::_,[]=>by simp [compareBytes]
 | x::a,y::b=>by
   rcases u8_tri x y with h | h | h
   · rw[cmp_lt _ _ _ _ h,cmp_gt _ _ _ _ h];rfl
   · subst h;rw[cmp_cons,cmp_cons,cmp_neg a b]
   · rw[cmp_lt _ _ _ _ h,cmp_gt _ _ _ _ h]
theorem cmp_trans:∀ a b c:List UInt8,compareBytes a b<=0->compareBytes b c<=0->compareBytes a c<=0
 | [],b,[],_,_=>by simp [compareBytes]
 | [],b,_::_,_,_=>by simp [compareBytes]
 | _::_,[],c,h,_=>by simp [compareBytes] at h
 | _::_,_::_,[],_,h=>by simp [compareBytes] at h
 | x::a,y::b,z::c,h,k=>by
   rcases u8_tri x y with h1 | h1 | h1
   · rcases u8_tri y z with h2 | h2 | h2
     · rw[cmp_lt _ _ _ _ (UInt8.lt_trans h1 h2)];simp
     · subst h2;rw[cmp_lt _ _ _ _ h1];simp
     · rw[cmp_gt _ _ _ _ h2] at k;simp at k
   · subst h1
     rcases u8_tri x z with h2 | h2 | h2
     · rw[cmp_lt _ _ _ _ h2];simp
     · subst h2;rw[cmp_cons] at h k ⊢;exact cmp_trans a b c h k
     · rw[cmp_gt _ _ _ _ h2] at k;simp at k
   · rw[cmp_gt _ _ _ _ h1] at h;simp at h
/-! pieces -/
theorem pieces_dot (a b:List UInt8):pieces (a++46::b)=pieces a++pieces b:=by
 induction a with
 | nil=>simp [pieces]
 | cons c r ih =>
   simp only[List.cons_append,pieces,ih]
   split
   · rfl
   · cases e:pieces r with
     | nil=>exact absurd e (pieces_ne r)
     | cons p ps=>simp
theorem pieces_plain (q:List UInt8) (h:46 ∉ q):pieces q=[q]:=by
 induction q with
 | nil=>rfl
 | cons c r ih =>
   simp only[List.mem_cons,not_or] at h
   rw[pieces,if_neg (fun e=>h.1 e.symm),ih h.2]
/-! bytes of names and patterns -/
theorem pl_bd (c:UInt8) (h:pl c=true):c.toNat<=90∧c≠46∧c≠42:=by
 simp only[pl,up,dg,Bool.or_eq_true,Bool.and_eq_true,decide_eq_true_eq] at h
 exact⟨by omega,fun e=>by subst e;simp at h,fun e=>by subst e;simp at h⟩
theorem up_pl (c:UInt8) (h:up c=true):pl c=true:=by simp [pl,h]
theorem ups_pls (c:UInt8) (h:ups c=true):pls c=true:=by
 simp only[ups,Bool.or_eq_true] at h
 rcases h with h | h <;> simp [pls,pl,h]
theorem qual_all (F G:UInt8->Bool) (hFG:∀ c,F c=true->G c=true) (q:List UInt8) (h:qual F G q=true):∀ c∈q,G c=true:=by
 cases q with
 | nil=>simp
 | cons x r =>
   simp only[qual,Bool.and_eq_true,decide_eq_true_eq,List.all_eq_true] at h
   intro c hc
   rcases List.mem_cons.1 hc with rfl | hc
   · exact hFG _ h.1.2
   · exact h.2 c hc
theorem nameQ_pl (q:List UInt8) (h:nameQ q=true):∀ c∈q,pl c=true:=qual_all up pl up_pl q h
theorem patQ_pls (q:List UInt8) (h:patQ q=true):∀ c∈q,pls c=true:=by
 unfold patQ at h
 simp only[Bool.or_eq_true,Bool.and_eq_true,decide_eq_true_eq] at h
 rcases h with rfl | h
 · intro c hc;simp at hc;subst hc;rfl
 · exact qual_all ups pls ups_pls q h.1
theorem nameQ_patQ (q:List UInt8) (h:nameQ q=true):patQ q=true:=by
 have hp:=nameQ_pl q h
 have hs:ss q=false:=by
  rw[Bool.eq_false_iff]
  intro e
  obtain⟨j,h1,h2,_⟩:=(ss_iff q).1 e
  have hj:j<q.length:=by omega
  rw[List.getD_eq_getElem?_getD,List.getElem?_eq_getElem hj,Option.getD_some] at h2
  exact (pl_bd _ (hp _ (List.getElem_mem hj))).2.2 (UInt8.toNat_inj.1 h2)
 unfold patQ
 rw[hs]
 unfold nameQ at h
 cases q with
 | nil=>simp [qual] at h
 | cons x r =>
   simp only[qual,Bool.and_eq_true,decide_eq_true_eq,List.all_eq_true] at h
   simp only[qual,Bool.not_false,Bool.and_true,Bool.or_eq_true,Bool.and_eq_true,decide_eq_true_eq,List.all_eq_true]
   exact .inr ⟨⟨h.1.1,by simp [ups,h.1.2]⟩,fun c hc=>by simp [pls,h.2 c hc]⟩
theorem name_parts (s:List UInt8):name s=true↔(1<=s.length∧s.length<=31)∧∀ q∈pieces s,nameQ q=true:=by
 simp [name,and_assoc]
theorem pat_parts (s:List UInt8):pat s=true↔(1<=s.length∧s.length<=31)∧∀ q∈pieces s,patQ q=true:=by
 simp [pat,and_assoc]
theorem name_pat (s:List UInt8) (h:name s=true):pat s=true:=by
 rw[name_parts] at h;rw[pat_parts]
 exact⟨h.1,fun q hq=>nameQ_patQ q (h.2 q hq)⟩
end Go.Proofs.YtkafnmbldpofdaaGreatDoor.Ds
end
section
namespace Go.Proofs.YtkafnmbldpofdaaGreatDoor.Ds
open Lib (compareBytes)
def k1 (c:UInt8):UInt8:=if c=42 then 254 else c
theorem group_parts (g:List UInt8):group g=true↔name g=true∧g.length<=22∧∀ q∈pieces g,num q=0:=by
 simp [group,and_assoc]
end Go.Proofs.YtkafnmbldpofdaaGreatDoor.Ds
end
namespace Go.Proofs.YtkafnmbldpofdaaGreatDoor
section
open Go.RowKit
set_option maxHeartbeats 2000000
set_option maxRecDepth 3000
attribute [local go_sem ↓] exec_alloc_tab
end
section
open Go.RowKit
set_option maxHeartbeats 2000000
set_option maxRecDepth 3000
attribute [local go_sem ↓] exec_alloc_tab
end
end Go.Proofs.YtkafnmbldpofdaaGreatDoor
section
namespace Go.Proofs.YtkafnmbldpofdaaGreatDoor
open Go.RowKit
set_option maxHeartbeats 800000
namespace Ds
end Ds
namespace Ds
end Ds
end Go.Proofs.YtkafnmbldpofdaaGreatDoor
end
