/- Contracts: the closures of Match; Match. -/
import Derived.Test.YtnojclchnhmggaaGreatDoorChecked
import Derived.Test.YtnojclchnhmggaaGreatDoorKit
import Derived.Test.YtnojclchnhmggaaGreatDoorDs
import Derived.Test.YtnojclchnhmggaaGreatDoorCalE
import Derived.Test.YtnojclchnhmggaaGreatDoorDsA
import Derived.RegionTactic
import Derived.BigQuiet
import Derived.Deep.QuietTactic
import Derived.Deep.RegionHeld3
import Derived.IntWalk
namespace Go.Proofs.YtnojclchnhmggaaGreatDoor
section
open Go.RowKit
set_option maxRecDepth 20000
def zTab:Array Value:=Array.replicate 1600 (.bool false)
attribute [irreducible] zTab
def TI (w:World) (b:Nat) (F:Nat->Nat->Bool):Prop:=(∀ r c,r<40->c<40->w.cell? ⟨b,r*40+c,none⟩=some (.bool (F r c)))∧(∀ o,w.frozen? ⟨b,o,none⟩=false)
theorem TI.below {w w':World} {b:Nat} {F:Nat->Nat->Bool} (h:TI w b F) (hb:Below w.heap.size w w') (hlt:b<w.heap.size):TI w' b F :=
 ⟨fun r c hr hc=>below_cell hb (h.1 r c hr hc),fun o=>by rw[(bcell hb).2 b o hlt];exact h.2 o⟩
theorem TI.set {w:World} {b:Nat} {F:Nat->Nat->Bool} (h:TI w b F) (r0 c0:Nat) (hr0:r0<40) (hc0:c0<40) (v:Bool):TI (w.setCell ⟨b,r0*40+c0,none⟩ (.bool v)) b (fun r c=>if r=r0∧c=c0 then v else F r c):=by
 refine⟨fun r c hr hc=>?_,fun o=>by have:=h.2 o;simpa using this⟩
 have h1:=h.1 r c hr hc
 have h0:=h.1 r0 c0 hr0 hc0
 by_cases e:r=r0∧c=c0
 · obtain⟨rfl,rfl⟩:=e
   simp [go_sem,h0]
 · have hne:r0*40+c0≠r*40+c:=by omega
   show _=some (Value.bool (if r=r0∧c=c0 then v else F r c))
   rw[if_neg e,<-h1]
   simp [go_sem]
theorem TI.drew {w:World} {b:Nat} {F:Nat->Nat->Bool} (h:TI w b F):TI w.drew b F:=h
def bvc (w:World) (b o:Nat):Bool:=match w.cell? ⟨b,o,none⟩ with | some (.bool x)=>x | _=>false
theorem bvc_of {w:World} {b o:Nat} {x:Bool} (h:w.cell? ⟨b,o,none⟩=some (.bool x)):w.cell? ⟨b,o,none⟩=some (.bool (bvc w b o)):=by
 rw[h];unfold bvc;rw[h]
def TJ (w:World) (b:Nat) (F:Nat->Nat->Bool) (r c:Nat):Prop:=∃ x,TI w b (fun r' c'=>if r'=r∧c'=c then x else F r' c')
theorem TJ.of {w:World} {b:Nat} {F:Nat->Nat->Bool} (h:TI w b F) (r c:Nat):TJ w b F r c:=⟨F r c,⟨fun r' c' h1 h2=>by
 rw[h.1 r' c' h1 h2]
 show _=some (Value.bool (if r'=r∧c'=c then F r c else F r' c'))
 by_cases e:r'=r∧c'=c
 · rw[if_pos e,e.1,e.2]
 · rw[if_neg e],h.2⟩⟩
theorem TJ.set {w:World} {b:Nat} {F:Nat->Nat->Bool} {r c:Nat} (h:TJ w b F r c) (hr:r<40) (hc:c<40) (v:Bool):TI (w.setCell ⟨b,r*40+c,none⟩ (.bool v)) b (fun r' c'=>if r'=r∧c'=c then v else F r' c'):=by
 obtain⟨x,h⟩:=h
 have h2:=h.set r c hr hc v
 have e:(fun r' c'=>if r'=r∧c'=c then v else (if r'=r∧c'=c then x else F r' c'))=fun r' c'=>if r'=r∧c'=c then v else F r' c':=by
  funext r' c';split <;> rfl
 rw[e] at h2;exact h2
theorem TJ.set' {w:World} {b:Nat} {F:Nat->Nat->Bool} {r c:Nat} (h:TJ w b F r c) (hr:r<40) (hc:c<40) (v:Bool):TJ (w.setCell ⟨b,r*40+c,none⟩ (.bool v)) b F r c:=⟨v,h.set hr hc v⟩
def SJ (W:World) (b:Nat) (F:Nat->Nat->Bool) (r c:Nat) (w:World):Prop:=w.cell? ⟨b,(r+1)*40+(c+1),none⟩=some (.bool true)∧w.cell? ⟨b,r*40+c,none⟩=some (.bool (bvc w b (r*40+c)))∧(∀ o,w.frozen? ⟨b,o,none⟩=false)∧TJ w b F r c∧b<w.heap.size∧Below W.heap.size W w
theorem SJ.start {W w:World} {b r c:Nat} {F:Nat->Nat->Bool} (h:TI w b F) (hr:r+1<40) (hc:c+1<40) (hv:F (r+1) (c+1)=true) (hb:b<w.heap.size) (B:Below W.heap.size W w):SJ W b F r c w.drew :=
 ⟨by have:=h.1 (r+1) (c+1) hr hc;rw[hv] at this;exact this,bvc_of (h.1 r c (by omega) (by omega)),h.2,TJ.of h r c,hb,B.drew⟩
theorem SJ.call {W w w2:World} {b r c:Nat} {F:Nat->Nat->Bool} (hb:Below w.heap.size w w2) (h:SJ W b F r c w):SJ W b F r c w2:=by
 obtain⟨h1,h2,h3,⟨x,h4⟩,h5,h6⟩:=h
 exact⟨below_cell hb h1,bvc_of (below_cell hb h2),(h4.below hb h5).2,⟨x,h4.below hb h5⟩,Nat.lt_of_lt_of_le h5 hb.size,bt h6 hb⟩
theorem SJ.store {W w:World} {r c:Nat} {F:Nat->Nat->Bool} (hr:r+1<40) (hc:c+1<40) (v:Bool) (h:SJ W W.heap.size F r c w):SJ W W.heap.size F r c (w.setCell ⟨W.heap.size,r*40+c,none⟩ (.bool v)):=by
 obtain⟨h1,h2,h3,h4,h5,h6⟩:=h
 have hT:=h4.set (by omega) (by omega) v
 have g1:=hT.1 (r+1) (c+1) hr hc
 have g2:=hT.1 r c (by omega) (by omega)
 refine⟨?_,bvc_of g2,hT.2,h4.set' (by omega) (by omega) v,by simpa using h5,h6.setCell (by simp) _⟩
 have hne:r*40+c≠(r+1)*40+(c+1):=by omega
 rw[<-h1]
 simp [go_sem]
end
end Go.Proofs.YtnojclchnhmggaaGreatDoor
section
namespace Go.Proofs.YtnojclchnhmggaaGreatDoor.Ds
open Lib (compareBytes)
theorem cmp_cons (x:UInt8) (a b:List UInt8):compareBytes (x::a) (x::b)=compareBytes a b:=by
 rw[compareBytes];simp [UInt8.lt_irrefl]
theorem u8_tri (x y:UInt8):x<y∨x=y∨y<x:=by
 rcases Nat.lt_trichotomy x.toNat y.toNat with h | h | h
 · exact .inl (UInt8.lt_iff_toNat_lt.2 h)
 · exact .inr (.inl (UInt8.toNat_inj.1 h))
 · exact .inr (.inr (UInt8.lt_iff_toNat_lt.2 h))
theorem cmp_lt (x y:UInt8) (a b:List UInt8) (h:x<y):compareBytes (x::a) (y::b)=-1:=by rw[compareBytes];simp [h]
theorem cmp_gt (x y:UInt8) (a b:List UInt8) (h:y<x):compareBytes (x::a) (y::b)=1:=by
 have:¬ x<y:=fun h'=>absurd (UInt8.lt_trans h h') (UInt8.lt_irrefl y)
 rw[compareBytes];simp [h,this]
theorem cmp_zero:∀ a b:List UInt8,compareBytes a b=0↔a=b
 | [],[]=>by simp [compareBytes]
 | [],_::_=>by simp [compareBytes]
 | _::_,[]=>by simp [compareBytes]
 | x::a,y::b=>by
   rcases u8_tri x y with h | h | h
   · rw[cmp_lt _ _ _ _ h]
     have:x≠y:=fun e=>UInt8.lt_irrefl y (e ▸ h)
     simp [this]
   · subst h;rw[cmp_cons,cmp_zero a b];simp
   · rw[cmp_gt _ _ _ _ h]
     have:x≠y:=fun e=>UInt8.lt_irrefl y (e ▸ h)
     simp [this]
theorem cmp_neg:∀ a b:List UInt8,compareBytes b a=- compareBytes a b
 | [],[]=>by simp [compareBytes]
 | [],_::_=>by simp [compareBytes]
 | _::_,[]=>by simp [compareBytes]
 | x::a,y::b=>by
   rcases u8_tri x y with h | h | h
   · rw[cmp_lt _ _ _ _ h,cmp_gt _ _ _ _ h];rfl
   · subst h;rw[cmp_cons,cmp_cons,cmp_neg a b]
   · rw[cmp_lt _ _ _ _ h,cmp_gt _ _ _ _ h]
theorem cmp_trans:∀ a b c:List UInt8,compareBytes a b<=0->compareBytes b c<=0->compareBytes a c<=0
 | [],b,[],_,_=>by simp [compareBytes]
 | [],b,_::_,_,_=>by simp [compareBytes]
 | _::_,[],c,h,_=>by simp [compareBytes] at h
 | _::_,_::_,[],_,h=>by simp [compareBytes] at h
 | x::a,y::b,z::c,h,k=>by
   rcases u8_tri x y with h1 | h1 | h1
   · rcases u8_tri y z with h2 | h2 | h2
     · rw[cmp_lt _ _ _ _ (UInt8.lt_trans h1 h2)];simp
     · subst h2;rw[cmp_lt _ _ _ _ h1];simp
     · rw[cmp_gt _ _ _ _ h2] at k;simp at k
   · subst h1
     rcases u8_tri x z with h2 | h2 | h2
     · rw[cmp_lt _ _ _ _ h2];simp
     · subst h2;rw[cmp_cons] at h k ⊢;exact cmp_trans a b c h k
     · rw[cmp_gt _ _ _ _ h2] at k;simp at k
   · rw[cmp_gt _ _ _ _ h1] at h;simp at h
/-! pieces -/
theorem pieces_dot (a b:List UInt8):pieces (a++46::b)=pieces a++pieces b:=by
 induction a with
 | nil=>simp [pieces]
 | cons c r ih =>
   simp only[List.cons_append,pieces,ih]
   split
   · rfl
   · cases e:pieces r with
     | nil=>exact absurd e (pieces_ne r)
     | cons p ps=>simp
theorem pieces_plain (q:List UInt8) (h:46 ∉ q):pieces q=[q]:=by
 induction q with
 | nil=>rfl
 | cons c r ih =>
   simp only[List.mem_cons,not_or] at h
   rw[pieces,if_neg (fun e=>h.1 e.symm),ih h.2]
theorem pieces_nodot (s:List UInt8):∀ q∈pieces s,46 ∉ q:=by
 induction s with
 | nil=>simp [pieces]
 | cons c r ih =>
   intro q hq
   simp only[pieces] at hq
   split at hq
   · rcases List.mem_cons.1 hq with rfl | hq
     · simp
     · exact ih q hq
   · rename_i hc
     cases e:pieces r with
     | nil=>exact absurd e (pieces_ne r)
     | cons p ps =>
       rw[e] at hq ih
       simp only at hq
       rcases List.mem_cons.1 hq with rfl | hq
       · simp only[List.mem_cons,not_or]
         exact⟨fun h=>hc h.symm,ih p (by simp)⟩
       · exact ih q (by simp [hq])
theorem pieces_joined (L:List (List UInt8)) (h:L≠[]) (hq:∀ q∈L,46 ∉ q):pieces (Lib.join L [46])=L:=by
 induction L with
 | nil=>exact absurd rfl h
 | cons a r ih =>
   cases r with
   | nil=>rw[Lib.join_one,pieces_plain a (hq a (by simp))]
   | cons b r =>
     rw[join_cons2,List.append_assoc,List.singleton_append,pieces_dot,pieces_plain a (hq a (by simp)),ih (by simp) (fun q h=>hq q (by simp [h]))]
     rfl
/-! bytes of names and patterns -/
theorem pl_bd (c:UInt8) (h:pl c=true):c.toNat<=90∧c≠46∧c≠42:=by
 simp only[pl,up,dg,Bool.or_eq_true,Bool.and_eq_true,decide_eq_true_eq] at h
 exact⟨by omega,fun e=>by subst e;simp at h,fun e=>by subst e;simp at h⟩
theorem up_pl (c:UInt8) (h:up c=true):pl c=true:=by simp [pl,h]
theorem pls_bd (c:UInt8) (h:pls c=true):c.toNat<=90∧c≠46:=by
 simp only[pls,pl,up,dg,Bool.or_eq_true,Bool.and_eq_true,decide_eq_true_eq] at h
 exact⟨by omega,fun e=>by subst e;simp at h⟩
theorem ups_pls (c:UInt8) (h:ups c=true):pls c=true:=by
 simp only[ups,Bool.or_eq_true] at h
 rcases h with h | h <;> simp [pls,pl,h]
theorem qual_all (F G:UInt8->Bool) (hFG:∀ c,F c=true->G c=true) (q:List UInt8) (h:qual F G q=true):∀ c∈q,G c=true:=by
 cases q with
 | nil=>simp
 | cons x r =>
   simp only[qual,Bool.and_eq_true,decide_eq_true_eq,List.all_eq_true] at h
   intro c hc
   rcases List.mem_cons.1 hc with rfl | hc
   · exact hFG _ h.1.2
   · exact h.2 c hc
theorem nameQ_pl (q:List UInt8) (h:nameQ q=true):∀ c∈q,pl c=true:=qual_all up pl up_pl q h
theorem patQ_pls (q:List UInt8) (h:patQ q=true):∀ c∈q,pls c=true:=by
 unfold patQ at h
 simp only[Bool.or_eq_true,Bool.and_eq_true,decide_eq_true_eq] at h
 rcases h with rfl | h
 · intro c hc;simp at hc;subst hc;rfl
 · exact qual_all ups pls ups_pls q h.1
theorem nameQ_patQ (q:List UInt8) (h:nameQ q=true):patQ q=true:=by
 have hp:=nameQ_pl q h
 have hs:ss q=false:=by
  rw[Bool.eq_false_iff]
  intro e
  obtain⟨j,h1,h2,_⟩:=(ss_iff q).1 e
  have hj:j<q.length:=by omega
  rw[List.getD_eq_getElem?_getD,List.getElem?_eq_getElem hj,Option.getD_some] at h2
  exact (pl_bd _ (hp _ (List.getElem_mem hj))).2.2 (UInt8.toNat_inj.1 h2)
 unfold patQ
 rw[hs]
 unfold nameQ at h
 cases q with
 | nil=>simp [qual] at h
 | cons x r =>
   simp only[qual,Bool.and_eq_true,decide_eq_true_eq,List.all_eq_true] at h
   simp only[qual,Bool.not_false,Bool.and_true,Bool.or_eq_true,Bool.and_eq_true,decide_eq_true_eq,List.all_eq_true]
   exact .inr ⟨⟨h.1.1,by simp [ups,h.1.2]⟩,fun c hc=>by simp [pls,h.2 c hc]⟩
theorem name_parts (s:List UInt8):name s=true↔(1<=s.length∧s.length<=31)∧∀ q∈pieces s,nameQ q=true:=by
 simp [name,and_assoc]
theorem pat_parts (s:List UInt8):pat s=true↔(1<=s.length∧s.length<=31)∧∀ q∈pieces s,patQ q=true:=by
 simp [pat,and_assoc]
theorem name_pat (s:List UInt8) (h:name s=true):pat s=true:=by
 rw[name_parts] at h;rw[pat_parts]
 exact⟨h.1,fun q hq=>nameQ_patQ q (h.2 q hq)⟩
/-! the key of a pattern -/
theorem keyQ_nodot (q:List UInt8) (h:46 ∉ q):46 ∉ keyQ q:=by
 unfold keyQ
 split
 · simp
 · intro hm
   rw[List.mem_map] at hm
   obtain⟨c,hc,e⟩:=hm
   split at e
   · simp at e
   · subst e;exact h hc
theorem pieces_key (p:List UInt8):pieces (key p)=(pieces p).map keyQ:=by
 unfold key
 refine pieces_joined _ (by simp [pieces_ne]) ?_
 intro q hq
 rw[List.mem_map] at hq
 obtain⟨r,hr,rfl⟩:=hq
 exact keyQ_nodot r (pieces_nodot p r hr)
theorem k254 (c d:UInt8) (hc:c.toNat<=90) (hd:d.toNat<=90) (h:(if c=42 then 254 else c)=(if d=42 then (254:UInt8) else d)):c=d:=by
 split at h <;> split at h
 · rename_i a b;rw[a,b]
 · subst h;simp at hd
 · subst h;simp at hc
 · exact h
theorem map_inj (q r:List UInt8) (hq:∀ c∈q,c.toNat<=90) (hr:∀ c∈r,c.toNat<=90) (h:(q.map fun c=>if c=42 then (254:UInt8) else c)=r.map fun c=>if c=42 then 254 else c):q=r:=by
 induction q generalizing r with
 | nil=>cases r <;> simp at h ⊢
 | cons c q ih =>
   cases r with
   | nil=>simp at h
   | cons d r =>
     simp only[List.map_cons,List.cons.injEq] at h
     rw[k254 c d (hq c (by simp)) (hr d (by simp)) h.1,ih r (fun c hc=>hq c (by simp [hc])) (fun c hc=>hr c (by simp [hc])) h.2]
theorem keyQ_inj (q r:List UInt8) (hq:patQ q=true) (hr:patQ r=true) (h:keyQ q=keyQ r):q=r:=by
 have bq:∀ c∈q,c.toNat<=90:=fun c hc=>(pls_bd c (patQ_pls q hq c hc)).1
 have br:∀ c∈r,c.toNat<=90:=fun c hc=>(pls_bd c (patQ_pls r hr c hc)).1
 have no:∀ s:List UInt8,(∀ c∈s,c.toNat<=90)->(s.map fun c=>if c=42 then (254:UInt8) else c)≠[255]:=by
  intro s hs e
  have:(255:UInt8)∈s.map fun c=>if c=42 then (254:UInt8) else c:=by rw[e];simp
  rw[List.mem_map] at this
  obtain⟨c,hc,e⟩:=this
  split at e
  · simp at e
  · subst e;have:=hs _ hc;simp at this
 unfold keyQ at h
 split at h <;> split at h
 · rename_i a b;rw[a,b]
 · exact absurd h.symm (no r br)
 · exact absurd h (no q bq)
 · exact map_inj q r bq br h
theorem map_keyQ_inj:∀ (P Q:List (List UInt8)),(∀ q∈P,patQ q=true)->(∀ q∈Q,patQ q=true)->P.map keyQ=Q.map keyQ->P=Q
 | [],[],_,_,_=>rfl
 | [],_::_,_,_,h=>by simp at h
 | _::_,[],_,_,h=>by simp at h
 | a::P,b::Q,hP,hQ,h=>by
   simp only[List.map_cons,List.cons.injEq] at h
   rw[keyQ_inj a b (hP a (by simp)) (hQ b (by simp)) h.1,map_keyQ_inj P Q (fun q hq=>hP q (by simp [hq])) (fun q hq=>hQ q (by simp [hq])) h.2]
theorem key_inj (a b:List UInt8) (ha:pat a=true) (hb:pat b=true) (h:key a=key b):a=b:=by
 rw[pat_parts] at ha hb
 have h':=congrArg pieces h
 rw[pieces_key,pieces_key] at h'
 rw[<-join_pieces a,<-join_pieces b,map_keyQ_inj _ _ ha.2 hb.2 h']
end Go.Proofs.YtnojclchnhmggaaGreatDoor.Ds
end
section
namespace Go.Proofs.YtnojclchnhmggaaGreatDoor.Ds
open Lib (compareBytes)
def k1 (c:UInt8):UInt8:=if c=42 then 254 else c
theorem group_parts (g:List UInt8):group g=true↔name g=true∧g.length<=22∧∀ q∈pieces g,num q=0:=by
 simp [group,and_assoc]
end Go.Proofs.YtnojclchnhmggaaGreatDoor.Ds
end
namespace Go.Proofs.YtnojclchnhmggaaGreatDoor
section
open Go.RowKit
set_option maxHeartbeats 2000000
set_option maxRecDepth 3000
end
section
open Go.RowKit
set_option maxHeartbeats 2000000
set_option maxRecDepth 3000
end
end Go.Proofs.YtnojclchnhmggaaGreatDoor
section
namespace Go.Proofs.YtnojclchnhmggaaGreatDoor
open Go.RowKit
set_option maxHeartbeats 800000
namespace Ds
end Ds
namespace Ds
end Ds
end Go.Proofs.YtnojclchnhmggaaGreatDoor
end
