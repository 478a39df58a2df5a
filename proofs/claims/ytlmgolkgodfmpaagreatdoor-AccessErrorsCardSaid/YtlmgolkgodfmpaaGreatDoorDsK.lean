/- Several texts in one: DsL DsK. -/
import Derived.Test.YtlmgolkgodfmpaaGreatDoorDs
import Derived.Test.YtlmgolkgodfmpaaGreatDoorCal
section
/- Laws of names in plain words: order, matching, pieces. No program in sight. -/
namespace Go.Proofs.YtlmgolkgodfmpaaGreatDoor.Ds
open Lib (compareBytes)
theorem cmp_cons (x:UInt8) (a b:List UInt8):compareBytes (x::a) (x::b)=compareBytes a b:=by
 rw[compareBytes];simp [UInt8.lt_irrefl]
theorem cmp_self (a:List UInt8):compareBytes a a=0:=by
 induction a with
 | nil=>rfl
 | cons x a ih=>rw[cmp_cons,ih]
theorem u8_tri (x y:UInt8):x<y∨x=y∨y<x:=by
 rcases Nat.lt_trichotomy x.toNat y.toNat with h | h | h
 · exact .inl (UInt8.lt_iff_toNat_lt.2 h)
 · exact .inr (.inl (UInt8.toNat_inj.1 h))
 · exact .inr (.inr (UInt8.lt_iff_toNat_lt.2 h))
theorem cmp_lt (x y:UInt8) (a b:List UInt8) (h:x<y):compareBytes (x::a) (y::b)=-1:=by rw[compareBytes];simp [h]
theorem cmp_gt (x y:UInt8) (a b:List UInt8) (h:y<x):compareBytes (x::a) (y::b)=1:=by
 have:¬ x<y:=fun h'=>absurd (UInt8.lt_trans h h') (UInt8.lt_irrefl y)
 rw[compareBytes];simp [h,this]
theorem cmp_val:∀ a b:List UInt8,compareBytes a b=-1∨compareBytes a b=0∨compareBytes a b=1
 | [],[]=>by simp [compareBytes]
 | [],_::_=>by simp [compareBytes]
 | _::_,[]=>by simp [compareBytes]
 | x::a,y::b=>by
   rcases u8_tri x y with h | h | h
   · rw[cmp_lt _ _ _ _ h];simp
   · subst h;rw[cmp_cons];exact cmp_val a b
   · rw[cmp_gt _ _ _ _ h];simp
theorem cmp_zero:∀ a b:List UInt8,compareBytes a b=0↔a=b
 | [],[]=>by simp [compareBytes]
 | [],_::_=>by simp [compareBytes]
 | _::_,[]=>by simp [compareBytes]
 | x::a,y::b=>by
   rcases u8_tri x y with h | h | h
   · rw[cmp_lt _ _ _ _ h]
     have:x≠y:=fun e=>UInt8.lt_irrefl y (e ▸ h)
     simp [this]
   · subst h;rw[cmp_cons,cmp_zero a b];simp
   · rw[cmp_gt _ _ _ _ h]
     have:x≠y:=fun e=>UInt8.lt_irrefl y (e ▸ h)
     simp [this]
theorem cmp_neg:∀ a b:List UInt8,compareBytes b a=- compareBytes a b
 | [],[]=>by simp [compareBytes]
 | [],_::_=>by simp [compareBytes]
 | _::_,[]=>by simp [compareBytes]
 | x::a,y::b=>by
   rcases u8_tri x y with h | h | h
   · rw[cmp_lt _ _ _ _ h,cmp_gt _ _ _ _ h];rfl
   · subst h;rw[cmp_cons,cmp_cons,cmp_neg a b]
   · rw[cmp_lt _ _ _ _ h,cmp_gt _ _ _ _ h]
theorem cmp_trans:∀ a b c:List UInt8,compareBytes a b≤0→compareBytes b c≤0→compareBytes a c≤0
 | [],b,[],_,_=>by simp [compareBytes]
 | [],b,_::_,_,_=>by simp [compareBytes]
 | _::_,[],c,h,_=>by simp [compareBytes] at h
 | _::_,_::_,[],_,h=>by simp [compareBytes] at h
 | x::a,y::b,z::c,h,k=>by
   rcases u8_tri x y with h1 | h1 | h1
   · rcases u8_tri y z with h2 | h2 | h2
     · rw[cmp_lt _ _ _ _ (UInt8.lt_trans h1 h2)];simp
     · subst h2;rw[cmp_lt _ _ _ _ h1];simp
     · rw[cmp_gt _ _ _ _ h2] at k;simp at k
   · subst h1
     rcases u8_tri x z with h2 | h2 | h2
     · rw[cmp_lt _ _ _ _ h2];simp
     · subst h2;rw[cmp_cons] at h k ⊢;exact cmp_trans a b c h k
     · rw[cmp_gt _ _ _ _ h2] at k;simp at k
   · rw[cmp_gt _ _ _ _ h1] at h;simp at h
/-! pieces -/
theorem pieces_dot (a b:List UInt8):pieces (a++46::b)=pieces a++pieces b:=by
 induction a with
 | nil=>simp [pieces]
 | cons c r ih =>
   simp only[List.cons_append,pieces,ih]
   split
   · rfl
   · cases e:pieces r with
     | nil=>exact absurd e (pieces_ne r)
     | cons p ps=>simp
theorem pieces_plain (q:List UInt8) (h:46 ∉ q):pieces q=[q]:=by
 induction q with
 | nil=>rfl
 | cons c r ih =>
   simp only[List.mem_cons,not_or] at h
   rw[pieces,if_neg (fun e=>h.1 e.symm),ih h.2]
theorem pieces_nodot (s:List UInt8):∀ q∈pieces s,46 ∉ q:=by
 induction s with
 | nil=>simp [pieces]
 | cons c r ih =>
   intro q hq
   simp only[pieces] at hq
   split at hq
   · rcases List.mem_cons.1 hq with rfl | hq
     · simp
     · exact ih q hq
   · rename_i hc
     cases e:pieces r with
     | nil=>exact absurd e (pieces_ne r)
     | cons p ps =>
       rw[e] at hq ih
       simp only at hq
       rcases List.mem_cons.1 hq with rfl | hq
       · simp only[List.mem_cons,not_or]
         exact⟨fun h=>hc h.symm,ih p (by simp)⟩
       · exact ih q (by simp [hq])
theorem pieces_joined (L:List (List UInt8)) (h:L≠[]) (hq:∀ q∈L,46 ∉ q):pieces (Lib.join L [46])=L:=by
 induction L with
 | nil=>exact absurd rfl h
 | cons a r ih =>
   cases r with
   | nil=>rw[Lib.join_one,pieces_plain a (hq a (by simp))]
   | cons b r =>
     rw[join_cons2,List.append_assoc,List.singleton_append,pieces_dot,pieces_plain a (hq a (by simp)),ih (by simp) (fun q h=>hq q (by simp [h]))]
     rfl
/-! bytes of names and patterns -/
theorem pl_bd (c:UInt8) (h:pl c=true):c.toNat≤90∧c≠46∧c≠42:=by
 simp only[pl,up,dg,Bool.or_eq_true,Bool.and_eq_true,decide_eq_true_eq] at h
 exact⟨by omega,fun e=>by subst e;simp at h,fun e=>by subst e;simp at h⟩
theorem up_pl (c:UInt8) (h:up c=true):pl c=true:=by simp [pl,h]
theorem pls_bd (c:UInt8) (h:pls c=true):c.toNat≤90∧c≠46:=by
 simp only[pls,pl,up,dg,Bool.or_eq_true,Bool.and_eq_true,decide_eq_true_eq] at h
 exact⟨by omega,fun e=>by subst e;simp at h⟩
theorem ups_pls (c:UInt8) (h:ups c=true):pls c=true:=by
 simp only[ups,Bool.or_eq_true] at h
 rcases h with h | h <;> simp [pls,pl,h]
theorem qual_all (F G:UInt8→Bool) (hFG:∀ c,F c=true→G c=true) (q:List UInt8) (h:qual F G q=true):∀ c∈q,G c=true:=by
 cases q with
 | nil=>simp
 | cons x r =>
   simp only[qual,Bool.and_eq_true,decide_eq_true_eq,List.all_eq_true] at h
   intro c hc
   rcases List.mem_cons.1 hc with rfl | hc
   · exact hFG _ h.1.2
   · exact h.2 c hc
theorem nameQ_pl (q:List UInt8) (h:nameQ q=true):∀ c∈q,pl c=true:=qual_all up pl up_pl q h
theorem patQ_pls (q:List UInt8) (h:patQ q=true):∀ c∈q,pls c=true:=by
 unfold patQ at h
 simp only[Bool.or_eq_true,Bool.and_eq_true,decide_eq_true_eq] at h
 rcases h with rfl | h
 · intro c hc;simp at hc;subst hc;rfl
 · exact qual_all ups pls ups_pls q h.1
theorem nameQ_patQ (q:List UInt8) (h:nameQ q=true):patQ q=true:=by
 have hp:=nameQ_pl q h
 have hs:ss q=false:=by
  rw[Bool.eq_false_iff]
  intro e
  obtain⟨j,h1,h2,_⟩:=(ss_iff q).1 e
  have hj:j<q.length:=by omega
  rw[List.getD_eq_getElem?_getD,List.getElem?_eq_getElem hj,Option.getD_some] at h2
  exact (pl_bd _ (hp _ (List.getElem_mem hj))).2.2 (UInt8.toNat_inj.1 h2)
 unfold patQ
 rw[hs]
 unfold nameQ at h
 cases q with
 | nil=>simp [qual] at h
 | cons x r =>
   simp only[qual,Bool.and_eq_true,decide_eq_true_eq,List.all_eq_true] at h
   simp only[qual,Bool.not_false,Bool.and_true,Bool.or_eq_true,Bool.and_eq_true,decide_eq_true_eq,List.all_eq_true]
   exact .inr ⟨⟨h.1.1,by simp [ups,h.1.2]⟩,fun c hc=>by simp [pls,h.2 c hc]⟩
theorem name_parts (s:List UInt8):name s=true↔(1≤s.length∧s.length≤31)∧∀ q∈pieces s,nameQ q=true:=by
 simp [name,and_assoc]
theorem pat_parts (s:List UInt8):pat s=true↔(1≤s.length∧s.length≤31)∧∀ q∈pieces s,patQ q=true:=by
 simp [pat,and_assoc]
theorem name_pat (s:List UInt8) (h:name s=true):pat s=true:=by
 rw[name_parts] at h;rw[pat_parts]
 exact⟨h.1,fun q hq=>nameQ_patQ q (h.2 q hq)⟩
/-! the key of a pattern -/
theorem keyQ_nodot (q:List UInt8) (h:46 ∉ q):46 ∉ keyQ q:=by
 unfold keyQ
 split
 · simp
 · intro hm
   rw[List.mem_map] at hm
   obtain⟨c,hc,e⟩:=hm
   split at e
   · simp at e
   · subst e;exact h hc
theorem pieces_key (p:List UInt8):pieces (key p)=(pieces p).map keyQ:=by
 unfold key
 refine pieces_joined _ (by simp [pieces_ne]) ?_
 intro q hq
 rw[List.mem_map] at hq
 obtain⟨r,hr,rfl⟩:=hq
 exact keyQ_nodot r (pieces_nodot p r hr)
theorem k254 (c d:UInt8) (hc:c.toNat≤90) (hd:d.toNat≤90) (h:(if c=42 then 254 else c)=(if d=42 then (254:UInt8) else d)):c=d:=by
 split at h <;> split at h
 · rename_i a b;rw[a,b]
 · subst h;simp at hd
 · subst h;simp at hc
 · exact h
theorem map_inj (q r:List UInt8) (hq:∀ c∈q,c.toNat≤90) (hr:∀ c∈r,c.toNat≤90) (h:(q.map fun c=>if c=42 then (254:UInt8) else c)=r.map fun c=>if c=42 then 254 else c):q=r:=by
 induction q generalizing r with
 | nil=>cases r <;> simp at h ⊢
 | cons c q ih =>
   cases r with
   | nil=>simp at h
   | cons d r =>
     simp only[List.map_cons,List.cons.injEq] at h
     rw[k254 c d (hq c (by simp)) (hr d (by simp)) h.1,ih r (fun c hc=>hq c (by simp [hc])) (fun c hc=>hr c (by simp [hc])) h.2]
theorem keyQ_inj (q r:List UInt8) (hq:patQ q=true) (hr:patQ r=true) (h:keyQ q=keyQ r):q=r:=by
 have bq:∀ c∈q,c.toNat≤90:=fun c hc=>(pls_bd c (patQ_pls q hq c hc)).1
 have br:∀ c∈r,c.toNat≤90:=fun c hc=>(pls_bd c (patQ_pls r hr c hc)).1
 have no:∀ s:List UInt8,(∀ c∈s,c.toNat≤90)→(s.map fun c=>if c=42 then (254:UInt8) else c)≠[255]:=by
  intro s hs e
  have:(255:UInt8)∈s.map fun c=>if c=42 then (254:UInt8) else c:=by rw[e];simp
  rw[List.mem_map] at this
  obtain⟨c,hc,e⟩:=this
  split at e
  · simp at e
  · subst e;have:=hs _ hc;simp at this
 unfold keyQ at h
 split at h <;> split at h
 · rename_i a b;rw[a,b]
 · exact absurd h.symm (no r br)
 · exact absurd h (no q bq)
 · exact map_inj q r bq br h
theorem map_keyQ_inj:∀ (P Q:List (List UInt8)),(∀ q∈P,patQ q=true)→(∀ q∈Q,patQ q=true)→P.map keyQ=Q.map keyQ→P=Q
 | [],[],_,_,_=>rfl
 | [],_::_,_,_,h=>by simp at h
 | _::_,[],_,_,h=>by simp at h
 | a::P,b::Q,hP,hQ,h=>by
   simp only[List.map_cons,List.cons.injEq] at h
   rw[keyQ_inj a b (hP a (by simp)) (hQ b (by simp)) h.1,map_keyQ_inj P Q (fun q hq=>hP q (by simp [hq])) (fun q hq=>hQ q (by simp [hq])) h.2]
theorem key_inj (a b:List UInt8) (ha:pat a=true) (hb:pat b=true) (h:key a=key b):a=b:=by
 rw[pat_parts] at ha hb
 have h':=congrArg pieces h
 rw[pieces_key,pieces_key] at h'
 rw[← join_pieces a,← join_pieces b,map_keyQ_inj _ _ ha.2 hb.2 h']
theorem order_ref (a b:List UInt8):(if pat a=true∧pat b=true∧a≠b then (if compareBytes (key a) (key b)<0 then -1 else 1) else 0)=order a b:=by
 unfold order
 by_cases ha:pat a=true
 · by_cases hb:pat b=true
   · rw[ha,hb]
     by_cases e:a=b
     · subst e;simp [cmp_self]
     · have hk:compareBytes (key a) (key b)≠0:=fun h=>e (key_inj a b ha hb ((cmp_zero _ _).1 h))
       rcases cmp_val (key a) (key b) with h | h | h
       · simp [h,e]
       · exact absurd h hk
       · simp [h,e]
   · simp [hb]
 · simp [ha]
/-! names match themselves alone -/
theorem mt_eq {α:Type} [DecidableEq α] (star:α→Bool) (one:α→α→Bool):∀ (p l:List α),(∀ a∈p,star a=false)→(∀ a∈p,∀ b,one a b=decide (a=b))→mt star one p l=decide (p=l)
 | [],[],_,_=>by simp [mt]
 | [],_::_,_,_=>by simp [mt]
 | a::p,[],h,_=>by simp [mt,h a (by simp)]
 | a::p,b::l,h,ho=>by
   rw[mt,h a (by simp),ho a (by simp) b,mt_eq star one p l (fun a ha=>h a (by simp [ha])) (fun a ha=>ho a (by simp [ha]))]
   rw[Bool.eq_iff_iff];simp
theorem mtQ_eq (q s:List UInt8) (h:42 ∉ q):mtQ q s=decide (q=s) :=
 mt_eq _ _ q s (fun a ha=>by simp;rintro rfl;exact h ha) (fun _ _ _=>rfl)
theorem match_parts (p s:List UInt8):match_ p s=true↔pat p=true∧name s=true∧mtP (pieces p) (pieces s)=true:=by
 simp [match_,and_assoc]
end Go.Proofs.YtlmgolkgodfmpaaGreatDoor.Ds
end
section
/- Laws of names in plain words: a name stands before the patterns that it matches; patterns below; generations; parts. -/
namespace Go.Proofs.YtlmgolkgodfmpaaGreatDoor.Ds
open Lib (compareBytes)
def k1 (c:UInt8):UInt8:=if c=42 then 254 else c
theorem keyQ_map (q:List UInt8) (h:q≠[42,42]):keyQ q=q.map k1:=by unfold keyQ;rw[if_neg h];rfl
theorem order_bad (a b:List UInt8) (h:¬ (pat a=true∧pat b=true)):order a b=0:=by
 unfold order;rw[if_neg (by simpa [Bool.and_eq_true] using h)]
theorem group_parts (g:List UInt8):group g=true↔name g=true∧g.length≤22∧∀ q∈pieces g,num q=0:=by
 simp [group,and_assoc]
end Go.Proofs.YtlmgolkgodfmpaaGreatDoor.Ds
end
