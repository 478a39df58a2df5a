/- Entries with their Ids: in a list of the call's own, in a map of the call's own. -/
import Derived.Sort.LotA
import Derived.Test.YtnojclchnhmggaaGreatDoorNx
import Derived.Test.YtnojclchnhmggaaGreatDoorDsH
import Derived.Test.YtnojclchnhmggaaGreatDoorNo
import Derived.ChangeMaps5
import Derived.WideKeyRuns
import Derived.Maps.RangeRun
import Derived.Test.YtnojclchnhmggaaGreatDoorAcA
import Derived.Test.YtnojclchnhmggaaGreatDoorChA
section
namespace Go.Proofs.YtnojclchnhmggaaGreatDoor
theorem perm_sorted_eq {α:Type} (le:α->α->Prop):∀ (l1 l2:List α),l1.Pairwise le->l2.Pairwise le->l1.Perm l2->(∀ a∈l1,∀ b∈l1,le a b->le b a->a=b)->l1=l2
 | [],l2,_,_,hp,_=>(List.nil_perm.1 hp).symm
 | x::r,[],_,_,hp,_=>by cases List.perm_nil.1 hp
 | x::r,y::s,h1,h2,hp,ha=>by
   obtain⟨p1,q1⟩:=List.pairwise_cons.1 h1
   obtain⟨p2,q2⟩:=List.pairwise_cons.1 h2
   have hy:y∈x::r:=hp.symm.subset (List.mem_cons_self ..)
   have hx:x∈y::s:=hp.subset (List.mem_cons_self ..)
   have e:x=y:=by
    rcases List.mem_cons.1 hy with e | e
    · exact e.symm
    · rcases List.mem_cons.1 hx with e2 | e2
      · exact e2
      · exact ha x (List.mem_cons_self ..) y hy (p1 y e) (p2 x e2)
   subst e
   rw[perm_sorted_eq le r s q1 q2 ((List.perm_cons x).1 hp) (fun a h b k=>ha a (List.mem_cons_of_mem _ h) b (List.mem_cons_of_mem _ k))]
section
variable {α κ:Type} [DecidableEq κ]
def tput (k:α->κ) (bet:α->α->Bool):List α->α->List α
 | [],x=>[x]
 | y::r,x=>if k y=k x then (if bet x y then x::r else y::r) else y::tput k bet r x
theorem tput_map {β:Type} (f:α->β) (k:β->κ) (bet:β->β->Bool) (x:α):∀ l:List α,(tput (fun a=>k (f a)) (fun a b=>bet (f a) (f b)) l x).map f=tput k bet (l.map f) (f x)
 | []=>rfl
 | y::r=>by
   rw[tput,List.map_cons,tput,<-tput_map f k bet x r]
   split
   · split <;> rfl
   · rfl
theorem tput_congr {κ':Type} [DecidableEq κ'] (k:α->κ) (k':α->κ') (bet bet':α->α->Bool) (x:α):∀ l:List α,(∀ y∈l,(k y=k x↔k' y=k' x)∧bet x y=bet' x y)->tput k bet l x=tput k' bet' l x
 | [],_=>rfl
 | y::r,h=>by
   obtain⟨h1,h2⟩:=h y (List.mem_cons_self ..)
   rw[tput,tput,tput_congr k k' bet bet' x r (fun z hz=>h z (List.mem_cons_of_mem _ hz)),h2]
   by_cases e:k y=k x
   · rw[if_pos e,if_pos (h1.1 e)]
   · rw[if_neg e,if_neg (fun q=>e (h1.2 q))]
theorem tput_filter (k:α->κ) (bet:α->α->Bool) (P:α->Bool) (x:α) (hx:P x=true) (hP:∀ y,k y=k x->P y=true):∀ l:List α,(tput k bet l x).filter P=tput k bet (l.filter P) x
 | []=>by rw[tput,List.filter_cons,if_pos hx];rfl
 | y::r=>by
   rw[tput]
   by_cases e:k y=k x
   · rw[if_pos e,List.filter_cons,if_pos (hP y e),tput,if_pos e]
     split
     · rw[List.filter_cons,if_pos hx]
     · rw[List.filter_cons,if_pos (hP y e)]
   · rw[if_neg e,List.filter_cons,List.filter_cons,tput_filter k bet P x hx hP r]
     split
     · rw[tput,if_neg e]
     · rfl
theorem tput_filter_no (k:α->κ) (bet:α->α->Bool) (P:α->Bool) (x:α) (hx:P x=false) (hP:∀ y,k y=k x->P y=false):∀ l:List α,(tput k bet l x).filter P=l.filter P
 | []=>by rw[tput,List.filter_cons,if_neg (by rw[hx];simp)]
 | y::r=>by
   rw[tput]
   by_cases e:k y=k x
   · rw[if_pos e]
     split
     · rw[List.filter_cons,if_neg (by rw[hx];simp),List.filter_cons,if_neg (by rw[hP y e];simp)]
     · rfl
   · rw[if_neg e,List.filter_cons,List.filter_cons,tput_filter_no k bet P x hx hP r]
theorem tput_all (Q:α->Prop) (k:α->κ) (bet:α->α->Bool) (x:α) (hx:Q x):∀ l:List α,(∀ y∈l,Q y)->∀ y∈tput k bet l x,Q y
 | [],_,y,hy=>by rw[tput,List.mem_singleton] at hy;rw[hy];exact hx
 | z::r,h,y,hy=>by
   rw[tput] at hy
   have hz:=h z (List.mem_cons_self ..)
   have hr:=fun u hu=>h u (List.mem_cons_of_mem z hu)
   split at hy
   · split at hy
     · rcases List.mem_cons.1 hy with rfl | hy
       · exact hx
       · exact hr _ hy
     · rcases List.mem_cons.1 hy with rfl | hy
       · exact hz
       · exact hr _ hy
   · rcases List.mem_cons.1 hy with rfl | hy
     · exact hz
     · exact tput_all Q k bet x hx r hr _ hy
theorem tput_keys (k:α->κ) (bet:α->α->Bool) (x:α):∀ l:List α,(tput k bet l x).map k=if k x∈l.map k then l.map k else l.map k++[k x]
 | []=>by simp [tput]
 | y::r=>by
   rw[tput]
   by_cases e:k y=k x
   · have m:k x∈(y::r).map k:=by rw[List.map_cons,e];exact List.mem_cons_self ..
     rw[if_pos e,if_pos m]
     split <;> simp [e]
   · rw[if_neg e,List.map_cons,tput_keys k bet x r,List.map_cons]
     by_cases m:k x∈r.map k
     · rw[if_pos m,if_pos (List.mem_cons_of_mem _ m)]
     · rw[if_neg m,if_neg (fun q=>by rcases List.mem_cons.1 q with q | q;exact e q.symm;exact m q)];rfl
theorem tput_nodup (k:α->κ) (bet:α->α->Bool) (x:α) (l:List α) (h:(l.map k).Nodup):((tput k bet l x).map k).Nodup:=by
 rw[tput_keys]
 split
 · exact h
 · rename_i hn
   exact List.nodup_append.2 ⟨h,by simp,fun a ha b hb e=>by rw[List.mem_singleton] at hb;subst e;subst hb;exact hn ha⟩
theorem tput_len (k:α->κ) (bet:α->α->Bool) (x:α):∀ l:List α,(tput k bet l x).length<=l.length+1
 | []=>Nat.le_refl _
 | y::r=>by
   have:=tput_len k bet x r
   rw[tput]
   split
   · split <;> simp
   · simp only[List.length_cons];omega
end
/-! insertion, from the end -/
section
variable {α:Type} (lt:α->α->Bool)
def insK (x:α) (l:List α):Nat->Nat
 | 0=>0
 | k+1=>match l[k]? with
   | some y=>if lt x y then insK x l k else k+1
   | none=>k+1
def insL (l:List α) (x:α):List α:=l.take (insK lt x l l.length)++x::l.drop (insK lt x l l.length)
def srtL (l:List α):List α:=l.foldl (insL lt) []
theorem insL_perm (l:List α) (x:α):(insL lt l x).Perm (x::l):=by
 unfold insL
 have h:=@List.perm_middle _ x (l.take (insK lt x l l.length)) (l.drop (insK lt x l l.length))
 rwa [List.take_append_drop] at h
theorem foldl_ins_perm (l:List α):∀ acc:List α,(l.foldl (insL lt) acc).Perm (acc++l):=by
 induction l with
 | nil=>intro acc;rw[List.append_nil];exact .refl _
 | cons x r ih =>
   intro acc
   rw[List.foldl_cons]
   exact (ih _).trans (((insL_perm lt acc x).append_right r).trans (List.perm_middle.symm))
theorem srtL_perm (l:List α):(srtL lt l).Perm l:=foldl_ins_perm lt l []
theorem insK_le (x:α) (l:List α):∀ k,insK lt x l k<=k
 | 0=>Nat.le_refl _
 | k+1=>by
   rw[insK]
   split
   · split
     · exact Nat.le_succ_of_le (insK_le x l k)
     · exact Nat.le_refl _
   · exact Nat.le_refl _
theorem insK_spec (x:α) (l:List α):∀ k,k<=l.length->(∀ j (h:j<l.length),insK lt x l k<=j->j<k->lt x l[j]=true)∧(∀ j (h:j<l.length),j+1=insK lt x l k->lt x l[j]=false)
 | 0,_=>⟨fun j _ _ h=>absurd h (by omega),fun j _ h=>by rw[insK] at h;omega⟩
 | k+1,hk=>by
   have hlt:k<l.length:=by omega
   obtain⟨h1,h2⟩:=insK_spec x l k (by omega)
   rw[insK,List.getElem?_eq_getElem hlt]
   dsimp only
   cases e:lt x l[k]
   · rw[if_neg (by simp)]
     exact⟨fun j _ a b=>absurd a (by omega),fun j _ a=>by have q:j=k:=(by omega);subst q;exact e⟩
   · rw[if_pos rfl]
     refine⟨fun j h a b=>?_,h2⟩
     rcases Nat.lt_or_ge j k with q | q
     · exact h1 j h a q
     · obtain rfl:j=k:=by omega
       exact e
theorem insL_sorted (h1:∀ x y z,lt x y=false->lt y z=false->lt x z=false) (h2:∀ x y,lt x y=true->lt y x=false) (l:List α) (x:α) (hl:l.Pairwise (fun a b=>lt b a=false)):(insL lt l x).Pairwise (fun a b=>lt b a=false):=by
 obtain⟨q1,q2⟩:=insK_spec lt x l l.length (Nat.le_refl _)
 have q0:=insK_le lt x l l.length
 unfold insL
 generalize insK lt x l l.length=k at q0 q1 q2 ⊢
 have hs:=hl
 rw[<-List.take_append_drop k l,List.pairwise_append] at hs
 obtain⟨s1,s2,s3⟩:=hs
 have hb:∀ b∈l.drop k,lt b x=false:=fun b hb=>by
  obtain⟨i,hi,rfl⟩:=List.getElem_of_mem hb
  rw[List.getElem_drop]
  rw[List.length_drop] at hi
  exact h2 _ _ (q1 (k+i) (by omega) (by omega) (by omega))
 have ha:∀ a∈l.take k,lt x a=false:=fun a ha=>by
  obtain⟨i,hi,rfl⟩:=List.getElem_of_mem ha
  rw[List.getElem_take]
  rw[List.length_take] at hi
  have hk:=q2 (k - 1) (by omega) (by omega)
  rcases Nat.lt_or_ge i (k - 1) with h | h
  · have:=List.pairwise_iff_getElem.1 hl i (k - 1) (by omega) (by omega) h
    exact h1 _ _ _ hk this
  · obtain rfl:i=k - 1:=by omega
    exact hk
 rw[List.pairwise_append]
 refine⟨s1,List.pairwise_cons.2 ⟨hb,s2⟩,fun a m b n=>?_⟩
 rcases List.mem_cons.1 n with rfl | n
 · exact ha a m
 · exact s3 a m b n
theorem foldl_ins_sorted (h1:∀ x y z,lt x y=false->lt y z=false->lt x z=false) (h2:∀ x y,lt x y=true->lt y x=false) (l:List α):∀ acc:List α,acc.Pairwise (fun a b=>lt b a=false)->(l.foldl (insL lt) acc).Pairwise (fun a b=>lt b a=false):=by
 induction l with
 | nil=>intro acc h;exact h
 | cons x r ih=>intro acc h;exact ih _ (insL_sorted lt h1 h2 acc x h)
theorem srtL_sorted (h1:∀ x y z,lt x y=false->lt y z=false->lt x z=false) (h2:∀ x y,lt x y=true->lt y x=false) (l:List α):(srtL lt l).Pairwise (fun a b=>lt b a=false):=foldl_ins_sorted lt h1 h2 l [] List.Pairwise.nil
end
/-! orders given by a comparison -/
structure IsCmp {α:Type} (c:α->α->Int):Prop where
 neg:∀ a b,c b a=- c a b
 trans:∀ a b d,c a b<=0->c b d<=0->c a d<=0
namespace IsCmp
variable {α β:Type} {c c':α->α->Int}
theorem comap (h:IsCmp c) (f:β->α):IsCmp (fun a b=>c (f a) (f b)):=⟨fun _ _=>h.neg _ _,fun _ _ _=>h.trans _ _ _⟩
theorem lt_le (h:IsCmp c) {a b d:α} (h1:c a b<0) (h2:c b d<=0):c a d<0:=by
 have h3:=h.trans a b d (by omega) h2
 rcases Int.lt_or_le (c a d) 0 with q | q
 · exact q
 · have e1:=h.neg a d
   have e2:=h.neg a b
   have:=h.trans b d a h2 (by omega)
   omega
theorem le_lt (h:IsCmp c) {a b d:α} (h1:c a b<=0) (h2:c b d<0):c a d<0:=by
 have h3:=h.trans a b d h1 (by omega)
 rcases Int.lt_or_le (c a d) 0 with q | q
 · exact q
 · have e1:=h.neg a d
   have e2:=h.neg b d
   have:=h.trans d a b (by omega) h1
   omega
theorem lex (h:IsCmp c) (h':IsCmp c'):IsCmp (fun a b=>if c a b=0 then c' a b else c a b):=by
 refine⟨fun a b=>?_,fun a b d h1 h2=>?_⟩
 · have e1:=h.neg a b
   have e2:=h'.neg a b
   split
   · split
     · exact e2
     · omega
   · split
     · omega
     · exact e1
 · split at h1
   · rename_i e1
     split at h2
     · rename_i e2
       have n1:=h.neg a b
       have n2:=h.neg b d
       have n3:=h.neg a d
       have t1:=h.trans a b d (by omega) (by omega)
       have t2:=h.trans d b a (by omega) (by omega)
       rw[if_pos (by omega)]
       exact h'.trans a b d h1 h2
     · have:=h.le_lt (a:=a) (b:=b) (d:=d) (by omega) (by omega)
       rw[if_neg (by omega)]
       omega
   · have:=h.lt_le (a:=a) (b:=b) (d:=d) (by omega) (by split at h2 <;> omega)
     rw[if_neg (by omega)]
     omega
theorem ntr (h:IsCmp c) (x y z:α) (h1:decide (c x y<0)=false) (h2:decide (c y z<0)=false):decide (c x z<0)=false:=by
 rw[decide_eq_false_iff_not] at h1 h2 ⊢
 have e1:=h.neg x y
 have e2:=h.neg y z
 have e3:=h.neg x z
 have:=h.trans z y x (by omega) (by omega)
 omega
theorem asy (h:IsCmp c) (x y:α) (h1:decide (c x y<0)=true):decide (c y x<0)=false:=by
 rw[decide_eq_true_eq] at h1
 rw[decide_eq_false_iff_not]
 have e1:=h.neg x y
 omega
theorem zero (h:IsCmp c) {x y:α} (h1:decide (c x y<0)=false) (h2:decide (c y x<0)=false):c x y=0:=by
 rw[decide_eq_false_iff_not] at h1 h2
 have e1:=h.neg x y
 omega
theorem swo (h:IsCmp c):Go.Sort.SWO (fun x y=>decide (c x y<0)):=by
 refine⟨fun x=>?_,fun x y z h1 h2=>?_,fun x y z h1 h2=>h.ntr x y z h1 h2⟩
 · rw[decide_eq_false_iff_not]
   have e1:=h.neg x x
   omega
 · rw[decide_eq_true_eq] at h1 h2 ⊢
   exact h.lt_le h1 (by omega)
end IsCmp
def cmpI (a b:Int):Int:=if a<b then -1 else if b<a then 1 else 0
theorem cmpI_is:IsCmp cmpI:=by
 refine⟨fun a b=>?_,fun a b d=>?_⟩
 · unfold cmpI;repeat' split
   all_goals omega
 · unfold cmpI;repeat' split
   all_goals omega
theorem cmpI_zero {a b:Int} (h:cmpI a b=0):a=b:=by
 unfold cmpI at h
 split at h
 · cases h
 · split at h
   · cases h
   · omega
theorem perm_arr {α:Type} [Inhabited α] {d d':Array α} (h:Go.Sort.PermIn 0 d.size d d'):d'.toList.Perm d.toList:=by
 obtain⟨h1,-,h3⟩:=h
 have e:d'.extract 0 d.size=d':=by rw[<-h1];exact Array.extract_size ..
 rw[e] at h3
 simpa using h3
theorem sorted_arr {α:Type} [Inhabited α] {lt:α->α->Bool} {n:Nat} {d:Array α} (hn:d.size=n) (h:Go.Sort.SortedIn lt 0 n d):d.toList.Pairwise (fun a b=>lt b a=false):=by
 rw[List.pairwise_iff_getElem]
 intro i j hi hj hij
 have:=h i j (Nat.zero_le _) hij (by simpa [hn] using hj)
 rw[Array.length_toList] at hi hj
 rw[getElem!_pos d i hi,getElem!_pos d j hj] at this
 simpa using this
end Go.Proofs.YtnojclchnhmggaaGreatDoor
end
namespace Go.Proofs.YtnojclchnhmggaaGreatDoor
section
abbrev Lb:=Int × ByteArray × ByteArray
abbrev Tl:=Fu × Int
def tKey (x:Tl):Int × ByteArray:=(x.1.1.kind,x.1.1.name)
def tNm (x:Tl):ByteArray:=x.1.1.name
def betS (x y:Tl):Bool:=decide (y.2<x.2)
def betG (x y:Tl):Bool:=decide (y.1.1.last<x.1.1.last) || (decide (x.1.1.last=y.1.1.last)&&decide (y.2<x.2))
def tellX (x:Lb):Option (Fu × Fu):=match parseX (Ds.bl x.2.2) with
 | none=>none
 | some p=>if p.1.1.d0=x.1∧p.1.1.vol=x.2.1 then some p else none
def stP (st:List Tl × List Tl) (x:Lb):List Tl × List Tl:=match tellX x with
 | none=>st
 | some p=>(tput tNm betS st.1 (p.1,x.1),if p.2.1.kind=1 then tput tNm betG st.2 (p.2,x.1) else st.2)
def stR (l:List Tl) (x:Lb):List Tl:=match tellX x with
 | none=>l
 | some p=>if p.2.1.kind=1 then tput tKey betG (tput tKey betG l (p.1,x.1)) (p.2,x.1) else tput tKey betG l (p.1,x.1)
def is0 (y:Tl):Bool:=decide (y.1.1.kind=0)
def TOk (y:Tl):Prop:=okX y.1=true∧(y.1.1.kind=0∨y.1.1.kind=1)
theorem fit_kind (n:List UInt8) (g:Fu) (h:fitG n g=true):g=zFu∨(okX g=true∧g.1.kind=1):=by
 cases hq:Ds.gen n
 · exact Or.inl (fitG_no n g h hq)
 · exact Or.inr (fitG_yes n g h hq)
theorem par_ok {s:List UInt8} {p:Fu × Fu} (h:parseX s=some p):okX p.1=true∧p.1.1.kind=0∧(p.2=zFu∨(okX p.2=true∧p.2.1.kind=1)):=by
 obtain⟨h1,h2,h3⟩:=noteOk_parts p.1 p.2 (parse_sound s p.1 p.2 h).1
 exact⟨h1,h2,fit_kind _ _ h3⟩
theorem tellX_ok {x:Lb} {p:Fu × Fu} (h:tellX x=some p):okX p.1=true∧p.1.1.kind=0∧(p.2=zFu∨(okX p.2=true∧p.2.1.kind=1)):=by
 unfold tellX at h
 split at h
 · cases h
 · rename_i q hq
   split at h
   · cases h;exact par_ok hq
   · cases h
theorem tell_g {x:Lb} {p:Fu × Fu} (h:tellX x=some p) (hk:p.2.1.kind=1):okX p.2=true:=by
 rcases (tellX_ok h).2.2 with e | e
 · rw[e] at hk;exact absurd hk (by decide)
 · exact e.1
theorem data_last (x:Fu) (h:okX x=true) (hk:x.1.kind=0):x.1.last=0:=by
 obtain⟨e,l,r⟩:=x
 dsimp only at hk ⊢
 unfold okX at h
 dsimp only at h
 rw[if_pos hk] at h
 unfold okD at h
 simp only[Bool.and_eq_true] at h
 have:=((sameE_eq _ _ _ _ _ _).1 h.2).1
 rw[<-this]
 rfl
theorem st_first {l:List Tl} {e:Fu} (id:Int) (hl:∀ y∈l,TOk y) (h1:okX e=true) (h2:e.1.kind=0) :
  (tput tKey betG l (e,id)).filter is0=tput tNm betS (l.filter is0) (e,id)∧(tput tKey betG l (e,id)).filter (fun y=>!is0 y)=l.filter (fun y=>!is0 y):=by
 have hk:∀ y:Tl,tKey y=tKey (e,id)->is0 y=true:=fun y hy=>by
  have:=(Prod.mk.inj hy).1
  exact decide_eq_true (this.trans h2)
 refine⟨?_,tput_filter_no tKey betG (fun y=>!is0 y) (e,id) (by simp [is0,h2]) (fun y hy=>by rw[hk y hy];rfl) l⟩
 rw[tput_filter tKey betG is0 (e,id) (decide_eq_true h2) hk]
 refine tput_congr _ _ _ _ _ _ fun y hy=>?_
 obtain⟨hy1,hy2⟩:=List.mem_filter.1 hy
 have hy2:y.1.1.kind=0:=of_decide_eq_true hy2
 refine⟨⟨fun q=>(Prod.mk.inj q).2,fun q=>Prod.ext (hy2.trans h2.symm) q⟩,?_⟩
 unfold betG betS
 rw[data_last e h1 h2,data_last y.1 (hl y hy1).1 hy2]
 simp
theorem st_second {l:List Tl} {g:Fu} (id:Int) (hl:∀ y∈l,TOk y) (h2:g.1.kind=1) :
  (tput tKey betG l (g,id)).filter is0=l.filter is0∧(tput tKey betG l (g,id)).filter (fun y=>!is0 y)=tput tNm betG (l.filter (fun y=>!is0 y)) (g,id):=by
 have hk:∀ y:Tl,tKey y=tKey (g,id)->is0 y=false:=fun y hy=>by
  have:=(Prod.mk.inj hy).1
  exact decide_eq_false (by rw[this];show ¬ g.1.kind=0;omega)
 refine⟨tput_filter_no tKey betG is0 (g,id) (decide_eq_false (by show ¬ g.1.kind=0;omega)) hk l,?_⟩
 rw[tput_filter tKey betG (fun y=>!is0 y) (g,id) (by simp [is0,h2]) (fun y hy=>by rw[hk y hy];rfl)]
 refine tput_congr _ _ _ _ _ _ fun y hy=>?_
 obtain⟨hy1,hy2⟩:=List.mem_filter.1 hy
 have hy3:y.1.1.kind=1:=by
  rcases (hl y hy1).2 with q | q
  · simp [is0,q] at hy2
  · exact q
 exact⟨⟨fun q=>(Prod.mk.inj q).2,fun q=>Prod.ext (hy3.trans h2.symm) q⟩,rfl⟩
theorem st_ok {l:List Tl} (x:Lb) (hl:∀ y∈l,TOk y):∀ y∈stR l x,TOk y:=by
 unfold stR
 cases h:tellX x with
 | none=>exact hl
 | some p =>
   obtain⟨h1,h2,-⟩:=tellX_ok h
   have q:=tput_all TOk tKey betG (p.1,x.1) ⟨h1,Or.inl h2⟩ l hl
   dsimp only
   split
   · rename_i hk
     exact tput_all TOk tKey betG (p.2,x.1) ⟨tell_g h hk,Or.inr hk⟩ _ q
   · exact q
theorem st_rel (l:List Tl) (x:Lb) (hl:∀ y∈l,TOk y):stP (l.filter is0,l.filter (fun y=>!is0 y)) x=((stR l x).filter is0,(stR l x).filter (fun y=>!is0 y)):=by
 unfold stP stR
 cases h:tellX x with
 | none=>rfl
 | some p =>
   obtain⟨h1,h2,-⟩:=tellX_ok h
   obtain⟨a1,a2⟩:=st_first x.1 hl h1 h2
   have q:=tput_all TOk tKey betG (p.1,x.1) ⟨h1,Or.inl h2⟩ l hl
   dsimp only
   split
   · rename_i hk
     obtain⟨b1,b2⟩:=st_second x.1 q hk
     rw[b1,b2,a1,a2]
   · rw[a1,a2]
theorem st_nodup {l:List Tl} (x:Lb) (h:(l.map tKey).Nodup):((stR l x).map tKey).Nodup:=by
 unfold stR
 split
 · exact h
 · split
   · exact tput_nodup _ _ _ _ (tput_nodup _ _ _ _ h)
   · exact tput_nodup _ _ _ _ h
theorem st_len (l:List Tl) (x:Lb):(stR l x).length<=l.length+2:=by
 unfold stR
 split
 · omega
 · rename_i p _
   have h1:=tput_len tKey betG (p.1,x.1) l
   split
   · have h2:=tput_len tKey betG (p.2,x.1) (tput tKey betG l (p.1,x.1))
     omega
   · omega
def allR (L:List Lb):List Tl:=L.foldl stR []
def allP (L:List Lb):List Tl × List Tl:=L.foldl stP ([],[])
theorem all_facts (L:List Lb):∀ l:List Tl,(∀ y∈l,TOk y)->(l.map tKey).Nodup->(∀ y∈L.foldl stR l,TOk y)∧((L.foldl stR l).map tKey).Nodup∧L.foldl stP (l.filter is0,l.filter (fun y=>!is0 y))=((L.foldl stR l).filter is0,(L.foldl stR l).filter (fun y=>!is0 y))∧(L.foldl stR l).length<=l.length+2*L.length:=by
 induction L with
 | nil=>exact fun l h1 h2=>⟨h1,h2,rfl,by simp⟩
 | cons x r ih =>
   intro l h1 h2
   obtain⟨q1,q2,q3,q4⟩:=ih (stR l x) (st_ok x h1) (st_nodup x h2)
   have:=st_len l x
   rw[List.foldl_cons,List.foldl_cons,st_rel l x h1,List.length_cons]
   exact⟨q1,q2,q3,by omega⟩
theorem allR_ok (L:List Lb):∀ y∈allR L,TOk y:=(all_facts L [] (fun y h=>by cases h) List.nodup_nil).1
theorem allR_nodup (L:List Lb):((allR L).map tKey).Nodup:=(all_facts L [] (fun y h=>by cases h) List.nodup_nil).2.1
theorem allR_len (L:List Lb):(allR L).length<=2*L.length:=by
 have:=(all_facts L [] (fun y h=>by cases h) List.nodup_nil).2.2.2
 simpa [allR] using this
theorem allP_perm (L:List Lb):((allP L).1++(allP L).2).Perm (allR L):=by
 have h:=(all_facts L [] (fun y h=>by cases h) List.nodup_nil).2.2.1
 have e:allP L=((allR L).filter is0,(allR L).filter (fun y=>!is0 y)):=h
 rw[e]
 exact List.filter_append_perm is0 (allR L)
theorem nodup_inj {α κ:Type} (k:α->κ):∀ l:List α,(l.map k).Nodup->∀ a∈l,∀ b∈l,k a=k b->a=b
 | [],_,a,ha,_,_,_=>by cases ha
 | x::r,h,a,ha,b,hb,e=>by
   rw[List.map_cons,List.nodup_cons] at h
   rcases List.mem_cons.1 ha with rfl | ha'
   · rcases List.mem_cons.1 hb with rfl | hb'
     · rfl
     · exact absurd (e ▸ List.mem_map_of_mem hb') h.1
   · rcases List.mem_cons.1 hb with rfl | hb'
     · exact absurd (e.symm ▸ List.mem_map_of_mem ha') h.1
     · exact nodup_inj k r h.2 a ha' b hb' e
theorem key_inj (x y:Fu) (hx:okX x=true) (hy:okX y=true) (h:keyX x=keyX y):x.1.kind=y.1.kind∧x.1.name=y.1.name:=by
 obtain⟨a1,a2⟩:=keyX_name x hx
 obtain⟨b1,b2⟩:=keyX_name y hy
 rw[a1,b1] at h
 injection h with e1 e2
 have k1:=kindOf_letter _ (okX_kind x hx)
 have k2:=kindOf_letter _ (okX_kind y hy)
 rw[e1,k2] at k1
 exact⟨(Option.some.inj k1).symm,Ds.bl_inj (by rw[<-a2,e2,b2])⟩
theorem bytes_is:IsCmp Lib.compareBytes:=⟨Ds.cmp_neg,Ds.cmp_trans⟩
def cmpK (x y:Fu):Int:=Lib.compareBytes (keyX x) (keyX y)
theorem cmpK_is:IsCmp cmpK:=bytes_is.comap keyX
def ltK (x y:Fu):Bool:=decide (cmpK x y<0)
def entsR (L:List Lb):List Fu:=srtL ltK ((allR L).map Prod.fst)
theorem ents_uni (L:List Lb) (d:List Fu) (hp:d.Perm ((allP L).1.map Prod.fst++(allP L).2.map Prod.fst)) (hs:d.Pairwise (fun a b=>ltK b a=false)):d=entsR L:=by
 have hq:d.Perm ((allR L).map Prod.fst):=by
  rw[<-List.map_append] at hp
  exact hp.trans ((allP_perm L).map _)
 refine perm_sorted_eq _ _ _ hs (srtL_sorted ltK cmpK_is.ntr cmpK_is.asy _) (hq.trans (srtL_perm ltK _).symm) fun a ha b hb h1 h2=>?_
 obtain⟨y,hy,rfl⟩:=List.mem_map.1 (hq.subset ha)
 obtain⟨z,hz,rfl⟩:=List.mem_map.1 (hq.subset hb)
 have h0:keyX y.1=keyX z.1:=(Ds.cmp_zero _ _).1 (cmpK_is.zero h2 h1)
 obtain⟨e1,e2⟩:=key_inj _ _ (allR_ok L y hy).1 (allR_ok L z hz).1 h0
 rw[nodup_inj tKey _ (allR_nodup L) y hy z hz (Prod.ext e1 e2)]
theorem entsR_len (L:List Lb):(entsR L).length<=2*L.length:=by
 have:=(srtL_perm ltK ((allR L).map Prod.fst)).length_eq
 unfold entsR
 rw[this,List.length_map]
 exact allR_len L
/-! differences: kind, Id, volume, name -/
abbrev Df:=Int × Int × ByteArray × ByteArray
def cmpB (a b:ByteArray):Int:=Lib.compareBytes a.data.toList b.data.toList
def cmpD (a b:Df):Int:=if cmpI a.2.1 b.2.1=0 then (if cmpB a.2.2.1 b.2.2.1=0 then (if cmpI a.1 b.1=0 then cmpB a.2.2.2 b.2.2.2 else cmpI a.1 b.1) else cmpB a.2.2.1 b.2.2.1) else cmpI a.2.1 b.2.1
theorem cmpB_is:IsCmp cmpB:=bytes_is.comap (fun a:ByteArray=>a.data.toList)
theorem cmpD_is:IsCmp cmpD:=(cmpI_is.comap (fun a:Df=>a.2.1)).lex ((cmpB_is.comap (fun a:Df=>a.2.2.1)).lex ((cmpI_is.comap (fun a:Df=>a.1)).lex (cmpB_is.comap (fun a:Df=>a.2.2.2))))
theorem cmpB_zero {a b:ByteArray} (h:cmpB a b=0):a=b:=Ds.bl_inj ((Ds.cmp_zero _ _).1 h)
theorem cmpD_zero {a b:Df} (h:cmpD a b=0):a=b:=by
 unfold cmpD at h
 split at h
 · rename_i e1
   split at h
   · rename_i e2
     split at h
     · rename_i e3
       exact Prod.ext (cmpI_zero e3) (Prod.ext (cmpI_zero e1) (Prod.ext (cmpB_zero e2) (cmpB_zero h)))
     · rename_i e3;exact absurd h e3
   · rename_i e2;exact absurd h e2
 · rename_i e1;exact absurd h e1
def ltD (a b:Df):Bool:=decide (cmpD a b<0)
def lab (L:List Lb) (id:Int) (vol:ByteArray):Bool:=L.any (fun x=>decide (x.1=id∧x.2.1=vol))
def dif1 (L:List Lb) (e:Fu):List Df:=if e.1.kind=0∧lab L e.1.d0 e.1.vol=false then [(0,e.1.d0,e.1.vol,e.1.name)] else []
def fstE (E:List Fu) (id:Int):Option Fu:=E.find? (fun e=>decide (e.1.kind=0∧e.1.d0=id))
def noteIs (s:List UInt8) (e:Fu):Bool:=match parseX s with
 | none=>false
 | some p=>sameE p.1.1 e.1 p.1.2.1 e.2.1 p.1.2.2 e.2.2
def dif2 (E:List Fu) (x:Lb):List Df:=match fstE E x.1 with
 | none=>[(1,x.1,x.2.1,⟨#[]⟩)]
 | some e=>if e.1.vol=x.2.1 then (if noteIs (Ds.bl x.2.2) e=true then [] else [(2,x.1,x.2.1,e.1.name)]) else [(3,x.1,x.2.1,e.1.name)]
def difs (E:List Fu) (L:List Lb):List Df:=E.flatMap (dif1 L)++L.flatMap (dif2 E)
def diffR (E:List Fu) (L:List Lb):List Df:=srtL ltD (difs E L)
theorem diff_uni (E:List Fu) (L:List Lb) (d:List Df) (hp:d.Perm (difs E L)) (hs:d.Pairwise (fun a b=>ltD b a=false)):d=diffR E L :=
 perm_sorted_eq _ _ _ hs (srtL_sorted ltD cmpD_is.ntr cmpD_is.asy _) (hp.trans (srtL_perm ltD _).symm) fun _ _ _ _ h1 h2=>cmpD_zero (cmpD_is.zero h2 h1)
theorem flat_len {α β:Type} (f:α->List β) (h:∀ x,(f x).length<=1):∀ l:List α,(l.flatMap f).length<=l.length
 | []=>Nat.le_refl _
 | x::r=>by
   have:=flat_len f h r
   have:=h x
   rw[List.flatMap_cons,List.length_append,List.length_cons]
   omega
theorem dif1_len (L:List Lb) (e:Fu):(dif1 L e).length<=1:=by unfold dif1;split <;> simp
theorem dif2_len (E:List Fu) (x:Lb):(dif2 E x).length<=1:=by
 unfold dif2
 split
 · simp
 · split
   · split <;> simp
   · simp
theorem difs_len (E:List Fu) (L:List Lb):(difs E L).length<=E.length+L.length:=by
 have h1:=flat_len (dif1 L) (dif1_len L) E
 have h2:=flat_len (dif2 E) (dif2_len E) L
 unfold difs
 rw[List.length_append]
 omega
theorem diffR_len (E:List Fu) (L:List Lb):(diffR E L).length<=E.length+L.length:=by
 unfold diffR
 rw[(srtL_perm ltD _).length_eq]
 exact difs_len E L
end
section
open Go.RowKit
open Go.ChangeMaps (setBlock)
set_option maxHeartbeats 1600000
set_option maxRecDepth 8000
section
variable {K:Type} [DecidableEq K]
def gents (pk:K->Value):List (K × Value)->Nat->List MapEntry
 | [],_=>[]
 | x::r,i=>⟨pk x.1,x.2,i⟩::gents pk r (i+1)
def gent (pk:K->Value) (es:List (K × Value)):Array MapEntry:=(gents pk es 0).toArray
def gget (k:K):List (K × Value)->Option Value
 | []=>none
 | x::r=>if k=x.1 then some x.2 else gget k r
def midx (k:K):List (K × Value)->Nat->Option (Nat × Value)
 | [],_=>none
 | x::r,i=>if k=x.1 then some (i,x.2) else midx k r (i+1)
def gput (k:K) (v:Value) (es:List (K × Value)):List (K × Value):=tput Prod.fst (fun _ _=>true) es (k,v)
variable (pk:K->Value)
theorem gents_len {K:Type} (pk:K->Value):∀ (es:List (K × Value)) (i:Nat),(gents pk es i).length=es.length
 | [],_=>rfl
 | _::r,i=>by rw[gents,List.length_cons,gents_len pk r (i+1),List.length_cons]
theorem gents_snoc {K:Type} (pk:K->Value) (x:K × Value):∀ (es:List (K × Value)) (i:Nat),gents pk (es++[x]) i=gents pk es i++[⟨pk x.1,x.2,i+es.length⟩]
 | [],i=>rfl
 | a::r,i=>by rw[List.cons_append,gents,gents,gents_snoc pk x r (i+1),List.length_cons,List.cons_append,Nat.add_assoc,Nat.add_comm 1]
theorem gents_get {K:Type} (pk:K->Value):∀ (es:List (K × Value)) (i n:Nat),(gents pk es i)[n]?=es[n]?.map (fun x=>⟨pk x.1,x.2,i+n⟩)
 | [],i,n=>by simp [gents]
 | x::r,i,0=>by simp [gents]
 | x::r,i,n+1=>by
   rw[gents,List.getElem?_cons_succ,List.getElem?_cons_succ,gents_get pk r (i+1) n,Nat.add_assoc,Nat.add_comm 1]
variable {pk}
theorem midx_none (k:K):∀ (es:List (K × Value)) (i:Nat),gget k es=none->midx k es i=none
 | [],_,_=>rfl
 | x::r,i,h=>by
   rw[gget] at h
   split at h
   · cases h
   · rename_i e;rw[midx,if_neg e];exact midx_none k r (i+1) h
theorem gput_none (k:K) (v:Value):∀ (es:List (K × Value)),gget k es=none->gput k v es=es++[(k,v)]
 | [],_=>rfl
 | x::r,h=>by
   rw[gget] at h
   split at h
   · cases h
   · rename_i e
     have:=gput_none k v r h
     unfold gput at this ⊢
     rw[tput,if_neg (fun q=>e q.symm),this];rfl
theorem midx_some (k:K):∀ (es:List (K × Value)) (i j:Nat) (v:Value),gget k es=some v->∃ n,midx k es i=some (i+n,v)∧n<es.length∧(gents pk es j)[n]?=some ⟨pk k,v,j+n⟩∧∀ u,(gents pk es j).modify n (fun e=>⟨pk k,u,e.born⟩)=gents pk (gput k u es) j
 | [],_,_,_,h=>by cases h
 | x::r,i,j,v,h=>by
   rw[gget] at h
   by_cases e:k=x.1
   · rw[if_pos e] at h
     cases h
     refine⟨0,by rw[midx,if_pos e];rfl,by simp,by simp [gents,e],fun u=>?_⟩
     unfold gput
     rw[tput,if_pos e.symm]
     simp [gents]
   · rw[if_neg e] at h
     obtain⟨n,h1,h2,h3,h4⟩:=midx_some k r (i+1) (j+1) v h
     refine⟨n+1,by rw[midx,if_neg e,h1,Nat.add_assoc,Nat.add_comm 1],by simp;omega,by rw[gents,List.getElem?_cons_succ,h3,Nat.add_assoc,Nat.add_comm 1],fun u=>?_⟩
     have:=h4 u
     unfold gput at this ⊢
     rw[tput,if_neg (fun q=>e q.symm),gents,gents,<-this]
     simp
variable {P:Program} (pk)
structure MK (P:Program) (t kt et:TypeId) (z:Value):Prop where
 hu:P.underlying t=some (.map kt et)
 ck:∀ b k w,(Instr.checkKey b 10000 kt (pk k)).run P w=.ok () w
 fk:∀ k es w,(Instr.findKey kt (pk k) (gents pk es 0)).run P w=.ok (midx k es 0) w
 sb:∀ k,Instr.sameBits 10000 (pk k) (pk k)=true
 zv:∀ w,(zeroValue et).run P w=.ok z w
variable {pk} {t kt et:TypeId} {z:Value}
def glkV (z:Value) (c:Bool) (o:Option Value):Value:=match o with
 | some v=>if c then .tuple #[v,.bool true] else v
 | none=>if c then .tuple #[z,.bool false] else z
theorem MK.lk (M:MK pk P t kt et z) (w:World) (m n:Nat) (es:List (K × Value)) (k:K) (c:Bool) (hb:w.heap[m]?=some (.map (gent pk es) n)) :
  (Instr.lookup t (.map (some m)) (pk k) c).run P w=.ok (glkV z c (gget k es)) w:=by
 have hck:=fun b=>M.ck b k w
 have hf:=M.fk k es w
 have hz:=M.zv w
 cases hc:gget k es with
 | some v =>
   obtain⟨n,h1,-⟩:=midx_some (pk:=pk) k es 0 0 v hc
   rw[h1] at hf
   simp [Instr.lookup,run_underlying M.hu,MapKept.run_getObj_map hb,hck,gent,hf,Result.andThen,glkV]
 | none =>
   rw[midx_none k es 0 hc] at hf
   simp [Instr.lookup,run_underlying M.hu,MapKept.run_getObj_map hb,hck,gent,hf,hz,Result.andThen,glkV]
theorem MK.kts (M:MK pk P t kt et z) (k:K) (w:World):(Instr.keyThatStays (pk k) (pk k)).run P w=.ok (pk k) w:=by
 unfold Instr.keyThatStays
 rw[M.sb k]
 rfl
theorem MK.mu (M:MK pk P t kt et z) (w:World) (m:Nat) (es:List (K × Value)) (k:K) (v:Value) (hb:w.heap[m]?=some (.map (gent pk es) es.length)) :
  (Instr.mapUpdate t (.map (some m)) (pk k) v).run P w=.ok () (setBlock w m (.map (gent pk (gput k v es)) (gput k v es).length)):=by
 have hck:=M.ck false k w
 have hf:=M.fk k es w
 cases hc:gget k es with
 | none =>
   rw[midx_none k es 0 hc] at hf
   rw[gput_none k v es hc]
   simp [Instr.mapUpdate,run_underlying M.hu,MapKept.run_getObj_map hb,hck,gent,hf,MapKept.run_setObj_map _ hb,Result.andThen,setBlock,gents_snoc]
 | some u =>
   obtain⟨n,h1,hl,hat,hm⟩:=midx_some (pk:=pk) k es 0 0 u hc
   rw[h1] at hf
   have hlen:(gput k v es).length=es.length:=by
    have:=congrArg List.length (hm v)
    rw[List.length_modify,gents_len,gents_len] at this
    exact this.symm
   rw[hlen]
   have hkk:=M.kts k
   simp [Instr.mapUpdate,run_underlying M.hu,MapKept.run_getObj_map hb,hck,gent,hf,hat,hkk,MapKept.run_setObj_map _ hb,Result.andThen,setBlock,<-hm v]
theorem MK.wlk (M:MK pk P t kt et z) {ops:Array Oper} {rest:List Oper} {o:Oper} {a:Act} {Q:Exit->Act->World->Prop} (w:World) (hg:o.guard=none) (m x:Operand) (c:Bool) (hop:o.op=Op.lookup t m x c) (b n:Nat) (es:List (K × Value)) (k:K)
  (hm:a.eval m=.map (some b)) (hx:a.eval x=pk k) (hb:w.heap[b]?=some (.map (gent pk es) n)) (R:Value) (hR:glkV z c (gget k es)=R) (hK:wpList P ops Q rest (a.put o.dst R) w):wpList P ops Q (o::rest) a w :=
 wp_lk w hg m x t c hop R (.map (some b)) (pk k) hm hx (hR ▸ M.lk w b n es k c hb) hK
theorem MK.wmu (M:MK pk P t kt et z) {ops:Array Oper} {rest:List Oper} {o:Oper} {a:Act} {Q:Exit->Act->World->Prop} (w:World) (hg:o.guard=none) (m x v:Operand) (hop:o.op=Op.mapUpdate t m x v) (b:Nat) (es:List (K × Value)) (k:K) (val:Value)
  (hm:a.eval m=.map (some b)) (hx:a.eval x=pk k) (hv:a.eval v=val) (hb:w.heap[b]?=some (.map (gent pk es) es.length))
  (hK:∀ w',w'.heap[b]?=some (.map (gent pk (gput k val es)) (gput k val es).length)->w.grownBy w' (some b)->w'.heap.size=w.heap.size->wpList P ops Q rest (a.put o.dst undef) w'):wpList P ops Q (o::rest) a w:=by
 refine wpList_plain hg fun K' hK'=>?_
 have hr:=M.mu w b es k val hb
 unfold Oper.wp
 simp [execOp,hop,hm,hx,hv,hr,Result.andThen]
 refine hK' _ _ (hK _ (setBlock_heap w b _ (Array.getElem?_eq_some_iff.1 hb).1) ⟨rfl,rfl,rfl,by simp [setBlock],fun i _ hi=>setBlock_other w b i _ (fun e=>hi (by rw[e]))⟩ (by simp [setBlock]))
/-! a range over such a map -/
def GRg (pk:K->Value) (es:List (K × Value)) (w:World) (m r:Nat) (vis:List Nat):Prop :=
 w.heap[m]?=some (.map (gent pk es) es.length)∧(∃ c,w.heap[r]?=some (.mapIter (some m) es.length vis.toArray c)∧es.length<=c)∧vis.Nodup∧(∀ i∈vis,i<es.length)∧m≠r
theorem GRg.ml {K:Type} {pk:K->Value} {es:List (K × Value)} {w:World} {m r:Nat} {vis:List Nat} (h:GRg pk es w m r vis):m<w.heap.size:=(Array.getElem?_eq_some_iff.1 h.1).1
theorem GRg.rl {K:Type} {pk:K->Value} {es:List (K × Value)} {w:World} {m r:Nat} {vis:List Nat} (h:GRg pk es w m r vis):r<w.heap.size:=by
 obtain⟨c,h1,-⟩:=h.2.1
 exact (Array.getElem?_eq_some_iff.1 h1).1
theorem GRg.keep {K:Type} {pk:K->Value} {es:List (K × Value)} {w w':World} {m r:Nat} {vis:List Nat} (h:GRg pk es w m r vis) (h1:w'.heap[m]?=w.heap[m]?) (h2:w'.heap[r]?=w.heap[r]?):GRg pk es w' m r vis:=by
 obtain⟨a,⟨c,b,d⟩,e,f,g⟩:=h
 exact⟨h1.trans a,⟨c,h2.trans b,d⟩,e,f,g⟩
theorem GRg.below {K:Type} {pk:K->Value} {es:List (K × Value)} {w w':World} {m r:Nat} {vis:List Nat} (h:GRg pk es w m r vis) (hb:Below w.heap.size w w'):GRg pk es w' m r vis:=h.keep (hb.block _ h.ml) (hb.block _ h.rl)
def visL {α:Type} (es:List α) (vis:List Nat):List α:=vis.filterMap (fun i=>es[i]?)
theorem filterMap_range {α:Type}:∀ (es:List α),(List.range es.length).filterMap (fun i=>es[i]?)=es
 | []=>rfl
 | x::r=>by
   rw[List.length_cons,List.range_succ_eq_map,List.filterMap_cons]
   simp only[List.getElem?_cons_zero,List.filterMap_map,Function.comp_def,List.getElem?_cons_succ]
   rw[show (fun i=>r[i]?)=(fun i=>r[i]?) from rfl,filterMap_range r]
theorem visL_all {α:Type} {es:List α} {vis:List Nat} (h1:vis.Nodup) (h2:∀ i∈vis,i<es.length) (h3:∀ i,i<es.length->i∈vis):(visL es vis).Perm es:=by
 have hp:vis.Perm (List.range es.length):=(List.perm_ext_iff_of_nodup h1 List.nodup_range).2 fun i=>⟨fun h=>List.mem_range.2 (h2 i h),fun h=>h3 i (List.mem_range.1 h)⟩
 have:=hp.filterMap (fun i=>es[i]?)
 rw[filterMap_range es] at this
 exact this
theorem visL_snoc {α:Type} {es:List α} {vis:List Nat} {i:Nat} (h:i<es.length):visL es (vis++[i])=visL es vis++[es[i]]:=by
 unfold visL
 rw[List.filterMap_append]
 simp [List.getElem?_eq_getElem h]
theorem gent_mem {K:Type} {pk:K->Value} {es:List (K × Value)} {e:MapEntry} (h:e∈(gent pk es).toList):∃ i,∃ hi:i<es.length,e=⟨pk es[i].1,es[i].2,i⟩:=by
 obtain⟨i,hi,rfl⟩:=List.getElem_of_mem h
 have hi':i<es.length:=by simpa [gent,gents_len] using hi
 refine⟨i,hi',?_⟩
 have:=gents_get pk es 0 i
 rw[List.getElem?_eq_getElem hi',List.getElem?_eq_getElem (by rw[gents_len];exact hi')] at this
 simpa [gent] using this
theorem gent_born {K:Type} {pk:K->Value} {es:List (K × Value)}:((gent pk es).toList.map (·.born))=List.range es.length:=by
 refine List.ext_getElem (by simp [gent,gents_len]) fun i h1 h2=>?_
 have hi':i<es.length:=by simpa using h2
 have:=gents_get pk es 0 i
 rw[List.getElem?_eq_getElem hi',List.getElem?_eq_getElem (by rw[gents_len];exact hi')] at this
 have:=Option.some.inj this
 simp [gent,this]
section
variable {ops:Array Oper} {rest:List Oper} {o:Oper} {a:Act} {Q:Exit->Act->World->Prop}
theorem MK.wrange (M:MK pk P t kt et z) (w:World) (hg:o.guard=none) (mo:Operand) (hop:o.op=Op.range t mo) (m:Nat) (es:List (K × Value)) (hm:a.eval mo=.map (some m)) (hb:w.heap[m]?=some (.map (gent pk es) es.length))
  (hK:∀ w',GRg pk es w' m w.heap.size []->Below w.heap.size w w'->w'.heap.size=w.heap.size+1->wpList P ops Q rest (a.put o.dst (.pointer (some ⟨w.heap.size,0,none⟩))) w') :
  wpList P ops Q (o::rest) a w:=by
 have hl:=(Array.getElem?_eq_some_iff.1 hb).1
 refine wpList_plain hg fun K' hK'=>?_
 have hrun:=run_range_map (P:=P) w t kt et m (gent pk es) es.length M.hu hb
 unfold Oper.wp
 simp [execOp,hop,hm,hrun,Result.andThen]
 refine hK' _ _ (hK _ ⟨(heap_alloc_old w _ hl).trans hb,⟨es.length,heap_alloc_new w _,Nat.le_refl _⟩,List.nodup_nil,fun i h=>(by cases h),by omega⟩ ((Below.refl _ _).alloc (Nat.le_refl _) _) (by simp))
theorem wnext {K:Type} (pk:K->Value) (w:World) (hg:o.guard=none) (it:Operand) (hop:o.op=Op.next it false) (m r:Nat) (es:List (K × Value)) (vis:List Nat) (hit:a.eval it=.pointer (some ⟨r,0,none⟩)) (h:GRg pk es w m r vis)
  (hDone:Hid (vis.Nodup∧(∀ i∈vis,i<es.length)∧∀ i,i<es.length->i∈vis)->wpList P ops Q rest (a.put o.dst (.tuple #[.bool false])) w)
  (hMore:∀ (i:Nat) (hi:i<es.length) (w':World),Hid (i ∉ vis∧w.grownBy w' (some r)∧w'.heap.size=w.heap.size∧GRg pk es w' m r (vis++[i])) ->
    (Instr.entry (.pointer (some ⟨r,0,none⟩))).run P w'=.ok (.tuple #[pk es[i].1,es[i].2]) w' ->
    wpList P ops Q rest (a.put o.dst (.tuple #[.bool true,pk es[i].1,es[i].2])) w') :
  wpList P ops Q (o::rest) a w:=by
 refine wpList_plain hg fun K' hK'=>?_
 unfold Oper.wp
 have hml:=h.ml
 have hrl:=h.rl
 obtain⟨hm,⟨c,hr,hc⟩,hnd,hin,hne⟩:=h
 have hold:∀ x∈(gent pk es).toList,x.born<es.length:=fun x hx=>by
  obtain⟨i,hi,rfl⟩:=gent_mem hx
  exact hi
 rcases run_next_at (P:=P) w o.type r m es.length c vis.toArray (gent pk es) es.length hr hm hold hc with ⟨h0,hrun⟩ | ⟨e,he,w1,hw1,hrun⟩
 · simp [execOp,hop,hit,hrun,Result.andThen]
   refine hK' _ _ (hDone (Lib.hid ⟨hnd,hin,fun i hi=>?_⟩))
   obtain⟨x,hx,hb⟩:∃ x,(gent pk es).toList[i]?=some x∧x.born=i:=by
    have q:((gent pk es).toList.map (·.born))[i]?=some i:=by rw[gent_born,List.getElem?_range hi]
    rw[List.getElem?_map] at q
    cases e:(gent pk es).toList[i]? with
    | none=>rw[e] at q;cases q
    | some x=>rw[e] at q;exact⟨x,rfl,Option.some.inj q⟩
   have:=all_seen (gent pk es) vis.toArray h0 x (List.mem_of_getElem? hx)
   rw[hb] at this
   simpa using this
 · have hel:=(mem_left he).1
   have hns:=(mem_left he).2
   obtain⟨i,hi,rfl⟩:=gent_mem hel
   have hni:i ∉ vis:=by simpa using hns
   have hr1:w1.heap[r]?=some (.mapIter (some m) es.length vis.toArray c):=by rcases hw1 with rfl | rfl <;> exact hr
   have hm1:w1.heap[m]?=some (.map (gent pk es) es.length):=by rcases hw1 with rfl | rfl <;> exact hm
   have hs1:w1.heap.size=w.heap.size:=by rcases hw1 with rfl | rfl <;> rfl
   have hg1:w.grownBy w1 (some r):=by rcases hw1 with rfl | rfl <;> exact⟨rfl,rfl,rfl,Nat.le_refl _,fun _ _ _=>rfl⟩
   have hpush:vis.toArray.push i=(vis++[i]).toArray:=by simp
   have hg2:w.grownBy (setBlock w1 r (.mapIter (some m) es.length (vis.toArray.push i) es.length)) (some r):=hg1.trans ⟨rfl,rfl,rfl,by simp [setBlock],fun i _ hi=>setBlock_other w1 r i _ (fun e=>hi (by rw[e]))⟩
   have hit2:(setBlock w1 r (.mapIter (some m) es.length (vis.toArray.push i) es.length)).heap[r]?=some (.mapIter (some m) es.length (vis.toArray.push i) es.length):=setBlock_heap w1 r _ (by omega)
   have hm2:(setBlock w1 r (.mapIter (some m) es.length (vis.toArray.push i) es.length)).heap[m]?=some (.map (gent pk es) es.length):=(setBlock_other w1 r m _ hne).trans hm1
   have hen:=run_entry_at (P:=P) (setBlock w1 r (.mapIter (some m) es.length (vis.toArray.push i) es.length)) r m es.length vis.toArray (gent pk es) es.length _ hit2 hm2 hel (by rw[gent_born];exact List.nodup_range)
   rw[hpush] at hg2 hit2 hm2 hen
   simp [execOp,hop,hit,hrun,Result.andThen]
   refine hK' _ _ (hMore i hi _ (Lib.hid ⟨hni,hg2,by simp [setBlock,hs1],hm2,⟨es.length,hit2,Nat.le_refl _⟩,?_,?_,hne⟩) hen)
   · rw[List.nodup_append]
     exact⟨hnd,by simp,fun x hx y hy e=>by rw[List.mem_singleton] at hy;subst e;subst hy;exact hni hx⟩
   · intro j hj
     rcases List.mem_append.1 hj with hj | hj
     · exact hin j hj
     · rw[List.mem_singleton] at hj;rw[hj];exact hi
end
end
/-! the kinds of keys: texts, numbers -/
theorem fk_now {K:Type} [DecidableEq K] {pk:K->Value} {P:Program} {kt:TypeId} {kd:TypeDesc} (hk:P.underlying kt=some kd) (hs:∀ a b,Instr.sameNow kd (pk a) (pk b)=some (decide (a=b))) (k:K) (es:List (K × Value)) (w:World):(Instr.findKey kt (pk k) (gents pk es 0)).run P w=.ok (midx k es 0) w:=by
 have hf:∀ (es:List (K × Value)) (i j:Nat),Instr.findNow kd (pk k) (gents pk es j) i=some (midx k es i):=by
  intro es
  induction es with
  | nil=>intro i j;rfl
  | cons x r ih =>
    intro i j
    rw[gents,Instr.findNow,hs k x.1,midx]
    by_cases e:k=x.1
    · rw[decide_eq_true e,if_pos e]
    · rw[decide_eq_false e,if_neg e];exact ih (i+1) (j+1)
 have:=hf es 0 0
 simp [Instr.findKey,run_underlying hk,this]
theorem fk_ask {K:Type} [DecidableEq K] {pk:K->Value} {P:Program} {kt:TypeId} (hw:(match P.underlying kt with | some (.array _ _) | some (.struct _)=>true | _=>false)=true) (hs:∀ a b w,(Op.equal kt (pk a) (pk b)).run P w=.ok (decide (a=b)) w) (k:K) (es:List (K × Value)) (w:World):(Instr.findKey kt (pk k) (gents pk es 0)).run P w=.ok (midx k es 0) w:=by
 have hf:∀ (es:List (K × Value)) (i j:Nat),(Instr.findAsking kt (pk k) (gents pk es j) i).run P w=.ok (midx k es i) w:=by
  intro es
  induction es with
  | nil=>intro i j;simp [gents,Instr.findAsking,midx]
  | cons x r ih =>
    intro i j
    have he:=hs k x.1 w
    rw[gents,midx]
    by_cases e:k=x.1
    · rw[decide_eq_true e] at he
      rw[if_pos e]
      simp [Instr.findAsking,he]
    · rw[decide_eq_false e] at he
      rw[if_neg e]
      simp [Instr.findAsking,he,ih (i+1) (j+1)]
 rw[run_findKey_eq w hw]
 exact hf es 0 0
end
section
open Go.RowKit
set_option maxHeartbeats 8000000
set_option maxRecDepth 8000
abbrev TE:=Tl × (Option Addr × Nat) × (Option Addr × Nat)
instance:Inhabited TE:=⟨(((En.zero,[],[]),0),(none,0),(none,0))⟩
def TE.al (t:TE):Value:=.slice t.2.1.1 t.1.1.2.1.length t.2.1.2
def TE.gr (t:TE):Value:=.slice t.2.2.1 t.1.1.2.2.length t.2.2.2
def TE.en (t:TE):Array Value:=t.1.1.1.vals t.al t.gr
def TE.cs (t:TE):Array Value:=t.1.1.1.vals t.al t.gr++#[.int .i64 t.1.2]
theorem TE.en_size (t:TE):t.en.size=33:=vals_size _ _ _
theorem TE.cs_size (t:TE):t.cs.size=34:=by unfold TE.cs;rw[Array.size_append,vals_size];rfl
def RdT (w:World) (t:TE):Prop:=IS w t.al t.1.1.2.1∧GS w t.gr t.1.1.2.2
def FarT (ob:Option Nat) (t:TE):Prop:=(t.1.1.2.1≠[]->∀ y,t.al.ownBlock=some y->ob≠some y)∧(t.1.1.2.2≠[]->∀ y,t.gr.ownBlock=some y->ob≠some y)
theorem is_keepB {w w':World} {v:Value} {l:List Int} (h:IS w v l) (hs:w.heap.size<=w'.heap.size) (hk:l≠[]->∀ y,v.ownBlock=some y->y<w.heap.size->w'.heap[y]?=w.heap[y]?):IS w' v l:=by
 obtain⟨a,c,rfl,h2,h3⟩:=h
 refine⟨a,c,rfl,h2,fun h0=>?_⟩
 obtain⟨bb,o,rfl,hlt,hc⟩:=h3 h0
 exact⟨bb,o,rfl,Nat.lt_of_lt_of_le hlt hs,fun k hk'=>(World.cell?_of_block (a:=⟨bb,o+k,none⟩) (hk (List.length_pos_iff.1 h0) bb rfl hlt)).trans (hc k hk')⟩
theorem gs_keepB {w w':World} {v:Value} {l:List Gr} (h:GS w v l) (hs:w.heap.size<=w'.heap.size) (hk:l≠[]->∀ y,v.ownBlock=some y->y<w.heap.size->w'.heap[y]?=w.heap[y]?):GS w' v l:=by
 obtain⟨a,c,rfl,h2,h3⟩:=h
 refine⟨a,c,rfl,h2,fun h0=>?_⟩
 obtain⟨bb,o,rfl,hlt,hc⟩:=h3 h0
 have q:=fun i=>World.cell?_of_block (w:=w) (w':=w') (a:=⟨bb,i,none⟩) (hk (List.length_pos_iff.1 h0) bb rfl hlt)
 exact⟨bb,o,rfl,Nat.lt_of_lt_of_le hlt hs,fun k hk'=>⟨(q _).trans (hc k hk').1,(q _).trans (hc k hk').2.1,(q _).trans (hc k hk').2.2⟩⟩
theorem is_ltB {w:World} {v:Value} {l:List Int} (h:IS w v l) (h0:l≠[]) {y:Nat} (hy:v.ownBlock=some y):y<w.heap.size:=by
 obtain⟨a,c,rfl,h2,h3⟩:=h
 obtain⟨bb,o,rfl,hlt,hc⟩:=h3 (List.length_pos_iff.2 h0)
 cases hy;exact hlt
theorem gs_ltB {w:World} {v:Value} {l:List Gr} (h:GS w v l) (h0:l≠[]) {y:Nat} (hy:v.ownBlock=some y):y<w.heap.size:=by
 obtain⟨a,c,rfl,h2,h3⟩:=h
 obtain⟨bb,o,rfl,hlt,hc⟩:=h3 (List.length_pos_iff.2 h0)
 cases hy;exact hlt
theorem RdT.keep {w w':World} {t:TE} {ob:Option Nat} (h:RdT w t) (hf:FarT ob t) (hs:w.heap.size<=w'.heap.size) (hk:∀ y,y<w.heap.size->ob≠some y->w'.heap[y]?=w.heap[y]?):RdT w' t :=
 ⟨is_keepB h.1 hs (fun h0 y hy hl=>hk y hl (hf.1 h0 y hy)),gs_keepB h.2 hs (fun h0 y hy hl=>hk y hl (hf.2 h0 y hy))⟩
theorem RdT.below {w w':World} {t:TE} (h:RdT w t) (hb:Below w.heap.size w w'):RdT w' t:=⟨h.1.below hb,h.2.below hb⟩
theorem RdT.far {w:World} {t:TE} (h:RdT w t) {b:Nat} (hb:w.heap.size<=b):FarT (some b) t :=
 ⟨fun h0 y hy e=>by have:=is_ltB h.1 h0 hy;have:=Option.some.inj e;omega,fun h0 y hy e=>by have:=gs_ltB h.2 h0 hy;have:=Option.some.inj e;omega⟩
theorem FarT.none (t:TE):FarT none t:=⟨fun _ _ _ e=>(by cases e),fun _ _ _ e=>(by cases e)⟩
theorem TE.one (t:TE):allOne t.en.toList=true:=vals_one _ _ _ rfl rfl
theorem allOne_app (a b:List Value) (h1:allOne a=true) (h2:allOne b=true):allOne (a++b)=true:=by
 induction a with
 | nil=>exact h2
 | cons x r ih=>rw[List.cons_append,allOne_cons,Bool.and_eq_true];rw[allOne_cons,Bool.and_eq_true] at h1;exact⟨h1.1,ih h1.2⟩
theorem TE.cs_one (t:TE):allOne t.cs.toList=true:=by
 unfold TE.cs
 rw[Array.toList_append]
 exact allOne_app _ _ t.one rfl
def tcs {α:Type} (f:α->Array Value) (ts:List α):List Value:=ts.flatMap (fun t=>(f t).toList)
section
variable {α:Type} (f:α->Array Value)
theorem tcs_app (a b:List α):tcs f (a++b)=tcs f a++tcs f b:=by unfold tcs;rw[List.flatMap_append]
theorem tcs_one (t:α):tcs f [t]=(f t).toList:=by simp [tcs]
theorem tcs_cons (t:α) (r:List α):tcs f (t::r)=(f t).toList++tcs f r:=by unfold tcs;rw[List.flatMap_cons]
theorem tcs_len (n:Nat) (hf:∀ t,(f t).size=n):∀ ts:List α,(tcs f ts).length=ts.length*n
 | []=>by simp [tcs]
 | t::r=>by
   have:=tcs_len n hf r
   rw[tcs_cons,List.length_append,this,Array.length_toList,hf,List.length_cons,Nat.succ_mul];omega
theorem tcs_at (n:Nat) (hf:∀ t,(f t).size=n):∀ (ts:List α) (k:Nat) (h:k<ts.length) (j:Nat),j<n->(tcs f ts)[k*n+j]?=(f ts[k])[j]?
 | [],k,h,_,_=>by simp at h
 | t::r,0,h,j,hj=>by
   rw[tcs_cons,List.getElem?_append_left (by rw[Array.length_toList,hf];omega)]
   simp
 | t::r,k+1,h,j,hj=>by
   have:=tcs_at n hf r k (by simpa using h) j hj
   rw[tcs_cons,List.getElem?_append_right (by rw[Array.length_toList,hf,Nat.succ_mul];omega),Array.length_toList,hf,Nat.succ_mul,show k*n+n+j - n=k*n+j by omega,this]
   rfl
theorem tcs_drop (n:Nat) (hf:∀ t,(f t).size=n):∀ (ts:List α) (k:Nat),tcs f (ts.drop k)=(tcs f ts).drop (k*n)
 | _,0=>by rw[List.drop_zero,Nat.zero_mul,List.drop_zero]
 | [],k+1=>by rw[List.drop_nil];exact List.drop_nil.symm
 | x::l,k+1=>by
   rw[List.drop_succ_cons,tcs_drop n hf l k,tcs_cons,Nat.succ_mul,Nat.add_comm,<-List.drop_drop,List.drop_left' (by rw[Array.length_toList,hf])]
theorem tcs_take (n:Nat) (hf:∀ t,(f t).size=n) (ts:List α) (k:Nat) (hk:k<=ts.length):tcs f (ts.take k)=(tcs f ts).take (k*n):=by
 conv=>rhs;rw[<-List.take_append_drop k ts,tcs_app]
 rw[List.take_left' (by rw[tcs_len f n hf,List.length_take,Nat.min_eq_left hk])]
theorem tcs_ones (h1:∀ t,allOne (f t).toList=true) (ts:List α):∀ u∈tcs f ts,u.oneCell'=true:=fun u hu=>by
 unfold tcs at hu
 obtain⟨t,-,ht⟩:=List.mem_flatMap.1 hu
 exact all1 (h1 t) u ht
end
def offK (n c k:Nat):Nat:=if c=k then 0 else k*n
section
variable {w:World} {base m g c k n:Nat} {T:TypeId} {xs:List Value}
theorem headK (h:w.ownsRow base T n (.slice (some ⟨g,0,none⟩) m c) m xs) (hk:k<=m):CS w n (.slice (some ⟨g,0,none⟩) k c) k (xs.take (k*n)):=by
 have hl:=h.1
 have hkm:k*n<=m*n:=Nat.mul_le_mul_right n hk
 refine⟨_,_,rfl,by rw[List.length_take,hl,Nat.min_eq_left hkm],fun h0=>⟨_,rfl,fun j u hu=>?_⟩⟩
 obtain⟨a,c',e,-,p⟩:=own_cells h
 obtain⟨ad,e2,q⟩:=p (by omega)
 injection e with e1
 rw[e2] at e1
 cases e1
 have hj:=(List.getElem?_eq_some_iff.1 hu).1
 rw[List.length_take] at hj
 rw[List.getElem?_take,if_pos (by omega)] at hu
 exact q j u hu
theorem tailK (h:w.ownsRow base T n (.slice (some ⟨g,0,none⟩) m c) m xs) (hc:m<=c):CS w n (.slice (some ⟨g,offK n c k,none⟩) (m - k) (c - k)) (m - k) (xs.drop (k*n)):=by
 have hl:=h.1
 refine⟨_,_,rfl,by rw[List.length_drop,hl,Nat.sub_mul],fun h0=>⟨_,rfl,fun j u hu=>?_⟩⟩
 have hk:offK n c k=k*n:=if_neg (by omega)
 obtain⟨a,c',e,-,p⟩:=own_cells h
 obtain⟨ad,e2,q⟩:=p (by omega)
 injection e with e1
 rw[e2] at e1
 cases e1
 rw[List.getElem?_drop] at hu
 have:=q _ u hu
 rw[Addr.add_lit] at this ⊢
 rw[Nat.zero_add] at this
 rw[hk]
 exact this
end
theorem slK_lo {P:Program} {ts te:TypeId} {n:Nat} (hu:P.underlying ts=some (.slice te)) (hs:∀ w,(Go.sizeOf te).run P w=.ok n w) {w:World} {g m c k:Nat} (hk:k<=m):(Instr.slice ts (.slice (some ⟨g,0,none⟩) m c) (some (.int .i64 (k:Int))) none none).run P w=.ok (.slice (some ⟨g,offK n c k,none⟩) (m - k) (c - k)) w:=by
 have h3:(0:Int)<=k:=by omega
 have h4:(k:Int)<=m:=by omega
 simp only[Instr.slice,Instr.sliceBounds,Sem.run_bind,Sem.run_pure,run_underlying hu,Result.andThen_ok,run_sliceBound _ _ _ _ _ h3 h4,Option.isSome,Bool.false_eq_true,if_false]
 rw[hs]
 unfold offK
 by_cases h1:c=k
 · simp only[Result.andThen_ok,Int.toNat_natCast,if_pos h1]
 · simp only[Result.andThen_ok,Int.toNat_natCast,if_neg h1,Option.map,Addr.add_lit,Nat.zero_add]
theorem slK_hi {P:Program} {ts te:TypeId} {n:Nat} (hu:P.underlying ts=some (.slice te)) (hs:∀ w,(Go.sizeOf te).run P w=.ok n w) {w:World} {g m c k:Nat} (hk:k<=m) (hc:m<=c):(Instr.slice ts (.slice (some ⟨g,0,none⟩) m c) none (some (.int .i64 (k:Int))) none).run P w=.ok (.slice (some ⟨g,0,none⟩) k c) w:=by
 have h3:(0:Int)<=k:=by omega
 have h4:(k:Int)<=c:=by omega
 simp only[Instr.slice,Instr.sliceBounds,Sem.run_bind,Sem.run_pure,run_underlying hu,Result.andThen_ok,run_sliceBound _ _ _ _ _ h3 h4,Option.isSome,Bool.false_eq_true,if_false,if_true]
 rw[hs]
 by_cases h1:c=0
 · simp only[Result.andThen_ok,Int.toNat_natCast,if_pos h1,Nat.sub_zero]
 · simp only[Result.andThen_ok,Int.toNat_natCast,if_neg h1,Option.map,Addr.add_lit,Nat.zero_mul,Nat.sub_zero,Nat.zero_add]
theorem own_at {α:Type} {f:α->Array Value} {n:Nat} (hf:∀ t,(f t).size=n) {w:World} {base:Nat} {T:TypeId} {v:Value} {ts:List α} (h:w.ownsRow base T n v ts.length (tcs f ts)):∃ a c,v=.slice a ts.length c∧(0<ts.length->∃ g,a=some ⟨g,0,none⟩∧base<=g∧g<w.heap.size∧∀ k (hk:k<ts.length) j u,(f ts[k])[j]?=some u->w.cell? ⟨g,k*n+j,none⟩=some u):=by
 have hb:=own_base h
 obtain⟨a,c,rfl,hl,hc⟩:=own_cells h
 refine⟨a,c,rfl,fun h0=>?_⟩
 obtain⟨ad,rfl,hcell⟩:=hc h0
 obtain⟨g,hg⟩:∃ g,ad=⟨g,0,none⟩:=by
  rcases h.2 with ⟨h1,-⟩ | ⟨g,cap,cur,h1,-⟩
  · cases h1
  · cases h1;exact⟨g,rfl⟩
 subst hg
 refine⟨g,rfl,(hb g rfl).1,(hb g rfl).2,fun k hk j u hu=>?_⟩
 have hj:j<n:=by have:=(Array.getElem?_eq_some_iff.1 hu).1;rwa [hf] at this
 have:=hcell (k*n+j) u (by rw[tcs_at f n hf ts k hk j hj];exact hu)
 rwa [Addr.add_lit,Nat.zero_add] at this
structure TJE (f:TE->Array Value) (n:Nat) (T:TypeId) (base:Nat) (w:World) (v:Value) (ts:List TE):Prop where
 own:w.ownsRow base T n v ts.length (tcs f ts)
 rd:∀ t∈ts,RdT w t∧FarT v.ownBlock t
variable {f:TE->Array Value} {n:Nat} {T:TypeId} {base:Nat}
theorem TJE.start (w:World):TJE f n T base w (.slice none 0 0) []:=⟨World.ownsRow_nil w _ _ n,fun _ h=>by cases h⟩
theorem TJE.keep {w w':World} {v:Value} {ts:List TE} (h:TJE f n T base w v ts) (hs:w.heap.size<=w'.heap.size) (hk:∀ y,y<w.heap.size->(base<=y∨∃ t∈ts,(t.1.1.2.1≠[]∧t.al.ownBlock=some y)∨(t.1.1.2.2≠[]∧t.gr.ownBlock=some y))->w'.heap[y]?=w.heap[y]?):TJE f n T base w' v ts :=
 ⟨own_keep h.own (fun x hx=>hk x (own_base h.own x hx).2 (.inl (own_base h.own x hx).1)),fun t ht=>⟨⟨is_keepB (h.rd t ht).1.1 hs (fun h0 y hy hl=>hk y hl (.inr ⟨t,ht,.inl ⟨h0,hy⟩⟩)),gs_keepB (h.rd t ht).1.2 hs (fun h0 y hy hl=>hk y hl (.inr ⟨t,ht,.inr ⟨h0,hy⟩⟩))⟩,(h.rd t ht).2⟩⟩
theorem TJE.below {w w':World} {v:Value} {ts:List TE} (h:TJE f n T base w v ts) (hb:Below w.heap.size w w'):TJE f n T base w' v ts:=h.keep hb.size (fun y hy _=>hb.block y hy)
theorem TJE.snoc {w w':World} {v v':Value} {ts:List TE} {t:TE} (h:TJE f n T base w v ts) (hown:w'.ownsRow base T n v' (ts.length+1) (tcs f ts++(f t).toList)) (hg:w.grownBy w' v.ownBlock) (hat:v'.ownBlock=v.ownBlock∨v'.ownBlock=some w.heap.size) (ht:RdT w t) (hf:FarT v.ownBlock t):TJE f n T base w' v' (ts++[t]):=by
 refine⟨?_,fun u hu=>?_⟩
 · rw[List.length_append,tcs_app,tcs_one];exact hown
 · have hq:RdT w u∧FarT v.ownBlock u:=by
    rcases List.mem_append.1 hu with hu | hu
    · exact h.rd u hu
    · rw[List.mem_singleton] at hu;rw[hu];exact⟨ht,hf⟩
   refine⟨hq.1.keep hq.2 hg.size (fun y hy hne=>hg.block y hy (fun e=>hne e.symm)),?_⟩
   rcases hat with e | e
   · rw[e];exact hq.2
   · rw[e];exact hq.1.far (Nat.le_refl _)
def EL (w:World) (v:Value) (l:List Fu):Prop:=∃ a c,v=.slice a l.length c∧l.length<=1000000∧∀ k (h:k<l.length),∃ b o al gr,a=some ⟨b,o,none⟩∧b<w.heap.size∧mid w b (o+k*33)=l[k].1.vals al gr∧IS w al l[k].2.1∧GS w gr l[k].2.2
theorem EL.below {w w':World} {v:Value} {l:List Fu} (h:EL w v l) (hb:Below w.heap.size w w'):EL w' v l:=by
 obtain⟨a,c,h1,h2,h3⟩:=h
 refine⟨a,c,h1,h2,fun k hk=>?_⟩
 obtain⟨b,o,al,gr,q1,q2,q3,q4,q5⟩:=h3 k hk
 exact⟨b,o,al,gr,q1,Nat.lt_of_lt_of_le q2 hb.size,mid_below hb q3 (by rw[vals_size];decide),q4.below hb,q5.below hb⟩
theorem TJE.el {w:World} {v:Value} {ts:List TE} (h:TJE TE.en 33 T base w v ts) (hk:ts.length<=1000000):EL w v (ts.map (fun t=>t.1.1)):=by
 obtain⟨a,c,rfl,hc⟩:=own_at TE.en_size h.own
 refine⟨a,c,by rw[List.length_map],by rw[List.length_map];exact hk,fun k hk=>?_⟩
 have hk':k<ts.length:=by simpa using hk
 obtain⟨g,rfl,-,hlt,hcell⟩:=hc (by omega)
 refine⟨g,0,ts[k].al,ts[k].gr,rfl,hlt,?_,?_,?_⟩
 · rw[List.getElem_map,Nat.zero_add]
   exact mid_of (vals_size _ _ _) (fun i u hu=>hcell k hk' i u hu)
 · rw[List.getElem_map];exact (h.rd _ (List.getElem_mem hk')).1.1
 · rw[List.getElem_map];exact (h.rd _ (List.getElem_mem hk')).1.2
end
end Go.Proofs.YtnojclchnhmggaaGreatDoor
