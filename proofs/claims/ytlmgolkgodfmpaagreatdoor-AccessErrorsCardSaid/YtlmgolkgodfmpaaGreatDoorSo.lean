/- Records of catalogs in plain words: rows that are distinct; the rows of a letter in order; the profiles that the reader yields are those of the sorted rows. No program in sight. -/
import Derived.Test.YtlmgolkgodfmpaaGreatDoorSh
namespace Go.Proofs.YtlmgolkgodfmpaaGreatDoor
set_option maxHeartbeats 1600000
set_option maxRecDepth 8000
abbrev kyR (x:Rw):List UInt8:=Ds.bl x.2.1
def samR (x y:Rw):Bool:=decide (x.1=y.1)&&decide (kyR x=kyR y)
def agn (l:List Rw) (k:Nat) (x:Rw):Bool:=(l.take k).any fun y=>samR y x
def dst (l:List Rw):Nat→List Rw
 | 0=>[]
 | k+1=>match l[k]? with | none=>dst l k | some x=>if agn l k x=true then dst l k else dst l k++[x]
theorem dst_len (l:List Rw):∀ k,(dst l k).length≤k
 | 0=>Nat.le_refl _
 | k+1=>by
   have:=dst_len l k
   rw[dst]
   split
   · omega
   · split
     · omega
     · rw[List.length_append];simp;omega
theorem dst_no {l:List Rw} {k:Nat} (h:k<l.length) (ha:agn l k l[k]=true):dst l (k+1)=dst l k:=by
 rw[dst,List.getElem?_eq_getElem h];simp only;rw[if_pos ha]
theorem dst_yes {l:List Rw} {k:Nat} (h:k<l.length) (ha:agn l k l[k]=false):dst l (k+1)=dst l k++[l[k]]:=by
 rw[dst,List.getElem?_eq_getElem h];simp only;rw[if_neg (by rw[ha];simp)]
theorem dst_mem (l:List Rw):∀ k,∀ x∈dst l k,x∈l.take k
 | 0,_,h=>by cases h
 | k+1,x,h=>by
   by_cases hk:k<l.length
   · rw[List.take_succ_eq_append_getElem hk]
     by_cases ha:agn l k l[k]=true
     · rw[dst_no hk ha] at h
       exact List.mem_append.2 (.inl (dst_mem l k x h))
     · rw[dst_yes hk (by simpa using ha)] at h
       rcases List.mem_append.1 h with h | h
       · exact List.mem_append.2 (.inl (dst_mem l k x h))
       · exact List.mem_append.2 (.inr h)
   · have e:dst l (k+1)=dst l k:=by rw[dst,List.getElem?_eq_none (by omega)]
     rw[e] at h
     have:=dst_mem l k x h
     rw[List.take_of_length_le (by omega)] at this ⊢
     exact this
def DstL (l:List Rw):Prop:=l.Pairwise fun x y=>samR x y=false
theorem DstL_snoc {l:List Rw} {x:Rw} (h:DstL l) (hx:∀ y∈l,samR y x=false):DstL (l++[x]):=by
 unfold DstL;rw[List.pairwise_append]
 exact⟨h,List.pairwise_singleton _ _,fun y hy z hz=>by rw[List.mem_singleton.1 hz];exact hx y hy⟩
theorem dst_dst (l:List Rw):∀ k,DstL (dst l k)
 | 0=>List.Pairwise.nil
 | k+1=>by
   by_cases hk:k<l.length
   · by_cases ha:agn l k l[k]=true
     · rw[dst_no hk ha];exact dst_dst l k
     · rw[dst_yes hk (by simpa using ha)]
       refine DstL_snoc (dst_dst l k) fun y hy=>?_
       have hm:=dst_mem l k y hy
       by_cases c:samR y l[k]=true
       · exact absurd (List.any_eq_true.2 ⟨y,hm,c⟩) ha
       · simpa using c
   · have e:dst l (k+1)=dst l k:=by rw[dst,List.getElem?_eq_none (by omega)]
     rw[e];exact dst_dst l k
theorem DstL.inj {l:List Rw} (h:DstL l) {x y:Rw} (hx:x∈l) (hy:y∈l) (h1:x.1=y.1) (h2:kyR x=kyR y):x=y:=by
 induction l with
 | nil=>cases hx
 | cons z l ih =>
   unfold DstL at h
   rw[List.pairwise_cons] at h
   have key:∀ u v:Rw,samR u v=false→¬ (u.1=v.1∧kyR u=kyR v):=fun u v hs ⟨q1,q2⟩=>by
    unfold samR at hs;rw[decide_eq_true q1,decide_eq_true q2] at hs;cases hs
   rcases List.mem_cons.1 hx with e1 | hx'
   · rcases List.mem_cons.1 hy with e2 | hy'
     · exact e1.trans e2.symm
     · subst e1;exact absurd ⟨h1,h2⟩ (key _ _ (h.1 y hy'))
   · rcases List.mem_cons.1 hy with e2 | hy'
     · subst e2;exact absurd ⟨h1.symm,h2.symm⟩ (key _ _ (h.1 x hx'))
     · exact ih h.2 hx' hy'
def insP (x y:Rw):Bool:=ltB (kyR y) (kyR x)
def insR (x:Rw) (out:List Rw):List Rw:=out.takeWhile (insP x)++x::out.dropWhile (insP x)
def inL (id:Int) (c:UInt8) (x:Rw):Bool:=decide (x.1=id)&&decide ((kyR x).head?=some c)
def srtS (id:Int) (c:UInt8) (out:List Rw) (x:Rw):List Rw:=if inL id c x=true then insR x out else out
def srt (id:Int) (c:UInt8) (l:List Rw):List Rw:=l.foldl (srtS id c) []
theorem srt_snoc (id:Int) (c:UInt8) (l:List Rw) (x:Rw):srt id c (l++[x])=srtS id c (srt id c l) x:=by
 unfold srt;rw[List.foldl_append];rfl
theorem insR_mem (x:Rw) (out:List Rw) (y:Rw):y∈insR x out↔y=x∨y∈out:=by
 unfold insR
 have e:out.takeWhile (insP x)++out.dropWhile (insP x)=out:=List.takeWhile_append_dropWhile
 have h:y∈out↔y∈out.takeWhile (insP x)∨y∈out.dropWhile (insP x):=by
  rw[← List.mem_append,e]
 rw[List.mem_append,List.mem_cons,h]
 constructor
 · rintro (h | h | h)
   · exact .inr (.inl h)
   · exact .inl h
   · exact .inr (.inr h)
 · rintro (h | h | h)
   · exact .inr (.inl h)
   · exact .inl h
   · exact .inr (.inr h)
theorem insR_len (x:Rw) (out:List Rw):(insR x out).length=out.length+1:=by
 have e:(out.takeWhile (insP x)++out.dropWhile (insP x)).length=out.length:=by rw[List.takeWhile_append_dropWhile]
 unfold insR
 rw[List.length_append] at e ⊢
 rw[List.length_cons];omega
def SrtL (l:List Rw):Prop:=l.Pairwise fun x y=>ltB (kyR x) (kyR y)=true
theorem insR_srt (x:Rw):∀ (out:List Rw),SrtL out→(∀ y∈out,kyR y≠kyR x)→SrtL (insR x out)
 | [],_,_=>List.pairwise_singleton _ _
 | y::out,h,hne=>by
   unfold SrtL at h
   rw[List.pairwise_cons] at h
   by_cases c:insP x y=true
   · have e:insR x (y::out)=y::insR x out:=by unfold insR;rw[List.takeWhile_cons,List.dropWhile_cons,if_pos c,if_pos c];rfl
     unfold SrtL;rw[e,List.pairwise_cons]
     refine⟨fun z hz=>?_,insR_srt x out h.2 fun z hz=>hne z (by simp [hz])⟩
     rcases (insR_mem x out z).1 hz with rfl | hz
     · exact c
     · exact h.1 z hz
   · have e:insR x (y::out)=x::y::out:=by unfold insR;rw[List.takeWhile_cons,List.dropWhile_cons,if_neg c,if_neg c];rfl
     have hxy:ltB (kyR x) (kyR y)=true:=ltB_gt (by simpa [insP] using c) (hne y (by simp))
     unfold SrtL;rw[e,List.pairwise_cons]
     refine⟨fun z hz=>?_,List.pairwise_cons.2 h⟩
     rcases List.mem_cons.1 hz with rfl | hz
     · exact hxy
     · exact ltB_trans hxy (h.1 z hz)
theorem srt_mem (id:Int) (c:UInt8) (l:List Rw):∀ k,∀ x,x∈srt id c (l.take k)↔x∈l.take k∧inL id c x=true
 | 0,x=>by simp [srt]
 | k+1,x=>by
   by_cases hk:k<l.length
   · rw[List.take_succ_eq_append_getElem hk,srt_snoc]
     unfold srtS
     split
     · rename_i hc
       rw[insR_mem,srt_mem id c l k x,List.mem_append,List.mem_singleton]
       constructor
       · rintro (rfl | h)
         · exact⟨.inr rfl,hc⟩
         · exact⟨.inl h.1,h.2⟩
       · rintro ⟨h | rfl,h2⟩
         · exact .inr ⟨h,h2⟩
         · exact .inl rfl
     · rename_i hc
       rw[srt_mem id c l k x,List.mem_append,List.mem_singleton]
       constructor
       · rintro h;exact⟨.inl h.1,h.2⟩
       · rintro ⟨h | rfl,h2⟩
         · exact⟨h,h2⟩
         · exact absurd h2 hc
   · have:=srt_mem id c l k x
     rw[List.take_of_length_le (by omega)] at this ⊢
     exact this
theorem srt_srt (id:Int) (c:UInt8) (l:List Rw) (h:DstL l):∀ k,SrtL (srt id c (l.take k))
 | 0=>by simp [srt,SrtL]
 | k+1=>by
   by_cases hk:k<l.length
   · rw[List.take_succ_eq_append_getElem hk,srt_snoc]
     unfold srtS
     split
     · rename_i hc
       refine insR_srt _ _ (srt_srt id c l h k) fun y hy e=>?_
       have hy2:=(srt_mem id c l k y).1 hy
       obtain⟨i,hi,hyi⟩:=List.getElem_of_mem hy2.1
       rw[List.getElem_take] at hyi
       have hik:i<k:=by rw[List.length_take] at hi;omega
       have hp:=(List.pairwise_iff_getElem.1 h) i k (by omega) hk hik
       unfold inL at hc
       have hy3:=hy2.2
       unfold inL at hy3
       simp only[Bool.and_eq_true,decide_eq_true_eq] at hc hy3
       rw[hyi] at hp
       unfold samR at hp
       rw[decide_eq_true (hy3.1.trans hc.1.symm),decide_eq_true e] at hp
       cases hp
     · exact srt_srt id c l h k
   · have:=srt_srt id c l h k
     rw[List.take_of_length_le (by omega)] at this ⊢
     exact this
theorem srt_len (id:Int) (c:UInt8) (l:List Rw):∀ k,(srt id c (l.take k)).length≤k
 | 0=>by simp [srt]
 | k+1=>by
   have ih:=srt_len id c l k
   by_cases hk:k<l.length
   · rw[List.take_succ_eq_append_getElem hk,srt_snoc]
     unfold srtS
     split
     · rw[insR_len];omega
     · omega
   · rw[List.take_of_length_le (by omega)] at ih ⊢;omega
def aft (k:List UInt8) (S:List Rw):List Rw:=S.filter fun x=>ltB k (kyR x)
theorem aft_cons {k:List UInt8} {x:Rw}:∀ {S:List Rw},SrtL S→x∈S→ltB k (kyR x)=true→(∀ y∈S,ltB k (kyR y)=true→ltB (kyR y) (kyR x)=false)→aft k S=x::aft (kyR x) S
 | [],_,h,_,_=>by cases h
 | z::S,hs,hx,hk,hm=>by
   unfold SrtL at hs
   rw[List.pairwise_cons] at hs
   unfold aft
   rw[List.filter_cons,List.filter_cons]
   rcases List.mem_cons.1 hx with rfl | hx
   · rw[if_pos hk,if_neg (by rw[ltB_irr];simp)]
     congr 1
     refine List.filter_congr fun y hy=>?_
     rw[hs.1 y hy,ltB_trans hk (hs.1 y hy)]
   · have hzx:=hs.1 x hx
     have hzk:ltB k (kyR z)=false:=by
      by_cases c:ltB k (kyR z)=true
      · have:=hm z (by simp) c
        rw[hzx] at this;cases this
      · simpa using c
     rw[if_neg (by rw[hzk];simp),if_neg (by rw[ltB_asymm hzx];simp)]
     exact aft_cons (S:=S) hs.2 hx hk fun y hy=>hm y (by simp [hy])
def proR:List Rw→List Fu→List Fu × Int
 | [],out=>(out,0)
 | x::r,out=>match decX (Ds.bl x.2.2) with
   | none=>([],11)
   | some y=>if keyX y=kyR x then proR r (out++[y]) else ([],11)
theorem nx_min (id:Int) (k:List UInt8):∀ (n:Nat) (l:List Rw),l.length=n→match nx id k l with
  | none=>∀ y∈l,y.1=id→ltB k (kyR y)=false
  | some x=>∀ y∈l,y.1=id→ltB k (kyR y)=true→ltB (kyR y) (kyR x)=false
 | 0,l,h=>by
   rw[List.length_eq_zero_iff.1 h]
   simp [nx]
 | n+1,l,h=>by
   obtain⟨m,x,rfl⟩:∃ m x,l=m++[x]:=⟨l.dropLast,l.getLast (by intro e;rw[e] at h;cases h),(List.dropLast_concat_getLast _).symm⟩
   have ih:=nx_min id k n m (by simpa using h)
   rw[nx_snoc]
   unfold nxs
   by_cases hq:nxq id k (nx id k m) x=true
   · rw[if_pos hq]
     simp only
     intro y hy hid hky
     unfold nxq at hq
     simp only[Bool.and_eq_true,decide_eq_true_eq] at hq
     rcases List.mem_append.1 hy with hy | hy
     · cases hm:nx id k m with
       | none=>rw[hm] at ih;simp only at ih;rw[ih y hy hid] at hky;cases hky
       | some z =>
         rw[hm] at ih hq;simp only at ih hq
         have h1:=ih y hy hid hky
         by_cases c:ltB (kyR y) (kyR x)=true
         · rw[ltB_trans c hq.2.2] at h1;cases h1
         · simpa using c
     · rw[List.mem_singleton.1 hy];exact ltB_irr _
   · rw[if_neg hq]
     unfold nxq at hq
     cases hm:nx id k m with
     | none =>
       rw[hm] at ih hq;simp only at ih hq ⊢
       intro y hy hid
       rcases List.mem_append.1 hy with hy | hy
       · exact ih y hy hid
       · rw[List.mem_singleton.1 hy] at hid ⊢
         rw[decide_eq_true hid] at hq
         simpa using hq
     | some z =>
       rw[hm] at ih hq;simp only at ih hq ⊢
       intro y hy hid hky
       rcases List.mem_append.1 hy with hy | hy
       · exact ih y hy hid hky
       · rw[List.mem_singleton.1 hy] at hid hky ⊢
         rw[decide_eq_true hid,hky] at hq
         simpa using hq
theorem hd_some {l:List UInt8} {k:List UInt8} (h:ltB k l=true):l.head?=some (l.headD 0):=by
 cases l with
 | nil=>rw[ltB_nil] at h;cases h
 | cons a r=>rfl
theorem hd_le {a b:List UInt8} (h:ltB a b=true) (ha:a≠[]):a.headD 0≤b.headD 0:=by
 cases b with
 | nil=>rw[ltB_nil] at h;cases h
 | cons y s =>
   cases a with
   | nil=>exact absurd rfl ha
   | cons x r =>
     simp only[List.headD_cons]
     have h1:Lib.compareBytes (x::r) (y::s)<0:=of_decide_eq_true h
     by_cases c:x≤y
     · exact c
     · exfalso
       have hyx:y<x:=by simpa using c
       have hne:¬ x<y:=fun q=>absurd (UInt8.lt_trans q hyx) (UInt8.lt_irrefl _)
       simp [Lib.compareBytes,hne,hyx] at h1
theorem proF_srt (l:List Rw) (id cd:Int) (hd:DstL l):∀ (f:Nat) (ca:Int) (k:List UInt8) (out:List Fu),0≤ca→cnt id k l<f→k≠[] →
  (proF l id 0 cd f ca k out).1=(proR (aft k (srt id 80 l)) out).1∧(proF l id 0 cd f ca k out).2.1=(proR (aft k (srt id 80 l)) out).2
 | 0,_,_,_,_,h,_=>by omega
 | f+1,ca,k,out,hca,hc,hk0=>by
   have hsm:∀ x,x∈srt id 80 l↔x∈l∧inL id 80 x=true:=fun x=>by
    have:=srt_mem id 80 l l.length x
    rwa [List.take_of_length_le (Nat.le_refl _)] at this
   have hss:SrtL (srt id 80 l):=by
    have:=srt_srt id 80 l hd l.length
    rwa [List.take_of_length_le (Nat.le_refl _)] at this
   have hin:∀ x,inL id 80 x=true↔x.1=id∧(kyR x).head?=some 80:=fun x=>by unfold inL;simp
   have hmin:=nx_min id k _ l rfl
   rw[proF,if_neg (by omega)]
   cases hn:nx id k l with
   | none =>
     rw[hn] at hmin
     simp only at hmin ⊢
     have e:aft k (srt id 80 l)=[]:=by
      unfold aft
      rw[List.filter_eq_nil_iff]
      intro y hy
      have h1:=(hsm y).1 hy
      rw[hmin y h1.1 ((hin y).1 h1.2).1];simp
     rw[e];exact⟨rfl,rfl⟩
   | some x =>
     obtain⟨hx1,hx2,hx3⟩:=nx_some hn
     rw[hn] at hmin
     simp only at hmin ⊢
     have hne:kyR x≠[]:=by intro e;rw[show Ds.bl x.2.1=[] from e,ltB_nil] at hx3;cases hx3
     have hhd:(kyR x).head?=some ((kyR x).headD 0):=hd_some hx3
     have hmem:∀ y∈srt id 80 l,ltB k (kyR y)=true→y=x∨ltB (kyR x) (kyR y)=true:=by
      intro y hy hky
      have h1:=(hsm y).1 hy
      have hid:=((hin y).1 h1.2).1
      have h2:=hmin y h1.1 hid hky
      by_cases c:kyR y=kyR x
      · exact .inl (hd.inj h1.1 hx1 (hid.trans hx2.symm) c)
      · exact .inr (ltB_gt h2 c)
     by_cases h80:80<(Ds.bl x.2.1).headD 0
     · rw[if_pos h80]
       have e:aft k (srt id 80 l)=[]:=by
        unfold aft
        rw[List.filter_eq_nil_iff]
        intro y hy hky
        have h1:=((hin y).1 ((hsm y).1 hy).2).2
        rcases hmem y hy hky with rfl | h2
        · rw[hhd] at h1
          have:(kyR y).headD 0=80:=by simpa using h1
          rw[show Ds.bl y.2.1=kyR y from rfl,this] at h80
          exact absurd h80 (by decide)
        · have h3:=hd_le h2 hne
          rw[hd_some hky] at h1
          have h4:(kyR y).headD 0=80:=by simpa using h1
          rw[h4] at h3
          exact absurd h80 (by simpa using h3)
       rw[e];exact⟨rfl,rfl⟩
     · rw[if_neg h80]
       have hcl:cnt id (kyR x) l<cnt id k l:=cnt_lt hn
       by_cases h81:(Ds.bl x.2.1).headD 0<80
       · rw[if_pos h81]
         have e:aft k (srt id 80 l)=aft (kyR x) (srt id 80 l):=by
          unfold aft
          refine List.filter_congr fun y hy=>?_
          have h1:=((hin y).1 ((hsm y).1 hy).2).2
          by_cases c:ltB k (kyR y)=true
          · rw[c]
            rcases hmem y hy c with rfl | h2
            · rw[hhd] at h1
              have:(kyR y).headD 0=80:=by simpa using h1
              rw[show Ds.bl y.2.1=kyR y from rfl,this] at h81
              exact absurd h81 (by decide)
            · exact h2.symm
          · have c':ltB k (kyR y)=false:=by simpa using c
            rw[c']
            by_cases c2:ltB (kyR x) (kyR y)=true
            · rw[ltB_trans hx3 c2] at c';cases c'
            · exact (by simpa using c2:ltB (kyR x) (kyR y)=false).symm
         rw[e]
         exact proF_srt l id cd hd f (ca+1) (kyR x) out (by omega) (by omega) hne
       · rw[if_neg h81]
         have hx80:(kyR x).headD 0=80:=by
          have h1:¬ (80:UInt8)<(kyR x).headD 0:=h80
          have h2:¬ (kyR x).headD 0<(80:UInt8):=h81
          exact UInt8.le_antisymm (UInt8.not_lt.1 h1) (UInt8.not_lt.1 h2)
         have hxs:x∈srt id 80 l:=(hsm x).2 ⟨hx1,(hin x).2 ⟨hx2,by rw[hhd,hx80]⟩⟩
         have e:=aft_cons hss hxs hx3 fun y hy hky=>by
          rcases hmem y hy hky with rfl | h2
          · exact ltB_irr _
          · exact ltB_asymm h2
         rw[e,proR]
         cases hdx:decX (Ds.bl x.2.2) with
         | none=>exact⟨rfl,rfl⟩
         | some y =>
           simp only
           by_cases hkx:keyX y=Ds.bl x.2.1
           · rw[if_pos hkx,if_pos hkx]
             exact proF_srt l id cd hd f (ca+1) (kyR x) (out++[y]) (by omega) (by omega) hne
           · rw[if_neg hkx,if_neg hkx];exact⟨rfl,rfl⟩
theorem aft_all (id:Int) (l:List Rw):aft [79,255] (srt id 80 l)=srt id 80 l:=by
 unfold aft
 rw[List.filter_eq_self]
 intro y hy
 have h:=(srt_mem id 80 l l.length y).1 (by rw[List.take_of_length_le (Nat.le_refl _)];exact hy)
 have h2:=h.2
 unfold inL at h2
 simp only[Bool.and_eq_true,decide_eq_true_eq] at h2
 cases hk:kyR y with
 | nil=>rw[hk] at h2;simp at h2
 | cons a r =>
   rw[hk] at h2
   have:a=80:=by simpa using h2.2
   subst this
   exact decide_eq_true (by simp [Lib.compareBytes])
theorem proF_ref (l:List Rw) (id cd ca:Int) (hd:DstL l) (hca:0≤ca):(proF l id 0 cd (l.length+1) ca [79,255] []).1=(proR (srt id 80 l) []).1∧(proF l id 0 cd (l.length+1) ca [79,255] []).2.1=(proR (srt id 80 l) []).2:=by
 have h:=proF_srt l id cd hd (l.length+1) ca [79,255] [] hca (by have:=cnt_le id [79,255] l;omega) (by simp)
 rwa [aft_all] at h
end Go.Proofs.YtlmgolkgodfmpaaGreatDoor
