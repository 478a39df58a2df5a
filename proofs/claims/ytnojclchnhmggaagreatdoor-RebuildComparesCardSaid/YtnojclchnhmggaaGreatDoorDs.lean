/- The reference's part in plain words: is it the same as nameQ and patQ? -/
import Derived.Lib.Replace
import Derived.Lib.Split
import Derived.Lib.Join
import Derived.Lib.Bytealg
section
namespace Go.Proofs.YtnojclchnhmggaaGreatDoor.Ds
def bl (s:ByteArray):List UInt8:=s.data.toList
theorem bl_length (s:ByteArray):(bl s).length=s.size:=Array.length_toList (xs:=s.data)
theorem bl_get (s:ByteArray) (k:Nat) (h:k<s.size):s[k]=(bl s)[k]'(by rw[bl_length];exact h):=by simp [bl,ByteArray.getElem_eq_getElem_data]
theorem bl_mk (l:List UInt8):bl ⟨l.toArray⟩=l:=by simp [bl]
theorem mk_bl (s:ByteArray):(⟨(bl s).toArray⟩:ByteArray)=s:=by simp [bl]
theorem bl_inj {s t:ByteArray} (h:bl s=bl t):s=t:=by rw[<-mk_bl s,h,mk_bl]
def up (c:UInt8):Bool:=decide (65<=c.toNat)&&decide (c.toNat<=90)
def dg (c:UInt8):Bool:=decide (48<=c.toNat)&&decide (c.toNat<=57)
def pl (c:UInt8):Bool:=up c || dg c
def ups (c:UInt8):Bool:=up c || decide (c.toNat=42)
def pls (c:UInt8):Bool:=pl c || decide (c.toNat=42)
def qual (F G:UInt8->Bool):List UInt8->Bool
 | []=>false
 | c::r=>decide (r.length<=7)&&F c&&r.all G
def rest {α:Type} (G:α->Bool) (l:List α) (k:Nat):Bool:=(l.drop k).all G
theorem rest_next {α:Type} (G:α->Bool) (l:List α) (k:Nat) (h:k<l.length):rest G l k=(G l[k]&&rest G l (k+1)):=by
 unfold rest;rw[List.drop_eq_getElem_cons h,List.all_cons]
theorem rest_end {α:Type} (G:α->Bool) (l:List α) (k:Nat) (h:l.length<=k):rest G l k=true:=by
 unfold rest;rw[List.drop_eq_nil_of_le h];rfl
theorem qual_rest (F G:UInt8->Bool) (l:List UInt8) (h:0<l.length) (h8:l.length<=8) (hF:F l[0]=true):qual F G l=rest G l 1:=by
 cases l with
 | nil=>simp at h
 | cons c r =>
   simp only[List.length_cons] at h8
   simp only[List.getElem_cons_zero] at hF
   simp [qual,rest,hF];omega
theorem qual_len (F G:UInt8->Bool) (l:List UInt8) (h:l.length<1∨8<l.length):qual F G l=false:=by
 cases l with
 | nil=>rfl
 | cons c r =>
   simp only[List.length_cons] at h
   simp [qual];omega
theorem qual_head (F G:UInt8->Bool) (l:List UInt8) (h:0<l.length) (hF:F l[0]=false):qual F G l=false:=by
 cases l with
 | nil=>rfl
 | cons c r =>
   simp only[List.getElem_cons_zero] at hF
   simp [qual,hF]
def pieces:List UInt8->List (List UInt8)
 | []=>[[]]
 | c::r=>if c=46 then []::pieces r else match pieces r with
   | []=>[[c]]
   | p::ps=>(c::p)::ps
theorem pieces_ne (l:List UInt8):pieces l≠[]:=by
 cases l with
 | nil=>simp [pieces]
 | cons c r =>
   simp only[pieces]
   split
   · simp
   · split <;> simp
theorem pieces_len (l:List UInt8):(pieces l).length=l.count 46+1:=by
 induction l with
 | nil=>rfl
 | cons c r ih =>
   simp only[pieces]
   split
   · rename_i e;subst e;simp [ih]
   · rename_i e
     have e':(c==46)=false:=by simpa using e
     have:=pieces_ne r
     cases h:pieces r with
     | nil=>exact absurd h this
     | cons p ps=>rw[h] at ih;simp [List.count_cons,e'] at ih ⊢;omega
def ss:List UInt8->Bool
 | a::b::r=>(decide (a.toNat=42)&&decide (b.toNat=42)) || ss (b::r)
 | _=>false
def nameQ (q:List UInt8):Bool:=qual up pl q
def patQ (q:List UInt8):Bool:=decide (q=[42,42]) || qual ups pls q&&!ss q
def name (s:List UInt8):Bool:=decide (1<=s.length)&&decide (s.length<=31)&&(pieces s).all nameQ
def pat (s:List UInt8):Bool:=decide (1<=s.length)&&decide (s.length<=31)&&(pieces s).all patQ
def mid (q:List UInt8):List UInt8:=(q.drop 1).take 4
def nv (q:List UInt8) (k:Nat):Nat:=((mid q).take k).foldl (fun n c=>10*n+(c.toNat - 48)) 0
def num (q:List UInt8):Nat:=if q.length=8∧q[0]?=some 71∧q.drop 5=[86,48,48]∧rest dg (mid q) 0=true then nv q 4 else 0
theorem mid_length (q:List UInt8) (h:q.length=8):(mid q).length=4:=by simp [mid,h]
theorem mid_get (q:List UInt8) (h:q.length=8) (k:Nat) (hk:k<4):(mid q)[k]'(by rw[mid_length q h];exact hk)=q[k+1]'(by omega):=by
 simp only[mid,List.getElem_take,List.getElem_drop]
 congr 1;omega
theorem nv_next (q:List UInt8) (h:q.length=8) (k:Nat) (hk:k<4):nv q (k+1)=10*nv q k+((q[k+1]'(by omega)).toNat - 48):=by
 unfold nv
 rw[List.take_succ_eq_append_getElem (by rw[mid_length q h];exact hk),List.foldl_append,mid_get q h k hk]
 rfl
theorem nv_bound (q:List UInt8):∀ k,nv q k<=10000000000∧(k<=4->nv q k<=300*10 ^ k):=by
 have key:∀ (l:List UInt8) (a:Nat),l.foldl (fun n c=>10*n+(c.toNat - 48)) a<=(a+30)*10 ^ l.length:=by
  intro l
  induction l with
  | nil=>intro a;simp
  | cons c r ih =>
    intro a
    have h:=ih (10*a+(c.toNat - 48))
    have hc:c.toNat<256:=c.toNat_lt
    simp only[List.foldl_cons,List.length_cons,Nat.pow_succ]
    refine Nat.le_trans h ?_
    have:10*a+(c.toNat - 48)+30<=(a+30)*10:=by omega
    calc (10*a+(c.toNat - 48)+30)*10 ^ r.length<=(a+30)*10*10 ^ r.length:=Nat.mul_le_mul_right _ this
     _=(a+30)*(10 ^ r.length*10):=by rw[Nat.mul_assoc,Nat.mul_comm 10]
 intro k
 have h:=key ((mid q).take k) 0
 have hl:((mid q).take k).length<=4:=by simp [mid];omega
 have hp:10 ^ ((mid q).take k).length<=10 ^ 4:=Nat.pow_le_pow_right (by omega) hl
 refine⟨?_,?_⟩
 · unfold nv;omega
 · intro _
   have:10 ^ ((mid q).take k).length<=10 ^ k:=Nat.pow_le_pow_right (by omega) (by simp;omega)
   unfold nv;omega
theorem dg_bounds (c:UInt8) (h:dg c=true):48<=c.toNat∧c.toNat<=57:=by simpa [dg] using h
def group (s:List UInt8):Bool:=name s&&decide (s.length<=22)&&(pieces s).all fun q=>decide (num q=0)
def mt {α β:Type} (star:α->Bool) (one:α->β->Bool):List α->List β->Bool
 | [],[]=>true
 | [],_::_=>false
 | a::p,[]=>star a&&mt star one p []
 | a::p,b::l=>if star a then mt star one p (b::l) || mt star one (a::p) l else one a b&&mt star one p l
termination_by p l=>p.length+l.length
def mtQ (q s:List UInt8):Bool:=mt (fun c=>decide (c=42)) (fun c d=>decide (c=d)) q s
def mtP (p l:List (List UInt8)):Bool:=mt (fun q=>decide (q=[42,42])) mtQ p l
def match_ (p s:List UInt8):Bool:=pat p&&name s&&mtP (pieces p) (pieces s)
def keyQ (q:List UInt8):List UInt8:=if q=[42,42] then [255] else q.map fun c=>if c=42 then 254 else c
def key (p:List UInt8):List UInt8:=Lib.join ((pieces p).map keyQ) [46]
def order (a b:List UInt8):Int:=if pat a&&pat b then Lib.compareBytes (key a) (key b) else 0
def first (n:Int) (s:List UInt8):List UInt8:=if name s then Lib.join ((pieces s).take n.toNat) [46] else []
end Go.Proofs.YtnojclchnhmggaaGreatDoor.Ds
end
section
namespace Go.Proofs.YtnojclchnhmggaaGreatDoor.Ds
theorem index_cons (c d:UInt8) (r:List UInt8):Lib.index (c::r) [d]=if c=d then 0 else if Lib.index r [d]=-1 then -1 else Lib.index r [d]+1:=by
 rw[Lib.index]
 simp only[List.isPrefixOf,Bool.and_true,beq_iff_eq]
 by_cases h:c=d
 · subst h;simp
 · rw[if_neg (fun e=>h e.symm),if_neg h]
theorem index_nil1 (d:UInt8):Lib.index [] [d]=-1:=by simp [Lib.index]
theorem count_nil1 (d:UInt8):Lib.count [] [d]=0:=Lib.count_miss (index_nil1 d)
theorem count_cons_hit (d:UInt8) (r:List UInt8):Lib.count (d::r) [d]=1+Lib.count r [d]:=by
 have h:Lib.index (d::r) [d]=(0:Nat):=by rw[index_cons];simp
 rw[Lib.count_hit (by simp) h];simp
theorem count_cons_miss (c d:UInt8) (r:List UInt8) (hc:c≠d):Lib.count (c::r) [d]=Lib.count r [d]:=by
 rcases Lib.index_spec r [d] with ⟨h,_⟩ | ⟨i,h,_⟩
 · rw[Lib.count_miss h,Lib.count_miss (by rw[index_cons,if_neg hc,if_pos h])]
 · have h':Lib.index (c::r) [d]=((i+1:Nat):Int):=by rw[index_cons,if_neg hc,if_neg (by omega),h];rfl
   rw[Lib.count_hit (by simp) h,Lib.count_hit (by simp) h'];simp
theorem splitK_pieces (s:List UInt8):Lib.splitK [46] 0 (Lib.count s [46]) s=pieces s:=by
 induction s with
 | nil=>rw[count_nil1];rfl
 | cons c r ih =>
   by_cases hc:c=46
   · subst hc
     rw[count_cons_hit,Nat.add_comm,Lib.splitK]
     have h:Lib.index (46::r) [46]=0:=by rw[index_cons];simp
     rw[h]
     simp [pieces,ih]
   · rw[count_cons_miss c 46 r hc]
     simp only[pieces,if_neg hc]
     rw[<-ih]
     rcases Lib.index_spec r [46] with ⟨h,_⟩ | ⟨i,h,_⟩
     · rw[Lib.count_miss h];rfl
     · have h':Lib.index (c::r) [46]=((i+1:Nat):Int):=by rw[index_cons,if_neg hc,if_neg (by omega),h];rfl
       rw[Lib.count_hit (by simp) h,Nat.add_comm,Lib.splitK,Lib.splitK,h',h]
       have e1:((i:Int)==-1)=false:=by simp
       have e2:(((i+1:Nat):Int)==-1)=false:=by simp;omega
       simp only[e1,e2]
       simp [Int.toNat_natCast]
theorem count_eq (s:List UInt8) (d:UInt8):Lib.count s [d]=s.count d:=by
 induction s with
 | nil=>rw[count_nil1];rfl
 | cons c r ih =>
   by_cases hc:c=d
   · subst hc;rw[count_cons_hit,ih];simp;omega
   · rw[count_cons_miss c d r hc,ih]
     have:(c==d)=false:=by simpa using hc
     simp [List.count_cons,this]
theorem join_pieces (s:List UInt8):Lib.join (pieces s) [46]=s:=by
 unfold Lib.join
 induction s with
 | nil=>rfl
 | cons c r ih =>
   simp only[pieces]
   split
   · rename_i e;subst e
     cases h:pieces r with
     | nil=>exact absurd h (pieces_ne r)
     | cons p ps=>rw[h] at ih;rw[<-ih];simp [List.intercalate]
   · cases h:pieces r with
     | nil=>exact absurd h (pieces_ne r)
     | cons p ps =>
       rw[h] at ih
       simp only
       rw[<-ih]
       cases ps <;> simp [List.intercalate]
theorem join_cons2 (a b:List UInt8) (r:List (List UInt8)) (sep:List UInt8):Lib.join (a::b::r) sep=a++sep++Lib.join (b::r) sep:=by
 unfold Lib.join;simp [List.intercalate]
theorem join_take (xs:List (List UInt8)) (sep:List UInt8):∀ n,(Lib.join (xs.take n) sep).length<=(Lib.join xs sep).length:=by
 induction xs with
 | nil=>intro n;simp
 | cons a r ih =>
   intro n
   cases n with
   | zero=>simp [Lib.join_nil]
   | succ n =>
     cases r with
     | nil=>simp
     | cons b r =>
       cases n with
       | zero =>
         rw[List.take_succ_cons,List.take_zero,Lib.join_one,join_cons2];simp
       | succ n =>
         have:=ih (n+1)
         rw[List.take_succ_cons] at this
         rw[List.take_succ_cons,List.take_succ_cons,join_cons2,join_cons2]
         simp only[List.length_append];omega
theorem contains_ss (s:List UInt8):Lib.contains s [42,42]=ss s:=by
 have key:∀ s:List UInt8,decide (0<=Lib.index s [42,42])=ss s:=by
  intro s
  induction s with
  | nil=>simp [Lib.index,ss]
  | cons a r ih =>
    rw[Lib.index]
    cases r with
    | nil=>simp [Lib.index,ss,List.isPrefixOf]
    | cons b r =>
      simp only[ss,<-ih,List.isPrefixOf,Bool.and_true]
      have e:∀ x:UInt8,(42==x)=decide (x.toNat=42):=by
       intro x
       rw[Bool.eq_iff_iff];simp only[beq_iff_eq,decide_eq_true_eq]
       constructor
       · rintro rfl;rfl
       · intro h;exact UInt8.toNat_inj.1 h.symm
      rw[e a,e b]
      cases h:(decide (a.toNat=42)&&decide (b.toNat=42))
      · have hi:=Lib.index_ge (b::r) [42,42]
        simp only[Bool.false_eq_true,if_false,Bool.false_or]
        by_cases h1:Lib.index (b::r) [42,42]=-1
        · simp [h1]
        · have h1':(Lib.index (b::r) [42,42]==-1)=false:=by simpa using h1
          simp only[h1',Bool.false_eq_true,if_false]
          rw[Bool.eq_iff_iff];simp only[decide_eq_true_eq];omega
      · simp
 exact key s
theorem bl_eq (s:ByteArray) (l:List UInt8):s=⟨l.toArray⟩↔bl s=l:=by
 constructor
 · rintro rfl;exact bl_mk l
 · intro h;rw[<-h,mk_bl]
theorem bl_beq (s:ByteArray) (l:List UInt8) (h:¬ s=⟨l.toArray⟩):(s.toList==l)=false:=by
 rw[ByteArray.toList_eq,Bool.eq_false_iff]
 intro e
 exact h ((bl_eq s l).2 (by simpa [bl] using e))
theorem qual_le (F G:UInt8->Bool) (l:List UInt8) (h:qual F G l=true):l.length<=8:=by
 rcases Nat.lt_or_ge 8 l.length with h' | h'
 · rw[qual_len F G l (.inr h')] at h;cases h
 · exact h'
end Go.Proofs.YtnojclchnhmggaaGreatDoor.Ds
end
section
namespace Go.Proofs.YtnojclchnhmggaaGreatDoor.Ds
inductive M {α β:Type} (star:α->Bool) (one:α->β->Bool):List α->List β->Prop
 | nil:M star one [] []
 | skip {a p l}:star a=true->M star one p l->M star one (a::p) l
 | eat {a p b l}:star a=true->M star one (a::p) l->M star one (a::p) (b::l)
 | one {a p b l}:star a=false->one a b=true->M star one p l->M star one (a::p) (b::l)
theorem pieces_snoc (l:List UInt8) (c:UInt8):pieces (l++[c])=if c=46 then pieces l++[[]] else (pieces l).dropLast++[(pieces l).getLastD []++[c]]:=by
 induction l with
 | nil=>
   simp only[List.nil_append,pieces]
   by_cases h:c=46 <;> simp [h]
 | cons d r ih =>
   simp only[List.cons_append,pieces]
   by_cases hd:d=46
   · rw[if_pos hd,if_pos hd,ih]
     have hne:=pieces_ne r
     by_cases h:c=46
     · simp [h]
     · rw[if_neg h,if_neg h]
       cases e:pieces r with
       | nil=>exact absurd e hne
       | cons p ps=>simp [List.getLastD]
   · rw[if_neg hd,if_neg hd,ih]
     have hne:=pieces_ne r
     cases e:pieces r with
     | nil=>exact absurd e hne
     | cons p ps =>
       by_cases h:c=46
       · simp [h]
       · rw[if_neg h,if_neg h]
         cases ps with
         | nil=>simp [List.getLastD]
         | cons q qs=>simp [List.getLastD]
end Go.Proofs.YtnojclchnhmggaaGreatDoor.Ds
end
section
namespace Go.Proofs.YtnojclchnhmggaaGreatDoor.Ds
def okAt (st:Bool) (l:List UInt8) (j:Nat):Bool:=(up (l.getD j 0) || dg (l.getD j 0) || (st&&decide ((l.getD j 0).toNat=42)))&&!(st&&decide ((l.getD j 0).toNat=42)&&decide (0<j)&&decide ((l.getD (j - 1) 0).toNat=42))
def partR (st:Bool) (l:List UInt8):Bool:=decide (1<=l.length)&&decide (l.length<=8)&&!dg (l.getD 0 0)&&(List.range l.length).all (okAt st l)
def partE (st:Bool) (l:List UInt8):Bool:=(st&&decide (l=[42,42])) || partR st l
theorem up_not_dg (c:UInt8) (h:up c=true):dg c=false:=by
 simp only[up,Bool.and_eq_true,decide_eq_true_eq] at h
 simp [dg];omega
theorem star_not_dg (c:UInt8) (h:c.toNat=42):dg c=false:=by simp [dg,h]
theorem ss_iff:∀ l:List UInt8,ss l=true↔∃ j,j+1<l.length∧(l.getD j 0).toNat=42∧(l.getD (j+1) 0).toNat=42
 | []=>by simp [ss]
 | [a]=>by simp [ss]
 | a::b::r=>by
   have ih:=ss_iff (b::r)
   rw[ss,Bool.or_eq_true,ih,Bool.and_eq_true,decide_eq_true_eq,decide_eq_true_eq]
   constructor
   · rintro (h | ⟨j,h1,h2,h3⟩)
     · exact⟨0,by simp,h.1,h.2⟩
     · exact⟨j+1,by simp at h1 ⊢;omega,h2,h3⟩
   · rintro ⟨j,h1,h2,h3⟩
     cases j with
     | zero=>exact .inl ⟨h2,h3⟩
     | succ j=>exact .inr ⟨j,by simp at h1 ⊢;omega,h2,h3⟩
theorem partE_name (l:List UInt8):partE false l=nameQ l:=by
 unfold partE partR nameQ
 simp only[Bool.false_and,Bool.false_or]
 cases l with
 | nil=>rfl
 | cons c r =>
   rw[Bool.eq_iff_iff]
   simp only[Bool.and_eq_true,decide_eq_true_eq,List.mem_range,qual,List.length_cons,Bool.not_eq_true',List.getD_cons_zero,List.all_eq_true]
   constructor
   · rintro ⟨⟨⟨_,h1⟩,h2⟩,h3⟩
     refine⟨⟨by omega,?_⟩,?_⟩
     · have:=h3 0 (by omega)
       simp [okAt,h2] at this;exact this
     · intro x hx
       obtain⟨i,hi,rfl⟩:=List.getElem_of_mem hx
       have:=h3 (i+1) (by omega)
       simp [okAt,hi] at this
       simp [pl,this]
   · rintro ⟨⟨h1,h2⟩,h3⟩
     refine⟨⟨⟨by omega,by omega⟩,up_not_dg c h2⟩,?_⟩
     intro j hj
     cases j with
     | zero=>simp [okAt,h2]
     | succ j =>
       have hj':j<r.length:=by omega
       have:=h3 r[j] (List.getElem_mem hj')
       simp [okAt,hj']
       simpa [pl] using this
theorem partE_pat (l:List UInt8):partE true l=patQ l:=by
 unfold partE patQ
 rw[Bool.true_and]
 by_cases h:l=[42,42]
 · simp [h]
 rw[decide_eq_false h,Bool.false_or,Bool.false_or]
 unfold partR
 cases l with
 | nil=>rfl
 | cons c r =>
   rw[Bool.eq_iff_iff]
   simp only[Bool.and_eq_true,decide_eq_true_eq,List.mem_range,qual,List.length_cons,Bool.not_eq_true',List.getD_cons_zero,List.all_eq_true]
   constructor
   · rintro ⟨⟨⟨_,h1⟩,h2⟩,h3⟩
     refine⟨⟨⟨by omega,?_⟩,?_⟩,?_⟩
     · have:=h3 0 (by omega)
       simp [okAt,h2] at this;simp [ups,this]
     · intro x hx
       obtain⟨i,hi,rfl⟩:=List.getElem_of_mem hx
       have:=h3 (i+1) (by omega)
       have e:(c::r).getD (i+1) 0=r[i]:=by simp [hi]
       unfold okAt at this
       rw[e,Bool.and_eq_true] at this
       have h4:=this.1
       simpa [pls,pl] using h4
     · rw[Bool.eq_false_iff]
       intro hs
       obtain⟨j,j1,j2,j3⟩:=(ss_iff _).1 hs
       have:=h3 (j+1) (by simpa using j1)
       unfold okAt at this
       rw[show j+1 - 1=j from rfl,j2,j3] at this
       simp at this
   · rintro ⟨⟨⟨h1,h2⟩,h3⟩,h4⟩
     refine⟨⟨⟨by omega,by omega⟩,?_⟩,?_⟩
     · simp only[ups,Bool.or_eq_true,decide_eq_true_eq] at h2
       rcases h2 with h2 | h2
       · exact up_not_dg c h2
       · exact star_not_dg c h2
     · intro j hj
       have key:¬ ((((c::r).getD j 0).toNat=42∧0<j)∧((c::r).getD (j - 1) 0).toNat=42):=by
        rintro ⟨⟨k1,k2⟩,k3⟩
        rw[Bool.eq_false_iff] at h4
        exact h4 ((ss_iff _).2 ⟨j - 1,by simp;omega,k3,by rw[Nat.sub_add_cancel k2];exact k1⟩)
       have g:(up ((c::r).getD j 0) || dg ((c::r).getD j 0) || decide (((c::r).getD j 0).toNat=42))=true:=by
        cases j with
        | zero =>
          rw[List.getD_cons_zero]
          simp only[ups,Bool.or_eq_true,decide_eq_true_eq] at h2 ⊢
          rcases h2 with h2 | h2
          · exact .inl (.inl h2)
          · exact .inr h2
        | succ j =>
          have hj':j<r.length:=by omega
          have:=h3 r[j] (List.getElem_mem hj')
          rw[show (c::r).getD (j+1) 0=r[j] from by simp [hj']]
          simpa [pls,pl] using this
       unfold okAt
       simp only[Bool.true_and]
       rw[g,Bool.true_and,Bool.not_eq_true',Bool.eq_false_iff]
       simpa [Bool.and_eq_true] using key
def validE (st:Bool) (s:List UInt8):Bool:=decide (1<=s.length)&&decide (s.length<=31)&&(pieces s).all (partE st)
theorem validE_name (s:List UInt8):validE false s=name s:=by
 unfold validE name
 congr 2;funext q;exact partE_name q
theorem validE_pat (s:List UInt8):validE true s=pat s:=by
 unfold validE pat
 congr 2;funext q;exact partE_pat q
theorem join_snoc (l:List (List UInt8)) (x:List UInt8) (h:l≠[]):Lib.join (l++[x]) [46]=Lib.join l [46]++[46]++x:=by
 induction l with
 | nil=>exact absurd rfl h
 | cons a r ih =>
   cases r with
   | nil=>rw[List.cons_append,List.nil_append,join_cons2,Lib.join_one,Lib.join_one]
   | cons b r =>
     rw[List.cons_append,List.cons_append,join_cons2,join_cons2,<-List.cons_append,ih (by simp)]
     simp [List.append_assoc]
def front (s:List UInt8):List UInt8:=Lib.join (pieces s).dropLast [46]
def last (s:List UInt8):List UInt8:=(pieces s).getLastD []
def gen (s:List UInt8):Bool:=group (front s)&&!decide (num (last s)=0)
end Go.Proofs.YtnojclchnhmggaaGreatDoor.Ds
end
