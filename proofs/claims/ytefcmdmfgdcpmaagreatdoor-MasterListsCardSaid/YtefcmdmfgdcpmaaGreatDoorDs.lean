/- Catalogs. -/
import Derived.Lib.Replace
import Derived.Lib.Join
namespace Go.Proofs.YtefcmdmfgdcpmaaGreatDoor.Ds
def bl(s:ByteArray):List UInt8:=s.data.toList
theorem bl_length(s:ByteArray):(bl s).length=s.size:=Array.length_toList (xs:=s.data)
theorem bl_get(s:ByteArray)(k:Nat)(h:k<s.size):s[k]=(bl s)[k]'(by rw[bl_length];exact h):=by simp [bl,ByteArray.getElem_eq_getElem_data]
theorem bl_mk(l:List UInt8):bl ⟨l.toArray⟩=l:=by simp [bl]
theorem mk_bl(s:ByteArray):(⟨(bl s).toArray⟩:ByteArray)=s:=by simp [bl]
theorem bl_inj{s t:ByteArray}(h:bl s=bl t):s=t:=by rw[<-mk_bl s,h,mk_bl]
def up(c:UInt8):Bool:=decide (65<=c.toNat)&&decide (c.toNat<=90)
def dg(c:UInt8):Bool:=decide (48<=c.toNat)&&decide (c.toNat<=57)
def pl(c:UInt8):Bool:=up c || dg c
def ups(c:UInt8):Bool:=up c || decide (c.toNat=42)
def pls(c:UInt8):Bool:=pl c || decide (c.toNat=42)
def qual(F G:UInt8->Bool):List UInt8->Bool
 | []=>false
 | c::r=>decide (r.length<=7)&&F c&&r.all G
def rest{α:Type}(G:α->Bool)(l:List α)(k:Nat):Bool:=(l.drop k).all G
theorem rest_next{α:Type}(G:α->Bool)(l:List α)(k:Nat)(h:k<l.length):rest G l k=(G l[k]&&rest G l (k+1)):=by
 unfold rest;rw[List.drop_eq_getElem_cons h,List.all_cons]
theorem rest_end{α:Type}(G:α->Bool)(l:List α)(k:Nat)(h:l.length<=k):rest G l k=true:=by
 unfold rest;rw[List.drop_eq_nil_of_le h];rfl
theorem qual_rest(F G:UInt8->Bool)(l:List UInt8)(h:0<l.length)(h8:l.length<=8)(hF:F l[0]=true):qual F G l=rest G l 1:=by
 cases l with
 | nil=>simp at h
 | cons c r =>
   simp only[List.length_cons] at h8
   simp only[List.getElem_cons_zero] at hF
   simp [qual,rest,hF];omega
theorem qual_len(F G:UInt8->Bool)(l:List UInt8)(h:l.length<1∨8<l.length):qual F G l=false:=by
 cases l with
 | nil=>rfl
 | cons c r =>
   simp only[List.length_cons] at h
   simp [qual];omega
theorem qual_head(F G:UInt8->Bool)(l:List UInt8)(h:0<l.length)(hF:F l[0]=false):qual F G l=false:=by
 cases l with
 | nil=>rfl
 | cons c r =>
   simp only[List.getElem_cons_zero] at hF
   simp [qual,hF]
def pieces:List UInt8->List (List UInt8)
 | []=>[[]]
 | c::r=>if c=46 then []::pieces r else match pieces r with
   | []=>[[c]]
   | p::ps=>(c::p)::ps
theorem pieces_ne(l:List UInt8):pieces l≠[]:=by
 cases l with
 | nil=>simp [pieces]
 | cons c r =>
   simp only[pieces]
   split
   · simp
   · split <;> simp
theorem pieces_len(l:List UInt8):(pieces l).length=l.count 46+1:=by
 induction l with
 | nil=>rfl
 | cons c r ih =>
   simp only[pieces]
   split
   · rename_i e;subst e;simp [ih]
   · rename_i e;have e':(c==46)=false:=by simpa using e
     have:=pieces_ne r
     cases h:pieces r with
     | nil=>exact absurd h this
     | cons p ps=>rw[h] at ih;simp [List.count_cons,e'] at ih ⊢;omega
def ss:List UInt8->Bool
 | a::b::r=>(decide (a.toNat=42)&&decide (b.toNat=42)) || ss (b::r)
 | _=>false
def nameQ(q:List UInt8):Bool:=qual up pl q
def patQ(q:List UInt8):Bool:=decide (q=[42,42]) || qual ups pls q&&!ss q
def name(s:List UInt8):Bool:=decide (1<=s.length)&&decide (s.length<=31)&&(pieces s).all nameQ
def pat(s:List UInt8):Bool:=decide (1<=s.length)&&decide (s.length<=31)&&(pieces s).all patQ
def mid(q:List UInt8):List UInt8:=(q.drop 1).take 4
def nv(q:List UInt8)(k:Nat):Nat:=((mid q).take k).foldl (fun n c=>10*n+(c.toNat - 48)) 0
def num(q:List UInt8):Nat:=if q.length=8∧q[0]?=some 71∧q.drop 5=[86,48,48]∧rest dg (mid q) 0=true then nv q 4 else 0
theorem mid_length(q:List UInt8)(h:q.length=8):(mid q).length=4:=by simp [mid,h]
theorem mid_get(q:List UInt8)(h:q.length=8)(k:Nat)(hk:k<4):(mid q)[k]'(by rw[mid_length q h];exact hk)=q[k+1]'(by omega):=by
 simp only[mid,List.getElem_take,List.getElem_drop]
 congr 1;omega
theorem nv_next(q:List UInt8)(h:q.length=8)(k:Nat)(hk:k<4):nv q (k+1)=10*nv q k+((q[k+1]'(by omega)).toNat - 48):=by
 unfold nv;rw[List.take_succ_eq_append_getElem (by rw[mid_length q h];exact hk),List.foldl_append,mid_get q h k hk];rfl
theorem nv_bound(q:List UInt8):∀ k,nv q k<=10000000000∧(k<=4->nv q k<=300*10 ^ k):=by
 have key:∀ (l:List UInt8) (a:Nat),l.foldl (fun n c=>10*n+(c.toNat - 48)) a<=(a+30)*10 ^ l.length:=by
  intro l
  induction l with
  | nil=>intro a;simp
  | cons c r ih =>
    intro a;have h:=ih (10*a+(c.toNat - 48));have hc:c.toNat<256:=c.toNat_lt;simp only[List.foldl_cons,List.length_cons,Nat.pow_succ]
    refine Nat.le_trans h ?_
    have:10*a+(c.toNat - 48)+30<=(a+30)*10:=by omega
    calc (10*a+(c.toNat - 48)+30)*10 ^ r.length<=(a+30)*10*10 ^ r.length:=Nat.mul_le_mul_right _ this
     _=(a+30)*(10 ^ r.length*10):=by rw[Nat.mul_assoc,Nat.mul_comm 10]
 intro k;have h:=key ((mid q).take k) 0;have hl:((mid q).take k).length<=4:=by simp [mid];omega
 have hp:10 ^ ((mid q).take k).length<=10 ^ 4:=Nat.pow_le_pow_right (by omega) hl;refine⟨?_,?_⟩
 · unfold nv;omega
 · intro _;have:10 ^ ((mid q).take k).length<=10 ^ k:=Nat.pow_le_pow_right (by omega) (by simp;omega);unfold nv;omega
theorem dg_bounds(c:UInt8)(h:dg c=true):48<=c.toNat∧c.toNat<=57:=by simpa [dg] using h
def group(s:List UInt8):Bool:=name s&&decide (s.length<=22)&&(pieces s).all fun q=>decide (num q=0)
def mt{α β:Type}(star:α->Bool)(one:α->β->Bool):List α->List β->Bool
 | [],[]=>true
 | [],_::_=>false
 | a::p,[]=>star a&&mt star one p []
 | a::p,b::l=>if star a then mt star one p (b::l) || mt star one (a::p) l else one a b&&mt star one p l
termination_by p l=>p.length+l.length
def tab(S:Nat->Bool)(O:Nat->Nat->Bool)(p n:Nat)(r c:Nat):Bool :=
 if r<p then
  if S r=true then tab S O p n (r+1) c || (if c<n then tab S O p n r (c+1) else false)
  else if c<n then tab S O p n (r+1) (c+1)&&O r c else false
 else decide (c=n)
termination_by (p - r)+(n - c)
theorem tab_end(S:Nat->Bool)(O:Nat->Nat->Bool)(p n r c:Nat)(h:p<=r):tab S O p n r c=decide (c=n):=by
 rw[tab,if_neg (by omega)]
theorem tab_star(S:Nat->Bool)(O:Nat->Nat->Bool)(p n r c:Nat)(h:r<p)(hs:S r=true):tab S O p n r c=(tab S O p n (r+1) c || (decide (c<n)&&tab S O p n r (c+1))):=by
 rw[tab,if_pos h,if_pos hs];by_cases hc:c<n <;> simp [hc]
theorem tab_one(S:Nat->Bool)(O:Nat->Nat->Bool)(p n r c:Nat)(h:r<p)(hs:S r=false):tab S O p n r c=(decide (c<n)&&tab S O p n (r+1) (c+1)&&O r c):=by
 rw[tab,if_pos h,if_neg (by simp [hs])];by_cases hc:c<n <;> simp [hc]
theorem tab_mt{α β:Type}(star:α->Bool)(one:α->β->Bool)(P:List α)(L:List β)(S:Nat->Bool)(O:Nat->Nat->Bool)(hS:∀ i (h:i<P.length),S i=star P[i])(hO:∀ i k (h:i<P.length) (h':k<L.length),O i k=one P[i] L[k]) :
  ∀ (m r c:Nat),(P.length - r)+(L.length - c)<=m->c<=L.length->tab S O P.length L.length r c=mt star one (P.drop r) (L.drop c):=by
 intro m
 induction m with
 | zero =>
   intro r c h hc;rw[tab_end _ _ _ _ _ _ (by omega),List.drop_eq_nil_of_le (by omega),List.drop_eq_nil_of_le (by omega)];have:c=L.length:=by omega
   simp [mt,this]
 | succ m ih =>
   intro r c h hc;rcases Nat.lt_or_ge r P.length with hr|hr
   · rw[List.drop_eq_getElem_cons hr];rcases Nat.lt_or_ge c L.length with hl|hl
     · rw[List.drop_eq_getElem_cons hl,mt];cases hs:star P[r]
       · rw[tab_one _ _ _ _ _ _ hr (by rw[hS r hr];exact hs),ih _ _ (by omega) (by omega),hO r c hr hl];simp [hl,Bool.and_comm]
       · rw[tab_star _ _ _ _ _ _ hr (by rw[hS r hr];exact hs),ih _ _ (by omega) (by omega),ih _ _ (by omega) (by omega)];rw[List.drop_eq_getElem_cons hr,List.drop_eq_getElem_cons hl];simp [hl]
     · rw[List.drop_eq_nil_of_le (as:=L) (by omega),mt];cases hs:star P[r]
       · rw[tab_one _ _ _ _ _ _ hr (by rw[hS r hr];exact hs)];rw[decide_eq_false (by omega)];rfl
       · rw[tab_star _ _ _ _ _ _ hr (by rw[hS r hr];exact hs),ih _ _ (by omega) (by omega),List.drop_eq_nil_of_le (as:=L) (by omega)];rw[decide_eq_false (p:=c<L.length) (by omega)];simp
   · rw[tab_end _ _ _ _ _ _ hr,List.drop_eq_nil_of_le hr];rcases Nat.lt_or_ge c L.length with hl|hl
     · rw[List.drop_eq_getElem_cons hl,mt];have:c≠L.length:=by omega
       simp [this]
     · rw[List.drop_eq_nil_of_le (by omega),mt];have:c=L.length:=by omega
       simp [this]
def mtQ(q s:List UInt8):Bool:=mt (fun c=>decide (c=42)) (fun c d=>decide (c=d)) q s
def mtP(p l:List (List UInt8)):Bool:=mt (fun q=>decide (q=[42,42])) mtQ p l
def match_(p s:List UInt8):Bool:=pat p&&name s&&mtP (pieces p) (pieces s)
def zvk(q:List UInt8):List UInt8:=if q=[42,42] then [255] else q.map fun c=>if c=42 then 254 else c
def key(p:List UInt8):List UInt8:=Lib.join ((pieces p).map zvk) [46]
def order(a b:List UInt8):Int:=if pat a&&pat b then Lib.compareBytes (key a) (key b) else 0
def first(n:Int)(s:List UInt8):List UInt8:=if name s then Lib.join ((pieces s).take n.toNat) [46] else []
end Go.Proofs.YtefcmdmfgdcpmaaGreatDoor.Ds
namespace Go.Proofs.YtefcmdmfgdcpmaaGreatDoor.Ds
theorem zcL(c d:UInt8)(r:List UInt8):Lib.index (c::r) [d]=if c=d then 0 else if Lib.index r [d]=-1 then -1 else Lib.index r [d]+1:=by
 rw[Lib.index];simp only[List.isPrefixOf,Bool.and_true,beq_iff_eq]
 by_cases h:c=d
 · subst h;simp
 · rw[if_neg (fun e=>h e.symm),if_neg h]
theorem zkD(d:UInt8):Lib.index [] [d]=-1:=by simp [Lib.index]
theorem zf4(d:UInt8):Lib.count [] [d]=0:=Lib.count_miss (zkD d)
theorem zdw(d:UInt8)(r:List UInt8):Lib.count (d::r) [d]=1+Lib.count r [d]:=by
 have h:Lib.index (d::r) [d]=(0:Nat):=by rw[zcL];simp
 rw[Lib.count_hit (by simp) h];simp
theorem zde(c d:UInt8)(r:List UInt8)(hc:c≠d):Lib.count (c::r) [d]=Lib.count r [d]:=by
 rcases Lib.index_spec r [d] with ⟨h,_⟩|⟨i,h,_⟩
 · rw[Lib.count_miss h,Lib.count_miss (by rw[zcL,if_neg hc,if_pos h])]
 · have h':Lib.index (c::r) [d]=((i+1:Nat):Int):=by rw[zcL,if_neg hc,if_neg (by omega),h];rfl
   rw[Lib.count_hit (by simp) h,Lib.count_hit (by simp) h'];simp
theorem splitK_pieces(s:List UInt8):Lib.splitK [46] 0 (Lib.count s [46]) s=pieces s:=by
 induction s with
 | nil=>rw[zf4];rfl
 | cons c r ih =>
   by_cases hc:c=46
   · subst hc;rw[zdw,Nat.add_comm,Lib.splitK];have h:Lib.index (46::r) [46]=0:=by rw[zcL];simp
     rw[h];simp [pieces,ih]
   · rw[zde c 46 r hc];simp only[pieces,if_neg hc]
     rw[<-ih];rcases Lib.index_spec r [46] with ⟨h,_⟩|⟨i,h,_⟩
     · rw[Lib.count_miss h];rfl
     · have h':Lib.index (c::r) [46]=((i+1:Nat):Int):=by rw[zcL,if_neg hc,if_neg (by omega),h];rfl
       rw[Lib.count_hit (by simp) h,Nat.add_comm,Lib.splitK,Lib.splitK,h',h];have e1:((i:Int)==-1)=false:=by simp
       have e2:(((i+1:Nat):Int)==-1)=false:=by simp;omega
       simp only[e1,e2]
       simp [Int.toNat_natCast]
theorem count_eq(s:List UInt8)(d:UInt8):Lib.count s [d]=s.count d:=by
 induction s with
 | nil=>rw[zf4];rfl
 | cons c r ih =>
   by_cases hc:c=d
   · subst hc;rw[zdw,ih];simp;omega
   · rw[zde c d r hc,ih];have:(c==d)=false:=by simpa using hc
     simp [List.count_cons,this]
theorem join_pieces(s:List UInt8):Lib.join (pieces s) [46]=s:=by
 unfold Lib.join
 induction s with
 | nil=>rfl
 | cons c r ih =>
   simp only[pieces]
   split
   · rename_i e;subst e
     cases h:pieces r with
     | nil=>exact absurd h (pieces_ne r)
     | cons p ps=>rw[h] at ih;rw[<-ih];simp [List.intercalate]
   · cases h:pieces r with
     | nil=>exact absurd h (pieces_ne r)
     | cons p ps =>
       rw[h] at ih;simp only
       rw[<-ih];cases ps <;> simp [List.intercalate]
theorem join_cons2(a b:List UInt8)(r:List (List UInt8))(sep:List UInt8):Lib.join (a::b::r) sep=a++sep++Lib.join (b::r) sep:=by
 unfold Lib.join;simp [List.intercalate]
theorem join_take(xs:List (List UInt8))(sep:List UInt8):∀ n,(Lib.join (xs.take n) sep).length<=(Lib.join xs sep).length:=by
 induction xs with
 | nil=>intro n;simp
 | cons a r ih =>
   intro n
   cases n with
   | zero=>simp [Lib.join_nil]
   | succ n =>
     cases r with
     | nil=>simp
     | cons b r =>
       cases n with
       | zero =>
         rw[List.take_succ_cons,List.take_zero,Lib.join_one,join_cons2];simp
       | succ n =>
         have:=ih (n+1);rw[List.take_succ_cons] at this;rw[List.take_succ_cons,List.take_succ_cons,join_cons2,join_cons2];simp only[List.length_append];omega
theorem contains_ss(s:List UInt8):Lib.contains s [42,42]=ss s:=by
 have key:∀ s:List UInt8,decide (0<=Lib.index s [42,42])=ss s:=by
  intro s
  induction s with
  | nil=>simp [Lib.index,ss]
  | cons a r ih =>
    rw[Lib.index]
    cases r with
    | nil=>simp [Lib.index,ss,List.isPrefixOf]
    | cons b r =>
      simp only[ss,<-ih,List.isPrefixOf,Bool.and_true]
      have e:∀ x:UInt8,(42==x)=decide (x.toNat=42):=by
       intro x;rw[Bool.eq_iff_iff];simp only[beq_iff_eq,decide_eq_true_eq];constructor
       · rintro rfl;rfl
       · intro h;exact UInt8.toNat_inj.1 h.symm
      rw[e a,e b];cases h:(decide (a.toNat=42)&&decide (b.toNat=42))
      · have hi:=Lib.index_ge (b::r) [42,42];simp only[Bool.false_eq_true,if_false,Bool.false_or]
        by_cases h1:Lib.index (b::r) [42,42]=-1
        · simp [h1]
        · have h1':(Lib.index (b::r) [42,42]==-1)=false:=by simpa using h1
          simp only[h1',Bool.false_eq_true,if_false]
          rw[Bool.eq_iff_iff];simp only[decide_eq_true_eq];omega
      · simp
 exact key s
theorem bl_eq(s:ByteArray)(l:List UInt8):s=⟨l.toArray⟩↔bl s=l:=by
 constructor
 · rintro rfl;exact bl_mk l
 · intro h;rw[<-h,mk_bl]
theorem bl_beq(s:ByteArray)(l:List UInt8)(h:¬ s=⟨l.toArray⟩):(s.toList==l)=false:=by
 rw[ByteArray.toList_eq,Bool.eq_false_iff];intro e;exact h ((bl_eq s l).2 (by simpa [bl] using e))
theorem qual_le(F G:UInt8->Bool)(l:List UInt8)(h:qual F G l=true):l.length<=8:=by
 rcases Nat.lt_or_ge 8 l.length with h'|h'
 · rw[qual_len F G l (.inr h')] at h;cases h
 · exact h'
end Go.Proofs.YtefcmdmfgdcpmaaGreatDoor.Ds
namespace Go.Proofs.YtefcmdmfgdcpmaaGreatDoor.Ds
inductive M {α β:Type} (star:α->Bool) (one:α->β->Bool):List α->List β->Prop
 | nil:M star one [] []
 | skip {a p l}:star a=true->M star one p l->M star one (a::p) l
 | eat {a p b l}:star a=true->M star one (a::p) l->M star one (a::p) (b::l)
 | one {a p b l}:star a=false->one a b=true->M star one p l->M star one (a::p) (b::l)
theorem mt_M{α β:Type}(star:α->Bool)(one:α->β->Bool):∀ (m:Nat) (p:List α) (l:List β),p.length+l.length<=m->(mt star one p l=true↔M star one p l):=by
 intro m
 induction m with
 | zero =>
   intro p l h;cases p <;> cases l <;> simp at h
   simp [mt,M.nil]
 | succ m ih =>
   intro p l h
   cases p with
   | nil =>
     cases l with
     | nil=>simp [mt,M.nil]
     | cons b l=>simp only[mt,Bool.false_eq_true,false_iff];intro h;cases h
   | cons a p =>
     cases l with
     | nil =>
       simp only[List.length_cons,List.length_nil] at h
       rw[mt,Bool.and_eq_true,ih p [] (by simp;omega)];constructor
       · rintro ⟨h1,h2⟩;exact .skip h1 h2
       · intro h;cases h with
         | skip h1 h2=>exact⟨h1,h2⟩
     | cons b l =>
       simp only[List.length_cons] at h
       rw[mt];cases hs:star a
       · simp only[Bool.false_eq_true,if_false,Bool.and_eq_true]
         rw[ih p l (by omega)];constructor
         · rintro ⟨h1,h2⟩;exact .one hs h1 h2
         · intro h;cases h with
           | skip h1 h2=>rw[hs] at h1;cases h1
           | eat h1 h2=>rw[hs] at h1;cases h1
           | one h1 h2 h3=>exact⟨h2,h3⟩
       · simp only[if_true,Bool.or_eq_true]
         rw[ih p (b::l) (by simp;omega),ih (a::p) l (by simp;omega)];constructor
         · rintro (h|h)
           · exact .skip hs h
           · exact .eat hs h
         · intro h;cases h with
           | skip h1 h2=>exact .inl h2
           | eat h1 h2=>exact .inr h2
           | one h1 h2 h3=>rw[hs] at h1;cases h1
theorem zjZ{α β:Type}(star:α->Bool)(one:α->β->Bool)(p:List α)(l:List β):mt star one p l=true↔M star one p l:=mt_M star one _ p l (Nat.le_refl _)
theorem znM{α β:Type}{star:α->Bool}{one:α->β->Bool}{p l}(h:M star one p l){p' l'}(h':M star one p' l'):M star one (p++p') (l++l'):=by
 induction h with
 | nil=>exact h'
 | skip h1 _ ih=>exact .skip h1 ih
 | eat h1 _ ih=>exact .eat h1 ih
 | one h1 h2 _ ih=>exact .one h1 h2 ih
theorem zpB{α β:Type}{star:α->Bool}{one:α->β->Bool}(a:α)(h:star a=true):∀ l:List β,M star one [a] l
 | []=>.skip h .nil
 | _::l=>.eat h (zpB a h l)
theorem zqJ{α β:Type}{star:α->Bool}{one:α->β->Bool}(p p':List α):∀ (l:List β),M star one (p++p') l->∃ l1 l2,l=l1++l2∧M star one p l1∧M star one p' l2:=by
 intro l h;generalize e:p++p'=q at h
 induction h generalizing p with
 | nil=>
   have:=List.append_eq_nil_iff.1 e;obtain⟨rfl,rfl⟩:=this;exact⟨[],[],rfl,.nil,.nil⟩
 | @skip a q l h1 h2 ih =>
   cases p with
   | nil=>exact⟨[],l,rfl,.nil,by simp at e;rw[e];exact .skip h1 h2⟩
   | cons c p =>
     simp only[List.cons_append,List.cons.injEq] at e
     obtain⟨rfl,e⟩:=e;obtain⟨l1,l2,rfl,h3,h4⟩:=ih p e;exact⟨l1,l2,rfl,.skip h1 h3,h4⟩
 | @eat a q b l h1 h2 ih =>
   cases p with
   | nil=>exact⟨[],b::l,rfl,.nil,by simp at e;rw[e];exact .eat h1 h2⟩
   | cons c p =>
     have e':=e;simp only[List.cons_append,List.cons.injEq] at e'
     obtain⟨rfl,e'⟩:=e';obtain⟨l1,l2,rfl,h3,h4⟩:=ih (c::p) e;exact⟨b::l1,l2,rfl,.eat h1 h3,h4⟩
 | @one a q b l h1 h2 h3 ih =>
   cases p with
   | nil=>exact⟨[],b::l,rfl,.nil,by simp at e;rw[e];exact .one h1 h2 h3⟩
   | cons c p =>
     simp only[List.cons_append,List.cons.injEq] at e
     obtain⟨rfl,e⟩:=e;obtain⟨l1,l2,rfl,h4,h5⟩:=ih p e;exact⟨b::l1,l2,rfl,.one h1 h2 h4,h5⟩
end Go.Proofs.YtefcmdmfgdcpmaaGreatDoor.Ds
namespace Go.Proofs.YtefcmdmfgdcpmaaGreatDoor.Ds
theorem zqB:∀ l:List UInt8,ss l=true↔∃ j,j+1<l.length∧(l.getD j 0).toNat=42∧(l.getD (j+1) 0).toNat=42
 | []=>by simp [ss]
 | [a]=>by simp [ss]
 | a::b::r=>by
   have ih:=zqB (b::r);rw[ss,Bool.or_eq_true,ih,Bool.and_eq_true,decide_eq_true_eq,decide_eq_true_eq];constructor
   · rintro (h|⟨j,h1,h2,h3⟩)
     · exact⟨0,by simp,h.1,h.2⟩
     · exact⟨j+1,by simp at h1 ⊢;omega,h2,h3⟩
   · rintro ⟨j,h1,h2,h3⟩
     cases j with
     | zero=>exact .inl ⟨h2,h3⟩
     | succ j=>exact .inr ⟨j,by simp at h1 ⊢;omega,h2,h3⟩
def front(s:List UInt8):List UInt8:=Lib.join (pieces s).dropLast [46]
def last(s:List UInt8):List UInt8:=(pieces s).getLastD []
def gen(s:List UInt8):Bool:=group (front s)&&!decide (num (last s)=0)
end Go.Proofs.YtefcmdmfgdcpmaaGreatDoor.Ds
