/- Catalogs. -/
import Derived.Lib.Replace
import Derived.Lib.Join
open _root_ renaming ByteArray->Z7,List->Z5,if_neg->Z0,if_pos->ZX,decide_eq_true_eq->ZU,UInt8->ZP,decide_eq_false->ZF,Bool->Zi
open Bool renaming true->ZZ,false->ZW,and_eq_true->ZT,eq_iff_iff->Zf,or_eq_true->Yh,false_eq_true->W7
open List renaming length_cons->ZK,cons_append->Zm,drop_eq_getElem_cons->Zb,drop_eq_nil_of_le->X4,getElem_cons_zero->WD,take_succ_cons->VV
open Nat renaming lt_or_ge->YI,pow_le_pow_right->XD
open Go.Lib renaming join->XQ,index->W8
namespace Go.Proofs.YtnkjliahpeebjaaGreatDoor.Ds
variable(F G:ZP->Zi)(q l:Z5 ZP)(s:Z7){α β:Type}(S:Nat->Zi)(O:Nat->Nat->Zi)
def bl(s:Z7):Z5 ZP:=s.data.toList
theorem bl_length:(bl s).length=s.size:=Array.length_toList (xs:=s.data)
theorem bl_get(k:Nat)(h:k<s.size):s[k]=(bl s)[k]'(by rw[bl_length];exact h):=by simp [bl,ByteArray.getElem_eq_getElem_data]
theorem bl_mk:bl ⟨l.toArray⟩=l:=by simp [bl]
theorem mk_bl:(⟨(bl s).toArray⟩:Z7)=s:=by simp [bl]
theorem bl_inj{s t:Z7}(h:bl s=bl t):s=t:=by rw[<-mk_bl s,h,mk_bl]
def up(c:ZP):Zi:=decide (65<=c.toNat)&&decide (c.toNat<=90)
def dg(c:ZP):Zi:=decide (48<=c.toNat)&&decide (c.toNat<=57)
def pl(c:ZP):Zi:=up c || dg c
def ups(c:ZP):Zi:=up c || decide (c.toNat=42)
def pls(c:ZP):Zi:=pl c || decide (c.toNat=42)
def qual(F G:ZP->Zi):Z5 ZP->Zi
 | []=>ZW
 | c::r=>decide (r.length<=7)&&F c&&r.all G
def rest{α:Type}(G:α->Zi)(l:Z5 α)(k:Nat):Zi:=(l.drop k).all G
theorem rest_next(G:α->Zi)(l:Z5 α)(k:Nat)(h:k<l.length):rest G l k=(G l[k]&&rest G l (k+1)):=by
 unfold rest;rw[Zb h,List.all_cons]
theorem rest_end(G:α->Zi)(l:Z5 α)(k:Nat)(h:l.length<=k):rest G l k=ZZ:=by
 unfold rest;rw[X4 h];rfl
theorem qual_rest(h:0<l.length)(H:l.length<=8)(hF:F l[0]=ZZ):qual F G l=rest G l 1:=by
 cases l with
 | nil=>simp at h
 | cons c r =>
   simp only[ZK] at H
   simp only[WD] at hF
   simp [qual,rest,hF];omega
theorem qual_len(h:l.length<1\/8<l.length):qual F G l=ZW:=by
 cases l with
 | nil=>rfl
 | cons c r =>
   simp only[ZK] at h
   simp [qual];omega
theorem qual_head(h:0<l.length)(hF:F l[0]=ZW):qual F G l=ZW:=by
 cases l with
 | nil=>rfl
 | cons c r =>
   simp only[WD] at hF
   simp [qual,hF]
def pieces:Z5 ZP->Z5 (Z5 ZP)
 | []=>[[]]
 | c::r=>if c=46 then []::pieces r else match pieces r with
   | []=>[[c]]
   | p::P=>(c::p)::P
theorem pieces_ne:pieces l≠[]:=by
 cases l with
 | nil=>simp [pieces]
 | cons c r =>
   simp only[pieces]
   split
   .simp
   .split <;> simp
theorem pieces_len:(pieces l).length=l.count 46+1:=by
 induction l with
 | nil=>rfl
 | cons c r i =>
   simp only[pieces]
   split
   .rename_i e;subst e;simp [i]
   .rename_i e;have E:(c==46)=ZW:=by simpa using e
    have:=pieces_ne r
    cases h:pieces r with
    | nil=>exact absurd h this
    | cons p P=>rw[h] at i;simp [List.count_cons,E] at i |-;omega
def ss:Z5 ZP->Zi
 | a::b::r=>(decide (a.toNat=42)&&decide (b.toNat=42)) || ss (b::r)
 | _=>ZW
def nameQ(q:Z5 ZP):Zi:=qual up pl q
def patQ(q:Z5 ZP):Zi:=decide (q=[42,42]) || qual ups pls q&&!ss q
def name(s:Z5 ZP):Zi:=decide (1<=s.length)&&decide (s.length<=31)&&(pieces s).all nameQ
def pat(s:Z5 ZP):Zi:=decide (1<=s.length)&&decide (s.length<=31)&&(pieces s).all patQ
def mid(q:Z5 ZP):Z5 ZP:=(q.drop 1).take 4
def nv(q:Z5 ZP)(k:Nat):Nat:=((mid q).take k).foldl (fun n c=>10*n+(c.toNat - 48)) 0
def num(q:Z5 ZP):Nat:=if q.length=8/\q[0]?=some 71/\q.drop 5=[86,48,48]/\rest dg (mid q) 0=ZZ then nv q 4 else 0
theorem mid_length(h:q.length=8):(mid q).length=4:=by simp [mid,h]
theorem mid_get(h:q.length=8)(k:Nat)(H:k<4):(mid q)[k]'(by rw[mid_length q h];exact H)=q[k+1]'(by omega):=by
 simp only[mid,List.getElem_take,List.getElem_drop]
 congr 1;omega
theorem nv_next(h:q.length=8)(k:Nat)(H:k<4):nv q (k+1)=10*nv q k+((q[k+1]'(by omega)).toNat - 48):=by
 unfold nv;rw[List.take_succ_eq_append_getElem (by rw[mid_length q h];exact H),List.foldl_append,mid_get q h k H];rfl
theorem nv_bound:∀ k,nv q k<=10000000000/\(k<=4->nv q k<=300*10 ^ k):=by
 have key:∀ (l:Z5 ZP) (a:Nat),l.foldl (fun n c=>10*n+(c.toNat - 48)) a<=(a+30)*10 ^ l.length:=by
  intro l
  induction l with
  | nil=>intro a;simp
  | cons c r i =>
    intro a;have h:=i (10*a+(c.toNat - 48));have f:c.toNat<256:=c.toNat_lt;simp only[List.foldl_cons,ZK,Nat.pow_succ]
    refine Nat.le_trans h ?_
    have:10*a+(c.toNat - 48)+30<=(a+30)*10:=by omega
    calc (10*a+(c.toNat - 48)+30)*10 ^ r.length<=(a+30)*10*10 ^ r.length:=Nat.mul_le_mul_right _ this
     _=(a+30)*(10 ^ r.length*10):=by rw[Nat.mul_assoc,Nat.mul_comm 10]
 intro k;have h:=key ((mid q).take k) 0;have H:((mid q).take k).length<=4:=by simp [mid];omega
 have p:10 ^ ((mid q).take k).length<=10 ^ 4:=XD (by omega) H;refine⟨?_,?_⟩
 .unfold nv;omega
 .intro _;have:10 ^ ((mid q).take k).length<=10 ^ k:=XD (by omega) (by simp;omega);unfold nv;omega
theorem dg_bounds(c:ZP)(h:dg c=ZZ):48<=c.toNat/\c.toNat<=57:=by simpa [dg] using h
def group(s:Z5 ZP):Zi:=name s&&decide (s.length<=22)&&(pieces s).all fun q=>decide (num q=0)
def mt{α β:Type}(f:α->Zi)(one:α->β->Zi):Z5 α->Z5 β->Zi
 | [],[]=>ZZ
 | [],_::_=>ZW
 | a::p,[]=>f a&&mt f one p []
 | a::p,b::l=>if f a then mt f one p (b::l) || mt f one (a::p) l else one a b&&mt f one p l
termination_by p l=>p.length+l.length
def tab(S:Nat->Zi)(O:Nat->Nat->Zi)(p n:Nat)(r c:Nat):Zi :=
 if r<p then
  if S r=ZZ then tab S O p n (r+1) c || (if c<n then tab S O p n r (c+1) else ZW)
  else if c<n then tab S O p n (r+1) (c+1)&&O r c else ZW
 else decide (c=n)
termination_by (p - r)+(n - c)
theorem tab_end(p n r c:Nat)(h:p<=r):tab S O p n r c=decide (c=n):=by
 rw[tab,Z0 (by omega)]
theorem tab_star(p n r c:Nat)(h:r<p)(f:S r=ZZ):tab S O p n r c=(tab S O p n (r+1) c || (decide (c<n)&&tab S O p n r (c+1))):=by
 rw[tab,ZX h,ZX f];by_cases H:c<n <;> simp [H]
theorem tab_one(p n r c:Nat)(h:r<p)(f:S r=ZW):tab S O p n r c=(decide (c<n)&&tab S O p n (r+1) (c+1)&&O r c):=by
 rw[tab,ZX h,Z0 (by simp [f])];by_cases H:c<n <;> simp [H]
theorem tab_mt(f:α->Zi)(one:α->β->Zi)(P:Z5 α)(L:Z5 β)(S:Nat->Zi)(O:Nat->Nat->Zi)(n:∀ i (h:i<P.length),S i=f P[i])(o:∀ i k (h:i<P.length) (u:k<L.length),O i k=one P[i] L[k]) :
 ∀ (m r c:Nat),(P.length - r)+(L.length - c)<=m->c<=L.length->tab S O P.length L.length r c=mt f one (P.drop r) (L.drop c):=by
 intro m
 induction m with
 | zero =>
   intro r c h t;rw[tab_end _ _ _ _ _ _ (by omega),X4 (by omega),X4 (by omega)];have:c=L.length:=by omega
   simp [mt,this]
 | succ m I =>
   intro r c h t;rcases YI r P.length with H|H
   .rw[Zb H];rcases YI c L.length with g|g
    .rw[Zb g,mt];cases j:f P[r]
     .rw[tab_one _ _ _ _ _ _ H (by rw[n r H];exact j),I _ _ (by omega) (by omega),o r c H g];simp [g,Bool.and_comm]
     .rw[tab_star _ _ _ _ _ _ H (by rw[n r H];exact j),I _ _ (by omega) (by omega),I _ _ (by omega) (by omega)];rw[Zb H,Zb g];simp [g]
    .rw[X4 (as:=L) (by omega),mt];cases j:f P[r]
     .rw[tab_one _ _ _ _ _ _ H (by rw[n r H];exact j)];rw[ZF (by omega)];rfl
     .rw[tab_star _ _ _ _ _ _ H (by rw[n r H];exact j),I _ _ (by omega) (by omega),X4 (as:=L) (by omega)];rw[ZF (p:=c<L.length) (by omega)];simp
   .rw[tab_end _ _ _ _ _ _ H,X4 H];rcases YI c L.length with g|g
    .rw[Zb g,mt];have:c≠L.length:=by omega
     simp [this]
    .rw[X4 (by omega),mt];have:c=L.length:=by omega
     simp [this]
def mtQ(q s:Z5 ZP):Zi:=mt (fun c=>decide (c=42)) (fun c d=>decide (c=d)) q s
def mtP(p l:Z5 (Z5 ZP)):Zi:=mt (fun q=>decide (q=[42,42])) mtQ p l
def match_(p s:Z5 ZP):Zi:=pat p&&name s&&mtP (pieces p) (pieces s)
def nH(q:Z5 ZP):Z5 ZP:=if q=[42,42] then [255] else q.map fun c=>if c=42 then 254 else c
def key(p:Z5 ZP):Z5 ZP:=XQ ((pieces p).map nH) [46]
def order(a b:Z5 ZP):Int:=if pat a&&pat b then Lib.compareBytes (key a) (key b) else 0
def first(n:Int)(s:Z5 ZP):Z5 ZP:=if name s then XQ ((pieces s).take n.toNat) [46] else []
end Go.Proofs.YtnkjliahpeebjaaGreatDoor.Ds
namespace Go.Proofs.YtnkjliahpeebjaaGreatDoor.Ds
variable(a s:Z5 ZP)(xs:Z5 (Z5 ZP))(c d:ZP)(F G:ZP->Zi)(b l r e:Z5 ZP)
theorem kU:W8 (c::r) [d]=if c=d then 0 else if W8 r [d]=-1 then -1 else W8 r [d]+1:=by
 rw[W8];simp only[List.isPrefixOf,Bool.and_true,beq_iff_eq]
 by_cases h:c=d
 .subst h;simp
 .rw[Z0 (fun e=>h e.symm),Z0 h]
theorem yK:W8 [] [d]=-1:=by simp [W8]
theorem rK:Lib.count [] [d]=0:=Lib.count_miss (yK d)
theorem qV:Lib.count (d::r) [d]=1+Lib.count r [d]:=by
 have h:W8 (d::r) [d]=(0:Nat):=by rw[kU];simp
 rw[Lib.count_hit (by simp) h];simp
theorem qX(H:c≠d):Lib.count (c::r) [d]=Lib.count r [d]:=by
 rcases Lib.index_spec r [d] with ⟨h,_⟩|⟨i,h,_⟩
 .rw[Lib.count_miss h,Lib.count_miss (by rw[kU,Z0 H,ZX h])]
 .have f:W8 (c::r) [d]=((i+1:Nat):Int):=by rw[kU,Z0 H,Z0 (by omega),h];rfl
  rw[Lib.count_hit (by simp) h,Lib.count_hit (by simp) f];simp
theorem splitK_pieces:Lib.splitK [46] 0 (Lib.count s [46]) s=pieces s:=by
 induction s with
 | nil=>rw[rK];rfl
 | cons c r I =>
   by_cases H:c=46
   .subst H;rw[qV,Nat.add_comm,Lib.splitK];have h:W8 (46::r) [46]=0:=by rw[kU];simp
    rw[h];simp [pieces,I]
   .rw[qX c 46 r H];simp only[pieces,Z0 H]
    rw[<-I];rcases Lib.index_spec r [46] with ⟨h,_⟩|⟨i,h,_⟩
    .rw[Lib.count_miss h];rfl
    .have g:W8 (c::r) [46]=((i+1:Nat):Int):=by rw[kU,Z0 H,Z0 (by omega),h];rfl
     rw[Lib.count_hit (by simp) h,Nat.add_comm,Lib.splitK,Lib.splitK,g,h];have E:((i:Int)==-1)=ZW:=by simp
     have f:(((i+1:Nat):Int)==-1)=ZW:=by simp;omega
     simp only[E,f]
     simp [Int.toNat_natCast]
theorem count_eq:Lib.count s [d]=s.count d:=by
 induction s with
 | nil=>rw[rK];rfl
 | cons c r i =>
   by_cases h:c=d
   .subst h;rw[qV,i];simp;omega
   .rw[qX c d r h,i];have:(c==d)=ZW:=by simpa using h
    simp [List.count_cons,this]
theorem join_pieces:XQ (pieces s) [46]=s:=by
 unfold XQ
 induction s with
 | nil=>rfl
 | cons c r i =>
   simp only[pieces]
   split
   .rename_i e;subst e
    cases h:pieces r with
    | nil=>exact absurd h (pieces_ne r)
    | cons p P=>rw[h] at i;rw[<-i];simp [List.intercalate]
   .cases h:pieces r with
    | nil=>exact absurd h (pieces_ne r)
    | cons p P =>
      rw[h] at i;simp only
      rw[<-i];cases P <;> simp [List.intercalate]
theorem join_cons2(r:Z5 (Z5 ZP))(e:Z5 ZP):XQ (a::b::r) e=a++e++XQ (b::r) e:=by
 unfold XQ;simp [List.intercalate]
theorem join_take:∀ n,(XQ (xs.take n) e).length<=(XQ xs e).length:=by
 induction xs with
 | nil=>intro n;simp
 | cons a r i =>
   intro n
   cases n with
   | zero=>simp [Lib.join_nil]
   | succ n =>
     cases r with
     | nil=>simp
     | cons b r =>
       cases n with
       | zero =>
         rw[VV,List.take_zero,Lib.join_one,join_cons2];simp
       | succ n =>
         have:=i (n+1);rw[VV] at this;rw[VV,VV,join_cons2,join_cons2];simp only[List.length_append];omega
theorem contains_ss:Lib.contains s [42,42]=ss s:=by
 have key:∀ s:Z5 ZP,decide (0<=W8 s [42,42])=ss s:=by
  intro s
  induction s with
  | nil=>simp [W8,ss]
  | cons a r i =>
    rw[W8]
    cases r with
    | nil=>simp [W8,ss,List.isPrefixOf]
    | cons b r =>
      simp only[ss,<-i,List.isPrefixOf,Bool.and_true]
      have e:∀ x:ZP,(42==x)=decide (x.toNat=42):=by
       intro x;rw[Zf];simp only[beq_iff_eq,ZU];constructor
       .rintro rfl;rfl
       .intro h;exact UInt8.toNat_inj.1 h.symm
      rw[e a,e b];cases h:(decide (a.toNat=42)&&decide (b.toNat=42))
      .have g:=Lib.index_ge (b::r) [42,42];simp only[W7,if_false,Bool.false_or]
       by_cases f:W8 (b::r) [42,42]=-1
       .simp [f]
       .have H:(W8 (b::r) [42,42]==-1)=ZW:=by simpa using f
        simp only[H,W7,if_false]
        rw[Zf];simp only[ZU];omega
      .simp
 exact key s
theorem bl_eq(s:Z7)(l:Z5 ZP):s=⟨l.toArray⟩↔bl s=l:=by
 constructor
 .rintro rfl;exact bl_mk l
 .intro h;rw[<-h,mk_bl]
theorem bl_beq(s:Z7)(l:Z5 ZP)(h:¬ s=⟨l.toArray⟩):(s.toList==l)=ZW:=by
 rw[ByteArray.toList_eq,Bool.eq_false_iff];intro e;exact h ((bl_eq s l).2 (by simpa [bl] using e))
theorem qual_le(h:qual F G l=ZZ):l.length<=8:=by
 rcases YI 8 l.length with H|H
 .rw[qual_len F G l (.inr H)] at h;cases h
 .exact H
end Go.Proofs.YtnkjliahpeebjaaGreatDoor.Ds
namespace Go.Proofs.YtnkjliahpeebjaaGreatDoor.Ds
variable{α β:Type}
inductive M {α β:Type} (star:α->Zi) (one:α->β->Zi):Z5 α->Z5 β->Prop
 | nil:M star one [] []
 | skip {a p l}:star a=ZZ->M star one p l->M star one (a::p) l
 | eat {a p b l}:star a=ZZ->M star one (a::p) l->M star one (a::p) (b::l)
 | one {a p b l}:star a=ZW->one a b=ZZ->M star one p l->M star one (a::p) (b::l)
theorem nO(g:α->Zi)(one:α->β->Zi):∀ (m:Nat) (p:Z5 α) (l:Z5 β),p.length+l.length<=m->(mt g one p l=ZZ↔M g one p l):=by
 intro m
 induction m with
 | zero =>
   intro p l h;cases p <;> cases l <;> simp at h
   simp [mt,M.nil]
 | succ m I =>
   intro p l h
   cases p with
   | nil =>
     cases l with
     | nil=>simp [mt,M.nil]
     | cons b l=>simp only[mt,W7,false_iff];intro h;cases h
   | cons a p =>
     cases l with
     | nil =>
       simp only[ZK,List.length_nil] at h
       rw[mt,ZT,I p [] (by simp;omega)];constructor
       .rintro ⟨H,f⟩;exact .skip H f
       .intro h;cases h with
        | skip H f=>exact⟨H,f⟩
     | cons b l =>
       simp only[ZK] at h
       rw[mt];cases i:g a
       .simp only[W7,if_false,ZT]
        rw[I p l (by omega)];constructor
        .rintro ⟨H,f⟩;exact .one i H f
        .intro h;cases h with
         | skip H f=>rw[i] at H;cases H
         | eat H f=>rw[i] at H;cases H
         | one H f j=>exact⟨f,j⟩
       .simp only[if_true,Yh]
        rw[I p (b::l) (by simp;omega),I (a::p) l (by simp;omega)];constructor
        .rintro (h|h)
         .exact .skip i h
         .exact .eat i h
        .intro h;cases h with
         | skip H f=>exact .inl f
         | eat H f=>exact .inr f
         | one H f j=>rw[i] at H;cases H
theorem gR(star:α->Zi)(one:α->β->Zi)(p:Z5 α)(l:Z5 β):mt star one p l=ZZ↔M star one p l:=nO star one _ p l (Nat.le_refl _)
theorem jZ{star:α->Zi}{one:α->β->Zi}{p l}(h:M star one p l){p' l'}(f:M star one p' l'):M star one (p++p') (l++l'):=by
 induction h with
 | nil=>exact f
 | skip H _ i=>exact .skip H i
 | eat H _ i=>exact .eat H i
 | one H g _ i=>exact .one H g i
theorem ku{α β:Type}{star:α->Zi}{one:α->β->Zi}(a:α)(h:star a=ZZ):∀ l:Z5 β,M star one [a] l
 | []=>.skip h .nil
 | _::l=>.eat h (ku a h l)
theorem lJ{f:α->Zi}{one:α->β->Zi}(p P:Z5 α):∀ (l:Z5 β),M f one (p++P) l->∃ L g,l=L++g/\M f one p L/\M f one P g:=by
 intro l h;generalize e:p++P=q at h
 induction h generalizing p with
 | nil=>
   have:=List.append_eq_nil_iff.1 e;obtain⟨rfl,rfl⟩:=this;exact⟨[],[],rfl,.nil,.nil⟩
 | @skip a q l H i I =>
   cases p with
   | nil=>exact⟨[],l,rfl,.nil,by simp at e;rw[e];exact .skip H i⟩
   | cons c p =>
     simp only[Zm,List.cons.injEq] at e
     obtain⟨rfl,e⟩:=e;obtain⟨L,g,rfl,j,k⟩:=I p e;exact⟨L,g,rfl,.skip H j,k⟩
 | @eat a q b l H i I =>
   cases p with
   | nil=>exact⟨[],b::l,rfl,.nil,by simp at e;rw[e];exact .eat H i⟩
   | cons c p =>
     have E:=e;simp only[Zm,List.cons.injEq] at E
     obtain⟨rfl,E⟩:=E;obtain⟨L,g,rfl,j,k⟩:=I (c::p) e;exact⟨b::L,g,rfl,.eat H j,k⟩
 | @one a q b l H i j I =>
   cases p with
   | nil=>exact⟨[],b::l,rfl,.nil,by simp at e;rw[e];exact .one H i j⟩
   | cons c p =>
     simp only[Zm,List.cons.injEq] at e
     obtain⟨rfl,e⟩:=e;obtain⟨L,g,rfl,k,m⟩:=I p e;exact⟨b::L,g,rfl,.one H i k,m⟩
end Go.Proofs.YtnkjliahpeebjaaGreatDoor.Ds
namespace Go.Proofs.YtnkjliahpeebjaaGreatDoor.Ds
theorem nj:∀ l:Z5 ZP,ss l=ZZ↔∃ j,j+1<l.length/\(l.getD j 0).toNat=42/\(l.getD (j+1) 0).toNat=42
 | []=>by simp [ss]
 | [a]=>by simp [ss]
 | a::b::r=>by
   have i:=nj (b::r);rw[ss,Yh,i,ZT,ZU,ZU];constructor
   .rintro (h|⟨j,g,H,f⟩)
    .exact⟨0,by simp,h.1,h.2⟩
    .exact⟨j+1,by simp at g |-;omega,H,f⟩
   .rintro ⟨j,g,H,f⟩
    cases j with
    | zero=>exact .inl ⟨H,f⟩
    | succ j=>exact .inr ⟨j,by simp at g |-;omega,H,f⟩
def front(s:Z5 ZP):Z5 ZP:=XQ (pieces s).dropLast [46]
def last(s:Z5 ZP):Z5 ZP:=(pieces s).getLastD []
def gen(s:Z5 ZP):Zi:=group (front s)&&!decide (num (last s)=0)
end Go.Proofs.YtnkjliahpeebjaaGreatDoor.Ds
