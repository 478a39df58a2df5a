/- Catalogs. -/
import Derived.Lib.Replace
import Derived.Lib.Join
open _root_ renaming ByteArray->Z6,List->Z1,decide_eq_true_eq->ZU,if_neg->ZS,UInt8->ZM,Bool->Zj
open Bool renaming true->ZX,false->ZW,and_eq_true->ZQ,eq_iff_iff->Zn,true_and->Zc,eq_false_iff->Yq,or_eq_true->Xq,false_eq_true->Xi,false_or->WX
open Nat renaming le_refl->ZV,pow_le_pow_right->WL
open List renaming take_succ_eq_append_getElem->ZK,length_cons->Zw,take_of_length_le->Zv,append_assoc->Zr,cons_append->Zg,getElem_mem->YN,nil_append->Yn,all_eq_true->XN,getElem_of_mem->WC,mem_range->Wt,getElem_cons_zero->Wg,take_succ_cons->VO,take_zero->VI
open Go.Lib renaming join->XS,index->Wx
namespace Go.Proofs.YtnkjliahpeebjaaGreatDoor.Ds
variable(s:Z6){α:Type}(F G:ZM->Zj)(q l:Z1 ZM)
def bl(s:Z6):Z1 ZM:=s.data.toList
theorem bl_length:(bl s).length=s.size:=Array.length_toList (xs:=s.data)
theorem bl_get(k:Nat)(h:k<s.size):s[k]=(bl s)[k]'(by rw[bl_length];exact h):=by simp [bl,ByteArray.getElem_eq_getElem_data]
theorem bl_mk:bl ⟨l.toArray⟩=l:=by simp [bl]
theorem mk_bl:(⟨(bl s).toArray⟩:Z6)=s:=by simp [bl]
theorem bl_inj{s t:Z6}(h:bl s=bl t):s=t:=by rw[<-mk_bl s,h,mk_bl]
def up(c:ZM):Zj:=decide (65<=c.toNat)&&decide (c.toNat<=90)
def dg(c:ZM):Zj:=decide (48<=c.toNat)&&decide (c.toNat<=57)
def pl(c:ZM):Zj:=up c || dg c
def ups(c:ZM):Zj:=up c || decide (c.toNat=42)
def pls(c:ZM):Zj:=pl c || decide (c.toNat=42)
def qual(F G:ZM->Zj):Z1 ZM->Zj
 | []=>ZW
 | c::r=>decide (r.length<=7)&&F c&&r.all G
def rest{α:Type}(G:α->Zj)(l:Z1 α)(k:Nat):Zj:=(l.drop k).all G
theorem rest_next(G:α->Zj)(l:Z1 α)(k:Nat)(h:k<l.length):rest G l k=(G l[k]&&rest G l (k+1)):=by
 unfold rest;rw[List.drop_eq_getElem_cons h,List.all_cons]
theorem rest_end(G:α->Zj)(l:Z1 α)(k:Nat)(h:l.length<=k):rest G l k=ZX:=by
 unfold rest;rw[List.drop_eq_nil_of_le h];rfl
theorem qual_rest(h:0<l.length)(H:l.length<=8)(hF:F l[0]=ZX):qual F G l=rest G l 1:=by
 cases l with
 | nil=>simp at h
 | cons c r =>
   simp only[Zw] at H
   simp only[Wg] at hF
   simp [qual,rest,hF];omega
theorem qual_len(h:l.length<1\/8<l.length):qual F G l=ZW:=by
 cases l with
 | nil=>rfl
 | cons c r =>
   simp only[Zw] at h
   simp [qual];omega
theorem qual_head(h:0<l.length)(hF:F l[0]=ZW):qual F G l=ZW:=by
 cases l with
 | nil=>rfl
 | cons c r =>
   simp only[Wg] at hF
   simp [qual,hF]
def pieces:Z1 ZM->Z1 (Z1 ZM)
 | []=>[[]]
 | c::r=>if c=46 then []::pieces r else match pieces r with
   | []=>[[c]]
   | p::P=>(c::p)::P
theorem bd:pieces l≠[]:=by
 cases l with
 | nil=>simp [pieces]
 | cons c r =>
   simp only[pieces]
   split
   .simp
   .split <;> simp
theorem pieces_len:(pieces l).length=l.count 46+1:=by
 induction l with
 | nil=>rfl
 | cons c r i =>
   simp only[pieces]
   split
   .rename_i e;subst e;simp [i]
   .rename_i e;have E:(c==46)=ZW:=by simpa using e
    have:=bd r
    cases h:pieces r with
    | nil=>exact absurd h this
    | cons p P=>rw[h] at i;simp [List.count_cons,E] at i |-;omega
def ss:Z1 ZM->Zj
 | a::b::r=>(decide (a.toNat=42)&&decide (b.toNat=42)) || ss (b::r)
 | _=>ZW
def nameQ(q:Z1 ZM):Zj:=qual up pl q
def patQ(q:Z1 ZM):Zj:=decide (q=[42,42]) || qual ups pls q&&!ss q
def name(s:Z1 ZM):Zj:=decide (1<=s.length)&&decide (s.length<=31)&&(pieces s).all nameQ
def pat(s:Z1 ZM):Zj:=decide (1<=s.length)&&decide (s.length<=31)&&(pieces s).all patQ
def mid(q:Z1 ZM):Z1 ZM:=(q.drop 1).take 4
def nv(q:Z1 ZM)(k:Nat):Nat:=((mid q).take k).foldl (fun n c=>10*n+(c.toNat - 48)) 0
def num(q:Z1 ZM):Nat:=if q.length=8/\q[0]?=some 71/\q.drop 5=[86,48,48]/\rest dg (mid q) 0=ZX then nv q 4 else 0
theorem mid_length(h:q.length=8):(mid q).length=4:=by simp [mid,h]
theorem mid_get(h:q.length=8)(k:Nat)(H:k<4):(mid q)[k]'(by rw[mid_length q h];exact H)=q[k+1]'(by omega):=by
 simp only[mid,List.getElem_take,List.getElem_drop]
 congr 1;omega
theorem nv_next(h:q.length=8)(k:Nat)(H:k<4):nv q (k+1)=10*nv q k+((q[k+1]'(by omega)).toNat - 48):=by
 unfold nv;rw[ZK (by rw[mid_length q h];exact H),List.foldl_append,mid_get q h k H];rfl
theorem nv_bound:∀ k,nv q k<=10000000000/\(k<=4->nv q k<=300*10 ^ k):=by
 have key:∀ (l:Z1 ZM) (a:Nat),l.foldl (fun n c=>10*n+(c.toNat - 48)) a<=(a+30)*10 ^ l.length:=by
  intro l
  induction l with
  | nil=>intro a;simp
  | cons c r i =>
    intro a;have h:=i (10*a+(c.toNat - 48));have f:c.toNat<256:=c.toNat_lt;simp only[List.foldl_cons,Zw,Nat.pow_succ]
    refine Nat.le_trans h ?_
    have:10*a+(c.toNat - 48)+30<=(a+30)*10:=by omega
    calc (10*a+(c.toNat - 48)+30)*10 ^ r.length<=(a+30)*10*10 ^ r.length:=Nat.mul_le_mul_right _ this
     _=(a+30)*(10 ^ r.length*10):=by rw[Nat.mul_assoc,Nat.mul_comm 10]
 intro k;have h:=key ((mid q).take k) 0;have H:((mid q).take k).length<=4:=by simp [mid];omega
 have p:10 ^ ((mid q).take k).length<=10 ^ 4:=WL (by omega) H;refine⟨?_,?_⟩
 .unfold nv;omega
 .intro _;have:10 ^ ((mid q).take k).length<=10 ^ k:=WL (by omega) (by simp;omega);unfold nv;omega
theorem dg_bounds(c:ZM)(h:dg c=ZX):48<=c.toNat/\c.toNat<=57:=by simpa [dg] using h
def group(s:Z1 ZM):Zj:=name s&&decide (s.length<=22)&&(pieces s).all fun q=>decide (num q=0)
def mt{α β:Type}(S:α->Zj)(one:α->β->Zj):Z1 α->Z1 β->Zj
 | [],[]=>ZX
 | [],_::_=>ZW
 | a::p,[]=>S a&&mt S one p []
 | a::p,b::l=>if S a then mt S one p (b::l) || mt S one (a::p) l else one a b&&mt S one p l
termination_by p l=>p.length+l.length
def mtQ(q s:Z1 ZM):Zj:=mt (fun c=>decide (c=42)) (fun c d=>decide (c=d)) q s
def mtP(p l:Z1 (Z1 ZM)):Zj:=mt (fun q=>decide (q=[42,42])) mtQ p l
def match_(p s:Z1 ZM):Zj:=pat p&&name s&&mtP (pieces p) (pieces s)
def nH(q:Z1 ZM):Z1 ZM:=if q=[42,42] then [255] else q.map fun c=>if c=42 then 254 else c
def key(p:Z1 ZM):Z1 ZM:=XS ((pieces p).map nH) [46]
def order(a b:Z1 ZM):Int:=if pat a&&pat b then Lib.compareBytes (key a) (key b) else 0
def first(n:Int)(s:Z1 ZM):Z1 ZM:=if name s then XS ((pieces s).take n.toNat) [46] else []
end Go.Proofs.YtnkjliahpeebjaaGreatDoor.Ds
namespace Go.Proofs.YtnkjliahpeebjaaGreatDoor.Ds
variable(a s:Z1 ZM)(xs:Z1 (Z1 ZM))(c d:ZM)(F G:ZM->Zj)(b l r e:Z1 ZM)
theorem kU:Wx (c::r) [d]=if c=d then 0 else if Wx r [d]=-1 then -1 else Wx r [d]+1:=by
 rw[Wx];simp only[List.isPrefixOf,Bool.and_true,beq_iff_eq]
 by_cases h:c=d
 .subst h;simp
 .rw[ZS (fun e=>h e.symm),ZS h]
theorem yK:Wx [] [d]=-1:=by simp [Wx]
theorem rK:Lib.count [] [d]=0:=Lib.count_miss (yK d)
theorem qV:Lib.count (d::r) [d]=1+Lib.count r [d]:=by
 have h:Wx (d::r) [d]=(0:Nat):=by rw[kU];simp
 rw[Lib.count_hit (by simp) h];simp
theorem qX(H:c≠d):Lib.count (c::r) [d]=Lib.count r [d]:=by
 rcases Lib.index_spec r [d] with ⟨h,_⟩|⟨i,h,_⟩
 .rw[Lib.count_miss h,Lib.count_miss (by rw[kU,ZS H,if_pos h])]
 .have f:Wx (c::r) [d]=((i+1:Nat):Int):=by rw[kU,ZS H,ZS (by omega),h];rfl
  rw[Lib.count_hit (by simp) h,Lib.count_hit (by simp) f];simp
theorem splitK_pieces:Lib.splitK [46] 0 (Lib.count s [46]) s=pieces s:=by
 induction s with
 | nil=>rw[rK];rfl
 | cons c r I =>
   by_cases H:c=46
   .subst H;rw[qV,Nat.add_comm,Lib.splitK];have h:Wx (46::r) [46]=0:=by rw[kU];simp
    rw[h];simp [pieces,I]
   .rw[qX c 46 r H];simp only[pieces,ZS H]
    rw[<-I];rcases Lib.index_spec r [46] with ⟨h,_⟩|⟨i,h,_⟩
    .rw[Lib.count_miss h];rfl
    .have g:Wx (c::r) [46]=((i+1:Nat):Int):=by rw[kU,ZS H,ZS (by omega),h];rfl
     rw[Lib.count_hit (by simp) h,Nat.add_comm,Lib.splitK,Lib.splitK,g,h];have E:((i:Int)==-1)=ZW:=by simp
     have f:(((i+1:Nat):Int)==-1)=ZW:=by simp;omega
     simp only[E,f]
     simp [Int.toNat_natCast]
theorem count_eq:Lib.count s [d]=s.count d:=by
 induction s with
 | nil=>rw[rK];rfl
 | cons c r i =>
   by_cases h:c=d
   .subst h;rw[qV,i];simp;omega
   .rw[qX c d r h,i];have:(c==d)=ZW:=by simpa using h
    simp [List.count_cons,this]
theorem join_pieces:XS (pieces s) [46]=s:=by
 unfold XS
 induction s with
 | nil=>rfl
 | cons c r i =>
   simp only[pieces]
   split
   .rename_i e;subst e
    cases h:pieces r with
    | nil=>exact absurd h (bd r)
    | cons p P=>rw[h] at i;rw[<-i];simp [List.intercalate]
   .cases h:pieces r with
    | nil=>exact absurd h (bd r)
    | cons p P =>
      rw[h] at i;simp only
      rw[<-i];cases P <;> simp [List.intercalate]
theorem ag(r:Z1 (Z1 ZM))(e:Z1 ZM):XS (a::b::r) e=a++e++XS (b::r) e:=by
 unfold XS;simp [List.intercalate]
theorem join_take:∀ n,(XS (xs.take n) e).length<=(XS xs e).length:=by
 induction xs with
 | nil=>intro n;simp
 | cons a r i =>
   intro n
   cases n with
   | zero=>simp [Lib.join_nil]
   | succ n =>
     cases r with
     | nil=>simp
     | cons b r =>
       cases n with
       | zero =>
         rw[VO,VI,Lib.join_one,ag];simp
       | succ n =>
         have:=i (n+1);rw[VO] at this;rw[VO,VO,ag,ag];simp only[List.length_append];omega
theorem contains_ss:Lib.contains s [42,42]=ss s:=by
 have key:∀ s:Z1 ZM,decide (0<=Wx s [42,42])=ss s:=by
  intro s
  induction s with
  | nil=>simp [Wx,ss]
  | cons a r i =>
    rw[Wx]
    cases r with
    | nil=>simp [Wx,ss,List.isPrefixOf]
    | cons b r =>
      simp only[ss,<-i,List.isPrefixOf,Bool.and_true]
      have e:∀ x:ZM,(42==x)=decide (x.toNat=42):=by
       intro x;rw[Zn];simp only[beq_iff_eq,ZU];constructor
       .rintro rfl;rfl
       .intro h;exact UInt8.toNat_inj.1 h.symm
      rw[e a,e b];cases h:(decide (a.toNat=42)&&decide (b.toNat=42))
      .have g:=Lib.index_ge (b::r) [42,42];simp only[Xi,if_false,WX]
       by_cases f:Wx (b::r) [42,42]=-1
       .simp [f]
       .have H:(Wx (b::r) [42,42]==-1)=ZW:=by simpa using f
        simp only[H,Xi,if_false]
        rw[Zn];simp only[ZU];omega
      .simp
 exact key s
theorem bl_eq(s:Z6)(l:Z1 ZM):s=⟨l.toArray⟩↔bl s=l:=by
 constructor
 .rintro rfl;exact bl_mk l
 .intro h;rw[<-h,mk_bl]
theorem bl_beq(s:Z6)(l:Z1 ZM)(h:¬ s=⟨l.toArray⟩):(s.toList==l)=ZW:=by
 rw[ByteArray.toList_eq,Yq];intro e;exact h ((bl_eq s l).2 (by simpa [bl] using e))
theorem qual_le(h:qual F G l=ZX):l.length<=8:=by
 rcases Nat.lt_or_ge 8 l.length with H|H
 .rw[qual_len F G l (.inr H)] at h;cases h
 .exact H
end Go.Proofs.YtnkjliahpeebjaaGreatDoor.Ds
namespace Go.Proofs.YtnkjliahpeebjaaGreatDoor.Ds
variable{α β:Type}
inductive M {α β:Type} (star:α->Zj) (one:α->β->Zj):Z1 α->Z1 β->Prop
 | nil:M star one [] []
 | skip {a p l}:star a=ZX->M star one p l->M star one (a::p) l
 | eat {a p b l}:star a=ZX->M star one (a::p) l->M star one (a::p) (b::l)
 | one {a p b l}:star a=ZW->one a b=ZX->M star one p l->M star one (a::p) (b::l)
theorem nO(S:α->Zj)(one:α->β->Zj):∀ (m:Nat) (p:Z1 α) (l:Z1 β),p.length+l.length<=m->(mt S one p l=ZX↔M S one p l):=by
 intro m
 induction m with
 | zero =>
   intro p l h;cases p <;> cases l <;> simp at h
   simp [mt,M.nil]
 | succ m i =>
   intro p l h
   cases p with
   | nil =>
     cases l with
     | nil=>simp [mt,M.nil]
     | cons b l=>simp only[mt,Xi,false_iff];intro h;cases h
   | cons a p =>
     cases l with
     | nil =>
       simp only[Zw,List.length_nil] at h
       rw[mt,ZQ,i p [] (by simp;omega)];constructor
       .rintro ⟨H,f⟩;exact .skip H f
       .intro h;cases h with
        | skip H f=>exact⟨H,f⟩
     | cons b l =>
       simp only[Zw] at h
       rw[mt];cases g:S a
       .simp only[Xi,if_false,ZQ]
        rw[i p l (by omega)];constructor
        .rintro ⟨H,f⟩;exact .one g H f
        .intro h;cases h with
         | skip H f=>rw[g] at H;cases H
         | eat H f=>rw[g] at H;cases H
         | one H f j=>exact⟨f,j⟩
       .simp only[if_true,Xq]
        rw[i p (b::l) (by simp;omega),i (a::p) l (by simp;omega)];constructor
        .rintro (h|h)
         .exact .skip g h
         .exact .eat g h
        .intro h;cases h with
         | skip H f=>exact .inl f
         | eat H f=>exact .inr f
         | one H f j=>rw[g] at H;cases H
theorem gR(S:α->Zj)(one:α->β->Zj)(p:Z1 α)(l:Z1 β):mt S one p l=ZX↔M S one p l:=nO S one _ p l (ZV _)
theorem jZ{star:α->Zj}{one:α->β->Zj}{p l}(h:M star one p l){p' l'}(f:M star one p' l'):M star one (p++p') (l++l'):=by
 induction h with
 | nil=>exact f
 | skip H _ i=>exact .skip H i
 | eat H _ i=>exact .eat H i
 | one H g _ i=>exact .one H g i
theorem ku{α β:Type}{star:α->Zj}{one:α->β->Zj}(a:α)(h:star a=ZX):∀ l:Z1 β,M star one [a] l
 | []=>.skip h .nil
 | _::l=>.eat h (ku a h l)
theorem lJ{S:α->Zj}{one:α->β->Zj}(p P:Z1 α):∀ (l:Z1 β),M S one (p++P) l->∃ L f,l=L++f/\M S one p L/\M S one P f:=by
 intro l h;generalize e:p++P=q at h
 induction h generalizing p with
 | nil=>
   have:=List.append_eq_nil_iff.1 e;obtain⟨rfl,rfl⟩:=this;exact⟨[],[],rfl,.nil,.nil⟩
 | @skip a q l H g I =>
   cases p with
   | nil=>exact⟨[],l,rfl,.nil,by simp at e;rw[e];exact .skip H g⟩
   | cons c p =>
     simp only[Zg,List.cons.injEq] at e
     obtain⟨rfl,e⟩:=e;obtain⟨L,f,rfl,i,j⟩:=I p e;exact⟨L,f,rfl,.skip H i,j⟩
 | @eat a q b l H g I =>
   cases p with
   | nil=>exact⟨[],b::l,rfl,.nil,by simp at e;rw[e];exact .eat H g⟩
   | cons c p =>
     have E:=e;simp only[Zg,List.cons.injEq] at E
     obtain⟨rfl,E⟩:=E;obtain⟨L,f,rfl,i,j⟩:=I (c::p) e;exact⟨b::L,f,rfl,.eat H i,j⟩
 | @one a q b l H g i I =>
   cases p with
   | nil=>exact⟨[],b::l,rfl,.nil,by simp at e;rw[e];exact .one H g i⟩
   | cons c p =>
     simp only[Zg,List.cons.injEq] at e
     obtain⟨rfl,e⟩:=e;obtain⟨L,f,rfl,j,k⟩:=I p e;exact⟨b::L,f,rfl,.one H g j,k⟩
theorem zC{S:α->Zj}{one:α->β->Zj}{a:α}(h:S a=ZW){l:Z1 β}(m:M S one [a] l):∃ b,l=[b]/\one a b=ZX:=by
 cases m with
 | skip H _=>rw[h] at H;cases H
 | eat H _=>rw[h] at H;cases H
 | one _ f g=>cases g;exact⟨_,rfl,f⟩
theorem xO(star:α->Zj)(one:α->β->Zj)(p:Z1 α)(a:α)(h:star a=ZX)(l:Z1 β)(b:β) :
 mt star one (p++[a]) (l++[b])=(mt star one p (l++[b]) || mt star one (p++[a]) l):=by
 rw[Zn,Xq,gR,gR,gR];constructor
 .intro H;obtain⟨i,L,e,f,g⟩:=lJ _ _ _ H;rcases List.eq_nil_or_concat L with rfl|⟨m,c,rfl⟩
  .simp at e;subst e;exact .inl f
  .rw[List.concat_eq_append,<-Zr] at e;obtain⟨rfl,E⟩:=List.append_inj' e rfl;exact .inr (jZ f (ku a h m))
 .rintro (H|H)
  .have:=jZ H (ku (star:=star) (one:=one) a h []);simpa using this
  .obtain⟨i,L,rfl,f,g⟩:=lJ _ _ _ H;rw[Zr];exact jZ f (ku a h _)
theorem rt(star:α->Zj)(one:α->β->Zj)(p:Z1 α)(a:α) :
 mt star one (p++[a]) []=(star a&&mt star one p []):=by
 rw[Zn,ZQ,gR,gR];constructor
 .intro H;obtain⟨L,j,e,f,g⟩:=lJ _ _ _ H;have:=List.append_eq_nil_iff.1 e.symm;obtain⟨rfl,rfl⟩:=this
  cases g with
  | skip i _=>exact⟨i,f⟩
 .rintro ⟨h,H⟩;have:=jZ H (ku (star:=star) (one:=one) a h []);simpa using this
theorem yd(S:α->Zj)(one:α->β->Zj)(p:Z1 α)(a:α)(h:S a=ZW)(l:Z1 β)(b:β) :
 mt S one (p++[a]) (l++[b])=(mt S one p l&&one a b):=by
 rw[Zn,ZQ,gR,gR];constructor
 .intro m;obtain⟨L,i,e,H,f⟩:=lJ _ _ _ m;obtain⟨c,rfl,g⟩:=zC h f;obtain⟨rfl,E⟩:=List.append_inj' e rfl;have:c=b:=by simpa using E.symm
  subst this;exact⟨H,g⟩
 .rintro ⟨m,H⟩;exact jZ m (.one h H .nil)
theorem yc(S:α->Zj)(one:α->β->Zj)(l:Z1 β):mt S one [] l=decide (l=[]):=by
 cases l <;> simp [mt]
def fw{α β:Type}(S:α->Zj)(one:α->β->Zj)(p:Z1 α)(l:Z1 β)(i k:Nat):Zj:=mt S one (p.take i) (l.take k)
theorem fw_zero(S:α->Zj)(one:α->β->Zj)(p:Z1 α)(l:Z1 β)(k:Nat)(H:k<=l.length):fw S one p l 0 k=decide (k=0):=by
 unfold fw;rw[VI,yc];congr 1
 rw[List.take_eq_nil_iff];simp only[eq_iff_iff]
 constructor
 .rintro (h|h)
  .exact h
  .subst h;simpa using H
 .exact .inl
theorem fw_star(S:α->Zj)(one:α->β->Zj)(p:Z1 α)(l:Z1 β)(i k:Nat)(H:i<p.length)(f:k<=l.length)(h:S p[i]=ZX) :
 fw S one p l (i+1) k=(fw S one p l i k || (decide (0<k)&&fw S one p l (i+1) (k - 1))):=by
 unfold fw;rw[ZK H]
 cases k with
 | zero=>rw[VI,rt,h];simp
 | succ k =>
   rw[ZK (by omega),xO _ _ _ _ h];simp
theorem fw_one(S:α->Zj)(one:α->β->Zj)(p:Z1 α)(l:Z1 β)(i k:Nat)(H:i<p.length)(f:k<l.length)(h:S p[i]=ZW) :
 fw S one p l (i+1) (k+1)=(fw S one p l i k&&one p[i] l[k]):=by
 unfold fw;rw[ZK H,ZK f,yd _ _ _ _ h]
theorem fw_one0(S:α->Zj)(one:α->β->Zj)(p:Z1 α)(l:Z1 β)(i:Nat)(H:i<p.length)(h:S p[i]=ZW) :
 fw S one p l (i+1) 0=ZW:=by
 unfold fw;rw[ZK H,VI,rt,h];rfl
theorem fw_all(S:α->Zj)(one:α->β->Zj)(p:Z1 α)(l:Z1 β):fw S one p l p.length l.length=mt S one p l:=by
 unfold fw;rw[Zv (ZV _),Zv (ZV _)]
theorem ry(l:Z1 ZM)(c:ZM):pieces (l++[c])=if c=46 then pieces l++[[]] else (pieces l).dropLast++[(pieces l).getLastD []++[c]]:=by
 induction l with
 | nil=>
   simp only[Yn,pieces]
   by_cases h:c=46 <;> simp [h]
 | cons d r i =>
   simp only[Zg,pieces]
   by_cases f:d=46
   .rw[if_pos f,if_pos f,i];have H:=bd r;by_cases h:c=46
    .simp [h]
    .rw[ZS h,ZS h]
     cases e:pieces r with
     | nil=>exact absurd e H
     | cons p P=>simp [List.getLastD]
   .rw[ZS f,ZS f,i];have H:=bd r
    cases e:pieces r with
    | nil=>exact absurd e H
    | cons p P =>
      by_cases h:c=46
      .simp [h]
      .rw[ZS h,ZS h]
       cases P with
       | nil=>simp [List.getLastD]
       | cons q Q=>simp [List.getLastD]
end Go.Proofs.YtnkjliahpeebjaaGreatDoor.Ds
namespace Go.Proofs.YtnkjliahpeebjaaGreatDoor.Ds
variable(c:ZM)(l s:Z1 ZM)
def okAt(S:Zj)(l:Z1 ZM)(j:Nat):Zj:=(up (l.getD j 0) || dg (l.getD j 0) || (S&&decide ((l.getD j 0).toNat=42)))&&!(S&&decide ((l.getD j 0).toNat=42)&&decide (0<j)&&decide ((l.getD (j - 1) 0).toNat=42))
def partR(S:Zj)(l:Z1 ZM):Zj:=decide (1<=l.length)&&decide (l.length<=8)&&!dg (l.getD 0 0)&&(List.range l.length).all (okAt S l)
def partE(S:Zj)(l:Z1 ZM):Zj:=(S&&decide (l=[42,42])) || partR S l
theorem sP(h:up c=ZX):dg c=ZW:=by
 simp only[up,ZQ,ZU] at h
 simp [dg];omega
theorem yG(h:c.toNat=42):dg c=ZW:=by simp [dg,h]
theorem nj:∀ l:Z1 ZM,ss l=ZX↔∃ j,j+1<l.length/\(l.getD j 0).toNat=42/\(l.getD (j+1) 0).toNat=42
 | []=>by simp [ss]
 | [a]=>by simp [ss]
 | a::b::r=>by
   have i:=nj (b::r);rw[ss,Xq,i,ZQ,ZU,ZU];constructor
   .rintro (h|⟨j,g,H,f⟩)
    .exact⟨0,by simp,h.1,h.2⟩
    .exact⟨j+1,by simp at g |-;omega,H,f⟩
   .rintro ⟨j,g,H,f⟩
    cases j with
    | zero=>exact .inl ⟨H,f⟩
    | succ j=>exact .inr ⟨j,by simp at g |-;omega,H,f⟩
theorem zN:partE ZW l=nameQ l:=by
 unfold partE partR nameQ;simp only[Bool.false_and,WX]
 cases l with
 | nil=>rfl
 | cons c r =>
   rw[Zn];simp only[ZQ,ZU,Wt,qual,Zw,Bool.not_eq_true',List.getD_cons_zero,XN]
   constructor
   .rintro ⟨⟨⟨_,g⟩,H⟩,f⟩;refine⟨⟨by omega,?_⟩,?_⟩
    .have:=f 0 (by omega);simp [okAt,H] at this;exact this
    .intro x m;obtain⟨i,k,rfl⟩:=WC m;have:=f (i+1) (by omega);simp [okAt,k] at this
     simp [pl,this]
   .rintro ⟨⟨g,H⟩,f⟩;refine⟨⟨⟨by omega,by omega⟩,sP c H⟩,?_⟩
    intro j n
    cases j with
    | zero=>simp [okAt,H]
    | succ j =>
      have h:j<r.length:=by omega
      have:=f r[j] (YN h);simp [okAt,h]
      simpa [pl] using this
theorem AW:partE ZX l=patQ l:=by
 unfold partE patQ;rw[Zc];by_cases h:l=[42,42]
 .simp [h]
 rw[decide_eq_false h,WX,WX];unfold partR
 cases l with
 | nil=>rfl
 | cons c r =>
   rw[Zn];simp only[ZQ,ZU,Wt,qual,Zw,Bool.not_eq_true',List.getD_cons_zero,XN]
   constructor
   .rintro ⟨⟨⟨_,n⟩,H⟩,f⟩;refine⟨⟨⟨by omega,?_⟩,?_⟩,?_⟩
    .have:=f 0 (by omega);simp [okAt,H] at this;simp [ups,this]
    .intro x t;obtain⟨i,o,rfl⟩:=WC t;have:=f (i+1) (by omega);have e:(c::r).getD (i+1) 0=r[i]:=by simp [o]
     unfold okAt at this;rw[e,ZQ] at this;have m:=this.1;simpa [pls,pl] using m
    .rw[Yq];intro p;obtain⟨j,J,u,v⟩:=(nj _).1 p;have:=f (j+1) (by simpa using J);unfold okAt at this;rw[show j+1 - 1=j from rfl,u,v] at this;simp at this
   .rintro ⟨⟨⟨n,H⟩,f⟩,m⟩;refine⟨⟨⟨by omega,by omega⟩,?_⟩,?_⟩
    .simp only[ups,Xq,ZU] at H
     rcases H with H|H
     .exact sP c H
     .exact yG c H
    .intro j y
     have key:¬ ((((c::r).getD j 0).toNat=42/\0<j)/\((c::r).getD (j - 1) 0).toNat=42):=by
      rintro ⟨⟨k1,K⟩,w⟩;rw[Yq] at m;exact m ((nj _).2 ⟨j - 1,by simp;omega,w,by rw[Nat.sub_add_cancel K];exact k1⟩)
     have g:(up ((c::r).getD j 0) || dg ((c::r).getD j 0) || decide (((c::r).getD j 0).toNat=42))=ZX:=by
      cases j with
      | zero =>
        rw[List.getD_cons_zero];simp only[ups,Xq,ZU] at H |-
        rcases H with H|H
        .exact .inl (.inl H)
        .exact .inr H
      | succ j =>
        have k:j<r.length:=by omega
        have:=f r[j] (YN k);rw[show (c::r).getD (j+1) 0=r[j] from by simp [k]];simpa [pls,pl] using this
     unfold okAt;simp only[Zc]
     rw[g,Zc,Bool.not_eq_true',Yq];simpa [ZQ] using key
def validE(S:Zj)(s:Z1 ZM):Zj:=decide (1<=s.length)&&decide (s.length<=31)&&(pieces s).all (partE S)
theorem validE_name:validE ZW s=name s:=by
 unfold validE name;congr 2;funext q;exact zN q
theorem validE_pat:validE ZX s=pat s:=by
 unfold validE pat;congr 2;funext q;exact AW q
theorem An(l:Z1 (Z1 ZM))(x:Z1 ZM)(h:l≠[]):XS (l++[x]) [46]=XS l [46]++[46]++x:=by
 induction l with
 | nil=>exact absurd rfl h
 | cons a r i =>
   cases r with
   | nil=>rw[Zg,Yn,ag,Lib.join_one,Lib.join_one]
   | cons b r =>
     rw[Zg,Zg,ag,ag,<-Zg,i (by simp)];simp [Zr]
def front(s:Z1 ZM):Z1 ZM:=XS (pieces s).dropLast [46]
def last(s:Z1 ZM):Z1 ZM:=(pieces s).getLastD []
def gen(s:Z1 ZM):Zj:=group (front s)&&!decide (num (last s)=0)
end Go.Proofs.YtnkjliahpeebjaaGreatDoor.Ds
