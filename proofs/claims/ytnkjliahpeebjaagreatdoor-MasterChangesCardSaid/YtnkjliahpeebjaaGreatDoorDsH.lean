/- Catalogs. -/
import Derived.Test.YtnkjliahpeebjaaGreatDoorCalE
import Derived.Test.YtnkjliahpeebjaaGreatDoorDsA
import Derived.BigQuiet
set_option maxRecDepth 20000
set_option maxHeartbeats 2000000
open Option renaming some->Z9,none->Z7
open _root_ renaming List->Z3,decide_eq_true_eq->ZW,UInt8->ZP,Bool->Zk
open Bool renaming false->Z2,true->ZZ,and_eq_true->ZQ,eq_iff_iff->Zr,or_eq_true->Ye
open UInt8 renaming lt_iff_toNat_lt->YU,toNat_inj->Yf,lt_irrefl->WP
open List renaming range->YR,mem_cons->YN,all_eq_true->Xv
namespace Go.Proofs.YtnkjliahpeebjaaGreatDoor
variable{F:Nat->Nat->Zk}{P:Program}{w W w' d:World}{b r c:Nat}
section
open Go.RowKit
def nS:Array Value:=Array.replicate 1600 (.bool Z2)
theorem IJ(i:Nat)(h:i<1600):nS[i]?=Z9 (.bool Z2):=by simp [nS,h]
theorem IK:(Tryz.prog.info? 237).bind (·.zero)=Z9 (.agg nS):=by kernel_rfl
attribute [irreducible] nS
theorem Do{t:TypeId}{i:TypeInfo}(h:P.info? t=Z9 i):(typeInfo t).run P w=.ok i w:=by
 simp [typeInfo,h]
theorem II(t:TypeId)(v:Value)(w:World)(h:(P.info? t).bind (·.zero)=Z9 v):(zeroValue t).run P w=.ok v w:=by
 cases e:P.info? t with
 | none=>rw[e] at h;cases h
 | some i =>
   rw[e] at h;have H:i.zero=Z9 v:=h;unfold zeroValue;simp only[Sem.run_bind,Do e,Result.andThen_ok,H,Sem.run_pure]
theorem an(e:Operand->Value)(w:World)(dst t pos af gd) :
 (execOp e ⟨dst,.alloc 237,t,pos,af,gd⟩).run Tryz.prog w=.ok (.value (.pointer (Z9 ⟨w.heap.size,0,Z7⟩))) (w.alloc (.cells nS 237)):=by
 have h:=II 237 (.agg nS) w IK;unfold execOp;simp only[Instr.alloc,Sem.run_bind,h,Result.andThen_ok]
 simp [go_sem,newVar,newRow]
def TI(w:World)(b:Nat)(F:Nat->Nat->Zk):Prop:=(∀ r c,r<40->c<40->w.cell? ⟨b,r*40+c,Z7⟩=Z9 (.bool (F r c)))/\(∀ o,w.frozen? ⟨b,o,Z7⟩=Z2)
theorem TI.new(w:World):TI (w.alloc (.cells nS 237)) w.heap.size (fun _ _=>Z2) :=
 ⟨fun r c H h=>by rw[cell_of_row _ w.heap.size _ _ 237 (0,0) (heap_alloc_new w _)];exact IJ _ (by omega),fun o=>by simp⟩
theorem TI.below(h:TI w b F)(e:Below w.heap.size w w')(H:b<w.heap.size):TI w' b F :=
 ⟨fun r c i f=>ai e (h.1 r c i f),fun o=>by rw[(bcell e).2 b o H];exact h.2 o⟩
theorem TI.set(h:TI w b F)(R C:Nat)(f:R<40)(H:C<40)(v:Zk):TI (w.setCell ⟨b,R*40+C,Z7⟩ (.bool v)) b (fun r c=>if r=R/\c=C then v else F r c):=by
 refine⟨fun r c m k=>?_,fun o=>by have:=h.2 o;simpa using this⟩
 have j:=h.1 r c m k;have i:=h.1 R C f H;by_cases e:r=R/\c=C
 .obtain⟨rfl,rfl⟩:=e;simp [go_sem,i]
 .have l:R*40+C≠r*40+c:=by omega
  show _=Z9 (Value.bool (if r=R/\c=C then v else F r c))
  rw[if_neg e,<-j];simp [go_sem]
theorem TI.drew(h:TI w b F):TI w.drew b F:=h
theorem TI.start(w:World)(p n:Nat)(e:p<40)(H:n<40):TI (w.alloc (.cells (nS.setIfInBounds (p*40+n) (.bool ZZ)) 237)) w.heap.size (fun r c=>if r=p/\c=n then ZZ else Z2):=by
 have h:=(TI.new w).set p n e H ZZ;simpa [go_sem] using h
def bvc(w:World)(b o:Nat):Zk:=match w.cell? ⟨b,o,Z7⟩ with|some (.bool x)=>x|_=>Z2
theorem kw{o:Nat}{x:Zk}(h:w.cell? ⟨b,o,Z7⟩=Z9 (.bool x)):w.cell? ⟨b,o,Z7⟩=Z9 (.bool (bvc w b o)):=by
 rw[h];unfold bvc;rw[h]
def TJ(w:World)(b:Nat)(F:Nat->Nat->Zk)(r c:Nat):Prop:=∃ x,TI w b (fun R C=>if R=r/\C=c then x else F R C)
theorem TJ.of(h:TI w b F)(r c:Nat):TJ w b F r c:=⟨F r c,⟨fun R C H f=>by
 rw[h.1 R C H f];show _=Z9 (Value.bool (if R=r/\C=c then F r c else F R C))
 by_cases e:R=r/\C=c
 .rw[if_pos e,e.1,e.2]
 .rw[if_neg e],h.2⟩⟩
theorem TJ.set(h:TJ w b F r c)(i:r<40)(f:c<40)(v:Zk):TI (w.setCell ⟨b,r*40+c,Z7⟩ (.bool v)) b (fun R C=>if R=r/\C=c then v else F R C):=by
 obtain⟨x,h⟩:=h;have H:=h.set r c i f v
 have e:(fun R C=>if R=r/\C=c then v else (if R=r/\C=c then x else F R C))=fun R C=>if R=r/\C=c then v else F R C:=by
  funext R C;split <;> rfl
 rw[e] at H;exact H
theorem TJ.set'(h:TJ w b F r c)(e:r<40)(H:c<40)(v:Zk):TJ (w.setCell ⟨b,r*40+c,Z7⟩ (.bool v)) b F r c:=⟨v,h.set e H v⟩
def SJ(W:World)(b:Nat)(F:Nat->Nat->Zk)(r c:Nat)(w:World):Prop:=w.cell? ⟨b,(r+1)*40+(c+1),Z7⟩=Z9 (.bool ZZ)/\w.cell? ⟨b,r*40+c,Z7⟩=Z9 (.bool (bvc w b (r*40+c)))/\(∀ o,w.frozen? ⟨b,o,Z7⟩=Z2)/\TJ w b F r c/\b<w.heap.size/\Below W.heap.size W w
theorem SJ.start(h:TI w b F)(f:r+1<40)(e:c+1<40)(v:F (r+1) (c+1)=ZZ)(H:b<w.heap.size)(B:Below W.heap.size W w):SJ W b F r c w.drew :=
 ⟨by have:=h.1 (r+1) (c+1) f e;rw[v] at this;exact this,kw (h.1 r c (by omega) (by omega)),h.2,TJ.of h r c,H,B.drew⟩
theorem SJ.call(H:Below w.heap.size w d)(h:SJ W b F r c w):SJ W b F r c d:=by
 obtain⟨i,j,l,⟨x,f⟩,e,k⟩:=h;exact⟨ai H i,kw (ai H j),(f.below H e).2,⟨x,f.below H e⟩,Nat.lt_of_lt_of_le e H.size,bt k H⟩
theorem SJ.store(n:r+1<40)(l:c+1<40)(v:Zk)(h:SJ W W.heap.size F r c w):SJ W W.heap.size F r c (w.setCell ⟨W.heap.size,r*40+c,Z7⟩ (.bool v)):=by
 obtain⟨i,t,u,e,j,k⟩:=h;have H:=e.set (by omega) (by omega) v;have o:=H.1 (r+1) (c+1) n l;have f:=H.1 r c (by omega) (by omega);refine⟨?_,kw f,H.2,e.set' (by omega) (by omega) v,by simpa using j,k.setCell (by simp) _⟩
 have m:r*40+c≠(r+1)*40+(c+1):=by omega
 rw[<-i];simp [go_sem]
end
end Go.Proofs.YtnkjliahpeebjaaGreatDoor
section
namespace Go.Proofs.YtnkjliahpeebjaaGreatDoor.Ds
open Lib (compareBytes)
variable(c x y:ZP)(p q s:Z3 ZP)(P L:Z3 (Z3 ZP))(F G:ZP->Zk)(a b:Z3 ZP)
theorem ln:compareBytes (x::a) (x::b)=compareBytes a b:=by
 rw[compareBytes];simp [WP]
theorem kr:x<y\/x=y\/y<x:=by
 rcases Nat.lt_trichotomy x.toNat y.toNat with h|h|h
 .exact .inl (YU.2 h)
 .exact .inr (.inl (Yf.1 h))
 .exact .inr (.inr (YU.2 h))
theorem jK(h:x<y):compareBytes (x::a) (y::b)=-1:=by rw[compareBytes];simp [h]
theorem jJ(h:y<x):compareBytes (x::a) (y::b)=1:=by
 have:¬ x<y:=fun H=>absurd (UInt8.lt_trans h H) (WP y)
 rw[compareBytes];simp [h,this]
theorem cmp_zero:∀ a b:Z3 ZP,compareBytes a b=0↔a=b
 | [],[]=>by simp [compareBytes]
 | [],_::_=>by simp [compareBytes]
 | _::_,[]=>by simp [compareBytes]
 | x::a,y::b=>by
   rcases kr x y with h|h|h
   .rw[jK _ _ _ _ h];have:x≠y:=fun e=>WP y (e ▸ h)
    simp [this]
   .subst h;rw[ln,cmp_zero a b];simp
   .rw[jJ _ _ _ _ h];have:x≠y:=fun e=>WP y (e ▸ h)
    simp [this]
theorem cmp_neg:∀ a b:Z3 ZP,compareBytes b a=- compareBytes a b
 | [],[]=>by simp [compareBytes]
 | [],_::_=>by simp [compareBytes]
 | _::_,[]=>by simp [compareBytes]
 | x::a,y::b=>by
   rcases kr x y with h|h|h
   .rw[jK _ _ _ _ h,jJ _ _ _ _ h];rfl
   .subst h;rw[ln,ln,cmp_neg a b]
   .rw[jK _ _ _ _ h,jJ _ _ _ _ h]
theorem cmp_trans:∀ a b c:Z3 ZP,compareBytes a b<=0->compareBytes b c<=0->compareBytes a c<=0
 | [],b,[],_,_=>by simp [compareBytes]
 | [],b,_::_,_,_=>by simp [compareBytes]
 | _::_,[],c,h,_=>by simp [compareBytes] at h
 | _::_,_::_,[],_,h=>by simp [compareBytes] at h
 | x::a,y::b,z::c,h,k=>by
   rcases kr x y with e|e|e
   .rcases kr y z with H|H|H
    .rw[jK _ _ _ _ (UInt8.lt_trans e H)];simp
    .subst H;rw[jK _ _ _ _ e];simp
    .rw[jJ _ _ _ _ H] at k;simp at k
   .subst e;rcases kr x z with H|H|H
    .rw[jK _ _ _ _ H];simp
    .subst H;rw[ln] at h k |-;exact cmp_trans a b c h k
    .rw[jJ _ _ _ _ H] at k;simp at k
   .rw[jJ _ _ _ _ e] at h;simp at h
/-! pieces -/
theorem pieces_dot:pieces (a++46::b)=pieces a++pieces b:=by
 induction a with
 | nil=>simp [pieces]
 | cons c r i =>
   simp only[List.cons_append,pieces,i]
   split
   .rfl
   .cases e:pieces r with
    | nil=>exact absurd e (pieces_ne r)
    | cons p f=>simp
theorem lZ(h:46 ∉ q):pieces q=[q]:=by
 induction q with
 | nil=>rfl
 | cons c r i =>
   simp only[YN,not_or] at h
   rw[pieces,if_neg (fun e=>h.1 e.symm),i h.2]
theorem xI(h:L≠[])(H:∀ q∈L,46 ∉ q):pieces (Lib.join L [46])=L:=by
 induction L with
 | nil=>exact absurd rfl h
 | cons a r i =>
   cases r with
   | nil=>rw[Lib.join_one,lZ a (H a (by simp))]
   | cons b r =>
     rw[join_cons2,List.append_assoc,List.singleton_append,pieces_dot,lZ a (H a (by simp)),i (by simp) (fun q h=>H q (by simp [h]))];rfl
/-! bytes of names and patterns -/
theorem qM(h:pl c=ZZ):c.toNat<=90/\c≠46/\c≠42:=by
 simp only[pl,up,dg,Ye,ZQ,ZW] at h
 exact⟨by omega,fun e=>by subst e;simp at h,fun e=>by subst e;simp at h⟩
theorem IF(h:up c=ZZ):pl c=ZZ:=by simp [pl,h]
theorem FZ(h:ups c=ZZ):pls c=ZZ:=by
 simp only[ups,Ye] at h
 rcases h with h|h <;> simp [pls,pl,h]
theorem tV(H:∀ c,F c=ZZ->G c=ZZ)(q:Z3 ZP)(h:qual F G q=ZZ):∀ c∈q,G c=ZZ:=by
 cases q with
 | nil=>simp
 | cons x r =>
   simp only[qual,ZQ,ZW,Xv] at h
   intro c e;rcases YN.1 e with rfl|e
   .exact H _ h.1.2
   .exact h.2 c e
theorem oK(h:nameQ q=ZZ):∀ c∈q,pl c=ZZ:=tV up pl IF q h
theorem BM(h:patQ q=ZZ):∀ c∈q,pls c=ZZ:=by
 unfold patQ at h;simp only[Ye,ZQ,ZW] at h
 rcases h with rfl|h
 .intro c H;simp at H;subst H;rfl
 .exact tV ups pls FZ q h.1
theorem zM(h:nameQ q=ZZ):patQ q=ZZ:=by
 have k:=oK q h
 have l:ss q=Z2:=by
  rw[Bool.eq_false_iff];intro e;obtain⟨j,m,H,_⟩:=(nj q).1 e;have f:j<q.length:=by omega
  rw[List.getD_eq_getElem?_getD,List.getElem?_eq_getElem f,Option.getD_some] at H;exact (qM _ (k _ (List.getElem_mem f))).2.2 (Yf.1 H)
 unfold patQ;rw[l];unfold nameQ at h
 cases q with
 | nil=>simp [qual] at h
 | cons x r =>
   simp only[qual,ZQ,ZW,Xv] at h
   simp only[qual,Bool.not_false,Bool.and_true,Ye,ZQ,ZW,Xv]
   exact .inr ⟨⟨h.1.1,by simp [ups,h.1.2]⟩,fun c i=>by simp [pls,h.2 c i]⟩
theorem name_parts:name s=ZZ↔(1<=s.length/\s.length<=31)/\∀ q∈pieces s,nameQ q=ZZ:=by
 simp [name,and_assoc]
theorem pat_parts:pat s=ZZ↔(1<=s.length/\s.length<=31)/\∀ q∈pieces s,patQ q=ZZ:=by
 simp [pat,and_assoc]
theorem name_pat(h:name s=ZZ):pat s=ZZ:=by
 rw[name_parts] at h;rw[pat_parts];exact⟨h.1,fun q H=>zM q (h.2 q H)⟩
theorem BA(h:nameQ q=ZZ):q≠[]:=by rintro rfl;simp [nameQ,qual] at h
theorem qY(h:nameQ q=ZZ):42 ∉ q:=fun H=>(qM _ (oK q h _ H)).2.2 rfl
theorem ye(h:nameQ q=ZZ):46 ∉ q:=fun H=>(qM _ (oK q h _ H)).2.1 rfl
theorem Ai(h:nameQ q=ZZ):q≠[42,42]:=by rintro rfl;exact qY _ h (by simp)
/-! names match themselves alone -/
theorem qL{α:Type}[DecidableEq α](S:α->Zk)(one:α->α->Zk):∀ (p l:Z3 α),(∀ a∈p,S a=Z2)->(∀ a∈p,∀ b,one a b=decide (a=b))->mt S one p l=decide (p=l)
 | [],[],_,_=>by simp [mt]
 | [],_::_,_,_=>by simp [mt]
 | a::p,[],h,_=>by simp [mt,h a (by simp)]
 | a::p,b::l,h,H=>by
   rw[mt,h a (by simp),H a (by simp) b,qL S one p l (fun a ha=>h a (by simp [ha])) (fun a ha=>H a (by simp [ha]))];rw[Zr];simp
theorem Gl(h:42 ∉ q):mtQ q s=decide (q=s) :=
 qL _ _ q s (fun a ha=>by simp;rintro rfl;exact h ha) (fun _ _ _=>rfl)
theorem Gj(h:∀ q∈P,nameQ q=ZZ):mtP P L=decide (P=L) :=
 qL _ _ P L (fun q H=>by simpa using Ai q (h q H)) (fun q H s=>Gl q s (qY q (h q H)))
theorem match_self(ha:name a=ZZ)(H:name b=ZZ):match_ a b=decide (a=b):=by
 unfold match_;rw[name_pat a ha,H,Gj _ _ ((name_parts a).1 ha).2,Zr];simp only[Bool.true_and,ZW]
 constructor
 .intro h;rw[<-join_pieces a,<-join_pieces b,h]
 .rintro rfl;rfl
theorem xW(h:L≠[])(H:∀ q∈L,q≠[]):1<=(Lib.join L [46]).length:=by
 cases L with
 | nil=>exact absurd rfl h
 | cons a r =>
   have ha:=H a (by simp);have:1<=a.length:=by cases a with|nil=>exact absurd rfl ha|cons _ _=>simp
   cases r with
   | nil=>rw[Lib.join_one];exact this
   | cons b r=>rw[join_cons2];simp only[List.length_append];omega
theorem match_parts:match_ p s=ZZ↔pat p=ZZ/\name s=ZZ/\mtP (pieces p) (pieces s)=ZZ:=by
 simp [match_,and_assoc]
end Go.Proofs.YtnkjliahpeebjaaGreatDoor.Ds
end
section
namespace Go.Proofs.YtnkjliahpeebjaaGreatDoor.Ds
open Lib (compareBytes)
variable(g p s:Z3 ZP)
def k1(c:ZP):ZP:=if c=42 then 254 else c
/-! below -/
theorem first_take(n:Nat)(i:name s=ZZ)(m:0<n):name (first n s)=ZZ/\pieces (first n s)=(pieces s).take n:=by
 have k:=(name_parts s).1 i;have j:first n s=Lib.join ((pieces s).take n) [46]:=by unfold first;rw[i];simp
 have H:(pieces s).take n≠[]:=by
  intro e;rw[List.take_eq_nil_iff] at e;rcases e with e|e
  .omega
  .exact pieces_ne s e
 have f:∀ q∈(pieces s).take n,nameQ q=ZZ:=fun q h=>k.2 q (List.mem_of_mem_take h)
 have e:=xI _ H (fun q h=>ye q (f q h));rw[j,name_parts,e];have l:=join_take (pieces s) [46] n;rw[join_pieces] at l;exact⟨⟨⟨xW _ H (fun q h=>BA q (f q h)),by omega⟩,f⟩,rfl⟩
theorem first_all(h:name s=ZZ):first (pieces s).length s=s:=by
 unfold first;rw[h];simp [join_pieces]
theorem qZ:pieces (p++[46,42,42])=pieces p++[[42,42]]:=pieces_dot p [42,42]
theorem zy{α β:Type}{S:α->Zk}{one:α->β->Zk}{P:Z3 α}(h:M S one P [])(i:P≠[])(L:Z3 β):M S one P L:=by
 generalize e:([]:Z3 β)=l at h
 cases h with
 | nil=>exact absurd rfl i
 | @skip a p l H f=>
   subst e;clear i
   have key:∀ L:Z3 β,M S one (a::p) L:=by
    intro L
    induction L with
    | nil=>exact .skip H f
    | cons b L I=>exact .eat H I
   exact key L
 | eat H f=>cases e
 | one H f j=>cases e
theorem match_below(t:pat p=ZZ)(D:p.length<=28)(i:name s=ZZ) :
 match_ (p++[46,42,42]) s=(YR (pieces s).length).any fun n=>match_ p (first ((n:Int)+1) s):=by
 have H:=(pat_parts p).1 t;rw[Zr,match_parts,List.any_eq_true,qZ];constructor
 .rintro ⟨_,_,h⟩;obtain⟨l,I,e,k,C⟩:=lJ _ _ _ ((gR _ _ _ _).1 h);have o:0<(pieces s).length:=List.length_pos_iff.2 (pieces_ne s)
  have key:∀ n:Nat,0<n->n<=(pieces s).length->M (fun q:Z3 ZP=>decide (q=[42,42])) mtQ (pieces p) ((pieces s).take n)->∃ x,x∈YR (pieces s).length/\match_ p (first ((x:Int)+1) s)=ZZ:=by
   intro n v B A;refine⟨n - 1,by simp;omega,?_⟩
   obtain⟨j,f⟩:=first_take s n i v;have E:((n - 1:Nat):Int)+1=n:=by omega
   rw[E,match_parts,f];exact⟨t,j,(gR _ _ _ _).2 A⟩
  cases l with
  | nil=>exact key 1 (by omega) (by omega) (zy k (pieces_ne p) _)
  | cons b l =>
    refine key (b::l).length (by simp) (by rw[e];simp) ?_
    rw[e,List.take_left']
    .exact k
    .rfl
 .rintro ⟨n,B,h⟩;obtain⟨j,f⟩:=first_take s (n+1) i (by omega);have E:((n:Int)+1)=((n+1:Nat):Int):=by omega
  rw[E,match_parts,f] at h;obtain⟨_,_,z⟩:=h;refine⟨?_,i,?_⟩
  .rw[pat_parts,qZ];refine⟨by simp;omega,?_⟩
   intro q u;rw[List.mem_append] at u;rcases u with h|h
   .exact H.2 q h
   .simp at h;subst h;decide
  .have m:=jZ ((gR _ _ _ _).1 z) (ku (star:=fun q:Z3 ZP=>decide (q=[42,42])) (one:=mtQ) [42,42] (by simp) ((pieces s).drop (n+1)));rw[List.take_append_drop] at m;exact (gR _ _ _ _).2 m
theorem group_parts:group g=ZZ↔name g=ZZ/\g.length<=22/\∀ q∈pieces g,num q=0:=by
 simp [group,and_assoc]
end Go.Proofs.YtnkjliahpeebjaaGreatDoor.Ds
end
namespace Go.Proofs.YtnkjliahpeebjaaGreatDoor
section
open Go.RowKit
attribute [local go_sem ↓] an
end
section
open Go.RowKit
attribute [local go_sem ↓] an
end
end Go.Proofs.YtnkjliahpeebjaaGreatDoor
section
namespace Go.Proofs.YtnkjliahpeebjaaGreatDoor
open Go.RowKit
namespace Ds
end Ds
namespace Ds
end Ds
end Go.Proofs.YtnkjliahpeebjaaGreatDoor
end
