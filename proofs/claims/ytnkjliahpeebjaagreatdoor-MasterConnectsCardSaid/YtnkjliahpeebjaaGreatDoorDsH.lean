/- Catalogs. -/
import Derived.Test.YtnkjliahpeebjaaGreatDoorCalE
import Derived.Test.YtnkjliahpeebjaaGreatDoorDsA
import Derived.BigQuiet
set_option maxRecDepth 20000
set_option maxHeartbeats 2000000
open Option renaming some->Z9,none->Z8
open _root_ renaming ByteArray->Z7,List->Z5,if_neg->Z0,decide_eq_true_eq->ZU,UInt8->ZP,Bool->Zi
open Go.Proofs.Tryz renaming prog->Z6
open Go.Proofs.YtnkjliahpeebjaaGreatDoor.Ds renaming bl->Z4,bl_length->ZO
open Go renaming World->Z2,Calls->ZJ,block_lt_of_cell->YR
open Bool renaming true->ZZ,false->ZW,and_eq_true->ZT,eq_iff_iff->Zf,or_eq_true->Yh
open Nat renaming lt_of_lt_of_le->ZY,le_refl->ZS,zero_le->Y7,lt_or_ge->YI
open Go.RowKit renaming Below->ZV,intOf->Y4
open List renaming getElem?_eq_getElem->ZN,getD_eq_getElem?_getD->Zx,mem_cons->Zw,length_map->Zq,getElem_mem->Yu,range->X3,all_eq_true->Xb
open Go.RowKit.Below renaming refl->ZM,setCell->Yb,alloc->Xz
open Go.Value renaming string->Zh,bool->XS
open UInt8 renaming lt_iff_toNat_lt->Zg,toNat_inj->XT,lt_irrefl->Xq
open Go.IntWalk renaming i64_in->WV
namespace Go.Proofs.YtnkjliahpeebjaaGreatDoor
variable{F:Nat->Nat->Zi}{P:Program}{W w w':Z2}{b o r c:Nat}
section
open Go.RowKit
def nS:Array Value:=Array.replicate 1600 (.bool ZW)
theorem IJ(i:Nat)(h:i<1600):nS[i]?=Z9 (.bool ZW):=by simp [nS,h]
theorem IK:(Tryz.prog.info? 237).bind (·.zero)=Z9 (.agg nS):=by kernel_rfl
attribute [irreducible] nS
theorem Do{t:TypeId}{i:TypeInfo}(h:P.info? t=Z9 i):(typeInfo t).run P w=.ok i w:=by
 simp [typeInfo,h]
theorem II(t:TypeId)(v:Value)(w:Z2)(h:(P.info? t).bind (·.zero)=Z9 v):(zeroValue t).run P w=.ok v w:=by
 cases e:P.info? t with
 | none=>rw[e] at h;cases h
 | some i =>
   rw[e] at h;have H:i.zero=Z9 v:=h;unfold zeroValue;simp only[Sem.run_bind,Do e,Result.andThen_ok,H,Sem.run_pure]
theorem an(e:Operand->Value)(w:Z2)(dst t pos af gd) :
 (execOp e ⟨dst,.alloc 237,t,pos,af,gd⟩).run Z6 w=.ok (.value (.pointer (Z9 ⟨w.heap.size,0,Z8⟩))) (w.alloc (.cells nS 237)):=by
 have h:=II 237 (.agg nS) w IK;unfold execOp;simp only[Instr.alloc,Sem.run_bind,h,Result.andThen_ok]
 simp [go_sem,newVar,newRow]
def TI(w:Z2)(b:Nat)(F:Nat->Nat->Zi):Prop:=(∀ r c,r<40->c<40->w.cell? ⟨b,r*40+c,Z8⟩=Z9 (.bool (F r c)))/\(∀ o,w.frozen? ⟨b,o,Z8⟩=ZW)
theorem TI.new(w:Z2):TI (w.alloc (.cells nS 237)) w.heap.size (fun _ _=>ZW) :=
 ⟨fun r c H h=>by rw[cell_of_row _ w.heap.size _ _ 237 (0,0) (heap_alloc_new w _)];exact IJ _ (by omega),fun o=>by simp⟩
theorem TI.below(h:TI w b F)(e:ZV w.heap.size w w')(H:b<w.heap.size):TI w' b F :=
 ⟨fun r c B A=>ai e (h.1 r c B A),fun o=>by rw[(bcell e).2 b o H];exact h.2 o⟩
theorem TI.set(h:TI w b F)(R C:Nat)(A:R<40)(H:C<40)(v:Zi):TI (w.setCell ⟨b,R*40+C,Z8⟩ (.bool v)) b (fun r c=>if r=R/\c=C then v else F r c):=by
 refine⟨fun r c J E=>?_,fun o=>by have:=h.2 o;simpa using this⟩
 have D:=h.1 r c J E;have B:=h.1 R C A H;by_cases e:r=R/\c=C
 .obtain⟨rfl,rfl⟩:=e;simp [go_sem,B]
 .have I:R*40+C≠r*40+c:=by omega
  show _=Z9 (XS (if r=R/\c=C then v else F r c))
  rw[Z0 e,<-D];simp [go_sem]
theorem TI.drew(h:TI w b F):TI w.drew b F:=h
theorem TI.start(w:Z2)(p n:Nat)(e:p<40)(H:n<40):TI (w.alloc (.cells (nS.setIfInBounds (p*40+n) (.bool ZZ)) 237)) w.heap.size (fun r c=>if r=p/\c=n then ZZ else ZW):=by
 have h:=(TI.new w).set p n e H ZZ;simpa [go_sem] using h
def bvc(w:Z2)(b o:Nat):Zi:=match w.cell? ⟨b,o,Z8⟩ with|some (.bool x)=>x|_=>ZW
theorem kw{x:Zi}(h:w.cell? ⟨b,o,Z8⟩=Z9 (.bool x)):w.cell? ⟨b,o,Z8⟩=Z9 (.bool (bvc w b o)):=by
 rw[h];unfold bvc;rw[h]
def TJ(w:Z2)(b:Nat)(F:Nat->Nat->Zi)(r c:Nat):Prop:=∃ x,TI w b (fun R C=>if R=r/\C=c then x else F R C)
theorem TJ.of(h:TI w b F)(r c:Nat):TJ w b F r c:=⟨F r c,⟨fun R C H A=>by
 rw[h.1 R C H A];show _=Z9 (XS (if R=r/\C=c then F r c else F R C))
 by_cases e:R=r/\C=c
 .rw[if_pos e,e.1,e.2]
 .rw[Z0 e],h.2⟩⟩
theorem TJ.set(h:TJ w b F r c)(B:r<40)(A:c<40)(v:Zi):TI (w.setCell ⟨b,r*40+c,Z8⟩ (.bool v)) b (fun R C=>if R=r/\C=c then v else F R C):=by
 obtain⟨x,h⟩:=h;have H:=h.set r c B A v
 have e:(fun R C=>if R=r/\C=c then v else (if R=r/\C=c then x else F R C))=fun R C=>if R=r/\C=c then v else F R C:=by
  funext R C;split <;> rfl
 rw[e] at H;exact H
theorem TJ.set'(h:TJ w b F r c)(e:r<40)(H:c<40)(v:Zi):TJ (w.setCell ⟨b,r*40+c,Z8⟩ (.bool v)) b F r c:=⟨v,h.set e H v⟩
def SJ(W:Z2)(b:Nat)(F:Nat->Nat->Zi)(r c:Nat)(w:Z2):Prop:=w.cell? ⟨b,(r+1)*40+(c+1),Z8⟩=Z9 (.bool ZZ)/\w.cell? ⟨b,r*40+c,Z8⟩=Z9 (.bool (bvc w b (r*40+c)))/\(∀ o,w.frozen? ⟨b,o,Z8⟩=ZW)/\TJ w b F r c/\b<w.heap.size/\ZV W.heap.size W w
theorem SJ.start(h:TI w b F)(A:r+1<40)(e:c+1<40)(C:F (r+1) (c+1)=ZZ)(H:b<w.heap.size)(B:ZV W.heap.size W w):SJ W b F r c w.drew :=
 ⟨by have:=h.1 (r+1) (c+1) A e;rw[C] at this;exact this,kw (h.1 r c (by omega) (by omega)),h.2,TJ.of h r c,H,B.drew⟩
theorem SJ.call{B:Z2}(H:ZV w.heap.size w B)(h:SJ W b F r c w):SJ W b F r c B:=by
 obtain⟨C,D,I,⟨x,A⟩,e,E⟩:=h;exact⟨ai H C,kw (ai H D),(A.below H e).2,⟨x,A.below H e⟩,ZY e H.size,bt E H⟩
theorem SJ.store(J:r+1<40)(E:c+1<40)(v:Zi)(h:SJ W W.heap.size F r c w):SJ W W.heap.size F r c (w.setCell ⟨W.heap.size,r*40+c,Z8⟩ (.bool v)):=by
 obtain⟨B,N,O,e,C,D⟩:=h;have H:=e.set (by omega) (by omega) v;have K:=H.1 (r+1) (c+1) J E;have A:=H.1 r c (by omega) (by omega);refine⟨?_,kw A,H.2,e.set' (by omega) (by omega) v,by simpa using C,D.setCell (by simp) _⟩
 have I:r*40+c≠(r+1)*40+(c+1):=by omega
 rw[<-B];simp [go_sem]
theorem fS(F T:Nat->Nat->Zi)(p n r c:Nat)(v:Zi)(h:∀ R C,r+1<=R->R<=p->C<=n->F R C=T R C) :
 ∀ R C,r+1<=R->R<=p->C<=n->(if R=r/\C=c then v else F R C)=T R C:=fun R C H e A=>by rw[Z0 (by omega)];exact h R C H e A
theorem gh(F T:Nat->Nat->Zi)(n r c:Nat)(v:Zi)(h:∀ C,c+1<=C->C<=n->F r C=T r C)(A:v=T r c) :
 ∀ C,c<=C->C<=n->(if r=r/\C=c then v else F r C)=T r C:=fun C B H=>by
 by_cases e:C=c
 .subst e;rw[if_pos ⟨rfl,rfl⟩];exact A
 .rw[Z0 (by omega)];exact h C (by omega) H
end
end Go.Proofs.YtnkjliahpeebjaaGreatDoor
section
namespace Go.Proofs.YtnkjliahpeebjaaGreatDoor.Ds
open Lib (compareBytes)
variable(c x y:ZP)(p q s:Z5 ZP)(P L:Z5 (Z5 ZP))(F G:ZP->Zi)(a b:Z5 ZP)
theorem ln:compareBytes (x::a) (x::b)=compareBytes a b:=by
 rw[compareBytes];simp [Xq]
theorem kr:x<y\/x=y\/y<x:=by
 rcases Nat.lt_trichotomy x.toNat y.toNat with h|h|h
 .exact .inl (Zg.2 h)
 .exact .inr (.inl (XT.1 h))
 .exact .inr (.inr (Zg.2 h))
theorem jK(h:x<y):compareBytes (x::a) (y::b)=-1:=by rw[compareBytes];simp [h]
theorem jJ(h:y<x):compareBytes (x::a) (y::b)=1:=by
 have:¬ x<y:=fun H=>absurd (UInt8.lt_trans h H) (Xq y)
 rw[compareBytes];simp [h,this]
theorem cmp_zero:∀ a b:Z5 ZP,compareBytes a b=0↔a=b
 | [],[]=>by simp [compareBytes]
 | [],_::_=>by simp [compareBytes]
 | _::_,[]=>by simp [compareBytes]
 | x::a,y::b=>by
   rcases kr x y with h|h|h
   .rw[jK _ _ _ _ h];have:x≠y:=fun e=>Xq y (e ▸ h)
    simp [this]
   .subst h;rw[ln,cmp_zero a b];simp
   .rw[jJ _ _ _ _ h];have:x≠y:=fun e=>Xq y (e ▸ h)
    simp [this]
theorem cmp_neg:∀ a b:Z5 ZP,compareBytes b a=- compareBytes a b
 | [],[]=>by simp [compareBytes]
 | [],_::_=>by simp [compareBytes]
 | _::_,[]=>by simp [compareBytes]
 | x::a,y::b=>by
   rcases kr x y with h|h|h
   .rw[jK _ _ _ _ h,jJ _ _ _ _ h];rfl
   .subst h;rw[ln,ln,cmp_neg a b]
   .rw[jK _ _ _ _ h,jJ _ _ _ _ h]
theorem cmp_trans:∀ a b c:Z5 ZP,compareBytes a b<=0->compareBytes b c<=0->compareBytes a c<=0
 | [],b,[],_,_=>by simp [compareBytes]
 | [],b,_::_,_,_=>by simp [compareBytes]
 | _::_,[],c,h,_=>by simp [compareBytes] at h
 | _::_,_::_,[],_,h=>by simp [compareBytes] at h
 | x::a,y::b,z::c,h,k=>by
   rcases kr x y with e|e|e
   .rcases kr y z with H|H|H
    .rw[jK _ _ _ _ (UInt8.lt_trans e H)];simp
    .subst H;rw[jK _ _ _ _ e];simp
    .rw[jJ _ _ _ _ H] at k;simp at k
   .subst e;rcases kr x z with H|H|H
    .rw[jK _ _ _ _ H];simp
    .subst H;rw[ln] at h k |-;exact cmp_trans a b c h k
    .rw[jJ _ _ _ _ H] at k;simp at k
   .rw[jJ _ _ _ _ e] at h;simp at h
/-! pieces -/
theorem pieces_dot:pieces (a++46::b)=pieces a++pieces b:=by
 induction a with
 | nil=>simp [pieces]
 | cons c r I =>
   simp only[List.cons_append,pieces,I]
   split
   .rfl
   .cases e:pieces r with
    | nil=>exact absurd e (pieces_ne r)
    | cons p f=>simp
theorem lZ(h:46 ∉ q):pieces q=[q]:=by
 induction q with
 | nil=>rfl
 | cons c r I =>
   simp only[Zw,not_or] at h
   rw[pieces,Z0 (fun e=>h.1 e.symm),I h.2]
theorem As(h:L≠[])(H:∀ q∈L,46 ∉ q):pieces (Lib.join L [46])=L:=by
 induction L with
 | nil=>exact absurd rfl h
 | cons a r I =>
   cases r with
   | nil=>rw[Lib.join_one,lZ a (H a (by simp))]
   | cons b r =>
     rw[join_cons2,List.append_assoc,List.singleton_append,pieces_dot,lZ a (H a (by simp)),I (by simp) (fun q h=>H q (by simp [h]))];rfl
/-! bytes of names and patterns -/
theorem qM(h:pl c=ZZ):c.toNat<=90/\c≠46/\c≠42:=by
 simp only[pl,up,dg,Yh,ZT,ZU] at h
 exact⟨by omega,fun e=>by subst e;simp at h,fun e=>by subst e;simp at h⟩
theorem IF(h:up c=ZZ):pl c=ZZ:=by simp [pl,h]
theorem FZ(h:ups c=ZZ):pls c=ZZ:=by
 simp only[ups,Yh] at h
 rcases h with h|h <;> simp [pls,pl,h]
theorem tV(H:∀ c,F c=ZZ->G c=ZZ)(q:Z5 ZP)(h:qual F G q=ZZ):∀ c∈q,G c=ZZ:=by
 cases q with
 | nil=>simp
 | cons x r =>
   simp only[qual,ZT,ZU,Xb] at h
   intro c e;rcases Zw.1 e with rfl|e
   .exact H _ h.1.2
   .exact h.2 c e
theorem oK(h:nameQ q=ZZ):∀ c∈q,pl c=ZZ:=tV up pl IF q h
theorem BM(h:patQ q=ZZ):∀ c∈q,pls c=ZZ:=by
 unfold patQ at h;simp only[Yh,ZT,ZU] at h
 rcases h with rfl|h
 .intro c H;simp at H;subst H;rfl
 .exact tV ups pls FZ q h.1
theorem zM(h:nameQ q=ZZ):patQ q=ZZ:=by
 have C:=oK q h
 have D:ss q=ZW:=by
  rw[Bool.eq_false_iff];intro e;obtain⟨j,E,H,_⟩:=(nj q).1 e;have A:j<q.length:=by omega
  rw[Zx,ZN A,Option.getD_some] at H;exact (qM _ (C _ (Yu A))).2.2 (XT.1 H)
 unfold patQ;rw[D];unfold nameQ at h
 cases q with
 | nil=>simp [qual] at h
 | cons x r =>
   simp only[qual,ZT,ZU,Xb] at h
   simp only[qual,Bool.not_false,Bool.and_true,Yh,ZT,ZU,Xb]
   exact .inr ⟨⟨h.1.1,by simp [ups,h.1.2]⟩,fun c B=>by simp [pls,h.2 c B]⟩
theorem name_parts:name s=ZZ↔(1<=s.length/\s.length<=31)/\∀ q∈pieces s,nameQ q=ZZ:=by
 simp [name,and_assoc]
theorem pat_parts:pat s=ZZ↔(1<=s.length/\s.length<=31)/\∀ q∈pieces s,patQ q=ZZ:=by
 simp [pat,and_assoc]
theorem name_pat(h:name s=ZZ):pat s=ZZ:=by
 rw[name_parts] at h;rw[pat_parts];exact⟨h.1,fun q H=>zM q (h.2 q H)⟩
theorem Ep(h:nameQ q=ZZ):q≠[]:=by rintro rfl;simp [nameQ,qual] at h
theorem sB(h:nameQ q=ZZ):42 ∉ q:=fun H=>(qM _ (oK q h _ H)).2.2 rfl
theorem Av(h:nameQ q=ZZ):46 ∉ q:=fun H=>(qM _ (oK q h _ H)).2.1 rfl
theorem BK(h:nameQ q=ZZ):q≠[42,42]:=by rintro rfl;exact sB _ h (by simp)
/-! names match themselves alone -/
theorem sA{α:Type}[DecidableEq α](S:α->Zi)(one:α->α->Zi):∀ (p l:Z5 α),(∀ a∈p,S a=ZW)->(∀ a∈p,∀ b,one a b=decide (a=b))->mt S one p l=decide (p=l)
 | [],[],_,_=>by simp [mt]
 | [],_::_,_,_=>by simp [mt]
 | a::p,[],h,_=>by simp [mt,h a (by simp)]
 | a::p,b::l,h,H=>by
   rw[mt,h a (by simp),H a (by simp) b,sA S one p l (fun a ha=>h a (by simp [ha])) (fun a ha=>H a (by simp [ha]))];rw[Zf];simp
theorem I8(h:42 ∉ q):mtQ q s=decide (q=s) :=
 sA _ _ q s (fun a ha=>by simp;rintro rfl;exact h ha) (fun _ _ _=>rfl)
theorem I5(h:∀ q∈P,nameQ q=ZZ):mtP P L=decide (P=L) :=
 sA _ _ P L (fun q H=>by simpa using BK q (h q H)) (fun q H s=>I8 q s (sB q (h q H)))
theorem match_self(ha:name a=ZZ)(H:name b=ZZ):match_ a b=decide (a=b):=by
 unfold match_;rw[name_pat a ha,H,I5 _ _ ((name_parts a).1 ha).2,Zf];simp only[Bool.true_and,ZU]
 constructor
 .intro h;rw[<-join_pieces a,<-join_pieces b,h]
 .rintro rfl;rfl
theorem At(h:L≠[])(H:∀ q∈L,q≠[]):1<=(Lib.join L [46]).length:=by
 cases L with
 | nil=>exact absurd rfl h
 | cons a r =>
   have ha:=H a (by simp);have:1<=a.length:=by cases a with|nil=>exact absurd rfl ha|cons _ _=>simp
   cases r with
   | nil=>rw[Lib.join_one];exact this
   | cons b r=>rw[join_cons2];simp only[List.length_append];omega
theorem match_parts:match_ p s=ZZ↔pat p=ZZ/\name s=ZZ/\mtP (pieces p) (pieces s)=ZZ:=by
 simp [match_,and_assoc]
end Go.Proofs.YtnkjliahpeebjaaGreatDoor.Ds
end
section
namespace Go.Proofs.YtnkjliahpeebjaaGreatDoor.Ds
open Lib (compareBytes)
variable(g p s:Z5 ZP)
def k1(c:ZP):ZP:=if c=42 then 254 else c
/-! below -/
theorem first_take(n:Nat)(B:name s=ZZ)(I:0<n):name (first n s)=ZZ/\pieces (first n s)=(pieces s).take n:=by
 have E:=(name_parts s).1 B;have C:first n s=Lib.join ((pieces s).take n) [46]:=by unfold first;rw[B];simp
 have H:(pieces s).take n≠[]:=by
  intro e;rw[List.take_eq_nil_iff] at e;rcases e with e|e
  .omega
  .exact pieces_ne s e
 have A:∀ q∈(pieces s).take n,nameQ q=ZZ:=fun q h=>E.2 q (List.mem_of_mem_take h)
 have e:=As _ H (fun q h=>Av q (A q h));rw[C,name_parts,e];have D:=join_take (pieces s) [46] n;rw[join_pieces] at D;exact⟨⟨⟨At _ H (fun q h=>Ep q (A q h)),by omega⟩,A⟩,rfl⟩
theorem first_all(h:name s=ZZ):first (pieces s).length s=s:=by
 unfold first;rw[h];simp [join_pieces]
theorem sC:pieces (p++[46,42,42])=pieces p++[[42,42]]:=pieces_dot p [42,42]
theorem A8{α β:Type}{S:α->Zi}{one:α->β->Zi}{P:Z5 α}(h:M S one P [])(B:P≠[])(L:Z5 β):M S one P L:=by
 generalize e:([]:Z5 β)=l at h
 cases h with
 | nil=>exact absurd rfl B
 | @skip a p l H A=>
   subst e;clear B
   have key:∀ L:Z5 β,M S one (a::p) L:=by
    intro L
    induction L with
    | nil=>exact .skip H A
    | cons b L I=>exact .eat H I
   exact key L
 | eat H A=>cases e
 | one H A C=>cases e
theorem match_below(N:pat p=ZZ)(V:p.length<=28)(B:name s=ZZ) :
 match_ (p++[46,42,42]) s=(X3 (pieces s).length).any fun n=>match_ p (first ((n:Int)+1) s):=by
 have H:=(pat_parts p).1 N;rw[Zf,match_parts,List.any_eq_true,sC];constructor
 .rintro ⟨_,_,h⟩;obtain⟨C,X,e,I,U⟩:=lJ _ _ _ ((gR _ _ _ _).1 h);have K:0<(pieces s).length:=List.length_pos_iff.2 (pieces_ne s)
  have key:∀ n:Nat,0<n->n<=(pieces s).length->M (fun q:Z5 ZP=>decide (q=[42,42])) mtQ (pieces p) ((pieces s).take n)->∃ x,x∈X3 (pieces s).length/\match_ p (first ((x:Int)+1) s)=ZZ:=by
   intro n Q T S;refine⟨n - 1,by simp;omega,?_⟩
   obtain⟨D,A⟩:=first_take s n B Q;have E:((n - 1:Nat):Int)+1=n:=by omega
   rw[E,match_parts,A];exact⟨N,D,(gR _ _ _ _).2 S⟩
  cases C with
  | nil=>exact key 1 (by omega) (by omega) (A8 I (pieces_ne p) _)
  | cons b C =>
    refine key (b::C).length (by simp) (by rw[e];simp) ?_
    rw[e,List.take_left']
    .exact I
    .rfl
 .rintro ⟨n,T,h⟩;obtain⟨D,A⟩:=first_take s (n+1) B (by omega);have E:((n:Int)+1)=((n+1:Nat):Int):=by omega
  rw[E,match_parts,A] at h;obtain⟨_,_,R⟩:=h;refine⟨?_,B,?_⟩
  .rw[pat_parts,sC];refine⟨by simp;omega,?_⟩
   intro q O;rw[List.mem_append] at O;rcases O with h|h
   .exact H.2 q h
   .simp at h;subst h;decide
  .have J:=jZ ((gR _ _ _ _).1 R) (ku (star:=fun q:Z5 ZP=>decide (q=[42,42])) (one:=mtQ) [42,42] (by simp) ((pieces s).drop (n+1)));rw[List.take_append_drop] at J;exact (gR _ _ _ _).2 J
theorem group_parts:group g=ZZ↔name g=ZZ/\g.length<=22/\∀ q∈pieces g,num q=0:=by
 simp [group,and_assoc]
end Go.Proofs.YtnkjliahpeebjaaGreatDoor.Ds
end
namespace Go.Proofs.YtnkjliahpeebjaaGreatDoor
section
open Go.RowKit
attribute [local go_sem ↓] an
theorem tbq(p n:Nat)(hp:p<40)(hn:n<40)(m f:Nat)(S:Nat->Zi)(O:Nat->Nat->Zi)(w:Z2)(hS:Hid (∀ i:Nat,i<p->∀ w',ZV w.heap.size w w'->ZJ Z6 99 #[.int .i64 i,.pointer (Z9 ⟨m,0,Z8⟩)] w' fun e Q=>e=.returned (.bool (S i))/\ZV w'.heap.size w' Q))(hO:Hid (∀ i k:Nat,i<p->k<n->∀ w',ZV w.heap.size w w'->ZJ Z6 100 #[.int .i64 i,.int .i64 k,.pointer (Z9 ⟨m,0,Z8⟩),.pointer (Z9 ⟨f,0,Z8⟩)] w' fun e Q=>e=.returned (.bool (O i k))/\ZV w'.heap.size w' Q)) :
 ZJ Z6 96 #[.int .i64 p,.int .i64 n,.func (.func 99) #[] #[.pointer (Z9 ⟨m,0,Z8⟩)],.func (.func 100) #[] #[.pointer (Z9 ⟨m,0,Z8⟩),.pointer (Z9 ⟨f,0,Z8⟩)]] w fun e w'=>e=.returned (.bool (Ds.tab S O p n 0 0))/\ZV w.heap.size w w':=by
 have hz:nS[p*40+n]?=Z9 (.bool ZW):=IJ _ (by omega);go_enter Tryz.func96,Tryz.ntmps96
 go_wp2_with fail
 clear hz;go_loopw [10,11] (fun i _ wr=>∃ (q:Int) (r:Nat) (F:Nat->Nat->Zi),r<=p/\q=(r:Int) - 1/\i=.int .i64 q/\TI wr w.heap.size F/\(∀ R c,r<=R->R<=p->c<=n->F R c=Ds.tab S O p n R c)/\w.heap.size<wr.heap.size/\ZV w.heap.size w wr) (fun i _ _=>(Y4 i+1).toNat)
 case atStart =>
  refine⟨(p:Int) - 1,p,fun r c=>if r=p/\c=n then ZZ else ZW,by omega,rfl,by go_num,by have h:=(TI.new w).set p n hp hn ZZ;simpa [go_sem] using h,?_,by simp,by (repeat (first|exact ZM _ _|assumption|(refine Below.drew ?_)|(refine Xz ?_ (by simp) _)|(refine Yb ?_ (by simp) _)))⟩
  intro R c h1 h2 h3;obtain rfl:R=p:=by omega
  rw[Ds.tab_end _ _ _ _ _ _ (by omega)];by_cases hc:c=n <;> simp [hc]
 case round =>
  obtain⟨q,r,F,hr,hq,rfl,T,hF,H,B⟩:=hrel;have C:=lh hF;clear hF;rcases r with _|r
  .obtain rfl:q=-1:=by omega
   have c0:=T.1 0 0 (by omega) (by omega);have H0:=lh (C.o 0 0 (by omega) (by omega) (by omega));clear hq;go_wp2_with fail
   go_ret
   exact⟨aF H0.o,B⟩
  .obtain rfl:q=r:=by omega
   clear hq;go_wp2_with fail
   go_loopw [11] (fun k wr=>∃ (q:Int) (c:Nat) (F:Nat->Nat->Zi),c<=n+1/\q=(c:Int) - 1/\k=.int .i64 q/\TI wr w.heap.size F/\(∀ R D,r+1<=R->R<=p->D<=n->F R D=Ds.tab S O p n R D)/\(∀ D,c<=D->D<=n->F r D=Ds.tab S O p n r D)/\w.heap.size<wr.heap.size/\ZV w.heap.size w wr) (fun k _=>(Y4 k+1).toNat)
   case atStart=>exact⟨n,n+1,F,by omega,by omega,rfl,T,C.o,by intro D h1 h2;omega,H,B⟩
   case round =>
    clear C T H B;obtain⟨q,c,F,hc,hq,rfl,T,hF,hG,H,B⟩:=hrel;have C:=lh hF;have J:=lh hG;clear hF hG;rcases c with _|c
    .obtain rfl:q=-1:=by omega
     clear hq;go_wp2_with fail
     go_roundw
     case rel =>
      refine⟨(r:Int) - 1,r,F,by omega,rfl,by go_num,T,?_,H,B⟩
      intro R D h1 h2 h3;rcases YI r R with h|h
      .exact C.o R D h h2 h3
      .obtain rfl:R=r:=by omega
       exact J.o D (by omega) h3
     case measure=>simp [Y4]
    .obtain rfl:q=c:=by omega
     clear hq;have a8:c<=n:=by omega
     have E:=T.1 (r+1) c (by omega) (by omega);have U:=lh (C.o (r+1) c (by omega) (by omega) a8);have K:=T.1 r c (by omega) (by omega);have fz:=T.2;cases Y:S r
     .by_cases Z:c<n
      .have X:=T.1 (r+1) (c+1) (by omega) (by omega);have V:=lh (C.o (r+1) (c+1) (by omega) (by omega) (by omega));go_wp2_with (go_at_call 99;(with_reducible refine (hS.o r (by omega) _ B).mono ?_);rintro e w1 ⟨rfl,A⟩;have B:=bt B A;have T:=T.below A H;have H:=ZY H A.size;have K:=ai A K;have E:=ai A E;clear A)
       have fz:=T.2;have X:=T.1 (r+1) (c+1) (by omega) (by omega);cases N:F (r+1) (c+1)
       .rw[N] at X V;go_region
        go_wp2_with fail
        go_roundw
        case rel=>exact⟨(c:Int) - 1,c,_,by omega,rfl,by go_num,(T.set r c (by omega) (by omega) _).drew,fS _ _ _ _ _ _ _ C.o,gh _ _ _ _ _ _ J.o (by rw[Ds.tab_one _ _ _ _ _ _ (by omega) Y,<-V.o];simp),by simpa using H,by (have I:=(B).size;exact aB)⟩
        case measure=>simp [Y4]
       .rw[N] at X V;have b1:r+1<40:=by omega
        have b2:c+1<40:=by omega
        have b3:(r:Int)+1<40:=by omega
        have b4:(c:Int)+1<40:=by omega
        have b5:(0:Int)<=(r:Int)+1:=by omega
        have b6:(0:Int)<=(c:Int)+1:=by omega
        have b7:IntKind.i64.wrap ((r:Int)+1)=(r:Int)+1:=WV _ (by omega);have b8:IntKind.i64.wrap ((c:Int)+1)=(c:Int)+1:=WV _ (by omega);have b9:(r:Int)<40:=by omega
        have a3:(c:Int)<40:=by omega
        have a4:(0:Int)<=(r:Int):=by omega
        have a5:(0:Int)<=(c:Int):=by omega
        have a6:((r:Int)+1).toNat=r+1:=by omega
        have a7:((c:Int)+1).toNat=c+1:=by omega
        have BD:=B.drew;have S0:=SJ.start T b1 b2 N H B;have H0:=lh S0;clear S0;go_region_held3 (fun w'=>w'.cell? ⟨w.heap.size,(r+1)*40+(c+1),Z8⟩=Z9 (.bool ZZ)/\w'.cell? ⟨w.heap.size,r*40+c,Z8⟩=Z9 (.bool (bvc w' w.heap.size (r*40+c)))/\(∀ o,w'.frozen? ⟨w.heap.size,o,Z8⟩=ZW)/\TJ w' w.heap.size F r c/\w.heap.size<w'.heap.size/\ZV w.heap.size w w') (first|exact H0.o|exact SJ.call A (by assumption)|exact SJ.store b1 b2 _ (by assumption)) (first|(go_at_call 100;(with_reducible refine (hO.o r c (by omega) (by omega) _ (by first|exact BD|(have hh:=(by assumption:SJ w w.heap.size F r c _);exact hh.2.2.2.2.2))).mono ?_);rintro e w2 ⟨rfl,A⟩))
        have S2:=SJ.call A H0.o;have a2:=lh (S2.2.2.2.1.set (by omega) (by omega) (O r c));have a0:=lh (S2.2.2.2.2.2.setCell (p:=⟨w.heap.size,r*40+c,Z8⟩) (ZS _) (.bool (O r c)));have a1:=S2.2.2.2.2.1;clear b3 b4 b5 b6 b7 b8 b9 a3 a4 a5 a6 a7 S2;go_wp2_with fail
        go_roundw
        case rel=>exact⟨(c:Int) - 1,c,_,by omega,rfl,by go_num,a2.o,fS _ _ _ _ _ _ _ C.o,gh _ _ _ _ _ _ J.o (by rw[Ds.tab_one _ _ _ _ _ _ (by omega) Y,<-V.o];simp [Z]),by simpa using a1,a0.o⟩
        case measure=>simp [Y4]
      .go_wp2_with (go_at_call 99;(with_reducible refine (hS.o r (by omega) _ B).mono ?_);rintro e w1 ⟨rfl,A⟩;have B:=bt B A;have T:=T.below A H;have H:=ZY H A.size;have K:=ai A K;have E:=ai A E;clear A)
       have fz:=T.2;have a9:n<=c:=by omega
       go_region
       go_wp2_with fail
       go_roundw
       case rel=>exact⟨(c:Int) - 1,c,_,by omega,rfl,by go_num,(T.set r c (by omega) (by omega) _).drew,fS _ _ _ _ _ _ _ C.o,gh _ _ _ _ _ _ J.o (by rw[Ds.tab_one _ _ _ _ _ _ (by omega) Y];simp [Z]),by simpa using H,by (have I:=(B).size;exact aB)⟩
       case measure=>simp [Y4]
     .by_cases Z:c<n
      .have X:=T.1 r (c+1) (by omega) (by omega);have V:=lh (J.o (c+1) (by omega) (by omega));go_wp2_with (go_at_call 99;(with_reducible refine (hS.o r (by omega) _ B).mono ?_);rintro e w1 ⟨rfl,A⟩;have B:=bt B A;have T:=T.below A H;have H:=ZY H A.size;have K:=ai A K;have E:=ai A E;have X:=ai A X;clear A)
       have fz:=T.2;cases N:F (r+1) c
       .rw[N] at E U;go_region
        go_wp2_with fail
        go_roundw
        case rel=>exact⟨(c:Int) - 1,c,_,by omega,rfl,by go_num,(T.set r c (by omega) (by omega) _).drew,fS _ _ _ _ _ _ _ C.o,gh _ _ _ _ _ _ J.o (by rw[Ds.tab_star _ _ _ _ _ _ (by omega) Y,<-U.o,<-V.o];simp [Z]),by simpa using H,by (have I:=(B).size;exact aB)⟩
        case measure=>simp [Y4]
       .rw[N] at E U;go_region
        go_wp2_with fail
        go_roundw
        case rel=>exact⟨(c:Int) - 1,c,_,by omega,rfl,by go_num,(T.set r c (by omega) (by omega) _).drew,fS _ _ _ _ _ _ _ C.o,gh _ _ _ _ _ _ J.o (by rw[Ds.tab_star _ _ _ _ _ _ (by omega) Y,<-U.o];simp),by simpa using H,by (have I:=(B).size;exact aB)⟩
        case measure=>simp [Y4]
      .go_wp2_with (go_at_call 99;(with_reducible refine (hS.o r (by omega) _ B).mono ?_);rintro e w1 ⟨rfl,A⟩;have B:=bt B A;have T:=T.below A H;have H:=ZY H A.size;have K:=ai A K;have E:=ai A E;clear A)
       have fz:=T.2;have a9:n<=c:=by omega
       cases N:F (r+1) c
       all_goals
        rw[N] at E U;go_region
        go_wp2_with fail
        go_roundw
        case rel=>exact⟨(c:Int) - 1,c,_,by omega,rfl,by go_num,(T.set r c (by omega) (by omega) _).drew,fS _ _ _ _ _ _ _ C.o,gh _ _ _ _ _ _ J.o (by rw[Ds.tab_star _ _ _ _ _ _ (by omega) Y,<-U.o];simp [Z]),by simpa using H,by (have I:=(B).size;exact aB)⟩
        case measure=>simp [Y4]
end
section
open Go.RowKit
attribute [local go_sem ↓] an
theorem tbp(p n:Nat)(hp:p<40)(hn:n<40)(m f:Nat)(S:Nat->Zi)(O:Nat->Nat->Zi)(w:Z2)(hS:Hid (∀ i:Nat,i<p->∀ w',ZV w.heap.size w w'->ZJ Z6 97 #[.int .i64 i,.pointer (Z9 ⟨m,0,Z8⟩)] w' fun e Q=>e=.returned (.bool (S i))/\ZV w'.heap.size w' Q))(hO:Hid (∀ i k:Nat,i<p->k<n->∀ w',ZV w.heap.size w w'->ZJ Z6 98 #[.int .i64 i,.int .i64 k,.pointer (Z9 ⟨m,0,Z8⟩),.pointer (Z9 ⟨f,0,Z8⟩)] w' fun e Q=>e=.returned (.bool (O i k))/\ZV w'.heap.size w' Q)) :
 ZJ Z6 96 #[.int .i64 p,.int .i64 n,.func (.func 97) #[] #[.pointer (Z9 ⟨m,0,Z8⟩)],.func (.func 98) #[] #[.pointer (Z9 ⟨m,0,Z8⟩),.pointer (Z9 ⟨f,0,Z8⟩)]] w fun e w'=>e=.returned (.bool (Ds.tab S O p n 0 0))/\ZV w.heap.size w w':=by
 have hz:nS[p*40+n]?=Z9 (.bool ZW):=IJ _ (by omega);go_enter Tryz.func96,Tryz.ntmps96
 go_wp2_with fail
 clear hz;go_loopw [10,11] (fun i _ wr=>∃ (q:Int) (r:Nat) (F:Nat->Nat->Zi),r<=p/\q=(r:Int) - 1/\i=.int .i64 q/\TI wr w.heap.size F/\(∀ R c,r<=R->R<=p->c<=n->F R c=Ds.tab S O p n R c)/\w.heap.size<wr.heap.size/\ZV w.heap.size w wr) (fun i _ _=>(Y4 i+1).toNat)
 case atStart =>
  refine⟨(p:Int) - 1,p,fun r c=>if r=p/\c=n then ZZ else ZW,by omega,rfl,by go_num,by have h:=(TI.new w).set p n hp hn ZZ;simpa [go_sem] using h,?_,by simp,by (repeat (first|exact ZM _ _|assumption|(refine Below.drew ?_)|(refine Xz ?_ (by simp) _)|(refine Yb ?_ (by simp) _)))⟩
  intro R c h1 h2 h3;obtain rfl:R=p:=by omega
  rw[Ds.tab_end _ _ _ _ _ _ (by omega)];by_cases hc:c=n <;> simp [hc]
 case round =>
  obtain⟨q,r,F,hr,hq,rfl,T,hF,H,B⟩:=hrel;have C:=lh hF;clear hF;rcases r with _|r
  .obtain rfl:q=-1:=by omega
   have c0:=T.1 0 0 (by omega) (by omega);have H0:=lh (C.o 0 0 (by omega) (by omega) (by omega));clear hq;go_wp2_with fail
   go_ret
   exact⟨aF H0.o,B⟩
  .obtain rfl:q=r:=by omega
   clear hq;go_wp2_with fail
   go_loopw [11] (fun k wr=>∃ (q:Int) (c:Nat) (F:Nat->Nat->Zi),c<=n+1/\q=(c:Int) - 1/\k=.int .i64 q/\TI wr w.heap.size F/\(∀ R D,r+1<=R->R<=p->D<=n->F R D=Ds.tab S O p n R D)/\(∀ D,c<=D->D<=n->F r D=Ds.tab S O p n r D)/\w.heap.size<wr.heap.size/\ZV w.heap.size w wr) (fun k _=>(Y4 k+1).toNat)
   case atStart=>exact⟨n,n+1,F,by omega,by omega,rfl,T,C.o,by intro D h1 h2;omega,H,B⟩
   case round =>
    clear C T H B;obtain⟨q,c,F,hc,hq,rfl,T,hF,hG,H,B⟩:=hrel;have C:=lh hF;have J:=lh hG;clear hF hG;rcases c with _|c
    .obtain rfl:q=-1:=by omega
     clear hq;go_wp2_with fail
     go_roundw
     case rel =>
      refine⟨(r:Int) - 1,r,F,by omega,rfl,by go_num,T,?_,H,B⟩
      intro R D h1 h2 h3;rcases YI r R with h|h
      .exact C.o R D h h2 h3
      .obtain rfl:R=r:=by omega
       exact J.o D (by omega) h3
     case measure=>simp [Y4]
    .obtain rfl:q=c:=by omega
     clear hq;have a8:c<=n:=by omega
     have E:=T.1 (r+1) c (by omega) (by omega);have U:=lh (C.o (r+1) c (by omega) (by omega) a8);have K:=T.1 r c (by omega) (by omega);have fz:=T.2;cases Y:S r
     .by_cases Z:c<n
      .have X:=T.1 (r+1) (c+1) (by omega) (by omega);have V:=lh (C.o (r+1) (c+1) (by omega) (by omega) (by omega));go_wp2_with (go_at_call 97;(with_reducible refine (hS.o r (by omega) _ B).mono ?_);rintro e w1 ⟨rfl,A⟩;have B:=bt B A;have T:=T.below A H;have H:=ZY H A.size;have K:=ai A K;have E:=ai A E;clear A)
       have fz:=T.2;have X:=T.1 (r+1) (c+1) (by omega) (by omega);cases N:F (r+1) (c+1)
       .rw[N] at X V;go_region
        go_wp2_with fail
        go_roundw
        case rel=>exact⟨(c:Int) - 1,c,_,by omega,rfl,by go_num,(T.set r c (by omega) (by omega) _).drew,fS _ _ _ _ _ _ _ C.o,gh _ _ _ _ _ _ J.o (by rw[Ds.tab_one _ _ _ _ _ _ (by omega) Y,<-V.o];simp),by simpa using H,by (have I:=(B).size;exact aB)⟩
        case measure=>simp [Y4]
       .rw[N] at X V;have b1:r+1<40:=by omega
        have b2:c+1<40:=by omega
        have b3:(r:Int)+1<40:=by omega
        have b4:(c:Int)+1<40:=by omega
        have b5:(0:Int)<=(r:Int)+1:=by omega
        have b6:(0:Int)<=(c:Int)+1:=by omega
        have b7:IntKind.i64.wrap ((r:Int)+1)=(r:Int)+1:=WV _ (by omega);have b8:IntKind.i64.wrap ((c:Int)+1)=(c:Int)+1:=WV _ (by omega);have b9:(r:Int)<40:=by omega
        have a3:(c:Int)<40:=by omega
        have a4:(0:Int)<=(r:Int):=by omega
        have a5:(0:Int)<=(c:Int):=by omega
        have a6:((r:Int)+1).toNat=r+1:=by omega
        have a7:((c:Int)+1).toNat=c+1:=by omega
        have BD:=B.drew;have S0:=SJ.start T b1 b2 N H B;have H0:=lh S0;clear S0;go_region_held3 (fun w'=>w'.cell? ⟨w.heap.size,(r+1)*40+(c+1),Z8⟩=Z9 (.bool ZZ)/\w'.cell? ⟨w.heap.size,r*40+c,Z8⟩=Z9 (.bool (bvc w' w.heap.size (r*40+c)))/\(∀ o,w'.frozen? ⟨w.heap.size,o,Z8⟩=ZW)/\TJ w' w.heap.size F r c/\w.heap.size<w'.heap.size/\ZV w.heap.size w w') (first|exact H0.o|exact SJ.call A (by assumption)|exact SJ.store b1 b2 _ (by assumption)) (first|(go_at_call 98;(with_reducible refine (hO.o r c (by omega) (by omega) _ (by first|exact BD|(have hh:=(by assumption:SJ w w.heap.size F r c _);exact hh.2.2.2.2.2))).mono ?_);rintro e w2 ⟨rfl,A⟩))
        have S2:=SJ.call A H0.o;have a2:=lh (S2.2.2.2.1.set (by omega) (by omega) (O r c));have a0:=lh (S2.2.2.2.2.2.setCell (p:=⟨w.heap.size,r*40+c,Z8⟩) (ZS _) (.bool (O r c)));have a1:=S2.2.2.2.2.1;clear b3 b4 b5 b6 b7 b8 b9 a3 a4 a5 a6 a7 S2;go_wp2_with fail
        go_roundw
        case rel=>exact⟨(c:Int) - 1,c,_,by omega,rfl,by go_num,a2.o,fS _ _ _ _ _ _ _ C.o,gh _ _ _ _ _ _ J.o (by rw[Ds.tab_one _ _ _ _ _ _ (by omega) Y,<-V.o];simp [Z]),by simpa using a1,a0.o⟩
        case measure=>simp [Y4]
      .go_wp2_with (go_at_call 97;(with_reducible refine (hS.o r (by omega) _ B).mono ?_);rintro e w1 ⟨rfl,A⟩;have B:=bt B A;have T:=T.below A H;have H:=ZY H A.size;have K:=ai A K;have E:=ai A E;clear A)
       have fz:=T.2;have a9:n<=c:=by omega
       go_region
       go_wp2_with fail
       go_roundw
       case rel=>exact⟨(c:Int) - 1,c,_,by omega,rfl,by go_num,(T.set r c (by omega) (by omega) _).drew,fS _ _ _ _ _ _ _ C.o,gh _ _ _ _ _ _ J.o (by rw[Ds.tab_one _ _ _ _ _ _ (by omega) Y];simp [Z]),by simpa using H,by (have I:=(B).size;exact aB)⟩
       case measure=>simp [Y4]
     .by_cases Z:c<n
      .have X:=T.1 r (c+1) (by omega) (by omega);have V:=lh (J.o (c+1) (by omega) (by omega));go_wp2_with (go_at_call 97;(with_reducible refine (hS.o r (by omega) _ B).mono ?_);rintro e w1 ⟨rfl,A⟩;have B:=bt B A;have T:=T.below A H;have H:=ZY H A.size;have K:=ai A K;have E:=ai A E;have X:=ai A X;clear A)
       have fz:=T.2;cases N:F (r+1) c
       .rw[N] at E U;go_region
        go_wp2_with fail
        go_roundw
        case rel=>exact⟨(c:Int) - 1,c,_,by omega,rfl,by go_num,(T.set r c (by omega) (by omega) _).drew,fS _ _ _ _ _ _ _ C.o,gh _ _ _ _ _ _ J.o (by rw[Ds.tab_star _ _ _ _ _ _ (by omega) Y,<-U.o,<-V.o];simp [Z]),by simpa using H,by (have I:=(B).size;exact aB)⟩
        case measure=>simp [Y4]
       .rw[N] at E U;go_region
        go_wp2_with fail
        go_roundw
        case rel=>exact⟨(c:Int) - 1,c,_,by omega,rfl,by go_num,(T.set r c (by omega) (by omega) _).drew,fS _ _ _ _ _ _ _ C.o,gh _ _ _ _ _ _ J.o (by rw[Ds.tab_star _ _ _ _ _ _ (by omega) Y,<-U.o];simp),by simpa using H,by (have I:=(B).size;exact aB)⟩
        case measure=>simp [Y4]
      .go_wp2_with (go_at_call 97;(with_reducible refine (hS.o r (by omega) _ B).mono ?_);rintro e w1 ⟨rfl,A⟩;have B:=bt B A;have T:=T.below A H;have H:=ZY H A.size;have K:=ai A K;have E:=ai A E;clear A)
       have fz:=T.2;have a9:n<=c:=by omega
       cases N:F (r+1) c
       all_goals
        rw[N] at E U;go_region
        go_wp2_with fail
        go_roundw
        case rel=>exact⟨(c:Int) - 1,c,_,by omega,rfl,by go_num,(T.set r c (by omega) (by omega) _).drew,fS _ _ _ _ _ _ _ C.o,gh _ _ _ _ _ _ J.o (by rw[Ds.tab_star _ _ _ _ _ _ (by omega) Y,<-U.o];simp [Z]),by simpa using H,by (have I:=(B).size;exact aB)⟩
        case measure=>simp [Y4]
end
end Go.Proofs.YtnkjliahpeebjaaGreatDoor
section
namespace Go.Proofs.YtnkjliahpeebjaaGreatDoor
open Go.RowKit
variable(l p:Z5 ZP)(f j:Z5 Z7)(i k t m:Nat)(q s:Z7)(u n c v:Nat)(x y:Z7)(z d:Nat)(w:Z2)
namespace Ds
theorem AR:(pieces l).length<=l.length+1/\∀ q∈pieces l,q.length<=l.length:=by
 induction l with
 | nil=>simp [pieces]
 | cons c r I =>
   simp only[pieces]
   split
   .refine⟨by simp;omega,fun q H=>?_⟩
    rcases Zw.1 H with rfl|h
    .simp
    .have:=I.2 q h;simp;omega
   .cases e:pieces r with
    | nil=>exact absurd e (pieces_ne r)
    | cons p f =>
      rw[e] at I;refine⟨by have:=I.1;simp at this |-;omega,fun q H=>?_⟩
      rcases Zw.1 H with rfl|h
      .have:=I.2 p (by simp);simp;omega
      .have:=I.2 q (by simp [h]);simp;omega
theorem beq_n(c:ZP):((c.toNat:Int)==42)=decide (c=42):=by
 rw[Zf];simp only[beq_iff_eq,ZU]
 exact⟨fun h=>XT.1 (by rw[show (42:ZP).toNat=42 from rfl];omega),fun h=>by rw[h];rfl⟩
theorem beq_c(c d:ZP):((c.toNat:Int)==d.toNat)=decide (c=d):=by
 rw[Zf];simp only[beq_iff_eq,ZU]
 exact⟨fun h=>XT.1 (by omega),fun h=>by rw[h]⟩
theorem g_getD(k:Nat)(h:k<s.size):(bl s).getD k 0=s[k]:=by
 rw[Zx,ZN (by rw[bl_length];exact h),bl_get s k h];rfl
end Ds
theorem G0(h:i<q.size)(H:w.cell? ⟨m,0,Z8⟩=Z9 (.string q)) :
 ZJ Z6 99 #[.int .i64 i,.pointer (Z9 ⟨m,0,Z8⟩)] w fun e w'=>e=.returned (.bool (decide ((Z4 q).getD i 0=42)))/\ZV w.heap.size w w':=by
 have D:=lh (show ((q[i].toNat:Int)==42)=decide ((Z4 q).getD i 0=42) by rw[Ds.beq_n,Ds.g_getD q i h]);go_enter Tryz.func99,Tryz.ntmps99
 go_wp2_with fail
 go_ret
 exact⟨aF D.o,ZM _ _⟩
theorem G1(f:Nat)(q s:Z7)(w:Z2)(h:i<q.size)(H:k<s.size)(A:w.cell? ⟨m,0,Z8⟩=Z9 (.string q))(B:w.cell? ⟨f,0,Z8⟩=Z9 (.string s)) :
 ZJ Z6 100 #[.int .i64 i,.int .i64 k,.pointer (Z9 ⟨m,0,Z8⟩),.pointer (Z9 ⟨f,0,Z8⟩)] w fun e w'=>e=.returned (.bool (decide ((Z4 q).getD i 0=(Z4 s).getD k 0)))/\ZV w.heap.size w w':=by
 have D:=lh (show ((q[i].toNat:Int)==s[k].toNat)=decide ((Z4 q).getD i 0=(Z4 s).getD k 0) by rw[Ds.beq_c,Ds.g_getD q i h,Ds.g_getD s k H]);have I:(0:Int)<=i:=by omega
 have C:(i:Int)<q.size:=by omega
 have k1:(0:Int)<=k:=by omega
 have K:(k:Int)<s.size:=by omega
 go_enter Tryz.func100,Tryz.ntmps100
 go_wp2_with fail
 go_region
 go_wp2_with fail
 go_ret
 exact⟨aF D.o,by (repeat (first|exact ZM _ _|assumption|(refine Below.drew ?_)|(refine Xz ?_ (by simp) _)|(refine Yb ?_ (by simp) _)))⟩
theorem zK :
 Ds.tab (fun i=>decide ((Z4 q).getD i 0=42)) (fun i k=>decide ((Z4 q).getD i 0=(Z4 s).getD k 0)) q.size s.size 0 0=Ds.mtQ (Z4 q) (Z4 s):=by
 have h:=Ds.tab_mt (fun c:ZP=>decide (c=42)) (fun c d=>decide (c=d)) (Z4 q) (Z4 s) (fun i=>decide ((Z4 q).getD i 0=42)) (fun i k=>decide ((Z4 q).getD i 0=(Z4 s).getD k 0))
  (fun i h=>by simp [h]) (fun i k h H=>by simp [h,H]) _ 0 0 (ZS _) (Y7 _)
 rw[ZO,ZO] at h;exact h
theorem zF(m f:Nat)(w:Z2)(B:x.size<40)(C:y.size<40)(cx:w.cell? ⟨m,0,Z8⟩=Z9 (.string x))(cy:w.cell? ⟨f,0,Z8⟩=Z9 (.string y)) :
 ZJ Z6 96 #[.int .i64 x.size,.int .i64 y.size,.func (.func 99) #[] #[.pointer (Z9 ⟨m,0,Z8⟩)],.func (.func 100) #[] #[.pointer (Z9 ⟨m,0,Z8⟩),.pointer (Z9 ⟨f,0,Z8⟩)]] w fun e w'=>e=.returned (.bool (Ds.mtQ (Z4 x) (Z4 y)))/\ZV w.heap.size w w':=by
 have h:=tbq x.size y.size B C m f _ _ w (lh fun i A w' H=>G0 i m x w' A (ai H cx)) (lh fun i k A D w' H=>G1 i k m f x y w' A D (ai H cx) (ai H cy));rwa [zK] at h
theorem K2(A:i<n)(_hn:n<=1000)(B:w.cell? ⟨t,0,Z8⟩=Z9 (.slice (Z9 ⟨u,0,Z8⟩) n c))(C:w.cell? ⟨u,i,Z8⟩=Z9 (.string x)) :
 ZJ Z6 97 #[.int .i64 i,.pointer (Z9 ⟨t,0,Z8⟩)] w fun e w'=>e=.returned (.bool (decide (Z4 x=[42,42])))/\ZV w.heap.size w w':=by
 by_cases h:x=⟨#[42,42]⟩
 .have D:=lh (decide_eq_true ((Ds.bl_eq x [42,42]).1 h));subst h;go_enter Tryz.func97,Tryz.ntmps97
  go_wp2_with fail
  go_ret
  exact⟨aF D.o.symm,ZM _ _⟩
 .have D:=lh (decide_eq_false (fun e=>h ((Ds.bl_eq x [42,42]).2 e)));have H:=Ds.bl_beq x [42,42] h;clear h;go_enter Tryz.func97,Tryz.ntmps97
  go_wp2_with fail
  go_ret
  exact⟨aF D.o.symm,ZM _ _⟩
theorem K6(m d:Nat)(x y:Z7)(w:Z2)(O:i<n)(Q:k<m)(_hn:n<=1000)(_hm:m<=1000)(h:x.size<40)(H:y.size<40)(C:w.cell? ⟨t,0,Z8⟩=Z9 (.slice (Z9 ⟨u,0,Z8⟩) n c))(E:w.cell? ⟨u,i,Z8⟩=Z9 (.string x))(D:w.cell? ⟨v,0,Z8⟩=Z9 (.slice (Z9 ⟨z,0,Z8⟩) m d))(J:w.cell? ⟨z,k,Z8⟩=Z9 (.string y)) :
 ZJ Z6 98 #[.int .i64 i,.int .i64 k,.pointer (Z9 ⟨t,0,Z8⟩),.pointer (Z9 ⟨v,0,Z8⟩)] w fun e w'=>e=.returned (.bool (Ds.mtQ (Z4 x) (Z4 y)))/\ZV w.heap.size w w':=by
 have I:(0:Int)<=i:=by omega
 have B:(i:Int)<n:=by omega
 have k1:(0:Int)<=k:=by omega
 have K:(k:Int)<m:=by omega
 have R:t<w.heap.size:=YR C;have S:u<w.heap.size:=YR E;have T:v<w.heap.size:=YR D;have U:z<w.heap.size:=YR J;go_enter Tryz.func98,Tryz.ntmps98
 go_wp2_with fail
 go_region
 .have cx:(((w.alloc (.cells #[.string x] 9)).alloc (.cells #[.string y] 9)).drew).cell? ⟨w.heap.size,0,Z8⟩=Z9 (.string x):=by simp [go_sem]
  have cy:(((w.alloc (.cells #[.string x] 9)).alloc (.cells #[.string y] 9)).drew).cell? ⟨w.heap.size+1,0,Z8⟩=Z9 (.string y):=by simp [go_sem]
  clear I B k1 K;go_wp2_with (go_at_call 96;(with_reducible refine (zF x y _ _ _ h H cx cy).mono ?_);rintro e N ⟨rfl,A⟩)
  go_ret
  exact⟨rfl,(((ZM _ _).alloc (ZS _) _).alloc (by simp) _).drew.trans (A.mono (by simp;omega))⟩
 .have cx:(((w.alloc (.cells #[.string y] 9)).alloc (.cells #[.string x] 9)).drew).cell? ⟨w.heap.size+1,0,Z8⟩=Z9 (.string x):=by simp [go_sem]
  have cy:(((w.alloc (.cells #[.string y] 9)).alloc (.cells #[.string x] 9)).drew).cell? ⟨w.heap.size,0,Z8⟩=Z9 (.string y):=by simp [go_sem]
  clear I B k1 K;go_wp2_with (go_at_call 96;(with_reducible refine (zF x y _ _ _ h H cx cy).mono ?_);rintro e N ⟨rfl,A⟩)
  go_ret
  exact⟨rfl,(((ZM _ _).alloc (ZS _) _).alloc (by simp) _).drew.trans (A.mono (by simp;omega))⟩
theorem zJ :
 Ds.tab (fun i=>decide (Z4 (f.getD i ⟨#[]⟩)=[42,42])) (fun i k=>Ds.mtQ (Z4 (f.getD i ⟨#[]⟩)) (Z4 (j.getD k ⟨#[]⟩))) f.length j.length 0 0=Ds.mtP (f.map Z4) (j.map Z4):=by
 have h:=Ds.tab_mt (fun q:Z5 ZP=>decide (q=[42,42])) Ds.mtQ (f.map Z4) (j.map Z4) (fun i=>decide (Z4 (f.getD i ⟨#[]⟩)=[42,42])) (fun i k=>Ds.mtQ (Z4 (f.getD i ⟨#[]⟩)) (Z4 (j.getD k ⟨#[]⟩)))
  (fun i h=>by simp at h;simp [h]) (fun i k h H=>by simp at h H;simp [h,H]) _ 0 0 (ZS _) (Y7 _)
 rw[Zq,Zq] at h;exact h
theorem zX(K:f.length<40)(J:j.length<40)(D:∀ k (h:k<f.length),f[k].size<40)(C:∀ k (h:k<j.length),j[k].size<40)(E:w.cell? ⟨t,0,Z8⟩=Z9 (.slice (Z9 ⟨u,0,Z8⟩) f.length c))(I:w.cell? ⟨v,0,Z8⟩=Z9 (.slice (Z9 ⟨z,0,Z8⟩) j.length d))(S:Strs w u f)(T:Strs w z j) :
 ZJ Z6 96 #[.int .i64 f.length,.int .i64 j.length,.func (.func 97) #[] #[.pointer (Z9 ⟨t,0,Z8⟩)],.func (.func 98) #[] #[.pointer (Z9 ⟨t,0,Z8⟩),.pointer (Z9 ⟨v,0,Z8⟩)]] w fun e w'=>e=.returned (.bool (Ds.mtP (f.map Z4) (j.map Z4)))/\ZV w.heap.size w w':=by
 have g:∀ (l:Z5 Z7) k (h:k<l.length),l.getD k ⟨#[]⟩=l[k]:=fun l k h=>by simp [h]
 have h:=tbp f.length j.length K J t v (fun i=>decide (Z4 (f.getD i ⟨#[]⟩)=[42,42])) (fun i k=>Ds.mtQ (Z4 (f.getD i ⟨#[]⟩)) (Z4 (j.getD k ⟨#[]⟩))) w
  (lh fun i H w' A=>by
    have:=K2 i t u f.length c f[i] w' H (by omega) (ai A E) (ai A (S i H));simp only[g f i H];exact this)
  (lh fun i k H B w' A=>by
    have:=K6 i k t u f.length c v z j.length d f[i] j[k] w' H B (by omega) (by omega) (D i H) (C k B) (ai A E) (ai A (S i H)) (ai A I) (ai A (T k B));simp only[g f i H,g j k B];exact this)
 rwa [zJ] at h
namespace Ds
theorem match_no(s:Z5 ZP)(h:pat p=ZW\/name s=ZW):match_ p s=ZW:=by
 unfold match_;rcases h with h|h <;> simp [h]
theorem match_yes(s:Z5 ZP)(h:pat p=ZZ)(H:name s=ZZ):match_ p s=mtP (pieces p) (pieces s):=by
 unfold match_;rw[h,H];rfl
theorem piece_bd{f:Z5 Z7}{s:Z7}(h:f.map bl=pieces (bl s))(e:s.size<=31)(k:Nat)(H:k<f.length):f[k].size<40:=by
 have:=(AR (bl s)).2 (bl f[k]) (by rw[<-h];exact List.mem_map_of_mem (Yu H));rw[bl_length,bl_length] at this;omega
end Ds
theorem uZ(h:Ds.pat (Z4 s)=ZZ):s.size<=31:=by
 have:=((Ds.pat_parts _).1 h).1.2;rwa [ZO] at this
theorem z8(E:f.length<40)(D:j.length<40)(A:Hid (∀ k (h:k<f.length),f[k].size<40))(H:Hid (∀ k (h:k<j.length),j[k].size<40)) :
 ZJ Z6 96 #[.int .i64 f.length,.int .i64 j.length,.func (.func 97) #[] #[.pointer (Z9 ⟨w.heap.size+1+1,0,Z8⟩)],.func (.func 98) #[] #[.pointer (Z9 ⟨w.heap.size+1+1,0,Z8⟩),.pointer (Z9 ⟨w.heap.size+1+1+1,0,Z8⟩)]]
  ((((w.alloc (.cells (f.map Zh).toArray 9)).alloc (.cells (j.map Zh).toArray 9)).alloc (.cells #[.slice (Z9 ⟨w.heap.size,0,Z8⟩) f.length f.length] 165)).alloc (.cells #[.slice (Z9 ⟨w.heap.size+1,0,Z8⟩) j.length j.length] 165))
  fun e w'=>e=.returned (.bool (Ds.mtP (f.map Z4) (j.map Z4)))/\ZV w.heap.size w w':=by
 have S:=(Strs.new w f 9).below ((((ZM _ _).alloc (ZS _) (.cells (j.map Zh).toArray 9)).alloc (by simp) (.cells #[.slice (Z9 ⟨w.heap.size,0,Z8⟩) f.length f.length] 165)).alloc (by simp) (.cells #[.slice (Z9 ⟨w.heap.size+1,0,Z8⟩) j.length j.length] 165));have T:=(Strs.new (w.alloc (.cells (f.map Zh).toArray 9)) j 9).below (((ZM _ _).alloc (ZS _) (.cells #[.slice (Z9 ⟨w.heap.size,0,Z8⟩) f.length f.length] 165)).alloc (by simp) (.cells #[.slice (Z9 ⟨w.heap.size+1,0,Z8⟩) j.length j.length] 165));rw[show (w.alloc (.cells (f.map Zh).toArray 9)).heap.size=w.heap.size+1 by simp] at T;refine (zX f j (w.heap.size+1+1) w.heap.size f.length (w.heap.size+1+1+1) (w.heap.size+1) j.length _ E D A.o H.o (by simp [go_sem]) (by simp [go_sem]) S T).mono ?_
 rintro e w' ⟨C,B⟩;refine⟨C,?_⟩
 exact ((((((ZM w.heap.size w).alloc (ZS _) _).alloc (by simp) _).alloc (by simp;omega) _).alloc (by simp;omega) _).trans (B.mono (by simp;omega)))
theorem tI(p s:Z7)(w:Z2)(H:MaxL w) :
 ZJ Z6 37 #[.string p,.string s] w fun e w'=>e=.returned (.bool (Ds.match_ (Z4 p) (Z4 s)))/\ZV w.heap.size w w':=by
 have B:=ZM w.heap.size w;cases I:Ds.pat (Z4 p)
 .have D:=lh (Ds.match_no (Z4 p) (Z4 s) (.inl I));go_enter Tryz.func37,Tryz.ntmps37
  go_wp2_with (go_at_call 89;(with_reducible refine (Gu _ _ H).mono ?_);rintro e E ⟨rfl,h⟩;have B:=bt B h;have H:=H.below h;clear h)
  go_ret
  exact⟨aF D.o.symm,B⟩
 cases J:Ds.name (Z4 s)
 .have D:=lh (Ds.match_no (Z4 p) (Z4 s) (.inr J));go_enter Tryz.func37,Tryz.ntmps37
  go_wp2_with (first|(go_at_call 89;(with_reducible refine (Gu _ _ H).mono ?_);rintro e E ⟨rfl,h⟩;have B:=bt B h;have H:=H.below h;clear h)|(go_at_call 32;(with_reducible refine (ez _ _ H).mono ?_);rintro e E ⟨rfl,h⟩;have B:=bt B h;have H:=H.below h;clear h))
  go_ret
  exact⟨aF D.o.symm,B⟩
 have D:=lh (Ds.match_yes (Z4 p) (Z4 s) I J);have R:=uZ p I;have Y:=uZ s (Ds.name_pat _ J);have S:p.size<4294967281:=by omega
 have Z:s.size<4294967281:=by omega
 go_enter Tryz.func37,Tryz.ntmps37
 go_wp2_with (first|(go_at_call 89;(with_reducible refine (Gu _ _ H).mono ?_);rintro e E ⟨rfl,h⟩;have B:=bt B h;have H:=H.below h;clear h)|(go_at_call 32;(with_reducible refine (ez _ _ H).mono ?_);rintro e E ⟨rfl,h⟩;have B:=bt B h;have H:=H.below h;clear h)|(go_at_call 95;(with_reducible refine (ml p _ S H).mono ?_);rintro e w' ⟨f,Q,C,rfl,rfl⟩;have K:=lh C;clear C;have H:=H.below ((ZM _ _).alloc (ZS _) (Obj.cells (f.map Zh).toArray 9 (0,0))))|(go_at_call 95;(with_reducible refine (ml s _ Z H).mono ?_);rintro e w' ⟨j,O,A,rfl,rfl⟩;have N:=lh A;clear A))
 have T:f.length<40:=by omega
 have U:j.length<40:=by omega
 have V:=lh (Ds.piece_bd K.o R);have X:=lh (Ds.piece_bd N.o Y);go_wp2_with (go_at_call 96;(with_reducible refine (z8 f j E T U V X).mono ?_);rintro e w2 ⟨rfl,h⟩)
 go_ret
 exact⟨aF (by rw[D.o,K.o,N.o]),bt B h⟩
end Go.Proofs.YtnkjliahpeebjaaGreatDoor
end
