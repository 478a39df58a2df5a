/- Catalogs. -/
import Derived.Test.YtnkjliahpeebjaaGreatDoorCalE
import Derived.Test.YtnkjliahpeebjaaGreatDoorDsA
import Derived.BigQuiet
set_option maxRecDepth 20000
set_option maxHeartbeats 2000000
open Option renaming some->Z9,none->Z7
open Bool renaming true->ZX,false->ZW,and_eq_true->ZQ,or_eq_true->Xq
open _root_ renaming decide_eq_true_eq->ZU,UInt8->ZM,Bool->Zj
open List renaming mem_cons->YX,all_eq_true->XN
namespace Go.Proofs.YtnkjliahpeebjaaGreatDoor
variable{F:Nat->Nat->Zj}{P:Program}{w W w' d:World}{b r c:Nat}
section
open Go.RowKit
def nS:Array Value:=Array.replicate 1600 (.bool ZW)
theorem IJ(i:Nat)(h:i<1600):nS[i]?=Z9 (.bool ZW):=by simp [nS,h]
theorem IK:(Tryz.prog.info? 237).bind (·.zero)=Z9 (.agg nS):=by kernel_rfl
attribute [irreducible] nS
theorem Do{t:TypeId}{i:TypeInfo}(h:P.info? t=Z9 i):(typeInfo t).run P w=.ok i w:=by
 simp [typeInfo,h]
theorem II(t:TypeId)(v:Value)(w:World)(h:(P.info? t).bind (·.zero)=Z9 v):(zeroValue t).run P w=.ok v w:=by
 cases e:P.info? t with
 | none=>rw[e] at h;cases h
 | some i =>
   rw[e] at h;have H:i.zero=Z9 v:=h;unfold zeroValue;simp only[Sem.run_bind,Do e,Result.andThen_ok,H,Sem.run_pure]
theorem an(e:Operand->Value)(w:World)(dst t pos af gd) :
 (execOp e ⟨dst,.alloc 237,t,pos,af,gd⟩).run Tryz.prog w=.ok (.value (.pointer (Z9 ⟨w.heap.size,0,Z7⟩))) (w.alloc (.cells nS 237)):=by
 have h:=II 237 (.agg nS) w IK;unfold execOp;simp only[Instr.alloc,Sem.run_bind,h,Result.andThen_ok]
 simp [go_sem,newVar,newRow]
def TI(w:World)(b:Nat)(F:Nat->Nat->Zj):Prop:=(∀ r c,r<40->c<40->w.cell? ⟨b,r*40+c,Z7⟩=Z9 (.bool (F r c)))/\(∀ o,w.frozen? ⟨b,o,Z7⟩=ZW)
theorem TI.new(w:World):TI (w.alloc (.cells nS 237)) w.heap.size (fun _ _=>ZW) :=
 ⟨fun r c H h=>by rw[cell_of_row _ w.heap.size _ _ 237 (0,0) (heap_alloc_new w _)];exact IJ _ (by omega),fun o=>by simp⟩
theorem TI.below(h:TI w b F)(e:Below w.heap.size w w')(H:b<w.heap.size):TI w' b F :=
 ⟨fun r c g f=>ai e (h.1 r c g f),fun o=>by rw[(bcell e).2 b o H];exact h.2 o⟩
theorem TI.set(h:TI w b F)(R C:Nat)(f:R<40)(H:C<40)(v:Zj):TI (w.setCell ⟨b,R*40+C,Z7⟩ (.bool v)) b (fun r c=>if r=R/\c=C then v else F r c):=by
 refine⟨fun r c l j=>?_,fun o=>by have:=h.2 o;simpa using this⟩
 have i:=h.1 r c l j;have g:=h.1 R C f H;by_cases e:r=R/\c=C
 .obtain⟨rfl,rfl⟩:=e;simp [go_sem,g]
 .have k:R*40+C≠r*40+c:=by omega
  show _=Z9 (Value.bool (if r=R/\c=C then v else F r c))
  rw[if_neg e,<-i];simp [go_sem]
theorem TI.drew(h:TI w b F):TI w.drew b F:=h
theorem TI.start(w:World)(p n:Nat)(e:p<40)(H:n<40):TI (w.alloc (.cells (nS.setIfInBounds (p*40+n) (.bool ZX)) 237)) w.heap.size (fun r c=>if r=p/\c=n then ZX else ZW):=by
 have h:=(TI.new w).set p n e H ZX;simpa [go_sem] using h
def bvc(w:World)(b o:Nat):Zj:=match w.cell? ⟨b,o,Z7⟩ with|some (.bool x)=>x|_=>ZW
theorem kw{o:Nat}{x:Zj}(h:w.cell? ⟨b,o,Z7⟩=Z9 (.bool x)):w.cell? ⟨b,o,Z7⟩=Z9 (.bool (bvc w b o)):=by
 rw[h];unfold bvc;rw[h]
def TJ(w:World)(b:Nat)(F:Nat->Nat->Zj)(r c:Nat):Prop:=∃ x,TI w b (fun R C=>if R=r/\C=c then x else F R C)
theorem TJ.of(h:TI w b F)(r c:Nat):TJ w b F r c:=⟨F r c,⟨fun R C H f=>by
 rw[h.1 R C H f];show _=Z9 (Value.bool (if R=r/\C=c then F r c else F R C))
 by_cases e:R=r/\C=c
 .rw[if_pos e,e.1,e.2]
 .rw[if_neg e],h.2⟩⟩
theorem TJ.set(h:TJ w b F r c)(g:r<40)(f:c<40)(v:Zj):TI (w.setCell ⟨b,r*40+c,Z7⟩ (.bool v)) b (fun R C=>if R=r/\C=c then v else F R C):=by
 obtain⟨x,h⟩:=h;have H:=h.set r c g f v
 have e:(fun R C=>if R=r/\C=c then v else (if R=r/\C=c then x else F R C))=fun R C=>if R=r/\C=c then v else F R C:=by
  funext R C;split <;> rfl
 rw[e] at H;exact H
theorem TJ.set'(h:TJ w b F r c)(e:r<40)(H:c<40)(v:Zj):TJ (w.setCell ⟨b,r*40+c,Z7⟩ (.bool v)) b F r c:=⟨v,h.set e H v⟩
def SJ(W:World)(b:Nat)(F:Nat->Nat->Zj)(r c:Nat)(w:World):Prop:=w.cell? ⟨b,(r+1)*40+(c+1),Z7⟩=Z9 (.bool ZX)/\w.cell? ⟨b,r*40+c,Z7⟩=Z9 (.bool (bvc w b (r*40+c)))/\(∀ o,w.frozen? ⟨b,o,Z7⟩=ZW)/\TJ w b F r c/\b<w.heap.size/\Below W.heap.size W w
theorem SJ.start(h:TI w b F)(f:r+1<40)(e:c+1<40)(v:F (r+1) (c+1)=ZX)(H:b<w.heap.size)(B:Below W.heap.size W w):SJ W b F r c w.drew :=
 ⟨by have:=h.1 (r+1) (c+1) f e;rw[v] at this;exact this,kw (h.1 r c (by omega) (by omega)),h.2,TJ.of h r c,H,B.drew⟩
theorem SJ.call(H:Below w.heap.size w d)(h:SJ W b F r c w):SJ W b F r c d:=by
 obtain⟨g,i,k,⟨x,f⟩,e,j⟩:=h;exact⟨ai H g,kw (ai H i),(f.below H e).2,⟨x,f.below H e⟩,Nat.lt_of_lt_of_le e H.size,bt j H⟩
theorem SJ.store(m:r+1<40)(k:c+1<40)(v:Zj)(h:SJ W W.heap.size F r c w):SJ W W.heap.size F r c (w.setCell ⟨W.heap.size,r*40+c,Z7⟩ (.bool v)):=by
 obtain⟨f,o,p,e,i,j⟩:=h;have H:=e.set (by omega) (by omega) v;have n:=H.1 (r+1) (c+1) m k;have g:=H.1 r c (by omega) (by omega);refine⟨?_,kw g,H.2,e.set' (by omega) (by omega) v,by simpa using i,j.setCell (by simp) _⟩
 have l:r*40+c≠(r+1)*40+(c+1):=by omega
 rw[<-f];simp [go_sem]
end
end Go.Proofs.YtnkjliahpeebjaaGreatDoor
section
namespace Go.Proofs.YtnkjliahpeebjaaGreatDoor.Ds
open Lib (compareBytes)
variable(c x y:ZM)(s q:List ZM)(F G:ZM->Zj)(a b:List ZM)
theorem ln:compareBytes (x::a) (x::b)=compareBytes a b:=by
 rw[compareBytes];simp [UInt8.lt_irrefl]
theorem kr:x<y\/x=y\/y<x:=by
 rcases Nat.lt_trichotomy x.toNat y.toNat with h|h|h
 .exact .inl (UInt8.lt_iff_toNat_lt.2 h)
 .exact .inr (.inl (UInt8.toNat_inj.1 h))
 .exact .inr (.inr (UInt8.lt_iff_toNat_lt.2 h))
theorem jK(h:x<y):compareBytes (x::a) (y::b)=-1:=by rw[compareBytes];simp [h]
theorem jJ(h:y<x):compareBytes (x::a) (y::b)=1:=by
 have:¬ x<y:=fun H=>absurd (UInt8.lt_trans h H) (UInt8.lt_irrefl y)
 rw[compareBytes];simp [h,this]
/-! pieces -/
theorem ea:pieces (a++46::b)=pieces a++pieces b:=by
 induction a with
 | nil=>simp [pieces]
 | cons c r i =>
   simp only[List.cons_append,pieces,i]
   split
   .rfl
   .cases e:pieces r with
    | nil=>exact absurd e (bd r)
    | cons p f=>simp
theorem lZ(h:46 ∉ q):pieces q=[q]:=by
 induction q with
 | nil=>rfl
 | cons c r i =>
   simp only[YX,not_or] at h
   rw[pieces,if_neg (fun e=>h.1 e.symm),i h.2]
/-! bytes of names and patterns -/
theorem qM(h:pl c=ZX):c.toNat<=90/\c≠46/\c≠42:=by
 simp only[pl,up,dg,Xq,ZQ,ZU] at h
 exact⟨by omega,fun e=>by subst e;simp at h,fun e=>by subst e;simp at h⟩
theorem IF(h:up c=ZX):pl c=ZX:=by simp [pl,h]
theorem FZ(h:ups c=ZX):pls c=ZX:=by
 simp only[ups,Xq] at h
 rcases h with h|h <;> simp [pls,pl,h]
theorem tV(H:∀ c,F c=ZX->G c=ZX)(q:List ZM)(h:qual F G q=ZX):∀ c∈q,G c=ZX:=by
 cases q with
 | nil=>simp
 | cons x r =>
   simp only[qual,ZQ,ZU,XN] at h
   intro c e;rcases YX.1 e with rfl|e
   .exact H _ h.1.2
   .exact h.2 c e
theorem oK(h:nameQ q=ZX):∀ c∈q,pl c=ZX:=tV up pl IF q h
theorem BM(h:patQ q=ZX):∀ c∈q,pls c=ZX:=by
 unfold patQ at h;simp only[Xq,ZQ,ZU] at h
 rcases h with rfl|h
 .intro c H;simp at H;subst H;rfl
 .exact tV ups pls FZ q h.1
theorem zM(h:nameQ q=ZX):patQ q=ZX:=by
 have p:=oK q h
 have i:ss q=ZW:=by
  rw[Bool.eq_false_iff];intro e;obtain⟨j,k,H,_⟩:=(nj q).1 e;have f:j<q.length:=by omega
  rw[List.getD_eq_getElem?_getD,List.getElem?_eq_getElem f,Option.getD_some] at H;exact (qM _ (p _ (List.getElem_mem f))).2.2 (UInt8.toNat_inj.1 H)
 unfold patQ;rw[i];unfold nameQ at h
 cases q with
 | nil=>simp [qual] at h
 | cons x r =>
   simp only[qual,ZQ,ZU,XN] at h
   simp only[qual,Bool.not_false,Bool.and_true,Xq,ZQ,ZU,XN]
   exact .inr ⟨⟨h.1.1,by simp [ups,h.1.2]⟩,fun c g=>by simp [pls,h.2 c g]⟩
theorem name_parts:name s=ZX↔(1<=s.length/\s.length<=31)/\∀ q∈pieces s,nameQ q=ZX:=by
 simp [name,and_assoc]
theorem pat_parts:pat s=ZX↔(1<=s.length/\s.length<=31)/\∀ q∈pieces s,patQ q=ZX:=by
 simp [pat,and_assoc]
theorem qe(h:name s=ZX):pat s=ZX:=by
 rw[name_parts] at h;rw[pat_parts];exact⟨h.1,fun q H=>zM q (h.2 q H)⟩
end Go.Proofs.YtnkjliahpeebjaaGreatDoor.Ds
end
section
namespace Go.Proofs.YtnkjliahpeebjaaGreatDoor.Ds
open Lib (compareBytes)
def k1(c:ZM):ZM:=if c=42 then 254 else c
theorem group_parts(g:List ZM):group g=ZX↔name g=ZX/\g.length<=22/\∀ q∈pieces g,num q=0:=by
 simp [group,and_assoc]
end Go.Proofs.YtnkjliahpeebjaaGreatDoor.Ds
end
namespace Go.Proofs.YtnkjliahpeebjaaGreatDoor
section
open Go.RowKit
attribute [local go_sem ↓] an
end
section
open Go.RowKit
attribute [local go_sem ↓] an
end
end Go.Proofs.YtnkjliahpeebjaaGreatDoor
section
namespace Go.Proofs.YtnkjliahpeebjaaGreatDoor
open Go.RowKit
namespace Ds
end Ds
namespace Ds
end Ds
end Go.Proofs.YtnkjliahpeebjaaGreatDoor
end
