/- Catalogs. -/
import Derived.Test.YtefcmdmfgdcpmaaGreatDoorCalE
import Derived.Test.YtefcmdmfgdcpmaaGreatDoorDsA
set_option maxRecDepth 20000
set_option maxHeartbeats 2000000
namespace Go.Proofs.YtefcmdmfgdcpmaaGreatDoor
section
open Go.RowKit
def znL:Array Value:=Array.replicate 1600 (.bool false)
theorem zhg(i:Nat)(h:i<1600):znL[i]?=some (.bool false):=by simp [znL,h]
theorem zsY:(Tryz.prog.info? 156).bind (·.zero)=some (.agg znL):=by kernel_rfl
attribute [irreducible] znL
theorem zpi{P:Program}{w:World}{t:TypeId}{i:TypeInfo}(h:P.info? t=some i):(typeInfo t).run P w=.ok i w:=by
 simp [typeInfo,h]
theorem zpj{P:Program}(t:TypeId)(v:Value)(w:World)(h:(P.info? t).bind (·.zero)=some v):(zeroValue t).run P w=.ok v w:=by
 cases e:P.info? t with
 | none=>rw[e] at h;cases h
 | some i =>
   rw[e] at h;have h':i.zero=some v:=h;unfold zeroValue;simp only[Sem.run_bind,zpi e,Result.andThen_ok,h',Sem.run_pure]
theorem zdx(ev:Operand->Value)(w:World)(dst t pos af gd) :
  (execOp ev ⟨dst,.alloc 156,t,pos,af,gd⟩).run Tryz.prog w=.ok (.value (.pointer (some ⟨w.heap.size,0,none⟩))) (w.alloc (.cells znL 156)):=by
 have hz:=zpj 156 (.agg znL) w zsY;unfold execOp;simp only[Instr.alloc,Sem.run_bind,hz,Result.andThen_ok]
 simp [go_sem,newVar,newRow]
def TI(w:World)(b:Nat)(F:Nat->Nat->Bool):Prop:=(∀ r c,r<40->c<40->w.cell? ⟨b,r*40+c,none⟩=some (.bool (F r c)))∧(∀ o,w.frozen? ⟨b,o,none⟩=false)
theorem TI.new(w:World):TI (w.alloc (.cells znL 156)) w.heap.size (fun _ _=>false) :=
 ⟨fun r c hr hc=>by rw[cell_of_row _ w.heap.size _ _ 156 (0,0) (heap_alloc_new w _)];exact zhg _ (by omega),fun o=>by simp⟩
theorem TI.below{w w':World}{b:Nat}{F:Nat->Nat->Bool}(h:TI w b F)(hb:Below w.heap.size w w')(hlt:b<w.heap.size):TI w' b F :=
 ⟨fun r c hr hc=>zac hb (h.1 r c hr hc),fun o=>by rw[(bcell hb).2 b o hlt];exact h.2 o⟩
theorem TI.set{w:World}{b:Nat}{F:Nat->Nat->Bool}(h:TI w b F)(r0 c0:Nat)(hr0:r0<40)(hc0:c0<40)(v:Bool):TI (w.setCell ⟨b,r0*40+c0,none⟩ (.bool v)) b (fun r c=>if r=r0∧c=c0 then v else F r c):=by
 refine⟨fun r c hr hc=>?_,fun o=>by have:=h.2 o;simpa using this⟩
 have h1:=h.1 r c hr hc;have h0:=h.1 r0 c0 hr0 hc0;by_cases e:r=r0∧c=c0
 · obtain⟨rfl,rfl⟩:=e;simp [go_sem,h0]
 · have hne:r0*40+c0≠r*40+c:=by omega
   show _=some (Value.bool (if r=r0∧c=c0 then v else F r c))
   rw[if_neg e,<-h1];simp [go_sem]
theorem TI.drew{w:World}{b:Nat}{F:Nat->Nat->Bool}(h:TI w b F):TI w.drew b F:=h
theorem TI.start(w:World)(p n:Nat)(hp:p<40)(hn:n<40):TI (w.alloc (.cells (znL.setIfInBounds (p*40+n) (.bool true)) 156)) w.heap.size (fun r c=>if r=p∧c=n then true else false):=by
 have h:=(TI.new w).set p n hp hn true;simpa [go_sem] using h
def bvc(w:World)(b o:Nat):Bool:=match w.cell? ⟨b,o,none⟩ with|some (.bool x)=>x|_=>false
theorem zho{w:World}{b o:Nat}{x:Bool}(h:w.cell? ⟨b,o,none⟩=some (.bool x)):w.cell? ⟨b,o,none⟩=some (.bool (bvc w b o)):=by
 rw[h];unfold bvc;rw[h]
def TJ(w:World)(b:Nat)(F:Nat->Nat->Bool)(r c:Nat):Prop:=∃ x,TI w b (fun r' c'=>if r'=r∧c'=c then x else F r' c')
theorem TJ.of{w:World}{b:Nat}{F:Nat->Nat->Bool}(h:TI w b F)(r c:Nat):TJ w b F r c:=⟨F r c,⟨fun r' c' h1 h2=>by
 rw[h.1 r' c' h1 h2];show _=some (Value.bool (if r'=r∧c'=c then F r c else F r' c'))
 by_cases e:r'=r∧c'=c
 · rw[if_pos e,e.1,e.2]
 · rw[if_neg e],h.2⟩⟩
theorem TJ.set{w:World}{b:Nat}{F:Nat->Nat->Bool}{r c:Nat}(h:TJ w b F r c)(hr:r<40)(hc:c<40)(v:Bool):TI (w.setCell ⟨b,r*40+c,none⟩ (.bool v)) b (fun r' c'=>if r'=r∧c'=c then v else F r' c'):=by
 obtain⟨x,h⟩:=h;have h2:=h.set r c hr hc v
 have e:(fun r' c'=>if r'=r∧c'=c then v else (if r'=r∧c'=c then x else F r' c'))=fun r' c'=>if r'=r∧c'=c then v else F r' c':=by
  funext r' c';split <;> rfl
 rw[e] at h2;exact h2
theorem TJ.set'{w:World}{b:Nat}{F:Nat->Nat->Bool}{r c:Nat}(h:TJ w b F r c)(hr:r<40)(hc:c<40)(v:Bool):TJ (w.setCell ⟨b,r*40+c,none⟩ (.bool v)) b F r c:=⟨v,h.set hr hc v⟩
def SJ(W:World)(b:Nat)(F:Nat->Nat->Bool)(r c:Nat)(w:World):Prop:=w.cell? ⟨b,(r+1)*40+(c+1),none⟩=some (.bool true)∧w.cell? ⟨b,r*40+c,none⟩=some (.bool (bvc w b (r*40+c)))∧(∀ o,w.frozen? ⟨b,o,none⟩=false)∧TJ w b F r c∧b<w.heap.size∧Below W.heap.size W w
theorem SJ.start{W w:World}{b r c:Nat}{F:Nat->Nat->Bool}(h:TI w b F)(hr:r+1<40)(hc:c+1<40)(hv:F (r+1) (c+1)=true)(hb:b<w.heap.size)(B:Below W.heap.size W w):SJ W b F r c w.drew :=
 ⟨by have:=h.1 (r+1) (c+1) hr hc;rw[hv] at this;exact this,zho (h.1 r c (by omega) (by omega)),h.2,TJ.of h r c,hb,B.drew⟩
theorem SJ.call{W w w2:World}{b r c:Nat}{F:Nat->Nat->Bool}(hb:Below w.heap.size w w2)(h:SJ W b F r c w):SJ W b F r c w2:=by
 obtain⟨h1,h2,h3,⟨x,h4⟩,h5,h6⟩:=h;exact⟨zac hb h1,zho (zac hb h2),(h4.below hb h5).2,⟨x,h4.below hb h5⟩,Nat.lt_of_lt_of_le h5 hb.size,bt h6 hb⟩
theorem SJ.store{W w:World}{r c:Nat}{F:Nat->Nat->Bool}(hr:r+1<40)(hc:c+1<40)(v:Bool)(h:SJ W W.heap.size F r c w):SJ W W.heap.size F r c (w.setCell ⟨W.heap.size,r*40+c,none⟩ (.bool v)):=by
 obtain⟨h1,h2,h3,h4,h5,h6⟩:=h;have hT:=h4.set (by omega) (by omega) v;have g1:=hT.1 (r+1) (c+1) hr hc;have g2:=hT.1 r c (by omega) (by omega);refine⟨?_,zho g2,hT.2,h4.set' (by omega) (by omega) v,by simpa using h5,h6.setCell (by simp) _⟩
 have hne:r*40+c≠(r+1)*40+(c+1):=by omega
 rw[<-h1];simp [go_sem]
theorem zbT(F T:Nat->Nat->Bool)(p n r c:Nat)(v:Bool)(h:∀ r' c',r+1<=r'->r'<=p->c'<=n->F r' c'=T r' c') :
  ∀ r' c',r+1<=r'->r'<=p->c'<=n->(if r'=r∧c'=c then v else F r' c')=T r' c':=fun r' c' h1 h2 h3=>by rw[if_neg (by omega)];exact h r' c' h1 h2 h3
theorem zck(F T:Nat->Nat->Bool)(n r c:Nat)(v:Bool)(h:∀ c',c+1<=c'->c'<=n->F r c'=T r c')(hv:v=T r c) :
  ∀ c',c<=c'->c'<=n->(if r=r∧c'=c then v else F r c')=T r c':=fun c' h1 h2=>by
 by_cases e:c'=c
 · subst e;rw[if_pos ⟨rfl,rfl⟩];exact hv
 · rw[if_neg (by omega)];exact h c' (by omega) h2
end
end Go.Proofs.YtefcmdmfgdcpmaaGreatDoor
section
namespace Go.Proofs.YtefcmdmfgdcpmaaGreatDoor.Ds
open Lib (compareBytes)
theorem zdT(x:UInt8)(a b:List UInt8):compareBytes (x::a) (x::b)=compareBytes a b:=by
 rw[compareBytes];simp [UInt8.lt_irrefl]
theorem zgj(x y:UInt8):x<y∨x=y∨y<x:=by
 rcases Nat.lt_trichotomy x.toNat y.toNat with h|h|h
 · exact .inl (UInt8.lt_iff_toNat_lt.2 h)
 · exact .inr (.inl (UInt8.toNat_inj.1 h))
 · exact .inr (.inr (UInt8.lt_iff_toNat_lt.2 h))
theorem zfe(x y:UInt8)(a b:List UInt8)(h:x<y):compareBytes (x::a) (y::b)=-1:=by rw[compareBytes];simp [h]
theorem zfd(x y:UInt8)(a b:List UInt8)(h:y<x):compareBytes (x::a) (y::b)=1:=by
 have:¬ x<y:=fun h'=>absurd (UInt8.lt_trans h h') (UInt8.lt_irrefl y)
 rw[compareBytes];simp [h,this]
theorem cmp_zero:∀ a b:List UInt8,compareBytes a b=0↔a=b
 | [],[]=>by simp [compareBytes]
 | [],_::_=>by simp [compareBytes]
 | _::_,[]=>by simp [compareBytes]
 | x::a,y::b=>by
   rcases zgj x y with h|h|h
   · rw[zfe _ _ _ _ h];have:x≠y:=fun e=>UInt8.lt_irrefl y (e ▸ h)
     simp [this]
   · subst h;rw[zdT,cmp_zero a b];simp
   · rw[zfd _ _ _ _ h];have:x≠y:=fun e=>UInt8.lt_irrefl y (e ▸ h)
     simp [this]
theorem cmp_neg:∀ a b:List UInt8,compareBytes b a=- compareBytes a b
 | [],[]=>by simp [compareBytes]
 | [],_::_=>by simp [compareBytes]
 | _::_,[]=>by simp [compareBytes]
 | x::a,y::b=>by
   rcases zgj x y with h|h|h
   · rw[zfe _ _ _ _ h,zfd _ _ _ _ h];rfl
   · subst h;rw[zdT,zdT,cmp_neg a b]
   · rw[zfe _ _ _ _ h,zfd _ _ _ _ h]
theorem cmp_trans:∀ a b c:List UInt8,compareBytes a b<=0->compareBytes b c<=0->compareBytes a c<=0
 | [],b,[],_,_=>by simp [compareBytes]
 | [],b,_::_,_,_=>by simp [compareBytes]
 | _::_,[],c,h,_=>by simp [compareBytes] at h
 | _::_,_::_,[],_,h=>by simp [compareBytes] at h
 | x::a,y::b,z::c,h,k=>by
   rcases zgj x y with h1|h1|h1
   · rcases zgj y z with h2|h2|h2
     · rw[zfe _ _ _ _ (UInt8.lt_trans h1 h2)];simp
     · subst h2;rw[zfe _ _ _ _ h1];simp
     · rw[zfd _ _ _ _ h2] at k;simp at k
   · subst h1;rcases zgj x z with h2|h2|h2
     · rw[zfe _ _ _ _ h2];simp
     · subst h2;rw[zdT] at h k ⊢;exact cmp_trans a b c h k
     · rw[zfd _ _ _ _ h2] at k;simp at k
   · rw[zfd _ _ _ _ h1] at h;simp at h
/-! pieces -/
theorem pieces_dot(a b:List UInt8):pieces (a++46::b)=pieces a++pieces b:=by
 induction a with
 | nil=>simp [pieces]
 | cons c r ih =>
   simp only[List.cons_append,pieces,ih]
   split
   · rfl
   · cases e:pieces r with
     | nil=>exact absurd e (pieces_ne r)
     | cons p ps=>simp
theorem zcD(q:List UInt8)(h:46 ∉ q):pieces q=[q]:=by
 induction q with
 | nil=>rfl
 | cons c r ih =>
   simp only[List.mem_cons,not_or] at h
   rw[pieces,if_neg (fun e=>h.1 e.symm),ih h.2]
theorem zgW(L:List (List UInt8))(h:L≠[])(hq:∀ q∈L,46 ∉ q):pieces (Lib.join L [46])=L:=by
 induction L with
 | nil=>exact absurd rfl h
 | cons a r ih =>
   cases r with
   | nil=>rw[Lib.join_one,zcD a (hq a (by simp))]
   | cons b r =>
     rw[join_cons2,List.append_assoc,List.singleton_append,pieces_dot,zcD a (hq a (by simp)),ih (by simp) (fun q h=>hq q (by simp [h]))];rfl
/-! bytes of names and patterns -/
theorem zsy(c:UInt8)(h:pl c=true):c.toNat<=90∧c≠46∧c≠42:=by
 simp only[pl,up,dg,Bool.or_eq_true,Bool.and_eq_true,decide_eq_true_eq] at h
 exact⟨by omega,fun e=>by subst e;simp at h,fun e=>by subst e;simp at h⟩
theorem zwf(c:UInt8)(h:up c=true):pl c=true:=by simp [pl,h]
theorem zs6(c:UInt8)(h:ups c=true):pls c=true:=by
 simp only[ups,Bool.or_eq_true] at h
 rcases h with h|h <;> simp [pls,pl,h]
theorem zj9(F G:UInt8->Bool)(hFG:∀ c,F c=true->G c=true)(q:List UInt8)(h:qual F G q=true):∀ c∈q,G c=true:=by
 cases q with
 | nil=>simp
 | cons x r =>
   simp only[qual,Bool.and_eq_true,decide_eq_true_eq,List.all_eq_true] at h
   intro c hc;rcases List.mem_cons.1 hc with rfl|hc
   · exact hFG _ h.1.2
   · exact h.2 c hc
theorem zgS(q:List UInt8)(h:nameQ q=true):∀ c∈q,pl c=true:=zj9 up pl zwf q h
theorem zoV(q:List UInt8)(h:patQ q=true):∀ c∈q,pls c=true:=by
 unfold patQ at h;simp only[Bool.or_eq_true,Bool.and_eq_true,decide_eq_true_eq] at h
 rcases h with rfl|h
 · intro c hc;simp at hc;subst hc;rfl
 · exact zj9 ups pls zs6 q h.1
theorem zkQ(q:List UInt8)(h:nameQ q=true):patQ q=true:=by
 have hp:=zgS q h
 have hs:ss q=false:=by
  rw[Bool.eq_false_iff];intro e;obtain⟨j,h1,h2,_⟩:=(zqB q).1 e;have hj:j<q.length:=by omega
  rw[List.getD_eq_getElem?_getD,List.getElem?_eq_getElem hj,Option.getD_some] at h2;exact (zsy _ (hp _ (List.getElem_mem hj))).2.2 (UInt8.toNat_inj.1 h2)
 unfold patQ;rw[hs];unfold nameQ at h
 cases q with
 | nil=>simp [qual] at h
 | cons x r =>
   simp only[qual,Bool.and_eq_true,decide_eq_true_eq,List.all_eq_true] at h
   simp only[qual,Bool.not_false,Bool.and_true,Bool.or_eq_true,Bool.and_eq_true,decide_eq_true_eq,List.all_eq_true]
   exact .inr ⟨⟨h.1.1,by simp [ups,h.1.2]⟩,fun c hc=>by simp [pls,h.2 c hc]⟩
theorem name_parts(s:List UInt8):name s=true↔(1<=s.length∧s.length<=31)∧∀ q∈pieces s,nameQ q=true:=by
 simp [name,and_assoc]
theorem pat_parts(s:List UInt8):pat s=true↔(1<=s.length∧s.length<=31)∧∀ q∈pieces s,patQ q=true:=by
 simp [pat,and_assoc]
theorem name_pat(s:List UInt8)(h:name s=true):pat s=true:=by
 rw[name_parts] at h;rw[pat_parts];exact⟨h.1,fun q hq=>zkQ q (h.2 q hq)⟩
theorem zoN(q:List UInt8)(h:nameQ q=true):q≠[]:=by rintro rfl;simp [nameQ,qual] at h
theorem zeO(q:List UInt8)(h:nameQ q=true):42 ∉ q:=fun hm=>(zsy _ (zgS q h _ hm)).2.2 rfl
theorem ziU(q:List UInt8)(h:nameQ q=true):46 ∉ q:=fun hm=>(zsy _ (zgS q h _ hm)).2.1 rfl
theorem zmQ(q:List UInt8)(h:nameQ q=true):q≠[42,42]:=by rintro rfl;exact zeO _ h (by simp)
/-! names match themselves alone -/
theorem zsj{α:Type}[DecidableEq α](star:α->Bool)(one:α->α->Bool):∀ (p l:List α),(∀ a∈p,star a=false)->(∀ a∈p,∀ b,one a b=decide (a=b))->mt star one p l=decide (p=l)
 | [],[],_,_=>by simp [mt]
 | [],_::_,_,_=>by simp [mt]
 | a::p,[],h,_=>by simp [mt,h a (by simp)]
 | a::p,b::l,h,ho=>by
   rw[mt,h a (by simp),ho a (by simp) b,zsj star one p l (fun a ha=>h a (by simp [ha])) (fun a ha=>ho a (by simp [ha]))];rw[Bool.eq_iff_iff];simp
theorem zus(q s:List UInt8)(h:42 ∉ q):mtQ q s=decide (q=s) :=
 zsj _ _ q s (fun a ha=>by simp;rintro rfl;exact h ha) (fun _ _ _=>rfl)
theorem zur(P L:List (List UInt8))(h:∀ q∈P,nameQ q=true):mtP P L=decide (P=L) :=
 zsj _ _ P L (fun q hq=>by simpa using zmQ q (h q hq)) (fun q hq s=>zus q s (zeO q (h q hq)))
theorem match_self(a b:List UInt8)(ha:name a=true)(hb:name b=true):match_ a b=decide (a=b):=by
 unfold match_;rw[name_pat a ha,hb,zur _ _ ((name_parts a).1 ha).2,Bool.eq_iff_iff];simp only[Bool.true_and,decide_eq_true_eq]
 constructor
 · intro h;rw[<-join_pieces a,<-join_pieces b,h]
 · rintro rfl;rfl
theorem zhI(L:List (List UInt8))(h:L≠[])(hq:∀ q∈L,q≠[]):1<=(Lib.join L [46]).length:=by
 cases L with
 | nil=>exact absurd rfl h
 | cons a r =>
   have ha:=hq a (by simp);have:1<=a.length:=by cases a with|nil=>exact absurd rfl ha|cons _ _=>simp
   cases r with
   | nil=>rw[Lib.join_one];exact this
   | cons b r=>rw[join_cons2];simp only[List.length_append];omega
theorem match_parts(p s:List UInt8):match_ p s=true↔pat p=true∧name s=true∧mtP (pieces p) (pieces s)=true:=by
 simp [match_,and_assoc]
end Go.Proofs.YtefcmdmfgdcpmaaGreatDoor.Ds
end
section
namespace Go.Proofs.YtefcmdmfgdcpmaaGreatDoor.Ds
open Lib (compareBytes)
def k1(c:UInt8):UInt8:=if c=42 then 254 else c
/-! below -/
theorem first_take(s:List UInt8)(n:Nat)(hs:name s=true)(h0:0<n):name (first n s)=true∧pieces (first n s)=(pieces s).take n:=by
 have hp:=(name_parts s).1 hs;have hf:first n s=Lib.join ((pieces s).take n) [46]:=by unfold first;rw[hs];simp
 have hne:(pieces s).take n≠[]:=by
  intro e;rw[List.take_eq_nil_iff] at e;rcases e with e|e
  · omega
  · exact pieces_ne s e
 have hq:∀ q∈(pieces s).take n,nameQ q=true:=fun q h=>hp.2 q (List.mem_of_mem_take h)
 have e:=zgW _ hne (fun q h=>ziU q (hq q h));rw[hf,name_parts,e];have hl:=join_take (pieces s) [46] n;rw[join_pieces] at hl;exact⟨⟨⟨zhI _ hne (fun q h=>zoN q (hq q h)),by omega⟩,hq⟩,rfl⟩
theorem first_all(s:List UInt8)(hs:name s=true):first (pieces s).length s=s:=by
 unfold first;rw[hs];simp [join_pieces]
theorem zeP(p:List UInt8):pieces (p++[46,42,42])=pieces p++[[42,42]]:=pieces_dot p [42,42]
theorem zk9{α β:Type}{star:α->Bool}{one:α->β->Bool}{P:List α}(h:M star one P [])(hP:P≠[])(L:List β):M star one P L:=by
 generalize e:([]:List β)=l at h
 cases h with
 | nil=>exact absurd rfl hP
 | @skip a p l h1 h2=>
   subst e;clear hP
   have key:∀ L:List β,M star one (a::p) L:=by
    intro L
    induction L with
    | nil=>exact .skip h1 h2
    | cons b L ih=>exact .eat h1 ih
   exact key L
 | eat h1 h2=>cases e
 | one h1 h2 h3=>cases e
theorem match_below(p s:List UInt8)(hp:pat p=true)(hl:p.length<=28)(hs:name s=true) :
  match_ (p++[46,42,42]) s=(List.range (pieces s).length).any fun n=>match_ p (first ((n:Int)+1) s):=by
 have hps:=(pat_parts p).1 hp;rw[Bool.eq_iff_iff,match_parts,List.any_eq_true,zeP];constructor
 · rintro ⟨_,_,h⟩;obtain⟨l1,l2,e,h1,h2⟩:=zqJ _ _ _ ((zjZ _ _ _ _).1 h);have hlen:0<(pieces s).length:=List.length_pos_iff.2 (pieces_ne s)
   have key:∀ n:Nat,0<n->n<=(pieces s).length->M (fun q:List UInt8=>decide (q=[42,42])) mtQ (pieces p) ((pieces s).take n)->∃ x,x∈List.range (pieces s).length∧match_ p (first ((x:Int)+1) s)=true:=by
    intro n h0 hn hm;refine⟨n - 1,by simp;omega,?_⟩
    obtain⟨f1,f2⟩:=first_take s n hs h0;have en:((n - 1:Nat):Int)+1=n:=by omega
    rw[en,match_parts,f2];exact⟨hp,f1,(zjZ _ _ _ _).2 hm⟩
   cases l1 with
   | nil=>exact key 1 (by omega) (by omega) (zk9 h1 (pieces_ne p) _)
   | cons b l1 =>
     refine key (b::l1).length (by simp) (by rw[e];simp) ?_
     rw[e,List.take_left']
     · exact h1
     · rfl
 · rintro ⟨n,hn,h⟩;obtain⟨f1,f2⟩:=first_take s (n+1) hs (by omega);have en:((n:Int)+1)=((n+1:Nat):Int):=by omega
   rw[en,match_parts,f2] at h;obtain⟨_,_,h3⟩:=h;refine⟨?_,hs,?_⟩
   · rw[pat_parts,zeP];refine⟨by simp;omega,?_⟩
     intro q hq;rw[List.mem_append] at hq;rcases hq with h|h
     · exact hps.2 q h
     · simp at h;subst h;decide
   · have h4:=znM ((zjZ _ _ _ _).1 h3) (zpB (star:=fun q:List UInt8=>decide (q=[42,42])) (one:=mtQ) [42,42] (by simp) ((pieces s).drop (n+1)));rw[List.take_append_drop] at h4;exact (zjZ _ _ _ _).2 h4
theorem group_parts(g:List UInt8):group g=true↔name g=true∧g.length<=22∧∀ q∈pieces g,num q=0:=by
 simp [group,and_assoc]
end Go.Proofs.YtefcmdmfgdcpmaaGreatDoor.Ds
end
namespace Go.Proofs.YtefcmdmfgdcpmaaGreatDoor
section
open Go.RowKit
attribute [local go_sem ↓] zdx
theorem tbq(p n:Nat)(hp:p<40)(hn:n<40)(pq ps:Nat)(S:Nat->Bool)(O:Nat->Nat->Bool)(w:World)(hS:Hid (∀ i:Nat,i<p->∀ w',Below w.heap.size w w'->Calls Tryz.prog 55 #[.int .i64 i,.pointer (some ⟨pq,0,none⟩)] w' fun e w''=>e=.returned (.bool (S i))∧Below w'.heap.size w' w''))(hO:Hid (∀ i k:Nat,i<p->k<n->∀ w',Below w.heap.size w w'->Calls Tryz.prog 56 #[.int .i64 i,.int .i64 k,.pointer (some ⟨pq,0,none⟩),.pointer (some ⟨ps,0,none⟩)] w' fun e w''=>e=.returned (.bool (O i k))∧Below w'.heap.size w' w'')) :
  Calls Tryz.prog 52 #[.int .i64 p,.int .i64 n,.func (.func 55) #[] #[.pointer (some ⟨pq,0,none⟩)],.func (.func 56) #[] #[.pointer (some ⟨pq,0,none⟩),.pointer (some ⟨ps,0,none⟩)]] w fun e w'=>e=.returned (.bool (Ds.tab S O p n 0 0))∧Below w.heap.size w w':=by
 have hz:znL[p*40+n]?=some (.bool false):=zhg _ (by omega);go_enter Tryz.func52,Tryz.ntmps52
 go_wp2_with fail
 clear hz;go_loopw [10,11] (fun i _ wr=>∃ (q:Int) (r:Nat) (F:Nat->Nat->Bool),r<=p∧q=(r:Int) - 1∧i=.int .i64 q∧TI wr w.heap.size F∧(∀ r' c,r<=r'->r'<=p->c<=n->F r' c=Ds.tab S O p n r' c)∧w.heap.size<wr.heap.size∧Below w.heap.size w wr) (fun i _ _=>(intOf i+1).toNat)
 case atStart =>
  refine⟨(p:Int) - 1,p,fun r c=>if r=p∧c=n then true else false,by omega,rfl,by go_num,by have h:=(TI.new w).set p n hp hn true;simpa [go_sem] using h,?_,by simp,by (repeat (first|exact Below.refl _ _|assumption|(refine Below.drew ?_)|(refine Below.alloc ?_ (by simp) _)|(refine Below.setCell ?_ (by simp) _)))⟩
  intro r' c h1 h2 h3;obtain rfl:r'=p:=by omega
  rw[Ds.tab_end _ _ _ _ _ _ (by omega)];by_cases hc:c=n <;> simp [hc]
 case round =>
  obtain⟨q,r,F,hr,hq,rfl,hT,hF,hlt,B⟩:=hrel;have HF:=lh hF;clear hF;rcases r with _|r
  · obtain rfl:q=-1:=by omega
    have c0:=hT.1 0 0 (by omega) (by omega);have H0:=lh (HF.out 0 0 (by omega) (by omega) (by omega));clear hq;go_wp2_with fail
    go_ret
    exact⟨zaF H0.out,B⟩
  · obtain rfl:q=r:=by omega
    clear hq;go_wp2_with fail
    go_loopw [11] (fun k wr=>∃ (q:Int) (c:Nat) (F:Nat->Nat->Bool),c<=n+1∧q=(c:Int) - 1∧k=.int .i64 q∧TI wr w.heap.size F∧(∀ r' c',r+1<=r'->r'<=p->c'<=n->F r' c'=Ds.tab S O p n r' c')∧(∀ c',c<=c'->c'<=n->F r c'=Ds.tab S O p n r c')∧w.heap.size<wr.heap.size∧Below w.heap.size w wr) (fun k _=>(intOf k+1).toNat)
    case atStart=>exact⟨n,n+1,F,by omega,by omega,rfl,hT,HF.out,by intro c' h1 h2;omega,hlt,B⟩
    case round =>
     clear HF hT hlt B;obtain⟨q,c,F,hc,hq,rfl,hT,hF,hG,hlt,B⟩:=hrel;have HF:=lh hF;have HG:=lh hG;clear hF hG;rcases c with _|c
     · obtain rfl:q=-1:=by omega
       clear hq;go_wp2_with fail
       go_roundw
       case rel =>
        refine⟨(r:Int) - 1,r,F,by omega,rfl,by go_num,hT,?_,hlt,B⟩
        intro r' c' h1 h2 h3;rcases Nat.lt_or_ge r r' with h|h
        · exact HF.out r' c' h h2 h3
        · obtain rfl:r'=r:=by omega
          exact HG.out c' (by omega) h3
       case measure=>simp [intOf]
     · obtain rfl:q=c:=by omega
       clear hq;have hcn:c<=n:=by omega
       have c2:=hT.1 (r+1) c (by omega) (by omega);have H2:=lh (HF.out (r+1) c (by omega) (by omega) hcn);have c1:=hT.1 r c (by omega) (by omega);have fz:=hT.2;cases hs:S r
       · by_cases hk:c<n
         · have c3:=hT.1 (r+1) (c+1) (by omega) (by omega);have H3:=lh (HF.out (r+1) (c+1) (by omega) (by omega) (by omega));go_wp2_with (go_at_call 55;(with_reducible refine (hS.out r (by omega) _ B).mono ?_);rintro e w1 ⟨rfl,hb⟩;have B:=bt B hb;have hT:=hT.below hb hlt;have hlt:=Nat.lt_of_lt_of_le hlt hb.size;have c1:=zac hb c1;have c2:=zac hb c2;clear hb)
           have fz:=hT.2;have c3:=hT.1 (r+1) (c+1) (by omega) (by omega);cases hv:F (r+1) (c+1)
           · rw[hv] at c3 H3;go_region
             go_wp2_with fail
             go_roundw
             case rel=>exact⟨(c:Int) - 1,c,_,by omega,rfl,by go_num,(hT.set r c (by omega) (by omega) _).drew,zbT _ _ _ _ _ _ _ HF.out,zck _ _ _ _ _ _ HG.out (by rw[Ds.tab_one _ _ _ _ _ _ (by omega) hs,<-H3.out];simp),by simpa using hlt,by (have hzz:=(B).size;exact zbo)⟩
             case measure=>simp [intOf]
           · rw[hv] at c3 H3;have b1:r+1<40:=by omega
             have b2:c+1<40:=by omega
             have b3:(r:Int)+1<40:=by omega
             have b4:(c:Int)+1<40:=by omega
             have b5:(0:Int)<=(r:Int)+1:=by omega
             have b6:(0:Int)<=(c:Int)+1:=by omega
             have b7:IntKind.i64.wrap ((r:Int)+1)=(r:Int)+1:=IntWalk.i64_in _ (by omega);have b8:IntKind.i64.wrap ((c:Int)+1)=(c:Int)+1:=IntWalk.i64_in _ (by omega);have b9:(r:Int)<40:=by omega
             have b10:(c:Int)<40:=by omega
             have b11:(0:Int)<=(r:Int):=by omega
             have b12:(0:Int)<=(c:Int):=by omega
             have b13:((r:Int)+1).toNat=r+1:=by omega
             have b14:((c:Int)+1).toNat=c+1:=by omega
             have BD:=B.drew;have S0:=SJ.start hT b1 b2 hv hlt B;have H0:=lh S0;clear S0;go_region_held3 (fun w'=>w'.cell? ⟨w.heap.size,(r+1)*40+(c+1),none⟩=some (.bool true)∧w'.cell? ⟨w.heap.size,r*40+c,none⟩=some (.bool (bvc w' w.heap.size (r*40+c)))∧(∀ o,w'.frozen? ⟨w.heap.size,o,none⟩=false)∧TJ w' w.heap.size F r c∧w.heap.size<w'.heap.size∧Below w.heap.size w w') (first|exact H0.out|exact SJ.call hb (by assumption)|exact SJ.store b1 b2 _ (by assumption)) (first|(go_at_call 56;(with_reducible refine (hO.out r c (by omega) (by omega) _ (by first|exact BD|(have hh:=(by assumption:SJ w w.heap.size F r c _);exact hh.2.2.2.2.2))).mono ?_);rintro e w2 ⟨rfl,hb⟩))
             have S2:=SJ.call hb H0.out;have HT2:=lh (S2.2.2.2.1.set (by omega) (by omega) (O r c));have HB2:=lh (S2.2.2.2.2.2.setCell (p:=⟨w.heap.size,r*40+c,none⟩) (Nat.le_refl _) (.bool (O r c)));have HS2:=S2.2.2.2.2.1;clear b3 b4 b5 b6 b7 b8 b9 b10 b11 b12 b13 b14 S2;go_wp2_with fail
             go_roundw
             case rel=>exact⟨(c:Int) - 1,c,_,by omega,rfl,by go_num,HT2.out,zbT _ _ _ _ _ _ _ HF.out,zck _ _ _ _ _ _ HG.out (by rw[Ds.tab_one _ _ _ _ _ _ (by omega) hs,<-H3.out];simp [hk]),by simpa using HS2,HB2.out⟩
             case measure=>simp [intOf]
         · go_wp2_with (go_at_call 55;(with_reducible refine (hS.out r (by omega) _ B).mono ?_);rintro e w1 ⟨rfl,hb⟩;have B:=bt B hb;have hT:=hT.below hb hlt;have hlt:=Nat.lt_of_lt_of_le hlt hb.size;have c1:=zac hb c1;have c2:=zac hb c2;clear hb)
           have fz:=hT.2;have hk':n<=c:=by omega
           go_region
           go_wp2_with fail
           go_roundw
           case rel=>exact⟨(c:Int) - 1,c,_,by omega,rfl,by go_num,(hT.set r c (by omega) (by omega) _).drew,zbT _ _ _ _ _ _ _ HF.out,zck _ _ _ _ _ _ HG.out (by rw[Ds.tab_one _ _ _ _ _ _ (by omega) hs];simp [hk]),by simpa using hlt,by (have hzz:=(B).size;exact zbo)⟩
           case measure=>simp [intOf]
       · by_cases hk:c<n
         · have c3:=hT.1 r (c+1) (by omega) (by omega);have H3:=lh (HG.out (c+1) (by omega) (by omega));go_wp2_with (go_at_call 55;(with_reducible refine (hS.out r (by omega) _ B).mono ?_);rintro e w1 ⟨rfl,hb⟩;have B:=bt B hb;have hT:=hT.below hb hlt;have hlt:=Nat.lt_of_lt_of_le hlt hb.size;have c1:=zac hb c1;have c2:=zac hb c2;have c3:=zac hb c3;clear hb)
           have fz:=hT.2;cases hv:F (r+1) c
           · rw[hv] at c2 H2;go_region
             go_wp2_with fail
             go_roundw
             case rel=>exact⟨(c:Int) - 1,c,_,by omega,rfl,by go_num,(hT.set r c (by omega) (by omega) _).drew,zbT _ _ _ _ _ _ _ HF.out,zck _ _ _ _ _ _ HG.out (by rw[Ds.tab_star _ _ _ _ _ _ (by omega) hs,<-H2.out,<-H3.out];simp [hk]),by simpa using hlt,by (have hzz:=(B).size;exact zbo)⟩
             case measure=>simp [intOf]
           · rw[hv] at c2 H2;go_region
             go_wp2_with fail
             go_roundw
             case rel=>exact⟨(c:Int) - 1,c,_,by omega,rfl,by go_num,(hT.set r c (by omega) (by omega) _).drew,zbT _ _ _ _ _ _ _ HF.out,zck _ _ _ _ _ _ HG.out (by rw[Ds.tab_star _ _ _ _ _ _ (by omega) hs,<-H2.out];simp),by simpa using hlt,by (have hzz:=(B).size;exact zbo)⟩
             case measure=>simp [intOf]
         · go_wp2_with (go_at_call 55;(with_reducible refine (hS.out r (by omega) _ B).mono ?_);rintro e w1 ⟨rfl,hb⟩;have B:=bt B hb;have hT:=hT.below hb hlt;have hlt:=Nat.lt_of_lt_of_le hlt hb.size;have c1:=zac hb c1;have c2:=zac hb c2;clear hb)
           have fz:=hT.2;have hk':n<=c:=by omega
           cases hv:F (r+1) c
           all_goals
            rw[hv] at c2 H2;go_region
            go_wp2_with fail
            go_roundw
            case rel=>exact⟨(c:Int) - 1,c,_,by omega,rfl,by go_num,(hT.set r c (by omega) (by omega) _).drew,zbT _ _ _ _ _ _ _ HF.out,zck _ _ _ _ _ _ HG.out (by rw[Ds.tab_star _ _ _ _ _ _ (by omega) hs,<-H2.out];simp [hk]),by simpa using hlt,by (have hzz:=(B).size;exact zbo)⟩
            case measure=>simp [intOf]
end
section
open Go.RowKit
attribute [local go_sem ↓] zdx
theorem tbp(p n:Nat)(hp:p<40)(hn:n<40)(pq ps:Nat)(S:Nat->Bool)(O:Nat->Nat->Bool)(w:World)(hS:Hid (∀ i:Nat,i<p->∀ w',Below w.heap.size w w'->Calls Tryz.prog 53 #[.int .i64 i,.pointer (some ⟨pq,0,none⟩)] w' fun e w''=>e=.returned (.bool (S i))∧Below w'.heap.size w' w''))(hO:Hid (∀ i k:Nat,i<p->k<n->∀ w',Below w.heap.size w w'->Calls Tryz.prog 54 #[.int .i64 i,.int .i64 k,.pointer (some ⟨pq,0,none⟩),.pointer (some ⟨ps,0,none⟩)] w' fun e w''=>e=.returned (.bool (O i k))∧Below w'.heap.size w' w'')) :
  Calls Tryz.prog 52 #[.int .i64 p,.int .i64 n,.func (.func 53) #[] #[.pointer (some ⟨pq,0,none⟩)],.func (.func 54) #[] #[.pointer (some ⟨pq,0,none⟩),.pointer (some ⟨ps,0,none⟩)]] w fun e w'=>e=.returned (.bool (Ds.tab S O p n 0 0))∧Below w.heap.size w w':=by
 have hz:znL[p*40+n]?=some (.bool false):=zhg _ (by omega);go_enter Tryz.func52,Tryz.ntmps52
 go_wp2_with fail
 clear hz;go_loopw [10,11] (fun i _ wr=>∃ (q:Int) (r:Nat) (F:Nat->Nat->Bool),r<=p∧q=(r:Int) - 1∧i=.int .i64 q∧TI wr w.heap.size F∧(∀ r' c,r<=r'->r'<=p->c<=n->F r' c=Ds.tab S O p n r' c)∧w.heap.size<wr.heap.size∧Below w.heap.size w wr) (fun i _ _=>(intOf i+1).toNat)
 case atStart =>
  refine⟨(p:Int) - 1,p,fun r c=>if r=p∧c=n then true else false,by omega,rfl,by go_num,by have h:=(TI.new w).set p n hp hn true;simpa [go_sem] using h,?_,by simp,by (repeat (first|exact Below.refl _ _|assumption|(refine Below.drew ?_)|(refine Below.alloc ?_ (by simp) _)|(refine Below.setCell ?_ (by simp) _)))⟩
  intro r' c h1 h2 h3;obtain rfl:r'=p:=by omega
  rw[Ds.tab_end _ _ _ _ _ _ (by omega)];by_cases hc:c=n <;> simp [hc]
 case round =>
  obtain⟨q,r,F,hr,hq,rfl,hT,hF,hlt,B⟩:=hrel;have HF:=lh hF;clear hF;rcases r with _|r
  · obtain rfl:q=-1:=by omega
    have c0:=hT.1 0 0 (by omega) (by omega);have H0:=lh (HF.out 0 0 (by omega) (by omega) (by omega));clear hq;go_wp2_with fail
    go_ret
    exact⟨zaF H0.out,B⟩
  · obtain rfl:q=r:=by omega
    clear hq;go_wp2_with fail
    go_loopw [11] (fun k wr=>∃ (q:Int) (c:Nat) (F:Nat->Nat->Bool),c<=n+1∧q=(c:Int) - 1∧k=.int .i64 q∧TI wr w.heap.size F∧(∀ r' c',r+1<=r'->r'<=p->c'<=n->F r' c'=Ds.tab S O p n r' c')∧(∀ c',c<=c'->c'<=n->F r c'=Ds.tab S O p n r c')∧w.heap.size<wr.heap.size∧Below w.heap.size w wr) (fun k _=>(intOf k+1).toNat)
    case atStart=>exact⟨n,n+1,F,by omega,by omega,rfl,hT,HF.out,by intro c' h1 h2;omega,hlt,B⟩
    case round =>
     clear HF hT hlt B;obtain⟨q,c,F,hc,hq,rfl,hT,hF,hG,hlt,B⟩:=hrel;have HF:=lh hF;have HG:=lh hG;clear hF hG;rcases c with _|c
     · obtain rfl:q=-1:=by omega
       clear hq;go_wp2_with fail
       go_roundw
       case rel =>
        refine⟨(r:Int) - 1,r,F,by omega,rfl,by go_num,hT,?_,hlt,B⟩
        intro r' c' h1 h2 h3;rcases Nat.lt_or_ge r r' with h|h
        · exact HF.out r' c' h h2 h3
        · obtain rfl:r'=r:=by omega
          exact HG.out c' (by omega) h3
       case measure=>simp [intOf]
     · obtain rfl:q=c:=by omega
       clear hq;have hcn:c<=n:=by omega
       have c2:=hT.1 (r+1) c (by omega) (by omega);have H2:=lh (HF.out (r+1) c (by omega) (by omega) hcn);have c1:=hT.1 r c (by omega) (by omega);have fz:=hT.2;cases hs:S r
       · by_cases hk:c<n
         · have c3:=hT.1 (r+1) (c+1) (by omega) (by omega);have H3:=lh (HF.out (r+1) (c+1) (by omega) (by omega) (by omega));go_wp2_with (go_at_call 53;(with_reducible refine (hS.out r (by omega) _ B).mono ?_);rintro e w1 ⟨rfl,hb⟩;have B:=bt B hb;have hT:=hT.below hb hlt;have hlt:=Nat.lt_of_lt_of_le hlt hb.size;have c1:=zac hb c1;have c2:=zac hb c2;clear hb)
           have fz:=hT.2;have c3:=hT.1 (r+1) (c+1) (by omega) (by omega);cases hv:F (r+1) (c+1)
           · rw[hv] at c3 H3;go_region
             go_wp2_with fail
             go_roundw
             case rel=>exact⟨(c:Int) - 1,c,_,by omega,rfl,by go_num,(hT.set r c (by omega) (by omega) _).drew,zbT _ _ _ _ _ _ _ HF.out,zck _ _ _ _ _ _ HG.out (by rw[Ds.tab_one _ _ _ _ _ _ (by omega) hs,<-H3.out];simp),by simpa using hlt,by (have hzz:=(B).size;exact zbo)⟩
             case measure=>simp [intOf]
           · rw[hv] at c3 H3;have b1:r+1<40:=by omega
             have b2:c+1<40:=by omega
             have b3:(r:Int)+1<40:=by omega
             have b4:(c:Int)+1<40:=by omega
             have b5:(0:Int)<=(r:Int)+1:=by omega
             have b6:(0:Int)<=(c:Int)+1:=by omega
             have b7:IntKind.i64.wrap ((r:Int)+1)=(r:Int)+1:=IntWalk.i64_in _ (by omega);have b8:IntKind.i64.wrap ((c:Int)+1)=(c:Int)+1:=IntWalk.i64_in _ (by omega);have b9:(r:Int)<40:=by omega
             have b10:(c:Int)<40:=by omega
             have b11:(0:Int)<=(r:Int):=by omega
             have b12:(0:Int)<=(c:Int):=by omega
             have b13:((r:Int)+1).toNat=r+1:=by omega
             have b14:((c:Int)+1).toNat=c+1:=by omega
             have BD:=B.drew;have S0:=SJ.start hT b1 b2 hv hlt B;have H0:=lh S0;clear S0;go_region_held3 (fun w'=>w'.cell? ⟨w.heap.size,(r+1)*40+(c+1),none⟩=some (.bool true)∧w'.cell? ⟨w.heap.size,r*40+c,none⟩=some (.bool (bvc w' w.heap.size (r*40+c)))∧(∀ o,w'.frozen? ⟨w.heap.size,o,none⟩=false)∧TJ w' w.heap.size F r c∧w.heap.size<w'.heap.size∧Below w.heap.size w w') (first|exact H0.out|exact SJ.call hb (by assumption)|exact SJ.store b1 b2 _ (by assumption)) (first|(go_at_call 54;(with_reducible refine (hO.out r c (by omega) (by omega) _ (by first|exact BD|(have hh:=(by assumption:SJ w w.heap.size F r c _);exact hh.2.2.2.2.2))).mono ?_);rintro e w2 ⟨rfl,hb⟩))
             have S2:=SJ.call hb H0.out;have HT2:=lh (S2.2.2.2.1.set (by omega) (by omega) (O r c));have HB2:=lh (S2.2.2.2.2.2.setCell (p:=⟨w.heap.size,r*40+c,none⟩) (Nat.le_refl _) (.bool (O r c)));have HS2:=S2.2.2.2.2.1;clear b3 b4 b5 b6 b7 b8 b9 b10 b11 b12 b13 b14 S2;go_wp2_with fail
             go_roundw
             case rel=>exact⟨(c:Int) - 1,c,_,by omega,rfl,by go_num,HT2.out,zbT _ _ _ _ _ _ _ HF.out,zck _ _ _ _ _ _ HG.out (by rw[Ds.tab_one _ _ _ _ _ _ (by omega) hs,<-H3.out];simp [hk]),by simpa using HS2,HB2.out⟩
             case measure=>simp [intOf]
         · go_wp2_with (go_at_call 53;(with_reducible refine (hS.out r (by omega) _ B).mono ?_);rintro e w1 ⟨rfl,hb⟩;have B:=bt B hb;have hT:=hT.below hb hlt;have hlt:=Nat.lt_of_lt_of_le hlt hb.size;have c1:=zac hb c1;have c2:=zac hb c2;clear hb)
           have fz:=hT.2;have hk':n<=c:=by omega
           go_region
           go_wp2_with fail
           go_roundw
           case rel=>exact⟨(c:Int) - 1,c,_,by omega,rfl,by go_num,(hT.set r c (by omega) (by omega) _).drew,zbT _ _ _ _ _ _ _ HF.out,zck _ _ _ _ _ _ HG.out (by rw[Ds.tab_one _ _ _ _ _ _ (by omega) hs];simp [hk]),by simpa using hlt,by (have hzz:=(B).size;exact zbo)⟩
           case measure=>simp [intOf]
       · by_cases hk:c<n
         · have c3:=hT.1 r (c+1) (by omega) (by omega);have H3:=lh (HG.out (c+1) (by omega) (by omega));go_wp2_with (go_at_call 53;(with_reducible refine (hS.out r (by omega) _ B).mono ?_);rintro e w1 ⟨rfl,hb⟩;have B:=bt B hb;have hT:=hT.below hb hlt;have hlt:=Nat.lt_of_lt_of_le hlt hb.size;have c1:=zac hb c1;have c2:=zac hb c2;have c3:=zac hb c3;clear hb)
           have fz:=hT.2;cases hv:F (r+1) c
           · rw[hv] at c2 H2;go_region
             go_wp2_with fail
             go_roundw
             case rel=>exact⟨(c:Int) - 1,c,_,by omega,rfl,by go_num,(hT.set r c (by omega) (by omega) _).drew,zbT _ _ _ _ _ _ _ HF.out,zck _ _ _ _ _ _ HG.out (by rw[Ds.tab_star _ _ _ _ _ _ (by omega) hs,<-H2.out,<-H3.out];simp [hk]),by simpa using hlt,by (have hzz:=(B).size;exact zbo)⟩
             case measure=>simp [intOf]
           · rw[hv] at c2 H2;go_region
             go_wp2_with fail
             go_roundw
             case rel=>exact⟨(c:Int) - 1,c,_,by omega,rfl,by go_num,(hT.set r c (by omega) (by omega) _).drew,zbT _ _ _ _ _ _ _ HF.out,zck _ _ _ _ _ _ HG.out (by rw[Ds.tab_star _ _ _ _ _ _ (by omega) hs,<-H2.out];simp),by simpa using hlt,by (have hzz:=(B).size;exact zbo)⟩
             case measure=>simp [intOf]
         · go_wp2_with (go_at_call 53;(with_reducible refine (hS.out r (by omega) _ B).mono ?_);rintro e w1 ⟨rfl,hb⟩;have B:=bt B hb;have hT:=hT.below hb hlt;have hlt:=Nat.lt_of_lt_of_le hlt hb.size;have c1:=zac hb c1;have c2:=zac hb c2;clear hb)
           have fz:=hT.2;have hk':n<=c:=by omega
           cases hv:F (r+1) c
           all_goals
            rw[hv] at c2 H2;go_region
            go_wp2_with fail
            go_roundw
            case rel=>exact⟨(c:Int) - 1,c,_,by omega,rfl,by go_num,(hT.set r c (by omega) (by omega) _).drew,zbT _ _ _ _ _ _ _ HF.out,zck _ _ _ _ _ _ HG.out (by rw[Ds.tab_star _ _ _ _ _ _ (by omega) hs,<-H2.out];simp [hk]),by simpa using hlt,by (have hzz:=(B).size;exact zbo)⟩
            case measure=>simp [intOf]
end
end Go.Proofs.YtefcmdmfgdcpmaaGreatDoor
section
namespace Go.Proofs.YtefcmdmfgdcpmaaGreatDoor
open Go.RowKit
namespace Ds
theorem zkU(l:List UInt8):(pieces l).length<=l.length+1∧∀ q∈pieces l,q.length<=l.length:=by
 induction l with
 | nil=>simp [pieces]
 | cons c r ih =>
   simp only[pieces]
   split
   · refine⟨by simp;omega,fun q hq=>?_⟩
     rcases List.mem_cons.1 hq with rfl|h
     · simp
     · have:=ih.2 q h;simp;omega
   · cases e:pieces r with
     | nil=>exact absurd e (pieces_ne r)
     | cons p ps =>
       rw[e] at ih;refine⟨by have:=ih.1;simp at this ⊢;omega,fun q hq=>?_⟩
       rcases List.mem_cons.1 hq with rfl|h
       · have:=ih.2 p (by simp);simp;omega
       · have:=ih.2 q (by simp [h]);simp;omega
theorem beq_n(c:UInt8):((c.toNat:Int)==42)=decide (c=42):=by
 rw[Bool.eq_iff_iff];simp only[beq_iff_eq,decide_eq_true_eq]
 exact⟨fun h=>UInt8.toNat_inj.1 (by rw[show (42:UInt8).toNat=42 from rfl];omega),fun h=>by rw[h];rfl⟩
theorem beq_c(c d:UInt8):((c.toNat:Int)==d.toNat)=decide (c=d):=by
 rw[Bool.eq_iff_iff];simp only[beq_iff_eq,decide_eq_true_eq]
 exact⟨fun h=>UInt8.toNat_inj.1 (by omega),fun h=>by rw[h]⟩
theorem g_getD(s:ByteArray)(k:Nat)(h:k<s.size):(bl s).getD k 0=s[k]:=by
 rw[List.getD_eq_getElem?_getD,List.getElem?_eq_getElem (by rw[bl_length];exact h),bl_get s k h];rfl
end Ds
theorem ztO(i pq:Nat)(q:ByteArray)(w:World)(hi:i<q.size)(hc:w.cell? ⟨pq,0,none⟩=some (.string q)) :
  Calls Tryz.prog 55 #[.int .i64 i,.pointer (some ⟨pq,0,none⟩)] w fun e w'=>e=.returned (.bool (decide ((Ds.bl q).getD i 0=42)))∧Below w.heap.size w w':=by
 have D:=lh (show ((q[i].toNat:Int)==42)=decide ((Ds.bl q).getD i 0=42) by rw[Ds.beq_n,Ds.g_getD q i hi]);go_enter Tryz.func55,Tryz.ntmps55
 go_wp2_with fail
 go_ret
 exact⟨zaF D.out,Below.refl _ _⟩
theorem ztP(i k pq ps:Nat)(q s:ByteArray)(w:World)(hi:i<q.size)(hk:k<s.size)(hc:w.cell? ⟨pq,0,none⟩=some (.string q))(hd:w.cell? ⟨ps,0,none⟩=some (.string s)) :
  Calls Tryz.prog 56 #[.int .i64 i,.int .i64 k,.pointer (some ⟨pq,0,none⟩),.pointer (some ⟨ps,0,none⟩)] w fun e w'=>e=.returned (.bool (decide ((Ds.bl q).getD i 0=(Ds.bl s).getD k 0)))∧Below w.heap.size w w':=by
 have D:=lh (show ((q[i].toNat:Int)==s[k].toNat)=decide ((Ds.bl q).getD i 0=(Ds.bl s).getD k 0) by rw[Ds.beq_c,Ds.g_getD q i hi,Ds.g_getD s k hk]);have i1:(0:Int)<=i:=by omega
 have i2:(i:Int)<q.size:=by omega
 have k1:(0:Int)<=k:=by omega
 have k2:(k:Int)<s.size:=by omega
 go_enter Tryz.func56,Tryz.ntmps56
 go_wp2_with fail
 go_region
 go_wp2_with fail
 go_ret
 exact⟨zaF D.out,by (repeat (first|exact Below.refl _ _|assumption|(refine Below.drew ?_)|(refine Below.alloc ?_ (by simp) _)|(refine Below.setCell ?_ (by simp) _)))⟩
theorem zv9(q s:ByteArray) :
  Ds.tab (fun i=>decide ((Ds.bl q).getD i 0=42)) (fun i k=>decide ((Ds.bl q).getD i 0=(Ds.bl s).getD k 0)) q.size s.size 0 0=Ds.mtQ (Ds.bl q) (Ds.bl s):=by
 have h:=Ds.tab_mt (fun c:UInt8=>decide (c=42)) (fun c d=>decide (c=d)) (Ds.bl q) (Ds.bl s) (fun i=>decide ((Ds.bl q).getD i 0=42)) (fun i k=>decide ((Ds.bl q).getD i 0=(Ds.bl s).getD k 0))
  (fun i h=>by simp [h]) (fun i k h h'=>by simp [h,h']) _ 0 0 (Nat.le_refl _) (Nat.zero_le _)
 rw[Ds.bl_length,Ds.bl_length] at h;exact h
theorem zu3(x y:ByteArray)(pq ps:Nat)(w:World)(hxs:x.size<40)(hys:y.size<40)(cx:w.cell? ⟨pq,0,none⟩=some (.string x))(cy:w.cell? ⟨ps,0,none⟩=some (.string y)) :
  Calls Tryz.prog 52 #[.int .i64 x.size,.int .i64 y.size,.func (.func 55) #[] #[.pointer (some ⟨pq,0,none⟩)],.func (.func 56) #[] #[.pointer (some ⟨pq,0,none⟩),.pointer (some ⟨ps,0,none⟩)]] w fun e w'=>e=.returned (.bool (Ds.mtQ (Ds.bl x) (Ds.bl y)))∧Below w.heap.size w w':=by
 have h:=tbq x.size y.size hxs hys pq ps _ _ w (lh fun i hi w' hb=>ztO i pq x w' hi (zac hb cx)) (lh fun i k hi hk w' hb=>ztP i k pq ps x y w' hi hk (zac hb cx) (zac hb cy));rwa [zv9] at h
theorem zvz(i pa ba n c:Nat)(x:ByteArray)(w:World)(hi:i<n)(_hn:n<=1000)(hp:w.cell? ⟨pa,0,none⟩=some (.slice (some ⟨ba,0,none⟩) n c))(hx:w.cell? ⟨ba,i,none⟩=some (.string x)) :
  Calls Tryz.prog 53 #[.int .i64 i,.pointer (some ⟨pa,0,none⟩)] w fun e w'=>e=.returned (.bool (decide (Ds.bl x=[42,42])))∧Below w.heap.size w w':=by
 by_cases h:x=⟨#[42,42]⟩
 · have D:=lh (decide_eq_true ((Ds.bl_eq x [42,42]).1 h));subst h;go_enter Tryz.func53,Tryz.ntmps53
   go_wp2_with fail
   go_ret
   exact⟨zaF D.out.symm,Below.refl _ _⟩
 · have D:=lh (decide_eq_false (fun e=>h ((Ds.bl_eq x [42,42]).2 e)));have hne:=Ds.bl_beq x [42,42] h;clear h;go_enter Tryz.func53,Tryz.ntmps53
   go_wp2_with fail
   go_ret
   exact⟨zaF D.out.symm,Below.refl _ _⟩
theorem zvA(i k pa ba n c pb bb m d:Nat)(x y:ByteArray)(w:World)(hi:i<n)(hk:k<m)(_hn:n<=1000)(_hm:m<=1000)(hxs:x.size<40)(hys:y.size<40)(hp:w.cell? ⟨pa,0,none⟩=some (.slice (some ⟨ba,0,none⟩) n c))(hx:w.cell? ⟨ba,i,none⟩=some (.string x))(hq:w.cell? ⟨pb,0,none⟩=some (.slice (some ⟨bb,0,none⟩) m d))(hy:w.cell? ⟨bb,k,none⟩=some (.string y)) :
  Calls Tryz.prog 54 #[.int .i64 i,.int .i64 k,.pointer (some ⟨pa,0,none⟩),.pointer (some ⟨pb,0,none⟩)] w fun e w'=>e=.returned (.bool (Ds.mtQ (Ds.bl x) (Ds.bl y)))∧Below w.heap.size w w':=by
 have i1:(0:Int)<=i:=by omega
 have i2:(i:Int)<n:=by omega
 have k1:(0:Int)<=k:=by omega
 have k2:(k:Int)<m:=by omega
 have l1:pa<w.heap.size:=block_lt_of_cell hp;have l2:ba<w.heap.size:=block_lt_of_cell hx;have l3:pb<w.heap.size:=block_lt_of_cell hq;have l4:bb<w.heap.size:=block_lt_of_cell hy;go_enter Tryz.func54,Tryz.ntmps54
 go_wp2_with fail
 go_region
 · have cx:(((w.alloc (.cells #[.string x] 9)).alloc (.cells #[.string y] 9)).drew).cell? ⟨w.heap.size,0,none⟩=some (.string x):=by simp [go_sem]
   have cy:(((w.alloc (.cells #[.string x] 9)).alloc (.cells #[.string y] 9)).drew).cell? ⟨w.heap.size+1,0,none⟩=some (.string y):=by simp [go_sem]
   clear i1 i2 k1 k2;go_wp2_with (go_at_call 52;(with_reducible refine (zu3 x y _ _ _ hxs hys cx cy).mono ?_);rintro e w1 ⟨rfl,hb⟩)
   go_ret
   exact⟨rfl,(((Below.refl _ _).alloc (Nat.le_refl _) _).alloc (by simp) _).drew.trans (hb.mono (by simp;omega))⟩
 · have cx:(((w.alloc (.cells #[.string y] 9)).alloc (.cells #[.string x] 9)).drew).cell? ⟨w.heap.size+1,0,none⟩=some (.string x):=by simp [go_sem]
   have cy:(((w.alloc (.cells #[.string y] 9)).alloc (.cells #[.string x] 9)).drew).cell? ⟨w.heap.size,0,none⟩=some (.string y):=by simp [go_sem]
   clear i1 i2 k1 k2;go_wp2_with (go_at_call 52;(with_reducible refine (zu3 x y _ _ _ hxs hys cx cy).mono ?_);rintro e w1 ⟨rfl,hb⟩)
   go_ret
   exact⟨rfl,(((Below.refl _ _).alloc (Nat.le_refl _) _).alloc (by simp) _).drew.trans (hb.mono (by simp;omega))⟩
theorem zv8(ps ns:List ByteArray) :
  Ds.tab (fun i=>decide (Ds.bl (ps.getD i ⟨#[]⟩)=[42,42])) (fun i k=>Ds.mtQ (Ds.bl (ps.getD i ⟨#[]⟩)) (Ds.bl (ns.getD k ⟨#[]⟩))) ps.length ns.length 0 0=Ds.mtP (ps.map Ds.bl) (ns.map Ds.bl):=by
 have h:=Ds.tab_mt (fun q:List UInt8=>decide (q=[42,42])) Ds.mtQ (ps.map Ds.bl) (ns.map Ds.bl) (fun i=>decide (Ds.bl (ps.getD i ⟨#[]⟩)=[42,42])) (fun i k=>Ds.mtQ (Ds.bl (ps.getD i ⟨#[]⟩)) (Ds.bl (ns.getD k ⟨#[]⟩)))
  (fun i h=>by simp at h;simp [h]) (fun i k h h'=>by simp at h h';simp [h,h']) _ 0 0 (Nat.le_refl _) (Nat.zero_le _)
 rw[List.length_map,List.length_map] at h;exact h
theorem zwa(ps ns:List ByteArray)(pa ba c pb bb d:Nat)(w:World)(hp:ps.length<40)(hn:ns.length<40)(hps:∀ k (h:k<ps.length),ps[k].size<40)(hns:∀ k (h:k<ns.length),ns[k].size<40)(ca:w.cell? ⟨pa,0,none⟩=some (.slice (some ⟨ba,0,none⟩) ps.length c))(cb:w.cell? ⟨pb,0,none⟩=some (.slice (some ⟨bb,0,none⟩) ns.length d))(hS:Strs w ba ps)(hT:Strs w bb ns) :
  Calls Tryz.prog 52 #[.int .i64 ps.length,.int .i64 ns.length,.func (.func 53) #[] #[.pointer (some ⟨pa,0,none⟩)],.func (.func 54) #[] #[.pointer (some ⟨pa,0,none⟩),.pointer (some ⟨pb,0,none⟩)]] w fun e w'=>e=.returned (.bool (Ds.mtP (ps.map Ds.bl) (ns.map Ds.bl)))∧Below w.heap.size w w':=by
 have g:∀ (l:List ByteArray) k (h:k<l.length),l.getD k ⟨#[]⟩=l[k]:=fun l k h=>by simp [h]
 have h:=tbp ps.length ns.length hp hn pa pb (fun i=>decide (Ds.bl (ps.getD i ⟨#[]⟩)=[42,42])) (fun i k=>Ds.mtQ (Ds.bl (ps.getD i ⟨#[]⟩)) (Ds.bl (ns.getD k ⟨#[]⟩))) w
  (lh fun i hi w' hb=>by
    have:=zvz i pa ba ps.length c ps[i] w' hi (by omega) (zac hb ca) (zac hb (hS i hi));simp only[g ps i hi];exact this)
  (lh fun i k hi hk w' hb=>by
    have:=zvA i k pa ba ps.length c pb bb ns.length d ps[i] ns[k] w' hi hk (by omega) (by omega) (hps i hi) (hns k hk) (zac hb ca) (zac hb (hS i hi)) (zac hb cb) (zac hb (hT k hk));simp only[g ps i hi,g ns k hk];exact this)
 rwa [zv8] at h
namespace Ds
theorem match_no(p s:List UInt8)(h:pat p=false∨name s=false):match_ p s=false:=by
 unfold match_;rcases h with h|h <;> simp [h]
theorem match_yes(p s:List UInt8)(h:pat p=true)(h':name s=true):match_ p s=mtP (pieces p) (pieces s):=by
 unfold match_;rw[h,h'];rfl
theorem piece_bd{ps:List ByteArray}{s:ByteArray}(h:ps.map bl=pieces (bl s))(hs:s.size<=31)(k:Nat)(hk:k<ps.length):ps[k].size<40:=by
 have:=(zkU (bl s)).2 (bl ps[k]) (by rw[<-h];exact List.mem_map_of_mem (List.getElem_mem hk));rw[bl_length,bl_length] at this;omega
end Ds
theorem zj5(s:ByteArray)(hn:Ds.pat (Ds.bl s)=true):s.size<=31:=by
 have:=((Ds.pat_parts _).1 hn).1.2;rwa [Ds.bl_length] at this
theorem zwb(ps ns:List ByteArray)(w:World)(hp:ps.length<40)(hn:ns.length<40)(hps:Hid (∀ k (h:k<ps.length),ps[k].size<40))(hns:Hid (∀ k (h:k<ns.length),ns[k].size<40)) :
  Calls Tryz.prog 52 #[.int .i64 ps.length,.int .i64 ns.length,.func (.func 53) #[] #[.pointer (some ⟨w.heap.size+1+1,0,none⟩)],.func (.func 54) #[] #[.pointer (some ⟨w.heap.size+1+1,0,none⟩),.pointer (some ⟨w.heap.size+1+1+1,0,none⟩)]]
   ((((w.alloc (.cells (ps.map Value.string).toArray 9)).alloc (.cells (ns.map Value.string).toArray 9)).alloc (.cells #[.slice (some ⟨w.heap.size,0,none⟩) ps.length ps.length] 107)).alloc (.cells #[.slice (some ⟨w.heap.size+1,0,none⟩) ns.length ns.length] 107))
   fun e w'=>e=.returned (.bool (Ds.mtP (ps.map Ds.bl) (ns.map Ds.bl)))∧Below w.heap.size w w':=by
 have hS:=(Strs.new w ps 9).below ((((Below.refl _ _).alloc (Nat.le_refl _) (.cells (ns.map Value.string).toArray 9)).alloc (by simp) (.cells #[.slice (some ⟨w.heap.size,0,none⟩) ps.length ps.length] 107)).alloc (by simp) (.cells #[.slice (some ⟨w.heap.size+1,0,none⟩) ns.length ns.length] 107));have hT:=(Strs.new (w.alloc (.cells (ps.map Value.string).toArray 9)) ns 9).below (((Below.refl _ _).alloc (Nat.le_refl _) (.cells #[.slice (some ⟨w.heap.size,0,none⟩) ps.length ps.length] 107)).alloc (by simp) (.cells #[.slice (some ⟨w.heap.size+1,0,none⟩) ns.length ns.length] 107));rw[show (w.alloc (.cells (ps.map Value.string).toArray 9)).heap.size=w.heap.size+1 by simp] at hT;refine (zwa ps ns (w.heap.size+1+1) w.heap.size ps.length (w.heap.size+1+1+1) (w.heap.size+1) ns.length _ hp hn hps.out hns.out (by simp [go_sem]) (by simp [go_sem]) hS hT).mono ?_
 rintro e w' ⟨he,hb⟩;refine⟨he,?_⟩
 exact ((((((Below.refl w.heap.size w).alloc (Nat.le_refl _) _).alloc (by simp) _).alloc (by simp;omega) _).alloc (by simp;omega) _).trans (hb.mono (by simp;omega)))
theorem zjx(p s:ByteArray)(w:World)(hm:MaxL w) :
  Calls Tryz.prog 18 #[.string p,.string s] w fun e w'=>e=.returned (.bool (Ds.match_ (Ds.bl p) (Ds.bl s)))∧Below w.heap.size w w':=by
 have B:=Below.refl w.heap.size w;cases hp:Ds.pat (Ds.bl p)
 · have D:=lh (Ds.match_no (Ds.bl p) (Ds.bl s) (.inl hp));go_enter Tryz.func18,Tryz.ntmps18
   go_wp2_with (go_at_call 17;(with_reducible refine (zeJ _ _ hm).mono ?_);rintro e w1 ⟨rfl,hb⟩;have B:=bt B hb;have hm:=hm.below hb;clear hb)
   go_ret
   exact⟨zaF D.out.symm,B⟩
 cases hs:Ds.name (Ds.bl s)
 · have D:=lh (Ds.match_no (Ds.bl p) (Ds.bl s) (.inr hs));go_enter Tryz.func18,Tryz.ntmps18
   go_wp2_with (first|(go_at_call 17;(with_reducible refine (zeJ _ _ hm).mono ?_);rintro e w1 ⟨rfl,hb⟩;have B:=bt B hb;have hm:=hm.below hb;clear hb)|(go_at_call 34;(with_reducible refine (zbh _ _ hm).mono ?_);rintro e w1 ⟨rfl,hb⟩;have B:=bt B hb;have hm:=hm.below hb;clear hb))
   go_ret
   exact⟨zaF D.out.symm,B⟩
 have D:=lh (Ds.match_yes (Ds.bl p) (Ds.bl s) hp hs);have p1:=zj5 p hp;have s1:=zj5 s (Ds.name_pat _ hs);have p2:p.size<4294967281:=by omega
 have s2:s.size<4294967281:=by omega
 go_enter Tryz.func18,Tryz.ntmps18
 go_wp2_with (first|(go_at_call 17;(with_reducible refine (zeJ _ _ hm).mono ?_);rintro e w1 ⟨rfl,hb⟩;have B:=bt B hb;have hm:=hm.below hb;clear hb)|(go_at_call 34;(with_reducible refine (zbh _ _ hm).mono ?_);rintro e w1 ⟨rfl,hb⟩;have B:=bt B hb;have hm:=hm.below hb;clear hb)|(go_at_call 51;(with_reducible refine (zcU p _ p2 hm).mono ?_);rintro e w' ⟨ps,hpl,hpp,rfl,rfl⟩;have HP:=lh hpp;clear hpp;have hm:=hm.below ((Below.refl _ _).alloc (Nat.le_refl _) (Obj.cells (ps.map Value.string).toArray 9 (0,0))))|(go_at_call 51;(with_reducible refine (zcU s _ s2 hm).mono ?_);rintro e w' ⟨ns,hnl,hnn,rfl,rfl⟩;have HN:=lh hnn;clear hnn))
 have q1:ps.length<40:=by omega
 have q2:ns.length<40:=by omega
 have q3:=lh (Ds.piece_bd HP.out p1);have q4:=lh (Ds.piece_bd HN.out s1);go_wp2_with (go_at_call 52;(with_reducible refine (zwb ps ns w1 q1 q2 q3 q4).mono ?_);rintro e w2 ⟨rfl,hb⟩)
 go_ret
 exact⟨zaF (by rw[D.out,HP.out,HN.out]),bt B hb⟩
end Go.Proofs.YtefcmdmfgdcpmaaGreatDoor
end
