/- Contracts: the closures of Match; Match. -/
import Derived.Test.YtkafnmbldpofdaaGreatDoorChecked
import Derived.Test.YtkafnmbldpofdaaGreatDoorKit
import Derived.Test.YtkafnmbldpofdaaGreatDoorDs
import Derived.Test.YtkafnmbldpofdaaGreatDoorCalE
import Derived.Test.YtkafnmbldpofdaaGreatDoorDsA
import Derived.RegionTactic
import Derived.BigQuiet
import Derived.Deep.QuietTactic
import Derived.Deep.RegionHeld3
import Derived.IntWalk
namespace Go.Proofs.YtkafnmbldpofdaaGreatDoor
section
open Go.RowKit
set_option maxRecDepth 20000
def zl3:Array Value:=Array.replicate 1600 (.bool false)
theorem zf2(i:Nat)(h:i<1600):zl3[i]?=some (.bool false):=by simp [zl3,h]
theorem zp9:(Tryz.prog.info? 269).bind (·.zero)=some (.agg zl3):=by kernel_rfl
attribute [irreducible] zl3
theorem zm9{P:Program}{w:World}{t:TypeId}{i:TypeInfo}(h:P.info? t=some i):(typeInfo t).run P w=.ok i w:=by
 simp [typeInfo,h]
theorem zmL{P:Program}(t:TypeId)(v:Value)(w:World)(h:(P.info? t).bind (·.zero)=some v):(zeroValue t).run P w=.ok v w:=by
 cases e:P.info? t with
 | none=>rw[e] at h;cases h
 | some i =>
   rw[e] at h
   have h':i.zero=some v:=h
   unfold zeroValue
   simp only[Sem.run_bind,zm9 e,Result.andThen_ok,h',Sem.run_pure]
theorem zdB(ev:Operand->Value)(w:World)(dst t pos af gd) :
  (execOp ev ⟨dst,.alloc 269,t,pos,af,gd⟩).run Tryz.prog w=.ok (.value (.pointer (some ⟨w.heap.size,0,none⟩))) (w.alloc (.cells zl3 269)):=by
 have hz:=zmL 269 (.agg zl3) w zp9
 unfold execOp
 simp only[Instr.alloc,Sem.run_bind,hz,Result.andThen_ok]
 simp [go_sem,newVar,newRow]
def TI(w:World)(b:Nat)(F:Nat->Nat->Bool):Prop:=(∀ r c,r<40->c<40->w.cell? ⟨b,r*40+c,none⟩=some (.bool (F r c)))∧(∀ o,w.frozen? ⟨b,o,none⟩=false)
theorem TI.new(w:World):TI (w.alloc (.cells zl3 269)) w.heap.size (fun _ _=>false) :=
 ⟨fun r c hr hc=>by rw[cell_of_row _ w.heap.size _ _ 269 (0,0) (heap_alloc_new w _)];exact zf2 _ (by omega),fun o=>by simp⟩
theorem TI.below{w w':World}{b:Nat}{F:Nat->Nat->Bool}(h:TI w b F)(hb:Below w.heap.size w w')(hlt:b<w.heap.size):TI w' b F :=
 ⟨fun r c hr hc=>zac hb (h.1 r c hr hc),fun o=>by rw[(bcell hb).2 b o hlt];exact h.2 o⟩
theorem TI.set{w:World}{b:Nat}{F:Nat->Nat->Bool}(h:TI w b F)(r0 c0:Nat)(hr0:r0<40)(hc0:c0<40)(v:Bool):TI (w.setCell ⟨b,r0*40+c0,none⟩ (.bool v)) b (fun r c=>if r=r0∧c=c0 then v else F r c):=by
 refine⟨fun r c hr hc=>?_,fun o=>by have:=h.2 o;simpa using this⟩
 have h1:=h.1 r c hr hc
 have h0:=h.1 r0 c0 hr0 hc0
 by_cases e:r=r0∧c=c0
 · obtain⟨rfl,rfl⟩:=e
   simp [go_sem,h0]
 · have hne:r0*40+c0≠r*40+c:=by omega
   show _=some (Value.bool (if r=r0∧c=c0 then v else F r c))
   rw[if_neg e,<-h1]
   simp [go_sem]
theorem TI.drew{w:World}{b:Nat}{F:Nat->Nat->Bool}(h:TI w b F):TI w.drew b F:=h
theorem TI.start(w:World)(p n:Nat)(hp:p<40)(hn:n<40):TI (w.alloc (.cells (zl3.setIfInBounds (p*40+n) (.bool true)) 269)) w.heap.size (fun r c=>if r=p∧c=n then true else false):=by
 have h:=(TI.new w).set p n hp hn true
 simpa [go_sem] using h
def bvc(w:World)(b o:Nat):Bool:=match w.cell? ⟨b,o,none⟩ with|some (.bool x)=>x|_=>false
theorem zlp{w:World}{b o:Nat}{x:Bool}(h:w.cell? ⟨b,o,none⟩=some (.bool x)):w.cell? ⟨b,o,none⟩=some (.bool (bvc w b o)):=by
 rw[h];unfold bvc;rw[h]
def TJ(w:World)(b:Nat)(F:Nat->Nat->Bool)(r c:Nat):Prop:=∃ x,TI w b (fun r' c'=>if r'=r∧c'=c then x else F r' c')
theorem TJ.of{w:World}{b:Nat}{F:Nat->Nat->Bool}(h:TI w b F)(r c:Nat):TJ w b F r c:=⟨F r c,⟨fun r' c' h1 h2=>by
 rw[h.1 r' c' h1 h2]
 show _=some (Value.bool (if r'=r∧c'=c then F r c else F r' c'))
 by_cases e:r'=r∧c'=c
 · rw[if_pos e,e.1,e.2]
 · rw[if_neg e],h.2⟩⟩
theorem TJ.set{w:World}{b:Nat}{F:Nat->Nat->Bool}{r c:Nat}(h:TJ w b F r c)(hr:r<40)(hc:c<40)(v:Bool):TI (w.setCell ⟨b,r*40+c,none⟩ (.bool v)) b (fun r' c'=>if r'=r∧c'=c then v else F r' c'):=by
 obtain⟨x,h⟩:=h
 have h2:=h.set r c hr hc v
 have e:(fun r' c'=>if r'=r∧c'=c then v else (if r'=r∧c'=c then x else F r' c'))=fun r' c'=>if r'=r∧c'=c then v else F r' c':=by
  funext r' c';split <;> rfl
 rw[e] at h2;exact h2
theorem TJ.set'{w:World}{b:Nat}{F:Nat->Nat->Bool}{r c:Nat}(h:TJ w b F r c)(hr:r<40)(hc:c<40)(v:Bool):TJ (w.setCell ⟨b,r*40+c,none⟩ (.bool v)) b F r c:=⟨v,h.set hr hc v⟩
def SJ(W:World)(b:Nat)(F:Nat->Nat->Bool)(r c:Nat)(w:World):Prop:=w.cell? ⟨b,(r+1)*40+(c+1),none⟩=some (.bool true)∧w.cell? ⟨b,r*40+c,none⟩=some (.bool (bvc w b (r*40+c)))∧(∀ o,w.frozen? ⟨b,o,none⟩=false)∧TJ w b F r c∧b<w.heap.size∧Below W.heap.size W w
theorem SJ.start{W w:World}{b r c:Nat}{F:Nat->Nat->Bool}(h:TI w b F)(hr:r+1<40)(hc:c+1<40)(hv:F (r+1) (c+1)=true)(hb:b<w.heap.size)(B:Below W.heap.size W w):SJ W b F r c w.drew :=
 ⟨by have:=h.1 (r+1) (c+1) hr hc;rw[hv] at this;exact this,zlp (h.1 r c (by omega) (by omega)),h.2,TJ.of h r c,hb,B.drew⟩
theorem SJ.call{W w w2:World}{b r c:Nat}{F:Nat->Nat->Bool}(hb:Below w.heap.size w w2)(h:SJ W b F r c w):SJ W b F r c w2:=by
 obtain⟨h1,h2,h3,⟨x,h4⟩,h5,h6⟩:=h
 exact⟨zac hb h1,zlp (zac hb h2),(h4.below hb h5).2,⟨x,h4.below hb h5⟩,Nat.lt_of_lt_of_le h5 hb.size,bt h6 hb⟩
theorem SJ.store{W w:World}{r c:Nat}{F:Nat->Nat->Bool}(hr:r+1<40)(hc:c+1<40)(v:Bool)(h:SJ W W.heap.size F r c w):SJ W W.heap.size F r c (w.setCell ⟨W.heap.size,r*40+c,none⟩ (.bool v)):=by
 obtain⟨h1,h2,h3,h4,h5,h6⟩:=h
 have hT:=h4.set (by omega) (by omega) v
 have g1:=hT.1 (r+1) (c+1) hr hc
 have g2:=hT.1 r c (by omega) (by omega)
 refine⟨?_,zlp g2,hT.2,h4.set' (by omega) (by omega) v,by simpa using h5,h6.setCell (by simp) _⟩
 have hne:r*40+c≠(r+1)*40+(c+1):=by omega
 rw[<-h1]
 simp [go_sem]
theorem zbS(F T:Nat->Nat->Bool)(p n r c:Nat)(v:Bool)(h:∀ r' c',r+1<=r'->r'<=p->c'<=n->F r' c'=T r' c') :
  ∀ r' c',r+1<=r'->r'<=p->c'<=n->(if r'=r∧c'=c then v else F r' c')=T r' c':=fun r' c' h1 h2 h3=>by rw[if_neg (by omega)];exact h r' c' h1 h2 h3
theorem zce(F T:Nat->Nat->Bool)(n r c:Nat)(v:Bool)(h:∀ c',c+1<=c'->c'<=n->F r c'=T r c')(hv:v=T r c) :
  ∀ c',c<=c'->c'<=n->(if r=r∧c'=c then v else F r c')=T r c':=fun c' h1 h2=>by
 by_cases e:c'=c
 · subst e;rw[if_pos ⟨rfl,rfl⟩];exact hv
 · rw[if_neg (by omega)];exact h c' (by omega) h2
end
end Go.Proofs.YtkafnmbldpofdaaGreatDoor
section
namespace Go.Proofs.YtkafnmbldpofdaaGreatDoor.Ds
open Lib (compareBytes)
theorem zef(x:UInt8)(a b:List UInt8):compareBytes (x::a) (x::b)=compareBytes a b:=by
 rw[compareBytes];simp [UInt8.lt_irrefl]
theorem zfD(x y:UInt8):x<y∨x=y∨y<x:=by
 rcases Nat.lt_trichotomy x.toNat y.toNat with h|h|h
 · exact .inl (UInt8.lt_iff_toNat_lt.2 h)
 · exact .inr (.inl (UInt8.toNat_inj.1 h))
 · exact .inr (.inr (UInt8.lt_iff_toNat_lt.2 h))
theorem zfd(x y:UInt8)(a b:List UInt8)(h:x<y):compareBytes (x::a) (y::b)=-1:=by rw[compareBytes];simp [h]
theorem zfg(x y:UInt8)(a b:List UInt8)(h:y<x):compareBytes (x::a) (y::b)=1:=by
 have:¬ x<y:=fun h'=>absurd (UInt8.lt_trans h h') (UInt8.lt_irrefl y)
 rw[compareBytes];simp [h,this]
theorem cmp_zero:∀ a b:List UInt8,compareBytes a b=0↔a=b
 | [],[]=>by simp [compareBytes]
 | [],_::_=>by simp [compareBytes]
 | _::_,[]=>by simp [compareBytes]
 | x::a,y::b=>by
   rcases zfD x y with h|h|h
   · rw[zfd _ _ _ _ h]
     have:x≠y:=fun e=>UInt8.lt_irrefl y (e ▸ h)
     simp [this]
   · subst h;rw[zef,cmp_zero a b];simp
   · rw[zfg _ _ _ _ h]
     have:x≠y:=fun e=>UInt8.lt_irrefl y (e ▸ h)
     simp [this]
theorem cmp_neg:∀ a b:List UInt8,compareBytes b a=- compareBytes a b
 | [],[]=>by simp [compareBytes]
 | [],_::_=>by simp [compareBytes]
 | _::_,[]=>by simp [compareBytes]
 | x::a,y::b=>by
   rcases zfD x y with h|h|h
   · rw[zfd _ _ _ _ h,zfg _ _ _ _ h];rfl
   · subst h;rw[zef,zef,cmp_neg a b]
   · rw[zfd _ _ _ _ h,zfg _ _ _ _ h]
theorem cmp_trans:∀ a b c:List UInt8,compareBytes a b<=0->compareBytes b c<=0->compareBytes a c<=0
 | [],b,[],_,_=>by simp [compareBytes]
 | [],b,_::_,_,_=>by simp [compareBytes]
 | _::_,[],c,h,_=>by simp [compareBytes] at h
 | _::_,_::_,[],_,h=>by simp [compareBytes] at h
 | x::a,y::b,z::c,h,k=>by
   rcases zfD x y with h1|h1|h1
   · rcases zfD y z with h2|h2|h2
     · rw[zfd _ _ _ _ (UInt8.lt_trans h1 h2)];simp
     · subst h2;rw[zfd _ _ _ _ h1];simp
     · rw[zfg _ _ _ _ h2] at k;simp at k
   · subst h1
     rcases zfD x z with h2|h2|h2
     · rw[zfd _ _ _ _ h2];simp
     · subst h2;rw[zef] at h k ⊢;exact cmp_trans a b c h k
     · rw[zfg _ _ _ _ h2] at k;simp at k
   · rw[zfg _ _ _ _ h1] at h;simp at h
/-! pieces -/
theorem zjE(a b:List UInt8):pieces (a++46::b)=pieces a++pieces b:=by
 induction a with
 | nil=>simp [pieces]
 | cons c r ih =>
   simp only[List.cons_append,pieces,ih]
   split
   · rfl
   · cases e:pieces r with
     | nil=>exact absurd e (zb8 r)
     | cons p ps=>simp
theorem zeE(q:List UInt8)(h:46 ∉ q):pieces q=[q]:=by
 induction q with
 | nil=>rfl
 | cons c r ih =>
   simp only[List.mem_cons,not_or] at h
   rw[pieces,if_neg (fun e=>h.1 e.symm),ih h.2]
/-! bytes of names and patterns -/
theorem ztp(c:UInt8)(h:pl c=true):c.toNat<=90∧c≠46∧c≠42:=by
 simp only[pl,up,dg,Bool.or_eq_true,Bool.and_eq_true,decide_eq_true_eq] at h
 exact⟨by omega,fun e=>by subst e;simp at h,fun e=>by subst e;simp at h⟩
theorem ztj(c:UInt8)(h:up c=true):pl c=true:=by simp [pl,h]
theorem zpU(c:UInt8)(h:ups c=true):pls c=true:=by
 simp only[ups,Bool.or_eq_true] at h
 rcases h with h|h <;> simp [pls,pl,h]
theorem zi7(F G:UInt8->Bool)(hFG:∀ c,F c=true->G c=true)(q:List UInt8)(h:qual F G q=true):∀ c∈q,G c=true:=by
 cases q with
 | nil=>simp
 | cons x r =>
   simp only[qual,Bool.and_eq_true,decide_eq_true_eq,List.all_eq_true] at h
   intro c hc
   rcases List.mem_cons.1 hc with rfl|hc
   · exact hFG _ h.1.2
   · exact h.2 c hc
theorem zm0(q:List UInt8)(h:nameQ q=true):∀ c∈q,pl c=true:=zi7 up pl ztj q h
theorem zmT(q:List UInt8)(h:patQ q=true):∀ c∈q,pls c=true:=by
 unfold patQ at h
 simp only[Bool.or_eq_true,Bool.and_eq_true,decide_eq_true_eq] at h
 rcases h with rfl|h
 · intro c hc;simp at hc;subst hc;rfl
 · exact zi7 ups pls zpU q h.1
theorem zjI(q:List UInt8)(h:nameQ q=true):patQ q=true:=by
 have hp:=zm0 q h
 have hs:ss q=false:=by
  rw[Bool.eq_false_iff]
  intro e
  obtain⟨j,h1,h2,_⟩:=(zin q).1 e
  have hj:j<q.length:=by omega
  rw[List.getD_eq_getElem?_getD,List.getElem?_eq_getElem hj,Option.getD_some] at h2
  exact (ztp _ (hp _ (List.getElem_mem hj))).2.2 (UInt8.toNat_inj.1 h2)
 unfold patQ
 rw[hs]
 unfold nameQ at h
 cases q with
 | nil=>simp [qual] at h
 | cons x r =>
   simp only[qual,Bool.and_eq_true,decide_eq_true_eq,List.all_eq_true] at h
   simp only[qual,Bool.not_false,Bool.and_true,Bool.or_eq_true,Bool.and_eq_true,decide_eq_true_eq,List.all_eq_true]
   exact .inr ⟨⟨h.1.1,by simp [ups,h.1.2]⟩,fun c hc=>by simp [pls,h.2 c hc]⟩
theorem name_parts(s:List UInt8):name s=true↔(1<=s.length∧s.length<=31)∧∀ q∈pieces s,nameQ q=true:=by
 simp [name,and_assoc]
theorem pat_parts(s:List UInt8):pat s=true↔(1<=s.length∧s.length<=31)∧∀ q∈pieces s,patQ q=true:=by
 simp [pat,and_assoc]
theorem name_pat(s:List UInt8)(h:name s=true):pat s=true:=by
 rw[name_parts] at h;rw[pat_parts]
 exact⟨h.1,fun q hq=>zjI q (h.2 q hq)⟩
end Go.Proofs.YtkafnmbldpofdaaGreatDoor.Ds
end
section
namespace Go.Proofs.YtkafnmbldpofdaaGreatDoor.Ds
open Lib (compareBytes)
def k1(c:UInt8):UInt8:=if c=42 then 254 else c
theorem group_parts(g:List UInt8):group g=true↔name g=true∧g.length<=22∧∀ q∈pieces g,num q=0:=by
 simp [group,and_assoc]
end Go.Proofs.YtkafnmbldpofdaaGreatDoor.Ds
end
namespace Go.Proofs.YtkafnmbldpofdaaGreatDoor
section
open Go.RowKit
set_option maxHeartbeats 2000000
set_option maxRecDepth 3000
attribute [local go_sem ↓] zdB
theorem tbq(p n:Nat)(hp:p<40)(hn:n<40)(pq ps:Nat)(S:Nat->Bool)(O:Nat->Nat->Bool)(w:World)(hS:Hid (∀ i:Nat,i<p->∀ w',Below w.heap.size w w'->Calls Tryz.prog 169 #[.int .i64 i,.pointer (some ⟨pq,0,none⟩)] w' fun e w''=>e=.returned (.bool (S i))∧Below w'.heap.size w' w''))(hO:Hid (∀ i k:Nat,i<p->k<n->∀ w',Below w.heap.size w w'->Calls Tryz.prog 170 #[.int .i64 i,.int .i64 k,.pointer (some ⟨pq,0,none⟩),.pointer (some ⟨ps,0,none⟩)] w' fun e w''=>e=.returned (.bool (O i k))∧Below w'.heap.size w' w'')) :
  Calls Tryz.prog 166 #[.int .i64 p,.int .i64 n,.func (.func 169) #[] #[.pointer (some ⟨pq,0,none⟩)],.func (.func 170) #[] #[.pointer (some ⟨pq,0,none⟩),.pointer (some ⟨ps,0,none⟩)]] w fun e w'=>e=.returned (.bool (Ds.tab S O p n 0 0))∧Below w.heap.size w w':=by
 have hz:zl3[p*40+n]?=some (.bool false):=zf2 _ (by omega)
 go_enter Tryz.func166,Tryz.ntmps166
 go_wp2_with fail
 clear hz
 go_loopw [10,11] (fun i _ wr=>∃ (q:Int) (r:Nat) (F:Nat->Nat->Bool),r<=p∧q=(r:Int) - 1∧i=.int .i64 q∧TI wr w.heap.size F∧(∀ r' c,r<=r'->r'<=p->c<=n->F r' c=Ds.tab S O p n r' c)∧w.heap.size<wr.heap.size∧Below w.heap.size w wr) (fun i _ _=>(intOf i+1).toNat)
 case atStart =>
  refine⟨(p:Int) - 1,p,fun r c=>if r=p∧c=n then true else false,by omega,rfl,by go_num,by have h:=(TI.new w).set p n hp hn true;simpa [go_sem] using h,?_,by simp,by (repeat (first|exact Below.refl _ _|assumption|(refine Below.drew ?_)|(refine Below.alloc ?_ (by simp) _)|(refine Below.setCell ?_ (by simp) _)))⟩
  intro r' c h1 h2 h3
  obtain rfl:r'=p:=by omega
  rw[Ds.tab_end _ _ _ _ _ _ (by omega)]
  by_cases hc:c=n <;> simp [hc]
 case round =>
  obtain⟨q,r,F,hr,hq,rfl,hT,hF,hlt,B⟩:=hrel
  have HF:=lh hF
  clear hF
  rcases r with _|r
  · obtain rfl:q=-1:=by omega
    have c0:=hT.1 0 0 (by omega) (by omega)
    have H0:=lh (HF.out 0 0 (by omega) (by omega) (by omega))
    clear hq
    go_wp2_with fail
    go_ret
    exact⟨zal H0.out,B⟩
  · obtain rfl:q=r:=by omega
    clear hq
    go_wp2_with fail
    go_loopw [11] (fun k wr=>∃ (q:Int) (c:Nat) (F:Nat->Nat->Bool),c<=n+1∧q=(c:Int) - 1∧k=.int .i64 q∧TI wr w.heap.size F∧(∀ r' c',r+1<=r'->r'<=p->c'<=n->F r' c'=Ds.tab S O p n r' c')∧(∀ c',c<=c'->c'<=n->F r c'=Ds.tab S O p n r c')∧w.heap.size<wr.heap.size∧Below w.heap.size w wr) (fun k _=>(intOf k+1).toNat)
    case atStart=>exact⟨n,n+1,F,by omega,by omega,rfl,hT,HF.out,by intro c' h1 h2;omega,hlt,B⟩
    case round =>
     clear HF hT hlt B
     obtain⟨q,c,F,hc,hq,rfl,hT,hF,hG,hlt,B⟩:=hrel
     have HF:=lh hF
     have HG:=lh hG
     clear hF hG
     rcases c with _|c
     · obtain rfl:q=-1:=by omega
       clear hq
       go_wp2_with fail
       go_roundw
       case rel =>
        refine⟨(r:Int) - 1,r,F,by omega,rfl,by go_num,hT,?_,hlt,B⟩
        intro r' c' h1 h2 h3
        rcases Nat.lt_or_ge r r' with h|h
        · exact HF.out r' c' h h2 h3
        · obtain rfl:r'=r:=by omega
          exact HG.out c' (by omega) h3
       case measure=>simp [intOf]
     · obtain rfl:q=c:=by omega
       clear hq
       have hcn:c<=n:=by omega
       have c2:=hT.1 (r+1) c (by omega) (by omega)
       have H2:=lh (HF.out (r+1) c (by omega) (by omega) hcn)
       have c1:=hT.1 r c (by omega) (by omega)
       have fz:=hT.2
       cases hs:S r
       · by_cases hk:c<n
         · have c3:=hT.1 (r+1) (c+1) (by omega) (by omega)
           have H3:=lh (HF.out (r+1) (c+1) (by omega) (by omega) (by omega))
           go_wp2_with (go_at_call 169;(with_reducible refine (hS.out r (by omega) _ B).mono ?_);rintro e w1 ⟨rfl,hb⟩;have B:=bt B hb;have hT:=hT.below hb hlt;have hlt:=Nat.lt_of_lt_of_le hlt hb.size;have c1:=zac hb c1;have c2:=zac hb c2;clear hb)
           have fz:=hT.2
           have c3:=hT.1 (r+1) (c+1) (by omega) (by omega)
           cases hv:F (r+1) (c+1)
           · rw[hv] at c3 H3
             go_region
             go_wp2_with fail
             go_roundw
             case rel=>exact⟨(c:Int) - 1,c,_,by omega,rfl,by go_num,(hT.set r c (by omega) (by omega) _).drew,zbS _ _ _ _ _ _ _ HF.out,zce _ _ _ _ _ _ HG.out (by rw[Ds.tab_one _ _ _ _ _ _ (by omega) hs,<-H3.out];simp),by simpa using hlt,by (have hzz:=(B).size;exact za4)⟩
             case measure=>simp [intOf]
           · rw[hv] at c3 H3
             have b1:r+1<40:=by omega
             have b2:c+1<40:=by omega
             have b3:(r:Int)+1<40:=by omega
             have b4:(c:Int)+1<40:=by omega
             have b5:(0:Int)<=(r:Int)+1:=by omega
             have b6:(0:Int)<=(c:Int)+1:=by omega
             have b7:IntKind.i64.wrap ((r:Int)+1)=(r:Int)+1:=IntWalk.i64_in _ (by omega)
             have b8:IntKind.i64.wrap ((c:Int)+1)=(c:Int)+1:=IntWalk.i64_in _ (by omega)
             have b9:(r:Int)<40:=by omega
             have b10:(c:Int)<40:=by omega
             have b11:(0:Int)<=(r:Int):=by omega
             have b12:(0:Int)<=(c:Int):=by omega
             have b13:((r:Int)+1).toNat=r+1:=by omega
             have b14:((c:Int)+1).toNat=c+1:=by omega
             have BD:=B.drew
             have S0:=SJ.start hT b1 b2 hv hlt B
             have H0:=lh S0
             clear S0
             go_region_held3 (fun w'=>w'.cell? ⟨w.heap.size,(r+1)*40+(c+1),none⟩=some (.bool true)∧w'.cell? ⟨w.heap.size,r*40+c,none⟩=some (.bool (bvc w' w.heap.size (r*40+c)))∧(∀ o,w'.frozen? ⟨w.heap.size,o,none⟩=false)∧TJ w' w.heap.size F r c∧w.heap.size<w'.heap.size∧Below w.heap.size w w') (first|exact H0.out|exact SJ.call hb (by assumption)|exact SJ.store b1 b2 _ (by assumption)) (first|(go_at_call 170;(with_reducible refine (hO.out r c (by omega) (by omega) _ (by first|exact BD|(have hh:=(by assumption:SJ w w.heap.size F r c _);exact hh.2.2.2.2.2))).mono ?_);rintro e w2 ⟨rfl,hb⟩))
             have S2:=SJ.call hb H0.out
             have HT2:=lh (S2.2.2.2.1.set (by omega) (by omega) (O r c))
             have HB2:=lh (S2.2.2.2.2.2.setCell (p:=⟨w.heap.size,r*40+c,none⟩) (Nat.le_refl _) (.bool (O r c)))
             have HS2:=S2.2.2.2.2.1
             clear b3 b4 b5 b6 b7 b8 b9 b10 b11 b12 b13 b14 S2
             go_wp2_with fail
             go_roundw
             case rel=>exact⟨(c:Int) - 1,c,_,by omega,rfl,by go_num,HT2.out,zbS _ _ _ _ _ _ _ HF.out,zce _ _ _ _ _ _ HG.out (by rw[Ds.tab_one _ _ _ _ _ _ (by omega) hs,<-H3.out];simp [hk]),by simpa using HS2,HB2.out⟩
             case measure=>simp [intOf]
         · go_wp2_with (go_at_call 169;(with_reducible refine (hS.out r (by omega) _ B).mono ?_);rintro e w1 ⟨rfl,hb⟩;have B:=bt B hb;have hT:=hT.below hb hlt;have hlt:=Nat.lt_of_lt_of_le hlt hb.size;have c1:=zac hb c1;have c2:=zac hb c2;clear hb)
           have fz:=hT.2
           have hk':n<=c:=by omega
           go_region
           go_wp2_with fail
           go_roundw
           case rel=>exact⟨(c:Int) - 1,c,_,by omega,rfl,by go_num,(hT.set r c (by omega) (by omega) _).drew,zbS _ _ _ _ _ _ _ HF.out,zce _ _ _ _ _ _ HG.out (by rw[Ds.tab_one _ _ _ _ _ _ (by omega) hs];simp [hk]),by simpa using hlt,by (have hzz:=(B).size;exact za4)⟩
           case measure=>simp [intOf]
       · by_cases hk:c<n
         · have c3:=hT.1 r (c+1) (by omega) (by omega)
           have H3:=lh (HG.out (c+1) (by omega) (by omega))
           go_wp2_with (go_at_call 169;(with_reducible refine (hS.out r (by omega) _ B).mono ?_);rintro e w1 ⟨rfl,hb⟩;have B:=bt B hb;have hT:=hT.below hb hlt;have hlt:=Nat.lt_of_lt_of_le hlt hb.size;have c1:=zac hb c1;have c2:=zac hb c2;have c3:=zac hb c3;clear hb)
           have fz:=hT.2
           cases hv:F (r+1) c
           · rw[hv] at c2 H2
             go_region
             go_wp2_with fail
             go_roundw
             case rel=>exact⟨(c:Int) - 1,c,_,by omega,rfl,by go_num,(hT.set r c (by omega) (by omega) _).drew,zbS _ _ _ _ _ _ _ HF.out,zce _ _ _ _ _ _ HG.out (by rw[Ds.tab_star _ _ _ _ _ _ (by omega) hs,<-H2.out,<-H3.out];simp [hk]),by simpa using hlt,by (have hzz:=(B).size;exact za4)⟩
             case measure=>simp [intOf]
           · rw[hv] at c2 H2
             go_region
             go_wp2_with fail
             go_roundw
             case rel=>exact⟨(c:Int) - 1,c,_,by omega,rfl,by go_num,(hT.set r c (by omega) (by omega) _).drew,zbS _ _ _ _ _ _ _ HF.out,zce _ _ _ _ _ _ HG.out (by rw[Ds.tab_star _ _ _ _ _ _ (by omega) hs,<-H2.out];simp),by simpa using hlt,by (have hzz:=(B).size;exact za4)⟩
             case measure=>simp [intOf]
         · go_wp2_with (go_at_call 169;(with_reducible refine (hS.out r (by omega) _ B).mono ?_);rintro e w1 ⟨rfl,hb⟩;have B:=bt B hb;have hT:=hT.below hb hlt;have hlt:=Nat.lt_of_lt_of_le hlt hb.size;have c1:=zac hb c1;have c2:=zac hb c2;clear hb)
           have fz:=hT.2
           have hk':n<=c:=by omega
           cases hv:F (r+1) c
           all_goals
            rw[hv] at c2 H2
            go_region
            go_wp2_with fail
            go_roundw
            case rel=>exact⟨(c:Int) - 1,c,_,by omega,rfl,by go_num,(hT.set r c (by omega) (by omega) _).drew,zbS _ _ _ _ _ _ _ HF.out,zce _ _ _ _ _ _ HG.out (by rw[Ds.tab_star _ _ _ _ _ _ (by omega) hs,<-H2.out];simp [hk]),by simpa using hlt,by (have hzz:=(B).size;exact za4)⟩
            case measure=>simp [intOf]
end
section
open Go.RowKit
set_option maxHeartbeats 2000000
set_option maxRecDepth 3000
attribute [local go_sem ↓] zdB
theorem tbp(p n:Nat)(hp:p<40)(hn:n<40)(pq ps:Nat)(S:Nat->Bool)(O:Nat->Nat->Bool)(w:World)(hS:Hid (∀ i:Nat,i<p->∀ w',Below w.heap.size w w'->Calls Tryz.prog 167 #[.int .i64 i,.pointer (some ⟨pq,0,none⟩)] w' fun e w''=>e=.returned (.bool (S i))∧Below w'.heap.size w' w''))(hO:Hid (∀ i k:Nat,i<p->k<n->∀ w',Below w.heap.size w w'->Calls Tryz.prog 168 #[.int .i64 i,.int .i64 k,.pointer (some ⟨pq,0,none⟩),.pointer (some ⟨ps,0,none⟩)] w' fun e w''=>e=.returned (.bool (O i k))∧Below w'.heap.size w' w'')) :
  Calls Tryz.prog 166 #[.int .i64 p,.int .i64 n,.func (.func 167) #[] #[.pointer (some ⟨pq,0,none⟩)],.func (.func 168) #[] #[.pointer (some ⟨pq,0,none⟩),.pointer (some ⟨ps,0,none⟩)]] w fun e w'=>e=.returned (.bool (Ds.tab S O p n 0 0))∧Below w.heap.size w w':=by
 have hz:zl3[p*40+n]?=some (.bool false):=zf2 _ (by omega)
 go_enter Tryz.func166,Tryz.ntmps166
 go_wp2_with fail
 clear hz
 go_loopw [10,11] (fun i _ wr=>∃ (q:Int) (r:Nat) (F:Nat->Nat->Bool),r<=p∧q=(r:Int) - 1∧i=.int .i64 q∧TI wr w.heap.size F∧(∀ r' c,r<=r'->r'<=p->c<=n->F r' c=Ds.tab S O p n r' c)∧w.heap.size<wr.heap.size∧Below w.heap.size w wr) (fun i _ _=>(intOf i+1).toNat)
 case atStart =>
  refine⟨(p:Int) - 1,p,fun r c=>if r=p∧c=n then true else false,by omega,rfl,by go_num,by have h:=(TI.new w).set p n hp hn true;simpa [go_sem] using h,?_,by simp,by (repeat (first|exact Below.refl _ _|assumption|(refine Below.drew ?_)|(refine Below.alloc ?_ (by simp) _)|(refine Below.setCell ?_ (by simp) _)))⟩
  intro r' c h1 h2 h3
  obtain rfl:r'=p:=by omega
  rw[Ds.tab_end _ _ _ _ _ _ (by omega)]
  by_cases hc:c=n <;> simp [hc]
 case round =>
  obtain⟨q,r,F,hr,hq,rfl,hT,hF,hlt,B⟩:=hrel
  have HF:=lh hF
  clear hF
  rcases r with _|r
  · obtain rfl:q=-1:=by omega
    have c0:=hT.1 0 0 (by omega) (by omega)
    have H0:=lh (HF.out 0 0 (by omega) (by omega) (by omega))
    clear hq
    go_wp2_with fail
    go_ret
    exact⟨zal H0.out,B⟩
  · obtain rfl:q=r:=by omega
    clear hq
    go_wp2_with fail
    go_loopw [11] (fun k wr=>∃ (q:Int) (c:Nat) (F:Nat->Nat->Bool),c<=n+1∧q=(c:Int) - 1∧k=.int .i64 q∧TI wr w.heap.size F∧(∀ r' c',r+1<=r'->r'<=p->c'<=n->F r' c'=Ds.tab S O p n r' c')∧(∀ c',c<=c'->c'<=n->F r c'=Ds.tab S O p n r c')∧w.heap.size<wr.heap.size∧Below w.heap.size w wr) (fun k _=>(intOf k+1).toNat)
    case atStart=>exact⟨n,n+1,F,by omega,by omega,rfl,hT,HF.out,by intro c' h1 h2;omega,hlt,B⟩
    case round =>
     clear HF hT hlt B
     obtain⟨q,c,F,hc,hq,rfl,hT,hF,hG,hlt,B⟩:=hrel
     have HF:=lh hF
     have HG:=lh hG
     clear hF hG
     rcases c with _|c
     · obtain rfl:q=-1:=by omega
       clear hq
       go_wp2_with fail
       go_roundw
       case rel =>
        refine⟨(r:Int) - 1,r,F,by omega,rfl,by go_num,hT,?_,hlt,B⟩
        intro r' c' h1 h2 h3
        rcases Nat.lt_or_ge r r' with h|h
        · exact HF.out r' c' h h2 h3
        · obtain rfl:r'=r:=by omega
          exact HG.out c' (by omega) h3
       case measure=>simp [intOf]
     · obtain rfl:q=c:=by omega
       clear hq
       have hcn:c<=n:=by omega
       have c2:=hT.1 (r+1) c (by omega) (by omega)
       have H2:=lh (HF.out (r+1) c (by omega) (by omega) hcn)
       have c1:=hT.1 r c (by omega) (by omega)
       have fz:=hT.2
       cases hs:S r
       · by_cases hk:c<n
         · have c3:=hT.1 (r+1) (c+1) (by omega) (by omega)
           have H3:=lh (HF.out (r+1) (c+1) (by omega) (by omega) (by omega))
           go_wp2_with (go_at_call 167;(with_reducible refine (hS.out r (by omega) _ B).mono ?_);rintro e w1 ⟨rfl,hb⟩;have B:=bt B hb;have hT:=hT.below hb hlt;have hlt:=Nat.lt_of_lt_of_le hlt hb.size;have c1:=zac hb c1;have c2:=zac hb c2;clear hb)
           have fz:=hT.2
           have c3:=hT.1 (r+1) (c+1) (by omega) (by omega)
           cases hv:F (r+1) (c+1)
           · rw[hv] at c3 H3
             go_region
             go_wp2_with fail
             go_roundw
             case rel=>exact⟨(c:Int) - 1,c,_,by omega,rfl,by go_num,(hT.set r c (by omega) (by omega) _).drew,zbS _ _ _ _ _ _ _ HF.out,zce _ _ _ _ _ _ HG.out (by rw[Ds.tab_one _ _ _ _ _ _ (by omega) hs,<-H3.out];simp),by simpa using hlt,by (have hzz:=(B).size;exact za4)⟩
             case measure=>simp [intOf]
           · rw[hv] at c3 H3
             have b1:r+1<40:=by omega
             have b2:c+1<40:=by omega
             have b3:(r:Int)+1<40:=by omega
             have b4:(c:Int)+1<40:=by omega
             have b5:(0:Int)<=(r:Int)+1:=by omega
             have b6:(0:Int)<=(c:Int)+1:=by omega
             have b7:IntKind.i64.wrap ((r:Int)+1)=(r:Int)+1:=IntWalk.i64_in _ (by omega)
             have b8:IntKind.i64.wrap ((c:Int)+1)=(c:Int)+1:=IntWalk.i64_in _ (by omega)
             have b9:(r:Int)<40:=by omega
             have b10:(c:Int)<40:=by omega
             have b11:(0:Int)<=(r:Int):=by omega
             have b12:(0:Int)<=(c:Int):=by omega
             have b13:((r:Int)+1).toNat=r+1:=by omega
             have b14:((c:Int)+1).toNat=c+1:=by omega
             have BD:=B.drew
             have S0:=SJ.start hT b1 b2 hv hlt B
             have H0:=lh S0
             clear S0
             go_region_held3 (fun w'=>w'.cell? ⟨w.heap.size,(r+1)*40+(c+1),none⟩=some (.bool true)∧w'.cell? ⟨w.heap.size,r*40+c,none⟩=some (.bool (bvc w' w.heap.size (r*40+c)))∧(∀ o,w'.frozen? ⟨w.heap.size,o,none⟩=false)∧TJ w' w.heap.size F r c∧w.heap.size<w'.heap.size∧Below w.heap.size w w') (first|exact H0.out|exact SJ.call hb (by assumption)|exact SJ.store b1 b2 _ (by assumption)) (first|(go_at_call 168;(with_reducible refine (hO.out r c (by omega) (by omega) _ (by first|exact BD|(have hh:=(by assumption:SJ w w.heap.size F r c _);exact hh.2.2.2.2.2))).mono ?_);rintro e w2 ⟨rfl,hb⟩))
             have S2:=SJ.call hb H0.out
             have HT2:=lh (S2.2.2.2.1.set (by omega) (by omega) (O r c))
             have HB2:=lh (S2.2.2.2.2.2.setCell (p:=⟨w.heap.size,r*40+c,none⟩) (Nat.le_refl _) (.bool (O r c)))
             have HS2:=S2.2.2.2.2.1
             clear b3 b4 b5 b6 b7 b8 b9 b10 b11 b12 b13 b14 S2
             go_wp2_with fail
             go_roundw
             case rel=>exact⟨(c:Int) - 1,c,_,by omega,rfl,by go_num,HT2.out,zbS _ _ _ _ _ _ _ HF.out,zce _ _ _ _ _ _ HG.out (by rw[Ds.tab_one _ _ _ _ _ _ (by omega) hs,<-H3.out];simp [hk]),by simpa using HS2,HB2.out⟩
             case measure=>simp [intOf]
         · go_wp2_with (go_at_call 167;(with_reducible refine (hS.out r (by omega) _ B).mono ?_);rintro e w1 ⟨rfl,hb⟩;have B:=bt B hb;have hT:=hT.below hb hlt;have hlt:=Nat.lt_of_lt_of_le hlt hb.size;have c1:=zac hb c1;have c2:=zac hb c2;clear hb)
           have fz:=hT.2
           have hk':n<=c:=by omega
           go_region
           go_wp2_with fail
           go_roundw
           case rel=>exact⟨(c:Int) - 1,c,_,by omega,rfl,by go_num,(hT.set r c (by omega) (by omega) _).drew,zbS _ _ _ _ _ _ _ HF.out,zce _ _ _ _ _ _ HG.out (by rw[Ds.tab_one _ _ _ _ _ _ (by omega) hs];simp [hk]),by simpa using hlt,by (have hzz:=(B).size;exact za4)⟩
           case measure=>simp [intOf]
       · by_cases hk:c<n
         · have c3:=hT.1 r (c+1) (by omega) (by omega)
           have H3:=lh (HG.out (c+1) (by omega) (by omega))
           go_wp2_with (go_at_call 167;(with_reducible refine (hS.out r (by omega) _ B).mono ?_);rintro e w1 ⟨rfl,hb⟩;have B:=bt B hb;have hT:=hT.below hb hlt;have hlt:=Nat.lt_of_lt_of_le hlt hb.size;have c1:=zac hb c1;have c2:=zac hb c2;have c3:=zac hb c3;clear hb)
           have fz:=hT.2
           cases hv:F (r+1) c
           · rw[hv] at c2 H2
             go_region
             go_wp2_with fail
             go_roundw
             case rel=>exact⟨(c:Int) - 1,c,_,by omega,rfl,by go_num,(hT.set r c (by omega) (by omega) _).drew,zbS _ _ _ _ _ _ _ HF.out,zce _ _ _ _ _ _ HG.out (by rw[Ds.tab_star _ _ _ _ _ _ (by omega) hs,<-H2.out,<-H3.out];simp [hk]),by simpa using hlt,by (have hzz:=(B).size;exact za4)⟩
             case measure=>simp [intOf]
           · rw[hv] at c2 H2
             go_region
             go_wp2_with fail
             go_roundw
             case rel=>exact⟨(c:Int) - 1,c,_,by omega,rfl,by go_num,(hT.set r c (by omega) (by omega) _).drew,zbS _ _ _ _ _ _ _ HF.out,zce _ _ _ _ _ _ HG.out (by rw[Ds.tab_star _ _ _ _ _ _ (by omega) hs,<-H2.out];simp),by simpa using hlt,by (have hzz:=(B).size;exact za4)⟩
             case measure=>simp [intOf]
         · go_wp2_with (go_at_call 167;(with_reducible refine (hS.out r (by omega) _ B).mono ?_);rintro e w1 ⟨rfl,hb⟩;have B:=bt B hb;have hT:=hT.below hb hlt;have hlt:=Nat.lt_of_lt_of_le hlt hb.size;have c1:=zac hb c1;have c2:=zac hb c2;clear hb)
           have fz:=hT.2
           have hk':n<=c:=by omega
           cases hv:F (r+1) c
           all_goals
            rw[hv] at c2 H2
            go_region
            go_wp2_with fail
            go_roundw
            case rel=>exact⟨(c:Int) - 1,c,_,by omega,rfl,by go_num,(hT.set r c (by omega) (by omega) _).drew,zbS _ _ _ _ _ _ _ HF.out,zce _ _ _ _ _ _ HG.out (by rw[Ds.tab_star _ _ _ _ _ _ (by omega) hs,<-H2.out];simp [hk]),by simpa using hlt,by (have hzz:=(B).size;exact za4)⟩
            case measure=>simp [intOf]
end
end Go.Proofs.YtkafnmbldpofdaaGreatDoor
section
namespace Go.Proofs.YtkafnmbldpofdaaGreatDoor
open Go.RowKit
set_option maxHeartbeats 800000
namespace Ds
theorem zjZ(l:List UInt8):(pieces l).length<=l.length+1∧∀ q∈pieces l,q.length<=l.length:=by
 induction l with
 | nil=>simp [pieces]
 | cons c r ih =>
   simp only[pieces]
   split
   · refine⟨by simp;omega,fun q hq=>?_⟩
     rcases List.mem_cons.1 hq with rfl|h
     · simp
     · have:=ih.2 q h;simp;omega
   · cases e:pieces r with
     | nil=>exact absurd e (zb8 r)
     | cons p ps =>
       rw[e] at ih
       refine⟨by have:=ih.1;simp at this ⊢;omega,fun q hq=>?_⟩
       rcases List.mem_cons.1 hq with rfl|h
       · have:=ih.2 p (by simp);simp;omega
       · have:=ih.2 q (by simp [h]);simp;omega
theorem beq_n(c:UInt8):((c.toNat:Int)==42)=decide (c=42):=by
 rw[Bool.eq_iff_iff]
 simp only[beq_iff_eq,decide_eq_true_eq]
 exact⟨fun h=>UInt8.toNat_inj.1 (by rw[show (42:UInt8).toNat=42 from rfl];omega),fun h=>by rw[h];rfl⟩
theorem beq_c(c d:UInt8):((c.toNat:Int)==d.toNat)=decide (c=d):=by
 rw[Bool.eq_iff_iff]
 simp only[beq_iff_eq,decide_eq_true_eq]
 exact⟨fun h=>UInt8.toNat_inj.1 (by omega),fun h=>by rw[h]⟩
theorem g_getD(s:ByteArray)(k:Nat)(h:k<s.size):(bl s).getD k 0=s[k]:=by
 rw[List.getD_eq_getElem?_getD,List.getElem?_eq_getElem (by rw[bl_length];exact h),bl_get s k h];rfl
end Ds
theorem zrM(i pq:Nat)(q:ByteArray)(w:World)(hi:i<q.size)(hc:w.cell? ⟨pq,0,none⟩=some (.string q)) :
  Calls Tryz.prog 169 #[.int .i64 i,.pointer (some ⟨pq,0,none⟩)] w fun e w'=>e=.returned (.bool (decide ((Ds.bl q).getD i 0=42)))∧Below w.heap.size w w':=by
 have D:=lh (show ((q[i].toNat:Int)==42)=decide ((Ds.bl q).getD i 0=42) by rw[Ds.beq_n,Ds.g_getD q i hi])
 go_enter Tryz.func169,Tryz.ntmps169
 go_wp2_with fail
 go_ret
 exact⟨zal D.out,Below.refl _ _⟩
theorem zry(i k pq ps:Nat)(q s:ByteArray)(w:World)(hi:i<q.size)(hk:k<s.size)(hc:w.cell? ⟨pq,0,none⟩=some (.string q))(hd:w.cell? ⟨ps,0,none⟩=some (.string s)) :
  Calls Tryz.prog 170 #[.int .i64 i,.int .i64 k,.pointer (some ⟨pq,0,none⟩),.pointer (some ⟨ps,0,none⟩)] w fun e w'=>e=.returned (.bool (decide ((Ds.bl q).getD i 0=(Ds.bl s).getD k 0)))∧Below w.heap.size w w':=by
 have D:=lh (show ((q[i].toNat:Int)==s[k].toNat)=decide ((Ds.bl q).getD i 0=(Ds.bl s).getD k 0) by rw[Ds.beq_c,Ds.g_getD q i hi,Ds.g_getD s k hk])
 have i1:(0:Int)<=i:=by omega
 have i2:(i:Int)<q.size:=by omega
 have k1:(0:Int)<=k:=by omega
 have k2:(k:Int)<s.size:=by omega
 go_enter Tryz.func170,Tryz.ntmps170
 go_wp2_with fail
 go_region
 go_wp2_with fail
 go_ret
 exact⟨zal D.out,by (repeat (first|exact Below.refl _ _|assumption|(refine Below.drew ?_)|(refine Below.alloc ?_ (by simp) _)|(refine Below.setCell ?_ (by simp) _)))⟩
theorem ztX(q s:ByteArray) :
  Ds.tab (fun i=>decide ((Ds.bl q).getD i 0=42)) (fun i k=>decide ((Ds.bl q).getD i 0=(Ds.bl s).getD k 0)) q.size s.size 0 0=Ds.mtQ (Ds.bl q) (Ds.bl s):=by
 have h:=Ds.tab_mt (fun c:UInt8=>decide (c=42)) (fun c d=>decide (c=d)) (Ds.bl q) (Ds.bl s) (fun i=>decide ((Ds.bl q).getD i 0=42)) (fun i k=>decide ((Ds.bl q).getD i 0=(Ds.bl s).getD k 0))
  (fun i h=>by simp [h]) (fun i k h h'=>by simp [h,h']) _ 0 0 (Nat.le_refl _) (Nat.zero_le _)
 rw[Ds.bl_length,Ds.bl_length] at h
 exact h
theorem zs2(x y:ByteArray)(pq ps:Nat)(w:World)(hxs:x.size<40)(hys:y.size<40)(cx:w.cell? ⟨pq,0,none⟩=some (.string x))(cy:w.cell? ⟨ps,0,none⟩=some (.string y)) :
  Calls Tryz.prog 166 #[.int .i64 x.size,.int .i64 y.size,.func (.func 169) #[] #[.pointer (some ⟨pq,0,none⟩)],.func (.func 170) #[] #[.pointer (some ⟨pq,0,none⟩),.pointer (some ⟨ps,0,none⟩)]] w fun e w'=>e=.returned (.bool (Ds.mtQ (Ds.bl x) (Ds.bl y)))∧Below w.heap.size w w':=by
 have h:=tbq x.size y.size hxs hys pq ps _ _ w (lh fun i hi w' hb=>zrM i pq x w' hi (zac hb cx)) (lh fun i k hi hk w' hb=>zry i k pq ps x y w' hi hk (zac hb cx) (zac hb cy))
 rwa [ztX] at h
theorem ztS(i pa ba n c:Nat)(x:ByteArray)(w:World)(hi:i<n)(_hn:n<=1000)(hp:w.cell? ⟨pa,0,none⟩=some (.slice (some ⟨ba,0,none⟩) n c))(hx:w.cell? ⟨ba,i,none⟩=some (.string x)) :
  Calls Tryz.prog 167 #[.int .i64 i,.pointer (some ⟨pa,0,none⟩)] w fun e w'=>e=.returned (.bool (decide (Ds.bl x=[42,42])))∧Below w.heap.size w w':=by
 by_cases h:x=⟨#[42,42]⟩
 · have D:=lh (decide_eq_true ((Ds.bl_eq x [42,42]).1 h))
   subst h
   go_enter Tryz.func167,Tryz.ntmps167
   go_wp2_with fail
   go_ret
   exact⟨zal D.out.symm,Below.refl _ _⟩
 · have D:=lh (decide_eq_false (fun e=>h ((Ds.bl_eq x [42,42]).2 e)))
   have hne:=Ds.bl_beq x [42,42] h
   clear h
   go_enter Tryz.func167,Tryz.ntmps167
   go_wp2_with fail
   go_ret
   exact⟨zal D.out.symm,Below.refl _ _⟩
theorem ztG(i k pa ba n c pb bb m d:Nat)(x y:ByteArray)(w:World)(hi:i<n)(hk:k<m)(_hn:n<=1000)(_hm:m<=1000)(hxs:x.size<40)(hys:y.size<40)(hp:w.cell? ⟨pa,0,none⟩=some (.slice (some ⟨ba,0,none⟩) n c))(hx:w.cell? ⟨ba,i,none⟩=some (.string x))(hq:w.cell? ⟨pb,0,none⟩=some (.slice (some ⟨bb,0,none⟩) m d))(hy:w.cell? ⟨bb,k,none⟩=some (.string y)) :
  Calls Tryz.prog 168 #[.int .i64 i,.int .i64 k,.pointer (some ⟨pa,0,none⟩),.pointer (some ⟨pb,0,none⟩)] w fun e w'=>e=.returned (.bool (Ds.mtQ (Ds.bl x) (Ds.bl y)))∧Below w.heap.size w w':=by
 have i1:(0:Int)<=i:=by omega
 have i2:(i:Int)<n:=by omega
 have k1:(0:Int)<=k:=by omega
 have k2:(k:Int)<m:=by omega
 have l1:pa<w.heap.size:=block_lt_of_cell hp
 have l2:ba<w.heap.size:=block_lt_of_cell hx
 have l3:pb<w.heap.size:=block_lt_of_cell hq
 have l4:bb<w.heap.size:=block_lt_of_cell hy
 go_enter Tryz.func168,Tryz.ntmps168
 go_wp2_with fail
 go_region
 · have cx:(((w.alloc (.cells #[.string x] 9)).alloc (.cells #[.string y] 9)).drew).cell? ⟨w.heap.size,0,none⟩=some (.string x):=by simp [go_sem]
   have cy:(((w.alloc (.cells #[.string x] 9)).alloc (.cells #[.string y] 9)).drew).cell? ⟨w.heap.size+1,0,none⟩=some (.string y):=by simp [go_sem]
   clear i1 i2 k1 k2
   go_wp2_with (go_at_call 166;(with_reducible refine (zs2 x y _ _ _ hxs hys cx cy).mono ?_);rintro e w1 ⟨rfl,hb⟩)
   go_ret
   exact⟨rfl,(((Below.refl _ _).alloc (Nat.le_refl _) _).alloc (by simp) _).drew.trans (hb.mono (by simp;omega))⟩
 · have cx:(((w.alloc (.cells #[.string y] 9)).alloc (.cells #[.string x] 9)).drew).cell? ⟨w.heap.size+1,0,none⟩=some (.string x):=by simp [go_sem]
   have cy:(((w.alloc (.cells #[.string y] 9)).alloc (.cells #[.string x] 9)).drew).cell? ⟨w.heap.size,0,none⟩=some (.string y):=by simp [go_sem]
   clear i1 i2 k1 k2
   go_wp2_with (go_at_call 166;(with_reducible refine (zs2 x y _ _ _ hxs hys cx cy).mono ?_);rintro e w1 ⟨rfl,hb⟩)
   go_ret
   exact⟨rfl,(((Below.refl _ _).alloc (Nat.le_refl _) _).alloc (by simp) _).drew.trans (hb.mono (by simp;omega))⟩
theorem ztx(ps ns:List ByteArray) :
  Ds.tab (fun i=>decide (Ds.bl (ps.getD i ⟨#[]⟩)=[42,42])) (fun i k=>Ds.mtQ (Ds.bl (ps.getD i ⟨#[]⟩)) (Ds.bl (ns.getD k ⟨#[]⟩))) ps.length ns.length 0 0=Ds.mtP (ps.map Ds.bl) (ns.map Ds.bl):=by
 have h:=Ds.tab_mt (fun q:List UInt8=>decide (q=[42,42])) Ds.mtQ (ps.map Ds.bl) (ns.map Ds.bl) (fun i=>decide (Ds.bl (ps.getD i ⟨#[]⟩)=[42,42])) (fun i k=>Ds.mtQ (Ds.bl (ps.getD i ⟨#[]⟩)) (Ds.bl (ns.getD k ⟨#[]⟩)))
  (fun i h=>by simp at h;simp [h]) (fun i k h h'=>by simp at h h';simp [h,h']) _ 0 0 (Nat.le_refl _) (Nat.zero_le _)
 rw[List.length_map,List.length_map] at h
 exact h
theorem ztB(ps ns:List ByteArray)(pa ba c pb bb d:Nat)(w:World)(hp:ps.length<40)(hn:ns.length<40)(hps:∀ k (h:k<ps.length),ps[k].size<40)(hns:∀ k (h:k<ns.length),ns[k].size<40)(ca:w.cell? ⟨pa,0,none⟩=some (.slice (some ⟨ba,0,none⟩) ps.length c))(cb:w.cell? ⟨pb,0,none⟩=some (.slice (some ⟨bb,0,none⟩) ns.length d))(hS:Strs w ba ps)(hT:Strs w bb ns) :
  Calls Tryz.prog 166 #[.int .i64 ps.length,.int .i64 ns.length,.func (.func 167) #[] #[.pointer (some ⟨pa,0,none⟩)],.func (.func 168) #[] #[.pointer (some ⟨pa,0,none⟩),.pointer (some ⟨pb,0,none⟩)]] w fun e w'=>e=.returned (.bool (Ds.mtP (ps.map Ds.bl) (ns.map Ds.bl)))∧Below w.heap.size w w':=by
 have g:∀ (l:List ByteArray) k (h:k<l.length),l.getD k ⟨#[]⟩=l[k]:=fun l k h=>by simp [h]
 have h:=tbp ps.length ns.length hp hn pa pb (fun i=>decide (Ds.bl (ps.getD i ⟨#[]⟩)=[42,42])) (fun i k=>Ds.mtQ (Ds.bl (ps.getD i ⟨#[]⟩)) (Ds.bl (ns.getD k ⟨#[]⟩))) w
  (lh fun i hi w' hb=>by
    have:=ztS i pa ba ps.length c ps[i] w' hi (by omega) (zac hb ca) (zac hb (hS i hi))
    simp only[g ps i hi];exact this)
  (lh fun i k hi hk w' hb=>by
    have:=ztG i k pa ba ps.length c pb bb ns.length d ps[i] ns[k] w' hi hk (by omega) (by omega) (hps i hi) (hns k hk) (zac hb ca) (zac hb (hS i hi)) (zac hb cb) (zac hb (hT k hk))
    simp only[g ps i hi,g ns k hk];exact this)
 rwa [ztx] at h
namespace Ds
theorem match_no(p s:List UInt8)(h:pat p=false∨name s=false):match_ p s=false:=by
 unfold match_
 rcases h with h|h <;> simp [h]
theorem match_yes(p s:List UInt8)(h:pat p=true)(h':name s=true):match_ p s=mtP (pieces p) (pieces s):=by
 unfold match_;rw[h,h'];rfl
theorem piece_bd{ps:List ByteArray}{s:ByteArray}(h:ps.map bl=pieces (bl s))(hs:s.size<=31)(k:Nat)(hk:k<ps.length):ps[k].size<40:=by
 have:=(zjZ (bl s)).2 (bl ps[k]) (by rw[<-h];exact List.mem_map_of_mem (List.getElem_mem hk))
 rw[bl_length,bl_length] at this;omega
end Ds
theorem zjm(s:ByteArray)(hn:Ds.pat (Ds.bl s)=true):s.size<=31:=by
 have:=((Ds.pat_parts _).1 hn).1.2
 rwa [Ds.bl_length] at this
theorem ztI(ps ns:List ByteArray)(w:World)(hp:ps.length<40)(hn:ns.length<40)(hps:Hid (∀ k (h:k<ps.length),ps[k].size<40))(hns:Hid (∀ k (h:k<ns.length),ns[k].size<40)) :
  Calls Tryz.prog 166 #[.int .i64 ps.length,.int .i64 ns.length,.func (.func 167) #[] #[.pointer (some ⟨w.heap.size+1+1,0,none⟩)],.func (.func 168) #[] #[.pointer (some ⟨w.heap.size+1+1,0,none⟩),.pointer (some ⟨w.heap.size+1+1+1,0,none⟩)]]
   ((((w.alloc (.cells (ps.map Value.string).toArray 9)).alloc (.cells (ns.map Value.string).toArray 9)).alloc (.cells #[.slice (some ⟨w.heap.size,0,none⟩) ps.length ps.length] 206)).alloc (.cells #[.slice (some ⟨w.heap.size+1,0,none⟩) ns.length ns.length] 206))
   fun e w'=>e=.returned (.bool (Ds.mtP (ps.map Ds.bl) (ns.map Ds.bl)))∧Below w.heap.size w w':=by
 have hS:=(Strs.new w ps 9).below ((((Below.refl _ _).alloc (Nat.le_refl _) (.cells (ns.map Value.string).toArray 9)).alloc (by simp) (.cells #[.slice (some ⟨w.heap.size,0,none⟩) ps.length ps.length] 206)).alloc (by simp) (.cells #[.slice (some ⟨w.heap.size+1,0,none⟩) ns.length ns.length] 206))
 have hT:=(Strs.new (w.alloc (.cells (ps.map Value.string).toArray 9)) ns 9).below (((Below.refl _ _).alloc (Nat.le_refl _) (.cells #[.slice (some ⟨w.heap.size,0,none⟩) ps.length ps.length] 206)).alloc (by simp) (.cells #[.slice (some ⟨w.heap.size+1,0,none⟩) ns.length ns.length] 206))
 rw[show (w.alloc (.cells (ps.map Value.string).toArray 9)).heap.size=w.heap.size+1 by simp] at hT
 refine (ztB ps ns (w.heap.size+1+1) w.heap.size ps.length (w.heap.size+1+1+1) (w.heap.size+1) ns.length _ hp hn hps.out hns.out (by simp [go_sem]) (by simp [go_sem]) hS hT).mono ?_
 rintro e w' ⟨he,hb⟩
 refine⟨he,?_⟩
 exact ((((((Below.refl w.heap.size w).alloc (Nat.le_refl _) _).alloc (by simp) _).alloc (by simp;omega) _).alloc (by simp;omega) _).trans (hb.mono (by simp;omega)))
theorem znq(p s:ByteArray)(w:World)(hm:MaxL w) :
  Calls Tryz.prog 87 #[.string p,.string s] w fun e w'=>e=.returned (.bool (Ds.match_ (Ds.bl p) (Ds.bl s)))∧Below w.heap.size w w':=by
 have B:=Below.refl w.heap.size w
 cases hp:Ds.pat (Ds.bl p)
 · have D:=lh (Ds.match_no (Ds.bl p) (Ds.bl s) (.inl hp))
   go_enter Tryz.func87,Tryz.ntmps87
   go_wp2_with (go_at_call 85;(with_reducible refine (zgX _ _ hm).mono ?_);rintro e w1 ⟨rfl,hb⟩;have B:=bt B hb;have hm:=hm.below hb;clear hb)
   go_ret
   exact⟨zal D.out.symm,B⟩
 cases hs:Ds.name (Ds.bl s)
 · have D:=lh (Ds.match_no (Ds.bl p) (Ds.bl s) (.inr hs))
   go_enter Tryz.func87,Tryz.ntmps87
   go_wp2_with (first|(go_at_call 85;(with_reducible refine (zgX _ _ hm).mono ?_);rintro e w1 ⟨rfl,hb⟩;have B:=bt B hb;have hm:=hm.below hb;clear hb)|(go_at_call 62;(with_reducible refine (zbX _ _ hm).mono ?_);rintro e w1 ⟨rfl,hb⟩;have B:=bt B hb;have hm:=hm.below hb;clear hb))
   go_ret
   exact⟨zal D.out.symm,B⟩
 have D:=lh (Ds.match_yes (Ds.bl p) (Ds.bl s) hp hs)
 have p1:=zjm p hp
 have s1:=zjm s (Ds.name_pat _ hs)
 have p2:p.size<4294967281:=by omega
 have s2:s.size<4294967281:=by omega
 go_enter Tryz.func87,Tryz.ntmps87
 go_wp2_with (first|(go_at_call 85;(with_reducible refine (zgX _ _ hm).mono ?_);rintro e w1 ⟨rfl,hb⟩;have B:=bt B hb;have hm:=hm.below hb;clear hb)|(go_at_call 62;(with_reducible refine (zbX _ _ hm).mono ?_);rintro e w1 ⟨rfl,hb⟩;have B:=bt B hb;have hm:=hm.below hb;clear hb)|(go_at_call 165;(with_reducible refine (zdg p _ p2 hm).mono ?_);rintro e w' ⟨ps,hpl,hpp,rfl,rfl⟩;have HP:=lh hpp;clear hpp;have hm:=hm.below ((Below.refl _ _).alloc (Nat.le_refl _) (Obj.cells (ps.map Value.string).toArray 9 (0,0))))|(go_at_call 165;(with_reducible refine (zdg s _ s2 hm).mono ?_);rintro e w' ⟨ns,hnl,hnn,rfl,rfl⟩;have HN:=lh hnn;clear hnn))
 have q1:ps.length<40:=by omega
 have q2:ns.length<40:=by omega
 have q3:=lh (Ds.piece_bd HP.out p1)
 have q4:=lh (Ds.piece_bd HN.out s1)
 go_wp2_with (go_at_call 166;(with_reducible refine (ztI ps ns w1 q1 q2 q3 q4).mono ?_);rintro e w2 ⟨rfl,hb⟩)
 go_ret
 exact⟨zal (by rw[D.out,HP.out,HN.out]),bt B hb⟩
end Go.Proofs.YtkafnmbldpofdaaGreatDoor
end
