/- Catalogs. -/
import Derived.Test.YtefcmdmfgdcpmaaGreatDoorMz
import Derived.Lib.BufferMore
set_option maxRecDepth 8000
set_option maxHeartbeats 16000000
namespace Go.Proofs.YtefcmdmfgdcpmaaGreatDoor
open Go.RowKit
section
set_option linter.unusedSimpArgs false
def opc(k i:Int)(es:Array Value)(s:ByteArray):Array Value:=(#[.int .i64 k,.int .i64 i]++es)++#[.string s]
theorem zoS{k i:Int}{es:Array Value}{s:ByteArray}(h:es.size=33):(opc k i es s).size=36:=by
 unfold opc;rw[Array.size_append,Array.size_append,h];rfl
theorem zvQ{k i:Int}{es:Array Value}{s:ByteArray}:(opc k i es s)[0]?=some (.int .i64 k):=by
 unfold opc;rw[Array.append_assoc,Array.getElem?_append_left (by simp)];rfl
theorem zvR{k i:Int}{es:Array Value}{s:ByteArray}:(opc k i es s)[1]?=some (.int .i64 i):=by
 unfold opc;rw[Array.append_assoc,Array.getElem?_append_left (by simp)];rfl
theorem zuy{k i:Int}{es:Array Value}{s:ByteArray}(h:es.size=33):(opc k i es s)[35]?=some (.string s):=by
 unfold opc;rw[Array.getElem?_append_right (by rw[Array.size_append,h];exact Nat.le_refl 35),Array.size_append,h];rfl
theorem zsu{k i:Int}{es:Array Value}{s:ByteArray}(h:es.size=33):(opc k i es s).extract 2 35=es:=by
 unfold opc;apply Array.ext_getElem?
 intro j;rw[Array.getElem?_extract];by_cases hj:j<33
 · rw[if_pos (by rw[Array.size_append,Array.size_append,h];simp;omega),Array.getElem?_append_left (by rw[Array.size_append,h];simp;omega),Array.getElem?_append_right (by simp)];simp
 · rw[Array.getElem?_eq_none (by omega:es.size<=j),if_neg (by simp;omega)]
theorem zuz{k i:Int}{es:Array Value}{s:ByteArray}{j:Nat}{v:Value}(h:es[j]?=some v):(opc k i es s)[2+j]?=some v:=by
 have hj:=(Array.getElem?_eq_some_iff.1 h).1;unfold opc;rw[Array.getElem?_append_left (by rw[Array.size_append];simp;omega),Array.getElem?_append_right (by simp)];simpa using h
theorem zsv{k i:Int}{es:Array Value}{s:ByteArray}(h:zaM es.toList=true):zaM (opc k i es s).toList=true:=by
 have hap:∀ a b:List Value,zaM a=true->zaM b=true->zaM (a++b)=true:=by
  intro a b h1 h2
  induction a with
  | nil=>exact h2
  | cons x r ih=>rw[List.cons_append,zaf,Bool.and_eq_true];rw[zaf,Bool.and_eq_true] at h1;exact⟨h1.1,ih h1.2⟩
 unfold opc;rw[Array.toList_append,Array.toList_append];exact hap _ _ (hap _ _ rfl h) rfl
def opv(k i:Int)(e:En)(al gr:Value)(s:ByteArray):Array Value:=opc k i (e.vals al gr) s
theorem zbi(k i:Int)(e:En)(al gr:Value)(s:ByteArray):(opv k i e al gr s).size=36:=zoS (zaa _ _ _)
theorem zuA{k i:Int}{e:En}{al gr:Value}{s:ByteArray}:(opv k i e al gr s)[0]?=some (.int .i64 k):=zvQ
theorem zvS{k i:Int}{e:En}{al gr:Value}{s:ByteArray}:(opv k i e al gr s)[1]?=some (.int .i64 i):=zvR
theorem zqd{k i:Int}{e:En}{al gr:Value}{s:ByteArray}:(opv k i e al gr s)[35]?=some (.string s):=zuy (zaa _ _ _)
theorem zgf{k i:Int}{e:En}{al gr:Value}{s:ByteArray}{j:Nat}{v:Value}(h:(e.vals al gr)[j]?=some v):(opv k i e al gr s)[2+j]?=some v:=zuz h
theorem zfz{k i:Int}{e:En}{al gr:Value}{s:ByteArray}(h:zaM (e.vals al gr).toList=true):zaM (opv k i e al gr s).toList=true:=zsv h
theorem zvl(ev:Operand->Value)(w:World)(dst x t pos af gd)(h1:zbA (ev x)=true)(h2:(row w (za0 (ev x))).size=36) :
  (execOp ev ⟨dst,.load 59 x,t,pos,af,gd⟩).run Tryz.prog w=.ok (.value (.agg (row w (za0 (ev x))))) w :=
 zb2 ev w _ 35 _ Tryz.underlying59 rfl (by kernel_rfl) dst x t pos af gd h1 h2
theorem zu0(ev:Operand->Value)(w:World)(zs:Array Value)(t:TypeId)(dst x y t' pos af gd)(h0:zs.size=36)(h1:zbA (ev x)=true)(h2:za0 (ev x)=w.heap.size)(h3:zbC (ev y)=true)(h4:(zaK (ev y)).size=36)(h5:zaM (zaK (ev y)).toList=true) :
  (execOp ev ⟨dst,.store 59 x y,t',pos,af,gd⟩).run Tryz.prog (w.alloc (.cells zs t))=.ok .skip (w.alloc (.cells (zaK (ev y)) t)) :=
 zcb ev w _ 35 (by kernel_rfl) zs t dst x y t' pos af gd h0 h1 h2 h3 h4 h5
def zfX(w:World)(b o:Nat):Array Value:=(row w b).extract o (o+36)
theorem zhq{w:World}{b o:Nat}{cs:Array Value}(h:zfX w b o=cs)(i:Nat)(v:Value)(hv:cs[i]?=some v):w.cell? ⟨b,o+i,none⟩=some v:=by
 unfold zfX at h;subst h;rw[Array.getElem?_extract] at hv;split at hv
 · exact zah rfl (o+i) v hv
 · cases hv
theorem zgc{w w':World}{b o:Nat}{cs:Array Value}(hb:Below w.heap.size w w')(h:zfX w b o=cs)(h0:0<cs.size):zfX w' b o=cs:=by
 have hz:0<(row w b).size:=by
  unfold zfX at h;rcases Nat.eq_zero_or_pos (row w b).size with h1|h1
  · rw[<-h,Array.size_extract] at h0;omega
  · exact h1
 unfold zfX at *;rw[zaB hb rfl hz];exact h
theorem zse{w:World}{b o:Nat}{cs:Array Value}(hs:cs.size=36)(h:∀ i v,cs[i]?=some v->w.cell? ⟨b,o+i,none⟩=some v):zfX w b o=cs:=by
 unfold zfX;apply Array.ext_getElem?
 intro i;rw[Array.getElem?_extract];by_cases hi:i<36
 · have h1:=h i cs[i] (Array.getElem?_eq_getElem (by omega))
   have h2:(row w b)[o+i]?=some cs[i]:=by
    unfold row
    cases e:w.heap[b]? with
    | none=>have:=block_lt_of_cell h1;rw[Array.getElem?_eq_none_iff] at e;simp only at this;omega
    | some ob =>
      cases ob with
      | cells c t fr=>simp only;rw[<-cell_of_row w b (o+i) c t fr e];exact h1
      | _=>simp [World.cell?,e] at h1
   have h3:o+i<(row w b).size:=(Array.getElem?_eq_some_iff.1 h2).1;rw[if_pos (by omega),h2,Array.getElem?_eq_getElem (by omega)]
 · rw[Array.getElem?_eq_none (by omega:cs.size<=i)];split
   · omega
   · rfl
theorem zmL{w:World}{b:Nat}{k i:Int}{e:En}{al gr:Value}{s:ByteArray}(h:row w b=opv k i e al gr s):mid w b 2=e.vals al gr:=by
 unfold mid;rw[h];exact zsu (zaa _ _ _)
theorem zoy(ev:Operand->Value)(w:World)(dst x t pos af gd)(h1:zml (ev x)=true)(h2:(zfX w (za0 (ev x)) (zmZ (ev x))).size=36) :
  (execOp ev ⟨dst,.load 59 x,t,pos,af,gd⟩).run Tryz.prog w=.ok (.value (.agg (zfX w (za0 (ev x)) (zmZ (ev x))))) w:=by
 obtain⟨g,o,hg⟩:∃ g o,ev x=.pointer (some ⟨g,o,none⟩):=by
  unfold zml at h1;split at h1
  · rename_i g o h;exact⟨g,o,h⟩
  · cases h1
 rw[hg,zal,zaI] at h2 ⊢;simp only at h2 ⊢
 unfold execOp
 have hc:w.rangeAt g o (zfX w g o).toList:=fun j v hv=>by
  rw[Array.getElem?_toList] at hv;exact zhq rfl j v hv
 have hl:(zfX w g o).toList.length=36:=by simpa using h2
 have hr:=run_loadAt_mid (P:=Tryz.prog) w g o 59 _ _ hc Tryz.underlying59 rfl (by rw[hl];kernel_rfl);simp only[hg,Sem.run_bind,hr,Result.andThen_ok,Sem.run_pure,Array.toArray_toList]
structure Oz where
 k:Int
 i:Int
 x:Ef
 s:ByteArray
def OF(w:World)(b o:Nat)(z:Oz):Prop :=
 ∃ (a1:Option Addr) (c1:Nat) (a2:Option Addr) (c2:Nat),zfX w b o=opv z.k z.i z.x.e (.slice a1 z.x.n1 c1) (.slice a2 z.x.n2 c2) z.s∧z.x.n1<=9223372036854775807∧z.x.n2<=9223372036854775807∧(z.x.n1<=1000->∃ l:List Int,l.length=z.x.n1∧IS w (.slice a1 z.x.n1 c1) l)∧(z.x.n2<=1000->z.x.gs.length=z.x.n2∧GS w (.slice a2 z.x.n2 c2) z.x.gs)
theorem OF.below{w w':World}{b o:Nat}{z:Oz}(h:OF w b o z)(hb:Below w.heap.size w w'):OF w' b o z:=by
 obtain⟨a1,c1,a2,c2,h1,h2,h3,h4,h5⟩:=h
 exact⟨a1,c1,a2,c2,zgc hb h1 (by rw[zbi];decide),h2,h3,fun q=>by
  obtain⟨l,g1,g2⟩:=h4 q;exact⟨l,g1,g2.below hb⟩,fun q=>⟨(h5 q).1,(h5 q).2.below hb⟩⟩
def OS(w:World)(a:Option Addr)(n:Nat)(F:Nat->Oz):Prop:=n<=9223372036854775807∧∀ k,k<n->∃ b o,a=some ⟨b,o,none⟩∧b<w.heap.size∧OF w b (o+k*36) (F k)
theorem OS.below{w w':World}{a:Option Addr}{n:Nat}{F:Nat->Oz}(h:OS w a n F)(hb:Below w.heap.size w w'):OS w' a n F :=
 ⟨h.1,fun k hk=>by
  obtain⟨b,o,h1,h2,h3⟩:=h.2 k hk;exact⟨b,o,h1,Nat.lt_of_lt_of_le h2 hb.size,h3.below hb⟩⟩
attribute [local go_sem ↓] zvl zu0 zoy
attribute [local go_sem] zav zap zal zaI zaJ zae zaq zai zaw zao zas zan zaa zaj zaf zaA zax zak zag zar zbi
def few6X(z:Oz):Prop:=z.x.e.name.size<=60∧z.x.e.target.size<=60∧z.x.n2<=12∧z.x.n1<=8∧z.s.size<=60
def few6P(F:Nat->Oz)(n:Nat)(m:Int):Prop:=(n:Int)<=m∧∀ k,k<n->few6X (F k)
def Few6R(F:Nat->Oz)(n:Nat)(m:Int)(w w':World)(r:Ending):Prop:=∃ b:Bool,r=.returned (.bool b)∧(b=true->few6P F n m)∧Below w.heap.size w w'
theorem Few6R.no{F:Nat->Oz}{n:Nat}{m:Int}{w w':World}(h:Below w.heap.size w w'):Few6R F n m w w' (.returned (.bool false)):=⟨false,rfl,(fun h=>by cases h),h⟩
theorem few36(a:Option Addr)(n c:Nat)(F:Nat->Oz)(m:Int)(w:World)(hES:OS w a n F) :
  Calls Tryz.prog 8 #[.slice a n c,.int .i64 m] w fun r w'=>Few6R F n m w w' r:=by
 have HES:=lh hES;have hn63:=hES.1;clear hES;go_enter Tryz.func8,Tryz.ntmps8
 go_wp2_with fail
 go_loopw [9] (fun i wr=>∃ k:Nat,k<=n∧i=.int .i64 k∧(∀ j,j<k->few6X (F j))∧Below w.heap.size w wr) (fun i _=>n - (intOf i).toNat)
 case atStart=>exact⟨0,Nat.zero_le _,rfl,(fun j hj=>absurd hj (by omega)),by exact zbo⟩
 case round =>
  obtain⟨k,hk,rfl,hok,B⟩:=hrel;have HOK:=lh hok;have z0:=B.size;clear hok;by_cases hlt:k<n
  · obtain⟨b,o,rfl,hb,a1,c1,a2,c2,hmid,h1,h2,-,-⟩:=(HES.out.below B).2 k hlt;have hz:(zfX wr b (o+k*36)).size=36:=by rw[hmid];exact zbi _ _ _ _ _ _
    have hone:zaM (opv (F k).k (F k).i (F k).x.e (.slice a1 (F k).x.n1 c1) (.slice a2 (F k).x.n2 c2) (F k).s).toList=true:=zfz (zau (F k).x.e (.slice a1 (F k).x.n1 c1) (.slice a2 (F k).x.n2 c2) rfl rfl);have R0:=zai wr (opv (F k).k (F k).i (F k).x.e (.slice a1 (F k).x.n1 c1) (.slice a2 (F k).x.n2 c2) (F k).s) 59 (0,0);have n3:=zah R0 3 _ (zgf (j:=1) (zaE _ _ _));have n31:=zah R0 31 _ (zgf (j:=29) (zbb _ _ _));have n34:=zah R0 34 _ (zgf (j:=32) (zbl _ _ _));have n25:=zah R0 25 _ (zgf (j:=23) (zbk _ _ _));have n35:=zah R0 35 _ zqd;obtain⟨q0,e0⟩:∃ b,decide (60<((F k).x.e.name.size:Int))=b:=⟨_,rfl⟩;obtain⟨q1,e1⟩:∃ b,decide (60<((F k).x.e.target.size:Int))=b:=⟨_,rfl⟩;obtain⟨q2,e2⟩:∃ b,decide (12<((F k).x.n2:Int))=b:=⟨_,rfl⟩;obtain⟨q3,e3⟩:∃ b,decide (8<((F k).x.n1:Int))=b:=⟨_,rfl⟩;obtain⟨q4,e4⟩:∃ b,decide (60<((F k).s.size:Int))=b:=⟨_,rfl⟩
    have HS:Hid (q0=false->q1=false->q2=false->q3=false->q4=false->few6X (F k)):=lh (by
     rintro rfl rfl rfl rfl rfl;rw[decide_eq_false_iff_not] at e0 e1 e2 e3 e4;exact⟨by omega,by omega,by omega,by omega,by omega⟩)
    clear R0;cases q0
    cases q1
    cases q2
    cases q3
    cases q4
    · go_wp2_with fail
      go_roundw
      case rel =>
       refine⟨k+1,by omega,by go_num,fun j hj=>?_,by exact zbo⟩
       rcases Nat.lt_or_ge j k with h|h
       · exact HOK.out j h
       · obtain rfl:j=k:=by omega
         exact HS.out rfl rfl rfl rfl rfl
      case measure=>simp [intOf];omega
    all_goals
     go_wp2_with fail
     go_ret
     exact Few6R.no (by exact zbo)
  · obtain rfl:k=n:=by omega
    obtain⟨q0,e0⟩:∃ b,decide ((k:Int)<=m)=b:=⟨_,rfl⟩;have HS:Hid (q0=true->(k:Int)<=m):=lh (by rintro rfl;exact of_decide_eq_true e0);go_wp2_with fail
    go_ret
    exact⟨_,rfl,fun h=>⟨HS.out h,HOK.out⟩,B⟩
end
section
set_option linter.unusedSimpArgs false
theorem zhC(cs:Array Value)(o i:Nat)(v:Value)(hi:i<33)(ho:o+33<=cs.size):(cs.setIfInBounds (o+i) v).extract o (o+33)=(cs.extract o (o+33)).setIfInBounds i v:=by
 apply Array.ext_getElem?
 intro j;rw[Array.getElem?_extract,Array.size_setIfInBounds,Array.getElem?_setIfInBounds,Array.getElem?_setIfInBounds,Array.getElem?_extract,Array.size_extract];by_cases h:j<min (o+33) cs.size - o
 · rw[if_pos h,if_pos h];by_cases e:i=j
   · subst e;rw[if_pos rfl,if_pos rfl,if_pos (by omega),if_pos (by omega)]
   · rw[if_neg e,if_neg (by omega)]
 · rw[if_neg h,if_neg h];by_cases e:i=j
   · subst e;rw[if_pos rfl,if_neg (by omega)]
   · rw[if_neg e]
theorem zgE(cs:Array Value)(j k i:Nat)(v:Value)(hi:i<33)(hk:j≠k):(cs.setIfInBounds (k*33+i) v).extract (j*33) (j*33+33)=cs.extract (j*33) (j*33+33):=by
 apply Array.ext_getElem?
 intro n;rw[Array.getElem?_extract,Array.getElem?_extract,Array.size_setIfInBounds,Array.getElem?_setIfInBounds];by_cases h:n<min (j*33+33) cs.size - j*33
 · rw[if_pos h,if_pos h,if_neg (by omega)]
 · rw[if_neg h,if_neg h]
structure AB (W:World) (b k:Nat) (cs:Array Value) (s:List Fu):Prop where
 e:EB W b cs
 z:s.length*33<=cs.size
 m:∀ j (h:j<s.length),k<=j->∃ a1 c1 a2 c2,cs.extract (j*33) (j*33+33)=s[j].1.vals (.slice a1 0 c1) (.slice a2 0 c2)
theorem AB.block{W W':World}{b k:Nat}{cs:Array Value}{s:List Fu}(h:AB W b k cs s)(e:W'.heap[b]?=W.heap[b]?)(hs:W.heap.size<=W'.heap.size):AB W' b k cs s:=⟨h.e.of_block e hs,h.z,h.m⟩
theorem AB.below{W W':World}{b k:Nat}{cs:Array Value}{s:List Fu}(h:AB W b k cs s)(hb:Below W.heap.size W W'):AB W' b k cs s:=h.block (hb.block _ h.e.2.2) hb.size
theorem AB.set{W:World}{b k:Nat}{cs:Array Value}{s:List Fu}(h:AB W b k cs s)(hk:k<s.length)(tn:ByteArray):∃ a1 c1 a2 c2,AB (W.setCell ⟨b,k*33+29,none⟩ (.string tn)) b (k+1) (cs.setIfInBounds (k*33+29) (.string tn)) s∧mid (W.setCell ⟨b,k*33+29,none⟩ (.string tn)) b (k*33)=(zda s[k] tn).1.vals (.slice a1 0 c1) (.slice a2 0 c2):=by
 obtain⟨a1,c1,a2,c2,hm⟩:=h.m k hk (Nat.le_refl _);have hz:=h.z
 have hlt:k*33+33<=cs.size:=by
  have:(k+1)*33<=s.length*33:=Nat.mul_le_mul_right 33 hk;omega
 refine⟨a1,c1,a2,c2,⟨h.e.set _ (by omega) _,by rw[Array.size_setIfInBounds];exact hz,fun j hj hkj=>?_⟩,?_⟩
 · rw[zgE _ _ _ _ _ (by decide) (by omega)];exact h.m j hj (by omega)
 · unfold mid;rw[(h.e.set (k*33+29) (by omega) (.string tn)).1,zhC _ _ _ _ (by decide) hlt,hm,zil];rfl
theorem AB.at{W:World}{b k:Nat}{cs:Array Value}{s:List Fu}(h:AB W b k cs s)(hk:k<s.length):∃ v,W.cell? ⟨b,k*33+29,none⟩=some v:=by
 have:(k+1)*33<=s.length*33:=Nat.mul_le_mul_right 33 hk;have hz:=h.z;exact⟨_,h.e.cell (k*33+29) _ (Array.getElem?_eq_getElem (by omega))⟩
theorem AB.of{base:Nat}{W:World}{hv:Value}{s:List Fu}{rows:List (Array Value)}(h:HJ base W hv (s.map zfV) rows)(hs:∀ a∈s,a.2.1=[]∧a.2.2=[])(h0:0<s.length):∃ b c cs,hv=.slice (some ⟨b,0,none⟩) s.length c∧base<=b∧b<W.heap.size∧AB W b 0 cs s:=by
 have hl:=h.len;rw[List.length_map] at hl;have ho:=h.own;rw[List.length_map] at ho;rcases ho.2 with ⟨-,e⟩|⟨g,cap,cur,e1,hb,hg,hn,hm,hz,ht⟩
 · omega
 have hr:row W g=cur:=zcP hg;refine⟨g,cap,cur,e1,hb,(Array.getElem?_eq_some_iff.1 hg).1,⟨hr,fun o=>?_,(Array.getElem?_eq_some_iff.1 hg).1⟩,?_,fun j hj _=>?_⟩
 · simp [World.frozen?,hg]
 · rw[hz];exact Nat.mul_le_mul_right 33 hn
 · have hj':j<rows.length:=by omega
   have h1:rows[j]?=some rows[j]:=List.getElem?_eq_getElem hj';have h2:(s.map zfV)[j]?=some (zfV s[j]):=by rw[List.getElem?_map,List.getElem?_eq_getElem hj];rfl
   obtain⟨a1,c1,a2,c2,e2,-,-,-,-,-⟩:=h.el j _ _ h1 h2;obtain⟨g',cc,e3,-,hlt,hmid⟩:=own_mid h.sz h.own j _ h1;rw[e1] at e3;injection e3 with e4
   injection e4 with e5
   injection e5 with e6
   subst e6;obtain⟨n1,n2⟩:=hs _ (List.getElem_mem hj);refine⟨a1,c1,a2,c2,?_⟩
   unfold mid at hmid;rw[hr] at hmid;rw[hmid,e2];unfold zfV;dsimp only;rw[n1,n2];rfl
attribute [local go_sem ↓] zaV zcu zaW zaz za1 zi8
attribute [local go_sem] zav zap zal zaI zaJ zae zaq zai zaw zao zas zan zaa zaj zaf zaA zax zak zag zar zaG zaC zaE
end
section
set_option linter.unusedSimpArgs false
attribute [local go_sem ↓] zaV zaW zaz za1 zi8
attribute [local go_sem] zav zap zal zaI zaJ zae zaq zai zaw zao zas zan zaa zaj zaf zaA zax zak zag zar zaG zaC zaE
end
section
set_option linter.unusedSimpArgs false
def opF(l:List Rw)(fl cd ca k i:Int)(x:Fu)(s:ByteArray):(List Ch × Int) × Int :=
 if k=0 then zkM l fl cd ca x else if k=1 then zkO l fl cd ca x.1.kind x.1.name else if k=2 then zkP l fl cd ca x.1.name s else if k=3 then ztp l fl cd ca s i else zts l fl cd ca s
def opR(l:List Rw)(k i:Int)(x:Fu)(s:ByteArray):List Ch × Int :=
 if k=0 then zpN l x else if k=1 then zhU l x.1.kind x.1.name else if k=2 then zhV l x.1.name s else if k=3 then zpH l s i else zk5 l s
theorem zuw(l:List Rw)(fl cd ca k i:Int)(x:Fu)(s:ByteArray)(hf:fl<=0)(h0:0<=ca)(hd:DstL l):(opF l fl cd ca k i x s).1=opR l k i x s:=by
 unfold opF opR;by_cases h:k=0
 · rw[if_pos h,if_pos h,zoI l fl cd ca x hf h0]
 rw[if_neg h,if_neg h];by_cases h:k=1
 · rw[if_pos h,if_pos h,zoL l fl cd ca _ _ hf h0 hd]
 rw[if_neg h,if_neg h];by_cases h:k=2
 · rw[if_pos h,if_pos h,zoM l fl cd ca _ _ hf h0 hd]
 rw[if_neg h,if_neg h];by_cases h:k=3
 · rw[if_pos h,if_pos h,zrj l fl cd ca _ _ hf h0 hd]
 rw[if_neg h,if_neg h,zrr l fl cd ca _ hf h0 hd]
attribute [local go_sem ↓] zcu zvl zu0
attribute [local go_sem] zav zap zal zaI zaJ zae zaq zai zaw zao zas zan zaa zbi zaj zaf zaA zax zak zag zar zaG
theorem do36(p:Nat)(sv:Value)(l:List Rw)(fl cd ca k i:Int)(x:Fu)(s:ByteArray)(al gr:Value)(w0 w:World)(hm:MaxL w0)(hT:Tab w0)(hS:SHs w0 w p sv l fl cd ca)(hso:∀ b,sv.ownBlock=some b->b<w.heap.size)(hl:l.length<=1000)(hkz:∀ x∈l,x.2.1.size<=1000)(hc0:0<=ca)(hc1:ca<=60000)(hcd:cd≠0∧cd≠6∨fl<=0)(hsz:x.1.name.size<=1000)(hss:s.size<=1000)(hI:IS w al x.2.1)(hGr:GS w gr x.2.2)(o1:0<x.2.1.length->∀ q,al.ownBlock=some q->q≠p)(o2:0<x.2.2.length->∀ q,gr.ownBlock=some q->q≠p) :
  Calls Tryz.prog 22 #[.iface 31 (.pointer (some ⟨p,0,none⟩)),.agg (opv k i x.1 al gr s)] w fun r w'=>ChR w0 w w' p sv l fl cd (opF l fl cd ca k i x s) r:=by
 have hone:=zfz (k:=k) (i:=i) (s:=s) (zau x.1 al gr (zaP hI) (zaO hGr));have hlt:=fun (W:World) (b:Below w.heap.size w W) q (h:sv.ownBlock=some q)=>Nat.lt_of_lt_of_le (hso q h) b.size
 have HD:=lh (fun W (b:Below w.heap.size w W)=>zmF p sv l fl cd ca x al gr w0 W hm hT (hS.below b) hc0 (by omega) hcd hsz (hI.below b) (hGr.below b) o1 o2);have HM:=lh (fun W (b:Below w.heap.size w W)=>zmI p sv l fl cd ca x.1.kind x.1.name w0 W hm hT (hS.below b) (hlt W b) hl hkz hc0 (by omega) hcd);have HN:=lh (fun W (b:Below w.heap.size w W)=>zmJ p sv l fl cd ca x.1.name s w0 W hm hT (hS.below b) (hlt W b) hl hc0 (by omega) hcd hsz hss);have HC:=lh (fun W (b:Below w.heap.size w W)=>zkL p sv l fl cd ca i s w0 W hm hT (hS.below b) (hlt W b) hl hkz hc0 (by omega) hcd hss);have HX:=lh (fun W (b:Below w.heap.size w W)=>zgR p sv l fl cd ca s w0 W hm hT (hS.below b) (hlt W b) hl hkz hc0 (by omega) hcd hss);have R0:=zai w (opv k i x.1 al gr s) 59 (0,0);have HB1:=lh (zab w (.cells (opv k i x.1 al gr s) 59));have n0:=zah R0 0 _ zuA;have n1:=zah R0 1 _ zvS;have n2:=zah R0 2 _ (zgf (j:=0) (zaC _ _ _));have n3:=zah R0 3 _ (zgf (j:=1) (zaE _ _ _));have n35:=zah R0 35 _ zqd;have hmid:=zmL R0;have hz33:(mid (w.alloc (.cells (opv k i x.1 al gr s) 59)) w.heap.size 2).size=33:=by rw[hmid];exact zaa _ _ _
 unfold opF;clear R0 hlt hS hso hkz hI hGr o1 o2;by_cases h0:k=0
 rw[if_pos h0];have t0:(k==0)=true:=beq_iff_eq.2 h0;clear h0 HM HN HC HX;generalize zkM l fl cd ca x=g at HD ⊢;rotate_left;rw[if_neg h0];have t0:(k==0)=false:=beq_eq_false_iff_ne.2 h0;by_cases h1:k=1
 rw[if_pos h1];have t1:(k==1)=true:=beq_iff_eq.2 h1;clear h0 h1 HD HN HC HX;generalize zkO l fl cd ca x.1.kind x.1.name=g at HM ⊢;rotate_left;rw[if_neg h1];have t1:(k==1)=false:=beq_eq_false_iff_ne.2 h1;by_cases h2:k=2
 rw[if_pos h2];have t2:(k==2)=true:=beq_iff_eq.2 h2;clear h0 h1 h2 HD HM HC HX;generalize zkP l fl cd ca x.1.name s=g at HN ⊢;rotate_left;rw[if_neg h2];have t2:(k==2)=false:=beq_eq_false_iff_ne.2 h2;by_cases h3:k=3
 rw[if_pos h3];have t3:(k==3)=true:=beq_iff_eq.2 h3;clear h0 h1 h2 h3 HD HM HN HX;generalize ztp l fl cd ca s i=g at HC ⊢;rotate_left;rw[if_neg h3];have t3:(k==3)=false:=beq_eq_false_iff_ne.2 h3;clear h0 h1 h2 h3 HD HM HN HC;generalize zts l fl cd ca s=g at HX ⊢
 all_goals
  go_enter Tryz.func22,Tryz.ntmps22
  go_wp2_with (first
   | (go_at_call 66;(refine (HX.out _ HB1.out).mono ?_);rintro _ w3 ⟨ov,rfl,hch,hs,hg⟩;have S:=lh hs;have G:=lh hg;have C:=lh hch;clear hs hg hch)
   | (go_at_call 62;(refine (HD.out _ HB1.out).mono ?_);rintro _ w3 ⟨ov,rfl,hch,hs,hg⟩;have S:=lh hs;have G:=lh hg;have C:=lh hch;clear hs hg hch)
   | (go_at_call 63;(refine (HM.out _ HB1.out).mono ?_);rintro _ w3 ⟨ov,rfl,hch,hs,hg⟩;have S:=lh hs;have G:=lh hg;have C:=lh hch;clear hs hg hch)
   | (go_at_call 64;(refine (HN.out _ HB1.out).mono ?_);rintro _ w3 ⟨ov,rfl,hch,hs,hg⟩;have S:=lh hs;have G:=lh hg;have C:=lh hch;clear hs hg hch)
   | (go_at_call 65;(refine (HC.out _ HB1.out).mono ?_);rintro _ w3 ⟨ov,rfl,hch,hs,hg⟩;have S:=lh hs;have G:=lh hg;have C:=lh hch;clear hs hg hch))
  go_ret2
  exact⟨_,rfl,C.out,S.out,zat (zad _ HB1.out) G.out⟩
end
end Go.Proofs.YtefcmdmfgdcpmaaGreatDoor
