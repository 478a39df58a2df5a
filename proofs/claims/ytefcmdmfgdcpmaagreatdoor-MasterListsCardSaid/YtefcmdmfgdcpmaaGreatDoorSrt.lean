/- Catalogs. -/
import Derived.Test.YtefcmdmfgdcpmaaGreatDoorSh
set_option maxRecDepth 8000
set_option maxHeartbeats 8000000
namespace Go.Proofs.YtefcmdmfgdcpmaaGreatDoor
abbrev kyR(x:Rw):List UInt8:=Ds.bl x.2.1
def zeR(x y:Rw):Bool:=decide (x.1=y.1)&&decide (kyR x=kyR y)
def agn(l:List Rw)(k:Nat)(x:Rw):Bool:=(l.take k).any fun y=>zeR y x
def dst(l:List Rw):Nat->List Rw
 | 0=>[]
 | k+1=>match l[k]? with|none=>dst l k|some x=>if agn l k x=true then dst l k else dst l k++[x]
def DstL(l:List Rw):Prop:=l.Pairwise fun x y=>zeR x y=false
theorem DstL.inj{l:List Rw}(h:DstL l){x y:Rw}(hx:x∈l)(hy:y∈l)(h1:x.1=y.1)(h2:kyR x=kyR y):x=y:=by
 induction l with
 | nil=>cases hx
 | cons z l ih =>
   unfold DstL at h;rw[List.pairwise_cons] at h
   have key:∀ u v:Rw,zeR u v=false->¬ (u.1=v.1∧kyR u=kyR v):=fun u v hs ⟨q1,q2⟩=>by
    unfold zeR at hs;rw[decide_eq_true q1,decide_eq_true q2] at hs;cases hs
   rcases List.mem_cons.1 hx with e1|hx'
   · rcases List.mem_cons.1 hy with e2|hy'
     · exact e1.trans e2.symm
     · subst e1;exact absurd ⟨h1,h2⟩ (key _ _ (h.1 y hy'))
   · rcases List.mem_cons.1 hy with e2|hy'
     · subst e2;exact absurd ⟨h1.symm,h2.symm⟩ (key _ _ (h.1 x hx'))
     · exact ih h.2 hx' hy'
def znG(x y:Rw):Bool:=ltB (kyR y) (kyR x)
def zmh(x:Rw)(out:List Rw):List Rw:=out.takeWhile (znG x)++x::out.dropWhile (znG x)
def inL(id:Int)(c:UInt8)(x:Rw):Bool:=decide (x.1=id)&&decide ((kyR x).head?=some c)
def zuY(id:Int)(c:UInt8)(out:List Rw)(x:Rw):List Rw:=if inL id c x=true then zmh x out else out
def srt(id:Int)(c:UInt8)(l:List Rw):List Rw:=l.foldl (zuY id c) []
theorem zhc(id:Int)(c:UInt8)(l:List Rw)(x:Rw):srt id c (l++[x])=zuY id c (srt id c l) x:=by
 unfold srt;rw[List.foldl_append];rfl
theorem zjO(x:Rw)(out:List Rw)(y:Rw):y∈zmh x out↔y=x∨y∈out:=by
 unfold zmh;have e:out.takeWhile (znG x)++out.dropWhile (znG x)=out:=List.takeWhile_append_dropWhile
 have h:y∈out↔y∈out.takeWhile (znG x)∨y∈out.dropWhile (znG x):=by
  rw[<-List.mem_append,e]
 rw[List.mem_append,List.mem_cons,h];constructor
 · rintro (h|h|h)
   · exact .inr (.inl h)
   · exact .inl h
   · exact .inr (.inr h)
 · rintro (h|h|h)
   · exact .inr (.inl h)
   · exact .inl h
   · exact .inr (.inr h)
theorem zou(x:Rw)(out:List Rw):(zmh x out).length=out.length+1:=by
 have e:(out.takeWhile (znG x)++out.dropWhile (znG x)).length=out.length:=by rw[List.takeWhile_append_dropWhile]
 unfold zmh;rw[List.length_append] at e ⊢;rw[List.length_cons];omega
def zla(l:List Rw):Prop:=l.Pairwise fun x y=>ltB (kyR x) (kyR y)=true
theorem zjP(x:Rw):∀ (out:List Rw),zla out->(∀ y∈out,kyR y≠kyR x)->zla (zmh x out)
 | [],_,_=>List.pairwise_singleton _ _
 | y::out,h,hne=>by
   unfold zla at h;rw[List.pairwise_cons] at h;by_cases c:znG x y=true
   · have e:zmh x (y::out)=y::zmh x out:=by unfold zmh;rw[List.takeWhile_cons,List.dropWhile_cons,if_pos c,if_pos c];rfl
     unfold zla;rw[e,List.pairwise_cons];refine⟨fun z hz=>?_,zjP x out h.2 fun z hz=>hne z (by simp [hz])⟩
     rcases (zjO x out z).1 hz with rfl|hz
     · exact c
     · exact h.1 z hz
   · have e:zmh x (y::out)=x::y::out:=by unfold zmh;rw[List.takeWhile_cons,List.dropWhile_cons,if_neg c,if_neg c];rfl
     have hxy:ltB (kyR x) (kyR y)=true:=zmB (by simpa [znG] using c) (hne y (by simp));unfold zla;rw[e,List.pairwise_cons];refine⟨fun z hz=>?_,List.pairwise_cons.2 h⟩
     rcases List.mem_cons.1 hz with rfl|hz
     · exact hxy
     · exact zcv hxy (h.1 z hz)
theorem zc4(id:Int)(c:UInt8)(l:List Rw):∀ k,∀ x,x∈srt id c (l.take k)↔x∈l.take k∧inL id c x=true
 | 0,x=>by simp [srt]
 | k+1,x=>by
   by_cases hk:k<l.length
   · rw[List.take_succ_eq_append_getElem hk,zhc];unfold zuY;split
     · rename_i hc;rw[zjO,zc4 id c l k x,List.mem_append,List.mem_singleton];constructor
       · rintro (rfl|h)
         · exact⟨.inr rfl,hc⟩
         · exact⟨.inl h.1,h.2⟩
       · rintro ⟨h|rfl,h2⟩
         · exact .inr ⟨h,h2⟩
         · exact .inl rfl
     · rename_i hc;rw[zc4 id c l k x,List.mem_append,List.mem_singleton];constructor
       · rintro h;exact⟨.inl h.1,h.2⟩
       · rintro ⟨h|rfl,h2⟩
         · exact⟨h,h2⟩
         · exact absurd h2 hc
   · have:=zc4 id c l k x;rw[List.take_of_length_le (by omega)] at this ⊢;exact this
theorem zfH(id:Int)(c:UInt8)(l:List Rw)(h:DstL l):∀ k,zla (srt id c (l.take k))
 | 0=>by simp [srt,zla]
 | k+1=>by
   by_cases hk:k<l.length
   · rw[List.take_succ_eq_append_getElem hk,zhc];unfold zuY;split
     · rename_i hc;refine zjP _ _ (zfH id c l h k) fun y hy e=>?_
       have hy2:=(zc4 id c l k y).1 hy;obtain⟨i,hi,hyi⟩:=List.getElem_of_mem hy2.1;rw[List.getElem_take] at hyi;have hik:i<k:=by rw[List.length_take] at hi;omega
       have hp:=(List.pairwise_iff_getElem.1 h) i k (by omega) hk hik;unfold inL at hc;have hy3:=hy2.2;unfold inL at hy3;simp only[Bool.and_eq_true,decide_eq_true_eq] at hc hy3
       rw[hyi] at hp;unfold zeR at hp;rw[decide_eq_true (hy3.1.trans hc.1.symm),decide_eq_true e] at hp;cases hp
     · exact zfH id c l h k
   · have:=zfH id c l h k;rw[List.take_of_length_le (by omega)] at this ⊢;exact this
theorem zno(id:Int)(c:UInt8)(l:List Rw):∀ k,(srt id c (l.take k)).length<=k
 | 0=>by simp [srt]
 | k+1=>by
   have ih:=zno id c l k;by_cases hk:k<l.length
   · rw[List.take_succ_eq_append_getElem hk,zhc];unfold zuY;split
     · rw[zou];omega
     · omega
   · rw[List.take_of_length_le (by omega)] at ih ⊢;omega
def aft(k:List UInt8)(S:List Rw):List Rw:=S.filter fun x=>ltB k (kyR x)
theorem zjh{k:List UInt8}{x:Rw}:∀ {S:List Rw},zla S->x∈S->ltB k (kyR x)=true->(∀ y∈S,ltB k (kyR y)=true->ltB (kyR y) (kyR x)=false)->aft k S=x::aft (kyR x) S
 | [],_,h,_,_=>by cases h
 | z::S,hs,hx,hk,hm=>by
   unfold zla at hs;rw[List.pairwise_cons] at hs;unfold aft;rw[List.filter_cons,List.filter_cons];rcases List.mem_cons.1 hx with rfl|hx
   · rw[if_pos hk,if_neg (by rw[zdh];simp)];congr 1
     refine List.filter_congr fun y hy=>?_
     rw[hs.1 y hy,zcv hk (hs.1 y hy)]
   · have hzx:=hs.1 x hx
     have hzk:ltB k (kyR z)=false:=by
      by_cases c:ltB k (kyR z)=true
      · have:=hm z (by simp) c;rw[hzx] at this;cases this
      · simpa using c
     rw[if_neg (by rw[hzk];simp),if_neg (by rw[zfs hzx];simp)];exact zjh (S:=S) hs.2 hx hk fun y hy=>hm y (by simp [hy])
theorem zqa(id:Int)(k:List UInt8):∀ (n:Nat) (l:List Rw),l.length=n->match nx id k l with
  | none=>∀ y∈l,y.1=id->ltB k (kyR y)=false
  | some x=>∀ y∈l,y.1=id->ltB k (kyR y)=true->ltB (kyR y) (kyR x)=false
 | 0,l,h=>by
   rw[List.length_eq_zero_iff.1 h];simp [nx]
 | n+1,l,h=>by
   obtain⟨m,x,rfl⟩:∃ m x,l=m++[x]:=⟨l.dropLast,l.getLast (by intro e;rw[e] at h;cases h),(List.dropLast_concat_getLast _).symm⟩;have ih:=zqa id k n m (by simpa using h);rw[ziX];unfold nxs;by_cases hq:nxq id k (nx id k m) x=true
   · rw[if_pos hq];simp only
     intro y hy hid hky;unfold nxq at hq;simp only[Bool.and_eq_true,decide_eq_true_eq] at hq
     rcases List.mem_append.1 hy with hy|hy
     · cases hm:nx id k m with
       | none=>rw[hm] at ih;simp only at ih;rw[ih y hy hid] at hky;cases hky
       | some z =>
         rw[hm] at ih hq;simp only at ih hq;have h1:=ih y hy hid hky;by_cases c:ltB (kyR y) (kyR x)=true
         · rw[zcv c hq.2.2] at h1;cases h1
         · simpa using c
     · rw[List.mem_singleton.1 hy];exact zdh _
   · rw[if_neg hq];unfold nxq at hq
     cases hm:nx id k m with
     | none =>
       rw[hm] at ih hq;simp only at ih hq ⊢;intro y hy hid;rcases List.mem_append.1 hy with hy|hy
       · exact ih y hy hid
       · rw[List.mem_singleton.1 hy] at hid ⊢;rw[decide_eq_true hid] at hq;simpa using hq
     | some z =>
       rw[hm] at ih hq;simp only at ih hq ⊢;intro y hy hid hky;rcases List.mem_append.1 hy with hy|hy
       · exact ih y hy hid hky
       · rw[List.mem_singleton.1 hy] at hid hky ⊢;rw[decide_eq_true hid,hky] at hq;simpa using hq
theorem zl6{l:List UInt8}{k:List UInt8}(h:ltB k l=true):l.head?=some (l.headD 0):=by
 cases l with
 | nil=>rw[zeA] at h;cases h
 | cons a r=>rfl
theorem zvF{a b:List UInt8}(h:ltB a b=true)(ha:a≠[]):a.headD 0<=b.headD 0:=by
 cases b with
 | nil=>rw[zeA] at h;cases h
 | cons y s =>
   cases a with
   | nil=>exact absurd rfl ha
   | cons x r =>
     simp only[List.headD_cons]
     have h1:Lib.compareBytes (x::r) (y::s)<0:=of_decide_eq_true h;by_cases c:x<=y
     · exact c
     · exfalso
       have hyx:y<x:=by simpa using c
       have hne:¬ x<y:=fun q=>absurd (UInt8.lt_trans q hyx) (UInt8.lt_irrefl _)
       simp [Lib.compareBytes,hne,hyx] at h1
section
open Go.RowKit
def RwAt(w:World)(b o:Nat)(x:Rw):Prop:=w.cell? ⟨b,o,none⟩=some (.int .i64 x.1)∧w.cell? ⟨b,o+1,none⟩=some (.string x.2.1)∧w.cell? ⟨b,o+2,none⟩=some (.string x.2.2)
theorem RwAt.below{w w':World}{b o:Nat}{x:Rw}(h:RwAt w b o x)(hb:Below w.heap.size w w'):RwAt w' b o x:=⟨zac hb h.1,zac hb h.2.1,zac hb h.2.2⟩
def RwL(w:World)(a:Option Addr)(n:Nat)(F:Nat->Rw):Prop:=n<=9223372036854775807∧∀ k,k<n->∃ b o,a=some ⟨b,o,none⟩∧b<w.heap.size∧RwAt w b (o+k*3) (F k)
theorem RwL.below{w w':World}{a:Option Addr}{n:Nat}{F:Nat->Rw}(h:RwL w a n F)(hb:Below w.heap.size w w'):RwL w' a n F :=
 ⟨h.1,fun k hk=>by
  obtain⟨b,o,h1,h2,h3⟩:=h.2 k hk;exact⟨b,o,h1,by have:=hb.size;omega,h3.below hb⟩⟩
def rlst(F:Nat->Rw)(n:Nat):List Rw:=(List.range n).map F
theorem zfb(F:Nat->Rw)(n:Nat):(rlst F n).length=n:=by unfold rlst;simp
theorem zpa(F:Nat->Rw)(n k:Nat)(h:k<(rlst F n).length):(rlst F n)[k]=F k:=by
 have:∀ (h:k<((List.range n).map F).length),((List.range n).map F)[k]=F k:=fun h=>by simp
 exact this h
theorem RwL.rws{w:World}{a:Option Addr}{n:Nat}{F:Nat->Rw}(h:RwL w a n F)(c:Nat)(hn:n<=1000000):RwS w (.slice a n c) (rlst F n):=by
 refine⟨a,c,by rw[zfb],by rw[zfb];exact hn,fun h0=>?_⟩
 rw[zfb] at h0;obtain⟨b,o,ha,hb,-⟩:=h.2 0 h0;refine⟨b,o,ha,hb,fun k hk=>?_⟩
 rw[zfb] at hk;obtain⟨b',o',ha',-,h3⟩:=h.2 k hk;rw[ha] at ha';cases ha'
 rw[zpa];exact h3
def fewR(F:Nat->Rw)(n:Nat)(m:Int):Prop:=(n:Int)<=m∧∀ k,k<n->(F k).2.1.size<=60∧(F k).2.2.size<=300
def FewRR(F:Nat->Rw)(n:Nat)(m:Int)(w w':World)(r:Ending):Prop:=∃ b:Bool,r=.returned (.bool b)∧(b=true->fewR F n m)∧w'=w
theorem FewRR.no{F:Nat->Rw}{n:Nat}{m:Int}{w:World}:FewRR F n m w w (.returned (.bool false)):=⟨false,rfl,(fun h=>by cases h),rfl⟩
theorem bdr(B:Nat)(w:World)(n:Nat):Below B w (w.drewN n):=⟨rfl,rfl,rfl,Nat.le_refl _,fun _ _=>rfl⟩
end
section
open Go.RowKit
set_option linter.unusedSimpArgs false
theorem zcw{w:World}{e:TypeId}{size q base:Nat}(hq:w.heap.size=q)(hb:base<=q):(w.alloc (.cells #[] e)).ownsRow base e size (.slice (some ⟨q,0,none⟩) 0 0) 0 []:=by
 subst hq;exact⟨by simp,.inr ⟨w.heap.size,0,#[],rfl,hb,heap_alloc_new w _,Nat.le_refl _,by unfold maxLen;omega,by simp,by simp⟩⟩
theorem CS.grown{w w':World}{size m:Nat}{b o c:Nat}{news:List Value}{row:Option Nat}(h:CS w size (.slice (some ⟨b,o,none⟩) m c) m news)(hg:w.grownBy w' row)(hne:some b≠row)(hlt:b<w.heap.size):CS w' size (.slice (some ⟨b,o,none⟩) m c) m news:=by
 obtain⟨a,c',e,h2,h3⟩:=h;cases e
 refine⟨_,_,rfl,h2,fun h0=>?_⟩
 obtain⟨ad,e,p⟩:=h3 h0;cases e
 exact⟨_,rfl,fun j u hu=>by
  have:=p j u hu;rw[Addr.add_lit] at this ⊢;exact (World.cell?_of_block (a:=(⟨b,o+j,none⟩:Addr)) (hg.block b hlt hne)).trans this⟩
theorem zdy{w:World}{base b e size n:Nat}{v:Value}{xs:List Value}(h:w.ownsRow base e size v n xs)(hb:b<=base):w.ownsRow b e size v n xs:=by
 refine⟨h.1,?_⟩
 rcases h.2 with h0|⟨g,cap,cur,rfl,h1,hr⟩
 · exact .inl h0
 · exact .inr ⟨g,cap,cur,rfl,Nat.le_trans hb h1,hr⟩
theorem zbO{w:World}{base e size n c:Nat}{a:Option Addr}{xs:List Value}(h:w.ownsRow base e size (.slice a n c) n xs)(hn:0<n):∃ g,a=some ⟨g,0,none⟩∧n<=c∧c<=maxLen:=by
 rcases h.2 with ⟨h1,h2⟩|⟨g,cap,cur,h1,_,_,h3,h4,_⟩
 · cases h1;omega
 · cases h1;exact⟨g,rfl,h3,h4⟩
theorem zoU{w:World}{base e size n c g:Nat}{xs:List Value}(h:w.ownsRow base e size (.slice (some ⟨g,0,none⟩) n c) n xs):n<=c∧c<=maxLen:=by
 rcases h.2 with ⟨h1,h2⟩|⟨g',cap,cur,h1,_,_,h3,h4,_⟩
 · cases h1
 · cases h1;exact⟨h3,h4⟩
theorem zng:∀ (l:List Rw) (k:Nat),rv (l.drop k)=(rv l).drop (k*3)
 | _,0=>by rw[List.drop_zero,Nat.zero_mul,List.drop_zero]
 | [],k+1=>by rw[List.drop_nil];exact List.drop_nil.symm
 | x::l,k+1=>by
   rw[List.drop_succ_cons,zng l k,rv,show (k+1)*3=3+k*3 by omega,<-List.drop_drop];rfl
def zk6(c k:Nat):Nat:=if c=k then 0 else k*3
theorem zk0{w:World}{base n g c k:Nat}{l:List Rw}(h:w.ownsRow base 35 3 (.slice (some ⟨g,0,none⟩) n c) n (rv l))(hl:l.length=n)(hc:n<=c):CS w 3 (.slice (some ⟨g,zk6 c k,none⟩) (n - k) (c - k)) (n - k) (rv (l.drop k)):=by
 refine⟨_,_,rfl,by rw[zib,List.length_drop,hl],fun h0=>⟨_,rfl,fun j u hu=>?_⟩⟩
 have hk:zk6 c k=k*3:=if_neg (by omega);obtain⟨a,c',e,-,p⟩:=zbq h;obtain⟨ad,e2,q⟩:=p (by omega);injection e with e1
 rw[e2] at e1;cases e1
 rw[zng,List.getElem?_drop] at hu;have:=q _ u hu;rw[Addr.add_lit] at this ⊢;rw[Nat.zero_add] at this;rw[hk];exact this
theorem zkB{w:World}{base n g c k:Nat}{l:List Rw}(h:w.ownsRow base 35 3 (.slice (some ⟨g,0,none⟩) n c) n (rv l))(hl:l.length=n)(hk:k<=n):CS w 3 (.slice (some ⟨g,0,none⟩) k c) k (rv (l.take k)):=by
 refine⟨_,_,rfl,by rw[zib,List.length_take,hl,Nat.min_eq_left hk],fun h0=>⟨_,rfl,fun j u hu=>?_⟩⟩
 obtain⟨a,c',e,-,p⟩:=zbq h;obtain⟨ad,e2,q⟩:=p (by omega);injection e with e1
 rw[e2] at e1;cases e1
 refine q j u ?_
 rw[<-List.take_append_drop k l,zeQ,List.getElem?_append_left (List.getElem?_eq_some_iff.1 hu).1];exact hu
theorem zqA{w:World}{g n c k:Nat}(hk:k<=n):(Instr.slice 25 (.slice (some ⟨g,0,none⟩) n c) (some (.int .i64 (k:Int))) none none).run Tryz.prog w=.ok (.slice (some ⟨g,zk6 c k,none⟩) (n - k) (c - k)) w:=by
 have h3:(0:Int)<=k:=by omega
 have h4:(k:Int)<=n:=by omega
 simp only[Instr.slice,Instr.sliceBounds,Sem.run_bind,Sem.run_pure,run_underlying Tryz.underlying25,Result.andThen_ok,run_sliceBound _ _ _ _ _ h3 h4,Option.isSome,Bool.false_eq_true,if_false]
 rw[Tryz.sizeOf35];unfold zk6;by_cases h1:c=k
 · simp only[Result.andThen_ok,Int.toNat_natCast,if_pos h1]
 · simp only[Result.andThen_ok,Int.toNat_natCast,if_neg h1,Option.map,Addr.add_lit,Nat.zero_add]
theorem zqz{w:World}{g n c k:Nat}(hk:k<=n)(hc:n<=c):(Instr.slice 25 (.slice (some ⟨g,0,none⟩) n c) none (some (.int .i64 (k:Int))) none).run Tryz.prog w=.ok (.slice (some ⟨g,0,none⟩) k c) w:=by
 have h3:(0:Int)<=k:=by omega
 have h4:(k:Int)<=c:=by omega
 simp only[Instr.slice,Instr.sliceBounds,Sem.run_bind,Sem.run_pure,run_underlying Tryz.underlying25,Result.andThen_ok,run_sliceBound _ _ _ _ _ h3 h4,Option.isSome,Bool.false_eq_true,if_false,if_true]
 rw[Tryz.sizeOf35];by_cases h1:c=0
 · simp only[Result.andThen_ok,Int.toNat_natCast,if_pos h1,Nat.sub_zero]
 · simp only[Result.andThen_ok,Int.toNat_natCast,if_neg h1,Option.map,Addr.add_lit,Nat.zero_mul,Nat.sub_zero,Nat.zero_add]
theorem zu5(p:Rw->Bool):∀ (l:List Rw) (j:Nat) (h:j<l.length),(j<(l.takeWhile p).length->p l[j]=true)∧(j=(l.takeWhile p).length->p l[j]=false)
 | x::l,0,_=>by
   rw[List.takeWhile_cons];by_cases c:p x=true
   · rw[if_pos c];exact⟨fun _=>c,fun h=>by simp at h⟩
   · rw[if_neg c];exact⟨fun h=>by simp at h,fun _=>by simpa using c⟩
 | x::l,j+1,h=>by
   have:=zu5 p l j (by simpa using h);rw[List.takeWhile_cons];by_cases c:p x=true
   · rw[if_pos c];exact⟨fun q=>this.1 (by simpa using q),fun q=>this.2 (by simpa using q)⟩
   · rw[if_neg c];exact⟨fun q=>by simp at q,fun q=>by simp at q⟩
theorem zwc(p:Rw->Bool)(l:List Rw):(l.takeWhile p).length<=l.length:=(List.takeWhile_prefix p).length_le
end
end Go.Proofs.YtefcmdmfgdcpmaaGreatDoor
