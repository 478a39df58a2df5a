/- Catalogs. -/
import Derived.Test.YtefcmdmfgdcpmaaGreatDoorEc
set_option maxRecDepth 8000
set_option maxHeartbeats 8000000
namespace Go.Proofs.YtefcmdmfgdcpmaaGreatDoor
structure Ef where
 e:En
 n1:Nat
 n2:Nat
 gs:List Gr
def okQ(x:Ef):Bool:=Ds.pat (Ds.bl x.e.name)&&(Vp.prof x.e x.gs&&(zeF (ziY x.e) x.e [] [] x.gs x.gs&&decide (x.n1=0)))
def hits(n:List UInt8)(x:Ef):Bool:=decide (x.e.kind=4)&&(okQ x&&Ds.match_ (Ds.bl x.e.name) n)
def ahead(x:Ef):Option Ef->Bool
 | none=>true
 | some y=>decide (Ds.order (Ds.bl x.e.name) (Ds.bl y.e.name)<0)
def bstep(n:List UInt8)(o:Option Ef)(x:Ef):Option Ef:=if hits n x=true∧ahead x o=true then some x else o
def best(n:List UInt8)(l:List Ef):Option Ef:=l.foldl (bstep n) none
theorem zhl(n:List UInt8)(l:List Ef)(x:Ef):best n (l++[x])=bstep n (best n l) x:=by
 unfold best;rw[List.foldl_append];rfl
inductive All2 {α β:Type} (R:α->β->Prop):List α->List β->Prop
 | nil:All2 R [] []
 | cons {a b l m}:R a b->All2 R l m->All2 R (a::l) (b::m)
theorem All2.snoc{α β:Type}{R:α->β->Prop}{l:List α}{m:List β}{a:α}{b:β}(h:All2 R l m)(r:R a b):All2 R (l++[a]) (m++[b]):=by
 induction h with
 | nil=>exact .cons r .nil
 | cons q _ ih=>exact .cons q ih
theorem All2.length{α β:Type}{R:α->β->Prop}{l:List α}{m:List β}(h:All2 R l m):l.length=m.length:=by
 induction h with
 | nil=>rfl
 | cons _ _ ih=>simp [ih]
theorem All2.at{α β:Type}{R:α->β->Prop}{l:List α}{m:List β}(h:All2 R l m):∀ (i:Nat) (a:α) (b:β),l[i]?=some a->m[i]?=some b->R a b:=by
 induction h with
 | nil=>intro i a b h;simp at h
 | cons r _ ih =>
   intro i a b h1 h2
   cases i with
   | zero=>simp at h1 h2;subst h1 h2;exact r
   | succ i=>simp at h1 h2;exact ih i a b h1 h2
def Up(a b:Int):Prop:=(0<=a∧a<=3->a<=b∧b<=3)∧(¬ (0<=a∧a<=3)->b=a)
theorem Up.refl(a:Int):Up a a:=⟨fun h=>⟨Int.le_refl _,h.2⟩,fun _=>rfl⟩
theorem Up.le{a b:Int}(h:Up a b):a<=b:=by
 by_cases k:0<=a∧a<=3
 · exact (h.1 k).1
 · rw[h.2 k];exact Int.le_refl _
theorem Up.rng{a b:Int}(h:Up a b):Vp.rng 0 3 [b]=Vp.rng 0 3 [a]:=by
 unfold Vp.rng;simp only[List.all_cons,List.all_nil,Bool.and_true]
 by_cases k:0<=a∧a<=3
 · have:=h.1 k;rw[decide_eq_true k.1,decide_eq_true k.2,decide_eq_true (by omega:0<=b),decide_eq_true (by omega:b<=3)]
 · rw[h.2 k]
def UpG(a b:Gr):Prop:=b.1=a.1∧b.2.1=a.2.1∧Up a.2.2 b.2.2
def Rise(x y:Ef):Prop:=y.e.kind=x.e.kind∧y.e.name=x.e.name∧(x.e.kind=4->y.n1=x.n1∧(∃ L,Up x.e.lev L∧y.e={ x.e with lev:=L })∧All2 UpG x.gs y.gs)
section
open Go.RowKit
def mid(w:World)(b o:Nat):Array Value:=(row w b).extract o (o+33)
theorem zhS{w w':World}{b o:Nat}{cs:Array Value}(hb:Below w.heap.size w w')(h:mid w b o=cs)(h0:0<cs.size):mid w' b o=cs:=by
 have hz:0<(row w b).size:=by
  unfold mid at h;rcases Nat.eq_zero_or_pos (row w b).size with h1|h1
  · rw[<-h,Array.size_extract] at h0;omega
  · exact h1
 unfold mid at *;rw[zaB hb rfl hz];exact h
theorem zjr{w:World}{b o:Nat}{cs:Array Value}(h:mid w b o=cs)(i:Nat)(v:Value)(hv:cs[i]?=some v):w.cell? ⟨b,o+i,none⟩=some v:=by
 unfold mid at h;subst h;rw[Array.getElem?_extract] at hv;split at hv
 · exact zah rfl (o+i) v hv
 · cases hv
theorem zjY{w:World}{b o:Nat}{cs:Array Value}(hs:cs.size=33)(h:∀ i v,cs[i]?=some v->w.cell? ⟨b,o+i,none⟩=some v):mid w b o=cs:=by
 unfold mid;apply Array.ext_getElem?
 intro i;rw[Array.getElem?_extract];by_cases hi:i<33
 · have h1:=h i cs[i] (Array.getElem?_eq_getElem (by omega))
   have h2:(row w b)[o+i]?=some cs[i]:=by
    unfold row
    cases e:w.heap[b]? with
    | none=>have:=block_lt_of_cell h1;rw[Array.getElem?_eq_none_iff] at e;simp only at this;omega
    | some ob =>
      cases ob with
      | cells c t fr=>simp only;rw[<-cell_of_row w b (o+i) c t fr e];exact h1
      | _=>simp [World.cell?,e] at h1
   have h3:o+i<(row w b).size:=(Array.getElem?_eq_some_iff.1 h2).1;rw[if_pos (by omega),h2,Array.getElem?_eq_getElem (by omega)]
 · rw[Array.getElem?_eq_none (by omega:cs.size<=i)];split
   · omega
   · rfl
def zml:Value->Bool|.pointer (some ⟨_,_,none⟩)=>true|_=>false
theorem zaJ(b o:Nat):zml (.pointer (some ⟨b,o,none⟩))=true:=rfl
def zmZ:Value->Nat|.pointer (some a)=>a.off|_=>0
theorem zaI(a:Addr):zmZ (.pointer (some a))=a.off:=rfl
theorem zcu(ev:Operand->Value)(w:World)(dst x t pos af gd)(h1:zml (ev x)=true)(h2:(mid w (za0 (ev x)) (zmZ (ev x))).size=33) :
  (execOp ev ⟨dst,.load 40 x,t,pos,af,gd⟩).run Tryz.prog w=.ok (.value (.agg (mid w (za0 (ev x)) (zmZ (ev x))))) w:=by
 obtain⟨g,o,hg⟩:∃ g o,ev x=.pointer (some ⟨g,o,none⟩):=by
  unfold zml at h1;split at h1
  · rename_i g o h;exact⟨g,o,h⟩
  · cases h1
 rw[hg,zal,zaI] at h2 ⊢;simp only at h2 ⊢
 unfold execOp
 have hc:w.rangeAt g o (mid w g o).toList:=fun j v hv=>by
  rw[Array.getElem?_toList] at hv;exact zjr rfl j v hv
 have hl:(mid w g o).toList.length=33:=by simpa using h2
 have hr:=run_loadAt_mid (P:=Tryz.prog) w g o 40 _ _ hc Tryz.underlying40 rfl (by rw[hl];kernel_rfl);simp only[hg,Sem.run_bind,hr,Result.andThen_ok,Sem.run_pure,Array.toArray_toList]
def EF(w:World)(b o:Nat)(x:Ef):Prop :=
 ∃ (a1:Option Addr) (c1:Nat) (a2:Option Addr) (c2:Nat),mid w b o=x.e.vals (.slice a1 x.n1 c1) (.slice a2 x.n2 c2)∧x.n1<=9223372036854775807∧x.n2<=9223372036854775807∧(x.n2<=1000->x.gs.length=x.n2∧GS w (.slice a2 x.n2 c2) x.gs)
theorem EF.below{w w':World}{b o:Nat}{x:Ef}(h:EF w b o x)(hb:Below w.heap.size w w'):EF w' b o x:=by
 obtain⟨a1,c1,a2,c2,h1,h2,h3,h4⟩:=h;exact⟨a1,c1,a2,c2,zhS hb h1 (by rw[zaa];decide),h2,h3,fun h=>⟨(h4 h).1,(h4 h).2.below hb⟩⟩
def ES(w:World)(a:Option Addr)(n:Nat)(F:Nat->Ef):Prop:=n<=9223372036854775807∧∀ k,k<n->∃ b o,a=some ⟨b,o,none⟩∧b<w.heap.size∧EF w b (o+k*33) (F k)
theorem ES.below{w w':World}{a:Option Addr}{n:Nat}{F:Nat->Ef}(h:ES w a n F)(hb:Below w.heap.size w w'):ES w' a n F :=
 ⟨h.1,fun k hk=>by
  obtain⟨b,o,h1,h2,h3⟩:=h.2 k hk;exact⟨b,o,h1,Nat.lt_of_lt_of_le h2 hb.size,h3.below hb⟩⟩
def lst(F:Nat->Ef)(n:Nat):List Ef:=(List.range n).map F
theorem zmA(F:Nat->Ef)(n:Nat):(lst F n).length=n:=by simp [lst]
theorem zgQ(F:Nat->Ef)(n:Nat):lst F (n+1)=lst F n++[F n]:=by simp [lst,List.range_succ]
end
section
open Go.RowKit
variable {P:Program} {md:Region.Mode} {ops:Array Oper} {Q:Exit->Act->World->Prop} {S:World->Prop}
theorem zqn{i:Nat}{oi:Oper}(d:Option Tmp){v:Value}{fuel:Nat}{listed:Array Bool}{a:Act}{w:World}(hi:ops[i]?=some oi)(hd:oi.dst=d)(hs:Region.noSelect ops=true)(hf:Region.free md ops listed i=true)(hr:(Region.ready md ops listed).contains i=true)(hQ:∀ c a w,Q (.panic c) (a.put d v) w->Q (.panic c) a w)(hw:Region.wanted oi (yielded ops a.tmps)=true)(hv:∀ w,S w->(execOp a.eval oi).run P w=.ok (.value v) w)(hS:S w)(h:wpAnyH P md ops Q S fuel (listed.setIfInBounds i true) (a.put d v) w):wpAnyH P md ops Q S (fuel+1) listed a w:=by
 subst hd;exact wpAnyH_take hi hs hf hr hQ (Or.inl ⟨hw,hv⟩) hS h
theorem rg_t{i:Nat}{oi:Oper}(d:Option Tmp)(w2:World){fuel:Nat}{listed:Array Bool}{a:Act}{w:World}(hi:ops[i]?=some oi)(hd:oi.dst=d)(hr:Region.ready md ops listed=[i])(hw:Region.wanted oi (yielded ops a.tmps)=true)(hx:(execOp a.eval oi).run P w=.ok .skip w2)(hS:S w2)(h:wpAnyH P md ops Q S fuel (listed.setIfInBounds i true) (a.put d undef) w2):wpAnyH P md ops Q S (fuel+1) listed a w:=by
 subst hd;refine wpAnyH_ready hr (by simp) (AllReadyH.cons hi (fun K hK=>?_) AllReadyH.nil)
 rw[if_pos hw];unfold Oper.wp;rw[hx];exact hK.out _ _ hS (fun _=>h)
theorem rgy{i:Nat}{oi:Oper}(d:Option Tmp){v:Value}{fuel:Nat}{listed:Array Bool}{a:Act}{w:World}(h:wpAnyH P md ops Q S fuel (listed.setIfInBounds i true) (a.put d v) w)(hi:ops[i]?=some oi:=by exact rfl)(hd:oi.dst=d:=by exact rfl)(hs:Region.noSelect ops=true:=by kernel_rfl)(hf:Region.free md ops listed i=true:=by kernel_rfl)(hr:(Region.ready md ops listed).contains i=true:=by kernel_rfl)(hQ:∀ c a w,Q (.panic c) (a.put d v) w->Q (.panic c) a w:=by exact fun _ _ _ h=>h)(hw:Region.wanted oi (yielded ops a.tmps)=true:=by kernel_rfl)(hv:∀ w,S w->(execOp a.eval oi).run P w=.ok (.value v) w:=by intro w hSw;(try dsimp only at hSw);(first|(go_simp;done)|(go_simp;with_reducible rfl)))(hS:S w:=by assumption):wpAnyH P md ops Q S (fuel+1) listed a w :=
 zqn d hi hd hs hf hr hQ hw hv hS h
theorem rgb{i:Nat}{oi:Oper}{fuel:Nat}{listed:Array Bool}{a:Act}{w:World}(hr:Region.ready md ops listed=[i])(hi:ops[i]?=some oi)(h:∀ K:Act->World->Prop,Shut (∀ a w,S w->(S w->wpAnyH P md ops Q S fuel (listed.setIfInBounds i true) a w)->K a w)->if Region.wanted oi (yielded ops a.tmps)=true then Oper.wp P oi a w K Q else K (a.put oi.dst undef) w):wpAnyH P md ops Q S (fuel+1) listed a w :=
 wpAnyH_ready hr (by simp) (AllReadyH.cons hi h AllReadyH.nil)
theorem pz:(∀ (l:List Value) (i:Nat) (v:Value),l.toArray.setIfInBounds i v=(l.set i v).toArray)∧(∀ (x v:Value) (l:List Value),(x::l).set 0 v=v::l)∧(∀ (x v:Value) (l:List Value) (n:Nat),(x::l).set (n+1) v=x::l.set n v) :=
 ⟨fun _ _ _=>List.setIfInBounds_toArray ..,fun _ _ _=>rfl,fun _ _ _ _=>rfl⟩
end
section
open Go.RowKit
theorem za6{w:World}{base e size n:Nat}{v:Value}{xs:List Value}(h:w.ownsRow base e size v n xs):∃ a c,v=.slice a n c:=by
 rcases h.2 with ⟨rfl,rfl⟩|⟨g,cap,cur,rfl,_⟩
 · exact⟨_,_,rfl⟩
 · exact⟨_,_,rfl⟩
theorem zef{P:Program}(w:World)(base t e:TypeId)(i:TypeInfo)(size:Nat)(ht:P.underlying t=some (.slice e))(hi:P.info? e=some i)(ty:Nat)(v:Value)(n c:Nat)(xs:List Value)(hown:w.ownsRow base e size v n xs) :
  (Builtin.append_ #[t,t] ty #[v,.slice none 0 c]).run P w=.ok v w:=by
 rcases hown.2 with ⟨rfl,rfl⟩|⟨g,cap,cur,rfl,_,_,hnc,_⟩
 · simp [Builtin.append_,run_underlying ht,sizeOf,typeInfo,hi,Builtin.lenOf,Builtin.firstCells]
 · simp [Builtin.append_,run_underlying ht,sizeOf,typeInfo,hi,Builtin.lenOf,Builtin.firstCells,hnc,storeCells]
def CS(w:World)(size:Nat)(v:Value)(m:Nat)(news:List Value):Prop :=
 ∃ a c,v=.slice a m c∧news.length=m*size∧(0<m->∃ ad,a=some ad∧∀ j u,news[j]?=some u->w.cell? (ad.add j)=some u)
theorem CS.below{w w':World}{size m:Nat}{v:Value}{news:List Value}(h:CS w size v m news)(hb:Below w.heap.size w w'):CS w' size v m news:=by
 obtain⟨a,c,h1,h2,h3⟩:=h
 exact⟨a,c,h1,h2,fun h0=>by
  obtain⟨ad,e,p⟩:=h3 h0;exact⟨ad,e,fun j u hu=>zac hb (p j u hu)⟩⟩
theorem zca{ops:Array Oper}{rest:List Oper}{o:Oper}{a:Act}{Q:Exit->Act->World->Prop}(w:World)(hgd:o.guard=none)(s x:Operand)(t e:TypeId)(i:TypeInfo)(z:Value)(size bytes:Nat)(ho:o.op=.call { callee:=.builtin .append,args:=#[s,x],argTypes:=#[t,t] })(ht:Tryz.prog.underlying t=some (.slice e))(hi:Tryz.prog.info? e=some i)(hz:i.zero=some z)(hsize:i.size=size)(hby:i.bytes=bytes)(hzs:z.cells.size=size)(hsz:0<size)(base:Nat)(v sv:Value)(n m:Nat)(xs news:List Value)(hs:a.eval s=v)(hown:w.ownsRow base e size v n xs)(hx:a.eval x=sv)(hc:CS w size sv m news)(h1:∀ u∈news,u.oneCell'=true)(h63:n+m<=maxLen)(hbytes:(n+m)*bytes<=140737488355328)(hbase:base<=w.heap.size)(h:∀ a' c' w',w'.ownsRow base e size (.slice a' (n+m) c') (n+m) (xs++news)->w.grownBy w' v.ownBlock->((Value.slice a' (n+m) c').ownBlock=v.ownBlock∨(Value.slice a' (n+m) c').ownBlock=some w.heap.size)->wpList Tryz.prog ops Q rest (a.put o.dst (.slice a' (n+m) c')) w') :
  wpList Tryz.prog ops Q (o::rest) a w:=by
 obtain⟨ad,c,rfl,hll,hcs⟩:=hc;rcases ad with _|ad
 · have h0:m=0:=by
    rcases Nat.eq_zero_or_pos m with h0|h0
    · exact h0
    · obtain⟨b,e,-⟩:=hcs h0;cases e
   subst h0;obtain rfl:news=[]:=List.eq_nil_of_length_eq_zero (by omega);obtain⟨a',c',rfl⟩:=za6 hown;refine wpList_plain hgd fun K hK=>?_
   have hrun:=zef w base t e i size ht hi o.type _ _ c _ hown;unfold Oper.wp execOp;simp only[ho,resolve,invoke,builtin,Sem.run_bind,Sem.run_pure,Result.andThen_ok,List.map_toArray,List.map_cons,List.map_nil,hs,hx,hrun]
   have:=h a' c' w (by simpa using hown) (World.grownBy.refl w _) (.inl (by cases a' <;> rfl));exact hK _ _ this
 · refine wpList_append_own_at w hgd s x t ho base e i z size bytes ht hi hz hsize hby hzs hsz v n xs hs hown ad m c news hx hll (fun j u hu=>?_) h1 h63 hbytes hbase ?_
   · rcases Nat.eq_zero_or_pos m with h0|h0
     · subst h0;obtain rfl:news=[]:=List.eq_nil_of_length_eq_zero (by omega);simp at hu
     · obtain⟨ad',e,p⟩:=hcs h0;cases e
       exact p j u hu
   · intro v' w' hown' hgrow _ hat;obtain⟨a',c',rfl⟩:=za6 hown';exact h a' c' w' hown' hgrow hat
theorem za2{w w':World}{v:Value}{base:Nat}(hg:w.grownBy w' v.ownBlock)(hb:∀ k,v.ownBlock=some k->base<=k)(hs:base<=w.heap.size):Below base w w' :=
 (Below.refl base w).grown hg hs hb
theorem zam{w:World}{base e size n:Nat}{v:Value}{xs:List Value}(h:w.ownsRow base e size v n xs):∀ k,v.ownBlock=some k->base<=k∧k<w.heap.size:=by
 intro k hk;rcases h.2 with ⟨rfl,rfl⟩|⟨g,cap,cur,rfl,hb,hg,_⟩
 · cases hk
 · obtain rfl:g=k:=by simpa [Value.ownBlock] using hk
   refine⟨hb,?_⟩
   rcases Nat.lt_or_ge g w.heap.size with h1|h1
   · exact h1
   · rw[Array.getElem?_eq_none h1] at hg;cases hg
theorem zaD{w w':World}{base e size n:Nat}{v:Value}{xs:List Value}(h:w.ownsRow base e size v n xs)(k:∀ x,v.ownBlock=some x->w'.heap[x]?=w.heap[x]?):w'.ownsRow base e size v n xs:=by
 refine⟨h.1,?_⟩
 rcases h.2 with h0|⟨g,cap,cur,rfl,hb,hg,hr⟩
 · exact .inl h0
 · exact .inr ⟨g,cap,cur,rfl,hb,(k g rfl).trans hg,hr⟩
theorem zbq{w:World}{base e size n:Nat}{v:Value}{xs:List Value}(h:w.ownsRow base e size v n xs):CS w size v n xs:=by
 rcases h.2 with ⟨rfl,rfl⟩|⟨g,cap,cur,rfl,_,hg,hnc,_,hcs,ht⟩
 · exact⟨_,_,rfl,h.1,fun h=>absurd h (by decide)⟩
 · refine⟨_,_,rfl,h.1,fun _=>⟨_,rfl,fun j u hu=>?_⟩⟩
   rw[Addr.add_lit,Nat.zero_add,cell_of_row w g j cur e (0,0) hg];rw[<-ht] at hu;have hj:=(List.getElem?_eq_some_iff.1 hu).1;rw[List.getElem?_take_of_lt (by simp at hj;omega)] at hu;simpa using hu
def gv:List Gr->List Value
 | []=>[]
 | g::r=>[.string g.1,.bool g.2.1,.int .i64 g.2.2]++gv r
theorem zl5:∀ l:List Gr,(gv l).length=l.length*3
 | []=>rfl
 | g::r=>by rw[gv,List.length_append,zl5 r,List.length_cons,List.length_cons,List.length_cons,List.length_cons,List.length_nil];omega
theorem zp2:∀ (l:List Gr) (k:Nat) (h:k<l.length),(gv l)[k*3]?=some (.string l[k].1)∧(gv l)[k*3+1]?=some (.bool l[k].2.1)∧(gv l)[k*3+2]?=some (.int .i64 l[k].2.2)
 | g::r,0,_=>⟨rfl,rfl,rfl⟩
 | g::r,k+1,h=>by
   have:=zp2 r k (by simpa using h);have e:(k+1)*3=k*3+3:=by omega
   rw[e,gv];simpa using this
theorem zt1(l:List Gr)(P:Nat->Value->Prop)(h:∀ k (h:k<l.length),P (k*3) (.string l[k].1)∧P (k*3+1) (.bool l[k].2.1)∧P (k*3+2) (.int .i64 l[k].2.2)):∀ j u,(gv l)[j]?=some u->P j u:=by
 intro j u hu;have hj:=(List.getElem?_eq_some_iff.1 hu).1;rw[zl5] at hj;have hk:j / 3<l.length:=by omega
 obtain⟨p0,p1,p2⟩:=h (j / 3) hk;obtain⟨q0,q1,q2⟩:=zp2 l (j / 3) hk;rcases (by omega:j=j / 3*3∨j=j / 3*3+1∨j=j / 3*3+2) with e|e|e
 · rw[<-e] at p0 q0;rw[q0] at hu;cases hu;exact p0
 · rw[<-e] at p1 q1;rw[q1] at hu;cases hu;exact p1
 · rw[<-e] at p2 q2;rw[q2] at hu;cases hu;exact p2
theorem GS.cells{w:World}{v:Value}{l:List Gr}(h:GS w v l):CS w 3 v l.length (gv l):=by
 obtain⟨a,c,rfl,-,hc⟩:=h;refine⟨a,c,rfl,zl5 l,fun h0=>?_⟩
 obtain⟨b,o,rfl,-,p⟩:=hc h0;refine⟨_,rfl,zt1 l (fun j u=>w.cell? ((⟨b,o,none⟩:Addr).add j)=some u) fun k hk=>?_⟩
 rw[Addr.add_lit,Addr.add_lit,Addr.add_lit];exact p k hk
def ec:List (Array Value)->List Value
 | []=>[]
 | r::l=>r.toList++ec l
theorem zhw:∀ (l m:List (Array Value)),ec (l++m)=ec l++ec m
 | [],m=>rfl
 | g::r,m=>by rw[List.cons_append,ec,ec,zhw r m,List.append_assoc]
theorem zhx:∀ (l:List (Array Value)) (_:∀ r∈l,r.size=33),(ec l).length=l.length*33
 | [],_=>rfl
 | r::l,h=>by
   rw[ec,List.length_append,zhx l (fun x hx=>h x (by simp [hx])),List.length_cons,Array.length_toList,h r (by simp)];omega
theorem zlD:∀ (l:List (Array Value)) (_:∀ r∈l,r.size=33) (k i:Nat) (_:i<33) (r:Array Value),l[k]?=some r->(ec l)[k*33+i]?=r[i]?
 | [],_,k,i,_,r,h=>by simp at h
 | x::l,hz,0,i,hi,r,h=>by
   simp at h;subst h
   rw[ec,List.getElem?_append_left (by rw[Array.length_toList,hz x (by simp)];omega)];simp
 | x::l,hz,k+1,i,hi,r,h=>by
   have:=zlD l (fun x hx=>hz x (by simp [hx])) k i hi r (by simpa using h);rw[ec,List.getElem?_append_right (by rw[Array.length_toList,hz x (by simp)];omega),Array.length_toList,hz x (by simp),<-this];congr 1;omega
theorem ztQ(l:List (Array Value))(hz:∀ r∈l,r.size=33)(P:Nat->Value->Prop)(h:∀ (k i:Nat) (r:Array Value) (v:Value),l[k]?=some r->r[i]?=some v->P (k*33+i) v):∀ j u,(ec l)[j]?=some u->P j u:=by
 intro j u hu;have hj:=(List.getElem?_eq_some_iff.1 hu).1;rw[zhx l hz] at hj;have hk:j / 33<l.length:=by omega
 have e:j=j / 33*33+j % 33:=by omega
 rw[e] at hu ⊢;rw[zlD l hz (j / 33) (j % 33) (by omega) l[j / 33] (List.getElem?_eq_getElem hk)] at hu;exact h _ _ _ _ (List.getElem?_eq_getElem hk) hu
theorem ztR(l:List (Array Value))(hz:∀ r∈l,r.size=33)(h:∀ r∈l,zaM r.toList=true):∀ u∈ec l,u.oneCell'=true:=by
 intro u hu
 induction l with
 | nil=>cases hu
 | cons r l ih =>
   rw[ec,List.mem_append] at hu;rcases hu with hu|hu
   · have:=zcH _ (h r (by simp));exact List.all_eq_true.1 this u hu
   · exact ih (fun x hx=>hz x (by simp [hx])) (fun x hx=>h x (by simp [hx])) hu
theorem own_mid{w:World}{base n:Nat}{v:Value}{l:List (Array Value)}(hz:∀ r∈l,r.size=33)(h:w.ownsRow base 40 33 v n (ec l))(k:Nat)(r:Array Value)(hk:l[k]?=some r):∃ g c,v=.slice (some ⟨g,0,none⟩) n c∧base<=g∧g<w.heap.size∧mid w g (k*33)=r:=by
 have hkl:=(List.getElem?_eq_some_iff.1 hk).1;have hr:r.size=33:=hz r (List.mem_of_getElem? hk);have hlen:l.length=n:=by have:=h.1;rw[zhx l hz] at this;omega
 have hcs:=zbq h;rcases h.2 with ⟨rfl,h0⟩|⟨g,cap,cur,rfl,hb,hg,hr'⟩
 · omega
 · obtain⟨a,c,e,-,hp⟩:=hcs;obtain⟨ad,e2,p⟩:=hp (by omega);injection e with e1
   rw[e2] at e1;cases e1
   refine⟨g,cap,rfl,hb,?_,zjY hr fun i v hv=>?_⟩
   · rcases Nat.lt_or_ge g w.heap.size with h1|h1
     · exact h1
     · rw[Array.getElem?_eq_none h1] at hg;cases hg
   · have hi:i<33:=by rw[<-hr];exact (Array.getElem?_eq_some_iff.1 hv).1
     have:=p (k*33+i) v (by rw[zlD l hz k i hi r hk];exact hv);rw[Addr.add_lit,Nat.zero_add] at this;exact this
def zdA(w:World)(b o n:Nat):List (Array Value):=(List.range n).map fun k=>mid w b (o+k*33)
theorem ES.size{w:World}{a:Option Addr}{n:Nat}{F:Nat->Ef}(h:ES w a n F)(b o:Nat)(ha:a=some ⟨b,o,none⟩):∀ r∈zdA w b o n,r.size=33:=by
 intro r hr;unfold zdA at hr;obtain⟨k,hk,rfl⟩:=List.mem_map.1 hr;obtain⟨b',o',e,-,a1,c1,a2,c2,he,-⟩:=h.2 k (List.mem_range.1 hk);rw[ha] at e;cases e;rw[he];exact zaa _ _ _
theorem ES.ones{w:World}{a:Option Addr}{n:Nat}{F:Nat->Ef}(h:ES w a n F)(b o:Nat)(ha:a=some ⟨b,o,none⟩):∀ r∈zdA w b o n,zaM r.toList=true:=by
 intro r hr;unfold zdA at hr;obtain⟨k,hk,rfl⟩:=List.mem_map.1 hr;obtain⟨b',o',e,-,a1,c1,a2,c2,he,-⟩:=h.2 k (List.mem_range.1 hk);rw[ha] at e;cases e;rw[he];exact zau _ _ _ rfl rfl
theorem ES.cells{w:World}{b o n c:Nat}{F:Nat->Ef}(h:ES w (some ⟨b,o,none⟩) n F):CS w 33 (.slice (some ⟨b,o,none⟩) n c) n (ec (zdA w b o n)):=by
 have hz:=h.size b o rfl;refine⟨_,_,rfl,by rw[zhx _ hz];unfold zdA;simp,fun _=>⟨_,rfl,ztQ _ hz (fun j u=>w.cell? ((⟨b,o,none⟩:Addr).add j)=some u) fun k i r v hr hv=>?_⟩⟩
 unfold zdA at hr;rw[List.getElem?_map] at hr
 cases e:(List.range n)[k]? with
 | none=>rw[e] at hr;cases hr
 | some k' =>
   rw[e] at hr
   have hk':k'=k:=by
    have:=(List.getElem?_eq_some_iff.1 e).2;simpa using this.symm
   subst hk';cases hr
   have:=zjr rfl i v hv;rw[Addr.add_lit,<-Nat.add_assoc];exact this
theorem ztS:Tryz.prog.info? 40=some ((Tryz.prog.info? 40).getD default):=by kernel_rfl
theorem zlE:((Tryz.prog.info? 40).getD default).zero=some (.agg (En.zero.vals (.slice none 0 0) (.slice none 0 0))):=by kernel_rfl
theorem zlF:((Tryz.prog.info? 40).getD default).size=33:=by kernel_rfl
theorem zlG:((Tryz.prog.info? 40).getD default).bytes=336:=by kernel_rfl
end
section
open Go.RowKit
attribute [local go_sem] zaC zaE zbg zbs zbl
theorem zei(a b:ByteArray):(a.toList==b.toList)=decide (a=b):=by
 rw[Bool.eq_iff_iff,beq_iff_eq,decide_eq_true_eq,znu]
def SS(w:World)(v:Value)(l:List ByteArray):Prop :=
 ∃ a c,v=.slice a l.length c∧l.length<=1000000∧(0<l.length->∃ b o,a=some ⟨b,o,none⟩∧b<w.heap.size∧∀ k (h:k<l.length),w.cell? ⟨b,o+k,none⟩=some (.string l[k]))
theorem SS.below{w w':World}{v:Value}{l:List ByteArray}(h:SS w v l)(hb:Below w.heap.size w w'):SS w' v l:=by
 obtain⟨a,c,h1,h2,h3⟩:=h;refine⟨a,c,h1,h2,fun h0=>?_⟩
 obtain⟨b,o,ha,hlt,hc⟩:=h3 h0;exact⟨b,o,ha,Nat.lt_of_lt_of_le hlt hb.size,fun k hk=>(hb.cell (p:=⟨b,o+k,none⟩) hlt).trans (hc k hk)⟩
theorem SS.nil(w:World):SS w (.slice none 0 0) []:=⟨none,0,rfl,by decide,fun h=>by simp at h⟩
end
section
open Go.RowKit
open Go.Maps Go.WideMaps
def KS(w:World)(b n:Nat)(S:ByteArray->Bool):Prop:=∃ D:DataW Unit,w.ownsMap Tryz.prog 9 (plainElem Tryz.prog 4) b n D∧∀ x:ByteArray,D.atKey (.string x.data.toList) (.lit (.bool false))=.lit (.bool (S x))
theorem KS.made(w:World):KS (w.alloc (.map #[] 0)) w.heap.size 0 (fun _=>false) :=
 ⟨.map [],World.ownsMap_made w _ _ _,fun _=>rfl⟩
theorem zdJ{e:TypeId}(he:Tryz.prog.underlying e=some .bool){v:Value}{z:DataW Unit × List MemPlace}(h:plainElem Tryz.prog e v=some z):∃ x,v=.bool x∧z=(.lit (.bool x),[]):=by
 unfold plainElem at h;rw[he] at h;cases v <;> simp at h
 exact⟨_,rfl,h.symm⟩
theorem KS.look{w:World}{b n:Nat}{S:ByteArray->Bool}(h:KS w b n S)(x:ByteArray)(hx:x.size<=1000):(Instr.lookup 53 (.map (some b)) (.string x) false).run Tryz.prog w=.ok (.bool (S x)) w:=by
 obtain⟨D,h1,h2⟩:=h;obtain⟨v,ps,hrun,hv⟩:=h1.lookup (string_keyed Tryz.underlying9) Tryz.underlying53 (z:=.bool false) (by kernel_rfl) (plainElem_bool Tryz.underlying4 false) (keyOf_string_mk Tryz.underlying9 (s:=x) (by unfold maxLen;omega));obtain⟨y,rfl,hy⟩:=zdJ Tryz.underlying4 hv;rw[h2 x] at hy;have e:S x=y:=Lit.bool.inj (DataW.lit.inj (congrArg Prod.fst hy));rw[e];exact hrun
theorem zia{P:Program}(w:World)(base t e:TypeId)(i:TypeInfo)(size:Nat)(ht:P.underlying t=some (.slice e))(hi:P.info? e=some i)(ty:Nat)(v:Value)(n c:Nat)(ad:Option Addr)(xs:List Value)(hown:w.ownsRow base e size v n xs) :
  (Builtin.append_ #[t,t] ty #[v,.slice ad 0 c]).run P w=.ok v w:=by
 cases ad with
 | none=>exact zef w base t e i size ht hi ty v n c xs hown
 | some ad =>
   rcases hown.2 with ⟨rfl,rfl⟩|⟨g,cap,cur,rfl,_,_,hnc,_⟩
   · simp [Builtin.append_,run_underlying ht,sizeOf,typeInfo,hi,Builtin.lenOf,Builtin.firstCells,loadCells,loadCellsFrom]
   · simp [Builtin.append_,run_underlying ht,sizeOf,typeInfo,hi,Builtin.lenOf,Builtin.firstCells,hnc,storeCells,loadCells,loadCellsFrom]
theorem za9{ops:Array Oper}{o:Oper}{a:Act}{K:Act->World->Prop}{Q:Exit->Act->World->Prop}{E:Prop}(w:World)(hgd:o.guard=none)(s x:Operand)(t e:TypeId)(i:TypeInfo)(z:Value)(size bytes:Nat)(ho:o.op=.call { callee:=.builtin .append,args:=#[s,x],argTypes:=#[t,t] })(ht:Tryz.prog.underlying t=some (.slice e))(hi:Tryz.prog.info? e=some i)(hz:i.zero=some z)(hsize:i.size=size)(hby:i.bytes=bytes)(hzs:z.cells.size=size)(hsz:0<size)(base:Nat)(v sv:Value)(n m:Nat)(xs news:List Value)(hs:a.eval s=v)(hown:w.ownsRow base e size v n xs)(hx:a.eval x=sv)(hc:CS w size sv m news)(h1:∀ u∈news,u.oneCell'=true)(h63:n+m<=maxLen)(hbytes:(n+m)*bytes<=140737488355328)(hbase:base<=w.heap.size)(h:∀ a' c' w',w'.ownsRow base e size (.slice a' (n+m) c') (n+m) (xs++news)->w.grownBy w' v.ownBlock->((Value.slice a' (n+m) c').ownBlock=v.ownBlock∨(Value.slice a' (n+m) c').ownBlock=some w.heap.size)->K (a.put o.dst (.slice a' (n+m) c')) w') :
  if Region.wanted o (yielded ops a.tmps)=true then Oper.wp Tryz.prog o a w K Q else E:=by
 have hw:Region.wanted o (yielded ops a.tmps)=true:=by simp [Region.wanted,hgd]
 obtain⟨ad,c,rfl,hll,hcs⟩:=hc;rcases Nat.eq_zero_or_pos m with h0|h0
 · subst h0;obtain rfl:news=[]:=List.eq_nil_of_length_eq_zero (by omega);obtain⟨a',c',rfl⟩:=za6 hown;rw[if_pos hw];have hrun:=zia w base t e i size ht hi o.type _ _ c ad _ hown;unfold Oper.wp execOp;simp only[ho,resolve,invoke,builtin,Sem.run_bind,Sem.run_pure,Result.andThen_ok,List.map_toArray,List.map_cons,List.map_nil,hs,hx,hrun]
   exact h a' c' w (by simpa using hown) (World.grownBy.refl w _) (.inl (by cases a' <;> rfl))
 · obtain⟨ad',rfl,p⟩:=hcs h0;refine step_append_lies w hgd s x t ho base e i z size bytes ht hi hz hsize hby hzs hsz v n xs hs hown ad' m c news hx hll p h1 h0 h63 hbytes hbase w.heap.size rfl ?_
   intro g cap w' hown' hg hat _;refine h _ _ w' hown' hg ?_
   rcases hat with h2|h2
   · exact .inl (by rw[h2];rfl)
   · exact .inr (by rw[h2];rfl)
end
section
open Go.RowKit
theorem zet:∀ (l:List Value) (i:Nat) (zs:Array Value),(l.zipIdx i).foldl (fun (cs:Array Value) (x:Value × Nat)=>cs.setIfInBounds x.2 x.1) zs=over zs i l
 | [],_,_=>rfl
 | v::l,i,zs=>by rw[List.zipIdx_cons,List.foldl_cons,zet l (i+1)];rfl
theorem za1(ev:Operand->Value)(w:World)(dst x t pos af gd)(h3:zbC (ev x)=true)(h4:(zaK (ev x)).size=33) :
  (execOp ev ⟨dst,.buildSlice 50 1 #[(0,x)],t,pos,af,gd⟩).run Tryz.prog w=.ok (.value (.slice (some ⟨w.heap.size,0,none⟩) 1 1)) (w.alloc (.cells (zaK (ev x)) 40)):=by
 obtain⟨cs,hc⟩:∃ cs,ev x=.agg cs:=by
  unfold zbC at h3;split at h3
  · rename_i g h;exact⟨g,h⟩
  · cases h3
 rw[hc,zae] at h4 ⊢;go_simp
 have hsz:cs.zipIdx.size=33:=by simp [h4]
 rw[<-hsz,<-Array.foldl_toList,Array.toList_zipIdx,zet,ze7 _ cs (by rw[h4];rfl)]
theorem zj3:∀ (l m:List Value) (i:Nat) (zs:Array Value),over (over zs i l) (i+l.length) m=over zs i (l++m)
 | [],_,_,_=>rfl
 | v::l,m,i,zs=>by
   rw[over,List.cons_append,over,<-zj3 l m (i+1),List.length_cons,show i+(l.length+1)=i+1+l.length by omega]
end
end Go.Proofs.YtefcmdmfgdcpmaaGreatDoor
