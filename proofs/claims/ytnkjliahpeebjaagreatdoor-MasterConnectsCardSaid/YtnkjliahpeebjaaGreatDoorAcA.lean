/- Catalogs. -/
import Derived.Test.YtnkjliahpeebjaaGreatDoorEc
import Derived.Test.YtnkjliahpeebjaaGreatDoorGeA
import Derived.Test.YtnkjliahpeebjaaGreatDoorRsA
set_option maxRecDepth 8000
set_option maxHeartbeats 8000000
open Option renaming some->Z9,none->Z8
open _root_ renaming ByteArray->Z7,List->Z5,decide_eq_true->ZL,Array->ZE,Option->Zy
open Go.Proofs.Tryz renaming prog->Z6
open Go renaming Value->Z3,World->Z2,TypeId->YZ,execOp->Ya,Addr->XW,run_underlying->XK
open Bool renaming true->ZZ
open Nat renaming lt_of_lt_of_le->ZY,lt_or_ge->YI,zero_add->YE,eq_zero_or_pos->YC
open List renaming length_append->ZQ,getElem?_eq_getElem->ZN,length_cons->ZK,cons_append->Zm,eq_nil_of_length_eq_zero->Y3,getElem?_eq_some_iff->Y0,mem_map->X7,range->X3,mem_range->Ww
open Array renaming getElem?_eq_none->Za,getElem?_eq_some_iff->Y9,length_toList->Y2,getElem?_extract->Yz,getElem?_eq_getElem->Yl
open Go.Addr renaming add_lit->Yr
open Go.Sem renaming run_bind->XV,run_pure->XU
open Go.Region renaming wanted->V8
namespace Go.Proofs.YtnkjliahpeebjaaGreatDoor
variable(c:Operand->Z3){f:ZE Oper}{j:Oper}{α β:Type}{cs:ZE Z3}{w w':Z2}(d:Zy Tmp){b o n base g:Nat}{v:Z3}{Q:Exit->Act->Z2->Prop}{a:Act}{e:ZE Bool}{xs:Z5 Z3}
structure Ef where
 e:En
 n1:Nat
 n2:Nat
 gs:Z5 Gr
def xC(x:Ef):Bool:=Ds.pat (Ds.bl x.e.name)&&(Vp.prof x.e x.gs&&(dh (fG x.e) x.e [] [] x.gs x.gs&&decide (x.n1=0)))
def hits(n:Z5 UInt8)(x:Ef):Bool:=decide (x.e.kind=4)&&(xC x&&Ds.match_ (Ds.bl x.e.name) n)
def ahead(x:Ef):Zy Ef->Bool
 | none=>ZZ
 | some y=>decide (Ds.order (Ds.bl x.e.name) (Ds.bl y.e.name)<0)
def bstep(n:Z5 UInt8)(o:Zy Ef)(x:Ef):Zy Ef:=if hits n x=ZZ/\ahead x o=ZZ then Z9 x else o
def best(n:Z5 UInt8)(l:Z5 Ef):Zy Ef:=l.foldl (bstep n) Z8
theorem r8(n:Z5 UInt8)(l:Z5 Ef)(x:Ef):best n (l++[x])=bstep n (best n l) x:=by
 unfold best;rw[List.foldl_append];rfl
inductive All2 {α β:Type} (R:α->β->Prop):Z5 α->Z5 β->Prop
 | nil:All2 R [] []
 | cons {a b l m}:R a b->All2 R l m->All2 R (a::l) (b::m)
theorem All2.snoc{R:α->β->Prop}{l:Z5 α}{m:Z5 β}{a:α}{b:β}(h:All2 R l m)(r:R a b):All2 R (l++[a]) (m++[b]):=by
 induction h with
 | nil=>exact .cons r .nil
 | cons q _ i=>exact .cons q i
theorem All2.length{R:α->β->Prop}{l:Z5 α}{m:Z5 β}(h:All2 R l m):l.length=m.length:=by
 induction h with
 | nil=>rfl
 | cons _ _ i=>simp [i]
theorem All2.at{α β:Type}{R:α->β->Prop}{l:Z5 α}{m:Z5 β}(h:All2 R l m):∀ (i:Nat) (a:α) (b:β),l[i]?=Z9 a->m[i]?=Z9 b->R a b:=by
 induction h with
 | nil=>intro i a b h;simp at h
 | cons r _ I =>
   intro i a b H p
   cases i with
   | zero=>simp at H p;subst H p;exact r
   | succ i=>simp at H p;exact I i a b H p
def Up(a b:Int):Prop:=(0<=a/\a<=3->a<=b/\b<=3)/\(¬ (0<=a/\a<=3)->b=a)
theorem Up.refl(a:Int):Up a a:=⟨fun h=>⟨Int.le_refl _,h.2⟩,fun _=>rfl⟩
theorem Up.le{a b:Int}(h:Up a b):a<=b:=by
 by_cases k:0<=a/\a<=3
 .exact (h.1 k).1
 .rw[h.2 k];exact Int.le_refl _
theorem Up.rng{a b:Int}(h:Up a b):Vp.rng 0 3 [b]=Vp.rng 0 3 [a]:=by
 unfold Vp.rng;simp only[List.all_cons,List.all_nil,Bool.and_true]
 by_cases k:0<=a/\a<=3
 .have:=h.1 k;rw[ZL k.1,ZL k.2,ZL (by omega:0<=b),ZL (by omega:b<=3)]
 .rw[h.2 k]
def xA(a b:Gr):Prop:=b.1=a.1/\b.2.1=a.2.1/\Up a.2.2 b.2.2
def Rise(x y:Ef):Prop:=y.e.kind=x.e.kind/\y.e.name=x.e.name/\(x.e.kind=4->y.n1=x.n1/\(∃ L,Up x.e.lev L/\y.e={ x.e with lev:=L })/\All2 xA x.gs y.gs)
section
open Go.RowKit
def mid(w:Z2)(b o:Nat):ZE Z3:=(row w b).extract o (o+33)
theorem Ah(l:Below w.heap.size w w')(h:mid w b o=cs)(i:0<cs.size):mid w' b o=cs:=by
 have z:0<(row w b).size:=by
  unfold mid at h;rcases YC (row w b).size with H|H
  .rw[<-h,Array.size_extract] at i;omega
  .exact H
 unfold mid at *;rw[am l rfl z];exact h
theorem tm(h:mid w b o=cs)(i:Nat)(v:Z3)(H:cs[i]?=Z9 v):w.cell? ⟨b,o+i,Z8⟩=Z9 v:=by
 unfold mid at h;subst h;rw[Yz] at H;split at H
 .exact ae rfl (o+i) v H
 .cases H
theorem wd(s:cs.size=33)(h:∀ i v,cs[i]?=Z9 v->w.cell? ⟨b,o+i,Z8⟩=Z9 v):mid w b o=cs:=by
 unfold mid;apply Array.ext_getElem?
 intro i;rw[Yz];by_cases p:i<33
 .have H:=h i cs[i] (Yl (by omega))
  have l:(row w b)[o+i]?=Z9 cs[i]:=by
   unfold row
   cases e:w.heap[b]? with
   | none=>have:=block_lt_of_cell H;rw[Array.getElem?_eq_none_iff] at e;simp only at this;omega
   | some O =>
     cases O with
     | cells c t F=>simp only;rw[<-cell_of_row w b (o+i) c t F e];exact H
     | _=>simp [World.cell?,e] at H
  have m:o+i<(row w b).size:=(Y9.1 l).1;rw[if_pos (by omega),l,Yl (by omega)]
 .rw[Za (by omega:cs.size<=i)];split
  .omega
  .rfl
def lQ:Z3->Bool|.pointer (some ⟨_,_,none⟩)=>ZZ|_=>false
theorem bH(b o:Nat):lQ (.pointer (Z9 ⟨b,o,Z8⟩))=ZZ:=rfl
def lO:Z3->Nat|.pointer (some a)=>a.off|_=>0
theorem bE(a:XW):lO (.pointer (Z9 a))=a.off:=rfl
theorem fb(w:Z2)(dst x t pos af gd)(H:lQ (c x)=ZZ)(i:(mid w (bF (c x)) (lO (c x))).size=33) :
 (Ya c ⟨dst,.load 29 x,t,pos,af,gd⟩).run Z6 w=.ok (.value (.agg (mid w (bF (c x)) (lO (c x))))) w:=by
 obtain⟨g,o,l⟩:∃ g o,c x=.pointer (Z9 ⟨g,o,Z8⟩):=by
  unfold lQ at H;split at H
  .rename_i g o h;exact⟨g,o,h⟩
  .cases H
 rw[l,aH,bE] at i |-;simp only at i |-
 unfold Ya
 have p:w.rangeAt g o (mid w g o).toList:=fun j v m=>by
  rw[Array.getElem?_toList] at m;exact tm rfl j v m
 have q:(mid w g o).toList.length=33:=by simpa using i
 have r:=run_loadAt_mid (P:=Z6) w g o 29 _ _ p Tryz.underlying29 rfl (by rw[q];kernel_rfl);simp only[l,XV,r,Result.andThen_ok,XU,Array.toArray_toList]
def EF(w:Z2)(b o:Nat)(x:Ef):Prop :=
 ∃ (h:Zy XW) (i:Nat) (A:Zy XW) (C:Nat),mid w b o=x.e.vals (.slice h x.n1 i) (.slice A x.n2 C)/\x.n1<=9223372036854775807/\x.n2<=9223372036854775807/\(x.n2<=1000->x.gs.length=x.n2/\GS w (.slice A x.n2 C) x.gs)
theorem EF.below{x:Ef}(h:EF w b o x)(i:Below w.heap.size w w'):EF w' b o x:=by
 obtain⟨A,C,l,m,p,q,r,H⟩:=h;exact⟨A,C,l,m,Ah i p (by rw[ah];decide),q,r,fun h=>⟨(H h).1,(H h).2.below i⟩⟩
def ES(w:Z2)(a:Zy XW)(n:Nat)(F:Nat->Ef):Prop:=n<=9223372036854775807/\∀ k,k<n->∃ b o,a=Z9 ⟨b,o,Z8⟩/\b<w.heap.size/\EF w b (o+k*33) (F k)
theorem ES.below{a:Zy XW}{F:Nat->Ef}(h:ES w a n F)(H:Below w.heap.size w w'):ES w' a n F :=
 ⟨h.1,fun k p=>by
  obtain⟨b,o,i,l,m⟩:=h.2 k p;exact⟨b,o,i,ZY l H.size,m.below H⟩⟩
def lst(F:Nat->Ef)(n:Nat):Z5 Ef:=(X3 n).map F
theorem uH(F:Nat->Ef)(n:Nat):(lst F n).length=n:=by simp [lst]
theorem oI(F:Nat->Ef)(n:Nat):lst F (n+1)=lst F n++[F n]:=by simp [lst,List.range_succ]
end
section
open Go.RowKit
variable {P:Program} {k:Region.Mode} {f:ZE Oper} {Q:Exit->Act->Z2->Prop} {S:Z2->Prop}
theorem eq{i:Nat}(q:f[i]?=Z9 j)(m:j.dst=d)(s:Region.noSelect f=ZZ)(p:Region.free k f e i=ZZ)(r:(Region.ready k f e).contains i=ZZ)(H:∀ c a w,Q (.panic c) (a.put d v) w->Q (.panic c) a w)(u:V8 j (yielded f a.tmps)=ZZ)(t:∀ w,S w->(Ya a.eval j).run P w=.ok (.value v) w)(l:S w)(h:wpAnyH P k f Q S g (e.setIfInBounds i ZZ) (a.put d v) w):wpAnyH P k f Q S (g+1) e a w:=by
 subst m;exact wpAnyH_take q s p r H (Or.inl ⟨u,t⟩) l h
theorem lS{i:Nat}(W:Z2)(p:f[i]?=Z9 j)(m:j.dst=d)(r:Region.ready k f e=[i])(q:V8 j (yielded f a.tmps)=ZZ)(x:(Ya a.eval j).run P w=.ok .skip W)(l:S W)(h:wpAnyH P k f Q S g (e.setIfInBounds i ZZ) (a.put d undef) W):wpAnyH P k f Q S (g+1) e a w:=by
 subst m;refine wpAnyH_ready r (by simp) (AllReadyH.cons p (fun K H=>?_) AllReadyH.nil)
 rw[if_pos q];unfold Oper.wp;rw[x];exact H.out _ _ l (fun _=>h)
theorem rgy{i:Nat}(h:wpAnyH P k f Q S g (e.setIfInBounds i ZZ) (a.put d v) w)(r:f[i]?=Z9 j:=by exact rfl)(p:j.dst=d:=by exact rfl)(t:Region.noSelect f=ZZ:=by kernel_rfl)(q:Region.free k f e i=ZZ:=by kernel_rfl)(s:(Region.ready k f e).contains i=ZZ:=by kernel_rfl)(l:∀ c a w,Q (.panic c) (a.put d v) w->Q (.panic c) a w:=by exact fun _ _ _ h=>h)(x:V8 j (yielded f a.tmps)=ZZ:=by kernel_rfl)(u:∀ w,S w->(Ya a.eval j).run P w=.ok (.value v) w:=by intro w H;(try dsimp only at H);(first|(go_simp;done)|(go_simp;with_reducible rfl)))(m:S w:=by assumption):wpAnyH P k f Q S (g+1) e a w :=
 eq d r p t q s l x u m h
theorem rgb{i:Nat}(r:Region.ready k f e=[i])(H:f[i]?=Z9 j)(h:∀ K:Act->Z2->Prop,Shut (∀ a w,S w->(S w->wpAnyH P k f Q S g (e.setIfInBounds i ZZ) a w)->K a w)->if V8 j (yielded f a.tmps)=ZZ then Oper.wp P j a w K Q else K (a.put j.dst undef) w):wpAnyH P k f Q S (g+1) e a w :=
 wpAnyH_ready r (by simp) (AllReadyH.cons H h AllReadyH.nil)
theorem pz:(∀ (l:Z5 Z3) (i:Nat) (v:Z3),l.toArray.setIfInBounds i v=(l.set i v).toArray)/\(∀ (x v:Z3) (l:Z5 Z3),(x::l).set 0 v=v::l)/\(∀ (x v:Z3) (l:Z5 Z3) (n:Nat),(x::l).set (n+1) v=x::l.set n v) :=
 ⟨fun _ _ _=>List.setIfInBounds_toArray ..,fun _ _ _=>rfl,fun _ _ _ _=>rfl⟩
end
section
open Go.RowKit
theorem bX{e s:Nat}(h:w.ownsRow base e s v n xs):∃ a c,v=.slice a n c:=by
 rcases h.2 with ⟨rfl,rfl⟩|⟨g,C,r,rfl,_⟩
 .exact⟨_,_,rfl⟩
 .exact⟨_,_,rfl⟩
theorem rf{P:Program}(w:Z2)(base t e:YZ)(i:TypeInfo)(s:Nat)(m:P.underlying t=Z9 (.slice e))(l:P.info? e=Z9 i)(T:Nat)(v:Z3)(n c:Nat)(xs:Z5 Z3)(h:w.ownsRow base e s v n xs) :
 (Builtin.append_ #[t,t] T #[v,.slice Z8 0 c]).run P w=.ok v w:=by
 rcases h.2 with ⟨rfl,rfl⟩|⟨g,C,r,rfl,_,_,H,_⟩
 .simp [Builtin.append_,XK m,sizeOf,typeInfo,l,Builtin.lenOf,Builtin.firstCells]
 .simp [Builtin.append_,XK m,sizeOf,typeInfo,l,Builtin.lenOf,Builtin.firstCells,H,storeCells]
def CS(w:Z2)(s:Nat)(v:Z3)(m:Nat)(N:Z5 Z3):Prop :=
 ∃ a c,v=.slice a m c/\N.length=m*s/\(0<m->∃ A,a=Z9 A/\∀ j u,N[j]?=Z9 u->w.cell? (A.add j)=Z9 u)
theorem CS.below{s m:Nat}{N:Z5 Z3}(h:CS w s v m N)(r:Below w.heap.size w w'):CS w' s v m N:=by
 obtain⟨a,c,i,l,q⟩:=h
 exact⟨a,c,i,l,fun H=>by
  obtain⟨A,e,p⟩:=q H;exact⟨A,e,fun j u t=>ai r (p j u t)⟩⟩
theorem dQ{rest:Z5 Oper}{o:Oper}(w:Z2)(I:o.guard=Z8)(s x:Operand)(t e:YZ)(i:TypeInfo)(z:Z3)(l B:Nat)(Y:o.op=.call { callee:=.builtin .append,args:=#[s,x],argTypes:=#[t,t] })(ht:Tryz.prog.underlying t=Z9 (.slice e))(X:Tryz.prog.info? e=Z9 i)(hz:i.zero=Z9 z)(F:i.size=l)(T:i.bytes=B)(W:z.cells.size=l)(V:0<l)(base:Nat)(v sv:Z3)(n m:Nat)(xs N:Z5 Z3)(Z:a.eval s=v)(H:w.ownsRow base e l v n xs)(hx:a.eval x=sv)(hc:CS w l sv m N)(h1:∀ u∈N,u.oneCell'=ZZ)(O:n+m<=maxLen)(y:(n+m)*B<=140737488355328)(D:base<=w.heap.size)(h:∀ A C w',w'.ownsRow base e l (.slice A (n+m) C) (n+m) (xs++N)->w.grownBy w' v.ownBlock->((Value.slice A (n+m) C).ownBlock=v.ownBlock\/(Value.slice A (n+m) C).ownBlock=Z9 w.heap.size)->wpList Z6 f Q rest (a.put o.dst (.slice A (n+m) C)) w') :
 wpList Z6 f Q (o::rest) a w:=by
 obtain⟨L,c,rfl,U,G⟩:=hc;rcases L with _|L
 .have r:m=0:=by
   rcases YC m with r|r
   .exact r
   .obtain⟨b,e,-⟩:=G r;cases e
  subst r;obtain rfl:N=[]:=Y3 (by omega);obtain⟨A,C,rfl⟩:=bX H;refine wpList_plain I fun K hK=>?_
  have J:=rf w base t e i l ht X o.type _ _ c _ H;unfold Oper.wp Ya;simp only[Y,resolve,invoke,builtin,XV,XU,Result.andThen_ok,List.map_toArray,List.map_cons,List.map_nil,Z,hx,J]
  have:=h A C w (by simpa using H) (World.grownBy.refl w _) (.inl (by cases A <;> rfl));exact hK _ _ this
 .refine wpList_append_own_at w I s x t Y base e i z l B ht X hz F T W V v n xs Z H L m c N hx U (fun j u hu=>?_) h1 O y D ?_
  .rcases YC m with r|r
   .subst r;obtain rfl:N=[]:=Y3 (by omega);simp at hu
   .obtain⟨a0,e,p⟩:=G r;cases e
    exact p j u hu
  .intro v' w' q E _ R;obtain⟨A,C,rfl⟩:=bX q;exact h A C w' q E R
theorem fy(H:w.grownBy w' v.ownBlock)(h:∀ k,v.ownBlock=Z9 k->base<=k)(s:base<=w.heap.size):Below base w w' :=
 (Below.refl base w).grown H s h
theorem ax{e s:Nat}(h:w.ownsRow base e s v n xs):∀ k,v.ownBlock=Z9 k->base<=k/\k<w.heap.size:=by
 intro k l;rcases h.2 with ⟨rfl,rfl⟩|⟨g,C,r,rfl,m,i,_⟩
 .cases l
 .obtain rfl:g=k:=by simpa [Value.ownBlock] using l
  refine⟨m,?_⟩
  rcases YI g w.heap.size with H|H
  .exact H
  .rw[Za H] at i;cases i
theorem aV{e s:Nat}(h:w.ownsRow base e s v n xs)(k:∀ x,v.ownBlock=Z9 x->w'.heap[x]?=w.heap[x]?):w'.ownsRow base e s v n xs:=by
 refine⟨h.1,?_⟩
 rcases h.2 with H|⟨g,C,r,rfl,i,l,m⟩
 .exact .inl H
 .exact .inr ⟨g,C,r,rfl,i,(k g rfl).trans l,m⟩
theorem dU{e s:Nat}(h:w.ownsRow base e s v n xs):CS w s v n xs:=by
 rcases h.2 with ⟨rfl,rfl⟩|⟨g,p,C,rfl,_,l,q,_,i,t⟩
 .exact⟨_,_,rfl,h.1,fun h=>absurd h (by decide)⟩
 .refine⟨_,_,rfl,h.1,fun _=>⟨_,rfl,fun j u H=>?_⟩⟩
  rw[Yr,YE,cell_of_row w g j C e (0,0) l];rw[<-t] at H;have m:=(Y0.1 H).1;rw[List.getElem?_take_of_lt (by simp at m;omega)] at H;simpa using H
def gv:Z5 Gr->Z5 Z3
 | []=>[]
 | g::r=>[.string g.1,.bool g.2.1,.int .i64 g.2.2]++gv r
theorem qx:∀ l:Z5 Gr,(gv l).length=l.length*3
 | []=>rfl
 | g::r=>by rw[gv,ZQ,qx r,ZK,ZK,ZK,ZK,List.length_nil];omega
theorem mT:∀ (l:Z5 Gr) (k:Nat) (h:k<l.length),(gv l)[k*3]?=Z9 (.string l[k].1)/\(gv l)[k*3+1]?=Z9 (.bool l[k].2.1)/\(gv l)[k*3+2]?=Z9 (.int .i64 l[k].2.2)
 | g::r,0,_=>⟨rfl,rfl,rfl⟩
 | g::r,k+1,h=>by
   have:=mT r k (by simpa using h);have e:(k+1)*3=k*3+3:=by omega
   rw[e,gv];simpa using this
theorem GH(l:Z5 Gr)(P:Nat->Z3->Prop)(h:∀ k (h:k<l.length),P (k*3) (.string l[k].1)/\P (k*3+1) (.bool l[k].2.1)/\P (k*3+2) (.int .i64 l[k].2.2)):∀ j u,(gv l)[j]?=Z9 u->P j u:=by
 intro j u H;have x:=(Y0.1 H).1;rw[qx] at x;have i:j / 3<l.length:=by omega
 obtain⟨p,m,q⟩:=h (j / 3) i;obtain⟨r,s,t⟩:=mT l (j / 3) i;rcases (by omega:j=j / 3*3\/j=j / 3*3+1\/j=j / 3*3+2) with e|e|e
 .rw[<-e] at p r;rw[r] at H;cases H;exact p
 .rw[<-e] at m s;rw[s] at H;cases H;exact m
 .rw[<-e] at q t;rw[t] at H;cases H;exact q
theorem GS.cells{l:Z5 Gr}(h:GS w v l):CS w 3 v l.length (gv l):=by
 obtain⟨a,c,rfl,-,i⟩:=h;refine⟨a,c,rfl,qx l,fun H=>?_⟩
 obtain⟨b,o,rfl,-,p⟩:=i H;refine⟨_,rfl,GH l (fun j u=>w.cell? ((⟨b,o,Z8⟩:XW).add j)=Z9 u) fun k m=>?_⟩
 rw[Yr,Yr,Yr];exact p k m
def ec:Z5 (ZE Z3)->Z5 Z3
 | []=>[]
 | r::l=>r.toList++ec l
theorem pX:∀ (l m:Z5 (ZE Z3)),ec (l++m)=ec l++ec m
 | [],m=>rfl
 | g::r,m=>by rw[Zm,ec,ec,pX r m,List.append_assoc]
theorem mX:∀ (l:Z5 (ZE Z3)) (_:∀ r∈l,r.size=33),(ec l).length=l.length*33
 | [],_=>rfl
 | r::l,h=>by
   rw[ec,ZQ,mX l (fun x H=>h x (by simp [H])),ZK,Y2,h r (by simp)];omega
theorem pY:∀ (l:Z5 (ZE Z3)) (_:∀ r∈l,r.size=33) (k i:Nat) (_:i<33) (r:ZE Z3),l[k]?=Z9 r->(ec l)[k*33+i]?=r[i]?
 | [],_,k,i,_,r,h=>by simp at h
 | x::l,H,0,i,m,r,h=>by
   simp at h;subst h
   rw[ec,List.getElem?_append_left (by rw[Y2,H x (by simp)];omega)];simp
 | x::l,H,k+1,i,m,r,h=>by
   have:=pY l (fun x p=>H x (by simp [p])) k i m r (by simpa using h);rw[ec,List.getElem?_append_right (by rw[Y2,H x (by simp)];omega),Y2,H x (by simp),<-this];congr 1;omega
theorem Gv(l:Z5 (ZE Z3))(z:∀ r∈l,r.size=33)(P:Nat->Z3->Prop)(h:∀ (k i:Nat) (r:ZE Z3) (v:Z3),l[k]?=Z9 r->r[i]?=Z9 v->P (k*33+i) v):∀ j u,(ec l)[j]?=Z9 u->P j u:=by
 intro j u H;have p:=(Y0.1 H).1;rw[mX l z] at p;have m:j / 33<l.length:=by omega
 have e:j=j / 33*33+j % 33:=by omega
 rw[e] at H |-;rw[pY l z (j / 33) (j % 33) (by omega) l[j / 33] (ZN m)] at H;exact h _ _ _ _ (ZN m) H
theorem own_mid{l:Z5 (ZE Z3)}(z:∀ r∈l,r.size=33)(h:w.ownsRow base 29 33 v n (ec l))(k:Nat)(r:ZE Z3)(m:l[k]?=Z9 r):∃ g c,v=.slice (Z9 ⟨g,0,Z8⟩) n c/\base<=g/\g<w.heap.size/\mid w g (k*33)=r:=by
 have F:=(Y0.1 m).1;have u:r.size=33:=z r (List.mem_of_getElem? m);have t:l.length=n:=by have:=h.1;rw[mX l z] at this;omega
 have s:=dU h;rcases h.2 with ⟨rfl,K⟩|⟨g,C,y,rfl,B,q,I⟩
 .omega
 .obtain⟨a,c,e,-,G⟩:=s;obtain⟨J,A,p⟩:=G (by omega);injection e with E
  rw[A] at E;cases E
  refine⟨g,C,rfl,B,?_,wd u fun i v x=>?_⟩
  .rcases YI g w.heap.size with H|H
   .exact H
   .rw[Za H] at q;cases q
  .have D:i<33:=by rw[<-u];exact (Y9.1 x).1
   have:=p (k*33+i) v (by rw[pY l z k i D r m];exact x);rw[Yr,YE] at this;exact this
def im(w:Z2)(b o n:Nat):Z5 (ZE Z3):=(X3 n).map fun k=>mid w b (o+k*33)
theorem ES.size{a:Zy XW}{F:Nat->Ef}(h:ES w a n F)(b o:Nat)(ha:a=Z9 ⟨b,o,Z8⟩):∀ r∈im w b o n,r.size=33:=by
 intro r H;unfold im at H;obtain⟨k,l,rfl⟩:=X7.1 H;obtain⟨B,O,e,-,A,C,m,p,i,-⟩:=h.2 k (Ww.1 l);rw[ha] at e;cases e;rw[i];exact ah _ _ _
theorem ES.ones{a:Zy XW}{F:Nat->Ef}(h:ES w a n F)(b o:Nat)(ha:a=Z9 ⟨b,o,Z8⟩):∀ r∈im w b o n,bh r.toList=ZZ:=by
 intro r H;unfold im at H;obtain⟨k,l,rfl⟩:=X7.1 H;obtain⟨B,O,e,-,A,C,m,p,i,-⟩:=h.2 k (Ww.1 l);rw[ha] at e;cases e;rw[i];exact ay _ _ _ rfl rfl
theorem ES.cells{c:Nat}{F:Nat->Ef}(h:ES w (Z9 ⟨b,o,Z8⟩) n F):CS w 33 (.slice (Z9 ⟨b,o,Z8⟩) n c) n (ec (im w b o n)):=by
 have z:=h.size b o rfl;refine⟨_,_,rfl,by rw[mX _ z];unfold im;simp,fun _=>⟨_,rfl,Gv _ z (fun j u=>w.cell? ((⟨b,o,Z8⟩:XW).add j)=Z9 u) fun k i r v H m=>?_⟩⟩
 unfold im at H;rw[List.getElem?_map] at H
 cases e:(X3 n)[k]? with
 | none=>rw[e] at H;cases H
 | some K =>
   rw[e] at H
   have l:K=k:=by
    have:=(Y0.1 e).2;simpa using this.symm
   subst l;cases H
   have:=tm rfl i v m;rw[Yr,<-Nat.add_assoc];exact this
theorem kI:Tryz.prog.info? 29=Z9 ((Tryz.prog.info? 29).getD default):=by kernel_rfl
theorem xf:((Tryz.prog.info? 29).getD default).zero=Z9 (.agg (En.zero.vals (.slice Z8 0 0) (.slice Z8 0 0))):=by kernel_rfl
theorem xh:((Tryz.prog.info? 29).getD default).size=33:=by kernel_rfl
theorem xj:((Tryz.prog.info? 29).getD default).bytes=336:=by kernel_rfl
end
section
open Go.RowKit
attribute [local go_sem] ap aq bN cK cC
theorem fd(a b:Z7):(a.toList==b.toList)=decide (a=b):=by
 rw[Bool.eq_iff_iff,beq_iff_eq,decide_eq_true_eq,lM]
def SS(w:Z2)(v:Z3)(l:Z5 Z7):Prop :=
 ∃ a c,v=.slice a l.length c/\l.length<=1000000/\(0<l.length->∃ b o,a=Z9 ⟨b,o,Z8⟩/\b<w.heap.size/\∀ k (h:k<l.length),w.cell? ⟨b,o+k,Z8⟩=Z9 (.string l[k]))
theorem SS.below{l:Z5 Z7}(h:SS w v l)(i:Below w.heap.size w w'):SS w' v l:=by
 obtain⟨a,c,q,r,s⟩:=h;refine⟨a,c,q,r,fun m=>?_⟩
 obtain⟨b,o,ha,H,t⟩:=s m;exact⟨b,o,ha,ZY H i.size,fun k u=>(i.cell (p:=⟨b,o+k,Z8⟩) H).trans (t k u)⟩
theorem SS.nil(w:Z2):SS w (.slice Z8 0 0) []:=⟨Z8,0,rfl,by decide,fun h=>by simp at h⟩
end
section
open Go.RowKit
open Go.Maps Go.WideMaps
def KS(w:Z2)(b n:Nat)(S:Z7->Bool):Prop:=∃ D:DataW Unit,w.ownsMap Z6 9 (plainElem Z6 4) b n D/\∀ x:Z7,D.atKey (.string x.data.toList) (.lit (.bool false))=.lit (.bool (S x))
theorem KS.made(w:Z2):KS (w.alloc (.map #[] 0)) w.heap.size 0 (fun _=>false) :=
 ⟨.map [],World.ownsMap_made w _ _ _,fun _=>rfl⟩
theorem yu{P:Program}(w:Z2)(base t e:YZ)(i:TypeInfo)(s:Nat)(m:P.underlying t=Z9 (.slice e))(H:P.info? e=Z9 i)(T:Nat)(v:Z3)(n c:Nat)(A:Zy XW)(xs:Z5 Z3)(h:w.ownsRow base e s v n xs) :
 (Builtin.append_ #[t,t] T #[v,.slice A 0 c]).run P w=.ok v w:=by
 cases A with
 | none=>exact rf w base t e i s m H T v n c xs h
 | some A =>
   rcases h.2 with ⟨rfl,rfl⟩|⟨g,C,r,rfl,_,_,l,_⟩
   .simp [Builtin.append_,XK m,sizeOf,typeInfo,H,Builtin.lenOf,Builtin.firstCells,loadCells,loadCellsFrom]
   .simp [Builtin.append_,XK m,sizeOf,typeInfo,H,Builtin.lenOf,Builtin.firstCells,l,storeCells,loadCells,loadCellsFrom]
theorem bU{o:Oper}{K:Act->Z2->Prop}{E:Prop}(w:Z2)(F:o.guard=Z8)(s x:Operand)(t e:YZ)(i:TypeInfo)(z:Z3)(l B:Nat)(Z:o.op=.call { callee:=.builtin .append,args:=#[s,x],argTypes:=#[t,t] })(ht:Tryz.prog.underlying t=Z9 (.slice e))(Y:Tryz.prog.info? e=Z9 i)(hz:i.zero=Z9 z)(C:i.size=l)(T:i.bytes=B)(X:z.cells.size=l)(W:0<l)(base:Nat)(v sv:Z3)(n m:Nat)(xs N:Z5 Z3)(hs:a.eval s=v)(H:w.ownsRow base e l v n xs)(hx:a.eval x=sv)(hc:CS w l sv m N)(h1:∀ u∈N,u.oneCell'=ZZ)(O:n+m<=maxLen)(q:(n+m)*B<=140737488355328)(r:base<=w.heap.size)(h:∀ A D w',w'.ownsRow base e l (.slice A (n+m) D) (n+m) (xs++N)->w.grownBy w' v.ownBlock->((Value.slice A (n+m) D).ownBlock=v.ownBlock\/(Value.slice A (n+m) D).ownBlock=Z9 w.heap.size)->K (a.put o.dst (.slice A (n+m) D)) w') :
 if V8 o (yielded f a.tmps)=ZZ then Oper.wp Z6 o a w K Q else E:=by
 have hw:V8 o (yielded f a.tmps)=ZZ:=by simp [V8,F]
 obtain⟨ad,c,rfl,V,U⟩:=hc;rcases YC m with I|I
 .subst I;obtain rfl:N=[]:=Y3 (by omega);obtain⟨A,D,rfl⟩:=bX H;rw[if_pos hw];have G:=yu w base t e i l ht Y o.type _ _ c ad _ H;unfold Oper.wp Ya;simp only[Z,resolve,invoke,builtin,XV,XU,Result.andThen_ok,List.map_toArray,List.map_cons,List.map_nil,hs,hx,G]
  exact h A D w (by simpa using H) (World.grownBy.refl w _) (.inl (by cases A <;> rfl))
 .obtain⟨J,rfl,p⟩:=U I;refine step_append_lies w F s x t Z base e i z l B ht Y hz C T X W v n xs hs H J m c N hx V p h1 I O q r w.heap.size rfl ?_
  intro g a0 w' y hg R _;refine h _ _ w' y hg ?_
  rcases R with L|L
  .exact .inl (by rw[L];rfl)
  .exact .inr (by rw[L];rfl)
end
section
open Go.RowKit
theorem me:∀ (l:Z5 Z3) (i:Nat) (z:ZE Z3),(l.zipIdx i).foldl (fun (cs:ZE Z3) (x:Z3 × Nat)=>cs.setIfInBounds x.2 x.1) z=over z i l
 | [],_,_=>rfl
 | v::l,i,z=>by rw[List.zipIdx_cons,List.foldl_cons,me l (i+1)];rfl
theorem cl(w:Z2)(dst x t pos af gd)(H:cV (c x)=ZZ)(i:(bA (c x)).size=33) :
 (Ya c ⟨dst,.buildSlice 33 1 #[(0,x)],t,pos,af,gd⟩).run Z6 w=.ok (.value (.slice (Z9 ⟨w.heap.size,0,Z8⟩) 1 1)) (w.alloc (.cells (bA (c x)) 29)):=by
 obtain⟨cs,l⟩:∃ cs,c x=.agg cs:=by
  unfold cV at H;split at H
  .rename_i g h;exact⟨g,h⟩
  .cases H
 rw[l,aK] at i |-;go_simp
 have z:cs.zipIdx.size=33:=by simp [i]
 rw[<-z,<-Array.foldl_toList,Array.toList_zipIdx,me,lv _ cs (by rw[i];rfl)]
theorem tS:∀ (l m:Z5 Z3) (i:Nat) (z:ZE Z3),over (over z i l) (i+l.length) m=over z i (l++m)
 | [],_,_,_=>rfl
 | v::l,m,i,z=>by
   rw[over,Zm,over,<-tS l m (i+1),ZK,show i+(l.length+1)=i+1+l.length by omega]
end
end Go.Proofs.YtnkjliahpeebjaaGreatDoor
