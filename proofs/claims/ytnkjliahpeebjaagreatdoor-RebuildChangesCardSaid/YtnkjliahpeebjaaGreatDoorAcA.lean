/- Catalogs. -/
import Derived.Test.YtnkjliahpeebjaaGreatDoorEc
import Derived.Test.YtnkjliahpeebjaaGreatDoorGeA
import Derived.Test.YtnkjliahpeebjaaGreatDoorRsA
set_option maxRecDepth 8000
set_option maxHeartbeats 8000000
open Option renaming some->Z9,none->Z7
open Go.Proofs.Tryz renaming prog->Z8
open _root_ renaming ByteArray->Z6,List->Z1,decide_eq_true->ZI,Array->Zy,Option->Zp
open Go renaming Value->Z2,World->ZY,TypeId->Y2,undef->YY,block_lt_of_cell->YF,run_underlying->Yk,Addr->XV,execOp->XP
open Bool renaming true->ZX,false->ZW
open List renaming length_append->ZO,getElem?_eq_getElem->ZE,length_cons->Zw,append_assoc->Zr,cons_append->Zg,eq_nil_of_length_eq_zero->Y5,getElem?_eq_some_iff->YR,range->YK,foldl_cons->XW,mem_map->Xv,mem_range->Wt
open Nat renaming lt_of_lt_of_le->Zz,lt_or_ge->YG,zero_add->Yw,eq_zero_or_pos->Ym
open Array renaming getElem?_eq_getElem->Zu,getElem?_eq_some_iff->Zf,getElem?_eq_none->Y9,length_toList->YJ,getElem?_extract->Ye
open Go.Addr renaming add_lit->Yl,add->Wj
open Go.Sem renaming run_bind->Xg,run_pure->Xf
open Go.Region renaming wanted->WI
namespace Go.Proofs.YtnkjliahpeebjaaGreatDoor
variable(c:Operand->Z2){f:Zy Oper}{β α:Type}{j:Oper}{w w':ZY}(d:Zp Tmp){l:Z1 Gr}{cs:Zy Z2}{o base n g b:Nat}{v:Z2}{Q:Exit->Act->ZY->Prop}{e:Zy Bool}{a:Act}{xs:Z1 Z2}
structure Ef where
 e:En
 n1:Nat
 n2:Nat
 gs:Z1 Gr
def xC(x:Ef):Bool:=Ds.pat (Ds.bl x.e.name)&&(Vp.prof x.e x.gs&&(dh (fG x.e) x.e [] [] x.gs x.gs&&decide (x.n1=0)))
def hits(n:Z1 UInt8)(x:Ef):Bool:=decide (x.e.kind=4)&&(xC x&&Ds.match_ (Ds.bl x.e.name) n)
def ahead(x:Ef):Zp Ef->Bool
 | none=>ZX
 | some y=>decide (Ds.order (Ds.bl x.e.name) (Ds.bl y.e.name)<0)
def bstep(n:Z1 UInt8)(o:Zp Ef)(x:Ef):Zp Ef:=if hits n x=ZX/\ahead x o=ZX then Z9 x else o
def best(n:Z1 UInt8)(l:Z1 Ef):Zp Ef:=l.foldl (bstep n) Z7
theorem r8(n:Z1 UInt8)(l:Z1 Ef)(x:Ef):best n (l++[x])=bstep n (best n l) x:=by
 unfold best;rw[List.foldl_append];rfl
inductive All2 {α β:Type} (R:α->β->Prop):Z1 α->Z1 β->Prop
 | nil:All2 R [] []
 | cons {a b l m}:R a b->All2 R l m->All2 R (a::l) (b::m)
theorem All2.snoc{R:α->β->Prop}{l:Z1 α}{m:Z1 β}{a:α}{b:β}(h:All2 R l m)(r:R a b):All2 R (l++[a]) (m++[b]):=by
 induction h with
 | nil=>exact .cons r .nil
 | cons q _ i=>exact .cons q i
theorem All2.length{R:α->β->Prop}{l:Z1 α}{m:Z1 β}(h:All2 R l m):l.length=m.length:=by
 induction h with
 | nil=>rfl
 | cons _ _ i=>simp [i]
theorem All2.at{α β:Type}{R:α->β->Prop}{l:Z1 α}{m:Z1 β}(h:All2 R l m):∀ (i:Nat) (a:α) (b:β),l[i]?=Z9 a->m[i]?=Z9 b->R a b:=by
 induction h with
 | nil=>intro i a b h;simp at h
 | cons r _ I =>
   intro i a b H p
   cases i with
   | zero=>simp at H p;subst H p;exact r
   | succ i=>simp at H p;exact I i a b H p
def Up(a b:Int):Prop:=(0<=a/\a<=3->a<=b/\b<=3)/\(¬ (0<=a/\a<=3)->b=a)
theorem Up.refl(a:Int):Up a a:=⟨fun h=>⟨Int.le_refl _,h.2⟩,fun _=>rfl⟩
theorem Up.le{a b:Int}(h:Up a b):a<=b:=by
 by_cases k:0<=a/\a<=3
 .exact (h.1 k).1
 .rw[h.2 k];exact Int.le_refl _
theorem Up.rng{a b:Int}(h:Up a b):Vp.rng 0 3 [b]=Vp.rng 0 3 [a]:=by
 unfold Vp.rng;simp only[List.all_cons,List.all_nil,Bool.and_true]
 by_cases k:0<=a/\a<=3
 .have:=h.1 k;rw[ZI k.1,ZI k.2,ZI (by omega:0<=b),ZI (by omega:b<=3)]
 .rw[h.2 k]
def xA(a b:Gr):Prop:=b.1=a.1/\b.2.1=a.2.1/\Up a.2.2 b.2.2
def Rise(x y:Ef):Prop:=y.e.kind=x.e.kind/\y.e.name=x.e.name/\(x.e.kind=4->y.n1=x.n1/\(∃ L,Up x.e.lev L/\y.e={ x.e with lev:=L })/\All2 xA x.gs y.gs)
section
open Go.RowKit
def mid(w:ZY)(b o:Nat):Zy Z2:=(row w b).extract o (o+33)
theorem Ah(m:Below w.heap.size w w')(h:mid w b o=cs)(i:0<cs.size):mid w' b o=cs:=by
 have z:0<(row w b).size:=by
  unfold mid at h;rcases Ym (row w b).size with H|H
  .rw[<-h,Array.size_extract] at i;omega
  .exact H
 unfold mid at *;rw[am m rfl z];exact h
theorem tm(h:mid w b o=cs)(i:Nat)(v:Z2)(H:cs[i]?=Z9 v):w.cell? ⟨b,o+i,Z7⟩=Z9 v:=by
 unfold mid at h;subst h;rw[Ye] at H;split at H
 .exact ae rfl (o+i) v H
 .cases H
theorem wd(s:cs.size=33)(h:∀ i v,cs[i]?=Z9 v->w.cell? ⟨b,o+i,Z7⟩=Z9 v):mid w b o=cs:=by
 unfold mid;apply Array.ext_getElem?
 intro i;rw[Ye];by_cases q:i<33
 .have H:=h i cs[i] (Zu (by omega))
  have m:(row w b)[o+i]?=Z9 cs[i]:=by
   unfold row
   cases e:w.heap[b]? with
   | none=>have:=YF H;rw[Array.getElem?_eq_none_iff] at e;simp only at this;omega
   | some O =>
     cases O with
     | cells c t F=>simp only;rw[<-cell_of_row w b (o+i) c t F e];exact H
     | _=>simp [World.cell?,e] at H
  have p:o+i<(row w b).size:=(Zf.1 m).1;rw[if_pos (by omega),m,Zu (by omega)]
 .rw[Y9 (by omega:cs.size<=i)];split
  .omega
  .rfl
def lQ:Z2->Bool|.pointer (some ⟨_,_,none⟩)=>ZX|_=>ZW
theorem bH(b o:Nat):lQ (.pointer (Z9 ⟨b,o,Z7⟩))=ZX:=rfl
def lO:Z2->Nat|.pointer (some a)=>a.off|_=>0
theorem bE(a:XV):lO (.pointer (Z9 a))=a.off:=rfl
theorem fb(w:ZY)(dst x t pos af gd)(H:lQ (c x)=ZX)(i:(mid w (bF (c x)) (lO (c x))).size=33) :
 (XP c ⟨dst,.load 29 x,t,pos,af,gd⟩).run Z8 w=.ok (.value (.agg (mid w (bF (c x)) (lO (c x))))) w:=by
 obtain⟨g,o,m⟩:∃ g o,c x=.pointer (Z9 ⟨g,o,Z7⟩):=by
  unfold lQ at H;split at H
  .rename_i g o h;exact⟨g,o,h⟩
  .cases H
 rw[m,aH,bE] at i |-;simp only at i |-
 unfold XP
 have q:w.rangeAt g o (mid w g o).toList:=fun j v p=>by
  rw[Array.getElem?_toList] at p;exact tm rfl j v p
 have r:(mid w g o).toList.length=33:=by simpa using i
 have s:=run_loadAt_mid (P:=Z8) w g o 29 _ _ q Tryz.underlying29 rfl (by rw[r];kernel_rfl);simp only[m,Xg,s,Result.andThen_ok,Xf,Array.toArray_toList]
def EF(w:ZY)(b o:Nat)(x:Ef):Prop :=
 ∃ (h:Zp XV) (i:Nat) (A:Zp XV) (C:Nat),mid w b o=x.e.vals (.slice h x.n1 i) (.slice A x.n2 C)/\x.n1<=9223372036854775807/\x.n2<=9223372036854775807/\(x.n2<=1000->x.gs.length=x.n2/\GS w (.slice A x.n2 C) x.gs)
theorem EF.below{x:Ef}(h:EF w b o x)(i:Below w.heap.size w w'):EF w' b o x:=by
 obtain⟨A,C,m,p,q,r,s,H⟩:=h;exact⟨A,C,m,p,Ah i q (by rw[ah];decide),r,s,fun h=>⟨(H h).1,(H h).2.below i⟩⟩
def ES(w:ZY)(a:Zp XV)(n:Nat)(F:Nat->Ef):Prop:=n<=9223372036854775807/\∀ k,k<n->∃ b o,a=Z9 ⟨b,o,Z7⟩/\b<w.heap.size/\EF w b (o+k*33) (F k)
theorem ES.below{a:Zp XV}{F:Nat->Ef}(h:ES w a n F)(H:Below w.heap.size w w'):ES w' a n F :=
 ⟨h.1,fun k q=>by
  obtain⟨b,o,i,m,p⟩:=h.2 k q;exact⟨b,o,i,Zz m H.size,p.below H⟩⟩
def lst(F:Nat->Ef)(n:Nat):Z1 Ef:=(YK n).map F
theorem uH(F:Nat->Ef)(n:Nat):(lst F n).length=n:=by simp [lst]
theorem oI(F:Nat->Ef)(n:Nat):lst F (n+1)=lst F n++[F n]:=by simp [lst,List.range_succ]
end
section
open Go.RowKit
variable {P:Program} {k:Region.Mode} {f:Zy Oper} {Q:Exit->Act->ZY->Prop} {S:ZY->Prop}
theorem eq{i:Nat}(r:f[i]?=Z9 j)(p:j.dst=d)(t:Region.noSelect f=ZX)(q:Region.free k f e i=ZX)(s:(Region.ready k f e).contains i=ZX)(H:∀ c a w,Q (.panic c) (a.put d v) w->Q (.panic c) a w)(x:WI j (yielded f a.tmps)=ZX)(u:∀ w,S w->(XP a.eval j).run P w=.ok (.value v) w)(m:S w)(h:wpAnyH P k f Q S g (e.setIfInBounds i ZX) (a.put d v) w):wpAnyH P k f Q S (g+1) e a w:=by
 subst p;exact wpAnyH_take r t q s H (Or.inl ⟨x,u⟩) m h
theorem I2{i:Nat}(r:f[i]?=Z9 j)(p:j.dst=d)(t:Region.noSelect f=ZX)(q:Region.free k f e i=ZX)(s:(Region.ready k f e).contains i=ZX)(H:∀ c a w,Q (.panic c) (a.put d YY) w->Q (.panic c) a w)(u:WI j (yielded f a.tmps)=ZW)(m:S w)(h:wpAnyH P k f Q S g (e.setIfInBounds i ZX) (a.put d YY) w):wpAnyH P k f Q S (g+1) e a w:=by
 subst p;exact wpAnyH_take r t q s H (Or.inr ⟨u,rfl⟩) m h
theorem lS{i:Nat}(W:ZY)(q:f[i]?=Z9 j)(p:j.dst=d)(r:Region.ready k f e=[i])(s:WI j (yielded f a.tmps)=ZX)(x:(XP a.eval j).run P w=.ok .skip W)(m:S W)(h:wpAnyH P k f Q S g (e.setIfInBounds i ZX) (a.put d YY) W):wpAnyH P k f Q S (g+1) e a w:=by
 subst p;refine wpAnyH_ready r (by simp) (AllReadyH.cons q (fun K H=>?_) AllReadyH.nil)
 rw[if_pos s];unfold Oper.wp;rw[x];exact H.out _ _ m (fun _=>h)
theorem rgy{i:Nat}(h:wpAnyH P k f Q S g (e.setIfInBounds i ZX) (a.put d v) w)(s:f[i]?=Z9 j:=by exact rfl)(q:j.dst=d:=by exact rfl)(u:Region.noSelect f=ZX:=by kernel_rfl)(r:Region.free k f e i=ZX:=by kernel_rfl)(t:(Region.ready k f e).contains i=ZX:=by kernel_rfl)(m:∀ c a w,Q (.panic c) (a.put d v) w->Q (.panic c) a w:=by exact fun _ _ _ h=>h)(y:WI j (yielded f a.tmps)=ZX:=by kernel_rfl)(x:∀ w,S w->(XP a.eval j).run P w=.ok (.value v) w:=by intro w H;(try dsimp only at H);(first|(go_simp;done)|(go_simp;with_reducible rfl)))(p:S w:=by assumption):wpAnyH P k f Q S (g+1) e a w :=
 eq d s q u r t m y x p h
theorem rgs{i:Nat}(h:wpAnyH P k f Q S g (e.setIfInBounds i ZX) (a.put d YY) w)(r:f[i]?=Z9 j:=by exact rfl)(p:j.dst=d:=by exact rfl)(t:Region.noSelect f=ZX:=by kernel_rfl)(q:Region.free k f e i=ZX:=by kernel_rfl)(s:(Region.ready k f e).contains i=ZX:=by kernel_rfl)(H:∀ c a w,Q (.panic c) (a.put d YY) w->Q (.panic c) a w:=by exact fun _ _ _ h=>h)(u:WI j (yielded f a.tmps)=ZW:=by kernel_rfl)(m:S w:=by assumption):wpAnyH P k f Q S (g+1) e a w :=
 I2 d r p t q s H u m h
theorem rgb{i:Nat}(r:Region.ready k f e=[i])(H:f[i]?=Z9 j)(h:∀ K:Act->ZY->Prop,Shut (∀ a w,S w->(S w->wpAnyH P k f Q S g (e.setIfInBounds i ZX) a w)->K a w)->if WI j (yielded f a.tmps)=ZX then Oper.wp P j a w K Q else K (a.put j.dst YY) w):wpAnyH P k f Q S (g+1) e a w :=
 wpAnyH_ready r (by simp) (AllReadyH.cons H h AllReadyH.nil)
theorem pz:(∀ (l:Z1 Z2) (i:Nat) (v:Z2),l.toArray.setIfInBounds i v=(l.set i v).toArray)/\(∀ (x v:Z2) (l:Z1 Z2),(x::l).set 0 v=v::l)/\(∀ (x v:Z2) (l:Z1 Z2) (n:Nat),(x::l).set (n+1) v=x::l.set n v) :=
 ⟨fun _ _ _=>List.setIfInBounds_toArray ..,fun _ _ _=>rfl,fun _ _ _ _=>rfl⟩
end
section
open Go.RowKit
theorem bX{e s:Nat}(h:w.ownsRow base e s v n xs):∃ a c,v=.slice a n c:=by
 rcases h.2 with ⟨rfl,rfl⟩|⟨g,C,r,rfl,_⟩
 .exact⟨_,_,rfl⟩
 .exact⟨_,_,rfl⟩
theorem rf{P:Program}(w:ZY)(base t e:Y2)(i:TypeInfo)(s:Nat)(p:P.underlying t=Z9 (.slice e))(m:P.info? e=Z9 i)(T:Nat)(v:Z2)(n c:Nat)(xs:Z1 Z2)(h:w.ownsRow base e s v n xs) :
 (Builtin.append_ #[t,t] T #[v,.slice Z7 0 c]).run P w=.ok v w:=by
 rcases h.2 with ⟨rfl,rfl⟩|⟨g,C,r,rfl,_,_,H,_⟩
 .simp [Builtin.append_,Yk p,sizeOf,typeInfo,m,Builtin.lenOf,Builtin.firstCells]
 .simp [Builtin.append_,Yk p,sizeOf,typeInfo,m,Builtin.lenOf,Builtin.firstCells,H,storeCells]
def CS(w:ZY)(s:Nat)(v:Z2)(m:Nat)(N:Z1 Z2):Prop :=
 ∃ a c,v=.slice a m c/\N.length=m*s/\(0<m->∃ A,a=Z9 A/\∀ j u,N[j]?=Z9 u->w.cell? (A.add j)=Z9 u)
theorem CS.below{size m:Nat}{N:Z1 Z2}(h:CS w size v m N)(s:Below w.heap.size w w'):CS w' size v m N:=by
 obtain⟨a,c,i,q,r⟩:=h
 exact⟨a,c,i,q,fun H=>by
  obtain⟨A,e,p⟩:=r H;exact⟨A,e,fun j u t=>ai s (p j u t)⟩⟩
theorem dQ{rest:Z1 Oper}{o:Oper}(w:ZY)(J:o.guard=Z7)(s x:Operand)(t e:Y2)(i:TypeInfo)(z:Z2)(q B:Nat)(Z:o.op=.call { callee:=.builtin .append,args:=#[s,x],argTypes:=#[t,t] })(ht:Tryz.prog.underlying t=Z9 (.slice e))(Y:Tryz.prog.info? e=Z9 i)(hz:i.zero=Z9 z)(G:i.size=q)(U:i.bytes=B)(X:z.cells.size=q)(W:0<q)(base:Nat)(v sv:Z2)(n m:Nat)(xs N:Z1 Z2)(hs:a.eval s=v)(H:w.ownsRow base e q v n xs)(hx:a.eval x=sv)(hc:CS w q sv m N)(h1:∀ u∈N,u.oneCell'=ZX)(R:n+m<=maxLen)(C:(n+m)*B<=140737488355328)(E:base<=w.heap.size)(h:∀ A D w',w'.ownsRow base e q (.slice A (n+m) D) (n+m) (xs++N)->w.grownBy w' v.ownBlock->((Value.slice A (n+m) D).ownBlock=v.ownBlock\/(Value.slice A (n+m) D).ownBlock=Z9 w.heap.size)->wpList Z8 f Q rest (a.put o.dst (.slice A (n+m) D)) w') :
 wpList Z8 f Q (o::rest) a w:=by
 obtain⟨O,c,rfl,V,I⟩:=hc;rcases O with _|O
 .have y:m=0:=by
   rcases Ym m with y|y
   .exact y
   .obtain⟨b,e,-⟩:=I y;cases e
  subst y;obtain rfl:N=[]:=Y5 (by omega);obtain⟨A,D,rfl⟩:=bX H;refine wpList_plain J fun K hK=>?_
  have L:=rf w base t e i q ht Y o.type _ _ c _ H;unfold Oper.wp XP;simp only[Z,resolve,invoke,builtin,Xg,Xf,Result.andThen_ok,List.map_toArray,List.map_cons,List.map_nil,hs,hx,L]
  have:=h A D w (by simpa using H) (World.grownBy.refl w _) (.inl (by cases A <;> rfl));exact hK _ _ this
 .refine wpList_append_own_at w J s x t Z base e i z q B ht Y hz G U X W v n xs hs H O m c N hx V (fun j u hu=>?_) h1 R C E ?_
  .rcases Ym m with y|y
   .subst y;obtain rfl:N=[]:=Y5 (by omega);simp at hu
   .obtain⟨a0,e,p⟩:=I y;cases e
    exact p j u hu
  .intro v' w' r F _ T;obtain⟨A,D,rfl⟩:=bX r;exact h A D w' r F T
theorem fy(H:w.grownBy w' v.ownBlock)(h:∀ k,v.ownBlock=Z9 k->base<=k)(s:base<=w.heap.size):Below base w w' :=
 (Below.refl base w).grown H s h
theorem ax{e s:Nat}(h:w.ownsRow base e s v n xs):∀ k,v.ownBlock=Z9 k->base<=k/\k<w.heap.size:=by
 intro k m;rcases h.2 with ⟨rfl,rfl⟩|⟨g,C,r,rfl,p,i,_⟩
 .cases m
 .obtain rfl:g=k:=by simpa [Value.ownBlock] using m
  refine⟨p,?_⟩
  rcases YG g w.heap.size with H|H
  .exact H
  .rw[Y9 H] at i;cases i
theorem aV{e s:Nat}(h:w.ownsRow base e s v n xs)(k:∀ x,v.ownBlock=Z9 x->w'.heap[x]?=w.heap[x]?):w'.ownsRow base e s v n xs:=by
 refine⟨h.1,?_⟩
 rcases h.2 with H|⟨g,C,r,rfl,i,m,p⟩
 .exact .inl H
 .exact .inr ⟨g,C,r,rfl,i,(k g rfl).trans m,p⟩
theorem dU{e s:Nat}(h:w.ownsRow base e s v n xs):CS w s v n xs:=by
 rcases h.2 with ⟨rfl,rfl⟩|⟨g,p,C,rfl,_,m,r,_,i,t⟩
 .exact⟨_,_,rfl,h.1,fun h=>absurd h (by decide)⟩
 .refine⟨_,_,rfl,h.1,fun _=>⟨_,rfl,fun j u H=>?_⟩⟩
  rw[Yl,Yw,cell_of_row w g j C e (0,0) m];rw[<-t] at H;have q:=(YR.1 H).1;rw[List.getElem?_take_of_lt (by simp at q;omega)] at H;simpa using H
def gv:Z1 Gr->Z1 Z2
 | []=>[]
 | g::r=>[.string g.1,.bool g.2.1,.int .i64 g.2.2]++gv r
theorem qx:∀ l:Z1 Gr,(gv l).length=l.length*3
 | []=>rfl
 | g::r=>by rw[gv,ZO,qx r,Zw,Zw,Zw,Zw,List.length_nil];omega
theorem vv:∀ (l:Z1 Gr),∀ u∈gv l,u.oneCell'=ZX
 | [],u,h=>by cases h
 | g::r,u,h=>by
   rw[gv,List.mem_append] at h;rcases h with h|h
   .simp only[List.mem_cons,List.not_mem_nil,or_false] at h
    rcases h with rfl|rfl|rfl <;> rfl
   .exact vv r u h
theorem vu:∀ (l m:Z1 Gr),gv (l++m)=gv l++gv m
 | [],m=>rfl
 | g::r,m=>by rw[Zg,gv,gv,vu r m,Zr]
theorem mT:∀ (l:Z1 Gr) (k:Nat) (h:k<l.length),(gv l)[k*3]?=Z9 (.string l[k].1)/\(gv l)[k*3+1]?=Z9 (.bool l[k].2.1)/\(gv l)[k*3+2]?=Z9 (.int .i64 l[k].2.2)
 | g::r,0,_=>⟨rfl,rfl,rfl⟩
 | g::r,k+1,h=>by
   have:=mT r k (by simpa using h);have e:(k+1)*3=k*3+3:=by omega
   rw[e,gv];simpa using this
theorem GH(l:Z1 Gr)(P:Nat->Z2->Prop)(h:∀ k (h:k<l.length),P (k*3) (.string l[k].1)/\P (k*3+1) (.bool l[k].2.1)/\P (k*3+2) (.int .i64 l[k].2.2)):∀ j u,(gv l)[j]?=Z9 u->P j u:=by
 intro j u H;have x:=(YR.1 H).1;rw[qx] at x;have i:j / 3<l.length:=by omega
 obtain⟨p,m,q⟩:=h (j / 3) i;obtain⟨r,s,t⟩:=mT l (j / 3) i;rcases (by omega:j=j / 3*3\/j=j / 3*3+1\/j=j / 3*3+2) with e|e|e
 .rw[<-e] at p r;rw[r] at H;cases H;exact p
 .rw[<-e] at m s;rw[s] at H;cases H;exact m
 .rw[<-e] at q t;rw[t] at H;cases H;exact q
theorem GS.cells(h:GS w v l):CS w 3 v l.length (gv l):=by
 obtain⟨a,c,rfl,-,i⟩:=h;refine⟨a,c,rfl,qx l,fun H=>?_⟩
 obtain⟨b,o,rfl,-,p⟩:=i H;refine⟨_,rfl,GH l (fun j u=>w.cell? ((⟨b,o,Z7⟩:XV).add j)=Z9 u) fun k m=>?_⟩
 rw[Yl,Yl,Yl];exact p k m
theorem yn(z:l.length<=1000000)(h:CS w 3 v l.length (gv l)):GS w v l:=by
 obtain⟨a,c,rfl,A,q⟩:=h;refine⟨a,c,rfl,z,fun H=>?_⟩
 obtain⟨⟨b,o,s⟩,rfl,p⟩:=q H;have i:=p 0 _ (mT l 0 H).1
 obtain rfl:s=Z7:=by
  have:=World.cell?_spot i;simpa [Wj] using this
 refine⟨b,o,rfl,YF (by simpa [Wj] using i:w.cell? ⟨b,o,Z7⟩=_),fun k t=>?_⟩
 obtain⟨u,x,y⟩:=mT l k t;have r:=p _ _ u;have R:=p _ _ x;have m:=p _ _ y;rw[Yl] at r R m;exact⟨r,R,m⟩
theorem nN:Tryz.prog.info? 103=Z9 ((Tryz.prog.info? 103).getD default):=by kernel_rfl
theorem Hk:((Tryz.prog.info? 103).getD default).zero=Z9 (.agg #[.string ⟨#[]⟩,.bool ZW,.int .i64 0]):=by kernel_rfl
theorem Hl:((Tryz.prog.info? 103).getD default).size=3:=by kernel_rfl
theorem Hm:((Tryz.prog.info? 103).getD default).bytes=32:=by kernel_rfl
def ec:Z1 (Zy Z2)->Z1 Z2
 | []=>[]
 | r::l=>r.toList++ec l
theorem pX:∀ (l m:Z1 (Zy Z2)),ec (l++m)=ec l++ec m
 | [],m=>rfl
 | g::r,m=>by rw[Zg,ec,ec,pX r m,Zr]
theorem mX:∀ (l:Z1 (Zy Z2)) (_:∀ r∈l,r.size=33),(ec l).length=l.length*33
 | [],_=>rfl
 | r::l,h=>by
   rw[ec,ZO,mX l (fun x H=>h x (by simp [H])),Zw,YJ,h r (by simp)];omega
theorem pY:∀ (l:Z1 (Zy Z2)) (_:∀ r∈l,r.size=33) (k i:Nat) (_:i<33) (r:Zy Z2),l[k]?=Z9 r->(ec l)[k*33+i]?=r[i]?
 | [],_,k,i,_,r,h=>by simp at h
 | x::l,H,0,i,m,r,h=>by
   simp at h;subst h
   rw[ec,List.getElem?_append_left (by rw[YJ,H x (by simp)];omega)];simp
 | x::l,H,k+1,i,m,r,h=>by
   have:=pY l (fun x p=>H x (by simp [p])) k i m r (by simpa using h);rw[ec,List.getElem?_append_right (by rw[YJ,H x (by simp)];omega),YJ,H x (by simp),<-this];congr 1;omega
theorem Gv(l:Z1 (Zy Z2))(z:∀ r∈l,r.size=33)(P:Nat->Z2->Prop)(h:∀ (k i:Nat) (r:Zy Z2) (v:Z2),l[k]?=Z9 r->r[i]?=Z9 v->P (k*33+i) v):∀ j u,(ec l)[j]?=Z9 u->P j u:=by
 intro j u H;have p:=(YR.1 H).1;rw[mX l z] at p;have m:j / 33<l.length:=by omega
 have e:j=j / 33*33+j % 33:=by omega
 rw[e] at H |-;rw[pY l z (j / 33) (j % 33) (by omega) l[j / 33] (ZE m)] at H;exact h _ _ _ _ (ZE m) H
theorem own_mid{l:Z1 (Zy Z2)}(z:∀ r∈l,r.size=33)(h:w.ownsRow base 29 33 v n (ec l))(k:Nat)(r:Zy Z2)(m:l[k]?=Z9 r):∃ g c,v=.slice (Z9 ⟨g,0,Z7⟩) n c/\base<=g/\g<w.heap.size/\mid w g (k*33)=r:=by
 have F:=(YR.1 m).1;have u:r.size=33:=z r (List.mem_of_getElem? m);have t:l.length=n:=by have:=h.1;rw[mX l z] at this;omega
 have s:=dU h;rcases h.2 with ⟨rfl,K⟩|⟨g,C,y,rfl,B,q,I⟩
 .omega
 .obtain⟨a,c,e,-,G⟩:=s;obtain⟨J,A,p⟩:=G (by omega);injection e with E
  rw[A] at E;cases E
  refine⟨g,C,rfl,B,?_,wd u fun i v x=>?_⟩
  .rcases YG g w.heap.size with H|H
   .exact H
   .rw[Y9 H] at q;cases q
  .have D:i<33:=by rw[<-u];exact (Zf.1 x).1
   have:=p (k*33+i) v (by rw[pY l z k i D r m];exact x);rw[Yl,Yw] at this;exact this
def im(w:ZY)(b o n:Nat):Z1 (Zy Z2):=(YK n).map fun k=>mid w b (o+k*33)
theorem ES.size{a:Zp XV}{F:Nat->Ef}(h:ES w a n F)(b o:Nat)(ha:a=Z9 ⟨b,o,Z7⟩):∀ r∈im w b o n,r.size=33:=by
 intro r H;unfold im at H;obtain⟨k,m,rfl⟩:=Xv.1 H;obtain⟨B,O,e,-,A,C,p,q,i,-⟩:=h.2 k (Wt.1 m);rw[ha] at e;cases e;rw[i];exact ah _ _ _
theorem ES.ones{a:Zp XV}{F:Nat->Ef}(h:ES w a n F)(b o:Nat)(ha:a=Z9 ⟨b,o,Z7⟩):∀ r∈im w b o n,bh r.toList=ZX:=by
 intro r H;unfold im at H;obtain⟨k,m,rfl⟩:=Xv.1 H;obtain⟨B,O,e,-,A,C,p,q,i,-⟩:=h.2 k (Wt.1 m);rw[ha] at e;cases e;rw[i];exact ay _ _ _ rfl rfl
theorem ES.cells{c:Nat}{F:Nat->Ef}(h:ES w (Z9 ⟨b,o,Z7⟩) n F):CS w 33 (.slice (Z9 ⟨b,o,Z7⟩) n c) n (ec (im w b o n)):=by
 have z:=h.size b o rfl;refine⟨_,_,rfl,by rw[mX _ z];unfold im;simp,fun _=>⟨_,rfl,Gv _ z (fun j u=>w.cell? ((⟨b,o,Z7⟩:XV).add j)=Z9 u) fun k i r v H p=>?_⟩⟩
 unfold im at H;rw[List.getElem?_map] at H
 cases e:(YK n)[k]? with
 | none=>rw[e] at H;cases H
 | some K =>
   rw[e] at H
   have m:K=k:=by
    have:=(YR.1 e).2;simpa using this.symm
   subst m;cases H
   have:=tm rfl i v p;rw[Yl,<-Nat.add_assoc];exact this
theorem kI:Tryz.prog.info? 29=Z9 ((Tryz.prog.info? 29).getD default):=by kernel_rfl
theorem xf:((Tryz.prog.info? 29).getD default).zero=Z9 (.agg (En.zero.vals (.slice Z7 0 0) (.slice Z7 0 0))):=by kernel_rfl
theorem xh:((Tryz.prog.info? 29).getD default).size=33:=by kernel_rfl
theorem xj:((Tryz.prog.info? 29).getD default).bytes=336:=by kernel_rfl
end
section
open Go.RowKit
attribute [local go_sem] ap aq bN cK cC
theorem fd(a b:Z6):(a.toList==b.toList)=decide (a=b):=by
 rw[Bool.eq_iff_iff,beq_iff_eq,decide_eq_true_eq,lM]
def SS(w:ZY)(v:Z2)(l:Z1 Z6):Prop :=
 ∃ a c,v=.slice a l.length c/\l.length<=1000000/\(0<l.length->∃ b o,a=Z9 ⟨b,o,Z7⟩/\b<w.heap.size/\∀ k (h:k<l.length),w.cell? ⟨b,o+k,Z7⟩=Z9 (.string l[k]))
theorem SS.below{l:Z1 Z6}(h:SS w v l)(i:Below w.heap.size w w'):SS w' v l:=by
 obtain⟨a,c,q,r,s⟩:=h;refine⟨a,c,q,r,fun m=>?_⟩
 obtain⟨b,o,ha,H,t⟩:=s m;exact⟨b,o,ha,Zz H i.size,fun k u=>(i.cell (p:=⟨b,o+k,Z7⟩) H).trans (t k u)⟩
theorem SS.nil(w:ZY):SS w (.slice Z7 0 0) []:=⟨Z7,0,rfl,by decide,fun h=>by simp at h⟩
end
section
open Go.RowKit
open Go.Maps Go.WideMaps
def KS(w:ZY)(b n:Nat)(S:Z6->Bool):Prop:=∃ D:DataW Unit,w.ownsMap Z8 9 (plainElem Z8 4) b n D/\∀ x:Z6,D.atKey (.string x.data.toList) (.lit (.bool ZW))=.lit (.bool (S x))
theorem KS.made(w:ZY):KS (w.alloc (.map #[] 0)) w.heap.size 0 (fun _=>ZW) :=
 ⟨.map [],World.ownsMap_made w _ _ _,fun _=>rfl⟩
theorem yu{P:Program}(w:ZY)(base t e:Y2)(i:TypeInfo)(s:Nat)(p:P.underlying t=Z9 (.slice e))(H:P.info? e=Z9 i)(T:Nat)(v:Z2)(n c:Nat)(A:Zp XV)(xs:Z1 Z2)(h:w.ownsRow base e s v n xs) :
 (Builtin.append_ #[t,t] T #[v,.slice A 0 c]).run P w=.ok v w:=by
 cases A with
 | none=>exact rf w base t e i s p H T v n c xs h
 | some A =>
   rcases h.2 with ⟨rfl,rfl⟩|⟨g,C,r,rfl,_,_,m,_⟩
   .simp [Builtin.append_,Yk p,sizeOf,typeInfo,H,Builtin.lenOf,Builtin.firstCells,loadCells,loadCellsFrom]
   .simp [Builtin.append_,Yk p,sizeOf,typeInfo,H,Builtin.lenOf,Builtin.firstCells,m,storeCells,loadCells,loadCellsFrom]
theorem bU{o:Oper}{K:Act->ZY->Prop}{E:Prop}(w:ZY)(G:o.guard=Z7)(s x:Operand)(t e:Y2)(i:TypeInfo)(z:Z2)(q B:Nat)(ho:o.op=.call { callee:=.builtin .append,args:=#[s,x],argTypes:=#[t,t] })(ht:Tryz.prog.underlying t=Z9 (.slice e))(Z:Tryz.prog.info? e=Z9 i)(hz:i.zero=Z9 z)(D:i.size=q)(U:i.bytes=B)(Y:z.cells.size=q)(X:0<q)(base:Nat)(v sv:Z2)(n m:Nat)(xs N:Z1 Z2)(hs:a.eval s=v)(H:w.ownsRow base e q v n xs)(hx:a.eval x=sv)(hc:CS w q sv m N)(h1:∀ u∈N,u.oneCell'=ZX)(R:n+m<=maxLen)(r:(n+m)*B<=140737488355328)(y:base<=w.heap.size)(h:∀ A F w',w'.ownsRow base e q (.slice A (n+m) F) (n+m) (xs++N)->w.grownBy w' v.ownBlock->((Value.slice A (n+m) F).ownBlock=v.ownBlock\/(Value.slice A (n+m) F).ownBlock=Z9 w.heap.size)->K (a.put o.dst (.slice A (n+m) F)) w') :
 if WI o (yielded f a.tmps)=ZX then Oper.wp Z8 o a w K Q else E:=by
 have hw:WI o (yielded f a.tmps)=ZX:=by simp [WI,G]
 obtain⟨ad,c,rfl,W,V⟩:=hc;rcases Ym m with J|J
 .subst J;obtain rfl:N=[]:=Y5 (by omega);obtain⟨A,F,rfl⟩:=bX H;rw[if_pos hw];have I:=yu w base t e i q ht Z o.type _ _ c ad _ H;unfold Oper.wp XP;simp only[ho,resolve,invoke,builtin,Xg,Xf,Result.andThen_ok,List.map_toArray,List.map_cons,List.map_nil,hs,hx,I]
  exact h A F w (by simpa using H) (World.grownBy.refl w _) (.inl (by cases A <;> rfl))
 .obtain⟨L,rfl,p⟩:=V J;refine step_append_lies w G s x t ho base e i z q B ht Z hz D U Y X v n xs hs H L m c N hx W p h1 J R r y w.heap.size rfl ?_
  intro g a0 w' C hg T _;refine h _ _ w' C hg ?_
  rcases T with O|O
  .exact .inl (by rw[O];rfl)
  .exact .inr (by rw[O];rfl)
end
section
open Go.RowKit
theorem me:∀ (l:Z1 Z2) (i:Nat) (z:Zy Z2),(l.zipIdx i).foldl (fun (cs:Zy Z2) (x:Z2 × Nat)=>cs.setIfInBounds x.2 x.1) z=over z i l
 | [],_,_=>rfl
 | v::l,i,z=>by rw[List.zipIdx_cons,XW,me l (i+1)];rfl
theorem cl(w:ZY)(dst x t pos af gd)(H:cV (c x)=ZX)(i:(bA (c x)).size=33) :
 (XP c ⟨dst,.buildSlice 33 1 #[(0,x)],t,pos,af,gd⟩).run Z8 w=.ok (.value (.slice (Z9 ⟨w.heap.size,0,Z7⟩) 1 1)) (w.alloc (.cells (bA (c x)) 29)):=by
 obtain⟨cs,m⟩:∃ cs,c x=.agg cs:=by
  unfold cV at H;split at H
  .rename_i g h;exact⟨g,h⟩
  .cases H
 rw[m,aK] at i |-;go_simp
 have z:cs.zipIdx.size=33:=by simp [i]
 rw[<-z,<-Array.foldl_toList,Array.toList_zipIdx,me,lv _ cs (by rw[i];rfl)]
theorem Js(k:Nat):∀ (l:Z1 Z2) (i:Nat) (z:Zy Z2),(l.zipIdx i).foldl (fun (cs:Zy Z2) (x:Z2 × Nat)=>cs.setIfInBounds (k+x.2) x.1) z=over z (k+i) l
 | [],_,_=>rfl
 | v::l,i,z=>by rw[List.zipIdx_cons,XW,Js k l (i+1)];rfl
theorem tS:∀ (l m:Z1 Z2) (i:Nat) (z:Zy Z2),over (over z i l) (i+l.length) m=over z i (l++m)
 | [],_,_,_=>rfl
 | v::l,m,i,z=>by
   rw[over,Zg,over,<-tS l m (i+1),Zw,show i+(l.length+1)=i+1+l.length by omega]
theorem Ld(z cs D:Zy Z2)(m:z.size=66)(H:cs.size=33)(i:D.size=33) :
 Array.foldl (fun cs (x:Z2 × Nat)=>cs.setIfInBounds (33+x.snd) x.fst) (Array.foldl (fun cs (x:Z2 × Nat)=>cs.setIfInBounds x.snd x.fst) z cs.zipIdx 0 33) D.zipIdx 0 33=cs++D/\(Array.foldl (fun cs (x:Z2 × Nat)=>cs.setIfInBounds x.snd x.fst) z cs.zipIdx 0 33).size=66:=by
 have E:Array.foldl (fun cs (x:Z2 × Nat)=>cs.setIfInBounds x.snd x.fst) z cs.zipIdx 0 33=over z 0 cs.toList:=by
  have h:cs.zipIdx.size=33:=by simp [H]
  rw[<-h,<-Array.foldl_toList,Array.toList_zipIdx,me]
 rw[E];refine⟨?_,by rw[jW];exact m⟩
 have h:D.zipIdx.size=33:=by simp [i]
 rw[<-h,<-Array.foldl_toList,Array.toList_zipIdx];rw[h,Js 33 D.toList 0];have:=tS cs.toList D.toList 0 z;rw[YJ,H] at this;rw[show 33+0=0+33 by rfl,this,<-Array.toList_append];exact lv _ _ (by rw[m,Array.size_append,H,i])
theorem Lc(w:ZY)(dst x y t pos af gd)(H:cV (c x)=ZX)(m:(bA (c x)).size=33)(i:cV (c y)=ZX)(p:(bA (c y)).size=33) :
 (XP c ⟨dst,.buildSlice 33 2 #[(0,x),(1,y)],t,pos,af,gd⟩).run Z8 w=.ok (.value (.slice (Z9 ⟨w.heap.size,0,Z7⟩) 2 2)) (w.alloc (.cells (bA (c x)++bA (c y)) 29)):=by
 obtain⟨cs,r⟩:∃ cs,c x=.agg cs:=by
  unfold cV at H;split at H
  .rename_i g h;exact⟨g,h⟩
  .cases H
 obtain⟨D,s⟩:∃ cs,c y=.agg cs:=by
  unfold cV at i;split at i
  .rename_i g h;exact⟨g,h⟩
  .cases i
 rw[r,aK] at m |-;rw[s,aK] at p |-;go_simp
 have q:=fun Z z=>Ld Z cs D z m p
 rw[(q _ rfl).1,(q _ rfl).2];rfl
end
end Go.Proofs.YtnkjliahpeebjaaGreatDoor
