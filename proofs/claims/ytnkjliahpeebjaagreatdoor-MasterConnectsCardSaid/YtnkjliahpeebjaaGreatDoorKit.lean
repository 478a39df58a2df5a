/- Catalogs. -/
import Derived.WalkSpells
import Derived.WalkLawsBesides
import Derived.Lib.Hide
import Derived.Deep.RegionHeld3
open Option renaming some->Z9,none->Z8
open _root_ renaming ByteArray->Z7,List->Z5,if_neg->Z0,if_pos->ZX,Array->ZE
open Go renaming Value->Z3,World->Z2,heap_alloc_new->ZA,TypeId->YZ,cell_of_row->YF,execOp->Ya,setCell_eq_setRow->Xx
open Bool renaming true->ZZ,false->ZW
open Array renaming getElem?_eq_none->Za,ext_getElem?->Yg
open Go.Result renaming andThen_ok->YU
open Go.Ending renaming returned->Yt
open Go.Sem renaming run_bind->XV,run_pure->XU
namespace Go.Proofs.YtnkjliahpeebjaaGreatDoor
theorem _root_.Go.RowKit.Hid.o{p:Prop}(h:Go.RowKit.Hid p):p:=h.out
variable{P:Program}(b:Operand->Z3)(w:Z2){k:IntKind}(g:Nat)(c cs:ZE Z3)(t a:YZ)(fr:Nat × Nat)(o:Obj)(n:Nat)(d:TypeDesc)
theorem lh{p:Prop}(h:p):Go.RowKit.Hid p:=Lib.hid h
open Go.RowKit
theorem aB{B:Nat}{a w:Z2}(h:Below B a w:=by (repeat (first|exact Below.refl _ _|assumption|(refine Below.drew ?_)|(refine Below.alloc ?_ (by first|(simp;done)|(simp;omega)|omega) _)|(refine Below.setCell ?_ (by first|(simp;done)|(simp;omega)|omega) _)))):Below B a w:=h
theorem below_drewN{B:Nat}{a w:Z2}(h:Below B a w)(n:Nat):Below B a (w.drewN n):=Go.below_drewN h n
theorem aF{a b:Bool}(h:a=b):Yt (.bool a)=.returned (.bool b):=by rw[h]
theorem gM{a b:Int}(h:a=b):Yt (.int k a)=.returned (.int k b):=by rw[h]
theorem iD{a b:Z7}(h:a=b):Yt (.string a)=.returned (.string b):=by rw[h]
theorem ret3{l m:IntKind}{a b c d e f:Int}(h:a=d)(i:b=e)(H:c=f):Yt (.tuple #[.int k a,.int l b,.int m c])=.returned (.tuple #[.int k d,.int l e,.int m f]):=by rw[h,i,H]
theorem bt{a b c:Z2}(h:Below a.heap.size a b)(k:Below b.heap.size b c):Below a.heap.size a c:=h.trans (k.mono h.size)
theorem bcell{W e:Z2}(H:Below W.heap.size W e):(∀ b o,b<W.heap.size->e.cell? ⟨b,o,Z8⟩=W.cell? ⟨b,o,Z8⟩)/\(∀ b o,b<W.heap.size->e.frozen? ⟨b,o,Z8⟩=W.frozen? ⟨b,o,Z8⟩) :=
 ⟨fun b o h=>H.cell (p:=⟨b,o,Z8⟩) h,fun b o h=>H.frozen (p:=⟨b,o,Z8⟩) h⟩
theorem ai{w W:Z2}{a:Addr}{v:Z3}(H:Below w.heap.size w W)(h:w.cell? a=Z9 v):W.cell? a=Z9 v:=by
 rw[H.cell (block_lt_of_cell h)];exact h
theorem xX(cs:ZE Z3)(fr:Nat × Nat)(d:TypeDesc)(H:w.heap[g]?=Z9 (.cells cs t fr))(u:P.underlying a=Z9 d)(h:(match d with|.struct _|.array _ _=>ZZ|_=>ZW)=ZZ)(i:(P.info? a).map (·.size)=Z9 cs.size) :
 (Instr.loadAt a (.pointer (Z9 ⟨g,0,Z8⟩))).run P w=.ok (.agg cs) w:=by
 simp only[Instr.loadAt,Instr.sureAddr,XV,XU,YU,run_loadVar_row w g t a cs fr d H u h i]
def row(w:Z2)(g:Nat):ZE Z3:=match w.heap[g]? with|some (.cells cs _ _)=>cs|_=>#[]
theorem fA{w:Z2}{g:Nat}{cs:ZE Z3}{t:YZ}{fr:Nat × Nat}(h:w.heap[g]?=Z9 (.cells cs t fr)):row w g=cs:=by simp [row,h]
theorem yP(u:P.underlying a=Z9 d)(e:(match d with|.struct _|.array _ _=>ZZ|_=>ZW)=ZZ)(i:(P.info? a).map (·.size)=Z9 (n+1))(H:(row w g).size=n+1):(Instr.loadAt a (.pointer (Z9 ⟨g,0,Z8⟩))).run P w=.ok (.agg (row w g)) w:=by
 unfold row at H |-
 cases h:w.heap[g]? with
 | none=>simp [h] at H
 | some o =>
   cases o with
   | cells cs t fr=>
     simp only[h] at H |-
     exact xX w g t a cs fr d h u e (by rw[i,H])
   | _=>simp [h] at H
theorem am{w W:Z2}{g:Nat}{cs:ZE Z3}(i:Below w.heap.size w W)(h:row w g=cs)(f:0<cs.size):row W g=cs:=by
 have e:g<w.heap.size:=by
  rcases Nat.lt_or_ge g w.heap.size with H|H
  .exact H
  .unfold row at h;rw[Za H] at h;subst h;simp at f
 unfold row at *;rw[i.block g e];exact h
def db:Z3->Bool|.pointer (some ⟨_,0,none⟩)=>ZZ|_=>ZW
def bF:Z3->Nat|.pointer (some a)=>a.block|_=>0
theorem aS:db (.pointer (Z9 ⟨g,0,Z8⟩))=ZZ:=rfl
theorem aH(a:Addr):bF (.pointer (Z9 a))=a.block:=rfl
theorem kW(u:P.underlying a=Z9 d)(i:(match d with|.struct _|.array _ _=>ZZ|_=>ZW)=ZZ)(j:(P.info? a).map (·.size)=Z9 (n+1))(dst x t pos af gd)(H:db (b x)=ZZ)(e:(row w (bF (b x))).size=n+1) :
 (Ya b ⟨dst,.load a x,t,pos,af,gd⟩).run P w=.ok (.value (.agg (row w (bF (b x))))) w:=by
 obtain⟨g,f⟩:∃ g,b x=.pointer (Z9 ⟨g,0,Z8⟩):=by
  unfold db at H;split at H
  .rename_i g h;exact⟨g,h⟩
  .cases H
 rw[f,aH] at e;unfold Ya;simp only[f,aH,XV,yP w g a n d u i j e,YU,XU]
def over(cs:ZE Z3):Nat->Z5 Z3->ZE Z3
 | _,[]=>cs
 | o,v::r=>over (cs.setIfInBounds o v) (o+1) r
theorem jW:∀ (V:Z5 Z3) (cs:ZE Z3) (o:Nat),(over cs o V).size=cs.size
 | [],_,_=>rfl
 | v::r,cs,o=>by rw[over,jW r];simp
theorem tT:∀ (V:Z5 Z3) (cs:ZE Z3) (o i:Nat),i<cs.size->o+V.length<=cs.size->(over cs o V)[i]?=if o<=i/\i<o+V.length then V[i - o]? else cs[i]?
 | [],cs,o,i,H,l=>by simp only[over,List.length_nil];rw[Z0 (by omega)]
 | v::r,cs,o,i,H,l=>by
   simp only[List.length_cons] at l
   rw[over,tT r (cs.setIfInBounds o v) (o+1) i (by simpa using H) (by simp;omega)];simp only[List.length_cons]
   by_cases h:o+1<=i/\i<o+1+r.length
   .rw[ZX h,ZX (by omega),show i - o=(i - (o+1))+1 by omega];rfl
   .rw[Z0 h,Array.getElem?_setIfInBounds];by_cases e:o=i
    .subst e;rw[ZX rfl,ZX H,ZX (by omega)];simp
    .rw[Z0 e,Z0 (by omega)]
theorem lv(h:c.size=cs.size):over c 0 cs.toList=cs:=by
 apply Yg
 intro i;by_cases H:i<c.size
 .rw[tT _ _ _ _ H (by simp;omega),ZX (by simp;omega)];simp
 .rw[Za (by rw[jW];omega),Za (by omega)]
theorem rj(a b:ZE Z3):(w.setRow g a).setRow g b=w.setRow g b:=by
 unfold World.setRow;congr 1
 apply Yg
 intro i;simp only[Array.getElem?_modify]
 split
 .cases w.heap[i]? with
  | none=>rfl
  | some o=>cases o <;> rfl
 .rfl
theorem rh(b:Nat)(t:YZ):∀ (V:Z5 Z3) (o:Nat) (w:Z2) (cs:ZE Z3),w.heap[b]?=Z9 (.cells cs t (0,0))->V≠[]->w.setCells b o V=w.setRow b (over cs o V)
 | [],_,_,_,_,h=>absurd rfl h
 | [v],o,w,cs,H,_=>by
   simp only[World.setCells,over]
   exact Xx w b o cs t (0,0) v H
 | v::u::r,o,w,cs,H,_=>by
   rw[World.setCells,Xx w b o cs t (0,0) v H,
    rh b t (u::r) (o+1) _ (cs.setIfInBounds o v) (setRow_heap w b cs _ t (0,0) H) (by simp),rj]
   rfl
theorem Ad:(w.alloc (.cells c t)).setRow w.heap.size cs=w.alloc (.cells cs t):=by
 unfold World.setRow World.alloc;congr 1
 apply Yg
 intro i;simp only[Array.getElem?_modify,Array.getElem?_push]
 split
 .rename_i e;subst e;simp
 .rename_i e;rw[Z0 (fun h=>e h.symm),Z0 (fun h=>e h.symm)]
theorem yv(h:c.size=cs.size)(H:0<cs.size):(w.alloc (.cells c t)).setCells w.heap.size 0 cs.toList=w.alloc (.cells cs t):=by
 rw[rh w.heap.size t cs.toList 0 _ c (ZA w _) (by intro e;rw[<-Array.length_toList,e] at H;simp at H),lv c cs h,Ad]
def bA:Z3->ZE Z3|.agg cs=>cs|_=>#[]
def cV:Z3->Bool|.agg _=>ZZ|_=>ZW
theorem aK:bA (.agg cs)=cs:=rfl
theorem aT:cV (.agg cs)=ZZ:=rfl
def one(v:Z3):Bool:=v.oneCell'
def bh:Z5 Z3->Bool
 | []=>ZZ
 | v::r=>one v&&bh r
theorem aQ:bh []=ZZ:=rfl
theorem aL(v:Z3)(r:Z5 Z3):bh (v::r)=(one v&&bh r):=rfl
theorem aP(k:IntKind)(n:Int):one (.int k n)=ZZ:=rfl
theorem aO(b:Bool):one (.bool b)=ZZ:=rfl
theorem aR(s:Z7):one (.string s)=ZZ:=rfl
theorem aY(a:Option Addr):one (.pointer a)=ZZ:=rfl
theorem aW(a:Option Addr)(n c:Nat):one (.slice a n c)=ZZ:=rfl
theorem bD(f:Fn)(a b:ZE Z3):one (.func f a b)=ZZ:=rfl
theorem l8(l:Z5 Z3)(h:bh l=ZZ):l.all (·.oneCell')=ZZ:=by
 induction l with
 | nil=>rfl
 | cons v r i =>
   rw[aL,Bool.and_eq_true] at h;rw[List.all_cons,i h.2];simpa [one] using h.1
theorem l0(q:(P.info? a).map (·.size)=Z9 (n+1))(c:ZE Z3)(t:YZ)(dst x y t' pos af gd)(r:c.size=n+1)(e:db (b x)=ZZ)(f:bF (b x)=w.heap.size)(i:cV (b y)=ZZ)(l:(bA (b y)).size=n+1)(H:bh (bA (b y)).toList=ZZ) :
 (Ya b ⟨dst,.store a x y,t',pos,af,gd⟩).run P (w.alloc (.cells c t))=.ok .skip (w.alloc (.cells (bA (b y)) t)):=by
 obtain⟨cs,m⟩:∃ cs,b y=.agg cs:=by
  unfold cV at i;split at i
  .rename_i g h;exact⟨g,h⟩
  .cases i
 obtain⟨g,p⟩:∃ g,b x=.pointer (Z9 ⟨g,0,Z8⟩):=by
  unfold db at e;split at e
  .rename_i g h;exact⟨g,h⟩
  .cases e
 rw[m,aK] at l H;have H:cs.all (·.oneCell')=ZZ:=by rw[<-Array.all_toList];exact l8 _ H
 rw[p,aH] at f;simp only at f
 subst f
 have s:=run_storeVar_mid (P:=P) (w.alloc (.cells c t)) w.heap.size 0 a cs (fun j u=>by
  have:j<c.size:=by omega
  simp [this]) (by rw[q,l]) H
 rw[yv w c cs t (by omega) (by omega)] at s;unfold Ya;simp only[p,m,aK,Instr.storeAt,Instr.sureAddr,XV,XU,YU,s]
theorem ak:row (w.alloc (.cells cs t fr)) w.heap.size=cs:=fA (ZA w _)
theorem aI:row ((w.alloc (.cells cs t fr)).alloc o) w.heap.size=cs:=fA (heap_alloc2_old w _ _)
theorem aw:row ((w.alloc o).alloc (.cells cs t fr)) (w.heap.size+1)=cs:=fA (heap_alloc2_new w _ _)
theorem az:row w.drew g=row w g:=rfl
theorem aM(g:Nat):row (w.drewN n) g=row w g:=rfl
theorem ae{w:Z2}{g:Nat}{cs:ZE Z3}(h:row w g=cs)(i:Nat)(v:Z3)(H:cs[i]?=Z9 v):w.cell? ⟨g,i,Z8⟩=Z9 v:=by
 unfold row at h
 cases e:w.heap[g]? with
 | none=>rw[e] at h;subst h;simp at H
 | some o =>
   cases o with
   | cells c t fr=>rw[e] at h;simp only at h;subst h;rw[YF w g i c t fr e];exact H
   | _=>rw[e] at h;simp only at h;subst h;simp at H
def Strs(w:Z2)(b:Nat)(p:Z5 Z7):Prop:=∀ k (h:k<p.length),w.cell? ⟨b,k,Z8⟩=Z9 (.string p[k])
theorem Strs.below{w W:Z2}{b:Nat}{p:Z5 Z7}(h:Strs w b p)(H:Below w.heap.size w W):Strs W b p:=fun k e=>ai H (h k e)
theorem Strs.new(p:Z5 Z7)(t:YZ):Strs (w.alloc (.cells (p.map Value.string).toArray t)) w.heap.size p:=fun k h=>by
 rw[YF _ w.heap.size k _ t (0,0) (ZA w _)];simp [List.getElem?_eq_getElem h]
theorem nW(b:Nat)(t:YZ)(fr:Nat × Nat):∀ (V:Z5 Z3) (o:Nat) (w:Z2) (cs:ZE Z3),w.heap[b]?=Z9 (.cells cs t fr)->V≠[]->w.setCells b o V=w.setRow b (over cs o V)
 | [],_,_,_,_,h=>absurd rfl h
 | [v],o,w,cs,H,_=>by
   simp only[World.setCells,over]
   exact Xx w b o cs t fr v H
 | v::u::r,o,w,cs,H,_=>by
   rw[World.setCells,Xx w b o cs t fr v H,
    nW b t fr (u::r) (o+1) _ (cs.setIfInBounds o v) (setRow_heap w b cs _ t fr H) (by simp),rj]
   rfl
def Held(w:Z2)(g n:Nat):Prop:=(row w g).size=n/\0<n/\∀ o,w.frozen? ⟨g,o,Z8⟩=ZW
theorem Held.drew{w:Z2}{g n:Nat}(h:Held w g n):Held w.drew g n:=h
theorem bn:Held w.drew g n=Held w g n:=rfl
theorem fR{w:Z2}{g n:Nat}(h:Held w g n):∃ t fr,w.heap[g]?=Z9 (.cells (row w g) t fr):=by
 have H:=h.1;unfold row at H |-
 cases e:w.heap[g]? with
 | none=>rw[e] at H;simp at H;have:=h.2.1;omega
 | some o =>
   cases o with
   | cells c t fr=>exact⟨t,fr,rfl⟩
   | _=>rw[e] at H;simp at H;have:=h.2.1;omega
theorem kN(v:(P.info? a).map (·.size)=Z9 (n+1))(dst x y t' pos af gd)(l:db (b x)=ZZ)(H:Held w (bF (b x)) (n+1))(m:cV (b y)=ZZ)(f:(bA (b y)).size=n+1)(i:bh (bA (b y)).toList=ZZ) :
 (Ya b ⟨dst,.store a x y,t',pos,af,gd⟩).run P w=.ok .skip (w.setRow (bF (b x)) (bA (b y))):=by
 obtain⟨cs,r⟩:∃ cs,b y=.agg cs:=by
  unfold cV at m;split at m
  .rename_i g h;exact⟨g,h⟩
  .cases m
 obtain⟨g,s⟩:∃ g,b x=.pointer (Z9 ⟨g,0,Z8⟩):=by
  unfold db at l;split at l
  .rename_i g h;exact⟨g,h⟩
  .cases l
 rw[r,aK] at f i;have i:cs.all (·.oneCell')=ZZ:=by rw[<-Array.all_toList];exact l8 _ i
 rw[s,aH] at H |-;simp only at H |-
 obtain⟨t,fr,q⟩:=fR H
 have u:=run_storeVar_mid (P:=P) w g 0 a cs (fun j A=>by
  have p:j<(row w g).size:=by rw[H.1];omega
  have z:(row w g)[j]?=Z9 (row w g)[j]:=Array.getElem?_eq_getElem p;rw[Nat.zero_add];exact⟨by rw[YF w g j _ t fr q,z];rfl,H.2.2 j⟩) (by rw[v,f]) i
 rw[nW g t fr cs.toList 0 w (row w g) q (by intro e;have:=congrArg List.length e;simp at this;rw[this] at f;simp at f),lv (row w g) cs (by rw[H.1,f])] at u;unfold Ya;simp only[s,r,aK,Instr.storeAt,Instr.sureAddr,XV,XU,YU,u]
theorem au{w:Z2}{g n:Nat}(h:Held w g n)(cs:ZE Z3):row (w.setRow g cs) g=cs:=by
 obtain⟨t,fr,H⟩:=fR h;exact fA (setRow_heap w g _ cs t fr H)
theorem cP(k:Nat)(cs:ZE Z3)(h:k≠g):(w.setRow g cs).heap[k]?=w.heap[k]?:=setRow_other w g k cs h
theorem jV(a:YZ)(d:TypeDesc)(u:P.underlying a=Z9 d)(e:(match d with|.struct _|.array _ _=>ZZ|_=>ZW)=ZZ)(i:(P.info? a).map (·.size)=Z9 (n+1))(H:(row w g).size=n+1) :
 (loadVar a ⟨g,0,Z8⟩).run P w=.ok (.agg (row w g)) w:=by
 unfold row at H |-
 cases h:w.heap[g]? with
 | none=>simp [h] at H
 | some o =>
   cases o with
   | cells cs t fr =>
     simp only[h] at H |-
     exact run_loadVar_row w g t a cs fr d h u e (by rw[i,H])
   | _=>simp [h] at H
theorem bV{f:Func}{p u:Tmp}{a:YZ}{d:TypeDesc}{n:Nat}(h:f.results=#[.cell p a,.tmp u])(j:P.underlying a=Z9 d)(H:(match d with|.struct _|.array _ _=>ZZ|_=>ZW)=ZZ)(i:(P.info? a).map (·.size)=Z9 (n+1))(T:ZE Z3)(w:Z2)(g:Nat)(e:T.getD p undef=.pointer (Z9 ⟨g,0,Z8⟩))(z:(row w g).size=n+1) :
 (results f T).run P w=.ok (.tuple #[.agg (row w g),T.getD u undef]) w:=by
 rw[results_cell_tmp h,e];simp only[asAddr,XU,YU,jV w g n a d j H i z]
end Go.Proofs.YtnkjliahpeebjaaGreatDoor
