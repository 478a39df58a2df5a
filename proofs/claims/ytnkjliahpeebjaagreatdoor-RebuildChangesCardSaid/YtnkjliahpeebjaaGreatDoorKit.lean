/- Catalogs. -/
import Derived.WalkSpells
import Derived.WalkLawsBesides
import Derived.Lib.Hide
import Derived.Deep.RegionHeld3
open Option renaming some->Z9,none->Z7
open _root_ renaming ByteArray->Z6,List->Z1,if_neg->ZS,if_pos->ZP,Array->Zy
open Go renaming Value->Z2,World->ZY,heap_alloc_new->Zs,TypeId->Y2,cell_of_row->Yy,execOp->XP,setCell_eq_setRow->WZ
open Bool renaming true->ZX,false->ZW
open Array renaming getElem?_eq_none->Y9,ext_getElem?->XH
open Go.Result renaming andThen_ok->YA
open Go.Ending renaming returned->Yh
open Go.Sem renaming run_bind->Xg,run_pure->Xf
namespace Go.Proofs.YtnkjliahpeebjaaGreatDoor
theorem _root_.Go.RowKit.Hid.o{p:Prop}(h:Go.RowKit.Hid p):p:=h.out
variable{P:Program}{k:IntKind}(b:Operand->Z2)(w:ZY){e:ZY}(c cs:Zy Z2)(g:Nat)(t a:Y2)(fr:Nat × Nat)(n:Nat)(o:Obj)(d:TypeDesc)
theorem lh{p:Prop}(h:p):Go.RowKit.Hid p:=Lib.hid h
open Go.RowKit
theorem aB{B:Nat}{a w:ZY}(h:Below B a w:=by (repeat (first|exact Below.refl _ _|assumption|(refine Below.drew ?_)|(refine Below.alloc ?_ (by first|(simp;done)|(simp;omega)|omega) _)|(refine Below.setCell ?_ (by first|(simp;done)|(simp;omega)|omega) _)))):Below B a w:=h
theorem below_drewN{B:Nat}{a w:ZY}(h:Below B a w)(n:Nat):Below B a (w.drewN n):=Go.below_drewN h n
theorem aF{a b:Bool}(h:a=b):Yh (.bool a)=.returned (.bool b):=by rw[h]
theorem gM{a b:Int}(h:a=b):Yh (.int k a)=.returned (.int k b):=by rw[h]
theorem iD{a b:Z6}(h:a=b):Yh (.string a)=.returned (.string b):=by rw[h]
theorem ret3{l m:IntKind}{a b c d e f:Int}(h:a=d)(i:b=e)(H:c=f):Yh (.tuple #[.int k a,.int l b,.int m c])=.returned (.tuple #[.int k d,.int l e,.int m f]):=by rw[h,i,H]
theorem below2{w:ZY}{A B:Obj}(h:Below ((w.alloc A).alloc B).heap.size ((w.alloc A).alloc B) e):Below w.heap.size w e :=
 (((Below.refl _ _).alloc (Nat.le_refl _) _).alloc (by simp) _).trans (h.mono (by simp;omega))
def Ij:Z2->Nat|.string b=>b.size|_=>0
theorem r7(a b:Zy UInt8):(⟨a⟩:Z6)++⟨b⟩=⟨a++b⟩:=by
 apply ByteArray.ext;simp
theorem bt{a b c:ZY}(h:Below a.heap.size a b)(k:Below b.heap.size b c):Below a.heap.size a c:=h.trans (k.mono h.size)
theorem bcell{W:ZY}(H:Below W.heap.size W e):(∀ b o,b<W.heap.size->e.cell? ⟨b,o,Z7⟩=W.cell? ⟨b,o,Z7⟩)/\(∀ b o,b<W.heap.size->e.frozen? ⟨b,o,Z7⟩=W.frozen? ⟨b,o,Z7⟩) :=
 ⟨fun b o h=>H.cell (p:=⟨b,o,Z7⟩) h,fun b o h=>H.frozen (p:=⟨b,o,Z7⟩) h⟩
theorem ai{w:ZY}{a:Addr}{v:Z2}(H:Below w.heap.size w e)(h:w.cell? a=Z9 v):e.cell? a=Z9 v:=by
 rw[H.cell (block_lt_of_cell h)];exact h
theorem xX(cs:Zy Z2)(fr:Nat × Nat)(d:TypeDesc)(H:w.heap[g]?=Z9 (.cells cs t fr))(u:P.underlying a=Z9 d)(h:(match d with|.struct _|.array _ _=>ZX|_=>ZW)=ZX)(i:(P.info? a).map (·.size)=Z9 cs.size) :
 (Instr.loadAt a (.pointer (Z9 ⟨g,0,Z7⟩))).run P w=.ok (.agg cs) w:=by
 simp only[Instr.loadAt,Instr.sureAddr,Xg,Xf,YA,run_loadVar_row w g t a cs fr d H u h i]
def row(w:ZY)(g:Nat):Zy Z2:=match w.heap[g]? with|some (.cells cs _ _)=>cs|_=>#[]
theorem fA{w:ZY}{g:Nat}{cs:Zy Z2}{t:Y2}{fr:Nat × Nat}(h:w.heap[g]?=Z9 (.cells cs t fr)):row w g=cs:=by simp [row,h]
theorem yP(u:P.underlying a=Z9 d)(f:(match d with|.struct _|.array _ _=>ZX|_=>ZW)=ZX)(i:(P.info? a).map (·.size)=Z9 (n+1))(H:(row w g).size=n+1):(Instr.loadAt a (.pointer (Z9 ⟨g,0,Z7⟩))).run P w=.ok (.agg (row w g)) w:=by
 unfold row at H |-
 cases h:w.heap[g]? with
 | none=>simp [h] at H
 | some o =>
   cases o with
   | cells cs t fr=>
     simp only[h] at H |-
     exact xX w g t a cs fr d h u f (by rw[i,H])
   | _=>simp [h] at H
theorem am{w:ZY}{g:Nat}{cs:Zy Z2}(j:Below w.heap.size w e)(h:row w g=cs)(i:0<cs.size):row e g=cs:=by
 have f:g<w.heap.size:=by
  rcases Nat.lt_or_ge g w.heap.size with H|H
  .exact H
  .unfold row at h;rw[Y9 H] at h;subst h;simp at i
 unfold row at *;rw[j.block g f];exact h
def db:Z2->Bool|.pointer (some ⟨_,0,none⟩)=>ZX|_=>ZW
def bF:Z2->Nat|.pointer (some a)=>a.block|_=>0
theorem aS:db (.pointer (Z9 ⟨g,0,Z7⟩))=ZX:=rfl
theorem aH(a:Addr):bF (.pointer (Z9 a))=a.block:=rfl
theorem kW(u:P.underlying a=Z9 d)(j:(match d with|.struct _|.array _ _=>ZX|_=>ZW)=ZX)(l:(P.info? a).map (·.size)=Z9 (n+1))(dst x t pos af gd)(H:db (b x)=ZX)(f:(row w (bF (b x))).size=n+1) :
 (XP b ⟨dst,.load a x,t,pos,af,gd⟩).run P w=.ok (.value (.agg (row w (bF (b x))))) w:=by
 obtain⟨g,i⟩:∃ g,b x=.pointer (Z9 ⟨g,0,Z7⟩):=by
  unfold db at H;split at H
  .rename_i g h;exact⟨g,h⟩
  .cases H
 rw[i,aH] at f;unfold XP;simp only[i,aH,Xg,yP w g a n d u j l f,YA,Xf]
def over(cs:Zy Z2):Nat->Z1 Z2->Zy Z2
 | _,[]=>cs
 | o,v::r=>over (cs.setIfInBounds o v) (o+1) r
theorem jW:∀ (V:Z1 Z2) (cs:Zy Z2) (o:Nat),(over cs o V).size=cs.size
 | [],_,_=>rfl
 | v::r,cs,o=>by rw[over,jW r];simp
theorem tT:∀ (V:Z1 Z2) (cs:Zy Z2) (o i:Nat),i<cs.size->o+V.length<=cs.size->(over cs o V)[i]?=if o<=i/\i<o+V.length then V[i - o]? else cs[i]?
 | [],cs,o,i,H,l=>by simp only[over,List.length_nil];rw[ZS (by omega)]
 | v::r,cs,o,i,H,l=>by
   simp only[List.length_cons] at l
   rw[over,tT r (cs.setIfInBounds o v) (o+1) i (by simpa using H) (by simp;omega)];simp only[List.length_cons]
   by_cases h:o+1<=i/\i<o+1+r.length
   .rw[ZP h,ZP (by omega),show i - o=(i - (o+1))+1 by omega];rfl
   .rw[ZS h,Array.getElem?_setIfInBounds];by_cases e:o=i
    .subst e;rw[ZP rfl,ZP H,ZP (by omega)];simp
    .rw[ZS e,ZS (by omega)]
theorem lv(h:c.size=cs.size):over c 0 cs.toList=cs:=by
 apply XH
 intro i;by_cases H:i<c.size
 .rw[tT _ _ _ _ H (by simp;omega),ZP (by simp;omega)];simp
 .rw[Y9 (by rw[jW];omega),Y9 (by omega)]
theorem rj(a b:Zy Z2):(w.setRow g a).setRow g b=w.setRow g b:=by
 unfold World.setRow;congr 1
 apply XH
 intro i;simp only[Array.getElem?_modify]
 split
 .cases w.heap[i]? with
  | none=>rfl
  | some o=>cases o <;> rfl
 .rfl
theorem rh(b:Nat)(t:Y2):∀ (V:Z1 Z2) (o:Nat) (w:ZY) (cs:Zy Z2),w.heap[b]?=Z9 (.cells cs t (0,0))->V≠[]->w.setCells b o V=w.setRow b (over cs o V)
 | [],_,_,_,_,h=>absurd rfl h
 | [v],o,w,cs,H,_=>by
   simp only[World.setCells,over]
   exact WZ w b o cs t (0,0) v H
 | v::u::r,o,w,cs,H,_=>by
   rw[World.setCells,WZ w b o cs t (0,0) v H,
    rh b t (u::r) (o+1) _ (cs.setIfInBounds o v) (setRow_heap w b cs _ t (0,0) H) (by simp),rj]
   rfl
theorem Ad:(w.alloc (.cells c t)).setRow w.heap.size cs=w.alloc (.cells cs t):=by
 unfold World.setRow World.alloc;congr 1
 apply XH
 intro i;simp only[Array.getElem?_modify,Array.getElem?_push]
 split
 .rename_i e;subst e;simp
 .rename_i e;rw[ZS (fun h=>e h.symm),ZS (fun h=>e h.symm)]
theorem yv(h:c.size=cs.size)(H:0<cs.size):(w.alloc (.cells c t)).setCells w.heap.size 0 cs.toList=w.alloc (.cells cs t):=by
 rw[rh w.heap.size t cs.toList 0 _ c (Zs w _) (by intro e;rw[<-Array.length_toList,e] at H;simp at H),lv c cs h,Ad]
def bA:Z2->Zy Z2|.agg cs=>cs|_=>#[]
def cV:Z2->Bool|.agg _=>ZX|_=>ZW
theorem aK:bA (.agg cs)=cs:=rfl
theorem aT:cV (.agg cs)=ZX:=rfl
def one(v:Z2):Bool:=v.oneCell'
def bh:Z1 Z2->Bool
 | []=>ZX
 | v::r=>one v&&bh r
theorem aQ:bh []=ZX:=rfl
theorem aL(v:Z2)(r:Z1 Z2):bh (v::r)=(one v&&bh r):=rfl
theorem aP(k:IntKind)(n:Int):one (.int k n)=ZX:=rfl
theorem aO(b:Bool):one (.bool b)=ZX:=rfl
theorem aR(s:Z6):one (.string s)=ZX:=rfl
theorem aY(a:Option Addr):one (.pointer a)=ZX:=rfl
theorem aW(a:Option Addr)(n c:Nat):one (.slice a n c)=ZX:=rfl
theorem bD(f:Fn)(a b:Zy Z2):one (.func f a b)=ZX:=rfl
theorem l8(l:Z1 Z2)(h:bh l=ZX):l.all (·.oneCell')=ZX:=by
 induction l with
 | nil=>rfl
 | cons v r i =>
   rw[aL,Bool.and_eq_true] at h;rw[List.all_cons,i h.2];simpa [one] using h.1
theorem l0(r:(P.info? a).map (·.size)=Z9 (n+1))(c:Zy Z2)(t:Y2)(dst x y t' pos af gd)(u:c.size=n+1)(f:db (b x)=ZX)(i:bF (b x)=w.heap.size)(l:cV (b y)=ZX)(m:(bA (b y)).size=n+1)(H:bh (bA (b y)).toList=ZX) :
 (XP b ⟨dst,.store a x y,t',pos,af,gd⟩).run P (w.alloc (.cells c t))=.ok .skip (w.alloc (.cells (bA (b y)) t)):=by
 obtain⟨cs,p⟩:∃ cs,b y=.agg cs:=by
  unfold cV at l;split at l
  .rename_i g h;exact⟨g,h⟩
  .cases l
 obtain⟨g,q⟩:∃ g,b x=.pointer (Z9 ⟨g,0,Z7⟩):=by
  unfold db at f;split at f
  .rename_i g h;exact⟨g,h⟩
  .cases f
 rw[p,aK] at m H;have H:cs.all (·.oneCell')=ZX:=by rw[<-Array.all_toList];exact l8 _ H
 rw[q,aH] at i;simp only at i
 subst i
 have s:=run_storeVar_mid (P:=P) (w.alloc (.cells c t)) w.heap.size 0 a cs (fun j v=>by
  have:j<c.size:=by omega
  simp [this]) (by rw[r,m]) H
 rw[yv w c cs t (by omega) (by omega)] at s;unfold XP;simp only[q,p,aK,Instr.storeAt,Instr.sureAddr,Xg,Xf,YA,s]
theorem ak:row (w.alloc (.cells cs t fr)) w.heap.size=cs:=fA (Zs w _)
theorem aI:row ((w.alloc (.cells cs t fr)).alloc o) w.heap.size=cs:=fA (heap_alloc2_old w _ _)
theorem aw:row ((w.alloc o).alloc (.cells cs t fr)) (w.heap.size+1)=cs:=fA (heap_alloc2_new w _ _)
theorem az:row w.drew g=row w g:=rfl
theorem aM(g:Nat):row (w.drewN n) g=row w g:=rfl
theorem ae{w:ZY}{g:Nat}{cs:Zy Z2}(h:row w g=cs)(i:Nat)(v:Z2)(H:cs[i]?=Z9 v):w.cell? ⟨g,i,Z7⟩=Z9 v:=by
 unfold row at h
 cases e:w.heap[g]? with
 | none=>rw[e] at h;subst h;simp at H
 | some o =>
   cases o with
   | cells c t fr=>rw[e] at h;simp only at h;subst h;rw[Yy w g i c t fr e];exact H
   | _=>rw[e] at h;simp only at h;subst h;simp at H
def Strs(w:ZY)(b:Nat)(p:Z1 Z6):Prop:=∀ k (h:k<p.length),w.cell? ⟨b,k,Z7⟩=Z9 (.string p[k])
theorem Strs.below{w w':ZY}{b:Nat}{p:Z1 Z6}(h:Strs w b p)(H:Below w.heap.size w w'):Strs w' b p:=fun k f=>ai H (h k f)
theorem Strs.new(p:Z1 Z6)(t:Y2):Strs (w.alloc (.cells (p.map Value.string).toArray t)) w.heap.size p:=fun k h=>by
 rw[Yy _ w.heap.size k _ t (0,0) (Zs w _)];simp [List.getElem?_eq_getElem h]
theorem nW(b:Nat)(t:Y2)(fr:Nat × Nat):∀ (V:Z1 Z2) (o:Nat) (w:ZY) (cs:Zy Z2),w.heap[b]?=Z9 (.cells cs t fr)->V≠[]->w.setCells b o V=w.setRow b (over cs o V)
 | [],_,_,_,_,h=>absurd rfl h
 | [v],o,w,cs,H,_=>by
   simp only[World.setCells,over]
   exact WZ w b o cs t fr v H
 | v::u::r,o,w,cs,H,_=>by
   rw[World.setCells,WZ w b o cs t fr v H,
    nW b t fr (u::r) (o+1) _ (cs.setIfInBounds o v) (setRow_heap w b cs _ t fr H) (by simp),rj]
   rfl
def Held(w:ZY)(g n:Nat):Prop:=(row w g).size=n/\0<n/\∀ o,w.frozen? ⟨g,o,Z7⟩=ZW
theorem Held.drew{w:ZY}{g n:Nat}(h:Held w g n):Held w.drew g n:=h
theorem bn:Held w.drew g n=Held w g n:=rfl
theorem fR{w:ZY}{g n:Nat}(h:Held w g n):∃ t fr,w.heap[g]?=Z9 (.cells (row w g) t fr):=by
 have H:=h.1;unfold row at H |-
 cases f:w.heap[g]? with
 | none=>rw[f] at H;simp at H;have:=h.2.1;omega
 | some o =>
   cases o with
   | cells c t fr=>exact⟨t,fr,rfl⟩
   | _=>rw[f] at H;simp at H;have:=h.2.1;omega
theorem kN(v:(P.info? a).map (·.size)=Z9 (n+1))(dst x y t' pos af gd)(l:db (b x)=ZX)(H:Held w (bF (b x)) (n+1))(m:cV (b y)=ZX)(f:(bA (b y)).size=n+1)(i:bh (bA (b y)).toList=ZX) :
 (XP b ⟨dst,.store a x y,t',pos,af,gd⟩).run P w=.ok .skip (w.setRow (bF (b x)) (bA (b y))):=by
 obtain⟨cs,r⟩:∃ cs,b y=.agg cs:=by
  unfold cV at m;split at m
  .rename_i g h;exact⟨g,h⟩
  .cases m
 obtain⟨g,s⟩:∃ g,b x=.pointer (Z9 ⟨g,0,Z7⟩):=by
  unfold db at l;split at l
  .rename_i g h;exact⟨g,h⟩
  .cases l
 rw[r,aK] at f i;have i:cs.all (·.oneCell')=ZX:=by rw[<-Array.all_toList];exact l8 _ i
 rw[s,aH] at H |-;simp only at H |-
 obtain⟨t,fr,q⟩:=fR H
 have u:=run_storeVar_mid (P:=P) w g 0 a cs (fun j A=>by
  have p:j<(row w g).size:=by rw[H.1];omega
  have z:(row w g)[j]?=Z9 (row w g)[j]:=Array.getElem?_eq_getElem p;rw[Nat.zero_add];exact⟨by rw[Yy w g j _ t fr q,z];rfl,H.2.2 j⟩) (by rw[v,f]) i
 rw[nW g t fr cs.toList 0 w (row w g) q (by intro e;have:=congrArg List.length e;simp at this;rw[this] at f;simp at f),lv (row w g) cs (by rw[H.1,f])] at u;unfold XP;simp only[s,r,aK,Instr.storeAt,Instr.sureAddr,Xg,Xf,YA,u]
theorem au{w:ZY}{g n:Nat}(h:Held w g n)(cs:Zy Z2):row (w.setRow g cs) g=cs:=by
 obtain⟨t,fr,H⟩:=fR h;exact fA (setRow_heap w g _ cs t fr H)
theorem cP(k:Nat)(cs:Zy Z2)(h:k≠g):(w.setRow g cs).heap[k]?=w.heap[k]?:=setRow_other w g k cs h
theorem jV(a:Y2)(d:TypeDesc)(u:P.underlying a=Z9 d)(f:(match d with|.struct _|.array _ _=>ZX|_=>ZW)=ZX)(i:(P.info? a).map (·.size)=Z9 (n+1))(H:(row w g).size=n+1) :
 (loadVar a ⟨g,0,Z7⟩).run P w=.ok (.agg (row w g)) w:=by
 unfold row at H |-
 cases h:w.heap[g]? with
 | none=>simp [h] at H
 | some o =>
   cases o with
   | cells cs t fr =>
     simp only[h] at H |-
     exact run_loadVar_row w g t a cs fr d h u f (by rw[i,H])
   | _=>simp [h] at H
theorem bV{f:Func}{p u:Tmp}{a:Y2}{d:TypeDesc}{n:Nat}(h:f.results=#[.cell p a,.tmp u])(l:P.underlying a=Z9 d)(H:(match d with|.struct _|.array _ _=>ZX|_=>ZW)=ZX)(i:(P.info? a).map (·.size)=Z9 (n+1))(T:Zy Z2)(w:ZY)(g:Nat)(j:T.getD p undef=.pointer (Z9 ⟨g,0,Z7⟩))(z:(row w g).size=n+1) :
 (results f T).run P w=.ok (.tuple #[.agg (row w g),T.getD u undef]) w:=by
 rw[results_cell_tmp h,j];simp only[asAddr,Xf,YA,jV w g n a d l H i z]
end Go.Proofs.YtnkjliahpeebjaaGreatDoor
