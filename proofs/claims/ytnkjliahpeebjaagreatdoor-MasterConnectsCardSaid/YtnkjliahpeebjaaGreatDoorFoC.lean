/- Catalogs. -/
import Derived.Test.YtnkjliahpeebjaaGreatDoorCoA
import Derived.Test.YtnkjliahpeebjaaGreatDoorSaC
set_option maxRecDepth 8000
set_option maxHeartbeats 1600000
open Option renaming some->Z9,none->Z8
open Go.Proofs.Tryz renaming prog->Z6,underlying3->Zv
open _root_ renaming List->Z5,if_neg->Z0,if_pos->ZX,UInt8->ZP,Array->ZE,decide_eq_false_iff_not->Zz
open Go renaming Value->Z3,World->Z2,Calls->ZJ,heap_alloc_old->Zs,heap_setCell_other->XO,run_underlying->XK,MapEntry->Ws
open Go.World renaming cell?_of_block->Z1,frozen?_of_block->Zr
open Nat renaming lt_of_lt_of_le->ZY,le_refl->ZS,le_trans->ZD
open Bool renaming false->ZW
open Option.some renaming inj->ZR
open List renaming length_append->ZQ,getElem?_eq_getElem->ZN,getD_eq_getElem?_getD->Zx,length_map->Zq,append_assoc->Zp,length_singleton->Yw,getElem_mem->Yu,mem_map->X7
open Go.RowKit.Below renaming refl->ZM
open Int renaming toNat_of_nonneg->Y6,toNat->XG
open Go.Proofs.YtnkjliahpeebjaaGreatDoor.Rd renaming num->YV,txt->X5,boo->XJ,num_len->Wn
open Go.Instr renaming findNow->Yn,lookup->X6,mapUpdate->Xr
open Go.MapKept renaming run_getObj_map->XC
namespace Go.Proofs.YtnkjliahpeebjaaGreatDoor
open Go.RowKit
variable{F:Nat->Int}{w' wr f:Z2}(s:Z5 ZP × Nat)(w:Z2){o:Obj}{a g d b n i:Nat}{p:Addr}(c:Nat)
theorem oz(a b:Nat)(H:a<9223372036854775808)(e:b<9223372036854775808):(encs [a,b]).length<=18:=by
 have:=kg [a,b] (fun n h=>by
  rcases (by simpa using h:n=a\/n=b) with rfl|rfl <;> assumption)
 simpa using this
theorem ph{w:Z2}{c:Nat}:w.grownBy (w.alloc o).drew (Z9 c):=⟨rfl,rfl,rfl,by simp,fun _ h _=>Zs w _ h⟩
theorem Cm(g:Nat)(l:Z5 ZP)(e:En)(A G:Z3)(L last:Nat)(w:Z2)(h:WS w c g l (e.vals A G))(m:e.lim=L)(H:e.last=last)(E:L<9223372036854775808)(I:last<9223372036854775808)(Q:e.owner.size<=1000)(R:l.length<=1000) :
 ZJ Z6 159 #[.pointer (Z9 ⟨c,0,Z8⟩),.pointer (Z9 ⟨g,0,Z8⟩)] w fun r w'=>r=.returned (.tuple #[])/\WS w' c g (((l++encs [L,last])++[tb e.em])++(Wi.enc e.owner.size++Ds.bl e.owner)) (e.vals A G)/\w.grownBy w' (Z9 c):=by
 have N:NS (e.vals A G) [25,26] [L,last]:=⟨rfl,fun k h _=>by
  rcases (by simp at h;omega:k=0\/k=1) with rfl|rfl
  .simpa [m] using df e A G
  .simpa [H] using dc e A G⟩
 have O:=oz L last E I
 have J:ZJ Z6 160 #[.pointer (Z9 ⟨c,0,Z8⟩),.slice (Z9 ⟨w.heap.size,0,Z8⟩) 2 2] ((w.alloc (.cells #[.pointer (Z9 ⟨g,25,Z8⟩),.pointer (Z9 ⟨g,26,Z8⟩)] 212)).drew) fun r w'=>r=.returned (.tuple #[])/\WS w' c g (l++encs [L,last]) (e.vals A G)/\((w.alloc (.cells #[.pointer (Z9 ⟨g,25,Z8⟩),.pointer (Z9 ⟨g,26,Z8⟩)] 212)).drew).grownBy w' (Z9 c):=ot c g w.heap.size 2 [25,26] [L,last] l (e.vals A G) _ (h.below (((ZM _ _).alloc (ZS _) _).drew)) (PS.new w g [25,26] 212) (by have:=h.2.2.2;omega) N (fun n P=>by
  rcases (by simpa using P:n=L\/n=last) with rfl|rfl <;> assumption) (by decide) (by omega)
 have K:=lh J;have C:(l++encs [L,last]).length<=10000:=by rw[ZQ];omega
 have D:((l++encs [L,last])++[tb e.em]).length<=10000:=by rw[ZQ,ZQ,Yw];omega
 clear N m H E I J O h;go_enter Tryz.func159,Tryz.ntmps159
 go_wp2_with fail
 go_region_law (first|(go_simp;go_at_call 160;(with_reducible refine K.o.mono ?_);rintro _ f ⟨rfl,y,j⟩))
 all_goals
  have u:=lh j;clear j;go_wp2_with (first|(go_at_call 161;(with_reducible refine (pi c g 27 e.em _ _ _ y C (ef e A G)).mono ?_);rintro _ W ⟨rfl,z,q⟩;have v:=lh q;clear q)|(go_at_call 162;(with_reducible refine (lB c g 28 e.owner _ _ _ z D (by omega) (bN e A G)).mono ?_);rintro _ S ⟨rfl,B,t⟩;have x:=lh t;clear t))
  go_end0
  exact⟨rfl,B,(ph.trans u.o).trans (v.o.trans x.o)⟩
theorem lk{w:Z2}:G2 w (w.alloc o).drew a b:=⟨rfl,rfl,rfl,by simp,fun k h _ _=>Zs w _ h⟩
def gL(e:En)(s:Z5 ZP × Nat):En × (Z5 ZP × Nat) :=
 let a:=YV s;let b:=YV a.2;let x:=XJ b.2;let t:=X5 200 x.2
 ({ e with lim:=clip a.1,last:=clip b.1,em:=x.1,owner:=⟨t.1.toArray⟩ },t.2)
theorem sT(d g:Nat)(s:Z5 ZP × Nat)(e:En)(A G:Z3)(w:Z2)(h:RS w c d g s (e.vals A G))(K:s.1.length<=1000) :
 ZJ Z6 159 #[.pointer (Z9 ⟨c,0,Z8⟩),.pointer (Z9 ⟨g,0,Z8⟩)] w fun r w'=>r=.returned (.tuple #[])/\RS w' c d g (gL e s).2 ((gL e s).1.vals A G)/\G2 w w' d g:=by
 have E:dI [25,26] s (e.vals A G)=(({ e with lim:=clip (Rd.num s).1,last:=clip (Rd.num (Rd.num s).2).1 }:En).vals A G,(Rd.num (Rd.num s).2).2):=by
  simp only[dI]
  rw[Ia,Ib]
 have B:ZJ Z6 160 #[.pointer (Z9 ⟨c,0,Z8⟩),.slice (Z9 ⟨w.heap.size,0,Z8⟩) 2 2] ((w.alloc (.cells #[.pointer (Z9 ⟨g,25,Z8⟩),.pointer (Z9 ⟨g,26,Z8⟩)] 212)).drew) fun r w'=>r=.returned (.tuple #[])/\RS w' c d g (dI [25,26] s (e.vals A G)).2 (dI [25,26] s (e.vals A G)).1/\G2 ((w.alloc (.cells #[.pointer (Z9 ⟨g,25,Z8⟩),.pointer (Z9 ⟨g,26,Z8⟩)] 212)).drew) w' d g:=kQ c d g w.heap.size 2 [25,26] s (e.vals A G) _ (h.below (((ZM _ _).alloc (ZS _) _).drew)) (PS.new w g [25,26] 212) (by have:=h.2.2.2.2.2.2.2;omega) (by have:=h.2.2.1.2.2;omega) (fun k D=>by
  rw[ah];rcases (by simp at D;omega:k=0\/k=1) with rfl|rfl <;> simp) (by decide) (by omega)
 rw[E] at B;have L:=Wn s;have I:=Wn (YV s).2;have J:=Rd.boo_len (YV (YV s).2).2;have y:(YV (YV s).2).2.1.length<=10000:=by omega
 have z:(XJ (YV (YV s).2).2).2.1.length<=10000:=by omega
 have C:=lh B;clear B E h L I J;unfold gL;go_enter Tryz.func159,Tryz.ntmps159
 go_wp2_with fail
 go_region_law (first|(go_simp;go_at_call 160;(with_reducible refine C.o.mono ?_);rintro _ f ⟨rfl,x,H⟩))
 all_goals
  have t:=lh H;clear H;go_wp2_with (first|(go_at_call 161;(with_reducible refine (ll c d g 27 _ _ _ _ x y (ef _ A G)).mono ?_);rintro _ W ⟨rfl,m,j⟩;rw[Ic] at m;have u:=lh j;clear j)|(go_at_call 162;(with_reducible refine (jE c d g 28 _ _ _ _ m z (bN _ A G)).mono ?_);rintro _ N ⟨rfl,q,l⟩;rw[wD] at q;have v:=lh l;clear l))
  go_end0
  exact⟨rfl,q,(lk.trans t.o).trans (u.o.trans v.o)⟩
def form0:Z3:=.agg #[.int .u8 68,.func (.func 32) #[] #[],.func (.func 156) #[] #[],.func (.func 157) #[] #[]]
def form1:Z3:=.agg #[.int .u8 71,.func (.func 158) #[] #[],.func (.func 159) #[] #[],.func (.func 163) #[] #[]]
def form2:Z3:=.agg #[.int .u8 65,.func (.func 166) #[] #[],.func (.func 167) #[] #[],.func (.func 168) #[] #[]]
def form3:Z3:=.agg #[.int .u8 67,.func (.func 169) #[] #[],.func (.func 171) #[] #[],.func (.func 173) #[] #[]]
def form4:Z3:=.agg #[.int .u8 80,.func (.func 89) #[] #[],.func (.func 174) #[] #[],.func (.func 175) #[] #[]]
def fe0:ZE Ws:=#[]
def fe1:ZE Ws:=#[⟨.int .i64 0,form0,0⟩]
def fe2:ZE Ws:=#[⟨.int .i64 0,form0,0⟩,⟨.int .i64 1,form1,1⟩]
def fe3:ZE Ws:=#[⟨.int .i64 0,form0,0⟩,⟨.int .i64 1,form1,1⟩,⟨.int .i64 2,form2,2⟩]
def fe4:ZE Ws:=#[⟨.int .i64 0,form0,0⟩,⟨.int .i64 1,form1,1⟩,⟨.int .i64 2,form2,2⟩,⟨.int .i64 3,form3,3⟩]
def fe5:ZE Ws:=#[⟨.int .i64 0,form0,0⟩,⟨.int .i64 1,form1,1⟩,⟨.int .i64 2,form2,2⟩,⟨.int .i64 3,form3,3⟩,⟨.int .i64 4,form4,4⟩]
theorem lx(E:ZE Ws)(c:Nat)(k:Int)(v:Z3)(h:Yn (.int .i64) (.int .i64 k) E.toList 0=Z9 Z8) :
 (Xr 138 (.map (Z9 w.heap.size)) (.int .i64 k) v).run Z6 (w.alloc (.map E c))=.ok () (w.alloc (.map (E.push ⟨.int .i64 k,v,c⟩) (c+1))):=by
 have l:(w.alloc (.map E c)).heap[w.heap.size]?=Z9 (.map E c):=heap_alloc_new w _;have H:=MapKept.run_checkKey (P:=Z6) (w:=w.alloc (.map E c)) (k:=.int .i64 k) Zv rfl ZW 9999;have j:=MapKept.run_findKey (P:=Z6) (w:=w.alloc (.map E c)) (kt:=3) (k:=.int .i64 k) Zv h;simp [Xr,XK Tryz.underlying138,XC l,H,j,MapKept.run_setObj_map _ l,Result.andThen]
 simp only[World.alloc]
 congr 1
 apply Array.ext_getElem?
 intro i;simp only[Array.getElem?_setIfInBounds,Array.getElem?_push,Array.size_push]
 by_cases e:w.heap.size=i
 .subst e;simp
 .rw[Z0 e,Z0 (fun h=>e h.symm),Z0 (fun h=>e h.symm)]
theorem ins0:(Xr 138 (.map (Z9 w.heap.size)) (.int .i64 0) form0).run Z6 (w.alloc (.map fe0 0))=.ok () (w.alloc (.map fe1 1)):=lx w fe0 0 0 form0 rfl
theorem ins1:(Xr 138 (.map (Z9 w.heap.size)) (.int .i64 1) form1).run Z6 (w.alloc (.map fe1 1))=.ok () (w.alloc (.map fe2 2)):=lx w fe1 1 1 form1 rfl
theorem ins2:(Xr 138 (.map (Z9 w.heap.size)) (.int .i64 2) form2).run Z6 (w.alloc (.map fe2 2))=.ok () (w.alloc (.map fe3 3)):=lx w fe2 2 2 form2 rfl
theorem ins3:(Xr 138 (.map (Z9 w.heap.size)) (.int .i64 3) form3).run Z6 (w.alloc (.map fe3 3))=.ok () (w.alloc (.map fe4 4)):=lx w fe3 3 3 form3 rfl
theorem ins4:(Xr 138 (.map (Z9 w.heap.size)) (.int .i64 4) form4).run Z6 (w.alloc (.map fe4 4))=.ok () (w.alloc (.map fe5 5)):=lx w fe4 4 4 form4 rfl
theorem iC :
 ZJ Z6 74 #[] w fun r w'=>r=.returned (.map (Z9 w.heap.size))/\w'=w.alloc (.map fe5 5):=by
 have H:=run_makeMap (P:=Z6) 138 w;have I:=ins0 w;have e:=ins1 w;have h:=ins2 w;have j:=ins3 w;have k:=ins4 w;unfold fe1 fe0 form0 at I;unfold fe2 fe1 form0 form1 at e;unfold fe3 fe2 form0 form1 form2 at h;unfold fe4 fe3 form0 form1 form2 form3 at j;unfold fe4 form0 form1 form2 form3 form4 at k;go_enter Tryz.func74,Tryz.ntmps74
 go_wp2_with fail
 go_ret
 exact⟨rfl,rfl⟩
theorem ny(m:Nat)(k:Int)(v:Z3)(i:Nat)(j:w.heap[m]?=Z9 (.map fe5 5))(h:Yn (.int .i64) (.int .i64 k) fe5.toList 0=Z9 (Z9 (i,v))) :
 (X6 138 (.map (Z9 m)) (.int .i64 k) true).run Z6 w=.ok (.tuple #[v,.bool true]) w:=by
 have H:=fun b=>MapKept.run_checkKey (P:=Z6) (w:=w) (k:=.int .i64 k) Zv rfl b 9999
 have e:=MapKept.run_findKey (P:=Z6) (w:=w) (kt:=3) (k:=.int .i64 k) Zv h;simp [X6,XK Tryz.underlying138,XC j,H,e,Result.andThen]
theorem uG(m:Nat)(k:Int)(z:Z3)(j:w.heap[m]?=Z9 (.map fe5 5))(h:Yn (.int .i64) (.int .i64 k) fe5.toList 0=Z9 Z8)(l:∀ w,(zeroValue 142).run Z6 w=.ok z w) :
 (X6 138 (.map (Z9 m)) (.int .i64 k) true).run Z6 w=.ok (.tuple #[z,.bool ZW]) w:=by
 have H:=fun b=>MapKept.run_checkKey (P:=Z6) (w:=w) (k:=.int .i64 k) Zv rfl b 9999
 have e:=MapKept.run_findKey (P:=Z6) (w:=w) (kt:=3) (k:=.int .i64 k) Zv h;simp [X6,XK Tryz.underlying138,XC j,H,e,Result.andThen,l]
theorem sw:(zeroValue 142).run Z6 w=.ok (.agg #[.int .u8 0,.nilFunc,.nilFunc,.nilFunc]) w:=by kernel_rfl
theorem Cl(g:Nat)(l:Z5 ZP)(e:En)(A G:Z3)(w:Z2)(h:WS w c g l (e.vals A G))(u:e.target.size<=1000)(t:l.length<=1000) :
 ZJ Z6 167 #[.pointer (Z9 ⟨c,0,Z8⟩),.pointer (Z9 ⟨g,0,Z8⟩)] w fun r w'=>r=.returned (.tuple #[])/\WS w' c g (l++(Wi.enc e.target.size++Ds.bl e.target)) (e.vals A G)/\w.grownBy w' (Z9 c):=by
 have q:=lB c g 29 e.target l _ w h (by omega) (by omega) (cB e A G);have C:=lh q;clear q h;go_enter Tryz.func167,Tryz.ntmps167
 go_wp2_with (go_at_call 162;(with_reducible refine C.o.mono ?_);rintro _ f ⟨rfl,j,H⟩;have k:=lh H;have m:=lh j;clear H j)
 go_end0
 exact⟨rfl,m.o,k.o⟩
def iB(e:En)(s:Z5 ZP × Nat):En × (Z5 ZP × Nat):=({ e with target:=⟨(Rd.txt 200 s).1.toArray⟩ },(Rd.txt 200 s).2)
theorem tF(d g:Nat)(s:Z5 ZP × Nat)(e:En)(A G:Z3)(w:Z2)(h:RS w c d g s (e.vals A G))(q:s.1.length<=1000) :
 ZJ Z6 167 #[.pointer (Z9 ⟨c,0,Z8⟩),.pointer (Z9 ⟨g,0,Z8⟩)] w fun r w'=>r=.returned (.tuple #[])/\RS w' c d g (iB e s).2 ((iB e s).1.vals A G)/\G2 w w' d g:=by
 have m:=jE c d g 29 _ s _ w h (by omega) (cB e A G);rw[Id] at m;have C:=lh m;clear m h;unfold iB;go_enter Tryz.func167,Tryz.ntmps167
 go_wp2_with (go_at_call 162;(with_reducible refine C.o.mono ?_);rintro _ f ⟨rfl,j,H⟩;have k:=lh H;have l:=lh j;clear H j)
 go_end0
 exact⟨rfl,l.o,k.o⟩
theorem Gy(g:Nat)(l:Z5 ZP)(e:En)(A G:Z3)(k:Nat)(w:Z2)(h:WS w c g l (e.vals A G))(v:e.cat=k)(m:k<9223372036854775808)(y:l.length<=1000) :
 ZJ Z6 171 #[.pointer (Z9 ⟨c,0,Z8⟩),.pointer (Z9 ⟨g,0,Z8⟩)] w fun r w'=>r=.returned (.tuple #[])/\WS w' c g (l++Wi.enc k) (e.vals A G)/\w.grownBy w' (Z9 c):=by
 have x:=dv e A G;rw[v] at x;have u:=kX c g 30 k l _ w h (by omega) m x;have C:=lh u;clear u h v m;go_enter Tryz.func171,Tryz.ntmps171
 go_wp2_with (go_at_call 172;(with_reducible refine C.o.mono ?_);rintro _ f ⟨rfl,j,H⟩;have q:=lh H;have t:=lh j;clear H j)
 go_end0
 exact⟨rfl,t.o,q.o⟩
def iH(e:En)(s:Z5 ZP × Nat):En × (Z5 ZP × Nat):=({ e with cat:=clip (Rd.num s).1 },(Rd.num s).2)
theorem vT(d g:Nat)(s:Z5 ZP × Nat)(e:En)(A G:Z3)(w:Z2)(h:RS w c d g s (e.vals A G))(q:s.1.length<=1000) :
 ZJ Z6 171 #[.pointer (Z9 ⟨c,0,Z8⟩),.pointer (Z9 ⟨g,0,Z8⟩)] w fun r w'=>r=.returned (.tuple #[])/\RS w' c d g (iH e s).2 ((iH e s).1.vals A G)/\G2 w w' d g:=by
 have m:=jt c d g 30 _ s _ w h (by omega) (dv e A G);rw[Ie] at m;have C:=lh m;clear m h;unfold iH;go_enter Tryz.func171,Tryz.ntmps171
 go_wp2_with (go_at_call 172;(with_reducible refine C.o.mono ?_);rintro _ f ⟨rfl,j,H⟩;have k:=lh H;have l:=lh j;clear H j)
 go_end0
 exact⟨rfl,l.o,k.o⟩
theorem tN(g n:Nat)(m:Int)(l:Z5 ZP)(u:ZE Z3)(w:Z2)(h:WS w c g l u)(z:l.length<=10000)(I:n<1000000)(E:(n:Int)<=m) :
 ZJ Z6 232 #[.pointer (Z9 ⟨c,0,Z8⟩),.int .i64 n,.int .i64 m] w fun r w'=>r=.returned (.int .i64 n)/\WS w' c g (l++Wi.enc n) u/\w.grownBy w' (Z9 c):=by
 have H:=h.below (((ZM w.heap.size w).alloc (ZS _) (.cells #[.int .i64 n] 3)));have v:=mn c ⟨w.heap.size,0,Z8⟩ n l (w.alloc (.cells #[.int .i64 n] 3)) z (by omega) H.1 (by simp [go_sem]) H.2.2.2;have q:w.heap.size≠c:=by have:=h.2.2.2;omega
 have x:=lh v;have W:=lh H;have D:decide ((n:Int)<0)=ZW:=by rw[Zz];omega
 have B:decide (m<(n:Int))=ZW:=by rw[Zz];omega
 have C:∀ f,(w.alloc (.cells #[.int .i64 n] 3)).grownBy f (Z9 c)->f.cell? ⟨w.heap.size,0,Z8⟩=Z9 (.int .i64 n):=fun f G=>by
  rw[Z1 (a:=⟨w.heap.size,0,Z8⟩) (G.block _ (by simp) (by intro e;exact q (ZR e)))];simp [go_sem]
 have j:=lh C;clear v H C h;go_enter Tryz.func232,Tryz.ntmps232
 go_wp2_with (go_at_call 172;(with_reducible refine x.o.mono ?_);rintro _ f ⟨rfl,L,k⟩;have A:=j.o f k;have t:=lh k;have y:=lh L;clear k L)
 go_ret
 exact⟨rfl,W.o.grown t.o y.o,(World.grownBy_alloc w _ (Z9 c)).trans t.o⟩
theorem RS.far{W:Z2}{c:Nat}{s S:Z5 ZP × Nat}{C:ZE Z3}(h:RS W c d g s C)(R:RL f d S)(G:W.grownBy f (Z9 d))(p:Addr)(H:p.block≠c)(t:p.block≠d)(u:p.block≠g)(v:Z3):RS (f.setCell p v) c d g S C:=by
 obtain⟨m,B,A,j,q,l,r,D⟩:=h;have K:∀ k,k<W.heap.size->k≠d->k≠p.block->(f.setCell p v).heap[k]?=W.heap[k]?:=fun k x z y=>(XO f p k v y).trans (G.block k x (by intro e;exact z (ZR e)))
 exact⟨(Z1 (a:=⟨c,1,Z8⟩) (K c r j (fun e=>H e.symm))).trans m,R.set p t v,A.of_block (K g A.2.2 (fun e=>l e.symm) (fun e=>u e.symm)) (by have:=G.size;simpa using this),j,q,l,by have:=G.size;simp;omega,by have:=G.size;simp;omega⟩
theorem vp{w:Z2}(G:(w.alloc o).grownBy f (Z9 d))(j:p.block=w.heap.size)(v:Z3):G2 w (f.setCell p v) d g :=
 ⟨by rw[show (f.setCell p v).os=f.os from (de f p v).os,G.os];rfl,by rw[show (f.setCell p v).tape=f.tape from (de f p v).tape,G.tape];rfl,by rw[show (f.setCell p v).output=f.output from (de f p v).output,G.output];rfl,by have:=G.size;simp at this |-;omega,fun k h H _=>(XO f p k v (by omega)).trans ((G.block k (by simp;omega) (by intro e;exact H (ZR e))).trans (Zs w o h))⟩
def cntv(m x:Nat):Nat:=if m<x then m+1 else x
theorem pc(d g m:Nat)(n:Int)(s:Z5 ZP × Nat)(y:ZE Z3)(w:Z2)(h:RS w c d g s y)(J:s.1.length<=10000)(E:m<=1000) :
 ZJ Z6 232 #[.pointer (Z9 ⟨c,0,Z8⟩),.int .i64 n,.int .i64 m] w fun r w'=>r=.returned (.int .i64 (cntv m (clip (YV s).1)))/\RS w' c d g (YV s).2 y/\G2 w w' d g:=by
 have W:=h.below (((ZM w.heap.size w).alloc (ZS _) (.cells #[.int .i64 n] 3)));have u:=mm c d ⟨w.heap.size,0,Z8⟩ (.int .i64 n) s (w.alloc (.cells #[.int .i64 n] 3)) J W.1 W.2.1 W.2.2.2.2.2.2.2 (by simp [go_sem]) (by simp) (by simp) (by have:=h.2.2.2.2.2.2.2;show w.heap.size≠d;omega);have K:=DH (YV s).1;obtain⟨L,N⟩:=h.2.2.2.2.2.2;have P:=h.2.2.1.2.2;have v:=lh W;have q:=lh u;have I:=YV s;generalize X:clip (YV s).1=x at u K q |-;generalize (YV s).2=S at q |-
 have C:∀ f,(w.alloc (.cells #[.int .i64 n] 3)).grownBy f (Z9 d)->f.cell? ⟨w.heap.size,0,Z8⟩=Z9 (.int .i64 n):=fun f G=>by
  rw[Z1 (a:=⟨w.heap.size,0,Z8⟩) (G.block _ (by simp) (by intro e;have e:=ZR e;simp only at e;omega))];simp [go_sem]
 have k:=lh C;unfold cntv;clear u W C h X I;by_cases H:m<x
 .rw[ZX H];have D:decide ((x:Int)<0)=ZW:=by rw[Zz];omega
  have A:decide ((m:Int)<(x:Int))=true:=by rw[decide_eq_true_eq];omega
  have B:decide (m<x)=true:=decide_eq_true H;go_enter Tryz.func232,Tryz.ntmps232
  go_wp2_with (go_at_call 172;(with_reducible refine q.o.mono ?_);rintro _ O ⟨rfl,f,R,j,rfl⟩;have z:=k.o f j;have l:=lh j;have t:=lh R;clear j R)
  go_ret
  exact⟨rfl,v.o.far t.o l.o ⟨w.heap.size,0,Z8⟩ (by show w.heap.size≠c;omega) (by show w.heap.size≠d;omega) (by show w.heap.size≠g;omega) _,vp l.o rfl _⟩
 .rw[Z0 H];have D:decide ((x:Int)<0)=ZW:=by rw[Zz];omega
  have A:decide ((m:Int)<(x:Int))=ZW:=by rw[Zz];omega
  have B:decide (m<x)=ZW:=decide_eq_false H;go_enter Tryz.func232,Tryz.ntmps232
  go_wp2_with (go_at_call 172;(with_reducible refine q.o.mono ?_);rintro _ O ⟨rfl,f,R,j,rfl⟩;have z:=k.o f j;have l:=lh j;have t:=lh R;clear j R)
  go_ret
  exact⟨rfl,v.o.far t.o l.o ⟨w.heap.size,0,Z8⟩ (by show w.heap.size≠c;omega) (by show w.heap.size≠d;omega) (by show w.heap.size≠g;omega) _,vp l.o rfl _⟩
def bK(e:En):Z5 Int:=[e.d0,e.d1,e.d2,e.d3,e.d4,e.d5,e.d6,e.d7,e.d8,e.d9,e.d10,e.d11,e.d12,e.d13]
def os14:Z5 Nat:=[2,3,4,5,6,7,8,9,10,11,12,13,14,15]
theorem BD(e:En)(A G:Z3):∀ k,k<14->(e.vals A G)[os14.getD k 0]?=Z9 (.int .i64 ((bK e).getD k 0)):=by
 intro k h;rcases (by omega:k=0\/k=1\/k=2\/k=3\/k=4\/k=5\/k=6\/k=7\/k=8\/k=9\/k=10\/k=11\/k=12\/k=13) with rfl|rfl|rfl|rfl|rfl|rfl|rfl|rfl|rfl|rfl|rfl|rfl|rfl|rfl
 .exact vU e A G
 .exact G7 e A G
 .exact Ha e A G
 .exact Hb e A G
 .exact Hc e A G
 .exact Hd e A G
 .exact He e A G
 .exact Hf e A G
 .exact Fk e A G
 .exact Fl e A G
 .exact Fm e A G
 .exact Fo e A G
 .exact Fp e A G
 .exact Fq e A G
theorem Eb(e:En)(A G:Z3)(h:∀ x∈bK e,0<=x):NS (e.vals A G) os14 ((bK e).map XG):=by
 refine⟨rfl,fun k j m=>?_⟩
 have l:k<14:=j;have H:k<(bK e).length:=l;have:=BD e A G k l;rw[Zx,ZN j,Zx,ZN H] at this;simp only[Option.getD_some] at this
 rw[this,List.getElem_map,Y6 (h _ (Yu _))]
def iG(e:En)(l:Z5 Int)(k1 k K h:Nat):Z5 ZP:=encs ((bK e).map XG)++([tb e.uq]++(Wi.enc k1++((Wi.enc e.vol.size++Ds.bl e.vol)++((Wi.enc e.own.size++Ds.bl e.own)++(encs [k,K]++([tb e.ar]++(Wi.enc l.length++(encs (l.map XG)++Wi.enc h))))))))
theorem EE(g:Nat)(l:Z5 ZP)(e:En)(A G:Z3)(L:Z5 Int)(wB w:Z2)(hI:IS wB A L)(hB:Below wB.heap.size wB w)(cs:wB.heap.size<=c)(h:WS w c g l (e.vals A G))(hd:∀ x∈bK e,0<=x/\x<9223372036854775808)(k1 K z Z:Nat)(h1:e.cls=k1)(h2:e.cr=K)(h3:e.ex=z)(h4:e.used=Z)(y:k1<9223372036854775808/\K<9223372036854775808/\z<9223372036854775808/\Z<9223372036854775808)(hv:e.vol.size<=1000)(ho:e.own.size<=1000)(cu:L.length<=4)(P:∀ x∈L,0<=x/\x<9223372036854775808)(hs:l.length<=1000) :
 ZJ Z6 156 #[.pointer (Z9 ⟨c,0,Z8⟩),.pointer (Z9 ⟨g,0,Z8⟩)] w fun r w'=>r=.returned (.tuple #[])/\WS w' c g (l++iG e L k1 K z Z) (e.vals A G)/\w.grownBy w' (Z9 c):=by
 have hN:=Eb e A G (fun x Q=>(hd x Q).1)
 have O:∀ n∈(bK e).map XG,n<9223372036854775808:=fun n J=>by
  obtain⟨x,Q,rfl⟩:=X7.1 J;have:=hd x Q;omega
 have N:∀ n∈L.map XG,n<9223372036854775808:=fun n J=>by
  obtain⟨x,Q,rfl⟩:=X7.1 J;have:=P x Q;omega
 have z0:=kg _ O;have z1:=cZ k1 y.1;have z2:=cZ e.vol.size (by omega);have z3:=cZ e.own.size (by omega);have z4:=oz K z y.2.1 y.2.2.1;have z5:=cZ L.length (by omega);have z6:=kg _ N;rw[Zq] at z0 z6;have z7:(bK e).length=14:=rfl;rw[z7] at z0;have R:=pR e A G;rw[h1] at R;have T:=Fr e A G;rw[h2] at T;have U:=Fs e A G;rw[h3] at U;have X:=cM e A G;rw[h4] at X;obtain⟨S0,e0⟩:∃ S,S=l++encs ((bK e).map XG):=⟨_,rfl⟩;obtain⟨S1,e1⟩:∃ S,S=S0++[tb e.uq]:=⟨_,rfl⟩;obtain⟨S2,e2⟩:∃ S,S=S1++Wi.enc k1:=⟨_,rfl⟩;obtain⟨S3,e3⟩:∃ S,S=S2++(Wi.enc e.vol.size++Ds.bl e.vol):=⟨_,rfl⟩;obtain⟨S4,e4⟩:∃ S,S=S3++(Wi.enc e.own.size++Ds.bl e.own):=⟨_,rfl⟩;obtain⟨S5,e5⟩:∃ S,S=S4++encs [K,z]:=⟨_,rfl⟩;obtain⟨S6,e6⟩:∃ S,S=S5++[tb e.ar]:=⟨_,rfl⟩;obtain⟨S7,e7⟩:∃ S,S=S6++Wi.enc L.length:=⟨_,rfl⟩;obtain⟨S8,e8⟩:∃ S,S=S7++encs (L.map XG):=⟨_,rfl⟩;have b0:S0.length<=1126:=by rw[e0,ZQ];omega
 have b1:S1.length<=1127:=by rw[e1,ZQ,Yw];omega
 have b2:S2.length<=1136:=by rw[e2,ZQ];omega
 have b3:S3.length<=2145:=by rw[e3,ZQ,ZQ,Ds.bl_length];omega
 have b4:S4.length<=3154:=by rw[e4,ZQ,ZQ,Ds.bl_length];omega
 have b5:S5.length<=3172:=by rw[e5,ZQ];omega
 have b6:S6.length<=3173:=by rw[e6,ZQ,Yw];omega
 have b7:S7.length<=3182:=by rw[e7,ZQ];omega
 have b8:S8.length<=3218:=by rw[e8,ZQ];omega
 have E:l++iG e L k1 K z Z=S8++Wi.enc Z:=by
  rw[e8,e7,e6,e5,e4,e3,e2,e1,e0];unfold iG;simp only[Zp]
 have Y:ZJ Z6 160 #[.pointer (Z9 ⟨c,0,Z8⟩),.slice (Z9 ⟨w.heap.size,0,Z8⟩) 14 14] ((w.alloc (.cells #[.pointer (Z9 ⟨g,2,Z8⟩),.pointer (Z9 ⟨g,3,Z8⟩),.pointer (Z9 ⟨g,4,Z8⟩),.pointer (Z9 ⟨g,5,Z8⟩),.pointer (Z9 ⟨g,6,Z8⟩),.pointer (Z9 ⟨g,7,Z8⟩),.pointer (Z9 ⟨g,8,Z8⟩),.pointer (Z9 ⟨g,9,Z8⟩),.pointer (Z9 ⟨g,10,Z8⟩),.pointer (Z9 ⟨g,11,Z8⟩),.pointer (Z9 ⟨g,12,Z8⟩),.pointer (Z9 ⟨g,13,Z8⟩),.pointer (Z9 ⟨g,14,Z8⟩),.pointer (Z9 ⟨g,15,Z8⟩)] 212)).drew) fun r w'=>r=.returned (.tuple #[])/\WS w' c g (l++encs ((bK e).map XG)) (e.vals A G)/\((w.alloc (.cells #[.pointer (Z9 ⟨g,2,Z8⟩),.pointer (Z9 ⟨g,3,Z8⟩),.pointer (Z9 ⟨g,4,Z8⟩),.pointer (Z9 ⟨g,5,Z8⟩),.pointer (Z9 ⟨g,6,Z8⟩),.pointer (Z9 ⟨g,7,Z8⟩),.pointer (Z9 ⟨g,8,Z8⟩),.pointer (Z9 ⟨g,9,Z8⟩),.pointer (Z9 ⟨g,10,Z8⟩),.pointer (Z9 ⟨g,11,Z8⟩),.pointer (Z9 ⟨g,12,Z8⟩),.pointer (Z9 ⟨g,13,Z8⟩),.pointer (Z9 ⟨g,14,Z8⟩),.pointer (Z9 ⟨g,15,Z8⟩)] 212)).drew).grownBy w' (Z9 c):=ot c g w.heap.size 14 os14 _ l (e.vals A G) _ (h.below (((ZM _ _).alloc (ZS _) _).drew)) (PS.new w g os14 212) (by have:=h.2.2.2;omega) hN O (by decide) (by omega)
 rw[<-e0] at Y;have c1:=fun W (j:WS W c g S0 (e.vals A G))=>pi c g 16 e.uq S0 _ W j (by omega) (pQ e A G)
 rw[<-e1] at c1;have c2:=fun W (j:WS W c g S1 (e.vals A G))=>kX c g 17 k1 S1 _ W j (by omega) y.1 R
 rw[<-e2] at c2;have c3:=fun W (j:WS W c g S2 (e.vals A G))=>lB c g 18 e.vol S2 _ W j (by omega) (by omega) (pS e A G)
 rw[<-e3] at c3;have c4:=fun W (j:WS W c g S3 (e.vals A G))=>lB c g 19 e.own S3 _ W j (by omega) (by omega) (pT e A G)
 rw[<-e4] at c4
 have ad:NS (e.vals A G) [20,21] [K,z]:=⟨rfl,fun k h _=>by
  rcases (by simp at h;omega:k=0\/k=1) with rfl|rfl
  .exact T
  .exact U⟩
 have c5:∀ W,WS W c g S4 (e.vals A G)->ZJ Z6 160 #[.pointer (Z9 ⟨c,0,Z8⟩),.slice (Z9 ⟨W.heap.size,0,Z8⟩) 2 2] ((W.alloc (.cells #[.pointer (Z9 ⟨g,20,Z8⟩),.pointer (Z9 ⟨g,21,Z8⟩)] 212)).drew) fun r w'=>r=.returned (.tuple #[])/\WS w' c g S5 (e.vals A G)/\((W.alloc (.cells #[.pointer (Z9 ⟨g,20,Z8⟩),.pointer (Z9 ⟨g,21,Z8⟩)] 212)).drew).grownBy w' (Z9 c):=fun W j=>by
  rw[e5]
  exact ot c g W.heap.size 2 [20,21] [K,z] S4 (e.vals A G) _ (j.below (((ZM _ _).alloc (ZS _) _).drew)) (PS.new W g [20,21] 212) (by have:=j.2.2.2;omega) ad (fun n J=>by
   rcases (by simpa using J:n=K\/n=z) with rfl|rfl
   .exact y.2.1
   .exact y.2.2.1) (by decide) (by omega)
 have c6:=fun W (j:WS W c g S5 (e.vals A G))=>pi c g 22 e.ar S5 _ W j (by omega) (pU e A G)
 rw[<-e6] at c6;have c7:=fun W (j:WS W c g S6 (e.vals A G))=>tN c g L.length 4 S6 _ W j (by omega) (by omega) (by omega)
 rw[<-e7] at c7;have c9:=fun W (j:WS W c g S8 (e.vals A G))=>kX c g 24 Z S8 _ W j (by omega) y.2.2.2 X
 obtain⟨aa,ac,rfl,cz,m⟩:=id hI;have v:=cf e (.slice aa L.length ac) G;have bb:=lh Y;have C1:=lh c1;have C2:=lh c2;have C3:=lh c3;have C4:=lh c4;have C5:=lh c5;have C6:=lh c6;have C7:=lh c7;have C9:=lh c9;have bc:=lh m;have ca:=lh P;have cd:=hB.size;have HB:=lh hB;have HF:=lh E;have E8:=lh e8;have c8:=lh N;have V:=lh v;clear hN O N ad Y c1 c2 c3 c4 c5 c6 c7 c9 e0 e1 e2 e3 e4 e5 e6 e7 e8 E h hI hB h1 h2 h3 h4 hd P z0 z1 z2 z3 z4 z5 z6 z7 R T U X v m b0 b1 b2 b3 b4 b5 b6 b8 y;go_enter Tryz.func156,Tryz.ntmps156
 go_wp2_with fail
 go_region_law (first|(go_simp;go_at_call 160;(with_reducible refine bb.o.mono ?_);rintro _ f ⟨rfl,ce,a1⟩))
 all_goals
  have bd:=lh (ph.trans a1);clear a1
  go_wp2_with first|go_at_call 161;(with_reducible refine (C1.o _ ce).mono ?_);rintro _ w2 ⟨rfl,cg,a2⟩;have be:=lh (bd.o.trans a2);clear a2|go_at_call 172;(with_reducible refine (C2.o _ cg).mono ?_);rintro _ w3 ⟨rfl,ch,a3⟩;have bi:=lh (be.o.trans a3);clear a3|go_at_call 162;(with_reducible refine (C3.o _ ch).mono ?_);rintro _ w4 ⟨rfl,ck,a4⟩;have bk:=lh (bi.o.trans a4);clear a4|go_at_call 162;(with_reducible refine (C4.o _ ck).mono ?_);rintro _ w5 ⟨rfl,cn,a5⟩;have bp:=lh (bk.o.trans a5);clear a5
  go_region_law (first|(go_simp;go_at_call 160;(with_reducible refine (C5.o _ cn).mono ?_);rintro _ w6 ⟨rfl,af,a6⟩))
  all_goals
   have br:=lh (bp.o.trans (ph.trans a6));clear a6;have v:=af.2.1.cell 23 _ V.o
   go_wp2_with first|go_at_call 161;(with_reducible refine (C6.o _ af).mono ?_);rintro _ w7 ⟨rfl,ag,a7⟩;have v:=ag.2.1.cell 23 _ V.o;have bs:=lh (br.o.trans a7);clear a7|go_at_call 232;(with_reducible refine (C7.o _ ag).mono ?_);rintro _ w8 ⟨rfl,t,a8⟩;have v:=t.2.1.cell 23 _ V.o;obtain⟨_,_,b9⟩:=id t.1;have k1:=b9.2.1;have c0:=lh (bs.o.trans a8);clear a8 b9
   go_loopw [115] (fun i wr=>∃ k:Nat,k<=L.length/\i=.int .i64 k/\WS wr c g (S7++encs ((L.map XG).take k)) (e.vals (.slice aa L.length ac) G)/\w.grownBy wr (Z9 c)) (fun i _=>L.length - (intOf i).toNat)
   case atStart=>exact⟨0,Nat.zero_le _,rfl,by simpa [encs] using t,c0.o⟩
   case round =>
    obtain⟨k,y,rfl,H,D⟩:=hrel;have a0:=lh D;have v:=H.2.1.cell 23 _ V.o;have cc:Below wB.heap.size wB wr:=HB.o.grown D cd (fun x Q=>by cases Q;exact cs);clear D;by_cases I:k<L.length
    .obtain⟨ab,ao,rfl,cp,av⟩:=bc.o (by omega);have ba:=ca.o L[k] (Yu I)
     have cA:wr.cell? ⟨ab,ao+k,Z8⟩=Z9 (.int .i64 (L[k].toNat:Int)):=by
      rw[cc.cell (p:=⟨ab,ao+k,Z8⟩) cp,av k I,Y6 ba.1]
     have B:(S7++encs ((L.map XG).take k)).length<=10000:=by
      have:=kg ((L.map XG).take k) (fun n J=>c8.o n (List.mem_of_mem_take J));rw[List.length_take] at this;rw[ZQ];omega
     have Y:=mn c ⟨ab,ao+k,Z8⟩ L[k].toNat _ wr B (by omega) H.1 cA H.2.2.2;have HC:=lh Y;have HW:=lh H;clear Y av cA B H ba;go_wp2_with (go_at_call 172;(with_reducible refine HC.o.mono ?_);rintro _ w9 ⟨rfl,a9,q⟩;have u:=lh (HW.o.grown q a9);have C:=lh (a0.o.trans q);clear q a9)
     go_roundw
     case rel =>
      refine⟨k+1,by omega,by go_num,?_,C.o⟩
      have ct:k<(L.map XG).length:=by rw[Zq];exact I
      have:=u.o;rw[Zp] at this;rw[List.take_succ_eq_append_getElem ct,nX,List.getElem_map];simpa [encs] using this
     case measure=>simp [intOf];omega
    .have t:WS wr c g S8 (e.vals (.slice aa L.length ac) G):=by
      rw[List.take_of_length_le (by rw[Zq];omega),<-E8.o] at H;exact H
     clear H;go_wp2_with (go_at_call 172;(with_reducible refine (C9.o _ t).mono ?_);rintro _ w9 ⟨rfl,u,q⟩;have cb:=lh u;have C:=lh (a0.o.trans q);clear q u)
     go_end0
     exact⟨rfl,by rw[HF.o];exact cb.o,C.o⟩
def setD(e:En)(f:Nat->Int):En:={ e with d0:=f 0,d1:=f 1,d2:=f 2,d3:=f 3,d4:=f 4,d5:=f 5,d6:=f 6,d7:=f 7,d8:=f 8,d9:=f 9,d10:=f 10,d11:=f 11,d12:=f 12,d13:=f 13 }
def sq(s:Z5 ZP × Nat):Nat->Z5 ZP × Nat
 | 0=>s
 | k+1=>(YV (sq s k)).2
theorem jG(s:Z5 ZP × Nat):∀ k,(sq s k).1.length<=s.1.length
 | 0=>ZS _
 | k+1=>ZD (Wn _) (jG s k)
def nq(s:Z5 ZP × Nat)(k:Nat):Int:=(clip (YV (sq s k)).1:Nat)
theorem ub(e:En)(A G:Z3):dI os14 s (e.vals A G)=((setD e (nq s)).vals A G,sq s 14):=by
 simp only[os14,dI,It,Iu,Iv,Iw,Ix,Iy,Iz,IC,Ht,Hu,Hv,Hw,Hx,Hy]
 rfl
def cI(s:Z5 ZP × Nat):Nat->Z5 Int × (Z5 ZP × Nat)
 | 0=>([],s)
 | k+1=>((cI s k).1++[((clip (YV (cI s k).2).1:Nat):Int)],(YV (cI s k).2).2)
theorem jD(s:Z5 ZP × Nat):∀ k,(cI s k).1.length=k
 | 0=>rfl
 | k+1=>by rw[cI,ZQ,jD s k];rfl
theorem kA(s:Z5 ZP × Nat):∀ k,(cI s k).2=sq s k
 | 0=>rfl
 | k+1=>by rw[cI,sq,kA s k]
theorem pK(s:Z5 ZP × Nat):∀ n j,j<n->(cI s n).1[j]?=Z9 (nq s j)
 | n+1,j,h=>by
   rw[cI];by_cases e:j<n
   .rw[List.getElem?_append_left (by rw[jD];exact e)];exact pK s n j e
   .obtain rfl:j=n:=by omega
    rw[List.getElem?_append_right (by rw[jD];exact ZS _),jD,Nat.sub_self,kA];rfl
def NB(w:Z2)(g n:Nat)(F:Nat->Int):Prop:=(∀ k,k<n->w.cell? ⟨g,k,Z8⟩=Z9 (.int .i64 (F k)))/\(∀ o,w.frozen? ⟨g,o,Z8⟩=ZW)/\g<w.heap.size
theorem NB.grown{w:Z2}{row:Option Nat}(h:NB w g n F)(e:w.grownBy w' row)(r:Z9 g≠row):NB w' g n F:=by
 have H:=e.block g h.2.2 r;refine⟨fun k j=>?_,fun o=>?_,ZY h.2.2 e.size⟩
 .rw[Z1 (a:=⟨g,k,Z8⟩) H];exact h.1 k j
 .rw[Zr (a:=⟨g,o,Z8⟩) H];exact h.2.1 o
theorem NB.set{w:Z2}(h:NB w g n F)(c:Nat)(m:c<n)(v:Int):NB (w.setCell ⟨g,c,Z8⟩ (.int .i64 v)) g n (fun k=>if k=c then v else F k):=by
 refine⟨fun k q=>?_,fun o=>by have:=h.2.1 o;simpa using this,by simpa using h.2.2⟩
 have l:=h.1 k q;have H:=h.1 c m;by_cases e:k=c
 .subst e;simp [go_sem,H]
 .show _=Z9 (Value.int .i64 (if k=c then v else F k))
  rw[Z0 e,<-l];have E:c≠k:=fun h=>e h.symm
  have j:(c==k)=ZW:=by simpa using E
  simp [go_sem]
theorem NB.other{w:Z2}(h:NB w g n F)(G c:Nat)(H:g≠G)(v:Z3):NB (w.setCell ⟨G,c,Z8⟩ v) g n F:=by
 refine⟨fun k e=>?_,fun o=>by have:=h.2.1 o;simpa using this,by simpa using h.2.2⟩
 rw[<-h.1 k e];have E:(G==g)=ZW:=by simpa using fun h=>H h.symm
 simp [go_sem]
theorem NB.made{w:Z2}{B e:Nat}(h:w.ownsRow B e 1 (.slice (Z9 ⟨g,0,Z8⟩) n n) n (madeCells (Value.int .i64 0).cells (n*1)).toList)(j:0<n):NB w g n (fun _=>0):=by
 have H:∀ k,k<n->w.cell? ⟨g,k,Z8⟩=Z9 (.int .i64 0):=fun k l=>by
  rw[h.cellAt k (by omega)];show (madeCells #[Value.int .i64 0] (n*1)).toList[k]?=_
  rw[toList_madeCells_one,List.getElem?_replicate,ZX (by omega)]
 exact⟨H,fun o=>h.frozenAt o,block_lt_of_cell (H 0 j)⟩
theorem NB.is{w:Z2}{l:Z5 Int}(h:NB w g n F)(e:l.length=n)(q:n<=1000000)(hF:∀ j (m:j<l.length),F j=l[j]):IS w (.slice (Z9 ⟨g,0,Z8⟩) n n) l :=
 ⟨_,n,by rw[e],by omega,fun _=>⟨g,0,rfl,h.2.2,fun k H=>by rw[Nat.zero_add,h.1 k (by omega),hF k H]⟩⟩
theorem G2.far{w:Z2}(h:G2 w wr d g)(G:wr.grownBy f (Z9 d))(j:w.heap.size<=p.block)(v:Z3):G2 w (f.setCell p v) d g :=
 by
 have k:=h.trans (G2.of_grown G g);have q:=de f p v;exact⟨q.os.trans k.os,q.tape.trans k.tape,q.output.trans k.output,ZD k.size q.size,fun i e ha H=>(XO f p i v (by omega)).trans (k.block i e ha H)⟩
theorem NB.g2{w:Z2}(h:NB w i n F)(e:G2 w w' a b)(ha:i≠a)(H:i≠b):NB w' i n F:=by
 have H:=e.block i h.2.2 ha H;refine⟨fun k j=>?_,fun o=>?_,ZY h.2.2 e.size⟩
 .rw[Z1 (a:=⟨i,k,Z8⟩) H];exact h.1 k j
 .rw[Zr (a:=⟨i,o,Z8⟩) H];exact h.2.1 o
theorem F5(k n:Nat)(L:Z5 Int)(e:L=(cI s n).1)(l:k=n):∀ j (h:j<L.length),(fun j=>if j<k then nq s j else 0) j=L[j]:=fun j h=>by
 subst e l;have H:j<k:=by rw[jD] at h;exact h
 have:=pK s k j H;rw[ZN h] at this;show (if j<k then nq s j else 0)=_
 rw[ZX H];exact (ZR this).symm
theorem EZ{w W e:Z2}{c m:Nat}{S:Z5 ZP × Nat}{E:En}{r:Z3}(h:RS W c d g S (E.vals (.slice Z8 0 0) r))(q:G2 w W d g)(j:e.ownsRow W.heap.size 3 1 (.slice (Z9 ⟨W.heap.size,0,Z8⟩) m m) m (madeCells (Value.int .i64 0).cells (m*1)).toList)(H:W.grownBy e Z8)(v:0<m) :
 e.frozen? ⟨g,23,Z8⟩=ZW/\e.cell? ⟨g,23,Z8⟩=Z9 (.slice Z8 0 0)/\RS (e.setCell ⟨g,23,Z8⟩ (.slice (Z9 ⟨W.heap.size,0,Z8⟩) m m)) c d g S (E.vals (.slice (Z9 ⟨W.heap.size,0,Z8⟩) m m) r)/\w.heap.size<=W.heap.size/\NB (e.setCell ⟨g,23,Z8⟩ (.slice (Z9 ⟨W.heap.size,0,Z8⟩) m m)) W.heap.size m (fun _=>0)/\G2 w (e.setCell ⟨g,23,Z8⟩ (.slice (Z9 ⟨W.heap.size,0,Z8⟩) m m)) d g:=by
 have l:=h.2.2.1.2.2;have G:W.grownBy e (Z9 d):=⟨H.os,H.tape,H.output,H.size,fun k u _=>H.block k u (by simp)⟩;have t:=H.block g l (by simp);have ha:=h.after (h.2.1.grown H h.2.2.2.2.2.2.2) G 23 (by rw[ah];decide) (.slice (Z9 ⟨W.heap.size,0,Z8⟩) m m);rw[Hz] at ha;exact⟨(Zr (a:=⟨g,23,Z8⟩) t).trans (h.2.2.1.2.1 23),(Z1 (a:=⟨g,23,Z8⟩) t).trans (h.2.2.1.cell 23 _ (cf E _ r)),ha.1,q.size,(NB.made j v).other g 23 (by omega) _,q.trans ha.2⟩
theorem Fa{w:Z2}{c m k:Nat}{S:Z5 ZP × Nat}{C:ZE Z3}(h:RS wr c d g (cI S k).2 C)(u:c<w.heap.size)(x:d<w.heap.size)(v:g<w.heap.size)(B:w.heap.size<=i)(N:NB wr i m (fun j=>if j<k then nq S j else 0))(r:G2 w wr d g)(R:RL f d (YV (cI S k).2).2)(G:wr.grownBy f (Z9 d))(t:k<m) :
 RS (f.setCell ⟨i,k,Z8⟩ (.int .i64 (clip (YV (cI S k).2).1))) c d g (cI S (k+1)).2 C/\NB (f.setCell ⟨i,k,Z8⟩ (.int .i64 (clip (YV (cI S k).2).1))) i m (fun j=>if j<k+1 then nq S j else 0)/\G2 w (f.setCell ⟨i,k,Z8⟩ (.int .i64 (clip (YV (cI S k).2).1))) d g:=by
 refine⟨h.far R G ⟨i,k,Z8⟩ (by show i≠c;omega) (by show i≠d;omega) (by show i≠g;omega) _,?_,r.far G B _⟩
 have q:=(N.grown G (by intro e;have:=ZR e;omega)).set k t (clip (YV (cI S k).2).1:Nat)
 have e:(fun j=>if j=k then ((clip (YV (cI S k).2).1:Nat):Int) else (fun j=>if j<k then nq S j else 0) j)=fun j=>if j<k+1 then nq S j else 0:=by
  funext j
  by_cases H:j=k
  .subst H;rw[ZX rfl,ZX (by omega),kA];rfl
  .rw[Z0 H];by_cases l:j<k
   .rw[ZX (by omega)];exact ZX l
   .rw[Z0 (by omega)];exact Z0 l
 rw[e] at q;exact q
theorem EQ:(Tryz.prog.info? 3).map (fun i=>(i.zero,i.size,i.bytes))=Z9 (Z9 (.int .i64 0),1,8):=by kernel_rfl
def En.sUq(e:En)(x:Bool):En:={ e with uq:=x }
def En.sCls(e:En)(x:Int):En:={ e with cls:=x }
def En.sVol(e:En)(x:ByteArray):En:={ e with vol:=x }
def En.sOwn(e:En)(x:ByteArray):En:={ e with own:=x }
def En.sCE(e:En)(x y:Int):En:={ e with cr:=x,ex:=y }
def En.sAr(e:En)(x:Bool):En:={ e with ar:=x }
def En.sUsed(e:En)(x:Int):En:={ e with used:=x }
def dR(e:En)(s:Z5 ZP × Nat):En × Z5 Int × (Z5 ZP × Nat) :=
 let a:=sq s 14
 let u:=XJ a
 let k:=YV u.2
 let v:=X5 200 k.2
 let o:=X5 200 v.2
 let q:=sq o.2 2
 let A:=XJ q
 let n:=YV A.2
 let l:=cI n.2 (cntv 4 (clip n.1))
 let U:=YV l.2
 ((((((((setD e (nq s)).sUq u.1).sCls (clip k.1)).sVol ⟨v.1.toArray⟩).sOwn ⟨o.1.toArray⟩).sCE (nq o.2 0) (nq o.2 1)).sAr A.1).sUsed (clip U.1),l.1,U.2)
end Go.Proofs.YtnkjliahpeebjaaGreatDoor
