/- Catalogs. -/
import Derived.Test.YtnkjliahpeebjaaGreatDoorRdA
import Derived.Deep.RegionLaw
set_option maxRecDepth 4000
set_option maxHeartbeats 800000
open Option renaming some->Z9,none->Z8
open _root_ renaming ByteArray->Z7,List->Z5,UInt8->ZP,Array->ZE
open Go.Proofs.Tryz renaming prog->Z6
open Go renaming Value->Z3,World->Z2,Calls->ZJ,bodyPost_ret->Zd,results_none->WZ
open Go.World renaming cell?_of_block->Z1,cell?_setCell_other->Zt,frozen?_of_block->Zr
open Nat renaming lt_of_lt_of_le->ZY,zero_le->Y7
open Option.some renaming inj->ZR
open List renaming length_append->ZQ,append_assoc->Zp
namespace Go.Proofs.YtnkjliahpeebjaaGreatDoor
open Go.RowKit
variable(c d g o:Nat){w w' f i e:Z2}(p:Addr)(x:Z7){b B a:Nat}(n j m:Nat)(os:Z5 Nat)(y:Bool)(l:Z5 ZP)(v:Z3)(s:Z5 ZP × Nat)(cs:ZE Z3)
def CW(w:Z2)(c:Nat)(s:Z7):Prop :=
 w.cell? ⟨c,0,Z8⟩=Z9 (.string s)/\w.cell? ⟨c,1,Z8⟩=Z9 (.pointer Z8)/\∀ o,w.frozen? ⟨c,o,Z8⟩=false
def CL(w:Z2)(c:Nat)(l:Z5 ZP):Prop:=∃ s:Z7,Ds.bl s=l/\CW w c s
theorem CL.below{c:Nat}{l:Z5 ZP}(h:CL w c l)(g:Below B w w')(k:c<B):CL w' c l:=by
 obtain⟨b,q,H⟩:=h;exact⟨b,q,(g.cell (p:=⟨c,0,Z8⟩) k).trans H.1,(g.cell (p:=⟨c,1,Z8⟩) k).trans H.2.1,fun o=>(g.frozen (p:=⟨c,o,Z8⟩) k).trans (H.2.2 o)⟩
theorem mz{c:Nat}{s:Z7}(H:c<w.heap.size)(h:CW w c s)(B:Below w.heap.size w.drew i)(t:Z7)(l:Z5 ZP)(z:Ds.bl t=l):CL (i.setCell ⟨c,0,Z8⟩ (.string t)) c l/\w.grownBy (i.setCell ⟨c,0,Z8⟩ (.string t)) (Z9 c):=by
 obtain⟨C,q,r⟩:=h;have k0:=(B.cell (p:=⟨c,0,Z8⟩) H).trans C;have k1:=(B.cell (p:=⟨c,1,Z8⟩) H).trans q;refine⟨⟨t,z,World.cell?_setCell_same' _ _ _ (by rw[k0];rfl),?_,fun o=>?_⟩,?_⟩
 .rw[Zt _ _ _ _ (by intro h;cases h)];exact k1
 .have:=(B.frozen (p:=⟨c,o,Z8⟩) H).trans (r o);simpa using this
 .exact World.grownBy.trans ⟨by rw[B.os];rfl,by rw[B.tape];rfl,by rw[B.output];rfl,B.size,fun k u _=>B.block k u⟩ (de i ⟨c,0,Z8⟩ _)
theorem mn(w:Z2)(u:l.length<=10000)(r:n<9223372036854775808)(h:CL w c l)(E:w.cell? p=Z9 (.int .i64 n))(k:c<w.heap.size) :
 ZJ Z6 172 #[.pointer (Z9 ⟨c,0,Z8⟩),.pointer (Z9 p)] w fun e w'=>e=.returned (.tuple #[])/\CL w' c (l++Wi.enc n)/\w.grownBy w' (Z9 c):=by
 obtain⟨s,z,h⟩:=h;subst z;rw[Ds.bl_length] at u;have H:=h;obtain⟨C,D,q⟩:=h;have F:=q 0;have I:IntKind.u64.wrap (n:Int)=(n:Int):=IntWalk.u64_in _ ⟨by omega,by omega⟩;have N:=lh r;clear r q;go_enter Tryz.func172,Tryz.ntmps172
 go_wp2_with fail
 have ha:=fun (W:Z2)=>vC s n W (by have:=N.o;omega) u
 go_region_law (first|(go_simp;go_at_call 199;(with_reducible refine (ha _).mono ?_);rintro _ i ⟨t,rfl,A,B⟩;have k0:=(B.cell (p:=⟨c,0,Z8⟩) k).trans C;have G:=(B.frozen (p:=⟨c,0,Z8⟩) k).trans F))
 all_goals
  go_wp2
  exact Zd (WZ rfl _ _ _) rfl ⟨rfl,mz k H B t _ A⟩
def tb(y:Bool):ZP:=if y then 1 else 0
theorem tr(w:Z2)(k:l.length<=10000)(H:CL w c l)(D:w.cell? p=Z9 (.bool y))(r:c<w.heap.size) :
 ZJ Z6 161 #[.pointer (Z9 ⟨c,0,Z8⟩),.pointer (Z9 p)] w fun e w'=>e=.returned (.tuple #[])/\CL w' c (l++[tb y])/\w.grownBy w' (Z9 c):=by
 obtain⟨s,z,H⟩:=H;subst z;rw[Ds.bl_length] at k;have h:=H;obtain⟨C,A,u⟩:=H;have F:=u 0;clear u;cases y
 .go_enter Tryz.func161,Tryz.ntmps161
  go_wp2_with fail
  go_region_law (first|(go_simp;go_at_call 236;(with_reducible refine (AF s _ k).mono ?_);rintro _ i ⟨t,rfl,q,rfl⟩))
  all_goals
   go_wp2
   exact Zd (WZ rfl _ _ _) rfl ⟨rfl,mz r h (Below.refl _ _) t _ q⟩
 .go_enter Tryz.func161,Tryz.ntmps161
  go_wp2_with fail
  go_region_law (first|(go_simp;go_at_call 236;(with_reducible refine (Du s _ k).mono ?_);rintro _ i ⟨t,rfl,q,rfl⟩))
  all_goals
   go_wp2
   exact Zd (WZ rfl _ _ _) rfl ⟨rfl,mz r h (Below.refl _ _) t _ q⟩
theorem ux(w:Z2)(r:l.length<=10000)(A:x.size<=10000)(h:CL w c l)(E:w.cell? p=Z9 (.string x))(k:c<w.heap.size) :
 ZJ Z6 162 #[.pointer (Z9 ⟨c,0,Z8⟩),.pointer (Z9 p)] w fun e w'=>e=.returned (.tuple #[])/\CL w' c (l++(Wi.enc x.size++Ds.bl x))/\w.grownBy w' (Z9 c):=by
 obtain⟨s,u,h⟩:=h;subst u;rw[Ds.bl_length] at r;have H:=h;obtain⟨C,D,q⟩:=h;have F:=q 0;clear q;go_enter Tryz.func162,Tryz.ntmps162
 go_wp2_with fail
 have ha:=fun (W:Z2)=>Dt s x W r A
 go_region_law (first|(go_simp;go_at_call 114;(with_reducible refine (ha _).mono ?_);rintro _ i ⟨t,rfl,z,B⟩;have k0:=(B.cell (p:=⟨c,0,Z8⟩) k).trans C;have G:=(B.frozen (p:=⟨c,0,Z8⟩) k).trans F))
 all_goals
  go_wp2
  exact Zd (WZ rfl _ _ _) rfl ⟨rfl,mz k H B t _ z⟩
def CI(w:Z2)(c d:Nat):Prop:=w.cell? ⟨c,1,Z8⟩=Z9 (.pointer (Z9 ⟨d,0,Z8⟩))
def clip(n:Nat):Nat:=if 1099511627776<n then 1099511627777 else n
theorem DH:clip n<=1099511627777:=by unfold clip;split <;> omega
theorem RL.set{d:Nat}{s:Z5 ZP × Nat}(h:RL w d s)(p:Addr)(H:p.block≠d)(v:Z3):RL (w.setCell p v) d s:=by
 obtain⟨b,q,C,k,r⟩:=h;refine⟨b,q,?_,?_,fun o=>?_⟩
 .rw[Zt _ _ _ _ (by intro h;exact H (by rw[h]))];exact C
 .rw[Zt _ _ _ _ (by intro h;exact H (by rw[h]))];exact k
 .have:=r o;simpa using this
theorem mm(w:Z2)(L:s.1.length<=10000)(I:CI w c d)(R:RL w d s)(E:d<w.heap.size)(K:w.cell? p=Z9 v)(J:w.frozen? p=false)(D:p.block<w.heap.size)(C:p.block≠d) :
 ZJ Z6 172 #[.pointer (Z9 ⟨c,0,Z8⟩),.pointer (Z9 p)] w fun e w'=>e=.returned (.tuple #[])/\∃ f,RL f d (Rd.num s).2/\w.grownBy f (Z9 d)/\w'=f.setCell p (.int .i64 (clip (Rd.num s).1)):=by
 have A:=sJ d s w L E R;have t:=Rd.num_lt s;unfold CI at I
 have z:∀ f,w.grownBy f (Z9 d)->f.cell? p=Z9 v/\f.frozen? p=false:=fun f H=>by
  have k:=H.block p.block D (by intro h;exact C (ZR h));exact⟨(Z1 k).trans K,(Zr k).trans J⟩
 have u:=lh z;clear z;generalize Rd.num s=r at A t |-;obtain⟨x,S⟩:=r;simp only at A t |-
 by_cases h:1099511627776<x
 .have F:decide ((1099511627776:Int)<(x:Int))=true:=by simp;omega
  rw[show clip x=1099511627777 by unfold clip;rw[if_pos h]];clear t;go_enter Tryz.func172,Tryz.ntmps172
  go_wp2_with ((with_reducible refine A.mono ?_);rintro e f ⟨rfl,q,H⟩;obtain⟨Q,N⟩:=u.o f H;have G:=lh H;clear H)
  go_end0
  exact⟨rfl,_,q,G.o,rfl⟩
 .have F:decide ((1099511627776:Int)<(x:Int))=false:=by simp;omega
  have O:IntKind.i64.wrap (x:Int)=(x:Int):=IntWalk.i64_in _ ⟨by omega,by omega⟩;rw[show clip x=x by unfold clip;rw[if_neg h]];clear t;go_enter Tryz.func172,Tryz.ntmps172
  go_wp2_with ((with_reducible refine A.mono ?_);rintro e f ⟨rfl,q,H⟩;obtain⟨Q,N⟩:=u.o f H;have G:=lh H;clear H)
  go_end0
  exact⟨rfl,_,q,G.o,rfl⟩
theorem tp(w:Z2)(J:s.1.length<=10000)(E:CI w c d)(R:RL w d s)(D:d<w.heap.size)(I:w.cell? p=Z9 v)(F:w.frozen? p=false)(C:p.block<w.heap.size)(A:p.block≠d) :
 ZJ Z6 161 #[.pointer (Z9 ⟨c,0,Z8⟩),.pointer (Z9 p)] w fun e w'=>e=.returned (.tuple #[])/\∃ f,RL f d (Rd.boo s).2/\w.grownBy f (Z9 d)/\w'=f.setCell p (.bool (Rd.boo s).1):=by
 have z:=DN d s w J D R;unfold CI at E
 have q:∀ f,w.grownBy f (Z9 d)->f.cell? p=Z9 v/\f.frozen? p=false:=fun f H=>by
  have k:=H.block p.block C (by intro h;exact A (ZR h));exact⟨(Z1 k).trans I,(Zr k).trans F⟩
 have t:=lh q;clear q;generalize Rd.boo s=r at z |-;obtain⟨x,S⟩:=r;simp only at z |-
 go_enter Tryz.func161,Tryz.ntmps161
 go_wp2_with ((with_reducible refine z.mono ?_);rintro e f ⟨rfl,u,H⟩;obtain⟨Q,K⟩:=t.o f H;have G:=lh H;clear H)
 go_end0
 exact⟨rfl,_,u,G.o,rfl⟩
theorem uu(w:Z2)(L:s.1.length<=10000)(I:CI w c d)(R:RL w d s)(E:d<w.heap.size)(K:w.cell? p=Z9 v)(J:w.frozen? p=false)(D:p.block<w.heap.size)(C:p.block≠d) :
 ZJ Z6 162 #[.pointer (Z9 ⟨c,0,Z8⟩),.pointer (Z9 p)] w fun e w'=>e=.returned (.tuple #[])/\∃ f t,Ds.bl t=(Rd.txt 200 s).1/\RL f d (Rd.txt 200 s).2/\w.grownBy f (Z9 d)/\w'=f.setCell p (.string t):=by
 have A:ZJ Z6 46 #[.pointer (Z9 ⟨d,0,Z8⟩),.int .i64 200] w fun e w'=>∃ t,e=.returned (.string t)/\Ds.bl t=(Rd.txt 200 s).1/\RL w' d (Rd.txt 200 s).2/\w.grownBy w' (Z9 d):=DP d 200 s w L E R (by decide)
 unfold CI at I
 have q:∀ f,w.grownBy f (Z9 d)->f.cell? p=Z9 v/\f.frozen? p=false:=fun f H=>by
  have k:=H.block p.block D (by intro h;exact C (ZR h));exact⟨(Z1 k).trans K,(Zr k).trans J⟩
 have u:=lh q;clear q;generalize Rd.txt 200 s=r at A |-;obtain⟨x,S⟩:=r;simp only at A |-
 go_enter Tryz.func162,Tryz.ntmps162
 go_wp2_with ((with_reducible refine A.mono ?_);rintro e f ⟨t,rfl,F,z,H⟩;obtain⟨Q,N⟩:=u.o f H;have G:=lh H;have T:=lh F;clear H F)
 go_end0
 exact⟨rfl,_,t,T.o,z,G.o,rfl⟩
structure G2 (w w':Z2) (a b:Nat):Prop where
 os:w'.os=w.os
 tape:w'.tape=w.tape
 output:w'.output=w.output
 size:w.heap.size<=w'.heap.size
 block:∀ k,k<w.heap.size->k≠a->k≠b->w'.heap[k]?=w.heap[k]?
theorem G2.refl(w:Z2)(a b:Nat):G2 w w a b:=⟨rfl,rfl,rfl,Nat.le_refl _,fun _ _ _ _=>rfl⟩
theorem G2.trans(h:G2 w w' a b)(k:G2 w' e a b):G2 w e a b :=
 ⟨k.os.trans h.os,k.tape.trans h.tape,k.output.trans h.output,Nat.le_trans h.size k.size,fun i q ha H=>(k.block i (ZY q h.size) ha H).trans (h.block i q ha H)⟩
theorem G2.of_grown(h:w.grownBy w' (Z9 a))(b:Nat):G2 w w' a b :=
 ⟨h.os,h.tape,h.output,h.size,fun i H ha _=>h.block i H (by intro e;exact ha (ZR e))⟩
theorem G2.set(h:G2 w w' a b)(o:Nat)(v:Z3):G2 w (w'.setCell ⟨b,o,Z8⟩ v) a b :=
 h.trans (by
  have g:=de w' ⟨b,o,Z8⟩ v;exact⟨g.os,g.tape,g.output,g.size,fun i k _ H=>g.block i k (by intro e;exact H (ZR e))⟩)
theorem G2.below(h:G2 w w' a b)(ha:B<=a)(H:B<=b)(q:B<=w.heap.size):Below B w w' :=
 ⟨h.os,h.tape,h.output,h.size,fun i k=>h.block i (by omega) (by omega) (by omega)⟩
theorem G2.cell(h:G2 w w' a b){p:Addr}(k:p.block<w.heap.size)(ha:p.block≠a)(H:p.block≠b):w'.cell? p=w.cell? p:=Z1 (h.block _ k ha H)
theorem gJ(h:w.grownBy w' (Z9 a))(ha:B<=a)(k:B<=w.heap.size):Below B w w' :=
 ⟨h.os,h.tape,h.output,h.size,fun i H=>h.block i (by omega) (by intro e;have:=ZR e;omega)⟩
def EB(w:Z2)(g:Nat)(cs:ZE Z3):Prop:=row w g=cs/\(∀ o,w.frozen? ⟨g,o,Z8⟩=false)/\g<w.heap.size
theorem EB.cell{g:Nat}{cs:ZE Z3}(h:EB w g cs)(o:Nat)(v:Z3)(H:cs[o]?=Z9 v):w.cell? ⟨g,o,Z8⟩=Z9 v:=ae h.1 o v H
theorem EB.of_block{g:Nat}{cs:ZE Z3}(h:EB w g cs)(k:w'.heap[g]?=w.heap[g]?)(H:w.heap.size<=w'.heap.size):EB w' g cs :=
 ⟨by have:=h.1;unfold row at *;rw[k];exact this,fun o=>(Zr (a:=⟨g,o,Z8⟩) k).trans (h.2.1 o),ZY h.2.2 H⟩
theorem rm(w:Z2)(g o:Nat)(v:Z3)(cs:ZE Z3)(h:row w g=cs)(k:o<cs.size):row (w.setCell ⟨g,o,Z8⟩ v) g=cs.setIfInBounds o v:=by
 unfold row at h;rcases H:w.heap[g]? with _|O
 .rw[H] at h;subst h;simp at k
 .rw[H] at h
  cases O with
  | cells c t F =>
    simp only at h
    subst h;rw[setCell_eq_setRow w g o c t F v H];exact fA (setRow_heap w g c _ t F H)
  | _=>simp only at h;subst h;simp at k
theorem EB.set{g:Nat}{cs:ZE Z3}(h:EB w g cs)(o:Nat)(H:o<cs.size)(v:Z3):EB (w.setCell ⟨g,o,Z8⟩ v) g (cs.setIfInBounds o v) :=
 ⟨rm w g o v cs h.1 H,fun O=>by have:=h.2.1 O;simpa using this,by simpa using h.2.2⟩
def WS(w:Z2)(c g:Nat)(l:Z5 ZP)(cs:ZE Z3):Prop:=CL w c l/\EB w g cs/\c≠g/\c<w.heap.size
def RS(w:Z2)(c d g:Nat)(s:Z5 ZP × Nat)(cs:ZE Z3):Prop:=CI w c d/\RL w d s/\EB w g cs/\c≠d/\c≠g/\d≠g/\c<w.heap.size/\d<w.heap.size
theorem WS.grown{c g:Nat}{l L:Z5 ZP}{cs:ZE Z3}(h:WS w c g l cs)(G:w.grownBy w' (Z9 c))(H:CL w' c L):WS w' c g L cs :=
 ⟨H,h.2.1.of_block (G.block g h.2.1.2.2 (by intro e;exact h.2.2.1 (ZR e).symm)) G.size,h.2.2.1,ZY h.2.2.2 G.size⟩
theorem WS.below{c g:Nat}{l:Z5 ZP}{cs:ZE Z3}(h:WS w c g l cs)(G:Below w.heap.size w w'):WS w' c g l cs :=
 ⟨h.1.below G h.2.2.2,h.2.1.of_block (G.block g h.2.1.2.2) G.size,h.2.2.1,ZY h.2.2.2 G.size⟩
theorem RS.below{c d g:Nat}{s:Z5 ZP × Nat}{cs:ZE Z3}(h:RS w c d g s cs)(G:Below w.heap.size w w'):RS w' c d g s cs:=by
 obtain⟨r,t,H,u,z,A,k,q⟩:=h;exact⟨(G.cell (p:=⟨c,1,Z8⟩) k).trans r,t.below G q,H.of_block (G.block g H.2.2) G.size,u,z,A,ZY k G.size,ZY q G.size⟩
theorem RS.after{c d g:Nat}{s S:Z5 ZP × Nat}{cs:ZE Z3}(h:RS w c d g s cs)(R:RL f d S)(G:w.grownBy f (Z9 d))(o:Nat)(A:o<cs.size)(v:Z3) :
 RS (f.setCell ⟨g,o,Z8⟩ v) c d g S (cs.setIfInBounds o v)/\G2 w (f.setCell ⟨g,o,Z8⟩ v) d g:=by
 obtain⟨u,C,q,r,t,H,z,D⟩:=h;have k:=(q.of_block (G.block g q.2.2 (by intro e;exact H (ZR e).symm)) G.size).set o A v;refine⟨⟨?_,R.set _ (fun e=>H e.symm) _,k,r,t,H,by have:=G.size;simp;omega,by have:=G.size;simp;omega⟩,(G2.of_grown G g).set o v⟩
 unfold CI;rw[Zt _ _ _ _ (by intro h;cases h;exact t rfl)];exact (Z1 (a:=⟨c,1,Z8⟩) (G.block c z (by intro e;exact r (ZR e)))).trans u
theorem qv{cs:ZE Z3}{o:Nat}{v:Z3}(h:cs[o]?=Z9 v):o<cs.size:=by
 rcases Nat.lt_or_ge o cs.size with H|H
 .exact H
 .rw[Array.getElem?_eq_none H] at h;cases h
theorem kX(w:Z2)(h:WS w c g l cs)(r:l.length<=10000)(q:n<9223372036854775808)(t:cs[o]?=Z9 (.int .i64 n)) :
 ZJ Z6 172 #[.pointer (Z9 ⟨c,0,Z8⟩),.pointer (Z9 ⟨g,o,Z8⟩)] w fun e w'=>e=.returned (.tuple #[])/\WS w' c g (l++Wi.enc n) cs/\w.grownBy w' (Z9 c) :=
 (mn c ⟨g,o,Z8⟩ n l w r q h.1 (h.2.1.cell o _ t) h.2.2.2).mono fun _ _ ⟨H,k,G⟩=>⟨H,h.grown G k,G⟩
theorem pi(w:Z2)(h:WS w c g l cs)(q:l.length<=10000)(r:cs[o]?=Z9 (.bool y)) :
 ZJ Z6 161 #[.pointer (Z9 ⟨c,0,Z8⟩),.pointer (Z9 ⟨g,o,Z8⟩)] w fun e w'=>e=.returned (.tuple #[])/\WS w' c g (l++[tb y]) cs/\w.grownBy w' (Z9 c) :=
 (tr c ⟨g,o,Z8⟩ y l w q h.1 (h.2.1.cell o _ r) h.2.2.2).mono fun _ _ ⟨H,k,G⟩=>⟨H,h.grown G k,G⟩
theorem lB(w:Z2)(h:WS w c g l cs)(q:l.length<=10000)(t:x.size<=10000)(r:cs[o]?=Z9 (.string x)) :
 ZJ Z6 162 #[.pointer (Z9 ⟨c,0,Z8⟩),.pointer (Z9 ⟨g,o,Z8⟩)] w fun e w'=>e=.returned (.tuple #[])/\WS w' c g (l++(Wi.enc x.size++Ds.bl x)) cs/\w.grownBy w' (Z9 c) :=
 (ux c ⟨g,o,Z8⟩ x l w q t h.1 (h.2.1.cell o _ r) h.2.2.2).mono fun _ _ ⟨H,k,G⟩=>⟨H,h.grown G k,G⟩
theorem jt(w:Z2)(h:RS w c d g s cs)(q:s.1.length<=10000)(H:cs[o]?=Z9 v) :
 ZJ Z6 172 #[.pointer (Z9 ⟨c,0,Z8⟩),.pointer (Z9 ⟨g,o,Z8⟩)] w fun e w'=>e=.returned (.tuple #[])/\RS w' c d g (Rd.num s).2 (cs.setIfInBounds o (.int .i64 (clip (Rd.num s).1)))/\G2 w w' d g :=
 (mm c d ⟨g,o,Z8⟩ v s w q h.1 h.2.1 h.2.2.2.2.2.2.2 (h.2.2.1.cell o _ H) (h.2.2.1.2.1 o) h.2.2.1.2.2 (fun e=>h.2.2.2.2.2.1 e.symm)).mono fun _ _ ⟨k,f,R,G,r⟩=>by
   subst r;exact⟨k,h.after R G o (qv H) _⟩
theorem ll(w:Z2)(h:RS w c d g s cs)(q:s.1.length<=10000)(H:cs[o]?=Z9 v) :
 ZJ Z6 161 #[.pointer (Z9 ⟨c,0,Z8⟩),.pointer (Z9 ⟨g,o,Z8⟩)] w fun e w'=>e=.returned (.tuple #[])/\RS w' c d g (Rd.boo s).2 (cs.setIfInBounds o (.bool (Rd.boo s).1))/\G2 w w' d g :=
 (tp c d ⟨g,o,Z8⟩ v s w q h.1 h.2.1 h.2.2.2.2.2.2.2 (h.2.2.1.cell o _ H) (h.2.2.1.2.1 o) h.2.2.1.2.2 (fun e=>h.2.2.2.2.2.1 e.symm)).mono fun _ _ ⟨k,f,R,G,r⟩=>by
   subst r;exact⟨k,h.after R G o (qv H) _⟩
theorem jE(w:Z2)(h:RS w c d g s cs)(q:s.1.length<=10000)(H:cs[o]?=Z9 v) :
 ZJ Z6 162 #[.pointer (Z9 ⟨c,0,Z8⟩),.pointer (Z9 ⟨g,o,Z8⟩)] w fun e w'=>e=.returned (.tuple #[])/\RS w' c d g (Rd.txt 200 s).2 (cs.setIfInBounds o (.string ⟨(Rd.txt 200 s).1.toArray⟩))/\G2 w w' d g :=
 (uu c d ⟨g,o,Z8⟩ v s w q h.1 h.2.1 h.2.2.2.2.2.2.2 (h.2.2.1.cell o _ H) (h.2.2.1.2.1 o) h.2.2.1.2.2 (fun e=>h.2.2.2.2.2.1 e.symm)).mono fun _ _ ⟨k,f,t,r,R,G,u⟩=>by
   subst u;rw[<-r,Ds.mk_bl];exact⟨k,h.after R G o (qv H) _⟩
def encs:Z5 Nat->Z5 ZP
 | []=>[]
 | n::r=>Wi.enc n++encs r
theorem nX:∀ (a b:Z5 Nat),encs (a++b)=encs a++encs b
 | [],b=>rfl
 | n::a,b=>by simp only[List.cons_append,encs,nX a b,Zp]
theorem cZ(h:n<9223372036854775808):(Wi.enc n).length<=9:=Wi.enc_len 8 n (by exact ZY h (by decide))
theorem kg:∀ (l:Z5 Nat),(∀ n∈l,n<9223372036854775808)->(encs l).length<=9*l.length
 | [],_=>by simp [encs]
 | n::r,h=>by
   have k:=cZ n (h n (by simp));have q:=kg r (fun m H=>h m (by simp [H]));simp only[encs,ZQ,List.length_cons];omega
def PS(w:Z2)(j g:Nat)(os:Z5 Nat):Prop:=(∀ k (h:k<os.length),w.cell? ⟨j,k,Z8⟩=Z9 (.pointer (Z9 ⟨g,os[k],Z8⟩)))/\j<w.heap.size
theorem PS.block{j g:Nat}{os:Z5 Nat}(h:PS w j g os)(k:w'.heap[j]?=w.heap[j]?)(q:w.heap.size<=w'.heap.size):PS w' j g os :=
 ⟨fun i H=>(Z1 (a:=⟨j,i,Z8⟩) k).trans (h.1 i H),ZY h.2 q⟩
theorem PS.new(w:Z2)(g:Nat)(os:Z5 Nat)(t:TypeId):PS ((w.alloc (.cells (os.map fun o=>Value.pointer (Z9 ⟨g,o,Z8⟩)).toArray t)).drew) w.heap.size g os:=by
 refine⟨fun k h=>?_,by simp⟩
 show (w.alloc (.cells (os.map fun o=>Value.pointer (Z9 ⟨g,o,Z8⟩)).toArray t)).cell? ⟨w.heap.size,k,Z8⟩=_
 rw[cell_of_row _ w.heap.size k _ t (0,0) (heap_alloc_new w _)];simp [List.getElem?_eq_getElem h]
def NS(cs:ZE Z3)(os N:Z5 Nat):Prop:=os.length=N.length/\∀ k (h:k<os.length) (H:k<N.length),cs[os[k]]?=Z9 (.int .i64 N[k])
theorem ot(N:Z5 Nat)(l:Z5 ZP)(cs:ZE Z3)(w:Z2)(h:WS w c g l cs)(K:PS w j g os)(F:j≠c)(J:NS cs os N)(A:∀ n∈N,n<9223372036854775808)(S:os.length<=20)(V:l.length<=5000) :
 ZJ Z6 160 #[.pointer (Z9 ⟨c,0,Z8⟩),.slice (Z9 ⟨j,0,Z8⟩) os.length m] w fun e w'=>e=.returned (.tuple #[])/\WS w' c g (l++encs N) cs/\w.grownBy w' (Z9 c):=by
 have Q:=lh h;have P:=lh K;have D:=lh J;have I:=lh A;clear h K J A;go_enter Tryz.func160,Tryz.ntmps160
 go_wp2_with fail
 go_loopw [5,8] (fun _ i wr=>∃ k:Nat,k<=os.length/\i=.int .i64 k/\WS wr c g (l++encs (N.take k)) cs/\w.grownBy wr (Z9 c)) (fun _ i _=>os.length - (intOf i).toNat)
 case atStart=>exact⟨0,Y7 _,rfl,by simpa [encs] using Q.o,World.grownBy.refl _ _⟩
 case round =>
  obtain⟨k,U,rfl,W,E⟩:=hrel;have G:=lh E;by_cases u:k<os.length
  .have H:k<N.length:=by have:=D.o.1;omega
   have z:N[k]<9223372036854775808:=I.o _ (List.getElem_mem _)
   have q:(l++encs (N.take k)).length<=10000:=by
    have:=kg (N.take k) (fun n A=>I.o n (List.mem_of_mem_take A));rw[List.length_take] at this;rw[ZQ];omega
   have T:=(P.o.block (G.o.block j P.o.2 (by intro e;exact F (ZR e))) G.o.size).1 k u;have L:=kX c g os[k] N[k] _ cs wr W q z (D.o.2 k u H);have O:=lh L;clear W L E z q;go_wp2_with ((with_reducible refine O.o.mono ?_);rintro e f ⟨rfl,t,r⟩;have R:=lh t;have C:=lh r;clear t r)
   go_roundw
   case rel =>
    refine⟨k+1,by omega,by go_num,?_,G.o.trans C.o⟩
    have:=R.o;rw[Zp] at this;rw[List.take_succ_eq_append_getElem H,nX];simpa [encs] using this
   case measure=>simp [intOf];omega
  .have H:k=N.length:=by have:=D.o.1;omega
   clear E;go_wp2_with fail
   go_end0
   refine⟨rfl,?_,G.o⟩
   rw[H,List.take_length] at W;exact W
def dI:Z5 Nat->(Z5 ZP × Nat)->ZE Z3->ZE Z3 × (Z5 ZP × Nat)
 | [],s,cs=>(cs,s)
 | o::os,s,cs=>dI os (Rd.num s).2 (cs.setIfInBounds o (.int .i64 (clip (Rd.num s).1)))
theorem kQ(w:Z2)(h:RS w c d g s cs)(J:PS w j g os)(E:j≠d)(D:j≠g)(N:∀ k (h:k<os.length),os[k]<cs.size)(V:os.length<=20)(Y:s.1.length<=10000) :
 ZJ Z6 160 #[.pointer (Z9 ⟨c,0,Z8⟩),.slice (Z9 ⟨j,0,Z8⟩) os.length m] w fun e w'=>e=.returned (.tuple #[])/\RS w' c d g (dI os s cs).2 (dI os s cs).1/\G2 w w' d g:=by
 have R:=lh h;have P:=lh J;have T:=lh N;clear h J N;go_enter Tryz.func160,Tryz.ntmps160
 go_wp2_with fail
 go_loopw [5,8] (fun _ i wr=>∃ (k:Nat) (S:Z5 ZP × Nat) (C:ZE Z3),k<=os.length/\i=.int .i64 k/\S.1.length<=10000/\C.size=cs.size/\dI os s cs=dI (os.drop k) S C/\RS wr c d g S C/\G2 w wr d g) (fun _ i _=>os.length - (intOf i).toNat)
 case atStart=>exact⟨0,s,cs,Y7 _,rfl,Y,rfl,rfl,R.o,G2.refl _ _ _⟩
 case round =>
  obtain⟨k,S,C,hk,rfl,F,O,L,W,z⟩:=hrel;have G:=lh z;have I:=lh L;have Z:=lh O;clear L O;by_cases H:k<os.length
  .have A:os[k]<C.size:=by rw[Z.o];exact T.o k H
   have t:C[os[k]]?=Z9 C[os[k]]:=Array.getElem?_eq_getElem A;have X:=(P.o.block (G.o.block j P.o.2 E D) G.o.size).1 k H;have K:=jt c d g os[k] _ S C wr W F t;have Q:=lh K;clear W K z t;go_wp2_with ((with_reducible refine Q.o.mono ?_);rintro e f ⟨rfl,r,q⟩;have U:=lh r;have u:=lh q;clear r q)
   go_roundw
   case rel =>
    refine⟨k+1,_,_,by omega,by go_num,?_,?_,?_,U.o,G.o.trans u.o⟩
    .have:=Rd.num_len S;omega
    .simp [Z.o]
    .rw[I.o,List.drop_eq_getElem_cons H,dI]
   case measure=>simp [intOf];omega
  .clear z;go_wp2_with fail
   go_end0
   refine⟨rfl,?_,G.o⟩
   rw[I.o,List.drop_eq_nil_of_le (by omega)];exact W
end Go.Proofs.YtnkjliahpeebjaaGreatDoor
