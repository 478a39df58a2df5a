/- Catalogs. -/
import Derived.Test.YtnkjliahpeebjaaGreatDoorVaE
import Derived.Test.YtnkjliahpeebjaaGreatDoorFoF
set_option maxRecDepth 8000
set_option maxHeartbeats 1600000
open Option renaming some->Z9,none->Z8
open _root_ renaming ByteArray->Z7,List->Z5,if_neg->Z0,if_pos->ZX,decide_eq_true_eq->ZU,UInt8->ZP,decide_eq_true->ZL,beq_eq_false_iff_ne->ZG,decide_eq_false->ZF,Array->ZE,Bool->Zi
open Go.Proofs.Tryz renaming prog->Z6
open Go.Proofs.YtnkjliahpeebjaaGreatDoor.Ds renaming bl->Z4,bl_length->ZO
open Go renaming Value->Z3,World->Z2,Calls->ZJ,heap_alloc_new->ZA,heap_alloc_old->Zs,cell_of_row->YF,run_underlying->XK,MapEntry->Ws
open Go.World renaming cell?_of_block->Z1,frozen?_of_block->Zr
open Bool renaming true->ZZ,false->ZW,eq_iff_iff->Zf,eq_false_iff->YJ,true_and->Yj
open Nat renaming lt_of_lt_of_le->ZY,le_refl->ZS,le_trans->ZD,zero_le->Y7,zero_add->YE,eq_zero_or_pos->YC
open Go.RowKit renaming Below->ZV,intOf->Y4
open List renaming length_append->ZQ,getElem?_eq_getElem->ZN,length_cons->ZK,take_of_length_le->ZC,take_succ_eq_append_getElem->ZB,getD_eq_getElem?_getD->Zx,length_map->Zq,append_assoc->Zp,cons_append->Zm,getElem?_append_right->Y5,length_nil->YQ,nil_append->YM,append_nil->YL,length_take->YH,length_singleton->Yw,getElem_mem->Yu,isEmpty_iff_length_eq_zero->X1,getElem?_eq_none->XX,replicate->Wd
open Int renaming toNat_of_nonneg->Y6
open Go.Proofs.YtnkjliahpeebjaaGreatDoor.Rd renaming num->YV,txt->X5,boo->XJ,num_len->Wn
open Go.Instr renaming findNow->Yn,lookup->X6,mapUpdate->Xr,findAsking->Wz
open Go.MapKept renaming run_getObj_map->XC
open Go.Proofs.YtnkjliahpeebjaaGreatDoor.Vp renaming rng->Xk,word->VZ,gk->VP
namespace Go.Proofs.YtnkjliahpeebjaaGreatDoor
open Go.RowKit
variable(L:Z5 Gr)(s:Z7)(e:En){y wr m u w':Z2}{v:Z3}(k:Z7 × Zi)(d a:Z3)(i l:Z5 Int){B n g f b:Nat}{cs:ZE Z3}{F:Nat->Z3}(w:Z2){p st':Z5 ZP × Nat}
def GB(w:Z2)(A o:Nat)(g:Z5 Gr):Prop:=∀ k (h:k<g.length),w.cell? ⟨A,o+k*3,Z8⟩=Z9 (.string g[k].1)/\w.cell? ⟨A,o+k*3+1,Z8⟩=Z9 (.bool g[k].2.1)/\w.cell? ⟨A,o+k*3+2,Z8⟩=Z9 (.int .i64 g[k].2.2)
theorem vq(g:Z5 Gr)(h:∀ x∈g,GrOk x):∀ k,(grs (g.take k)).length<=220*k
 | 0=>by simp [grs]
 | k+1=>by
   have I:=vq g h k;by_cases H:k<g.length
   .have c:=h g[k] (Yu H);have o:=c.w;have q:=c.l;have E:=cZ g[k].1.size (by omega);have j:=cZ g[k].2.2.toNat (by omega);rw[ZB H,jY,ZQ];simp only[grs,ZQ,ZK,YQ,ZO]
    omega
   .rw[ZC (by omega)];rw[ZC (by omega)] at I;omega
theorem EG(c g:Nat)(l:Z5 ZP)(e:En)(d a:Z3)(j:Z5 Gr)(o w:Z2)(hI:GS o a j)(hB:ZV o.heap.size o w)(b5:o.heap.size<=c)(h:WS w c g l (e.vals d a))(hP:ProfOk e j)(hs:l.length<=1000) :
 ZJ Z6 174 #[.pointer (Z9 ⟨c,0,Z8⟩),.pointer (Z9 ⟨g,0,Z8⟩)] w fun r w'=>r=.returned (.tuple #[])/\WS w' c g (l++dH e j) (e.vals d a)/\w.grownBy w' (Z9 c):=by
 obtain⟨b8,b9,a0,c7⟩:=hP;have a3:=cK e d a;rw[show e.lev=((e.lev.toNat:Nat):Int) by omega] at a3;have z1:=cZ e.lev.toNat (by omega);have z2:=cZ e.owner.size (by omega);have z3:=cZ j.length (by omega);have z4:=vq j a0;obtain⟨S1,e1⟩:∃ S,S=l++Wi.enc e.lev.toNat:=⟨_,rfl⟩;obtain⟨S2,e2⟩:∃ S,S=S1++(Wi.enc e.owner.size++Z4 e.owner):=⟨_,rfl⟩;obtain⟨O,e3⟩:∃ S,S=S2++Wi.enc j.length:=⟨_,rfl⟩;have b1:S1.length<=1010:=by rw[e1,ZQ];omega
 have b2:S2.length<=1300:=by rw[e2,ZQ,ZQ,ZO];omega
 have b3:O.length<=1400:=by rw[e3,ZQ];omega
 have I:l++dH e j=O++grs j:=by
  rw[e3,e2,e1];unfold dH;simp only[Zp]
 have c1:=fun W (t:WS W c g l (e.vals d a))=>kX c g 31 e.lev.toNat l _ W t (by omega) (by omega) a3
 rw[<-e1] at c1;have c2:=fun W (t:WS W c g S1 (e.vals d a))=>lB c g 28 e.owner S1 _ W t (by omega) (by omega) (bN e d a)
 rw[<-e2] at c2;have c3:=fun W (t:WS W c g S2 (e.vals d a))=>tN c g j.length 8 S2 _ W t (by omega) (by omega) (by omega)
 rw[<-e3] at c3;obtain⟨aa,Q,rfl,c8,z⟩:=id hI;have V:=cC e d (.slice aa j.length Q);have C1:=lh c1;have C2:=lh c2;have C3:=lh c3;have bb:=lh z;have c5:=hB.size;have HB:=lh hB;have HF:=lh I;have P:=lh V;have br:=lh a0;have c4:=lh z4;have HH:=lh h;clear c1 c2 c3 e1 e2 e3 I hI hB z1 z2 z3 z4 a3 V z b1 b2 b8 b9 a0 h;go_enter Tryz.func174,Tryz.ntmps174
 go_wp2_with first|go_at_call 172;(with_reducible refine (C1.o _ HH.o).mono ?_);rintro _ y ⟨rfl,c6,a9⟩;have bc:=lh a9;clear a9|go_at_call 162;(with_reducible refine (C2.o _ c6).mono ?_);rintro _ u ⟨rfl,b0,ad⟩;have V:=b0.2.1.cell 32 _ P.o;have bd:=lh (bc.o.trans ad);clear ad|go_at_call 232;(with_reducible refine (C3.o _ b0).mono ?_);rintro _ w3 ⟨rfl,Y,af⟩;have V:=Y.2.1.cell 32 _ P.o;obtain⟨_,_,b7⟩:=id Y.1;have k1:=b7.2.1;have be:=lh (bd.o.trans af);clear af b7
 go_loopw [43] (fun i wr=>∃ k:Nat,k<=j.length/\i=.int .i64 k/\WS wr c g (O++grs (j.take k)) (e.vals d (.slice aa j.length Q))/\w.grownBy wr (Z9 c)) (fun i _=>j.length - (Y4 i).toNat)
 case atStart=>exact⟨0,Y7 _,rfl,by simpa [grs] using Y,be.o⟩
 case round =>
  obtain⟨k,hk,rfl,H,T⟩:=hrel;have a6:=lh T;have V:=H.2.1.cell 32 _ P.o;have a8:ZV o.heap.size o wr:=HB.o.grown T c5 (fun x hx=>by cases hx;exact b5);clear T;by_cases a1:k<j.length
  .obtain⟨A,C,rfl,Z,b6⟩:=bb.o (by omega);have a2:=br.o j[k] (Yu a1);obtain⟨q0,q1,q2⟩:=b6 k a1;have hz:=c4.o k;have av:(O++grs (j.take k)).length<=3500:=by rw[ZQ];omega
   obtain⟨L,hL⟩:∃ L,L=O++grs (j.take k):=⟨_,rfl⟩
   have q:O++grs (j.take (k+1))=((L++(Wi.enc j[k].1.size++Z4 j[k].1))++[tb j[k].2.1])++Wi.enc j[k].2.2.toNat:=by
    rw[hL,ZB a1,jY];simp only[grs,Zp,YL]
   rw[<-hL] at H av;have ow:=a2.w;have ol:=a2.l;obtain⟨Gk,hG⟩:∃ G,G=j[k]:=⟨_,rfl⟩;rw[<-hG] at ow ol q q0 q1 q2;clear a2 hL hG hz b6;obtain⟨gw,gg,gl⟩:=Gk;simp only at ow ol q q0 q1 q2
   have y1:=cZ gw.size (by omega);obtain⟨n,rfl⟩:∃ n:Nat,gl=n:=⟨gl.toNat,by omega⟩;simp only[Int.toNat_natCast] at q
   have K:∀ W W' L',WS W c g L' (e.vals d (.slice (Z9 ⟨A,C,Z8⟩) j.length Q))->ZV o.heap.size o W->W.grownBy W' (Z9 c)->ZV o.heap.size o W':=fun W W' _ _ J hg=>J.grown hg J.size (fun x hx=>by cases hx;exact b5)
   have t1:=fun (W:Z2) (t:WS W c g L (e.vals d (.slice (Z9 ⟨A,C,Z8⟩) j.length Q))) (J:ZV o.heap.size o W)=>ux c ⟨A,C+k*3,Z8⟩ gw L W (by omega) (by omega) t.1 ((J.cell (p:=⟨A,C+k*3,Z8⟩) Z).trans q0) t.2.2.2
   obtain⟨L1,U⟩:∃ L1,L1=L++(Wi.enc gw.size++Z4 gw):=⟨_,rfl⟩;rw[<-U] at t1 q;have m1:L1.length<=4000:=by rw[U,ZQ,ZQ,ZO];omega
   have t2:=fun (W:Z2) (t:WS W c g L1 (e.vals d (.slice (Z9 ⟨A,C,Z8⟩) j.length Q))) (J:ZV o.heap.size o W)=>tr c ⟨A,C+k*3+1,Z8⟩ gg L1 W (by omega) t.1 ((J.cell (p:=⟨A,C+k*3+1,Z8⟩) Z).trans q1) t.2.2.2
   obtain⟨L2,X⟩:∃ L2,L2=L1++[tb gg]:=⟨_,rfl⟩;rw[<-X] at t2 q;have m2:L2.length<=4001:=by rw[X,ZQ,Yw];omega
   have t3:=fun (W:Z2) (t:WS W c g L2 (e.vals d (.slice (Z9 ⟨A,C,Z8⟩) j.length Q))) (J:ZV o.heap.size o W)=>mn c ⟨A,C+k*3+2,Z8⟩ n L2 W (by omega) (by omega) t.1 ((J.cell (p:=⟨A,C+k*3+2,Z8⟩) Z).trans q2) t.2.2.2
   rw[<-q] at t3;have T1:=lh t1;have T2:=lh t2;have T3:=lh t3;have HS:=lh K;have HW:=lh H;have a5:=lh a8;clear t1 t2 t3 K H q U X m1 m2 y1 ow ol q0 q1 q2 av a8
   go_wp2_with first|go_at_call 162;(with_reducible refine (T1.o _ HW.o a5.o).mono ?_);rintro _ m ⟨rfl,ag,D⟩;have N:=lh (HW.o.grown D ag);have a4:=lh (HS.o _ _ _ HW.o a5.o D);have bi:=lh (a6.o.trans D);clear D ag|go_at_call 161;(with_reducible refine (T2.o _ N.o a4.o).mono ?_);rintro _ w5 ⟨rfl,al,E⟩;have a7:=lh (N.o.grown E al);have ba:=lh (HS.o _ _ _ N.o a4.o E);have bk:=lh (bi.o.trans E);clear E al|go_at_call 172;(with_reducible refine (T3.o _ a7.o ba.o).mono ?_);rintro _ w6 ⟨rfl,ar,R⟩;have bs:=lh (a7.o.grown R ar);have bp:=lh (bk.o.trans R);clear R ar
   go_roundw
   case rel=>exact⟨k+1,by omega,by go_num,bs.o,bp.o⟩
   case measure=>simp [Y4];omega
  .have b4:WS wr c g (O++grs j) (e.vals d (.slice aa j.length Q)):=by
    rw[ZC (by omega)] at H;exact H
   have c0:=lh b4;clear H b4;go_wp2_with fail
   go_end0
   exact⟨rfl,by rw[HF.o];exact c0.o,a6.o⟩
def VB(w:Z2)(g n:Nat)(F:Nat->Z3):Prop:=(∀ k,k<n->w.cell? ⟨g,k,Z8⟩=Z9 (F k))/\(∀ o,w.frozen? ⟨g,o,Z8⟩=ZW)/\g<w.heap.size
theorem VB.grown{w:Z2}{row:Option Nat}(h:VB w g n F)(c:w.grownBy w' row)(r:Z9 g≠row):VB w' g n F:=by
 have H:=c.block g h.2.2 r;refine⟨fun k j=>?_,fun o=>?_,ZY h.2.2 c.size⟩
 .rw[Z1 (a:=⟨g,k,Z8⟩) H];exact h.1 k j
 .rw[Zr (a:=⟨g,o,Z8⟩) H];exact h.2.1 o
theorem VB.g2{w:Z2}{a b:Nat}(h:VB w f n F)(c:G2 w w' a b)(ha:f≠a)(H:f≠b):VB w' f n F:=by
 have H:=c.block f h.2.2 ha H;refine⟨fun k j=>?_,fun o=>?_,ZY h.2.2 c.size⟩
 .rw[Z1 (a:=⟨f,k,Z8⟩) H];exact h.1 k j
 .rw[Zr (a:=⟨f,o,Z8⟩) H];exact h.2.1 o
theorem VB.set{w:Z2}(h:VB w g n F)(c:Nat)(r:c<n)(v:Z3):VB (w.setCell ⟨g,c,Z8⟩ v) g n (fun k=>if k=c then v else F k):=by
 refine⟨fun k t=>?_,fun o=>by have:=h.2.1 o;simpa using this,by simpa using h.2.2⟩
 have q:=h.1 k t;have H:=h.1 c r;by_cases e:k=c
 .subst e;simp [go_sem,H]
 .show _=Z9 (if k=c then v else F k)
  rw[Z0 e,<-q];have E:c≠k:=fun h=>e h.symm
  have j:(c==k)=ZW:=by simpa using E
  simp [go_sem]
theorem VB.other{w:Z2}(h:VB w g n F)(G c:Nat)(H:g≠G)(v:Z3):VB (w.setCell ⟨G,c,Z8⟩ v) g n F:=by
 refine⟨fun k j=>?_,fun o=>by have:=h.2.1 o;simpa using this,by simpa using h.2.2⟩
 rw[<-h.1 k j];have E:(G==g)=ZW:=by simpa using fun h=>H h.symm
 simp [go_sem]
def gcell(x:Gr)(j:Nat):Z3:=if j=0 then .string x.1 else if j=1 then .bool x.2.1 else .int .i64 x.2.2
def gzero:Gr:=(⟨#[]⟩,ZW,0)
def fF(L:Z5 Gr)(i:Nat):Z3:=gcell (L.getD (i / 3) gzero) (i % 3)
theorem Ci(i:Nat):fF [] i=gcell gzero (i % 3):=by unfold fF;simp
theorem Ay(x:Gr)(k:Nat)(h:L.length=k):(fun i=>if i=k*3+2 then Value.int .i64 x.2.2 else (fun i=>if i=k*3+1 then Value.bool x.2.1 else (fun i=>if i=k*3 then Value.string x.1 else fF L i) i) i)=fF (L++[x]):=by
 funext i
 simp only
 subst h;unfold fF;rcases Nat.lt_or_ge i (L.length*3) with c|c
 .rw[Z0 (by omega),Z0 (by omega),Z0 (by omega),Zx,Zx,List.getElem?_append_left (by omega)]
 .rcases (by omega:i=L.length*3\/i=L.length*3+1\/i=L.length*3+2\/L.length*3+3<=i) with H|H|H|H
  .rw[Z0 (by omega),Z0 (by omega),ZX H,Zx,Y5 (by omega),show i / 3 - L.length=0 by omega,show i % 3=0 by omega];rfl
  .rw[Z0 (by omega),ZX H,Zx,Y5 (by omega),show i / 3 - L.length=0 by omega,show i % 3=1 by omega];rfl
  .rw[ZX H,Zx,Y5 (by omega),show i / 3 - L.length=0 by omega,show i % 3=2 by omega];rfl
  .rw[Z0 (by omega),Z0 (by omega),Z0 (by omega),Zx,Zx,XX (by omega),XX (by rw[ZQ,Yw];omega)]
theorem Ex(k:Nat)(h:k<L.length)(j:Nat)(H:j<3):fF L (k*3+j)=gcell L[k] j:=by
 unfold fF;rw[show (k*3+j) / 3=k by omega,show (k*3+j) % 3=j by omega,Zx,ZN h];rfl
theorem VB.gs{w:Z2}{L:Z5 Gr}(h:VB w g (n*3) (fF L))(q:L.length=n)(r:n<=1000000):GS w (.slice (Z9 ⟨g,0,Z8⟩) n n) L :=
 ⟨_,n,by rw[q],by omega,fun _=>⟨g,0,rfl,h.2.2,fun k o=>by
  have H:=h.1 (k*3+0) (by omega);have c:=h.1 (k*3+1) (by omega);have j:=h.1 (k*3+2) (by omega);rw[Ex L k o _ (by decide)] at H c j;refine⟨?_,?_,?_⟩
  .rw[YE];exact H
  .rw[YE];exact c
  .rw[YE];exact j⟩⟩
theorem GD:(Tryz.prog.info? 103).map (fun i=>(i.zero,i.size,i.bytes))=Z9 (Z9 (.agg #[.string ⟨#[]⟩,.bool ZW,.int .i64 0]),3,32):=by kernel_rfl
theorem VB.made{w:Z2}{e:Nat}(h:w.ownsRow B e 3 (.slice (Z9 ⟨g,0,Z8⟩) n n) n (madeCells (Value.agg #[.string ⟨#[]⟩,.bool ZW,.int .i64 0]).cells (n*3)).toList)(j:0<n):VB w g (n*3) (fF []):=by
 have H:∀ k,k<n*3->w.cell? ⟨g,k,Z8⟩=Z9 (fF [] k):=fun k c=>by
  rw[h.cellAt k c,Ci];unfold madeCells;rw[Array.getElem?_toList,Array.getElem?_map,Array.getElem?_range,ZX c];show Z9 ((#[Value.string ⟨#[]⟩,.bool ZW,.int .i64 0]:ZE Z3)[k % 3]!)=_
  rcases (by omega:k % 3=0\/k % 3=1\/k % 3=2) with e|e|e <;> rw[e] <;> rfl
 exact⟨H,fun o=>h.frozenAt o,block_lt_of_cell (H 0 (by omega))⟩
theorem qD{w:Z2}{c j:Nat}(h:RS wr c b g p cs)(r:c<w.heap.size)(x:b<w.heap.size)(t:g<w.heap.size)(H:w.heap.size<=f)(N:VB wr f n F)(o:G2 w wr b g)(R:RL y b st')(G:wr.grownBy y (Z9 b))(q:j<n)(v:Z3) :
 RS (y.setCell ⟨f,j,Z8⟩ v) c b g st' cs/\VB (y.setCell ⟨f,j,Z8⟩ v) f n (fun i=>if i=j then v else F i)/\G2 w (y.setCell ⟨f,j,Z8⟩ v) b g :=
 ⟨h.far R G ⟨f,j,Z8⟩ (by show f≠c;omega) (by show f≠b;omega) (by show f≠g;omega) _,(N.grown G (by intro e;have:=Option.some.inj e;omega)).set j q v,o.far G H _⟩
theorem Gz{w W j:Z2}{c m:Nat}{S:Z5 ZP × Nat}{E:En}{d:Z3}(h:RS W c b g S (E.vals d (.slice Z8 0 0)))(r:G2 w W b g)(o:j.ownsRow W.heap.size 103 3 (.slice (Z9 ⟨W.heap.size,0,Z8⟩) m m) m (madeCells (Value.agg #[.string ⟨#[]⟩,.bool ZW,.int .i64 0]).cells (m*3)).toList)(H:W.grownBy j Z8)(z:0<m) :
 j.frozen? ⟨g,32,Z8⟩=ZW/\j.cell? ⟨g,32,Z8⟩=Z9 (.slice Z8 0 0)/\RS (j.setCell ⟨g,32,Z8⟩ (.slice (Z9 ⟨W.heap.size,0,Z8⟩) m m)) c b g S (E.vals d (.slice (Z9 ⟨W.heap.size,0,Z8⟩) m m))/\w.heap.size<=W.heap.size/\VB (j.setCell ⟨g,32,Z8⟩ (.slice (Z9 ⟨W.heap.size,0,Z8⟩) m m)) W.heap.size (m*3) (fF [])/\G2 w (j.setCell ⟨g,32,Z8⟩ (.slice (Z9 ⟨W.heap.size,0,Z8⟩) m m)) b g:=by
 have q:=h.2.2.1.2.2;have G:W.grownBy j (Z9 b):=⟨H.os,H.tape,H.output,H.size,fun k x _=>H.block k x (by simp)⟩;have t:=H.block g q (by simp);have ha:=h.after (h.2.1.grown H h.2.2.2.2.2.2.2) G 32 (by rw[ah];decide) (.slice (Z9 ⟨W.heap.size,0,Z8⟩) m m);rw[wE] at ha;exact⟨(Zr (a:=⟨g,32,Z8⟩) t).trans (h.2.2.1.2.1 32),(Z1 (a:=⟨g,32,Z8⟩) t).trans (h.2.2.1.cell 32 _ (cC E d _)),ha.1,r.size,(VB.made o z).other g 32 (by omega) _,r.trans ha.2⟩
theorem uN(c b g:Nat)(s:Z5 ZP × Nat)(e:En)(d:Z3)(w:Z2)(h:RS w c b g s (e.vals d (.slice Z8 0 0)))(hs:s.1.length<=1000) :
 ZJ Z6 174 #[.pointer (Z9 ⟨c,0,Z8⟩),.pointer (Z9 ⟨g,0,Z8⟩)] w fun r w'=>r=.returned (.tuple #[])/\∃ a6,RS w' c b g (fW e s).2.2 ((fW e s).1.vals d a6)/\(GS w' a6 (fW e s).2.1/\∀ x,a6.ownBlock=Z9 x->w.heap.size<=x)/\G2 w w' b g:=by
 obtain⟨S1,q1⟩:∃ S,S=(YV s).2:=⟨_,rfl⟩;obtain⟨E1,r1⟩:∃ E:En,E=e.sLev (clip (YV s).1):=⟨_,rfl⟩;obtain⟨S2,q2⟩:∃ S,S=(X5 200 S1).2:=⟨_,rfl⟩;obtain⟨C,r2⟩:∃ E:En,E=E1.sOwner ⟨(X5 200 S1).1.toArray⟩:=⟨_,rfl⟩;obtain⟨o,q7⟩:∃ S,S=(YV S2).2:=⟨_,rfl⟩;obtain⟨m,qm⟩:∃ m,m=cntv 8 (clip (YV S2).1):=⟨_,rfl⟩
 have a0:fW e s=(C,(dO o m).1,(dO o m).2):=by
  rw[qm,q7,r2,q2,r1,q1];rfl
 have b1:S1.1.length<=1000:=by rw[q1];exact ZD (Wn s) hs
 have b2:S2.1.length<=1000:=by rw[q2];exact ZD (Rd.txt_len 200 S1).1 b1
 have b7:o.1.length<=1000:=by rw[q7];exact ZD (Wn S2) b2
 have bk:∀ k,(dO o k).2.1.length<=1000:=fun k=>ZD (sI o k) b7
 have bd:m<=9:=by rw[qm];unfold cntv;split <;> omega
 have c1:∀ W,RS W c b g s (e.vals d (.slice Z8 0 0))->ZJ Z6 172 #[.pointer (Z9 ⟨c,0,Z8⟩),.pointer (Z9 ⟨g,31,Z8⟩)] W fun r w'=>r=.returned (.tuple #[])/\RS w' c b g S1 (E1.vals d (.slice Z8 0 0))/\G2 W w' b g:=fun W q=>by
  have:=jt c b g 31 _ s _ W q (by omega) (cK e _ _);rw[If,<-q1] at this;rw[r1];exact this
 have c2:∀ W,RS W c b g S1 (E1.vals d (.slice Z8 0 0))->ZJ Z6 162 #[.pointer (Z9 ⟨c,0,Z8⟩),.pointer (Z9 ⟨g,28,Z8⟩)] W fun r w'=>r=.returned (.tuple #[])/\RS w' c b g S2 (C.vals d (.slice Z8 0 0))/\G2 W w' b g:=fun W q=>by
  have:=jE c b g 28 _ S1 _ W q (by omega) (bN E1 _ _);rw[wD,<-q2] at this;rw[r2];exact this
 have c3:∀ W,RS W c b g S2 (C.vals d (.slice Z8 0 0))->ZJ Z6 232 #[.pointer (Z9 ⟨c,0,Z8⟩),.int .i64 0,.int .i64 8] W fun r w'=>r=.returned (.int .i64 m)/\RS w' c b g o (C.vals d (.slice Z8 0 0))/\G2 W w' b g:=fun W q=>by
  have:=pc c b g 8 0 S2 _ W q (by omega) (by omega);rw[<-qm,<-q7] at this;exact this
 have V:=cC C d (.slice Z8 0 0);have C1:=lh c1;have C2:=lh c2;have C3:=lh c3;have R:=lh V;have HB:=lh bk;have HH:=lh h;have a9:=h.2.2.2.2.2.2.1;have ab:=h.2.2.2.2.2.2.2;have aa:=h.2.2.1.2.2;rw[a0];clear c1 c2 c3 V bk a0 q1 q2 q7 qm r1 r2 b1 b2 b7 h;rcases YC m with T|T
 .have bc:m<1:=by omega
  have HM:=lh T;clear T;go_enter Tryz.func174,Tryz.ntmps174
  go_wp2_with first|go_at_call 172;(with_reducible refine (C1.o _ HH.o).mono ?_);rintro _ y ⟨rfl,a8,G⟩;have a2:=lh G;clear G|go_at_call 162;(with_reducible refine (C2.o _ a8).mono ?_);rintro _ u ⟨rfl,O,I⟩;have V:=O.2.2.1.cell 32 _ R.o;have a3:=lh (a2.o.trans I);clear I|go_at_call 232;(with_reducible refine (C3.o _ O).mono ?_);rintro _ w3 ⟨rfl,z,J⟩;have V:=z.2.2.1.cell 32 _ R.o;have k1:w3.cell? ⟨c,1,Z8⟩=Z9 (.pointer (Z9 ⟨b,0,Z8⟩)):=z.1;have a4:=lh (a3.o.trans J);clear J
  go_loopw [43] (fun i wr=>i=.int .i64 0/\RS wr c b g o (C.vals d (.slice Z8 0 0))/\G2 w wr b g) (fun i _=>0)
  case atStart=>exact⟨rfl,z,a4.o⟩
  case round =>
   obtain⟨rfl,H,K⟩:=hrel;have Q:=lh K;have b4:=lh H;clear K H;go_wp2_with fail
   go_end0
   exact⟨rfl,_,by rw[HM.o];exact b4.o,⟨by rw[HM.o];exact GS.nil _,fun _ h=>by cases h⟩,Q.o⟩
 .obtain⟨i0,hi,af,ag,al⟩:=info_parts GD;have HI:=lh hi;have b5:=lh af;have b6:=lh ag;have HM:Hid (i0.bytes*m<=281474976710656):=lh (by rw[al];omega);have ad:m<=maxLen:=by unfold maxLen;omega
  have HX:=lh ad;clear hi af ag al ad;go_enter Tryz.func174,Tryz.ntmps174
  go_wp2_with first|go_at_call 172;(with_reducible refine (C1.o _ HH.o).mono ?_);rintro _ y ⟨rfl,a8,G⟩;have a2:=lh G;clear G|go_at_call 162;(with_reducible refine (C2.o _ a8).mono ?_);rintro _ u ⟨rfl,O,I⟩;have V:=O.2.2.1.cell 32 _ R.o;have a3:=lh (a2.o.trans I);clear I|go_at_call 232;(with_reducible refine (C3.o _ O).mono ?_);rintro _ w3 ⟨rfl,z,J⟩;have V:=z.2.2.1.cell 32 _ R.o;have k1:w3.cell? ⟨c,1,Z8⟩=Z9 (.pointer (Z9 ⟨b,0,Z8⟩)):=z.1;have a4:=lh (a3.o.trans J);clear J|at_make;refine wpList_make_full _ rfl _ _ 27 rfl w3.heap.size 103 i0 (.agg #[.string ⟨#[]⟩,.bool ZW,.int .i64 0]) 3 Tryz.underlying27 HI.o b5.o b6.o _ _ _ _ m rfl rfl (by omega) (by omega) HM.o HX.o (ZS _) ?_;intro w9 a1 P;have A:=lh (Gz z a4.o a1 P T);clear a1 P;have f0:=A.o.1;have b8:=A.o.2.1
  go_loopw [43] (fun i wr=>∃ (k f:Nat),k<=m/\i=.int .i64 k/\RS wr c b g (dO o k).2 (C.vals d (.slice (Z9 ⟨f,0,Z8⟩) m m))/\w.heap.size<=f/\VB wr f (m*3) (fF (dO o k).1)/\G2 w wr b g) (fun i _=>m - (Y4 i).toNat)
  case atStart=>exact⟨0,_,Y7 _,rfl,A.o.2.2.1,A.o.2.2.2.1,A.o.2.2.2.2.1,A.o.2.2.2.2.2⟩
  case round =>
   obtain⟨k,f,hk,rfl,H,hB,hN,K⟩:=hrel;have Q:=lh K;have V:=H.2.2.1.cell 32 _ (cC C d (.slice (Z9 ⟨f,0,Z8⟩) m m));clear K;by_cases b9:k<m
   .have hb:=HB.o k;have hL:=o5 o k;obtain⟨p,Y⟩:∃ p,p=(dO o k).2:=⟨_,rfl⟩;obtain⟨L,a7⟩:∃ L,L=(dO o k).1:=⟨_,rfl⟩;have e2:(dO o (k+1)).2=(iP p).2:=by rw[Y];rfl
    have e1:(dO o (k+1)).1=L++[(iP p).1]:=by rw[Y,a7];rfl
    rw[<-Y] at H hb;rw[<-a7] at hN hL;clear Y a7;obtain⟨Z,U⟩:∃ Z,Z=(X5 200 p).2:=⟨_,rfl⟩;obtain⟨sb,X⟩:∃ sb,sb=(XJ Z).2:=⟨_,rfl⟩;have ba:Z.1.length<=1000:=by rw[U];exact ZD (Rd.txt_len 200 p).1 hb
    have bb:sb.1.length<=1000:=by rw[X];exact ZD (Rd.boo_len Z) ba
    have eG:iP p=((⟨(X5 200 p).1.toArray⟩,(XJ Z).1,((clip (YV sb).1:Nat):Int)),(YV sb).2):=by rw[X,U];rfl
    rw[eG] at e1 e2;have t1:=fun (W:Z2) (q:RS W c b g p (C.vals d (.slice (Z9 ⟨f,0,Z8⟩) m m))) (F:Nat->Z3) (N:VB W f (m*3) F)=>uu c b ⟨f,k*3,Z8⟩ _ p W (by omega) q.1 q.2.1 q.2.2.2.2.2.2.2 (N.1 (k*3) (by omega)) (N.2.1 _) N.2.2 (by show f≠b;omega)
    have t2:=fun (W:Z2) (q:RS W c b g Z (C.vals d (.slice (Z9 ⟨f,0,Z8⟩) m m))) (F:Nat->Z3) (N:VB W f (m*3) F)=>tp c b ⟨f,k*3+1,Z8⟩ _ Z W (by omega) q.1 q.2.1 q.2.2.2.2.2.2.2 (N.1 (k*3+1) (by omega)) (N.2.1 _) N.2.2 (by show f≠b;omega)
    have t3:=fun (W:Z2) (q:RS W c b g sb (C.vals d (.slice (Z9 ⟨f,0,Z8⟩) m m))) (F:Nat->Z3) (N:VB W f (m*3) F)=>mm c b ⟨f,k*3+2,Z8⟩ _ sb W (by omega) q.1 q.2.1 q.2.2.2.2.2.2.2 (N.1 (k*3+2) (by omega)) (N.2.1 _) N.2.2 (by show f≠b;omega)
    rw[<-U] at t1;rw[<-X] at t2;have T1:=lh t1;have T2:=lh t2;have T3:=lh t3;have ao:=lh e1;have ar:=lh e2;have HW:=lh H;have HN:=lh hN;have av:=lh hL;clear t1 t2 t3 e1 e2 eG U X H hN hL ba bb hb
    go_wp2_with first|go_at_call 162;(with_reducible refine (T1.o _ HW.o _ HN.o).mono ?_);rintro _ wq ⟨rfl,wy,t,ht,hR,hG,rfl⟩;have HS:=lh (qD HW.o a9 ab aa hB HN.o Q.o hR hG (j:=k*3) (by omega) (.string t));have HT:=lh ht;clear hR hG ht|go_at_call 161;(with_reducible refine (T2.o _ HS.o.1 _ HS.o.2.1).mono ?_);rintro _ wq ⟨rfl,wz,hR,hG,rfl⟩;have D:=lh (qD HS.o.1 a9 ab aa hB HS.o.2.1 HS.o.2.2 hR hG (j:=k*3+1) (by omega) (.bool (XJ Z).1));clear hR hG|go_at_call 172;(with_reducible refine (T3.o _ D.o.1 _ D.o.2.1).mono ?_);rintro _ wq ⟨rfl,wx,hR,hG,rfl⟩;have a5:=lh (qD D.o.1 a9 ab aa hB D.o.2.1 D.o.2.2 hR hG (j:=k*3+2) (by omega) (.int .i64 (clip (YV sb).1)));clear hR hG
    go_roundw
    case rel =>
     refine⟨k+1,f,by omega,by go_num,by rw[ar.o];exact a5.o.1,hB,?_,a5.o.2.2⟩
     rw[ao.o,<-Ay L _ k av.o,<-HT.o,Ds.mk_bl];exact a5.o.2.1
    case measure=>simp [Y4];omega
   .have ac:k=m:=by omega
    have b3:Hid (RS wr c b g (dO o m).2 (C.vals d (.slice (Z9 ⟨f,0,Z8⟩) m m))):=lh (by rw[ac] at H;exact H);have b0:Hid (VB wr f (m*3) (fF (dO o m).1)):=lh (by rw[ac] at hN;exact hN);clear H hN;go_wp2_with fail
    go_end0
    exact⟨rfl,_,b3.o,⟨b0.o.gs (o5 o m) (by omega),fun x hx=>by cases hx;exact hB⟩,Q.o⟩
theorem qQ(c:ZP):((c.toNat:Int)==32)=decide (c=32):=by
 rw[Zf,beq_iff_eq,ZU];constructor
 .intro h;exact UInt8.toNat_inj.1 (by show c.toNat=32;omega)
 .rintro rfl;rfl
theorem AP(I:s.size<=1000) :
 ZJ Z6 176 #[.string s,.int .u8 32] w fun e w'=>∃ t,e=.returned (.string t)/\Z4 t=Ek.trim (Z4 s)/\w'=w:=by
 go_enter Tryz.func176,Tryz.ntmps176
 go_wp2_with fail
 go_loopw [0] (fun v wr=>∃ (j:Nat) (t:Z7),j<=s.size/\v=.string t/\Z4 t=(Z4 s).take j/\Ek.tlen (Z4 s) s.size=Ek.tlen (Z4 s) j/\wr=w) (fun v _=>match v with|.string t=>t.size|_=>0)
 case atStart=>exact⟨s.size,s,ZS _,rfl,by rw[<-ZO,List.take_length],rfl,rfl⟩
 case round =>
  obtain⟨j,t,G,rfl,o,q,rfl⟩:=hrel;have J:t.size=j:=by rw[<-ZO,o,YH,ZO];omega
  by_cases D:0<j
  .have c:j - 1<t.size:=by omega
   have r:=Ds.bl_get t (j - 1) c
   have x:(Z4 s)[j - 1]?=Z9 t[j - 1]:=by
    have A:(Z4 t)[j - 1]?=(Z4 s)[j - 1]?:=by rw[o,List.getElem?_take_of_lt (by omega)]
    rw[<-A,ZN (by rw[ZO];exact c),r]
   obtain⟨i,rfl⟩:∃ i,j=i+1:=⟨j - 1,by omega⟩;simp only[Nat.add_sub_cancel] at c r x
   have z:=qQ t[i];have T:=lh o;have E:=lh q;have C:=lh x;clear o q x r;by_cases h:t[i]=32
   .rw[ZL h] at z;have H:=lh h;clear h;go_wp2_with fail
    go_roundw
    case rel =>
     refine⟨i,t.extract 0 i,by omega,by go_num,?_,?_,trivial⟩
     .unfold Z4 at *;rw[ByteArray.data_extract];simp [T.o,List.take_take]
     .rw[E.o];exact Ek.tlen_yes _ _ (by rw[C.o,H.o])
    case measure=>simp;omega
   .rw[ZF h] at z;have H:=lh h;clear h;go_wp2_with fail
    go_ret
    refine⟨t,rfl,?_,rfl⟩
    unfold Ek.trim;rw[ZO,E.o,Ek.tlen_no _ _ (by rw[C.o];intro e;exact H.o (Option.some.inj e))];exact T.o
  .obtain rfl:j=0:=by omega
   have T:=lh o;have E:=lh q;clear o q;go_wp2_with fail
   go_ret
   refine⟨t,rfl,?_,rfl⟩
   unfold Ek.trim;rw[ZO,E.o];exact T.o
theorem oo(j:s.size<=1000) :
 ZJ Z6 75 #[.string s,.string ⟨#[32]⟩] w fun e w'=>∃ t,e=.returned (.string t)/\Z4 t=Ek.trim (Z4 s)/\w'=w:=by
 by_cases h:s.size=0
 .have E:s.toList.isEmpty=ZZ:=ju _ h;go_enter Tryz.func75,Tryz.ntmps75
  go_wp2_with fail
  go_ret
  refine⟨s,rfl,?_,rfl⟩
  have:Z4 s=[]:=List.length_eq_zero_iff.1 (by rw[ZO];exact h);rw[this];rfl
 .have E:s.toList.isEmpty=ZW:=gG _ (by omega);have o:=fun W=>AP s W j
  clear h;go_enter Tryz.func75,Tryz.ntmps75
  go_wp2_with (go_at_call 176;(refine (o _).mono ?_);rintro e u ⟨t,rfl,H,rfl⟩;have c:=lh H;clear H)
  go_ret
  exact⟨t,rfl,c.o,rfl⟩
theorem Ez(k:Int)(h:0<=k/\k<=4):∃ A K B:Nat,Yn (.int .i64) (.int .i64 k) fe5.toList 0=Z9 (Z9 (k.toNat,.agg (cN ((Ek.letter k).toNat:Nat) A K B))):=by
 rcases (by omega:k=0\/k=1\/k=2\/k=3\/k=4) with rfl|rfl|rfl|rfl|rfl
 .exact⟨32,156,157,rfl⟩
 .exact⟨158,159,163,rfl⟩
 .exact⟨166,167,168,rfl⟩
 .exact⟨169,171,173,rfl⟩
 .exact⟨89,174,175,rfl⟩
theorem uL(k:Int)(h:¬ (0<=k/\k<=4)):Yn (.int .i64) (.int .i64 k) fe5.toList 0=Z9 Z8:=by
 have H:(k==0)=ZW:=by rw[ZG];omega
 have c:(k==1)=ZW:=by rw[ZG];omega
 have j:(k==2)=ZW:=by rw[ZG];omega
 have o:(k==3)=ZW:=by rw[ZG];omega
 have q:(k==4)=ZW:=by rw[ZG];omega
 simp [Yn,Instr.sameNow,fe5,H,c,j,o,q]
theorem rC(c:ZP):∀ n,Lib.repeatL [c] n=Wd n c
 | 0=>rfl
 | n+1=>by rw[Lib.repeatL,rC c n];rfl
theorem AL(j:s.size<=31)(W:Z2):ZJ Z6 187 #[.string ⟨#[32]⟩,.int .i64 (31 - (s.size:Int))] W fun e w'=>∃ t,e=.returned (.string t)/\Z4 t=Wd (31 - s.size) 32/\t.size<=31/\ZV W.heap.size W w':=by
 have h:=Tryz.strings_Repeat ⟨#[32]⟩ (31 - s.size) W (by omega) (by show 1*(31 - s.size)<=_;omega);rw[show ((31 - s.size:Nat):Int)=31 - (s.size:Int) by omega] at h;refine h.mono ?_
 rintro e w' ⟨rfl,c⟩;have H:Z4 ⟨(Lib.repeatL (⟨#[32]⟩:Z7).data.toList (31 - s.size)).toArray⟩=Wd (31 - s.size) 32:=by rw[Ds.bl_mk];exact rC 32 _
 refine⟨_,rfl,H,?_,c⟩
 rw[<-ZO,H,List.length_replicate];omega
theorem pu(c:ZP)(W:Z2)(b:Nat)(h:W.cell? ⟨b,0,Z8⟩=Z9 (.int .u8 (c.toNat:Nat))) :
 (convert 156 9 (.slice (Z9 ⟨b,0,Z8⟩) 1 1)).run Z6 W=.ok (.string ⟨#[c]⟩) W:=by
 refine run_convert_bytes_back (P:=Z6) W 156 9 5 ⟨b,0,Z8⟩ 1 [c] Tryz.underlying156 Tryz.underlying5 Tryz.underlying9 ?_
 intro j H;obtain rfl:j=0:=by simpa using H
 simpa [Addr.add] using h
theorem rE{X:Z2}{t:TypeId}(h:ZV ((X.alloc (.cells #[v] t)).drew).heap.size ((X.alloc (.cells #[v] t)).drew) u):u.cell? ⟨X.heap.size,0,Z8⟩=Z9 v:=by
 rw[h.cell (p:=⟨X.heap.size,0,Z8⟩) (by show X.heap.size<_;simp)];show (X.alloc (.cells #[v] t)).cell? ⟨X.heap.size,0,Z8⟩=_
 rw[YF _ X.heap.size 0 _ t (0,0) (ZA X _)];rfl
theorem vP(k:Int)(s:Z7)(w:Z2) :
 ZJ Z6 88 #[.int .i64 k,.string s] w fun r w'=>∃ t,r=.returned (.string t)/\Z4 t=Ek.key k (Z4 s)/\ZV w.heap.size w w':=by
 by_cases H:0<=k/\k<=4
 .obtain⟨A,K,B,h⟩:=Ez k H;have o:=ny (w.alloc (.map fe5 5)) w.heap.size k _ _ (ZA w _) h;have z:Ek.isKind k=ZZ:=by unfold Ek.isKind;simp;omega
  unfold cN at o;by_cases j:s.size<=31
  .have C:=AL s j;have D:=lh (Ek.key_yes k (Z4 s) H (by rw[ZO];exact j));have R:=lh C;clear C h H z;generalize x:Ek.letter k=c at o D;clear x;have J:=pu c;have Q:¬ 9223372036854775807<1+s.size:=by omega
   have G:IntKind.i64.wrap (31 - (s.size:Int))=31 - (s.size:Int):=IntWalk.i64_in _ ⟨by omega,by omega⟩;go_enter Tryz.func88,Tryz.ntmps88
   go_wp2_with (go_at_call 74;(with_reducible refine (iC _).mono ?_);rintro _ y ⟨rfl,rfl⟩)
   go_region_law (first|(go_simp;go_at_call 187;(with_reducible refine (R.o _).mono ?_);rintro _ u ⟨t,rfl,E,P,q⟩;have T:=lh E;have i:¬ 9223372036854775807<1+s.size+t.size:=(by omega);have I:=Below.trans (show ZV w.heap.size w _ by exact aB) (q.mono (by simp;try omega));have Z:=I.size;have N:u.cell? ⟨w.heap.size+1,0,Z8⟩=Z9 (.int .u8 (c.toNat:Nat)):=((q.cell (p:=⟨w.heap.size+1,0,Z8⟩) (by show w.heap.size+1<_;simp)).trans (by simp [go_sem]));(first|(have O:u.cell? ⟨w.heap.size+1+1,0,Z8⟩=Z9 (.int .u8 (c.toNat:Nat)):=(by simpa using rE q))|skip);clear E))
   all_goals
    go_wp2
    go_ret
    refine⟨_,rfl,?_,by exact aB⟩
    rw[D.o];unfold Ek.pad;rw[ZO,<-T.o];simp [Z4]
  .have D:=lh (show Ek.key k (Z4 s)=[] by unfold Ek.key;rw[Z0 (by rw[ZO];omega)]);clear h H z;generalize x:Ek.letter k=c at o;clear x;go_enter Tryz.func88,Tryz.ntmps88
   go_wp2_with (go_at_call 74;(with_reducible refine (iC _).mono ?_);rintro _ y ⟨rfl,rfl⟩)
   go_ret
   exact⟨_,rfl,by rw[D.o];rfl,by exact aB⟩
 .have h:=uL k H;have o:=uG (w.alloc (.map fe5 5)) w.heap.size k _ (ZA w _) h sw;have D:=lh (show Ek.key k (Z4 s)=[] by unfold Ek.key Ek.isKind;rw[Z0 (by simp;omega)]);clear h H;go_enter Tryz.func88,Tryz.ntmps88
  go_wp2_with (go_at_call 74;(with_reducible refine (iC _).mono ?_);rintro _ y ⟨rfl,rfl⟩)
  go_ret
  exact⟨_,rfl,by rw[D.o];rfl,by exact aB⟩
section
open Go.ChangeMaps (setBlock)
def wk(k:Z7 × Zi):Z3:=.agg #[.string k.1,.bool k.2]
def wents:Z5 (Z7 × Zi)->Nat->Z5 Ws
 | [],_=>[]
 | k::r,i=>⟨wk k,.bool ZZ,i⟩::wents r (i+1)
def went(K:Z5 (Z7 × Zi)):ZE Ws:=(wents K 0).toArray
theorem rF(k:Z7 × Zi):∀ (K:Z5 (Z7 × Zi)) (i:Nat),wents (K++[k]) i=wents K i++[⟨wk k,.bool ZZ,i+K.length⟩]
 | [],i=>rfl
 | a::r,i=>by rw[Zm,wents,wents,rF k r (i+1),ZK,Zm,Nat.add_assoc,Nat.add_comm 1]
theorem Hi(a b:Z7 × Zi)(w:Z2):(Op.equal 270 (wk a) (wk b)).run Z6 w=.ok (decide (a=b)) w:=by
 obtain⟨A,o⟩:=a;obtain⟨c,q⟩:=b;show (Op.equalIn (9999+1) 270 (.agg #[.string A,.bool o]) (.agg #[.string c,.bool q])).run Z6 w=_
 rw[run_equalIn_struct w 9999 270 _ _ (by simp [Program.fieldsOf,Tryz.underlying270]) (by kernel_rfl)];simp [Program.fieldsOf,Tryz.underlying270,Op.eqFields,go_sem]
 have e:(A.toList=c.toList)=(A=c):=propext ⟨fun h=>by
  have H:=Lib.toList_data A;have j:=Lib.toList_data c;exact Ds.bl_inj (H.symm.trans (h.trans j)),fun h=>by rw[h]⟩
 by_cases H:A=c
 .subst H;by_cases j:o=q <;> simp [j]
 .rw[Z0 (fun h=>H (e ▸ h))];simp [H]
theorem pC(k:Z7 × Zi)(w:Z2):∀ (K:Z5 (Z7 × Zi)) (i j:Nat),
 (k ∉ K->(Wz 270 (wk k) (wents K i) j).run Z6 w=.ok Z8 w)/\(k∈K->∃ n,(Wz 270 (wk k) (wents K i) j).run Z6 w=.ok (Z9 (n,.bool ZZ)) w)
 | [],i,j=>⟨fun _=>by simp [wents,Wz],fun h=>by simp at h⟩
 | a::r,i,j=>by
   have I:=pC k w r (i+1) (j+1);have c:=Hi k a w;by_cases h:k=a
   .rw[ZL h] at c;refine⟨fun H=>absurd (by rw[h];exact List.mem_cons_self) H,fun _=>⟨j,by simp [wents,Wz,c]⟩⟩
   .rw[ZF h] at c;refine⟨fun H=>?_,fun H=>?_⟩
    .have:=I.1 (fun q=>H (List.mem_cons_of_mem _ q));simp [wents,Wz,c,this]
    .obtain⟨n,o⟩:=I.2 ((List.mem_cons.1 H).resolve_left h);exact⟨n,by simp [wents,Wz,c,o]⟩
theorem wG(b:Zi)(w:Z2):(Instr.checkKey b 10000 270 (wk k)).run Z6 w=.ok () w:=by
 obtain⟨k1,K⟩:=k;cases b <;> kernel_rfl
theorem xm(E:Z5 Ws)(w:Z2):(Instr.findKey 270 (wk k) E).run Z6 w=(Wz 270 (wk k) E).run Z6 w :=
 run_findKey_eq w (by rw[Tryz.underlying270]) _ _
theorem wR(m n:Nat)(K:Z5 (Z7 × Zi))(k:Z7 × Zi)(c:w.heap[m]?=Z9 (.map (went K) n)) :
 (X6 268 (.map (Z9 m)) (wk k) ZW).run Z6 w=.ok (.bool (Vp.among k K)) w:=by
 have h:=fun b=>wG k b w
 have q:=xm k (wents K 0) w;have r:=pC k w K 0 0;cases o:Vp.among k K
 rotate_left
 .obtain⟨j,H⟩:=r.2 ((oF k K).1 o);simp [X6,XK Tryz.underlying268,XC c,h,went,q,H,Result.andThen]
 .have H:=r.1 (td k K o);simp [X6,XK Tryz.underlying268,XC c,h,went,q,H,Result.andThen]
theorem GW(m:Nat)(K:Z5 (Z7 × Zi))(k:Z7 × Zi)(H:w.heap[m]?=Z9 (.map (went K) K.length))(j:Vp.among k K=ZW) :
 (Xr 268 (.map (Z9 m)) (wk k) (.bool ZZ)).run Z6 w=.ok () (setBlock w m (.map (went (K++[k])) (K.length+1))):=by
 have h:=wG k ZW w;have o:=xm k (wents K 0) w;have c:=(pC k w K 0 0).1 (td k K j);simp [Xr,XK Tryz.underlying268,XC H,h,went,o,c,MapKept.run_setObj_map _ H,Result.andThen,setBlock,rF]
theorem nZ(m:Nat)(o:Obj)(h:m<w.heap.size):(setBlock w m o).heap[m]?=Z9 o:=by simp [setBlock,h]
theorem kP(m k:Nat)(o:Obj)(h:k≠m):(setBlock w m o).heap[k]?=w.heap[k]?:=by
 simp only[setBlock,Array.getElem?_setIfInBounds]
 rw[Z0 (fun e=>h e.symm)]
theorem qU{w:Z2}{m:Nat}(h:ZV B w w')(c:B<=m)(o:Obj):ZV B w (setBlock w' m o) :=
 ⟨h.os,h.tape,h.output,by simpa [setBlock] using h.size,fun k H=>(kP w' m k o (by omega)).trans (h.block k H)⟩
theorem pE(g:Z5 Gr)(k:Nat)(H:k<g.length)(h:Vp.grAt g k=ZW):Vp.grs g=ZW:=by
 rw[YJ];intro e;rw[mD e k H] at h;cases h
theorem EM(g:Z5 Gr)(h:∀ j,j<g.length->Vp.grAt g j=ZZ):Vp.grs g=ZZ:=by
 unfold Vp.grs Ds.rest;simpa using h
theorem Cq(g:Z5 Gr)(k:Nat)(h:k<g.length):Vp.grAt g k=(VZ (Z4 g[k].1)&&(Xk 0 3 [g[k].2.2]&&!Vp.among (VP g[k]) ((g.take k).map VP))):=by
 unfold Vp.grAt;rw[ZN h]
def PV(w wr:Z2)(cs:ZE Z3)(g:Z5 Gr)(k:Nat):Prop :=
 ZV w.heap.size w wr/\row wr w.heap.size=cs/\wr.heap[w.heap.size+1]?=Z9 (.map (went ((g.take k).map VP)) ((g.take k).map VP).length)/\w.heap.size+2<=wr.heap.size
theorem mH{w:Z2}{G K:ZE Z3}{t T:TypeId}{g:Z5 Gr}{k:Nat}(h:PV w wr cs g k)(_:0<cs.size)(H:ZV ((wr.alloc (.cells G t)).alloc (.cells K T)).heap.size ((wr.alloc (.cells G t)).alloc (.cells K T)) u) :
 PV w u cs g k/\(∀ i v,G[i]?=Z9 v->u.cell? ⟨wr.heap.size,i,Z8⟩=Z9 v)/\(∀ i v,K[i]?=Z9 v->u.cell? ⟨wr.heap.size+1,i,Z8⟩=Z9 v)/\wr.heap.size+2<=u.heap.size:=by
 obtain⟨c,x,A,D⟩:=h;have C:(wr.alloc (.cells G t)).heap.size=wr.heap.size+1:=by simp
 have S:((wr.alloc (.cells G t)).alloc (.cells K T)).heap.size=wr.heap.size+2:=by simp
 rw[S] at H;have z:=H.size;rw[S] at z
 have q:∀ j,j<wr.heap.size->u.heap[j]?=wr.heap[j]?:=fun j o =>
  (H.block j (by omega)).trans ((Zs _ _ (by omega)).trans (Zs _ _ o))
 refine⟨⟨⟨H.os.trans c.os,H.tape.trans c.tape,H.output.trans c.output,by have:=c.size;omega,fun j o=>(q j (by omega)).trans (c.block j o)⟩,?_,(q _ (by omega)).trans A,by omega⟩,fun i v r=>?_,fun i v r=>?_,z⟩
 .unfold row at *;rw[q _ (by omega)];exact x
 .rw[H.cell (p:=⟨wr.heap.size,i,Z8⟩) (by show wr.heap.size<_;omega),Z1 (a:=⟨wr.heap.size,i,Z8⟩) (Zs _ _ (by show wr.heap.size<_;omega)),YF _ wr.heap.size i G t (0,0) (ZA wr _)];exact r
 .have:=YF _ _ i K T (0,0) (ZA (wr.alloc (.cells G t)) (.cells K T));rw[C] at this;rw[H.cell (p:=⟨wr.heap.size+1,i,Z8⟩) (by show wr.heap.size+1<_;omega),this];exact r
theorem Es{w:Z2}{g:Z5 Gr}{k:Nat}(h:PV w u cs g k)(q:k<g.length)(o:Obj) :
 PV w (setBlock (u.alloc o) (w.heap.size+1) (.map (went ((g.take k).map VP++[VP g[k]])) (((g.take k).map VP).length+1))) cs g (k+1):=by
 obtain⟨H,c,r,t⟩:=h
 have j:(g.take (k+1)).map VP=(g.take k).map VP++[VP g[k]]:=by
  rw[ZB q,List.map_append];rfl
 refine⟨qU (H.alloc (by omega) o) (by omega) _,?_,?_,by simp [setBlock];omega⟩
 .unfold row at *;rw[kP _ _ _ _ (by omega),Zs _ _ (by omega)];exact c
 .rw[nZ _ _ _ (by simp;omega),j,ZQ];rfl
theorem yj{o:Obj}{a i:Nat}(H:ZV (wr.alloc o).heap.size (wr.alloc o) m)(h:wr.cell? ⟨a,i,Z8⟩=Z9 v)(ha:a<wr.heap.size):m.cell? ⟨a,i,Z8⟩=Z9 v:=by
 rw[H.cell (p:=⟨a,i,Z8⟩) (by show a<_;simp;omega),Z1 (a:=⟨a,i,Z8⟩) (Zs wr o ha)];exact h
attribute [local go_sem] ap aq bN cK cC
theorem Fj(g:Z5 Gr)(w:Z2)(hm:MaxL w)(hg:GS w a g) :
 ZJ Z6 175 #[.agg (e.vals d a)] w fun r w'=>r=.returned (.bool (Vp.prof e g))/\ZV w.heap.size w w':=by
 obtain⟨U,Z,rfl,hz,A⟩:=hg;have hw:=fun (s:Z7) (W:Z2) (h:ZV w.heap.size w W)=>mS s W (hm.below h)
 have hr:=fun (n:Int) (b:Nat) (W:Z2) h=>kR 0 3 n b W h
 have HW:=lh hw;have HR:=lh hr;have HC:=lh A;clear hw hr A;have a9:=run_makeMap (P:=Z6) 268 (w.alloc (.cells (e.vals d (.slice U g.length Z)) 29));go_enter Tryz.func175,Tryz.ntmps175
 go_wp2_with fail
 go_loopw [11] (fun i wr=>∃ k:Nat,k<=g.length/\i=.int .i64 k/\PV w wr (e.vals d (.slice U g.length Z)) g k/\∀ j,j<k->Vp.grAt g j=ZZ) (fun i _=>g.length - (Y4 i).toNat)
 case atStart =>
  refine⟨0,Y7 _,rfl,⟨by exact aB,?_,?_,by simp⟩,fun j h=>by omega⟩
  .exact fA (t:=29) (fr:=(0,0)) ((Zs _ _ (by simp)).trans (ZA w _))
  .have:=ZA (w.alloc (.cells (e.vals d (.slice U g.length Z)) 29)) (.map #[] 0);show _=Z9 (Obj.map #[] 0)
   simpa using this
 case round =>
  obtain⟨k,hk,rfl,V,N⟩:=hrel;have HA:=lh N;clear N;have B0:=V.1;have z0:=B0.size;have z2:=V.2.2.2;have K:=lh V;by_cases C:k<g.length
  .obtain⟨ab,ao,rfl,R,a0⟩:=HC.o (by omega);obtain⟨p0,p1,p2⟩:=a0 k C;have q0:=(B0.cell (p:=⟨ab,ao+k*3,Z8⟩) R).trans p0;have q1:=(B0.cell (p:=⟨ab,ao+k*3+1,Z8⟩) R).trans p1;have q2:=(B0.cell (p:=⟨ab,ao+k*3+2,Z8⟩) R).trans p2;have S:=Cq g k C;obtain⟨Gk,hG⟩:∃ G,G=g[k]:=⟨_,rfl⟩;rw[<-hG] at S q0 q1 q2;have a3:=lh hG;clear hG V p0 p1 p2 a0;obtain⟨E,J,gl⟩:=Gk;simp only at S q0 q1 q2
   obtain⟨c,hc⟩:∃ c,c=Vp.among (E,J) ((g.take k).map VP):=⟨_,rfl⟩;rw[show VP (E,J,gl)=(E,J) from rfl,<-hc] at S;have O:=lh hc;clear hc;have T:=HW.o E;have hy:=HR.o gl;generalize VZ (Z4 E)=x at S T;generalize Xk 0 3 [gl]=y at S hy;have X:=lh T;have Y:=lh hy;have HV:=lh S;clear T hy S;cases x
   .go_wp2_with (first|(go_at_call 165;(with_reducible refine (X.o _ (by exact aB)).mono ?_);rintro _ u ⟨rfl,H⟩;have z:=mH K.o (by simp [ah]) H;have d2:=z.2.1 2 _ rfl;clear H))
    go_ret
    exact⟨aF (by unfold Vp.prof;rw[pE g k C (by rw[HV.o];rfl)];rfl),z.1.1⟩
   cases y
   .go_wp2_with (first|(go_at_call 165;(with_reducible refine (X.o _ (by exact aB)).mono ?_);rintro _ u ⟨rfl,H⟩;have z:=mH K.o (by simp [ah]) H;have d2:=z.2.1 2 _ rfl;have B2:=z.1.1;have zz:=z.2.2.2;clear H)|((with_reducible refine (Y.o _ _ (by simp [go_sem])).mono ?_);rintro _ w3 ⟨rfl,rfl⟩))
    go_ret
    exact⟨aF (by unfold Vp.prof;rw[pE g k C (by rw[HV.o];rfl)];rfl),by exact aB⟩
   cases c
   .have I:∀ W:Z2,W.heap[w.heap.size+1]?=Z9 (.map (went ((g.take k).map VP)) ((g.take k).map VP).length)->(X6 268 (.map (Z9 (w.heap.size+1))) (.agg #[.string E,.bool J]) ZW).run Z6 W=.ok (.bool ZW) W:=fun W h=>by have q:=wR W _ _ _ (E,J) h;rw[<-O.o] at q;exact q
    have a2:∀ W:Z2,W.heap[w.heap.size+1]?=Z9 (.map (went ((g.take k).map VP)) ((g.take k).map VP).length)->(Xr 268 (.map (Z9 (w.heap.size+1))) (.agg #[.string E,.bool J]) (.bool ZZ)).run Z6 W=.ok () (setBlock W (w.heap.size+1) (.map (went ((g.take k).map VP++[(E,J)])) (((g.take k).map VP).length+1))):=fun W h=>GW W _ _ (E,J) h O.o.symm
    have Q:=lh I;have a4:=lh a2;clear I a2;go_wp2_with (first|(go_at_call 165;(with_reducible refine (X.o _ (by exact aB)).mono ?_);rintro _ u ⟨rfl,H⟩;have z:=mH K.o (by simp [ah]) H;have d2:=z.2.1 2 _ rfl;have B2:=z.1.1;have zz:=z.2.2.2;have e0:=z.2.2.1 0 _ rfl;have e1:=z.2.2.1 1 _ rfl;have D:=z.1.2.2.1;have hl:=(fun o:Obj=>Q.o (u.alloc o) ((Zs u o (by omega)).trans D));have hu:=(fun o:Obj=>a4.o (u.alloc o) ((Zs u o (by omega)).trans D));have a6:wr.heap.size<u.heap.size:=(by omega);have a7:wr.heap.size+1<u.heap.size:=(by omega);clear H D)|((with_reducible refine (Y.o _ _ (by simp [go_sem])).mono ?_);rintro _ w3 ⟨rfl,rfl⟩))
    go_roundw
    case rel =>
     refine⟨k+1,by omega,by go_num,?_,?_⟩
     .have:=Es z.1 C (.cells #[.int .i64 gl] 3);rw[<-a3.o,show ((g.take k).map VP).length=k by rw[Zq,YH];omega,List.map_take] at this;exact this
     .intro j hj;by_cases e:j=k
      .subst e;rw[HV.o];rfl
      .exact HA.o j (by omega)
    case measure=>simp [Y4];omega
   .have I:∀ W:Z2,W.heap[w.heap.size+1]?=Z9 (.map (went ((g.take k).map VP)) ((g.take k).map VP).length)->(X6 268 (.map (Z9 (w.heap.size+1))) (.agg #[.string E,.bool J]) ZW).run Z6 W=.ok (.bool ZZ) W:=fun W h=>by have q:=wR W _ _ _ (E,J) h;rw[<-O.o] at q;exact q
    have Q:=lh I;clear I;go_wp2_with (first|(go_at_call 165;(with_reducible refine (X.o _ (by exact aB)).mono ?_);rintro _ u ⟨rfl,H⟩;have z:=mH K.o (by simp [ah]) H;have d2:=z.2.1 2 _ rfl;have B2:=z.1.1;have zz:=z.2.2.2;have e0:=z.2.2.1 0 _ rfl;have e1:=z.2.2.1 1 _ rfl;have D:=z.1.2.2.1;have hl:=(fun o:Obj=>Q.o (u.alloc o) ((Zs u o (by omega)).trans D));have a6:wr.heap.size<u.heap.size:=(by omega);have a7:wr.heap.size+1<u.heap.size:=(by omega);clear H D)|((with_reducible refine (Y.o _ _ (by simp [go_sem])).mono ?_);rintro _ w3 ⟨rfl,rfl⟩))
    go_ret
    exact⟨aF (by unfold Vp.prof;rw[pE g k C (by rw[HV.o];rfl)];rfl),by exact aB⟩
  .have R0:=V.2.1;have ad:=ae R0 28 _ (bN e d (.slice U g.length Z));have af:=ae R0 31 _ (cK e d (.slice U g.length Z));have a5:=ae R0 32 _ (cC e d (.slice U g.length Z));have ag:w.heap.size<wr.heap.size:=by omega
   have al:w.heap.size≠wr.heap.size:=by omega
   have a1:Vp.grs g=ZZ:=EM g fun j hj=>HA.o j (by omega)
   have T:=HR.o e.lev;have hw:=HW.o e.owner
   have hD:Vp.prof e g=(Xk 0 3 [e.lev]&&(((Z4 e.owner).isEmpty || VZ (Z4 e.owner))&&decide (g.length<=8))):=by
    unfold Vp.prof Vp.own;rw[a1,Yj]
   generalize Xk 0 3 [e.lev]=x at T hD;generalize VZ (Z4 e.owner)=y at hw hD;have X:=lh T;have Y:=lh hw;have HD:=lh hD;clear T hw a1 V R0 hD;cases x
   .go_wp2_with ((with_reducible refine (X.o _ _ (by simp [go_sem])).mono ?_);rintro _ w3 ⟨rfl,rfl⟩)
    go_ret
    exact⟨aF (by rw[HD.o];rfl),by exact aB⟩
   by_cases h0:e.owner.size=0
   .have e0:e.owner.toList.isEmpty=ZZ:=ju _ h0;have HE:=lh (show (Z4 e.owner).isEmpty=ZZ by rw[X1,ZO];exact h0);clear h0;go_wp2_with ((with_reducible refine (X.o _ _ (by simp [go_sem])).mono ?_);rintro _ w3 ⟨rfl,rfl⟩)
    go_ret
    exact⟨aF (by rw[HD.o,HE.o,Bool.true_or,Yj,Yj,Zf,ZU,ZU];omega),by exact aB⟩
   .have e0:e.owner.toList.isEmpty=ZW:=gG _ (by omega);have HE:=lh (show (Z4 e.owner).isEmpty=ZW by rw[YJ,Ne,X1,ZO];exact h0);clear h0;cases y
    .go_wp2_with (first|((with_reducible refine (X.o _ _ (by simp [go_sem])).mono ?_);rintro _ w3 ⟨rfl,rfl⟩)|(go_at_call 165;(with_reducible refine (Y.o _ (by exact aB)).mono ?_);rintro _ m ⟨rfl,H⟩;have B4:=Below.trans (show ZV w.heap.size w _ by exact aB) (H.mono (by simp;omega));clear H))
     go_ret
     exact⟨aF (by rw[HD.o,HE.o];rfl),B4⟩
    .go_wp2_with (first|((with_reducible refine (X.o _ _ (by simp [go_sem])).mono ?_);rintro _ w3 ⟨rfl,rfl⟩)|(go_at_call 165;(with_reducible refine (Y.o _ (by exact aB)).mono ?_);rintro _ m ⟨rfl,H⟩;have a8:=yj H a5 (by omega);have B4:=Below.trans (show ZV w.heap.size w _ by exact aB) (H.mono (by simp;omega));clear H))
     go_ret
     exact⟨aF (by rw[HD.o,HE.o,Bool.false_or,Yj,Yj,Zf,ZU,ZU];omega),B4⟩
end
section
theorem oA:cx 32:=enters_of Tryz.func32 (by kernel_rfl) rfl
theorem pA:cx 89:=enters_of Tryz.func89 (by kernel_rfl) rfl
theorem oV:cx 156:=enters_of Tryz.func156 (by kernel_rfl) rfl
theorem sk:cx 157:=enters_of Tryz.func157 (by kernel_rfl) rfl
theorem oW:cx 174:=enters_of Tryz.func174 (by kernel_rfl) rfl
theorem sm:cx 175:=enters_of Tryz.func175 (by kernel_rfl) rfl
theorem uM(c b g:Nat)(s:Z5 ZP × Nat)(e:En)(a:Z3)(w:Z2)(h:RS w c b g s (e.vals (.slice Z8 0 0) a))(j:s.1.length<=1000) :
 ZJ Z6 156 #[.pointer (Z9 ⟨c,0,Z8⟩),.pointer (Z9 ⟨g,0,Z8⟩)] w fun r w'=>r=.returned (.tuple #[])/\∃ A,RS w' c b g (dR e s).2.2 ((dR e s).1.vals A a)/\(IS w' A (dR e s).2.1/\∀ x,A.ownBlock=Z9 x->w.heap.size<=x)/\G2 w w' b g:=by
 rcases YC (cntv 4 (clip (YV (XJ (sq (X5 200 (X5 200 (YV (XJ (sq s 14)).2).2).2).2 2)).2).1)) with H|H
 .exact Cj c b g s e a w h j (lh H)
 .exact Ck c b g s e a w h j H
theorem ve(I:IS w d i)(h:DatOk e i):Writes w 156 (e.vals d a) (dW e i):=by
 intro W c g j r _ q;have this:=EE c g [] e d a i w W I j r q (fun x H=>by have:=h.n x H;omega) e.cls.toNat e.cr.toNat e.ex.toNat e.used.toNat (Y6 h.c.1).symm (Y6 h.cr.1).symm (Y6 h.ex.1).symm (Y6 h.u.1).symm (by have A:=h.c;have t:=h.cr;have z:=h.ex;have C:=h.u;omega) (by have:=h.v;omega) (by have:=h.o;omega) h.nl4 (fun x H=>by have:=h.nl x H;omega) (by simp);rw[YM] at this;exact this
theorem vf(G:Z5 Gr)(w:Z2)(I:GS w a G)(h:ProfOk e G):Writes w 174 (e.vals d a) (dH e G):=by
 intro W c g H o _ j;have this:=EG c g [] e d a G w W I H o j h (by simp);rw[YM] at this;exact this
theorem IS.keep{l:Z5 Int}(h:IS y v l)(b:Nat)(E:∀ x,v.ownBlock=Z9 x->b<=x)(G:y.heap.size<=u.heap.size)(D:∀ k,b<=k->k<y.heap.size->u.heap[k]?=y.heap[k]?):IS u v l:=by
 obtain⟨a,c,rfl,t,z⟩:=h;refine⟨a,c,rfl,t,fun r=>?_⟩
 obtain⟨j,o,rfl,H,C⟩:=z r;have A:=E j rfl;exact⟨j,o,rfl,ZY H G,fun k q=>(Z1 (a:=⟨j,o+k,Z8⟩) (D j A H)).trans (C k q)⟩
theorem GS.keep{l:Z5 Gr}(h:GS y v l)(b:Nat)(G:∀ x,v.ownBlock=Z9 x->b<=x)(I:y.heap.size<=u.heap.size)(E:∀ k,b<=k->k<y.heap.size->u.heap[k]?=y.heap[k]?):GS u v l:=by
 obtain⟨a,c,rfl,A,C⟩:=h;refine⟨a,c,rfl,A,fun z=>?_⟩
 obtain⟨j,o,rfl,t,r⟩:=C z;have D:=G j rfl;have q:=fun i=>Z1 (w:=y) (w':=u) (a:=⟨j,i,Z8⟩) (E j D t)
 exact⟨j,o,rfl,ZY t I,fun k H=>⟨(q _).trans (r k H).1,(q _).trans (r k H).2.1,(q _).trans (r k H).2.2⟩⟩
theorem aD{w:Z2}{l:Z5 Int}(h:IS w v l):one v=ZZ:=by obtain⟨a,c,rfl,_⟩:=h;rfl
theorem aE{w:Z2}{l:Z5 Gr}(h:GS w v l):one v=ZZ:=by obtain⟨a,c,rfl,_⟩:=h;rfl
def PD(e:En)(l:Z5 Int)(b:Nat)(w:Z2)(cs:ZE Z3):Prop:=∃ d,cs=(fg e).vals d (.slice Z8 0 0)/\IS w d l/\∀ x,d.ownBlock=Z9 x->b<=x
theorem PD.stable:Stable (PD e l):=fun b _ _ _ ⟨d,H,c,h⟩ o j=>⟨d,H,c.keep b h o j,h⟩
def PP(e:En)(l:Z5 Gr)(b:Nat)(w:Z2)(cs:ZE Z3):Prop:=∃ a,cs=(fG e).vals (.slice Z8 0 0) a/\GS w a l/\∀ x,a.ownBlock=Z9 x->b<=x
theorem PP.stable(l:Z5 Gr):Stable (PP e l):=fun b _ _ _ ⟨d,H,c,h⟩ o j=>⟨d,H,c.keep b h o j,h⟩
theorem DQ(h:DatOk e l)(o:(dW e l).length<=1000):Reads w 156 (dW e l) (zcells e.kind e.name) ([],0) (PD e l):=by
 intro W c b g _ _ _ _ R;refine (uM c b g (dW e l,0) ({ En.zero with kind:=e.kind,name:=e.name }:En) _ W R o).mono ?_
 rintro r w' ⟨rfl,A,H,I,G⟩;have j:=uf e l [] h;rw[YL] at j;rw[j] at H I;exact⟨rfl,G,_,H,ah _ _ _,ay _ _ _ (aD I.1) rfl,A,rfl,I.1,I.2⟩
theorem DS(l:Z5 Gr)(w:Z2)(h:ProfOk e l)(q:(dH e l).length<=1000):Reads w 174 (dH e l) (zcells e.kind e.name) ([],0) (PP e l):=by
 intro W c b g _ _ _ _ R;refine (uN c b g (dH e l,0) ({ En.zero with kind:=e.kind,name:=e.name }:En) _ W R q).mono ?_
 rintro r w' ⟨rfl,G,H,I,o⟩;have j:=ug e l [] h;rw[YL] at j;rw[j] at H I;exact⟨rfl,o,_,H,ah _ _ _,ay _ _ _ rfl (aE I.1),G,rfl,I.1,I.2⟩
theorem zG(h:DatOk e l):(dW e l).length<=1000:=by
 have A:=lr _ (jr _ h.n);have j:=lr _ (jr _ h.nl);rw[Zq] at A j;have H:(bK e).length=14:=rfl;have E:=h.nl4;have Q:=h.c;have G:=h.v;have I:=h.o;have J:=h.cr;have K:=h.ex;have N:=h.u;have C:=cZ e.cls.toNat (by omega);have q:=cZ e.vol.size (by omega);have r:=cZ e.own.size (by omega);have t:=cZ e.cr.toNat (by omega);have x:=cZ e.ex.toNat (by omega);have z:=cZ e.used.toNat (by omega);have D:=cZ l.length (by omega);unfold dW iG;simp only[encs,ZQ,ZK,YQ,ZO]
 omega
theorem CZ(G:Z5 Gr)(w:Z2)(I:e.kind=0)(x:MaxL w)(T:Tab w)(c:IS w d i)(D:GS w a G) :
 ZJ Z6 63 #[.agg (e.vals d a)] w fun r w'=>r=.returned (.bool (fL e i G))/\ZV w.heap.size w w':=by
 have o:Yn (.int .i64) (.int .i64 e.kind) fe5.toList 0=Z9 (Z9 (0,.agg (cN (68:Nat) 32 156 157))):=by rw[I];rfl
 have h:=fun W (b:ZV w.heap.size w W)=>ez e.name W (x.below b)
 have H:=fun W (b:ZV w.heap.size w W)=>Fg e d a i W (x.below b) (T.below b) (c.below b)
 unfold fL;cases z:Ds.name (Z4 e.name)
 .rw[z] at h;exact lA 68 _ _ _ 0 e d a w oA o h
 .rw[z] at h;cases q:Vp.dat e i
  .rw[q] at H;exact lf 68 _ _ _ 0 e d a w oA sk o h H
  .rw[q] at H;have j:=(kx e i q).1;refine lz 68 _ _ _ 0 e d a (dW e i) ([],0) _ _ w oA sk oV o h H (fun W b=>ve e d a i W (c.below b) j) (fun W _=>DQ e i W j (zG e i j)) (PD.stable e i) rfl ?_
   rintro W b C t ⟨A,rfl,E,_⟩;exact lD (fg e) e _ _ d a i i [] G W E (c.below t) (GS.nil W) (D.below t)
theorem Dd(G:Z5 Gr)(w:Z2)(J:e.kind=4)(z:MaxL w)(E:IS w d i)(j:GS w a G) :
 ZJ Z6 63 #[.agg (e.vals d a)] w fun r w'=>r=.returned (.bool (gD e i G))/\ZV w.heap.size w w':=by
 have q:Yn (.int .i64) (.int .i64 e.kind) fe5.toList 0=Z9 (Z9 (4,.agg (cN (80:Nat) 89 174 175))):=by rw[J];rfl
 have H:=fun W (b:ZV w.heap.size w W)=>Gu e.name W (z.below b)
 have c:=fun W (b:ZV w.heap.size w W)=>Fj e d a G W (z.below b) (j.below b)
 unfold gD;cases A:Ds.pat (Z4 e.name)
 .rw[A] at H;exact lA 80 _ _ _ 4 e d a w pA q H
 .rw[A] at H;cases t:Vp.prof e G
  .rw[t] at c;exact lf 80 _ _ _ 4 e d a w pA sm q H c
  .rw[t] at c;have h:=km e G t
   have o:(dH e G).length<=1000:=by
    have Z:=cZ e.lev.toNat (by have:=h.1.l;omega);have K:=cZ e.owner.size (by have:=h.2.2.1;omega);have N:=cZ G.length (by have:=h.1.g8;omega);have O:=pF G h.2.2.2;have P:=h.1.g8;have Q:=h.2.2.1;unfold dH;simp only[ZQ,ZO]
    omega
   refine lz 80 _ _ _ 4 e d a (dH e G) ([],0) _ _ w pA sm oW q H c (fun W b=>vf e d a G W (j.below b) h.1) (fun W _=>DS e G W h.1 o) (PP.stable e G) rfl ?_
   rintro W b C x ⟨D,rfl,I,_⟩;exact lD (fG e) e _ _ d a [] i G G W (IS.nil W) (E.below x) I (j.below x)
attribute [local go_sem ↓] aZ bf
attribute [local go_sem] aS aH aK aT ak aI aw az aM ap aq ah aQ aL aP aO aR aY aW bD
theorem qj(k:Int)(h:Yn (.int .i64) (.int .i64 k) fe5.toList 0=Z9 Z8)(W:Z2)(m:Nat)(H:W.heap[m]?=Z9 (.map fe5 5)) :
 (X6 138 (.map (Z9 m)) (.int .i64 k) ZZ).run Z6 W=.ok (.tuple #[.agg #[.int .u8 0,.nilFunc,.nilFunc,.nilFunc],.bool ZW]) W:=uG W m k _ H h sw
theorem Fi(H:¬ (0<=e.kind/\e.kind<=4)) :
 ZJ Z6 63 #[.agg (e.vals d a)] w fun r w'=>r=.returned (.bool ZW)/\ZV w.heap.size w w':=by
 have h:=uL e.kind H;clear H;have S:(w.alloc (.cells (e.vals d a) 29)).heap.size=w.heap.size+1:=by simp
 have c:(X6 138 (.map (Z9 (w.heap.size+1))) (.int .i64 e.kind) ZZ).run Z6 ((w.alloc (.cells (e.vals d a) 29)).alloc (.map fe5 5)).drew=.ok (.tuple #[.agg #[.int .u8 0,.nilFunc,.nilFunc,.nilFunc],.bool ZW]) ((w.alloc (.cells (e.vals d a) 29)).alloc (.map fe5 5)).drew:=by
  refine qj e.kind h _ _ ?_
  have:=ZA (w.alloc (.cells (e.vals d a) 29)) (.map fe5 5);rw[S] at this;exact this
 have j:∀ o,(X6 138 (.map (Z9 (w.heap.size+1))) (.int .i64 e.kind) ZZ).run Z6 (((w.alloc (.cells (e.vals d a) 29)).alloc (.map fe5 5)).alloc o).drew=.ok (.tuple #[.agg #[.int .u8 0,.nilFunc,.nilFunc,.nilFunc],.bool ZW]) (((w.alloc (.cells (e.vals d a) 29)).alloc (.map fe5 5)).alloc o).drew:=fun o=>by
  refine qj e.kind h _ _ ?_
  have:=ZA (w.alloc (.cells (e.vals d a) 29)) (.map fe5 5);rw[S] at this;exact (Zs ((w.alloc (.cells (e.vals d a) 29)).alloc (.map fe5 5)) o (by simp)).trans this
 have q:∀ o,(X6 138 (.map (Z9 (w.heap.size+1+1))) (.int .i64 e.kind) ZZ).run Z6 (((w.alloc (.cells (e.vals d a) 29)).alloc o).alloc (.map fe5 5)).drew=.ok (.tuple #[.agg #[.int .u8 0,.nilFunc,.nilFunc,.nilFunc],.bool ZW]) (((w.alloc (.cells (e.vals d a) 29)).alloc o).alloc (.map fe5 5)).drew:=fun o=>by
  refine qj e.kind h _ _ ?_
  have t:((w.alloc (.cells (e.vals d a) 29)).alloc o).heap.size=w.heap.size+1+1:=by simp
  have:=ZA ((w.alloc (.cells (e.vals d a) 29)).alloc o) (.map fe5 5);rw[t] at this;exact this
 clear h S;go_enter Tryz.func63,Tryz.ntmps63
 go_upto_region 1 with fail
 go_cut [3,4] (fun _ T W=>T=.bool ZW/\ZV w.heap.size w W)
 case first =>
  go_region_law (first|(go_simp;go_at_call 74;(with_reducible refine (iC _).mono ?_);rintro _ y ⟨rfl,rfl⟩))
  all_goals
   go_wp2_with fail
   go_meet
   exact⟨rfl,by exact aB⟩
 case rest =>
  obtain⟨rfl,B⟩:=hcut;go_wp2_with fail
  go_ret
  exact⟨rfl,B⟩
theorem lN(G:Z5 Gr)(w:Z2)(c:MaxL w)(T:Tab w)(z:e.name.size<=1000)(h:IS w d i)(H:GS w a G) :
 ZJ Z6 63 #[.agg (e.vals d a)] w fun r w'=>r=.returned (.bool (aA (e,i,G)))/\ZV w.heap.size w w':=by
 unfold aA;simp only
 by_cases k0:e.kind=0
 .rw[ZX k0];exact CZ e d a i G w k0 c T h H
 rw[Z0 k0];by_cases k1:e.kind=1
 .rw[ZX k1];exact Da e d a i G w k1 c h H
 rw[Z0 k1];by_cases K:e.kind=2
 .rw[ZX K];exact Db e d a i G w K c z h H
 rw[Z0 K];by_cases j:e.kind=3
 .rw[ZX j];exact Dc e d a i G w j c h H
 rw[Z0 j];by_cases o:e.kind=4
 .rw[ZX o];exact Dd e d a i G w o c h H
 rw[Z0 o];exact Fi e d a w (by omega)
end
section
attribute [local go_sem ↓ high] fe mI
attribute [local go_sem] fx aH ak aI aw az aM ah fp ap aq cf cM df dc ef bN cB dv cK cC
end
end Go.Proofs.YtnkjliahpeebjaaGreatDoor
