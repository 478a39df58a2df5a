/- Catalogs. -/
import Derived.Test.YtnkjliahpeebjaaGreatDoorVaE
import Derived.Test.YtnkjliahpeebjaaGreatDoorFoF
set_option maxRecDepth 8000
set_option maxHeartbeats 1600000
open Option renaming some->Z9,none->Z7
open Go.Proofs.Tryz renaming prog->Z8
open _root_ renaming ByteArray->Z6,List->Z3,if_neg->ZX,decide_eq_true_eq->ZW,if_pos->ZT,beq_eq_false_iff_ne->ZS,UInt8->ZP,decide_eq_true->ZO,decide_eq_false->ZN,Array->Zz,Bool->Zk
open Go.Proofs.YtnkjliahpeebjaaGreatDoor.Ds renaming bl->Z5,bl_length->Z0
open Go.RowKit renaming Below->Z4,intOf->Zq
open Bool renaming false->Z2,true->ZZ,eq_iff_iff->Zr,true_and->Zf,eq_false_iff->Yz
open Go renaming Value->Z1,World->ZY,Calls->ZJ,heap_alloc_new->Zu,heap_alloc_old->Zl,cell_of_row->YH,run_underlying->Xm,MapEntry->VI
open Nat renaming le_refl->ZV,lt_of_lt_of_le->ZH,le_trans->ZE,zero_le->Zc,eq_zero_or_pos->Yr,zero_add->Yj
open Go.World renaming cell?_of_block->ZU,frozen?_of_block->Ze
open List renaming length_append->ZM,take_succ_eq_append_getElem->ZK,getElem?_eq_getElem->ZF,take_of_length_le->ZD,length_cons->Zx,length_map->Zt,append_assoc->Zs,cons_append->Zp,getD_eq_getElem?_getD->Zn,getElem_mem->YT,nil_append->YP,getElem?_append_right->YG,length_singleton->YE,length_take->YD,append_nil->Yu,length_nil->Yt,isEmpty_iff_length_eq_zero->Yk,getElem?_eq_none->XZ,replicate->VT
open Go.Proofs.YtnkjliahpeebjaaGreatDoor.Rd renaming num->Y2,txt->X5,boo->X4,txt_len->Wy,num_len->VV
open Int renaming toNat_of_nonneg->YX
open Go.Instr renaming findNow->X0,lookup->XG,mapUpdate->WQ,findAsking->V6
open Go.Proofs.YtnkjliahpeebjaaGreatDoor.Vp renaming rng->Xt,gk->Wk,word->VK
open Go.MapKept renaming run_getObj_map->Xf
namespace Go.Proofs.YtnkjliahpeebjaaGreatDoor
open Go.RowKit
variable(L:Z3 Gr)(s:Z6)(e:En){u wr m f w':ZY}{v:Z1}(k:Z6 × Zk)(d gr:Z1)(a l:Z3 Int){B n g p b:Nat}{cs:Zz Z1}{F:Nat->Z1}(w:ZY){q st':Z3 ZP × Nat}
def GB(w:ZY)(A o:Nat)(g:Z3 Gr):Prop:=∀ k (h:k<g.length),w.cell? ⟨A,o+k*3,Z7⟩=Z9 (.string g[k].1)/\w.cell? ⟨A,o+k*3+1,Z7⟩=Z9 (.bool g[k].2.1)/\w.cell? ⟨A,o+k*3+2,Z7⟩=Z9 (.int .i64 g[k].2.2)
theorem vq(g:Z3 Gr)(h:∀ x∈g,GrOk x):∀ k,(grs (g.take k)).length<=220*k
 | 0=>by simp [grs]
 | k+1=>by
   have i:=vq g h k;by_cases H:k<g.length
   .have c:=h g[k] (YT H);have o:=c.w;have r:=c.l;have E:=cZ g[k].1.size (by omega);have j:=cZ g[k].2.2.toNat (by omega);rw[ZK H,jY,ZM];simp only[grs,ZM,Zx,Yt,Z0]
    omega
   .rw[ZD (by omega)];rw[ZD (by omega)] at i;omega
theorem EG(c g:Nat)(l:Z3 ZP)(e:En)(d gr:Z1)(j:Z3 Gr)(o w:ZY)(hI:GS o gr j)(hB:Z4 o.heap.size o w)(b5:o.heap.size<=c)(h:WS w c g l (e.vals d gr))(hP:ProfOk e j)(hs:l.length<=1000) :
 ZJ Z8 174 #[.pointer (Z9 ⟨c,0,Z7⟩),.pointer (Z9 ⟨g,0,Z7⟩)] w fun r w'=>r=.returned (.tuple #[])/\WS w' c g (l++dH e j) (e.vals d gr)/\w.grownBy w' (Z9 c):=by
 obtain⟨b8,b9,a0,c4⟩:=hP;have a3:=cK e d gr;rw[show e.lev=((e.lev.toNat:Nat):Int) by omega] at a3;have z1:=cZ e.lev.toNat (by omega);have z2:=cZ e.owner.size (by omega);have z3:=cZ j.length (by omega);have z4:=vq j a0;obtain⟨S1,e1⟩:∃ S,S=l++Wi.enc e.lev.toNat:=⟨_,rfl⟩;obtain⟨S2,e2⟩:∃ S,S=S1++(Wi.enc e.owner.size++Z5 e.owner):=⟨_,rfl⟩;obtain⟨O,e3⟩:∃ S,S=S2++Wi.enc j.length:=⟨_,rfl⟩;have b1:S1.length<=1010:=by rw[e1,ZM];omega
 have b2:S2.length<=1300:=by rw[e2,ZM,ZM,Z0];omega
 have b3:O.length<=1400:=by rw[e3,ZM];omega
 have I:l++dH e j=O++grs j:=by
  rw[e3,e2,e1];unfold dH;simp only[Zs]
 have c1:=fun W (y:WS W c g l (e.vals d gr))=>kX c g 31 e.lev.toNat l _ W y (by omega) (by omega) a3
 rw[<-e1] at c1;have c2:=fun W (y:WS W c g S1 (e.vals d gr))=>lB c g 28 e.owner S1 _ W y (by omega) (by omega) (bN e d gr)
 rw[<-e2] at c2;have c3:=fun W (y:WS W c g S2 (e.vals d gr))=>tN c g j.length 8 S2 _ W y (by omega) (by omega) (by omega)
 rw[<-e3] at c3;obtain⟨aa,Q,rfl,c5,z⟩:=id hI;have V:=cC e d (.slice aa j.length Q);have C1:=lh c1;have C2:=lh c2;have C3:=lh c3;have bb:=lh z;have bv:=hB.size;have HB:=lh hB;have HF:=lh I;have P:=lh V;have bk:=lh a0;have bs:=lh z4;have HH:=lh h;clear c1 c2 c3 e1 e2 e3 I hI hB z1 z2 z3 z4 a3 V z b1 b2 b8 b9 a0 h;go_enter Tryz.func174,Tryz.ntmps174
 go_wp2_with first|go_at_call 172;(with_reducible refine (C1.o _ HH.o).mono ?_);rintro _ u ⟨rfl,c0,a9⟩;have bc:=lh a9;clear a9|go_at_call 162;(with_reducible refine (C2.o _ c0).mono ?_);rintro _ f ⟨rfl,b0,ad⟩;have V:=b0.2.1.cell 32 _ P.o;have bd:=lh (bc.o.trans ad);clear ad|go_at_call 232;(with_reducible refine (C3.o _ b0).mono ?_);rintro _ w3 ⟨rfl,Y,af⟩;have V:=Y.2.1.cell 32 _ P.o;obtain⟨_,_,b7⟩:=id Y.1;have k1:=b7.2.1;have be:=lh (bd.o.trans af);clear af b7
 go_loopw [43] (fun i wr=>∃ k:Nat,k<=j.length/\i=.int .i64 k/\WS wr c g (O++grs (j.take k)) (e.vals d (.slice aa j.length Q))/\w.grownBy wr (Z9 c)) (fun i _=>j.length - (Zq i).toNat)
 case atStart=>exact⟨0,Zc _,rfl,by simpa [grs] using Y,be.o⟩
 case round =>
  obtain⟨k,hk,rfl,H,T⟩:=hrel;have a6:=lh T;have V:=H.2.1.cell 32 _ P.o;have a8:Z4 o.heap.size o wr:=HB.o.grown T bv (fun x hx=>by cases hx;exact b5);clear T;by_cases a1:k<j.length
  .obtain⟨A,C,rfl,Z,b6⟩:=bb.o (by omega);have a2:=bk.o j[k] (YT a1);obtain⟨q0,q1,q2⟩:=b6 k a1;have hz:=bs.o k;have av:(O++grs (j.take k)).length<=3500:=by rw[ZM];omega
   obtain⟨L,hL⟩:∃ L,L=O++grs (j.take k):=⟨_,rfl⟩
   have t:O++grs (j.take (k+1))=((L++(Wi.enc j[k].1.size++Z5 j[k].1))++[tb j[k].2.1])++Wi.enc j[k].2.2.toNat:=by
    rw[hL,ZK a1,jY];simp only[grs,Zs,Yu]
   rw[<-hL] at H av;have ow:=a2.w;have ol:=a2.l;obtain⟨Gk,hG⟩:∃ G,G=j[k]:=⟨_,rfl⟩;rw[<-hG] at ow ol t q0 q1 q2;clear a2 hL hG hz b6;obtain⟨gw,gg,gl⟩:=Gk;simp only at ow ol t q0 q1 q2
   have y1:=cZ gw.size (by omega);obtain⟨n,rfl⟩:∃ n:Nat,gl=n:=⟨gl.toNat,by omega⟩;simp only[Int.toNat_natCast] at t
   have K:∀ W W' L',WS W c g L' (e.vals d (.slice (Z9 ⟨A,C,Z7⟩) j.length Q))->Z4 o.heap.size o W->W.grownBy W' (Z9 c)->Z4 o.heap.size o W':=fun W W' _ _ J hg=>J.grown hg J.size (fun x hx=>by cases hx;exact b5)
   have t1:=fun (W:ZY) (y:WS W c g L (e.vals d (.slice (Z9 ⟨A,C,Z7⟩) j.length Q))) (J:Z4 o.heap.size o W)=>ux c ⟨A,C+k*3,Z7⟩ gw L W (by omega) (by omega) y.1 ((J.cell (p:=⟨A,C+k*3,Z7⟩) Z).trans q0) y.2.2.2
   obtain⟨L1,U⟩:∃ L1,L1=L++(Wi.enc gw.size++Z5 gw):=⟨_,rfl⟩;rw[<-U] at t1 t;have m1:L1.length<=4000:=by rw[U,ZM,ZM,Z0];omega
   have t2:=fun (W:ZY) (y:WS W c g L1 (e.vals d (.slice (Z9 ⟨A,C,Z7⟩) j.length Q))) (J:Z4 o.heap.size o W)=>tr c ⟨A,C+k*3+1,Z7⟩ gg L1 W (by omega) y.1 ((J.cell (p:=⟨A,C+k*3+1,Z7⟩) Z).trans q1) y.2.2.2
   obtain⟨L2,X⟩:∃ L2,L2=L1++[tb gg]:=⟨_,rfl⟩;rw[<-X] at t2 t;have m2:L2.length<=4001:=by rw[X,ZM,YE];omega
   have t3:=fun (W:ZY) (y:WS W c g L2 (e.vals d (.slice (Z9 ⟨A,C,Z7⟩) j.length Q))) (J:Z4 o.heap.size o W)=>mn c ⟨A,C+k*3+2,Z7⟩ n L2 W (by omega) (by omega) y.1 ((J.cell (p:=⟨A,C+k*3+2,Z7⟩) Z).trans q2) y.2.2.2
   rw[<-t] at t3;have T1:=lh t1;have T2:=lh t2;have T3:=lh t3;have HS:=lh K;have HW:=lh H;have a5:=lh a8;clear t1 t2 t3 K H t U X m1 m2 y1 ow ol q0 q1 q2 av a8
   go_wp2_with first|go_at_call 162;(with_reducible refine (T1.o _ HW.o a5.o).mono ?_);rintro _ m ⟨rfl,ag,D⟩;have N:=lh (HW.o.grown D ag);have a4:=lh (HS.o _ _ _ HW.o a5.o D);have bg:=lh (a6.o.trans D);clear D ag|go_at_call 161;(with_reducible refine (T2.o _ N.o a4.o).mono ?_);rintro _ w5 ⟨rfl,al,E⟩;have a7:=lh (N.o.grown E al);have ba:=lh (HS.o _ _ _ N.o a4.o E);have bi:=lh (bg.o.trans E);clear E al|go_at_call 172;(with_reducible refine (T3.o _ a7.o ba.o).mono ?_);rintro _ w6 ⟨rfl,ar,R⟩;have bp:=lh (a7.o.grown R ar);have bj:=lh (bi.o.trans R);clear R ar
   go_roundw
   case rel=>exact⟨k+1,by omega,by go_num,bp.o,bj.o⟩
   case measure=>simp [Zq];omega
  .have b4:WS wr c g (O++grs j) (e.vals d (.slice aa j.length Q)):=by
    rw[ZD (by omega)] at H;exact H
   have br:=lh b4;clear H b4;go_wp2_with fail
   go_end0
   exact⟨rfl,by rw[HF.o];exact br.o,a6.o⟩
def VB(w:ZY)(g n:Nat)(F:Nat->Z1):Prop:=(∀ k,k<n->w.cell? ⟨g,k,Z7⟩=Z9 (F k))/\(∀ o,w.frozen? ⟨g,o,Z7⟩=Z2)/\g<w.heap.size
theorem VB.grown{w:ZY}{row:Option Nat}(h:VB w g n F)(c:w.grownBy w' row)(r:Z9 g≠row):VB w' g n F:=by
 have H:=c.block g h.2.2 r;refine⟨fun k i=>?_,fun o=>?_,ZH h.2.2 c.size⟩
 .rw[ZU (a:=⟨g,k,Z7⟩) H];exact h.1 k i
 .rw[Ze (a:=⟨g,o,Z7⟩) H];exact h.2.1 o
theorem VB.g2{w:ZY}{a b:Nat}(h:VB w p n F)(c:G2 w w' a b)(ha:p≠a)(H:p≠b):VB w' p n F:=by
 have H:=c.block p h.2.2 ha H;refine⟨fun k i=>?_,fun o=>?_,ZH h.2.2 c.size⟩
 .rw[ZU (a:=⟨p,k,Z7⟩) H];exact h.1 k i
 .rw[Ze (a:=⟨p,o,Z7⟩) H];exact h.2.1 o
theorem VB.set{w:ZY}(h:VB w g n F)(c:Nat)(r:c<n)(v:Z1):VB (w.setCell ⟨g,c,Z7⟩ v) g n (fun k=>if k=c then v else F k):=by
 refine⟨fun k t=>?_,fun o=>by have:=h.2.1 o;simpa using this,by simpa using h.2.2⟩
 have j:=h.1 k t;have H:=h.1 c r;by_cases e:k=c
 .subst e;simp [go_sem,H]
 .show _=Z9 (if k=c then v else F k)
  rw[ZX e,<-j];have E:c≠k:=fun h=>e h.symm
  have i:(c==k)=Z2:=by simpa using E
  simp [go_sem]
theorem VB.other{w:ZY}(h:VB w g n F)(G c:Nat)(H:g≠G)(v:Z1):VB (w.setCell ⟨G,c,Z7⟩ v) g n F:=by
 refine⟨fun k i=>?_,fun o=>by have:=h.2.1 o;simpa using this,by simpa using h.2.2⟩
 rw[<-h.1 k i];have E:(G==g)=Z2:=by simpa using fun h=>H h.symm
 simp [go_sem]
def gcell(x:Gr)(j:Nat):Z1:=if j=0 then .string x.1 else if j=1 then .bool x.2.1 else .int .i64 x.2.2
def gzero:Gr:=(⟨#[]⟩,Z2,0)
def fF(L:Z3 Gr)(i:Nat):Z1:=gcell (L.getD (i / 3) gzero) (i % 3)
theorem Ci(i:Nat):fF [] i=gcell gzero (i % 3):=by unfold fF;simp
theorem Ay(x:Gr)(k:Nat)(h:L.length=k):(fun i=>if i=k*3+2 then Value.int .i64 x.2.2 else (fun i=>if i=k*3+1 then Value.bool x.2.1 else (fun i=>if i=k*3 then Value.string x.1 else fF L i) i) i)=fF (L++[x]):=by
 funext i
 simp only
 subst h;unfold fF;rcases Nat.lt_or_ge i (L.length*3) with c|c
 .rw[ZX (by omega),ZX (by omega),ZX (by omega),Zn,Zn,List.getElem?_append_left (by omega)]
 .rcases (by omega:i=L.length*3\/i=L.length*3+1\/i=L.length*3+2\/L.length*3+3<=i) with H|H|H|H
  .rw[ZX (by omega),ZX (by omega),ZT H,Zn,YG (by omega),show i / 3 - L.length=0 by omega,show i % 3=0 by omega];rfl
  .rw[ZX (by omega),ZT H,Zn,YG (by omega),show i / 3 - L.length=0 by omega,show i % 3=1 by omega];rfl
  .rw[ZT H,Zn,YG (by omega),show i / 3 - L.length=0 by omega,show i % 3=2 by omega];rfl
  .rw[ZX (by omega),ZX (by omega),ZX (by omega),Zn,Zn,XZ (by omega),XZ (by rw[ZM,YE];omega)]
theorem Ex(k:Nat)(h:k<L.length)(j:Nat)(H:j<3):fF L (k*3+j)=gcell L[k] j:=by
 unfold fF;rw[show (k*3+j) / 3=k by omega,show (k*3+j) % 3=j by omega,Zn,ZF h];rfl
theorem VB.gs{w:ZY}{L:Z3 Gr}(h:VB w g (n*3) (fF L))(o:L.length=n)(r:n<=1000000):GS w (.slice (Z9 ⟨g,0,Z7⟩) n n) L :=
 ⟨_,n,by rw[o],by omega,fun _=>⟨g,0,rfl,h.2.2,fun k j=>by
  have H:=h.1 (k*3+0) (by omega);have c:=h.1 (k*3+1) (by omega);have i:=h.1 (k*3+2) (by omega);rw[Ex L k j _ (by decide)] at H c i;refine⟨?_,?_,?_⟩
  .rw[Yj];exact H
  .rw[Yj];exact c
  .rw[Yj];exact i⟩⟩
theorem GD:(Tryz.prog.info? 103).map (fun i=>(i.zero,i.size,i.bytes))=Z9 (Z9 (.agg #[.string ⟨#[]⟩,.bool Z2,.int .i64 0]),3,32):=by kernel_rfl
theorem VB.made{w:ZY}{e:Nat}(h:w.ownsRow B e 3 (.slice (Z9 ⟨g,0,Z7⟩) n n) n (madeCells (Value.agg #[.string ⟨#[]⟩,.bool Z2,.int .i64 0]).cells (n*3)).toList)(i:0<n):VB w g (n*3) (fF []):=by
 have H:∀ k,k<n*3->w.cell? ⟨g,k,Z7⟩=Z9 (fF [] k):=fun k c=>by
  rw[h.cellAt k c,Ci];unfold madeCells;rw[Array.getElem?_toList,Array.getElem?_map,Array.getElem?_range,ZT c];show Z9 ((#[Value.string ⟨#[]⟩,.bool Z2,.int .i64 0]:Zz Z1)[k % 3]!)=_
  rcases (by omega:k % 3=0\/k % 3=1\/k % 3=2) with e|e|e <;> rw[e] <;> rfl
 exact⟨H,fun o=>h.frozenAt o,block_lt_of_cell (H 0 (by omega))⟩
theorem qD{w:ZY}{c j:Nat}(h:RS wr c b g q cs)(t:c<w.heap.size)(y:b<w.heap.size)(x:g<w.heap.size)(H:w.heap.size<=p)(N:VB wr p n F)(o:G2 w wr b g)(R:RL u b st')(G:wr.grownBy u (Z9 b))(r:j<n)(v:Z1) :
 RS (u.setCell ⟨p,j,Z7⟩ v) c b g st' cs/\VB (u.setCell ⟨p,j,Z7⟩ v) p n (fun i=>if i=j then v else F i)/\G2 w (u.setCell ⟨p,j,Z7⟩ v) b g :=
 ⟨h.far R G ⟨p,j,Z7⟩ (by show p≠c;omega) (by show p≠b;omega) (by show p≠g;omega) _,(N.grown G (by intro e;have:=Option.some.inj e;omega)).set j r v,o.far G H _⟩
theorem Gz{w W i:ZY}{c m:Nat}{S:Z3 ZP × Nat}{E:En}{d:Z1}(h:RS W c b g S (E.vals d (.slice Z7 0 0)))(r:G2 w W b g)(j:i.ownsRow W.heap.size 103 3 (.slice (Z9 ⟨W.heap.size,0,Z7⟩) m m) m (madeCells (Value.agg #[.string ⟨#[]⟩,.bool Z2,.int .i64 0]).cells (m*3)).toList)(H:W.grownBy i Z7)(y:0<m) :
 i.frozen? ⟨g,32,Z7⟩=Z2/\i.cell? ⟨g,32,Z7⟩=Z9 (.slice Z7 0 0)/\RS (i.setCell ⟨g,32,Z7⟩ (.slice (Z9 ⟨W.heap.size,0,Z7⟩) m m)) c b g S (E.vals d (.slice (Z9 ⟨W.heap.size,0,Z7⟩) m m))/\w.heap.size<=W.heap.size/\VB (i.setCell ⟨g,32,Z7⟩ (.slice (Z9 ⟨W.heap.size,0,Z7⟩) m m)) W.heap.size (m*3) (fF [])/\G2 w (i.setCell ⟨g,32,Z7⟩ (.slice (Z9 ⟨W.heap.size,0,Z7⟩) m m)) b g:=by
 have o:=h.2.2.1.2.2;have G:W.grownBy i (Z9 b):=⟨H.os,H.tape,H.output,H.size,fun k x _=>H.block k x (by simp)⟩;have t:=H.block g o (by simp);have ha:=h.after (h.2.1.grown H h.2.2.2.2.2.2.2) G 32 (by rw[ah];decide) (.slice (Z9 ⟨W.heap.size,0,Z7⟩) m m);rw[wE] at ha;exact⟨(Ze (a:=⟨g,32,Z7⟩) t).trans (h.2.2.1.2.1 32),(ZU (a:=⟨g,32,Z7⟩) t).trans (h.2.2.1.cell 32 _ (cC E d _)),ha.1,r.size,(VB.made j y).other g 32 (by omega) _,r.trans ha.2⟩
theorem uN(c b g:Nat)(s:Z3 ZP × Nat)(e:En)(d:Z1)(w:ZY)(h:RS w c b g s (e.vals d (.slice Z7 0 0)))(hs:s.1.length<=1000) :
 ZJ Z8 174 #[.pointer (Z9 ⟨c,0,Z7⟩),.pointer (Z9 ⟨g,0,Z7⟩)] w fun r w'=>r=.returned (.tuple #[])/\∃ a6,RS w' c b g (fW e s).2.2 ((fW e s).1.vals d a6)/\(GS w' a6 (fW e s).2.1/\∀ x,a6.ownBlock=Z9 x->w.heap.size<=x)/\G2 w w' b g:=by
 obtain⟨S1,q1⟩:∃ S,S=(Y2 s).2:=⟨_,rfl⟩;obtain⟨E1,r1⟩:∃ E:En,E=e.sLev (clip (Y2 s).1):=⟨_,rfl⟩;obtain⟨S2,q2⟩:∃ S,S=(X5 200 S1).2:=⟨_,rfl⟩;obtain⟨C,r2⟩:∃ E:En,E=E1.sOwner ⟨(X5 200 S1).1.toArray⟩:=⟨_,rfl⟩;obtain⟨o,q7⟩:∃ S,S=(Y2 S2).2:=⟨_,rfl⟩;obtain⟨m,qm⟩:∃ m,m=cntv 8 (clip (Y2 S2).1):=⟨_,rfl⟩
 have a0:fW e s=(C,(dO o m).1,(dO o m).2):=by
  rw[qm,q7,r2,q2,r1,q1];rfl
 have b1:S1.1.length<=1000:=by rw[q1];exact ZE (VV s) hs
 have b2:S2.1.length<=1000:=by rw[q2];exact ZE (Wy 200 S1).1 b1
 have b7:o.1.length<=1000:=by rw[q7];exact ZE (VV S2) b2
 have bk:∀ k,(dO o k).2.1.length<=1000:=fun k=>ZE (sI o k) b7
 have bd:m<=9:=by rw[qm];unfold cntv;split <;> omega
 have c1:∀ W,RS W c b g s (e.vals d (.slice Z7 0 0))->ZJ Z8 172 #[.pointer (Z9 ⟨c,0,Z7⟩),.pointer (Z9 ⟨g,31,Z7⟩)] W fun r w'=>r=.returned (.tuple #[])/\RS w' c b g S1 (E1.vals d (.slice Z7 0 0))/\G2 W w' b g:=fun W y=>by
  have:=jt c b g 31 _ s _ W y (by omega) (cK e _ _);rw[If,<-q1] at this;rw[r1];exact this
 have c2:∀ W,RS W c b g S1 (E1.vals d (.slice Z7 0 0))->ZJ Z8 162 #[.pointer (Z9 ⟨c,0,Z7⟩),.pointer (Z9 ⟨g,28,Z7⟩)] W fun r w'=>r=.returned (.tuple #[])/\RS w' c b g S2 (C.vals d (.slice Z7 0 0))/\G2 W w' b g:=fun W y=>by
  have:=jE c b g 28 _ S1 _ W y (by omega) (bN E1 _ _);rw[wD,<-q2] at this;rw[r2];exact this
 have c3:∀ W,RS W c b g S2 (C.vals d (.slice Z7 0 0))->ZJ Z8 232 #[.pointer (Z9 ⟨c,0,Z7⟩),.int .i64 0,.int .i64 8] W fun r w'=>r=.returned (.int .i64 m)/\RS w' c b g o (C.vals d (.slice Z7 0 0))/\G2 W w' b g:=fun W y=>by
  have:=pc c b g 8 0 S2 _ W y (by omega) (by omega);rw[<-qm,<-q7] at this;exact this
 have V:=cC C d (.slice Z7 0 0);have C1:=lh c1;have C2:=lh c2;have C3:=lh c3;have R:=lh V;have HB:=lh bk;have HH:=lh h;have a9:=h.2.2.2.2.2.2.1;have ab:=h.2.2.2.2.2.2.2;have aa:=h.2.2.1.2.2;rw[a0];clear c1 c2 c3 V bk a0 q1 q2 q7 qm r1 r2 b1 b2 b7 h;rcases Yr m with T|T
 .have bc:m<1:=by omega
  have HM:=lh T;clear T;go_enter Tryz.func174,Tryz.ntmps174
  go_wp2_with first|go_at_call 172;(with_reducible refine (C1.o _ HH.o).mono ?_);rintro _ u ⟨rfl,a8,G⟩;have a2:=lh G;clear G|go_at_call 162;(with_reducible refine (C2.o _ a8).mono ?_);rintro _ f ⟨rfl,O,I⟩;have V:=O.2.2.1.cell 32 _ R.o;have a3:=lh (a2.o.trans I);clear I|go_at_call 232;(with_reducible refine (C3.o _ O).mono ?_);rintro _ w3 ⟨rfl,z,J⟩;have V:=z.2.2.1.cell 32 _ R.o;have k1:w3.cell? ⟨c,1,Z7⟩=Z9 (.pointer (Z9 ⟨b,0,Z7⟩)):=z.1;have a4:=lh (a3.o.trans J);clear J
  go_loopw [43] (fun i wr=>i=.int .i64 0/\RS wr c b g o (C.vals d (.slice Z7 0 0))/\G2 w wr b g) (fun i _=>0)
  case atStart=>exact⟨rfl,z,a4.o⟩
  case round =>
   obtain⟨rfl,H,K⟩:=hrel;have Q:=lh K;have b4:=lh H;clear K H;go_wp2_with fail
   go_end0
   exact⟨rfl,_,by rw[HM.o];exact b4.o,⟨by rw[HM.o];exact GS.nil _,fun _ h=>by cases h⟩,Q.o⟩
 .obtain⟨i0,hi,af,ag,al⟩:=info_parts GD;have HI:=lh hi;have b5:=lh af;have b6:=lh ag;have HM:Hid (i0.bytes*m<=281474976710656):=lh (by rw[al];omega);have ad:m<=maxLen:=by unfold maxLen;omega
  have HX:=lh ad;clear hi af ag al ad;go_enter Tryz.func174,Tryz.ntmps174
  go_wp2_with first|go_at_call 172;(with_reducible refine (C1.o _ HH.o).mono ?_);rintro _ u ⟨rfl,a8,G⟩;have a2:=lh G;clear G|go_at_call 162;(with_reducible refine (C2.o _ a8).mono ?_);rintro _ f ⟨rfl,O,I⟩;have V:=O.2.2.1.cell 32 _ R.o;have a3:=lh (a2.o.trans I);clear I|go_at_call 232;(with_reducible refine (C3.o _ O).mono ?_);rintro _ w3 ⟨rfl,z,J⟩;have V:=z.2.2.1.cell 32 _ R.o;have k1:w3.cell? ⟨c,1,Z7⟩=Z9 (.pointer (Z9 ⟨b,0,Z7⟩)):=z.1;have a4:=lh (a3.o.trans J);clear J|at_make;refine wpList_make_full _ rfl _ _ 27 rfl w3.heap.size 103 i0 (.agg #[.string ⟨#[]⟩,.bool Z2,.int .i64 0]) 3 Tryz.underlying27 HI.o b5.o b6.o _ _ _ _ m rfl rfl (by omega) (by omega) HM.o HX.o (ZV _) ?_;intro w9 a1 P;have A:=lh (Gz z a4.o a1 P T);clear a1 P;have f0:=A.o.1;have b8:=A.o.2.1
  go_loopw [43] (fun i wr=>∃ (k p:Nat),k<=m/\i=.int .i64 k/\RS wr c b g (dO o k).2 (C.vals d (.slice (Z9 ⟨p,0,Z7⟩) m m))/\w.heap.size<=p/\VB wr p (m*3) (fF (dO o k).1)/\G2 w wr b g) (fun i _=>m - (Zq i).toNat)
  case atStart=>exact⟨0,_,Zc _,rfl,A.o.2.2.1,A.o.2.2.2.1,A.o.2.2.2.2.1,A.o.2.2.2.2.2⟩
  case round =>
   obtain⟨k,p,hk,rfl,H,hB,hN,K⟩:=hrel;have Q:=lh K;have V:=H.2.2.1.cell 32 _ (cC C d (.slice (Z9 ⟨p,0,Z7⟩) m m));clear K;by_cases b9:k<m
   .have hb:=HB.o k;have hL:=o5 o k;obtain⟨q,Y⟩:∃ q,q=(dO o k).2:=⟨_,rfl⟩;obtain⟨L,a7⟩:∃ L,L=(dO o k).1:=⟨_,rfl⟩;have e2:(dO o (k+1)).2=(iP q).2:=by rw[Y];rfl
    have e1:(dO o (k+1)).1=L++[(iP q).1]:=by rw[Y,a7];rfl
    rw[<-Y] at H hb;rw[<-a7] at hN hL;clear Y a7;obtain⟨Z,U⟩:∃ Z,Z=(X5 200 q).2:=⟨_,rfl⟩;obtain⟨sb,X⟩:∃ sb,sb=(X4 Z).2:=⟨_,rfl⟩;have ba:Z.1.length<=1000:=by rw[U];exact ZE (Wy 200 q).1 hb
    have bb:sb.1.length<=1000:=by rw[X];exact ZE (Rd.boo_len Z) ba
    have eG:iP q=((⟨(X5 200 q).1.toArray⟩,(X4 Z).1,((clip (Y2 sb).1:Nat):Int)),(Y2 sb).2):=by rw[X,U];rfl
    rw[eG] at e1 e2;have t1:=fun (W:ZY) (y:RS W c b g q (C.vals d (.slice (Z9 ⟨p,0,Z7⟩) m m))) (F:Nat->Z1) (N:VB W p (m*3) F)=>uu c b ⟨p,k*3,Z7⟩ _ q W (by omega) y.1 y.2.1 y.2.2.2.2.2.2.2 (N.1 (k*3) (by omega)) (N.2.1 _) N.2.2 (by show p≠b;omega)
    have t2:=fun (W:ZY) (y:RS W c b g Z (C.vals d (.slice (Z9 ⟨p,0,Z7⟩) m m))) (F:Nat->Z1) (N:VB W p (m*3) F)=>tp c b ⟨p,k*3+1,Z7⟩ _ Z W (by omega) y.1 y.2.1 y.2.2.2.2.2.2.2 (N.1 (k*3+1) (by omega)) (N.2.1 _) N.2.2 (by show p≠b;omega)
    have t3:=fun (W:ZY) (y:RS W c b g sb (C.vals d (.slice (Z9 ⟨p,0,Z7⟩) m m))) (F:Nat->Z1) (N:VB W p (m*3) F)=>mm c b ⟨p,k*3+2,Z7⟩ _ sb W (by omega) y.1 y.2.1 y.2.2.2.2.2.2.2 (N.1 (k*3+2) (by omega)) (N.2.1 _) N.2.2 (by show p≠b;omega)
    rw[<-U] at t1;rw[<-X] at t2;have T1:=lh t1;have T2:=lh t2;have T3:=lh t3;have ao:=lh e1;have ar:=lh e2;have HW:=lh H;have HN:=lh hN;have av:=lh hL;clear t1 t2 t3 e1 e2 eG U X H hN hL ba bb hb
    go_wp2_with first|go_at_call 162;(with_reducible refine (T1.o _ HW.o _ HN.o).mono ?_);rintro _ wq ⟨rfl,wy,t,ht,hR,hG,rfl⟩;have HS:=lh (qD HW.o a9 ab aa hB HN.o Q.o hR hG (j:=k*3) (by omega) (.string t));have HT:=lh ht;clear hR hG ht|go_at_call 161;(with_reducible refine (T2.o _ HS.o.1 _ HS.o.2.1).mono ?_);rintro _ wq ⟨rfl,wz,hR,hG,rfl⟩;have D:=lh (qD HS.o.1 a9 ab aa hB HS.o.2.1 HS.o.2.2 hR hG (j:=k*3+1) (by omega) (.bool (X4 Z).1));clear hR hG|go_at_call 172;(with_reducible refine (T3.o _ D.o.1 _ D.o.2.1).mono ?_);rintro _ wq ⟨rfl,wx,hR,hG,rfl⟩;have a5:=lh (qD D.o.1 a9 ab aa hB D.o.2.1 D.o.2.2 hR hG (j:=k*3+2) (by omega) (.int .i64 (clip (Y2 sb).1)));clear hR hG
    go_roundw
    case rel =>
     refine⟨k+1,p,by omega,by go_num,by rw[ar.o];exact a5.o.1,hB,?_,a5.o.2.2⟩
     rw[ao.o,<-Ay L _ k av.o,<-HT.o,Ds.mk_bl];exact a5.o.2.1
    case measure=>simp [Zq];omega
   .have ac:k=m:=by omega
    have b3:Hid (RS wr c b g (dO o m).2 (C.vals d (.slice (Z9 ⟨p,0,Z7⟩) m m))):=lh (by rw[ac] at H;exact H);have b0:Hid (VB wr p (m*3) (fF (dO o m).1)):=lh (by rw[ac] at hN;exact hN);clear H hN;go_wp2_with fail
    go_end0
    exact⟨rfl,_,b3.o,⟨b0.o.gs (o5 o m) (by omega),fun x hx=>by cases hx;exact hB⟩,Q.o⟩
theorem qQ(c:ZP):((c.toNat:Int)==32)=decide (c=32):=by
 rw[Zr,beq_iff_eq,ZW];constructor
 .intro h;exact UInt8.toNat_inj.1 (by show c.toNat=32;omega)
 .rintro rfl;rfl
theorem AP(I:s.size<=1000) :
 ZJ Z8 176 #[.string s,.int .u8 32] w fun e w'=>∃ t,e=.returned (.string t)/\Z5 t=Ek.trim (Z5 s)/\w'=w:=by
 go_enter Tryz.func176,Tryz.ntmps176
 go_wp2_with fail
 go_loopw [0] (fun v wr=>∃ (j:Nat) (t:Z6),j<=s.size/\v=.string t/\Z5 t=(Z5 s).take j/\Ek.tlen (Z5 s) s.size=Ek.tlen (Z5 s) j/\wr=w) (fun v _=>match v with|.string t=>t.size|_=>0)
 case atStart=>exact⟨s.size,s,ZV _,rfl,by rw[<-Z0,List.take_length],rfl,rfl⟩
 case round =>
  obtain⟨j,t,G,rfl,o,r,rfl⟩:=hrel;have J:t.size=j:=by rw[<-Z0,o,YD,Z0];omega
  by_cases D:0<j
  .have c:j - 1<t.size:=by omega
   have x:=Ds.bl_get t (j - 1) c
   have y:(Z5 s)[j - 1]?=Z9 t[j - 1]:=by
    have A:(Z5 t)[j - 1]?=(Z5 s)[j - 1]?:=by rw[o,List.getElem?_take_of_lt (by omega)]
    rw[<-A,ZF (by rw[Z0];exact c),x]
   obtain⟨i,rfl⟩:∃ i,j=i+1:=⟨j - 1,by omega⟩;simp only[Nat.add_sub_cancel] at c x y
   have z:=qQ t[i];have T:=lh o;have E:=lh r;have C:=lh y;clear o r y x;by_cases h:t[i]=32
   .rw[ZO h] at z;have H:=lh h;clear h;go_wp2_with fail
    go_roundw
    case rel =>
     refine⟨i,t.extract 0 i,by omega,by go_num,?_,?_,trivial⟩
     .unfold Z5 at *;rw[ByteArray.data_extract];simp [T.o,List.take_take]
     .rw[E.o];exact Ek.tlen_yes _ _ (by rw[C.o,H.o])
    case measure=>simp;omega
   .rw[ZN h] at z;have H:=lh h;clear h;go_wp2_with fail
    go_ret
    refine⟨t,rfl,?_,rfl⟩
    unfold Ek.trim;rw[Z0,E.o,Ek.tlen_no _ _ (by rw[C.o];intro e;exact H.o (Option.some.inj e))];exact T.o
  .obtain rfl:j=0:=by omega
   have T:=lh o;have E:=lh r;clear o r;go_wp2_with fail
   go_ret
   refine⟨t,rfl,?_,rfl⟩
   unfold Ek.trim;rw[Z0,E.o];exact T.o
theorem oo(i:s.size<=1000) :
 ZJ Z8 75 #[.string s,.string ⟨#[32]⟩] w fun e w'=>∃ t,e=.returned (.string t)/\Z5 t=Ek.trim (Z5 s)/\w'=w:=by
 by_cases h:s.size=0
 .have E:s.toList.isEmpty=ZZ:=ju _ h;go_enter Tryz.func75,Tryz.ntmps75
  go_wp2_with fail
  go_ret
  refine⟨s,rfl,?_,rfl⟩
  have:Z5 s=[]:=List.length_eq_zero_iff.1 (by rw[Z0];exact h);rw[this];rfl
 .have E:s.toList.isEmpty=Z2:=gG _ (by omega);have j:=fun W=>AP s W i
  clear h;go_enter Tryz.func75,Tryz.ntmps75
  go_wp2_with (go_at_call 176;(refine (j _).mono ?_);rintro e f ⟨t,rfl,H,rfl⟩;have c:=lh H;clear H)
  go_ret
  exact⟨t,rfl,c.o,rfl⟩
theorem Ez(k:Int)(h:0<=k/\k<=4):∃ A K B:Nat,X0 (.int .i64) (.int .i64 k) fe5.toList 0=Z9 (Z9 (k.toNat,.agg (cN ((Ek.letter k).toNat:Nat) A K B))):=by
 rcases (by omega:k=0\/k=1\/k=2\/k=3\/k=4) with rfl|rfl|rfl|rfl|rfl
 .exact⟨32,156,157,rfl⟩
 .exact⟨158,159,163,rfl⟩
 .exact⟨166,167,168,rfl⟩
 .exact⟨169,171,173,rfl⟩
 .exact⟨89,174,175,rfl⟩
theorem uL(k:Int)(h:¬ (0<=k/\k<=4)):X0 (.int .i64) (.int .i64 k) fe5.toList 0=Z9 Z7:=by
 have H:(k==0)=Z2:=by rw[ZS];omega
 have c:(k==1)=Z2:=by rw[ZS];omega
 have i:(k==2)=Z2:=by rw[ZS];omega
 have j:(k==3)=Z2:=by rw[ZS];omega
 have o:(k==4)=Z2:=by rw[ZS];omega
 simp [X0,Instr.sameNow,fe5,H,c,i,j,o]
theorem rC(c:ZP):∀ n,Lib.repeatL [c] n=VT n c
 | 0=>rfl
 | n+1=>by rw[Lib.repeatL,rC c n];rfl
theorem AL(i:s.size<=31)(W:ZY):ZJ Z8 187 #[.string ⟨#[32]⟩,.int .i64 (31 - (s.size:Int))] W fun e w'=>∃ t,e=.returned (.string t)/\Z5 t=VT (31 - s.size) 32/\t.size<=31/\Z4 W.heap.size W w':=by
 have h:=Tryz.strings_Repeat ⟨#[32]⟩ (31 - s.size) W (by omega) (by show 1*(31 - s.size)<=_;omega);rw[show ((31 - s.size:Nat):Int)=31 - (s.size:Int) by omega] at h;refine h.mono ?_
 rintro e w' ⟨rfl,c⟩;have H:Z5 ⟨(Lib.repeatL (⟨#[32]⟩:Z6).data.toList (31 - s.size)).toArray⟩=VT (31 - s.size) 32:=by rw[Ds.bl_mk];exact rC 32 _
 refine⟨_,rfl,H,?_,c⟩
 rw[<-Z0,H,List.length_replicate];omega
theorem pu(c:ZP)(W:ZY)(b:Nat)(h:W.cell? ⟨b,0,Z7⟩=Z9 (.int .u8 (c.toNat:Nat))) :
 (convert 156 9 (.slice (Z9 ⟨b,0,Z7⟩) 1 1)).run Z8 W=.ok (.string ⟨#[c]⟩) W:=by
 refine run_convert_bytes_back (P:=Z8) W 156 9 5 ⟨b,0,Z7⟩ 1 [c] Tryz.underlying156 Tryz.underlying5 Tryz.underlying9 ?_
 intro j H;obtain rfl:j=0:=by simpa using H
 simpa [Addr.add] using h
theorem rE{X:ZY}{t:TypeId}(h:Z4 ((X.alloc (.cells #[v] t)).drew).heap.size ((X.alloc (.cells #[v] t)).drew) f):f.cell? ⟨X.heap.size,0,Z7⟩=Z9 v:=by
 rw[h.cell (p:=⟨X.heap.size,0,Z7⟩) (by show X.heap.size<_;simp)];show (X.alloc (.cells #[v] t)).cell? ⟨X.heap.size,0,Z7⟩=_
 rw[YH _ X.heap.size 0 _ t (0,0) (Zu X _)];rfl
theorem vP(k:Int)(s:Z6)(w:ZY) :
 ZJ Z8 88 #[.int .i64 k,.string s] w fun r w'=>∃ t,r=.returned (.string t)/\Z5 t=Ek.key k (Z5 s)/\Z4 w.heap.size w w':=by
 by_cases H:0<=k/\k<=4
 .obtain⟨A,K,B,h⟩:=Ez k H;have j:=ny (w.alloc (.map fe5 5)) w.heap.size k _ _ (Zu w _) h;have y:Ek.isKind k=ZZ:=by unfold Ek.isKind;simp;omega
  unfold cN at j;by_cases i:s.size<=31
  .have z:=AL s i;have D:=lh (Ek.key_yes k (Z5 s) H (by rw[Z0];exact i));have R:=lh z;clear z h H y;generalize x:Ek.letter k=c at j D;clear x;have I:=pu c;have P:¬ 9223372036854775807<1+s.size:=by omega
   have E:IntKind.i64.wrap (31 - (s.size:Int))=31 - (s.size:Int):=IntWalk.i64_in _ ⟨by omega,by omega⟩;go_enter Tryz.func88,Tryz.ntmps88
   go_wp2_with (go_at_call 74;(with_reducible refine (iC _).mono ?_);rintro _ u ⟨rfl,rfl⟩)
   go_region_law (first|(go_simp;go_at_call 187;(with_reducible refine (R.o _).mono ?_);rintro _ f ⟨t,rfl,C,O,o⟩;have T:=lh C;have a:¬ 9223372036854775807<1+s.size+t.size:=(by omega);have G:=Below.trans (show Z4 w.heap.size w _ by exact aB) (o.mono (by simp;try omega));have Z:=G.size;have J:f.cell? ⟨w.heap.size+1,0,Z7⟩=Z9 (.int .u8 (c.toNat:Nat)):=((o.cell (p:=⟨w.heap.size+1,0,Z7⟩) (by show w.heap.size+1<_;simp)).trans (by simp [go_sem]));(first|(have N:f.cell? ⟨w.heap.size+1+1,0,Z7⟩=Z9 (.int .u8 (c.toNat:Nat)):=(by simpa using rE o))|skip);clear C))
   all_goals
    go_wp2
    go_ret
    refine⟨_,rfl,?_,by exact aB⟩
    rw[D.o];unfold Ek.pad;rw[Z0,<-T.o];simp [Z5]
  .have D:=lh (show Ek.key k (Z5 s)=[] by unfold Ek.key;rw[ZX (by rw[Z0];omega)]);clear h H y;generalize x:Ek.letter k=c at j;clear x;go_enter Tryz.func88,Tryz.ntmps88
   go_wp2_with (go_at_call 74;(with_reducible refine (iC _).mono ?_);rintro _ u ⟨rfl,rfl⟩)
   go_ret
   exact⟨_,rfl,by rw[D.o];rfl,by exact aB⟩
 .have h:=uL k H;have j:=uG (w.alloc (.map fe5 5)) w.heap.size k _ (Zu w _) h sw;have D:=lh (show Ek.key k (Z5 s)=[] by unfold Ek.key Ek.isKind;rw[ZX (by simp;omega)]);clear h H;go_enter Tryz.func88,Tryz.ntmps88
  go_wp2_with (go_at_call 74;(with_reducible refine (iC _).mono ?_);rintro _ u ⟨rfl,rfl⟩)
  go_ret
  exact⟨_,rfl,by rw[D.o];rfl,by exact aB⟩
section
open Go.ChangeMaps (setBlock)
def wk(k:Z6 × Zk):Z1:=.agg #[.string k.1,.bool k.2]
def wents:Z3 (Z6 × Zk)->Nat->Z3 VI
 | [],_=>[]
 | k::r,i=>⟨wk k,.bool ZZ,i⟩::wents r (i+1)
def went(K:Z3 (Z6 × Zk)):Zz VI:=(wents K 0).toArray
theorem rF(k:Z6 × Zk):∀ (K:Z3 (Z6 × Zk)) (i:Nat),wents (K++[k]) i=wents K i++[⟨wk k,.bool ZZ,i+K.length⟩]
 | [],i=>rfl
 | a::r,i=>by rw[Zp,wents,wents,rF k r (i+1),Zx,Zp,Nat.add_assoc,Nat.add_comm 1]
theorem Hi(a b:Z6 × Zk)(w:ZY):(Op.equal 270 (wk a) (wk b)).run Z8 w=.ok (decide (a=b)) w:=by
 obtain⟨A,j⟩:=a;obtain⟨c,o⟩:=b;show (Op.equalIn (9999+1) 270 (.agg #[.string A,.bool j]) (.agg #[.string c,.bool o])).run Z8 w=_
 rw[run_equalIn_struct w 9999 270 _ _ (by simp [Program.fieldsOf,Tryz.underlying270]) (by kernel_rfl)];simp [Program.fieldsOf,Tryz.underlying270,Op.eqFields,go_sem]
 have e:(A.toList=c.toList)=(A=c):=propext ⟨fun h=>by
  have H:=Lib.toList_data A;have i:=Lib.toList_data c;exact Ds.bl_inj (H.symm.trans (h.trans i)),fun h=>by rw[h]⟩
 by_cases H:A=c
 .subst H;by_cases i:j=o <;> simp [i]
 .rw[ZX (fun h=>H (e ▸ h))];simp [H]
theorem pC(k:Z6 × Zk)(w:ZY):∀ (K:Z3 (Z6 × Zk)) (i j:Nat),
 (k ∉ K->(V6 270 (wk k) (wents K i) j).run Z8 w=.ok Z7 w)/\(k∈K->∃ n,(V6 270 (wk k) (wents K i) j).run Z8 w=.ok (Z9 (n,.bool ZZ)) w)
 | [],i,j=>⟨fun _=>by simp [wents,V6],fun h=>by simp at h⟩
 | a::r,i,j=>by
   have I:=pC k w r (i+1) (j+1);have c:=Hi k a w;by_cases h:k=a
   .rw[ZO h] at c;refine⟨fun H=>absurd (by rw[h];exact List.mem_cons_self) H,fun _=>⟨j,by simp [wents,V6,c]⟩⟩
   .rw[ZN h] at c;refine⟨fun H=>?_,fun H=>?_⟩
    .have:=I.1 (fun q=>H (List.mem_cons_of_mem _ q));simp [wents,V6,c,this]
    .obtain⟨n,o⟩:=I.2 ((List.mem_cons.1 H).resolve_left h);exact⟨n,by simp [wents,V6,c,o]⟩
theorem wG(b:Zk)(w:ZY):(Instr.checkKey b 10000 270 (wk k)).run Z8 w=.ok () w:=by
 obtain⟨k1,K⟩:=k;cases b <;> kernel_rfl
theorem xm(E:Z3 VI)(w:ZY):(Instr.findKey 270 (wk k) E).run Z8 w=(V6 270 (wk k) E).run Z8 w :=
 run_findKey_eq w (by rw[Tryz.underlying270]) _ _
theorem wR(m n:Nat)(K:Z3 (Z6 × Zk))(k:Z6 × Zk)(c:w.heap[m]?=Z9 (.map (went K) n)) :
 (XG 268 (.map (Z9 m)) (wk k) Z2).run Z8 w=.ok (.bool (Vp.among k K)) w:=by
 have h:=fun b=>wG k b w
 have o:=xm k (wents K 0) w;have r:=pC k w K 0 0;cases i:Vp.among k K
 rotate_left
 .obtain⟨j,H⟩:=r.2 ((oF k K).1 i);simp [XG,Xm Tryz.underlying268,Xf c,h,went,o,H,Result.andThen]
 .have H:=r.1 (td k K i);simp [XG,Xm Tryz.underlying268,Xf c,h,went,o,H,Result.andThen]
theorem GW(m:Nat)(K:Z3 (Z6 × Zk))(k:Z6 × Zk)(H:w.heap[m]?=Z9 (.map (went K) K.length))(i:Vp.among k K=Z2) :
 (WQ 268 (.map (Z9 m)) (wk k) (.bool ZZ)).run Z8 w=.ok () (setBlock w m (.map (went (K++[k])) (K.length+1))):=by
 have h:=wG k Z2 w;have j:=xm k (wents K 0) w;have c:=(pC k w K 0 0).1 (td k K i);simp [WQ,Xm Tryz.underlying268,Xf H,h,went,j,c,MapKept.run_setObj_map _ H,Result.andThen,setBlock,rF]
theorem nZ(m:Nat)(o:Obj)(h:m<w.heap.size):(setBlock w m o).heap[m]?=Z9 o:=by simp [setBlock,h]
theorem kP(m k:Nat)(o:Obj)(h:k≠m):(setBlock w m o).heap[k]?=w.heap[k]?:=by
 simp only[setBlock,Array.getElem?_setIfInBounds]
 rw[ZX (fun e=>h e.symm)]
theorem qU{w:ZY}{m:Nat}(h:Z4 B w w')(c:B<=m)(o:Obj):Z4 B w (setBlock w' m o) :=
 ⟨h.os,h.tape,h.output,by simpa [setBlock] using h.size,fun k H=>(kP w' m k o (by omega)).trans (h.block k H)⟩
theorem pE(g:Z3 Gr)(k:Nat)(H:k<g.length)(h:Vp.grAt g k=Z2):Vp.grs g=Z2:=by
 rw[Yz];intro e;rw[mD e k H] at h;cases h
theorem EM(g:Z3 Gr)(h:∀ j,j<g.length->Vp.grAt g j=ZZ):Vp.grs g=ZZ:=by
 unfold Vp.grs Ds.rest;simpa using h
theorem Cq(g:Z3 Gr)(k:Nat)(h:k<g.length):Vp.grAt g k=(VK (Z5 g[k].1)&&(Xt 0 3 [g[k].2.2]&&!Vp.among (Wk g[k]) ((g.take k).map Wk))):=by
 unfold Vp.grAt;rw[ZF h]
def PV(w wr:ZY)(cs:Zz Z1)(g:Z3 Gr)(k:Nat):Prop :=
 Z4 w.heap.size w wr/\row wr w.heap.size=cs/\wr.heap[w.heap.size+1]?=Z9 (.map (went ((g.take k).map Wk)) ((g.take k).map Wk).length)/\w.heap.size+2<=wr.heap.size
theorem mH{w:ZY}{G K:Zz Z1}{t T:TypeId}{g:Z3 Gr}{k:Nat}(h:PV w wr cs g k)(_:0<cs.size)(H:Z4 ((wr.alloc (.cells G t)).alloc (.cells K T)).heap.size ((wr.alloc (.cells G t)).alloc (.cells K T)) f) :
 PV w f cs g k/\(∀ i v,G[i]?=Z9 v->f.cell? ⟨wr.heap.size,i,Z7⟩=Z9 v)/\(∀ i v,K[i]?=Z9 v->f.cell? ⟨wr.heap.size+1,i,Z7⟩=Z9 v)/\wr.heap.size+2<=f.heap.size:=by
 obtain⟨c,y,A,D⟩:=h;have C:(wr.alloc (.cells G t)).heap.size=wr.heap.size+1:=by simp
 have S:((wr.alloc (.cells G t)).alloc (.cells K T)).heap.size=wr.heap.size+2:=by simp
 rw[S] at H;have z:=H.size;rw[S] at z
 have r:∀ j,j<wr.heap.size->f.heap[j]?=wr.heap[j]?:=fun j o =>
  (H.block j (by omega)).trans ((Zl _ _ (by omega)).trans (Zl _ _ o))
 refine⟨⟨⟨H.os.trans c.os,H.tape.trans c.tape,H.output.trans c.output,by have:=c.size;omega,fun j o=>(r j (by omega)).trans (c.block j o)⟩,?_,(r _ (by omega)).trans A,by omega⟩,fun i v x=>?_,fun i v x=>?_,z⟩
 .unfold row at *;rw[r _ (by omega)];exact y
 .rw[H.cell (p:=⟨wr.heap.size,i,Z7⟩) (by show wr.heap.size<_;omega),ZU (a:=⟨wr.heap.size,i,Z7⟩) (Zl _ _ (by show wr.heap.size<_;omega)),YH _ wr.heap.size i G t (0,0) (Zu wr _)];exact x
 .have:=YH _ _ i K T (0,0) (Zu (wr.alloc (.cells G t)) (.cells K T));rw[C] at this;rw[H.cell (p:=⟨wr.heap.size+1,i,Z7⟩) (by show wr.heap.size+1<_;omega),this];exact x
theorem Es{w:ZY}{g:Z3 Gr}{k:Nat}(h:PV w f cs g k)(j:k<g.length)(o:Obj) :
 PV w (setBlock (f.alloc o) (w.heap.size+1) (.map (went ((g.take k).map Wk++[Wk g[k]])) (((g.take k).map Wk).length+1))) cs g (k+1):=by
 obtain⟨H,c,r,t⟩:=h
 have i:(g.take (k+1)).map Wk=(g.take k).map Wk++[Wk g[k]]:=by
  rw[ZK j,List.map_append];rfl
 refine⟨qU (H.alloc (by omega) o) (by omega) _,?_,?_,by simp [setBlock];omega⟩
 .unfold row at *;rw[kP _ _ _ _ (by omega),Zl _ _ (by omega)];exact c
 .rw[nZ _ _ _ (by simp;omega),i,ZM];rfl
theorem yj{o:Obj}{a i:Nat}(H:Z4 (wr.alloc o).heap.size (wr.alloc o) m)(h:wr.cell? ⟨a,i,Z7⟩=Z9 v)(ha:a<wr.heap.size):m.cell? ⟨a,i,Z7⟩=Z9 v:=by
 rw[H.cell (p:=⟨a,i,Z7⟩) (by show a<_;simp;omega),ZU (a:=⟨a,i,Z7⟩) (Zl wr o ha)];exact h
attribute [local go_sem] ap aq bN cK cC
theorem Fj(g:Z3 Gr)(w:ZY)(hm:MaxL w)(hg:GS w gr g) :
 ZJ Z8 175 #[.agg (e.vals d gr)] w fun r w'=>r=.returned (.bool (Vp.prof e g))/\Z4 w.heap.size w w':=by
 obtain⟨U,Z,rfl,hz,A⟩:=hg;have hw:=fun (s:Z6) (W:ZY) (h:Z4 w.heap.size w W)=>mS s W (hm.below h)
 have hr:=fun (n:Int) (b:Nat) (W:ZY) h=>kR 0 3 n b W h
 have HW:=lh hw;have HR:=lh hr;have HC:=lh A;clear hw hr A;have a9:=run_makeMap (P:=Z8) 268 (w.alloc (.cells (e.vals d (.slice U g.length Z)) 29));go_enter Tryz.func175,Tryz.ntmps175
 go_wp2_with fail
 go_loopw [11] (fun i wr=>∃ k:Nat,k<=g.length/\i=.int .i64 k/\PV w wr (e.vals d (.slice U g.length Z)) g k/\∀ j,j<k->Vp.grAt g j=ZZ) (fun i _=>g.length - (Zq i).toNat)
 case atStart =>
  refine⟨0,Zc _,rfl,⟨by exact aB,?_,?_,by simp⟩,fun j h=>by omega⟩
  .exact fA (t:=29) (fr:=(0,0)) ((Zl _ _ (by simp)).trans (Zu w _))
  .have:=Zu (w.alloc (.cells (e.vals d (.slice U g.length Z)) 29)) (.map #[] 0);show _=Z9 (Obj.map #[] 0)
   simpa using this
 case round =>
  obtain⟨k,hk,rfl,V,N⟩:=hrel;have HA:=lh N;clear N;have B0:=V.1;have z0:=B0.size;have z2:=V.2.2.2;have K:=lh V;by_cases C:k<g.length
  .obtain⟨ab,ao,rfl,R,a0⟩:=HC.o (by omega);obtain⟨p0,p1,p2⟩:=a0 k C;have q0:=(B0.cell (p:=⟨ab,ao+k*3,Z7⟩) R).trans p0;have q1:=(B0.cell (p:=⟨ab,ao+k*3+1,Z7⟩) R).trans p1;have q2:=(B0.cell (p:=⟨ab,ao+k*3+2,Z7⟩) R).trans p2;have S:=Cq g k C;obtain⟨Gk,hG⟩:∃ G,G=g[k]:=⟨_,rfl⟩;rw[<-hG] at S q0 q1 q2;have a3:=lh hG;clear hG V p0 p1 p2 a0;obtain⟨E,J,gl⟩:=Gk;simp only at S q0 q1 q2
   obtain⟨c,hc⟩:∃ c,c=Vp.among (E,J) ((g.take k).map Wk):=⟨_,rfl⟩;rw[show Wk (E,J,gl)=(E,J) from rfl,<-hc] at S;have O:=lh hc;clear hc;have T:=HW.o E;have hy:=HR.o gl;generalize VK (Z5 E)=x at S T;generalize Xt 0 3 [gl]=y at S hy;have X:=lh T;have Y:=lh hy;have HV:=lh S;clear T hy S;cases x
   .go_wp2_with (first|(go_at_call 165;(with_reducible refine (X.o _ (by exact aB)).mono ?_);rintro _ f ⟨rfl,H⟩;have z:=mH K.o (by simp [ah]) H;have d2:=z.2.1 2 _ rfl;clear H))
    go_ret
    exact⟨aF (by unfold Vp.prof;rw[pE g k C (by rw[HV.o];rfl)];rfl),z.1.1⟩
   cases y
   .go_wp2_with (first|(go_at_call 165;(with_reducible refine (X.o _ (by exact aB)).mono ?_);rintro _ f ⟨rfl,H⟩;have z:=mH K.o (by simp [ah]) H;have d2:=z.2.1 2 _ rfl;have B2:=z.1.1;have zz:=z.2.2.2;clear H)|((with_reducible refine (Y.o _ _ (by simp [go_sem])).mono ?_);rintro _ w3 ⟨rfl,rfl⟩))
    go_ret
    exact⟨aF (by unfold Vp.prof;rw[pE g k C (by rw[HV.o];rfl)];rfl),by exact aB⟩
   cases c
   .have I:∀ W:ZY,W.heap[w.heap.size+1]?=Z9 (.map (went ((g.take k).map Wk)) ((g.take k).map Wk).length)->(XG 268 (.map (Z9 (w.heap.size+1))) (.agg #[.string E,.bool J]) Z2).run Z8 W=.ok (.bool Z2) W:=fun W h=>by have q:=wR W _ _ _ (E,J) h;rw[<-O.o] at q;exact q
    have a2:∀ W:ZY,W.heap[w.heap.size+1]?=Z9 (.map (went ((g.take k).map Wk)) ((g.take k).map Wk).length)->(WQ 268 (.map (Z9 (w.heap.size+1))) (.agg #[.string E,.bool J]) (.bool ZZ)).run Z8 W=.ok () (setBlock W (w.heap.size+1) (.map (went ((g.take k).map Wk++[(E,J)])) (((g.take k).map Wk).length+1))):=fun W h=>GW W _ _ (E,J) h O.o.symm
    have Q:=lh I;have a4:=lh a2;clear I a2;go_wp2_with (first|(go_at_call 165;(with_reducible refine (X.o _ (by exact aB)).mono ?_);rintro _ f ⟨rfl,H⟩;have z:=mH K.o (by simp [ah]) H;have d2:=z.2.1 2 _ rfl;have B2:=z.1.1;have zz:=z.2.2.2;have e0:=z.2.2.1 0 _ rfl;have e1:=z.2.2.1 1 _ rfl;have D:=z.1.2.2.1;have hl:=(fun o:Obj=>Q.o (f.alloc o) ((Zl f o (by omega)).trans D));have hu:=(fun o:Obj=>a4.o (f.alloc o) ((Zl f o (by omega)).trans D));have a6:wr.heap.size<f.heap.size:=(by omega);have a7:wr.heap.size+1<f.heap.size:=(by omega);clear H D)|((with_reducible refine (Y.o _ _ (by simp [go_sem])).mono ?_);rintro _ w3 ⟨rfl,rfl⟩))
    go_roundw
    case rel =>
     refine⟨k+1,by omega,by go_num,?_,?_⟩
     .have:=Es z.1 C (.cells #[.int .i64 gl] 3);rw[<-a3.o,show ((g.take k).map Wk).length=k by rw[Zt,YD];omega,List.map_take] at this;exact this
     .intro j hj;by_cases e:j=k
      .subst e;rw[HV.o];rfl
      .exact HA.o j (by omega)
    case measure=>simp [Zq];omega
   .have I:∀ W:ZY,W.heap[w.heap.size+1]?=Z9 (.map (went ((g.take k).map Wk)) ((g.take k).map Wk).length)->(XG 268 (.map (Z9 (w.heap.size+1))) (.agg #[.string E,.bool J]) Z2).run Z8 W=.ok (.bool ZZ) W:=fun W h=>by have q:=wR W _ _ _ (E,J) h;rw[<-O.o] at q;exact q
    have Q:=lh I;clear I;go_wp2_with (first|(go_at_call 165;(with_reducible refine (X.o _ (by exact aB)).mono ?_);rintro _ f ⟨rfl,H⟩;have z:=mH K.o (by simp [ah]) H;have d2:=z.2.1 2 _ rfl;have B2:=z.1.1;have zz:=z.2.2.2;have e0:=z.2.2.1 0 _ rfl;have e1:=z.2.2.1 1 _ rfl;have D:=z.1.2.2.1;have hl:=(fun o:Obj=>Q.o (f.alloc o) ((Zl f o (by omega)).trans D));have a6:wr.heap.size<f.heap.size:=(by omega);have a7:wr.heap.size+1<f.heap.size:=(by omega);clear H D)|((with_reducible refine (Y.o _ _ (by simp [go_sem])).mono ?_);rintro _ w3 ⟨rfl,rfl⟩))
    go_ret
    exact⟨aF (by unfold Vp.prof;rw[pE g k C (by rw[HV.o];rfl)];rfl),by exact aB⟩
  .have R0:=V.2.1;have ad:=ae R0 28 _ (bN e d (.slice U g.length Z));have af:=ae R0 31 _ (cK e d (.slice U g.length Z));have a5:=ae R0 32 _ (cC e d (.slice U g.length Z));have ag:w.heap.size<wr.heap.size:=by omega
   have al:w.heap.size≠wr.heap.size:=by omega
   have a1:Vp.grs g=ZZ:=EM g fun j hj=>HA.o j (by omega)
   have T:=HR.o e.lev;have hw:=HW.o e.owner
   have hD:Vp.prof e g=(Xt 0 3 [e.lev]&&(((Z5 e.owner).isEmpty || VK (Z5 e.owner))&&decide (g.length<=8))):=by
    unfold Vp.prof Vp.own;rw[a1,Zf]
   generalize Xt 0 3 [e.lev]=x at T hD;generalize VK (Z5 e.owner)=y at hw hD;have X:=lh T;have Y:=lh hw;have HD:=lh hD;clear T hw a1 V R0 hD;cases x
   .go_wp2_with ((with_reducible refine (X.o _ _ (by simp [go_sem])).mono ?_);rintro _ w3 ⟨rfl,rfl⟩)
    go_ret
    exact⟨aF (by rw[HD.o];rfl),by exact aB⟩
   by_cases h0:e.owner.size=0
   .have e0:e.owner.toList.isEmpty=ZZ:=ju _ h0;have HE:=lh (show (Z5 e.owner).isEmpty=ZZ by rw[Yk,Z0];exact h0);clear h0;go_wp2_with ((with_reducible refine (X.o _ _ (by simp [go_sem])).mono ?_);rintro _ w3 ⟨rfl,rfl⟩)
    go_ret
    exact⟨aF (by rw[HD.o,HE.o,Bool.true_or,Zf,Zf,Zr,ZW,ZW];omega),by exact aB⟩
   .have e0:e.owner.toList.isEmpty=Z2:=gG _ (by omega);have HE:=lh (show (Z5 e.owner).isEmpty=Z2 by rw[Yz,Ne,Yk,Z0];exact h0);clear h0;cases y
    .go_wp2_with (first|((with_reducible refine (X.o _ _ (by simp [go_sem])).mono ?_);rintro _ w3 ⟨rfl,rfl⟩)|(go_at_call 165;(with_reducible refine (Y.o _ (by exact aB)).mono ?_);rintro _ m ⟨rfl,H⟩;have B4:=Below.trans (show Z4 w.heap.size w _ by exact aB) (H.mono (by simp;omega));clear H))
     go_ret
     exact⟨aF (by rw[HD.o,HE.o];rfl),B4⟩
    .go_wp2_with (first|((with_reducible refine (X.o _ _ (by simp [go_sem])).mono ?_);rintro _ w3 ⟨rfl,rfl⟩)|(go_at_call 165;(with_reducible refine (Y.o _ (by exact aB)).mono ?_);rintro _ m ⟨rfl,H⟩;have a8:=yj H a5 (by omega);have B4:=Below.trans (show Z4 w.heap.size w _ by exact aB) (H.mono (by simp;omega));clear H))
     go_ret
     exact⟨aF (by rw[HD.o,HE.o,Bool.false_or,Zf,Zf,Zr,ZW,ZW];omega),B4⟩
end
section
theorem oA:cx 32:=enters_of Tryz.func32 (by kernel_rfl) rfl
theorem pA:cx 89:=enters_of Tryz.func89 (by kernel_rfl) rfl
theorem oV:cx 156:=enters_of Tryz.func156 (by kernel_rfl) rfl
theorem sk:cx 157:=enters_of Tryz.func157 (by kernel_rfl) rfl
theorem oW:cx 174:=enters_of Tryz.func174 (by kernel_rfl) rfl
theorem sm:cx 175:=enters_of Tryz.func175 (by kernel_rfl) rfl
theorem uM(c b g:Nat)(s:Z3 ZP × Nat)(e:En)(gr:Z1)(w:ZY)(h:RS w c b g s (e.vals (.slice Z7 0 0) gr))(i:s.1.length<=1000) :
 ZJ Z8 156 #[.pointer (Z9 ⟨c,0,Z7⟩),.pointer (Z9 ⟨g,0,Z7⟩)] w fun r w'=>r=.returned (.tuple #[])/\∃ A,RS w' c b g (dR e s).2.2 ((dR e s).1.vals A gr)/\(IS w' A (dR e s).2.1/\∀ x,A.ownBlock=Z9 x->w.heap.size<=x)/\G2 w w' b g:=by
 rcases Yr (cntv 4 (clip (Y2 (X4 (sq (X5 200 (X5 200 (Y2 (X4 (sq s 14)).2).2).2).2 2)).2).1)) with H|H
 .exact Cj c b g s e gr w h i (lh H)
 .exact Ck c b g s e gr w h i H
theorem ve(I:IS w d a)(h:DatOk e a):Writes w 156 (e.vals d gr) (dW e a):=by
 intro W c g i r _ j;have this:=EE c g [] e d gr a w W I i r j (fun x H=>by have:=h.n x H;omega) e.cls.toNat e.cr.toNat e.ex.toNat e.used.toNat (YX h.c.1).symm (YX h.cr.1).symm (YX h.ex.1).symm (YX h.u.1).symm (by have A:=h.c;have t:=h.cr;have y:=h.ex;have z:=h.u;omega) (by have:=h.v;omega) (by have:=h.o;omega) h.nl4 (fun x H=>by have:=h.nl x H;omega) (by simp);rw[YP] at this;exact this
theorem vf(G:Z3 Gr)(w:ZY)(I:GS w gr G)(h:ProfOk e G):Writes w 174 (e.vals d gr) (dH e G):=by
 intro W c g H j _ i;have this:=EG c g [] e d gr G w W I H j i h (by simp);rw[YP] at this;exact this
theorem IS.keep{l:Z3 Int}(h:IS u v l)(b:Nat)(D:∀ x,v.ownBlock=Z9 x->b<=x)(E:u.heap.size<=f.heap.size)(C:∀ k,b<=k->k<u.heap.size->f.heap[k]?=u.heap[k]?):IS f v l:=by
 obtain⟨a,c,rfl,t,y⟩:=h;refine⟨a,c,rfl,t,fun r=>?_⟩
 obtain⟨i,o,rfl,H,A⟩:=y r;have z:=D i rfl;exact⟨i,o,rfl,ZH H E,fun k j=>(ZU (a:=⟨i,o+k,Z7⟩) (C i z H)).trans (A k j)⟩
theorem GS.keep{l:Z3 Gr}(h:GS u v l)(b:Nat)(E:∀ x,v.ownBlock=Z9 x->b<=x)(G:u.heap.size<=f.heap.size)(D:∀ k,b<=k->k<u.heap.size->f.heap[k]?=u.heap[k]?):GS f v l:=by
 obtain⟨a,c,rfl,z,A⟩:=h;refine⟨a,c,rfl,z,fun y=>?_⟩
 obtain⟨j,o,rfl,t,r⟩:=A y;have C:=E j rfl;have q:=fun i=>ZU (w:=u) (w':=f) (a:=⟨j,i,Z7⟩) (D j C t)
 exact⟨j,o,rfl,ZH t G,fun k H=>⟨(q _).trans (r k H).1,(q _).trans (r k H).2.1,(q _).trans (r k H).2.2⟩⟩
theorem aD{w:ZY}{l:Z3 Int}(h:IS w v l):one v=ZZ:=by obtain⟨a,c,rfl,_⟩:=h;rfl
theorem aE{w:ZY}{l:Z3 Gr}(h:GS w v l):one v=ZZ:=by obtain⟨a,c,rfl,_⟩:=h;rfl
def PD(e:En)(l:Z3 Int)(b:Nat)(w:ZY)(cs:Zz Z1):Prop:=∃ d,cs=(fg e).vals d (.slice Z7 0 0)/\IS w d l/\∀ x,d.ownBlock=Z9 x->b<=x
theorem PD.stable:Stable (PD e l):=fun b _ _ _ ⟨d,H,i,h⟩ j c=>⟨d,H,i.keep b h j c,h⟩
def PP(e:En)(l:Z3 Gr)(b:Nat)(w:ZY)(cs:Zz Z1):Prop:=∃ gr,cs=(fG e).vals (.slice Z7 0 0) gr/\GS w gr l/\∀ x,gr.ownBlock=Z9 x->b<=x
theorem PP.stable(l:Z3 Gr):Stable (PP e l):=fun b _ _ _ ⟨d,H,i,h⟩ j c=>⟨d,H,i.keep b h j c,h⟩
theorem DQ(h:DatOk e l)(j:(dW e l).length<=1000):Reads w 156 (dW e l) (zcells e.kind e.name) ([],0) (PD e l):=by
 intro W c b g _ _ _ _ R;refine (uM c b g (dW e l,0) ({ En.zero with kind:=e.kind,name:=e.name }:En) _ W R j).mono ?_
 rintro r w' ⟨rfl,A,H,I,G⟩;have i:=uf e l [] h;rw[Yu] at i;rw[i] at H I;exact⟨rfl,G,_,H,ah _ _ _,ay _ _ _ (aD I.1) rfl,A,rfl,I.1,I.2⟩
theorem DS(l:Z3 Gr)(w:ZY)(h:ProfOk e l)(o:(dH e l).length<=1000):Reads w 174 (dH e l) (zcells e.kind e.name) ([],0) (PP e l):=by
 intro W c b g _ _ _ _ R;refine (uN c b g (dH e l,0) ({ En.zero with kind:=e.kind,name:=e.name }:En) _ W R o).mono ?_
 rintro r w' ⟨rfl,G,H,I,j⟩;have i:=ug e l [] h;rw[Yu] at i;rw[i] at H I;exact⟨rfl,j,_,H,ah _ _ _,ay _ _ _ rfl (aE I.1),G,rfl,I.1,I.2⟩
theorem zG(h:DatOk e l):(dW e l).length<=1000:=by
 have A:=lr _ (jr _ h.n);have i:=lr _ (jr _ h.nl);rw[Zt] at A i;have H:(bK e).length=14:=rfl;have D:=h.nl4;have Q:=h.c;have E:=h.v;have G:=h.o;have I:=h.cr;have J:=h.ex;have K:=h.u;have C:=cZ e.cls.toNat (by omega);have j:=cZ e.vol.size (by omega);have r:=cZ e.own.size (by omega);have t:=cZ e.cr.toNat (by omega);have x:=cZ e.ex.toNat (by omega);have y:=cZ e.used.toNat (by omega);have z:=cZ l.length (by omega);unfold dW iG;simp only[encs,ZM,Zx,Yt,Z0]
 omega
theorem CZ(G:Z3 Gr)(w:ZY)(E:e.kind=0)(t:MaxL w)(T:Tab w)(c:IS w d a)(z:GS w gr G) :
 ZJ Z8 63 #[.agg (e.vals d gr)] w fun r w'=>r=.returned (.bool (fL e a G))/\Z4 w.heap.size w w':=by
 have j:X0 (.int .i64) (.int .i64 e.kind) fe5.toList 0=Z9 (Z9 (0,.agg (cN (68:Nat) 32 156 157))):=by rw[E];rfl
 have h:=fun W (b:Z4 w.heap.size w W)=>ez e.name W (t.below b)
 have H:=fun W (b:Z4 w.heap.size w W)=>Fg e d gr a W (t.below b) (T.below b) (c.below b)
 unfold fL;cases x:Ds.name (Z5 e.name)
 .rw[x] at h;exact lA 68 _ _ _ 0 e d gr w oA j h
 .rw[x] at h;cases y:Vp.dat e a
  .rw[y] at H;exact lf 68 _ _ _ 0 e d gr w oA sk j h H
  .rw[y] at H;have i:=(kx e a y).1;refine lz 68 _ _ _ 0 e d gr (dW e a) ([],0) _ _ w oA sk oV j h H (fun W b=>ve e d gr a W (c.below b) i) (fun W _=>DQ e a W i (zG e a i)) (PD.stable e a) rfl ?_
   rintro W b C o ⟨A,rfl,D,_⟩;exact lD (fg e) e _ _ d gr a a [] G W D (c.below o) (GS.nil W) (z.below o)
theorem Dd(G:Z3 Gr)(w:ZY)(I:e.kind=4)(x:MaxL w)(D:IS w d a)(i:GS w gr G) :
 ZJ Z8 63 #[.agg (e.vals d gr)] w fun r w'=>r=.returned (.bool (gD e a G))/\Z4 w.heap.size w w':=by
 have o:X0 (.int .i64) (.int .i64 e.kind) fe5.toList 0=Z9 (Z9 (4,.agg (cN (80:Nat) 89 174 175))):=by rw[I];rfl
 have H:=fun W (b:Z4 w.heap.size w W)=>Gu e.name W (x.below b)
 have c:=fun W (b:Z4 w.heap.size w W)=>Fj e d gr G W (x.below b) (i.below b)
 unfold gD;cases z:Ds.pat (Z5 e.name)
 .rw[z] at H;exact lA 80 _ _ _ 4 e d gr w pA o H
 .rw[z] at H;cases y:Vp.prof e G
  .rw[y] at c;exact lf 80 _ _ _ 4 e d gr w pA sm o H c
  .rw[y] at c;have h:=km e G y
   have j:(dH e G).length<=1000:=by
    have Z:=cZ e.lev.toNat (by have:=h.1.l;omega);have J:=cZ e.owner.size (by have:=h.2.2.1;omega);have K:=cZ G.length (by have:=h.1.g8;omega);have N:=pF G h.2.2.2;have O:=h.1.g8;have P:=h.2.2.1;unfold dH;simp only[ZM,Z0]
    omega
   refine lz 80 _ _ _ 4 e d gr (dH e G) ([],0) _ _ w pA sm oW o H c (fun W b=>vf e d gr G W (i.below b) h.1) (fun W _=>DS e G W h.1 j) (PP.stable e G) rfl ?_
   rintro W b C t ⟨A,rfl,E,_⟩;exact lD (fG e) e _ _ d gr [] a G G W (IS.nil W) (D.below t) E (i.below t)
attribute [local go_sem ↓] aZ bf
attribute [local go_sem] aS aH aK aT ak aI aw az aM ap aq ah aQ aL aP aO aR aY aW bD
theorem qj(k:Int)(h:X0 (.int .i64) (.int .i64 k) fe5.toList 0=Z9 Z7)(W:ZY)(m:Nat)(H:W.heap[m]?=Z9 (.map fe5 5)) :
 (XG 138 (.map (Z9 m)) (.int .i64 k) ZZ).run Z8 W=.ok (.tuple #[.agg #[.int .u8 0,.nilFunc,.nilFunc,.nilFunc],.bool Z2]) W:=uG W m k _ H h sw
theorem Fi(H:¬ (0<=e.kind/\e.kind<=4)) :
 ZJ Z8 63 #[.agg (e.vals d gr)] w fun r w'=>r=.returned (.bool Z2)/\Z4 w.heap.size w w':=by
 have h:=uL e.kind H;clear H;have S:(w.alloc (.cells (e.vals d gr) 29)).heap.size=w.heap.size+1:=by simp
 have c:(XG 138 (.map (Z9 (w.heap.size+1))) (.int .i64 e.kind) ZZ).run Z8 ((w.alloc (.cells (e.vals d gr) 29)).alloc (.map fe5 5)).drew=.ok (.tuple #[.agg #[.int .u8 0,.nilFunc,.nilFunc,.nilFunc],.bool Z2]) ((w.alloc (.cells (e.vals d gr) 29)).alloc (.map fe5 5)).drew:=by
  refine qj e.kind h _ _ ?_
  have:=Zu (w.alloc (.cells (e.vals d gr) 29)) (.map fe5 5);rw[S] at this;exact this
 have i:∀ o,(XG 138 (.map (Z9 (w.heap.size+1))) (.int .i64 e.kind) ZZ).run Z8 (((w.alloc (.cells (e.vals d gr) 29)).alloc (.map fe5 5)).alloc o).drew=.ok (.tuple #[.agg #[.int .u8 0,.nilFunc,.nilFunc,.nilFunc],.bool Z2]) (((w.alloc (.cells (e.vals d gr) 29)).alloc (.map fe5 5)).alloc o).drew:=fun o=>by
  refine qj e.kind h _ _ ?_
  have:=Zu (w.alloc (.cells (e.vals d gr) 29)) (.map fe5 5);rw[S] at this;exact (Zl ((w.alloc (.cells (e.vals d gr) 29)).alloc (.map fe5 5)) o (by simp)).trans this
 have j:∀ o,(XG 138 (.map (Z9 (w.heap.size+1+1))) (.int .i64 e.kind) ZZ).run Z8 (((w.alloc (.cells (e.vals d gr) 29)).alloc o).alloc (.map fe5 5)).drew=.ok (.tuple #[.agg #[.int .u8 0,.nilFunc,.nilFunc,.nilFunc],.bool Z2]) (((w.alloc (.cells (e.vals d gr) 29)).alloc o).alloc (.map fe5 5)).drew:=fun o=>by
  refine qj e.kind h _ _ ?_
  have t:((w.alloc (.cells (e.vals d gr) 29)).alloc o).heap.size=w.heap.size+1+1:=by simp
  have:=Zu ((w.alloc (.cells (e.vals d gr) 29)).alloc o) (.map fe5 5);rw[t] at this;exact this
 clear h S;go_enter Tryz.func63,Tryz.ntmps63
 go_upto_region 1 with fail
 go_cut [3,4] (fun _ T W=>T=.bool Z2/\Z4 w.heap.size w W)
 case first =>
  go_region_law (first|(go_simp;go_at_call 74;(with_reducible refine (iC _).mono ?_);rintro _ u ⟨rfl,rfl⟩))
  all_goals
   go_wp2_with fail
   go_meet
   exact⟨rfl,by exact aB⟩
 case rest =>
  obtain⟨rfl,B⟩:=hcut;go_wp2_with fail
  go_ret
  exact⟨rfl,B⟩
theorem lN(G:Z3 Gr)(w:ZY)(c:MaxL w)(T:Tab w)(z:e.name.size<=1000)(h:IS w d a)(H:GS w gr G) :
 ZJ Z8 63 #[.agg (e.vals d gr)] w fun r w'=>r=.returned (.bool (aA (e,a,G)))/\Z4 w.heap.size w w':=by
 unfold aA;simp only
 by_cases k0:e.kind=0
 .rw[ZT k0];exact CZ e d gr a G w k0 c T h H
 rw[ZX k0];by_cases k1:e.kind=1
 .rw[ZT k1];exact Da e d gr a G w k1 c h H
 rw[ZX k1];by_cases K:e.kind=2
 .rw[ZT K];exact Db e d gr a G w K c z h H
 rw[ZX K];by_cases i:e.kind=3
 .rw[ZT i];exact Dc e d gr a G w i c h H
 rw[ZX i];by_cases j:e.kind=4
 .rw[ZT j];exact Dd e d gr a G w j c h H
 rw[ZX j];exact Fi e d gr w (by omega)
end
section
attribute [local go_sem ↓ high] fe mI
attribute [local go_sem] fx aH ak aI aw az aM ah fp ap aq cf cM df dc ef bN cB dv cK cC
end
end Go.Proofs.YtnkjliahpeebjaaGreatDoor
