/- Catalogs. -/
import Derived.Test.YtnkjliahpeebjaaGreatDoorVaE
import Derived.Test.YtnkjliahpeebjaaGreatDoorFoF
set_option maxRecDepth 8000
set_option maxHeartbeats 1600000
open Option renaming some->Z9,none->Z7
open Go.Proofs.Tryz renaming prog->Z8
open _root_ renaming ByteArray->Z6,List->Z1,decide_eq_true_eq->ZU,if_neg->ZS,if_pos->ZP,UInt8->ZM,beq_eq_false_iff_ne->ZJ,decide_eq_true->ZI,decide_eq_false->ZG,Array->Zy,Bool->Zj
open Go.Proofs.YtnkjliahpeebjaaGreatDoor.Ds renaming bl->Z5,bl_length->ZZ
open Go.RowKit renaming Below->Z4,intOf->Zq
open Go renaming Value->Z2,World->ZY,Calls->ZH,heap_alloc_new->Zs,heap_alloc_old->Zk,cell_of_row->Yy,run_underlying->Yk,MapEntry->WW
open Bool renaming true->ZX,false->ZW,eq_iff_iff->Zn,true_and->Zc,eq_false_iff->Yq
open Nat renaming le_refl->ZV,le_trans->ZC,lt_of_lt_of_le->Zz,zero_le->Y6,zero_add->Yw,eq_zero_or_pos->Ym
open Go.World renaming cell?_of_block->ZT,frozen?_of_block->Y8
open List renaming length_append->ZO,take_succ_eq_append_getElem->ZK,getElem?_eq_getElem->ZE,length_cons->Zw,take_of_length_le->Zv,append_assoc->Zr,getD_eq_getElem?_getD->Zm,cons_append->Zg,length_map->Y4,getElem_mem->YN,getElem?_append_right->YH,append_nil->Yx,length_singleton->Yt,nil_append->Yn,length_take->Yj,isEmpty_iff_length_eq_zero->Yi,length_nil->XX,getElem?_eq_none->XC,replicate->V7
open Go.Proofs.YtnkjliahpeebjaaGreatDoor.Rd renaming num->YZ,txt->Yu,boo->Yb,txt_len->WR,num_len->V9
open Int renaming toNat_of_nonneg->YU
open Go.MapKept renaming run_getObj_map->Yz
open Go.Instr renaming lookup->Yv,findNow->X8,mapUpdate->X7,findAsking->XY
open Go.Proofs.YtnkjliahpeebjaaGreatDoor.Vp renaming rng->XD,gk->Wk,word->VU
namespace Go.Proofs.YtnkjliahpeebjaaGreatDoor
open Go.RowKit
variable(L:Z1 Gr)(s:Z6)(e:En){y wr z u w':ZY}{v:Z2}(k:Z6 × Zj)(d gr:Z2)(a l:Z1 Int){B n g f b:Nat}{cs:Zy Z2}{F:Nat->Z2}(w:ZY){p m:Z1 ZM × Nat}
theorem vq(g:Z1 Gr)(h:∀ x∈g,GrOk x):∀ k,(grs (g.take k)).length<=220*k
 | 0=>by simp [grs]
 | k+1=>by
   have i:=vq g h k;by_cases H:k<g.length
   .have c:=h g[k] (YN H);have o:=c.w;have q:=c.l;have E:=cZ g[k].1.size (by omega);have j:=cZ g[k].2.2.toNat (by omega);rw[ZK H,jY,ZO];simp only[grs,ZO,Zw,XX,ZZ]
    omega
   .rw[Zv (by omega)];rw[Zv (by omega)] at i;omega
theorem EG(c g:Nat)(l:Z1 ZM)(e:En)(d gr:Z2)(j:Z1 Gr)(o w:ZY)(hI:GS o gr j)(hB:Z4 o.heap.size o w)(b7:o.heap.size<=c)(h:WS w c g l (e.vals d gr))(hP:ProfOk e j)(hs:l.length<=1000) :
 ZH Z8 174 #[.pointer (Z9 ⟨c,0,Z7⟩),.pointer (Z9 ⟨g,0,Z7⟩)] w fun r w'=>r=.returned (.tuple #[])/\WS w' c g (l++dH e j) (e.vals d gr)/\w.grownBy w' (Z9 c):=by
 obtain⟨ba,bb,a1,ca⟩:=hP;have a4:=cK e d gr;rw[show e.lev=((e.lev.toNat:Nat):Int) by omega] at a4;have z1:=cZ e.lev.toNat (by omega);have z2:=cZ e.owner.size (by omega);have z3:=cZ j.length (by omega);have z4:=vq j a1;obtain⟨S1,e1⟩:∃ S,S=l++Wi.enc e.lev.toNat:=⟨_,rfl⟩;obtain⟨S2,e2⟩:∃ S,S=S1++(Wi.enc e.owner.size++Z5 e.owner):=⟨_,rfl⟩;obtain⟨P,e3⟩:∃ S,S=S2++Wi.enc j.length:=⟨_,rfl⟩;have b1:S1.length<=1010:=by rw[e1,ZO];omega
 have b2:S2.length<=1300:=by rw[e2,ZO,ZO,ZZ];omega
 have b3:P.length<=1400:=by rw[e3,ZO];omega
 have J:l++dH e j=P++grs j:=by
  rw[e3,e2,e1];unfold dH;simp only[Zr]
 have c1:=fun W (t:WS W c g l (e.vals d gr))=>kX c g 31 e.lev.toNat l _ W t (by omega) (by omega) a4
 rw[<-e1] at c1;have c2:=fun W (t:WS W c g S1 (e.vals d gr))=>lB c g 28 e.owner S1 _ W t (by omega) (by omega) (bN e d gr)
 rw[<-e2] at c2;have c3:=fun W (t:WS W c g S2 (e.vals d gr))=>tN c g j.length 8 S2 _ W t (by omega) (by omega) (by omega)
 rw[<-e3] at c3;obtain⟨aa,R,rfl,cb,A⟩:=id hI;have V:=cC e d (.slice aa j.length R);have C1:=lh c1;have C2:=lh c2;have C3:=lh c3;have be:=lh A;have c8:=hB.size;have HB:=lh hB;have HF:=lh J;have Q:=lh V;have c4:=lh a1;have c7:=lh z4;have HH:=lh h;clear c1 c2 c3 e1 e2 e3 J hI hB z1 z2 z3 z4 a4 V A b1 b2 ba bb a1 h;go_enter Tryz.func174,Tryz.ntmps174
 go_wp2_with first|go_at_call 172;(with_reducible refine (C1.o _ HH.o).mono ?_);rintro _ y ⟨rfl,c9,ad⟩;have bi:=lh ad;clear ad|go_at_call 162;(with_reducible refine (C2.o _ c9).mono ?_);rintro _ u ⟨rfl,b5,af⟩;have V:=b5.2.1.cell 32 _ Q.o;have bk:=lh (bi.o.trans af);clear af|go_at_call 232;(with_reducible refine (C3.o _ b5).mono ?_);rintro _ w3 ⟨rfl,Z,al⟩;have V:=Z.2.1.cell 32 _ Q.o;obtain⟨_,_,b9⟩:=id Z.1;have k1:=b9.2.1;have bp:=lh (bk.o.trans al);clear al b9
 go_loopw [43] (fun i wr=>∃ k:Nat,k<=j.length/\i=.int .i64 k/\WS wr c g (P++grs (j.take k)) (e.vals d (.slice aa j.length R))/\w.grownBy wr (Z9 c)) (fun i _=>j.length - (Zq i).toNat)
 case atStart=>exact⟨0,Y6 _,rfl,by simpa [grs] using Z,bp.o⟩
 case round =>
  obtain⟨k,hk,rfl,H,U⟩:=hrel;have a7:=lh U;have V:=H.2.1.cell 32 _ Q.o;have a9:Z4 o.heap.size o wr:=HB.o.grown U c8 (fun x hx=>by cases hx;exact b7);clear U;by_cases a2:k<j.length
  .obtain⟨C,D,rfl,a0,b8⟩:=be.o (by omega);have a3:=c4.o j[k] (YN a2);obtain⟨q0,q1,q2⟩:=b8 k a2;have hz:=c7.o k;have b4:(P++grs (j.take k)).length<=3500:=by rw[ZO];omega
   obtain⟨L,hL⟩:∃ L,L=P++grs (j.take k):=⟨_,rfl⟩
   have q:P++grs (j.take (k+1))=((L++(Wi.enc j[k].1.size++Z5 j[k].1))++[tb j[k].2.1])++Wi.enc j[k].2.2.toNat:=by
    rw[hL,ZK a2,jY];simp only[grs,Zr,Yx]
   rw[<-hL] at H b4;have ow:=a3.w;have ol:=a3.l;obtain⟨Gk,hG⟩:∃ G,G=j[k]:=⟨_,rfl⟩;rw[<-hG] at ow ol q q0 q1 q2;clear a3 hL hG hz b8;obtain⟨gw,gg,gl⟩:=Gk;simp only at ow ol q q0 q1 q2
   have y1:=cZ gw.size (by omega);obtain⟨n,rfl⟩:∃ n:Nat,gl=n:=⟨gl.toNat,by omega⟩;simp only[Int.toNat_natCast] at q
   have N:∀ W W' L',WS W c g L' (e.vals d (.slice (Z9 ⟨C,D,Z7⟩) j.length R))->Z4 o.heap.size o W->W.grownBy W' (Z9 c)->Z4 o.heap.size o W':=fun W W' _ _ K hg=>K.grown hg K.size (fun x hx=>by cases hx;exact b7)
   have t1:=fun (W:ZY) (t:WS W c g L (e.vals d (.slice (Z9 ⟨C,D,Z7⟩) j.length R))) (K:Z4 o.heap.size o W)=>ux c ⟨C,D+k*3,Z7⟩ gw L W (by omega) (by omega) t.1 ((K.cell (p:=⟨C,D+k*3,Z7⟩) a0).trans q0) t.2.2.2
   obtain⟨L1,X⟩:∃ L1,L1=L++(Wi.enc gw.size++Z5 gw):=⟨_,rfl⟩;rw[<-X] at t1 q;have m1:L1.length<=4000:=by rw[X,ZO,ZO,ZZ];omega
   have t2:=fun (W:ZY) (t:WS W c g L1 (e.vals d (.slice (Z9 ⟨C,D,Z7⟩) j.length R))) (K:Z4 o.heap.size o W)=>tr c ⟨C,D+k*3+1,Z7⟩ gg L1 W (by omega) t.1 ((K.cell (p:=⟨C,D+k*3+1,Z7⟩) a0).trans q1) t.2.2.2
   obtain⟨L2,Y⟩:∃ L2,L2=L1++[tb gg]:=⟨_,rfl⟩;rw[<-Y] at t2 q;have m2:L2.length<=4001:=by rw[Y,ZO,Yt];omega
   have t3:=fun (W:ZY) (t:WS W c g L2 (e.vals d (.slice (Z9 ⟨C,D,Z7⟩) j.length R))) (K:Z4 o.heap.size o W)=>mn c ⟨C,D+k*3+2,Z7⟩ n L2 W (by omega) (by omega) t.1 ((K.cell (p:=⟨C,D+k*3+2,Z7⟩) a0).trans q2) t.2.2.2
   rw[<-q] at t3;have T1:=lh t1;have T2:=lh t2;have T3:=lh t3;have HS:=lh N;have HW:=lh H;have a6:=lh a9;clear t1 t2 t3 N H q X Y m1 m2 y1 ow ol q0 q1 q2 b4 a9
   go_wp2_with first|go_at_call 162;(with_reducible refine (T1.o _ HW.o a6.o).mono ?_);rintro _ z ⟨rfl,ar,E⟩;have O:=lh (HW.o.grown E ar);have a5:=lh (HS.o _ _ _ HW.o a6.o E);have br:=lh (a7.o.trans E);clear E ar|go_at_call 161;(with_reducible refine (T2.o _ O.o a5.o).mono ?_);rintro _ w5 ⟨rfl,av,I⟩;have a8:=lh (O.o.grown I av);have bc:=lh (HS.o _ _ _ O.o a5.o I);have bs:=lh (br.o.trans I);clear I av|go_at_call 172;(with_reducible refine (T3.o _ a8.o bc.o).mono ?_);rintro _ w6 ⟨rfl,b0,T⟩;have c5:=lh (a8.o.grown T b0);have c0:=lh (bs.o.trans T);clear T b0
   go_roundw
   case rel=>exact⟨k+1,by omega,by go_num,c5.o,c0.o⟩
   case measure=>simp [Zq];omega
  .have b6:WS wr c g (P++grs j) (e.vals d (.slice aa j.length R)):=by
    rw[Zv (by omega)] at H;exact H
   have c6:=lh b6;clear H b6;go_wp2_with fail
   go_end0
   exact⟨rfl,by rw[HF.o];exact c6.o,a7.o⟩
def VB(w:ZY)(g n:Nat)(F:Nat->Z2):Prop:=(∀ k,k<n->w.cell? ⟨g,k,Z7⟩=Z9 (F k))/\(∀ o,w.frozen? ⟨g,o,Z7⟩=ZW)/\g<w.heap.size
theorem VB.grown{w:ZY}{row:Option Nat}(h:VB w g n F)(c:w.grownBy w' row)(r:Z9 g≠row):VB w' g n F:=by
 have H:=c.block g h.2.2 r;refine⟨fun k i=>?_,fun o=>?_,Zz h.2.2 c.size⟩
 .rw[ZT (a:=⟨g,k,Z7⟩) H];exact h.1 k i
 .rw[Y8 (a:=⟨g,o,Z7⟩) H];exact h.2.1 o
theorem VB.g2{w:ZY}{a b:Nat}(h:VB w f n F)(c:G2 w w' a b)(ha:f≠a)(H:f≠b):VB w' f n F:=by
 have H:=c.block f h.2.2 ha H;refine⟨fun k i=>?_,fun o=>?_,Zz h.2.2 c.size⟩
 .rw[ZT (a:=⟨f,k,Z7⟩) H];exact h.1 k i
 .rw[Y8 (a:=⟨f,o,Z7⟩) H];exact h.2.1 o
theorem VB.set{w:ZY}(h:VB w g n F)(c:Nat)(q:c<n)(v:Z2):VB (w.setCell ⟨g,c,Z7⟩ v) g n (fun k=>if k=c then v else F k):=by
 refine⟨fun k r=>?_,fun o=>by have:=h.2.1 o;simpa using this,by simpa using h.2.2⟩
 have j:=h.1 k r;have H:=h.1 c q;by_cases e:k=c
 .subst e;simp [go_sem,H]
 .show _=Z9 (if k=c then v else F k)
  rw[ZS e,<-j];have E:c≠k:=fun h=>e h.symm
  have i:(c==k)=ZW:=by simpa using E
  simp [go_sem]
theorem VB.other{w:ZY}(h:VB w g n F)(G c:Nat)(H:g≠G)(v:Z2):VB (w.setCell ⟨G,c,Z7⟩ v) g n F:=by
 refine⟨fun k i=>?_,fun o=>by have:=h.2.1 o;simpa using this,by simpa using h.2.2⟩
 rw[<-h.1 k i];have E:(G==g)=ZW:=by simpa using fun h=>H h.symm
 simp [go_sem]
def gcell(x:Gr)(j:Nat):Z2:=if j=0 then .string x.1 else if j=1 then .bool x.2.1 else .int .i64 x.2.2
def gzero:Gr:=(⟨#[]⟩,ZW,0)
def fF(L:Z1 Gr)(i:Nat):Z2:=gcell (L.getD (i / 3) gzero) (i % 3)
theorem Ci(i:Nat):fF [] i=gcell gzero (i % 3):=by unfold fF;simp
theorem Ay(x:Gr)(k:Nat)(h:L.length=k):(fun i=>if i=k*3+2 then Value.int .i64 x.2.2 else (fun i=>if i=k*3+1 then Value.bool x.2.1 else (fun i=>if i=k*3 then Value.string x.1 else fF L i) i) i)=fF (L++[x]):=by
 funext i
 simp only
 subst h;unfold fF;rcases Nat.lt_or_ge i (L.length*3) with c|c
 .rw[ZS (by omega),ZS (by omega),ZS (by omega),Zm,Zm,List.getElem?_append_left (by omega)]
 .rcases (by omega:i=L.length*3\/i=L.length*3+1\/i=L.length*3+2\/L.length*3+3<=i) with H|H|H|H
  .rw[ZS (by omega),ZS (by omega),ZP H,Zm,YH (by omega),show i / 3 - L.length=0 by omega,show i % 3=0 by omega];rfl
  .rw[ZS (by omega),ZP H,Zm,YH (by omega),show i / 3 - L.length=0 by omega,show i % 3=1 by omega];rfl
  .rw[ZP H,Zm,YH (by omega),show i / 3 - L.length=0 by omega,show i % 3=2 by omega];rfl
  .rw[ZS (by omega),ZS (by omega),ZS (by omega),Zm,Zm,XC (by omega),XC (by rw[ZO,Yt];omega)]
theorem Ex(k:Nat)(h:k<L.length)(j:Nat)(H:j<3):fF L (k*3+j)=gcell L[k] j:=by
 unfold fF;rw[show (k*3+j) / 3=k by omega,show (k*3+j) % 3=j by omega,Zm,ZE h];rfl
theorem VB.gs{w:ZY}{L:Z1 Gr}(h:VB w g (n*3) (fF L))(o:L.length=n)(q:n<=1000000):GS w (.slice (Z9 ⟨g,0,Z7⟩) n n) L :=
 ⟨_,n,by rw[o],by omega,fun _=>⟨g,0,rfl,h.2.2,fun k j=>by
  have H:=h.1 (k*3+0) (by omega);have c:=h.1 (k*3+1) (by omega);have i:=h.1 (k*3+2) (by omega);rw[Ex L k j _ (by decide)] at H c i;refine⟨?_,?_,?_⟩
  .rw[Yw];exact H
  .rw[Yw];exact c
  .rw[Yw];exact i⟩⟩
theorem GD:(Tryz.prog.info? 103).map (fun i=>(i.zero,i.size,i.bytes))=Z9 (Z9 (.agg #[.string ⟨#[]⟩,.bool ZW,.int .i64 0]),3,32):=by kernel_rfl
theorem VB.made{w:ZY}{e:Nat}(h:w.ownsRow B e 3 (.slice (Z9 ⟨g,0,Z7⟩) n n) n (madeCells (Value.agg #[.string ⟨#[]⟩,.bool ZW,.int .i64 0]).cells (n*3)).toList)(i:0<n):VB w g (n*3) (fF []):=by
 have H:∀ k,k<n*3->w.cell? ⟨g,k,Z7⟩=Z9 (fF [] k):=fun k c=>by
  rw[h.cellAt k c,Ci];unfold madeCells;rw[Array.getElem?_toList,Array.getElem?_map,Array.getElem?_range,ZP c];show Z9 ((#[Value.string ⟨#[]⟩,.bool ZW,.int .i64 0]:Zy Z2)[k % 3]!)=_
  rcases (by omega:k % 3=0\/k % 3=1\/k % 3=2) with e|e|e <;> rw[e] <;> rfl
 exact⟨H,fun o=>h.frozenAt o,block_lt_of_cell (H 0 (by omega))⟩
theorem qD{w:ZY}{c j:Nat}(h:RS wr c b g p cs)(r:c<w.heap.size)(x:b<w.heap.size)(t:g<w.heap.size)(H:w.heap.size<=f)(N:VB wr f n F)(o:G2 w wr b g)(R:RL y b m)(G:wr.grownBy y (Z9 b))(q:j<n)(v:Z2) :
 RS (y.setCell ⟨f,j,Z7⟩ v) c b g m cs/\VB (y.setCell ⟨f,j,Z7⟩ v) f n (fun i=>if i=j then v else F i)/\G2 w (y.setCell ⟨f,j,Z7⟩ v) b g :=
 ⟨h.far R G ⟨f,j,Z7⟩ (by show f≠c;omega) (by show f≠b;omega) (by show f≠g;omega) _,(N.grown G (by intro e;have:=Option.some.inj e;omega)).set j q v,o.far G H _⟩
theorem Gz{w W i:ZY}{c m:Nat}{S:Z1 ZM × Nat}{E:En}{d:Z2}(h:RS W c b g S (E.vals d (.slice Z7 0 0)))(q:G2 w W b g)(j:i.ownsRow W.heap.size 103 3 (.slice (Z9 ⟨W.heap.size,0,Z7⟩) m m) m (madeCells (Value.agg #[.string ⟨#[]⟩,.bool ZW,.int .i64 0]).cells (m*3)).toList)(H:W.grownBy i Z7)(x:0<m) :
 i.frozen? ⟨g,32,Z7⟩=ZW/\i.cell? ⟨g,32,Z7⟩=Z9 (.slice Z7 0 0)/\RS (i.setCell ⟨g,32,Z7⟩ (.slice (Z9 ⟨W.heap.size,0,Z7⟩) m m)) c b g S (E.vals d (.slice (Z9 ⟨W.heap.size,0,Z7⟩) m m))/\w.heap.size<=W.heap.size/\VB (i.setCell ⟨g,32,Z7⟩ (.slice (Z9 ⟨W.heap.size,0,Z7⟩) m m)) W.heap.size (m*3) (fF [])/\G2 w (i.setCell ⟨g,32,Z7⟩ (.slice (Z9 ⟨W.heap.size,0,Z7⟩) m m)) b g:=by
 have o:=h.2.2.1.2.2;have G:W.grownBy i (Z9 b):=⟨H.os,H.tape,H.output,H.size,fun k t _=>H.block k t (by simp)⟩;have r:=H.block g o (by simp);have ha:=h.after (h.2.1.grown H h.2.2.2.2.2.2.2) G 32 (by rw[ah];decide) (.slice (Z9 ⟨W.heap.size,0,Z7⟩) m m);rw[wE] at ha;exact⟨(Y8 (a:=⟨g,32,Z7⟩) r).trans (h.2.2.1.2.1 32),(ZT (a:=⟨g,32,Z7⟩) r).trans (h.2.2.1.cell 32 _ (cC E d _)),ha.1,q.size,(VB.made j x).other g 32 (by omega) _,q.trans ha.2⟩
theorem uN(c b g:Nat)(s:Z1 ZM × Nat)(e:En)(d:Z2)(w:ZY)(h:RS w c b g s (e.vals d (.slice Z7 0 0)))(hs:s.1.length<=1000) :
 ZH Z8 174 #[.pointer (Z9 ⟨c,0,Z7⟩),.pointer (Z9 ⟨g,0,Z7⟩)] w fun r w'=>r=.returned (.tuple #[])/\∃ a6,RS w' c b g (fW e s).2.2 ((fW e s).1.vals d a6)/\(GS w' a6 (fW e s).2.1/\∀ x,a6.ownBlock=Z9 x->w.heap.size<=x)/\G2 w w' b g:=by
 obtain⟨S1,q1⟩:∃ S,S=(YZ s).2:=⟨_,rfl⟩;obtain⟨E1,r1⟩:∃ E:En,E=e.sLev (clip (YZ s).1):=⟨_,rfl⟩;obtain⟨S2,q2⟩:∃ S,S=(Yu 200 S1).2:=⟨_,rfl⟩;obtain⟨D,r2⟩:∃ E:En,E=E1.sOwner ⟨(Yu 200 S1).1.toArray⟩:=⟨_,rfl⟩;obtain⟨o,q7⟩:∃ S,S=(YZ S2).2:=⟨_,rfl⟩;obtain⟨m,qm⟩:∃ m,m=cntv 8 (clip (YZ S2).1):=⟨_,rfl⟩
 have a0:fW e s=(D,(dO o m).1,(dO o m).2):=by
  rw[qm,q7,r2,q2,r1,q1];rfl
 have b1:S1.1.length<=1000:=by rw[q1];exact ZC (V9 s) hs
 have b2:S2.1.length<=1000:=by rw[q2];exact ZC (WR 200 S1).1 b1
 have b7:o.1.length<=1000:=by rw[q7];exact ZC (V9 S2) b2
 have bk:∀ k,(dO o k).2.1.length<=1000:=fun k=>ZC (sI o k) b7
 have bi:m<=9:=by rw[qm];unfold cntv;split <;> omega
 have c1:∀ W,RS W c b g s (e.vals d (.slice Z7 0 0))->ZH Z8 172 #[.pointer (Z9 ⟨c,0,Z7⟩),.pointer (Z9 ⟨g,31,Z7⟩)] W fun r w'=>r=.returned (.tuple #[])/\RS w' c b g S1 (E1.vals d (.slice Z7 0 0))/\G2 W w' b g:=fun W q=>by
  have:=jt c b g 31 _ s _ W q (by omega) (cK e _ _);rw[If,<-q1] at this;rw[r1];exact this
 have c2:∀ W,RS W c b g S1 (E1.vals d (.slice Z7 0 0))->ZH Z8 162 #[.pointer (Z9 ⟨c,0,Z7⟩),.pointer (Z9 ⟨g,28,Z7⟩)] W fun r w'=>r=.returned (.tuple #[])/\RS w' c b g S2 (D.vals d (.slice Z7 0 0))/\G2 W w' b g:=fun W q=>by
  have:=jE c b g 28 _ S1 _ W q (by omega) (bN E1 _ _);rw[wD,<-q2] at this;rw[r2];exact this
 have c3:∀ W,RS W c b g S2 (D.vals d (.slice Z7 0 0))->ZH Z8 232 #[.pointer (Z9 ⟨c,0,Z7⟩),.int .i64 0,.int .i64 8] W fun r w'=>r=.returned (.int .i64 m)/\RS w' c b g o (D.vals d (.slice Z7 0 0))/\G2 W w' b g:=fun W q=>by
  have:=pc c b g 8 0 S2 _ W q (by omega) (by omega);rw[<-qm,<-q7] at this;exact this
 have V:=cC D d (.slice Z7 0 0);have C1:=lh c1;have C2:=lh c2;have C3:=lh c3;have T:=lh V;have HB:=lh bk;have HH:=lh h;have a9:=h.2.2.2.2.2.2.1;have ab:=h.2.2.2.2.2.2.2;have aa:=h.2.2.1.2.2;rw[a0];clear c1 c2 c3 V bk a0 q1 q2 q7 qm r1 r2 b1 b2 b7 h;rcases Ym m with U|U
 .have be:m<1:=by omega
  have HM:=lh U;clear U;go_enter Tryz.func174,Tryz.ntmps174
  go_wp2_with first|go_at_call 172;(with_reducible refine (C1.o _ HH.o).mono ?_);rintro _ y ⟨rfl,a8,I⟩;have a2:=lh I;clear I|go_at_call 162;(with_reducible refine (C2.o _ a8).mono ?_);rintro _ u ⟨rfl,P,J⟩;have V:=P.2.2.1.cell 32 _ T.o;have a3:=lh (a2.o.trans J);clear J|go_at_call 232;(with_reducible refine (C3.o _ P).mono ?_);rintro _ w3 ⟨rfl,A,K⟩;have V:=A.2.2.1.cell 32 _ T.o;have k1:w3.cell? ⟨c,1,Z7⟩=Z9 (.pointer (Z9 ⟨b,0,Z7⟩)):=A.1;have a4:=lh (a3.o.trans K);clear K
  go_loopw [43] (fun i wr=>i=.int .i64 0/\RS wr c b g o (D.vals d (.slice Z7 0 0))/\G2 w wr b g) (fun i _=>0)
  case atStart=>exact⟨rfl,A,a4.o⟩
  case round =>
   obtain⟨rfl,H,N⟩:=hrel;have R:=lh N;have b5:=lh H;clear N H;go_wp2_with fail
   go_end0
   exact⟨rfl,_,by rw[HM.o];exact b5.o,⟨by rw[HM.o];exact GS.nil _,fun _ h=>by cases h⟩,R.o⟩
 .obtain⟨i0,hi,af,al,ao⟩:=info_parts GD;have HI:=lh hi;have b6:=lh af;have b8:=lh al;have HM:Hid (i0.bytes*m<=281474976710656):=lh (by rw[ao];omega);have ad:m<=maxLen:=by unfold maxLen;omega
  have HX:=lh ad;clear hi af al ao ad;go_enter Tryz.func174,Tryz.ntmps174
  go_wp2_with first|go_at_call 172;(with_reducible refine (C1.o _ HH.o).mono ?_);rintro _ y ⟨rfl,a8,I⟩;have a2:=lh I;clear I|go_at_call 162;(with_reducible refine (C2.o _ a8).mono ?_);rintro _ u ⟨rfl,P,J⟩;have V:=P.2.2.1.cell 32 _ T.o;have a3:=lh (a2.o.trans J);clear J|go_at_call 232;(with_reducible refine (C3.o _ P).mono ?_);rintro _ w3 ⟨rfl,A,K⟩;have V:=A.2.2.1.cell 32 _ T.o;have k1:w3.cell? ⟨c,1,Z7⟩=Z9 (.pointer (Z9 ⟨b,0,Z7⟩)):=A.1;have a4:=lh (a3.o.trans K);clear K|at_make;refine wpList_make_full _ rfl _ _ 27 rfl w3.heap.size 103 i0 (.agg #[.string ⟨#[]⟩,.bool ZW,.int .i64 0]) 3 Tryz.underlying27 HI.o b6.o b8.o _ _ _ _ m rfl rfl (by omega) (by omega) HM.o HX.o (ZV _) ?_;intro w9 a1 Q;have C:=lh (Gz A a4.o a1 Q U);clear a1 Q;have f0:=C.o.1;have b9:=C.o.2.1
  go_loopw [43] (fun i wr=>∃ (k f:Nat),k<=m/\i=.int .i64 k/\RS wr c b g (dO o k).2 (D.vals d (.slice (Z9 ⟨f,0,Z7⟩) m m))/\w.heap.size<=f/\VB wr f (m*3) (fF (dO o k).1)/\G2 w wr b g) (fun i _=>m - (Zq i).toNat)
  case atStart=>exact⟨0,_,Y6 _,rfl,C.o.2.2.1,C.o.2.2.2.1,C.o.2.2.2.2.1,C.o.2.2.2.2.2⟩
  case round =>
   obtain⟨k,f,hk,rfl,H,hB,hN,N⟩:=hrel;have R:=lh N;have V:=H.2.2.1.cell 32 _ (cC D d (.slice (Z9 ⟨f,0,Z7⟩) m m));clear N;by_cases bc:k<m
   .have hb:=HB.o k;have hL:=o5 o k;obtain⟨p,Z⟩:∃ p,p=(dO o k).2:=⟨_,rfl⟩;obtain⟨L,a7⟩:∃ L,L=(dO o k).1:=⟨_,rfl⟩;have e2:(dO o (k+1)).2=(iP p).2:=by rw[Z];rfl
    have e1:(dO o (k+1)).1=L++[(iP p).1]:=by rw[Z,a7];rfl
    rw[<-Z] at H hb;rw[<-a7] at hN hL;clear Z a7;obtain⟨sa,X⟩:∃ sa,sa=(Yu 200 p).2:=⟨_,rfl⟩;obtain⟨sb,Y⟩:∃ sb,sb=(Yb sa).2:=⟨_,rfl⟩;have ba:sa.1.length<=1000:=by rw[X];exact ZC (WR 200 p).1 hb
    have bb:sb.1.length<=1000:=by rw[Y];exact ZC (Rd.boo_len sa) ba
    have eG:iP p=((⟨(Yu 200 p).1.toArray⟩,(Yb sa).1,((clip (YZ sb).1:Nat):Int)),(YZ sb).2):=by rw[Y,X];rfl
    rw[eG] at e1 e2;have t1:=fun (W:ZY) (q:RS W c b g p (D.vals d (.slice (Z9 ⟨f,0,Z7⟩) m m))) (F:Nat->Z2) (O:VB W f (m*3) F)=>uu c b ⟨f,k*3,Z7⟩ _ p W (by omega) q.1 q.2.1 q.2.2.2.2.2.2.2 (O.1 (k*3) (by omega)) (O.2.1 _) O.2.2 (by show f≠b;omega)
    have t2:=fun (W:ZY) (q:RS W c b g sa (D.vals d (.slice (Z9 ⟨f,0,Z7⟩) m m))) (F:Nat->Z2) (O:VB W f (m*3) F)=>tp c b ⟨f,k*3+1,Z7⟩ _ sa W (by omega) q.1 q.2.1 q.2.2.2.2.2.2.2 (O.1 (k*3+1) (by omega)) (O.2.1 _) O.2.2 (by show f≠b;omega)
    have t3:=fun (W:ZY) (q:RS W c b g sb (D.vals d (.slice (Z9 ⟨f,0,Z7⟩) m m))) (F:Nat->Z2) (O:VB W f (m*3) F)=>mm c b ⟨f,k*3+2,Z7⟩ _ sb W (by omega) q.1 q.2.1 q.2.2.2.2.2.2.2 (O.1 (k*3+2) (by omega)) (O.2.1 _) O.2.2 (by show f≠b;omega)
    rw[<-X] at t1;rw[<-Y] at t2;have T1:=lh t1;have T2:=lh t2;have T3:=lh t3;have ar:=lh e1;have av:=lh e2;have HW:=lh H;have HN:=lh hN;have b0:=lh hL;clear t1 t2 t3 e1 e2 eG X Y H hN hL ba bb hb
    go_wp2_with first|go_at_call 162;(with_reducible refine (T1.o _ HW.o _ HN.o).mono ?_);rintro _ wq ⟨rfl,wy,t,ht,hR,hG,rfl⟩;have HS:=lh (qD HW.o a9 ab aa hB HN.o R.o hR hG (j:=k*3) (by omega) (.string t));have HT:=lh ht;clear hR hG ht|go_at_call 161;(with_reducible refine (T2.o _ HS.o.1 _ HS.o.2.1).mono ?_);rintro _ wq ⟨rfl,wz,hR,hG,rfl⟩;have G:=lh (qD HS.o.1 a9 ab aa hB HS.o.2.1 HS.o.2.2 hR hG (j:=k*3+1) (by omega) (.bool (Yb sa).1));clear hR hG|go_at_call 172;(with_reducible refine (T3.o _ G.o.1 _ G.o.2.1).mono ?_);rintro _ wq ⟨rfl,wx,hR,hG,rfl⟩;have a5:=lh (qD G.o.1 a9 ab aa hB G.o.2.1 G.o.2.2 hR hG (j:=k*3+2) (by omega) (.int .i64 (clip (YZ sb).1)));clear hR hG
    go_roundw
    case rel =>
     refine⟨k+1,f,by omega,by go_num,by rw[av.o];exact a5.o.1,hB,?_,a5.o.2.2⟩
     rw[ar.o,<-Ay L _ k b0.o,<-HT.o,Ds.mk_bl];exact a5.o.2.1
    case measure=>simp [Zq];omega
   .have ac:k=m:=by omega
    have b4:Hid (RS wr c b g (dO o m).2 (D.vals d (.slice (Z9 ⟨f,0,Z7⟩) m m))):=lh (by rw[ac] at H;exact H);have b3:Hid (VB wr f (m*3) (fF (dO o m).1)):=lh (by rw[ac] at hN;exact hN);clear H hN;go_wp2_with fail
    go_end0
    exact⟨rfl,_,b4.o,⟨b3.o.gs (o5 o m) (by omega),fun x hx=>by cases hx;exact hB⟩,R.o⟩
theorem qQ(c:ZM):((c.toNat:Int)==32)=decide (c=32):=by
 rw[Zn,beq_iff_eq,ZU];constructor
 .intro h;exact UInt8.toNat_inj.1 (by show c.toNat=32;omega)
 .rintro rfl;rfl
theorem AP(J:s.size<=1000) :
 ZH Z8 176 #[.string s,.int .u8 32] w fun e w'=>∃ t,e=.returned (.string t)/\Z5 t=Ek.trim (Z5 s)/\w'=w:=by
 go_enter Tryz.func176,Tryz.ntmps176
 go_wp2_with fail
 go_loopw [0] (fun v wr=>∃ (j:Nat) (t:Z6),j<=s.size/\v=.string t/\Z5 t=(Z5 s).take j/\Ek.tlen (Z5 s) s.size=Ek.tlen (Z5 s) j/\wr=w) (fun v _=>match v with|.string t=>t.size|_=>0)
 case atStart=>exact⟨s.size,s,ZV _,rfl,by rw[<-ZZ,List.take_length],rfl,rfl⟩
 case round =>
  obtain⟨j,t,I,rfl,o,q,rfl⟩:=hrel;have K:t.size=j:=by rw[<-ZZ,o,Yj,ZZ];omega
  by_cases G:0<j
  .have c:j - 1<t.size:=by omega
   have r:=Ds.bl_get t (j - 1) c
   have x:(Z5 s)[j - 1]?=Z9 t[j - 1]:=by
    have D:(Z5 t)[j - 1]?=(Z5 s)[j - 1]?:=by rw[o,List.getElem?_take_of_lt (by omega)]
    rw[<-D,ZE (by rw[ZZ];exact c),r]
   obtain⟨i,rfl⟩:∃ i,j=i+1:=⟨j - 1,by omega⟩;simp only[Nat.add_sub_cancel] at c r x
   have A:=qQ t[i];have T:=lh o;have E:=lh q;have C:=lh x;clear o q x r;by_cases h:t[i]=32
   .rw[ZI h] at A;have H:=lh h;clear h;go_wp2_with fail
    go_roundw
    case rel =>
     refine⟨i,t.extract 0 i,by omega,by go_num,?_,?_,trivial⟩
     .unfold Z5 at *;rw[ByteArray.data_extract];simp [T.o,List.take_take]
     .rw[E.o];exact Ek.tlen_yes _ _ (by rw[C.o,H.o])
    case measure=>simp;omega
   .rw[ZG h] at A;have H:=lh h;clear h;go_wp2_with fail
    go_ret
    refine⟨t,rfl,?_,rfl⟩
    unfold Ek.trim;rw[ZZ,E.o,Ek.tlen_no _ _ (by rw[C.o];intro e;exact H.o (Option.some.inj e))];exact T.o
  .obtain rfl:j=0:=by omega
   have T:=lh o;have E:=lh q;clear o q;go_wp2_with fail
   go_ret
   refine⟨t,rfl,?_,rfl⟩
   unfold Ek.trim;rw[ZZ,E.o];exact T.o
theorem oo(i:s.size<=1000) :
 ZH Z8 75 #[.string s,.string ⟨#[32]⟩] w fun e w'=>∃ t,e=.returned (.string t)/\Z5 t=Ek.trim (Z5 s)/\w'=w:=by
 by_cases h:s.size=0
 .have E:s.toList.isEmpty=ZX:=ju _ h;go_enter Tryz.func75,Tryz.ntmps75
  go_wp2_with fail
  go_ret
  refine⟨s,rfl,?_,rfl⟩
  have:Z5 s=[]:=List.length_eq_zero_iff.1 (by rw[ZZ];exact h);rw[this];rfl
 .have E:s.toList.isEmpty=ZW:=gG _ (by omega);have j:=fun W=>AP s W i
  clear h;go_enter Tryz.func75,Tryz.ntmps75
  go_wp2_with (go_at_call 176;(refine (j _).mono ?_);rintro e u ⟨t,rfl,H,rfl⟩;have c:=lh H;clear H)
  go_ret
  exact⟨t,rfl,c.o,rfl⟩
theorem Ez(k:Int)(h:0<=k/\k<=4):∃ A K B:Nat,X8 (.int .i64) (.int .i64 k) fe5.toList 0=Z9 (Z9 (k.toNat,.agg (cN ((Ek.letter k).toNat:Nat) A K B))):=by
 rcases (by omega:k=0\/k=1\/k=2\/k=3\/k=4) with rfl|rfl|rfl|rfl|rfl
 .exact⟨32,156,157,rfl⟩
 .exact⟨158,159,163,rfl⟩
 .exact⟨166,167,168,rfl⟩
 .exact⟨169,171,173,rfl⟩
 .exact⟨89,174,175,rfl⟩
theorem uL(k:Int)(h:¬ (0<=k/\k<=4)):X8 (.int .i64) (.int .i64 k) fe5.toList 0=Z9 Z7:=by
 have H:(k==0)=ZW:=by rw[ZJ];omega
 have c:(k==1)=ZW:=by rw[ZJ];omega
 have i:(k==2)=ZW:=by rw[ZJ];omega
 have j:(k==3)=ZW:=by rw[ZJ];omega
 have o:(k==4)=ZW:=by rw[ZJ];omega
 simp [X8,Instr.sameNow,fe5,H,c,i,j,o]
theorem rC(c:ZM):∀ n,Lib.repeatL [c] n=V7 n c
 | 0=>rfl
 | n+1=>by rw[Lib.repeatL,rC c n];rfl
theorem AL(i:s.size<=31)(W:ZY):ZH Z8 187 #[.string ⟨#[32]⟩,.int .i64 (31 - (s.size:Int))] W fun e w'=>∃ t,e=.returned (.string t)/\Z5 t=V7 (31 - s.size) 32/\t.size<=31/\Z4 W.heap.size W w':=by
 have h:=Tryz.strings_Repeat ⟨#[32]⟩ (31 - s.size) W (by omega) (by show 1*(31 - s.size)<=_;omega);rw[show ((31 - s.size:Nat):Int)=31 - (s.size:Int) by omega] at h;refine h.mono ?_
 rintro e w' ⟨rfl,c⟩;have H:Z5 ⟨(Lib.repeatL (⟨#[32]⟩:Z6).data.toList (31 - s.size)).toArray⟩=V7 (31 - s.size) 32:=by rw[Ds.bl_mk];exact rC 32 _
 refine⟨_,rfl,H,?_,c⟩
 rw[<-ZZ,H,List.length_replicate];omega
theorem pu(c:ZM)(W:ZY)(b:Nat)(h:W.cell? ⟨b,0,Z7⟩=Z9 (.int .u8 (c.toNat:Nat))) :
 (convert 156 9 (.slice (Z9 ⟨b,0,Z7⟩) 1 1)).run Z8 W=.ok (.string ⟨#[c]⟩) W:=by
 refine run_convert_bytes_back (P:=Z8) W 156 9 5 ⟨b,0,Z7⟩ 1 [c] Tryz.underlying156 Tryz.underlying5 Tryz.underlying9 ?_
 intro j H;obtain rfl:j=0:=by simpa using H
 simpa [Addr.add] using h
theorem rE{X:ZY}{t:TypeId}(h:Z4 ((X.alloc (.cells #[v] t)).drew).heap.size ((X.alloc (.cells #[v] t)).drew) u):u.cell? ⟨X.heap.size,0,Z7⟩=Z9 v:=by
 rw[h.cell (p:=⟨X.heap.size,0,Z7⟩) (by show X.heap.size<_;simp)];show (X.alloc (.cells #[v] t)).cell? ⟨X.heap.size,0,Z7⟩=_
 rw[Yy _ X.heap.size 0 _ t (0,0) (Zs X _)];rfl
theorem vP(k:Int)(s:Z6)(w:ZY) :
 ZH Z8 88 #[.int .i64 k,.string s] w fun r w'=>∃ t,r=.returned (.string t)/\Z5 t=Ek.key k (Z5 s)/\Z4 w.heap.size w w':=by
 by_cases H:0<=k/\k<=4
 .obtain⟨A,K,B,h⟩:=Ez k H;have j:=ny (w.alloc (.map fe5 5)) w.heap.size k _ _ (Zs w _) h;have x:Ek.isKind k=ZX:=by unfold Ek.isKind;simp;omega
  unfold cN at j;by_cases i:s.size<=31
  .have C:=AL s i;have D:=lh (Ek.key_yes k (Z5 s) H (by rw[ZZ];exact i));have R:=lh C;clear C h H x;generalize q:Ek.letter k=c at j D;clear q;have J:=pu c;have Q:¬ 9223372036854775807<1+s.size:=by omega
   have G:IntKind.i64.wrap (31 - (s.size:Int))=31 - (s.size:Int):=IntWalk.i64_in _ ⟨by omega,by omega⟩;go_enter Tryz.func88,Tryz.ntmps88
   go_wp2_with (go_at_call 74;(with_reducible refine (iC _).mono ?_);rintro _ y ⟨rfl,rfl⟩)
   go_region_law (first|(go_simp;go_at_call 187;(with_reducible refine (R.o _).mono ?_);rintro _ u ⟨t,rfl,E,P,o⟩;have T:=lh E;have a:¬ 9223372036854775807<1+s.size+t.size:=(by omega);have I:=Below.trans (show Z4 w.heap.size w _ by exact aB) (o.mono (by simp;try omega));have Z:=I.size;have N:u.cell? ⟨w.heap.size+1,0,Z7⟩=Z9 (.int .u8 (c.toNat:Nat)):=((o.cell (p:=⟨w.heap.size+1,0,Z7⟩) (by show w.heap.size+1<_;simp)).trans (by simp [go_sem]));(first|(have O:u.cell? ⟨w.heap.size+1+1,0,Z7⟩=Z9 (.int .u8 (c.toNat:Nat)):=(by simpa using rE o))|skip);clear E))
   all_goals
    go_wp2
    go_ret
    refine⟨_,rfl,?_,by exact aB⟩
    rw[D.o];unfold Ek.pad;rw[ZZ,<-T.o];simp [Z5]
  .have D:=lh (show Ek.key k (Z5 s)=[] by unfold Ek.key;rw[ZS (by rw[ZZ];omega)]);clear h H x;generalize q:Ek.letter k=c at j;clear q;go_enter Tryz.func88,Tryz.ntmps88
   go_wp2_with (go_at_call 74;(with_reducible refine (iC _).mono ?_);rintro _ y ⟨rfl,rfl⟩)
   go_ret
   exact⟨_,rfl,by rw[D.o];rfl,by exact aB⟩
 .have h:=uL k H;have j:=uG (w.alloc (.map fe5 5)) w.heap.size k _ (Zs w _) h sw;have D:=lh (show Ek.key k (Z5 s)=[] by unfold Ek.key Ek.isKind;rw[ZS (by simp;omega)]);clear h H;go_enter Tryz.func88,Tryz.ntmps88
  go_wp2_with (go_at_call 74;(with_reducible refine (iC _).mono ?_);rintro _ y ⟨rfl,rfl⟩)
  go_ret
  exact⟨_,rfl,by rw[D.o];rfl,by exact aB⟩
section
open Go.ChangeMaps (setBlock)
def wk(k:Z6 × Zj):Z2:=.agg #[.string k.1,.bool k.2]
def wents:Z1 (Z6 × Zj)->Nat->Z1 WW
 | [],_=>[]
 | k::r,i=>⟨wk k,.bool ZX,i⟩::wents r (i+1)
def went(K:Z1 (Z6 × Zj)):Zy WW:=(wents K 0).toArray
theorem rF(k:Z6 × Zj):∀ (K:Z1 (Z6 × Zj)) (i:Nat),wents (K++[k]) i=wents K i++[⟨wk k,.bool ZX,i+K.length⟩]
 | [],i=>rfl
 | a::r,i=>by rw[Zg,wents,wents,rF k r (i+1),Zw,Zg,Nat.add_assoc,Nat.add_comm 1]
theorem Hi(a b:Z6 × Zj)(w:ZY):(Op.equal 270 (wk a) (wk b)).run Z8 w=.ok (decide (a=b)) w:=by
 obtain⟨A,j⟩:=a;obtain⟨c,o⟩:=b;show (Op.equalIn (9999+1) 270 (.agg #[.string A,.bool j]) (.agg #[.string c,.bool o])).run Z8 w=_
 rw[run_equalIn_struct w 9999 270 _ _ (by simp [Program.fieldsOf,Tryz.underlying270]) (by kernel_rfl)];simp [Program.fieldsOf,Tryz.underlying270,Op.eqFields,go_sem]
 have e:(A.toList=c.toList)=(A=c):=propext ⟨fun h=>by
  have H:=Lib.toList_data A;have i:=Lib.toList_data c;exact Ds.bl_inj (H.symm.trans (h.trans i)),fun h=>by rw[h]⟩
 by_cases H:A=c
 .subst H;by_cases i:j=o <;> simp [i]
 .rw[ZS (fun h=>H (e ▸ h))];simp [H]
theorem pC(k:Z6 × Zj)(w:ZY):∀ (K:Z1 (Z6 × Zj)) (i j:Nat),
 (k ∉ K->(XY 270 (wk k) (wents K i) j).run Z8 w=.ok Z7 w)/\(k∈K->∃ n,(XY 270 (wk k) (wents K i) j).run Z8 w=.ok (Z9 (n,.bool ZX)) w)
 | [],i,j=>⟨fun _=>by simp [wents,XY],fun h=>by simp at h⟩
 | a::r,i,j=>by
   have I:=pC k w r (i+1) (j+1);have c:=Hi k a w;by_cases h:k=a
   .rw[ZI h] at c;refine⟨fun H=>absurd (by rw[h];exact List.mem_cons_self) H,fun _=>⟨j,by simp [wents,XY,c]⟩⟩
   .rw[ZG h] at c;refine⟨fun H=>?_,fun H=>?_⟩
    .have:=I.1 (fun q=>H (List.mem_cons_of_mem _ q));simp [wents,XY,c,this]
    .obtain⟨n,o⟩:=I.2 ((List.mem_cons.1 H).resolve_left h);exact⟨n,by simp [wents,XY,c,o]⟩
theorem wG(b:Zj)(w:ZY):(Instr.checkKey b 10000 270 (wk k)).run Z8 w=.ok () w:=by
 obtain⟨k1,K⟩:=k;cases b <;> kernel_rfl
theorem xm(E:Z1 WW)(w:ZY):(Instr.findKey 270 (wk k) E).run Z8 w=(XY 270 (wk k) E).run Z8 w :=
 run_findKey_eq w (by rw[Tryz.underlying270]) _ _
theorem wR(m n:Nat)(K:Z1 (Z6 × Zj))(k:Z6 × Zj)(c:w.heap[m]?=Z9 (.map (went K) n)) :
 (Yv 268 (.map (Z9 m)) (wk k) ZW).run Z8 w=.ok (.bool (Vp.among k K)) w:=by
 have h:=fun b=>wG k b w
 have o:=xm k (wents K 0) w;have q:=pC k w K 0 0;cases i:Vp.among k K
 rotate_left
 .obtain⟨j,H⟩:=q.2 ((oF k K).1 i);simp [Yv,Yk Tryz.underlying268,Yz c,h,went,o,H,Result.andThen]
 .have H:=q.1 (td k K i);simp [Yv,Yk Tryz.underlying268,Yz c,h,went,o,H,Result.andThen]
theorem GW(m:Nat)(K:Z1 (Z6 × Zj))(k:Z6 × Zj)(H:w.heap[m]?=Z9 (.map (went K) K.length))(i:Vp.among k K=ZW) :
 (X7 268 (.map (Z9 m)) (wk k) (.bool ZX)).run Z8 w=.ok () (setBlock w m (.map (went (K++[k])) (K.length+1))):=by
 have h:=wG k ZW w;have j:=xm k (wents K 0) w;have c:=(pC k w K 0 0).1 (td k K i);simp [X7,Yk Tryz.underlying268,Yz H,h,went,j,c,MapKept.run_setObj_map _ H,Result.andThen,setBlock,rF]
theorem nZ(m:Nat)(o:Obj)(h:m<w.heap.size):(setBlock w m o).heap[m]?=Z9 o:=by simp [setBlock,h]
theorem kP(m k:Nat)(o:Obj)(h:k≠m):(setBlock w m o).heap[k]?=w.heap[k]?:=by
 simp only[setBlock,Array.getElem?_setIfInBounds]
 rw[ZS (fun e=>h e.symm)]
theorem qU{w:ZY}{m:Nat}(h:Z4 B w w')(c:B<=m)(o:Obj):Z4 B w (setBlock w' m o) :=
 ⟨h.os,h.tape,h.output,by simpa [setBlock] using h.size,fun k H=>(kP w' m k o (by omega)).trans (h.block k H)⟩
theorem pE(g:Z1 Gr)(k:Nat)(H:k<g.length)(h:Vp.grAt g k=ZW):Vp.grs g=ZW:=by
 rw[Yq];intro e;rw[mD e k H] at h;cases h
theorem EM(g:Z1 Gr)(h:∀ j,j<g.length->Vp.grAt g j=ZX):Vp.grs g=ZX:=by
 unfold Vp.grs Ds.rest;simpa using h
theorem Cq(g:Z1 Gr)(k:Nat)(h:k<g.length):Vp.grAt g k=(VU (Z5 g[k].1)&&(XD 0 3 [g[k].2.2]&&!Vp.among (Wk g[k]) ((g.take k).map Wk))):=by
 unfold Vp.grAt;rw[ZE h]
def PV(w wr:ZY)(cs:Zy Z2)(g:Z1 Gr)(k:Nat):Prop :=
 Z4 w.heap.size w wr/\row wr w.heap.size=cs/\wr.heap[w.heap.size+1]?=Z9 (.map (went ((g.take k).map Wk)) ((g.take k).map Wk).length)/\w.heap.size+2<=wr.heap.size
theorem mH{w:ZY}{G K:Zy Z2}{t T:TypeId}{g:Z1 Gr}{k:Nat}(h:PV w wr cs g k)(_:0<cs.size)(H:Z4 ((wr.alloc (.cells G t)).alloc (.cells K T)).heap.size ((wr.alloc (.cells G t)).alloc (.cells K T)) u) :
 PV w u cs g k/\(∀ i v,G[i]?=Z9 v->u.cell? ⟨wr.heap.size,i,Z7⟩=Z9 v)/\(∀ i v,K[i]?=Z9 v->u.cell? ⟨wr.heap.size+1,i,Z7⟩=Z9 v)/\wr.heap.size+2<=u.heap.size:=by
 obtain⟨c,A,C,E⟩:=h;have D:(wr.alloc (.cells G t)).heap.size=wr.heap.size+1:=by simp
 have S:((wr.alloc (.cells G t)).alloc (.cells K T)).heap.size=wr.heap.size+2:=by simp
 rw[S] at H;have x:=H.size;rw[S] at x
 have q:∀ j,j<wr.heap.size->u.heap[j]?=wr.heap[j]?:=fun j o =>
  (H.block j (by omega)).trans ((Zk _ _ (by omega)).trans (Zk _ _ o))
 refine⟨⟨⟨H.os.trans c.os,H.tape.trans c.tape,H.output.trans c.output,by have:=c.size;omega,fun j o=>(q j (by omega)).trans (c.block j o)⟩,?_,(q _ (by omega)).trans C,by omega⟩,fun i v r=>?_,fun i v r=>?_,x⟩
 .unfold row at *;rw[q _ (by omega)];exact A
 .rw[H.cell (p:=⟨wr.heap.size,i,Z7⟩) (by show wr.heap.size<_;omega),ZT (a:=⟨wr.heap.size,i,Z7⟩) (Zk _ _ (by show wr.heap.size<_;omega)),Yy _ wr.heap.size i G t (0,0) (Zs wr _)];exact r
 .have:=Yy _ _ i K T (0,0) (Zs (wr.alloc (.cells G t)) (.cells K T));rw[D] at this;rw[H.cell (p:=⟨wr.heap.size+1,i,Z7⟩) (by show wr.heap.size+1<_;omega),this];exact r
theorem Es{w:ZY}{g:Z1 Gr}{k:Nat}(h:PV w u cs g k)(j:k<g.length)(o:Obj) :
 PV w (setBlock (u.alloc o) (w.heap.size+1) (.map (went ((g.take k).map Wk++[Wk g[k]])) (((g.take k).map Wk).length+1))) cs g (k+1):=by
 obtain⟨H,c,q,r⟩:=h
 have i:(g.take (k+1)).map Wk=(g.take k).map Wk++[Wk g[k]]:=by
  rw[ZK j,List.map_append];rfl
 refine⟨qU (H.alloc (by omega) o) (by omega) _,?_,?_,by simp [setBlock];omega⟩
 .unfold row at *;rw[kP _ _ _ _ (by omega),Zk _ _ (by omega)];exact c
 .rw[nZ _ _ _ (by simp;omega),i,ZO];rfl
theorem yj{o:Obj}{a i:Nat}(H:Z4 (wr.alloc o).heap.size (wr.alloc o) z)(h:wr.cell? ⟨a,i,Z7⟩=Z9 v)(ha:a<wr.heap.size):z.cell? ⟨a,i,Z7⟩=Z9 v:=by
 rw[H.cell (p:=⟨a,i,Z7⟩) (by show a<_;simp;omega),ZT (a:=⟨a,i,Z7⟩) (Zk wr o ha)];exact h
attribute [local go_sem] ap aq bN cK cC
theorem Fj(g:Z1 Gr)(w:ZY)(hm:MaxL w)(hg:GS w gr g) :
 ZH Z8 175 #[.agg (e.vals d gr)] w fun r w'=>r=.returned (.bool (Vp.prof e g))/\Z4 w.heap.size w w':=by
 obtain⟨Z,ac,rfl,hz,C⟩:=hg;have hw:=fun (s:Z6) (W:ZY) (h:Z4 w.heap.size w W)=>mS s W (hm.below h)
 have hr:=fun (n:Int) (b:Nat) (W:ZY) h=>kR 0 3 n b W h
 have HW:=lh hw;have HR:=lh hr;have HC:=lh C;clear hw hr C;have a9:=run_makeMap (P:=Z8) 268 (w.alloc (.cells (e.vals d (.slice Z g.length ac)) 29));go_enter Tryz.func175,Tryz.ntmps175
 go_wp2_with fail
 go_loopw [11] (fun i wr=>∃ k:Nat,k<=g.length/\i=.int .i64 k/\PV w wr (e.vals d (.slice Z g.length ac)) g k/\∀ j,j<k->Vp.grAt g j=ZX) (fun i _=>g.length - (Zq i).toNat)
 case atStart =>
  refine⟨0,Y6 _,rfl,⟨by exact aB,?_,?_,by simp⟩,fun j h=>by omega⟩
  .exact fA (t:=29) (fr:=(0,0)) ((Zk _ _ (by simp)).trans (Zs w _))
  .have:=Zs (w.alloc (.cells (e.vals d (.slice Z g.length ac)) 29)) (.map #[] 0);show _=Z9 (Obj.map #[] 0)
   simpa using this
 case round =>
  obtain⟨k,hk,rfl,V,O⟩:=hrel;have HA:=lh O;clear O;have B0:=V.1;have z0:=B0.size;have z2:=V.2.2.2;have N:=lh V;by_cases D:k<g.length
  .obtain⟨ab,ao,rfl,S,a0⟩:=HC.o (by omega);obtain⟨p0,p1,p2⟩:=a0 k D;have q0:=(B0.cell (p:=⟨ab,ao+k*3,Z7⟩) S).trans p0;have q1:=(B0.cell (p:=⟨ab,ao+k*3+1,Z7⟩) S).trans p1;have q2:=(B0.cell (p:=⟨ab,ao+k*3+2,Z7⟩) S).trans p2;have T:=Cq g k D;obtain⟨Gk,hG⟩:∃ G,G=g[k]:=⟨_,rfl⟩;rw[<-hG] at T q0 q1 q2;have a3:=lh hG;clear hG V p0 p1 p2 a0;obtain⟨I,K,gl⟩:=Gk;simp only at T q0 q1 q2
   obtain⟨c,hc⟩:∃ c,c=Vp.among (I,K) ((g.take k).map Wk):=⟨_,rfl⟩;rw[show Wk (I,K,gl)=(I,K) from rfl,<-hc] at T;have Q:=lh hc;clear hc;have U:=HW.o I;have hy:=HR.o gl;generalize VU (Z5 I)=x at T U;generalize XD 0 3 [gl]=y at T hy;have X:=lh U;have Y:=lh hy;have HV:=lh T;clear U hy T;cases x
   .go_wp2_with (first|(go_at_call 165;(with_reducible refine (X.o _ (by exact aB)).mono ?_);rintro _ u ⟨rfl,H⟩;have A:=mH N.o (by simp [ah]) H;have d2:=A.2.1 2 _ rfl;clear H))
    go_ret
    exact⟨aF (by unfold Vp.prof;rw[pE g k D (by rw[HV.o];rfl)];rfl),A.1.1⟩
   cases y
   .go_wp2_with (first|(go_at_call 165;(with_reducible refine (X.o _ (by exact aB)).mono ?_);rintro _ u ⟨rfl,H⟩;have A:=mH N.o (by simp [ah]) H;have d2:=A.2.1 2 _ rfl;have B2:=A.1.1;have zz:=A.2.2.2;clear H)|((with_reducible refine (Y.o _ _ (by simp [go_sem])).mono ?_);rintro _ w3 ⟨rfl,rfl⟩))
    go_ret
    exact⟨aF (by unfold Vp.prof;rw[pE g k D (by rw[HV.o];rfl)];rfl),by exact aB⟩
   cases c
   .have J:∀ W:ZY,W.heap[w.heap.size+1]?=Z9 (.map (went ((g.take k).map Wk)) ((g.take k).map Wk).length)->(Yv 268 (.map (Z9 (w.heap.size+1))) (.agg #[.string I,.bool K]) ZW).run Z8 W=.ok (.bool ZW) W:=fun W h=>by have q:=wR W _ _ _ (I,K) h;rw[<-Q.o] at q;exact q
    have a2:∀ W:ZY,W.heap[w.heap.size+1]?=Z9 (.map (went ((g.take k).map Wk)) ((g.take k).map Wk).length)->(X7 268 (.map (Z9 (w.heap.size+1))) (.agg #[.string I,.bool K]) (.bool ZX)).run Z8 W=.ok () (setBlock W (w.heap.size+1) (.map (went ((g.take k).map Wk++[(I,K)])) (((g.take k).map Wk).length+1))):=fun W h=>GW W _ _ (I,K) h Q.o.symm
    have R:=lh J;have a4:=lh a2;clear J a2;go_wp2_with (first|(go_at_call 165;(with_reducible refine (X.o _ (by exact aB)).mono ?_);rintro _ u ⟨rfl,H⟩;have A:=mH N.o (by simp [ah]) H;have d2:=A.2.1 2 _ rfl;have B2:=A.1.1;have zz:=A.2.2.2;have e0:=A.2.2.1 0 _ rfl;have e1:=A.2.2.1 1 _ rfl;have E:=A.1.2.2.1;have hl:=(fun o:Obj=>R.o (u.alloc o) ((Zk u o (by omega)).trans E));have hu:=(fun o:Obj=>a4.o (u.alloc o) ((Zk u o (by omega)).trans E));have a6:wr.heap.size<u.heap.size:=(by omega);have a7:wr.heap.size+1<u.heap.size:=(by omega);clear H E)|((with_reducible refine (Y.o _ _ (by simp [go_sem])).mono ?_);rintro _ w3 ⟨rfl,rfl⟩))
    go_roundw
    case rel =>
     refine⟨k+1,by omega,by go_num,?_,?_⟩
     .have:=Es A.1 D (.cells #[.int .i64 gl] 3);rw[<-a3.o,show ((g.take k).map Wk).length=k by rw[Y4,Yj];omega,List.map_take] at this;exact this
     .intro j hj;by_cases e:j=k
      .subst e;rw[HV.o];rfl
      .exact HA.o j (by omega)
    case measure=>simp [Zq];omega
   .have J:∀ W:ZY,W.heap[w.heap.size+1]?=Z9 (.map (went ((g.take k).map Wk)) ((g.take k).map Wk).length)->(Yv 268 (.map (Z9 (w.heap.size+1))) (.agg #[.string I,.bool K]) ZW).run Z8 W=.ok (.bool ZX) W:=fun W h=>by have q:=wR W _ _ _ (I,K) h;rw[<-Q.o] at q;exact q
    have R:=lh J;clear J;go_wp2_with (first|(go_at_call 165;(with_reducible refine (X.o _ (by exact aB)).mono ?_);rintro _ u ⟨rfl,H⟩;have A:=mH N.o (by simp [ah]) H;have d2:=A.2.1 2 _ rfl;have B2:=A.1.1;have zz:=A.2.2.2;have e0:=A.2.2.1 0 _ rfl;have e1:=A.2.2.1 1 _ rfl;have E:=A.1.2.2.1;have hl:=(fun o:Obj=>R.o (u.alloc o) ((Zk u o (by omega)).trans E));have a6:wr.heap.size<u.heap.size:=(by omega);have a7:wr.heap.size+1<u.heap.size:=(by omega);clear H E)|((with_reducible refine (Y.o _ _ (by simp [go_sem])).mono ?_);rintro _ w3 ⟨rfl,rfl⟩))
    go_ret
    exact⟨aF (by unfold Vp.prof;rw[pE g k D (by rw[HV.o];rfl)];rfl),by exact aB⟩
  .have R0:=V.2.1;have ad:=ae R0 28 _ (bN e d (.slice Z g.length ac));have af:=ae R0 31 _ (cK e d (.slice Z g.length ac));have a5:=ae R0 32 _ (cC e d (.slice Z g.length ac));have al:w.heap.size<wr.heap.size:=by omega
   have ar:w.heap.size≠wr.heap.size:=by omega
   have a1:Vp.grs g=ZX:=EM g fun j hj=>HA.o j (by omega)
   have U:=HR.o e.lev;have hw:=HW.o e.owner
   have hD:Vp.prof e g=(XD 0 3 [e.lev]&&(((Z5 e.owner).isEmpty || VU (Z5 e.owner))&&decide (g.length<=8))):=by
    unfold Vp.prof Vp.own;rw[a1,Zc]
   generalize XD 0 3 [e.lev]=x at U hD;generalize VU (Z5 e.owner)=y at hw hD;have X:=lh U;have Y:=lh hw;have HD:=lh hD;clear U hw a1 V R0 hD;cases x
   .go_wp2_with ((with_reducible refine (X.o _ _ (by simp [go_sem])).mono ?_);rintro _ w3 ⟨rfl,rfl⟩)
    go_ret
    exact⟨aF (by rw[HD.o];rfl),by exact aB⟩
   by_cases h0:e.owner.size=0
   .have e0:e.owner.toList.isEmpty=ZX:=ju _ h0;have HE:=lh (show (Z5 e.owner).isEmpty=ZX by rw[Yi,ZZ];exact h0);clear h0;go_wp2_with ((with_reducible refine (X.o _ _ (by simp [go_sem])).mono ?_);rintro _ w3 ⟨rfl,rfl⟩)
    go_ret
    exact⟨aF (by rw[HD.o,HE.o,Bool.true_or,Zc,Zc,Zn,ZU,ZU];omega),by exact aB⟩
   .have e0:e.owner.toList.isEmpty=ZW:=gG _ (by omega);have HE:=lh (show (Z5 e.owner).isEmpty=ZW by rw[Yq,Ne,Yi,ZZ];exact h0);clear h0;cases y
    .go_wp2_with (first|((with_reducible refine (X.o _ _ (by simp [go_sem])).mono ?_);rintro _ w3 ⟨rfl,rfl⟩)|(go_at_call 165;(with_reducible refine (Y.o _ (by exact aB)).mono ?_);rintro _ z ⟨rfl,H⟩;have B4:=Below.trans (show Z4 w.heap.size w _ by exact aB) (H.mono (by simp;omega));clear H))
     go_ret
     exact⟨aF (by rw[HD.o,HE.o];rfl),B4⟩
    .go_wp2_with (first|((with_reducible refine (X.o _ _ (by simp [go_sem])).mono ?_);rintro _ w3 ⟨rfl,rfl⟩)|(go_at_call 165;(with_reducible refine (Y.o _ (by exact aB)).mono ?_);rintro _ z ⟨rfl,H⟩;have a8:=yj H a5 (by omega);have B4:=Below.trans (show Z4 w.heap.size w _ by exact aB) (H.mono (by simp;omega));clear H))
     go_ret
     exact⟨aF (by rw[HD.o,HE.o,Bool.false_or,Zc,Zc,Zn,ZU,ZU];omega),B4⟩
end
section
theorem oA:cx 32:=enters_of Tryz.func32 (by kernel_rfl) rfl
theorem pA:cx 89:=enters_of Tryz.func89 (by kernel_rfl) rfl
theorem oV:cx 156:=enters_of Tryz.func156 (by kernel_rfl) rfl
theorem sk:cx 157:=enters_of Tryz.func157 (by kernel_rfl) rfl
theorem oW:cx 174:=enters_of Tryz.func174 (by kernel_rfl) rfl
theorem sm:cx 175:=enters_of Tryz.func175 (by kernel_rfl) rfl
theorem uM(c b g:Nat)(s:Z1 ZM × Nat)(e:En)(gr:Z2)(w:ZY)(h:RS w c b g s (e.vals (.slice Z7 0 0) gr))(i:s.1.length<=1000) :
 ZH Z8 156 #[.pointer (Z9 ⟨c,0,Z7⟩),.pointer (Z9 ⟨g,0,Z7⟩)] w fun r w'=>r=.returned (.tuple #[])/\∃ A,RS w' c b g (dR e s).2.2 ((dR e s).1.vals A gr)/\(IS w' A (dR e s).2.1/\∀ x,A.ownBlock=Z9 x->w.heap.size<=x)/\G2 w w' b g:=by
 rcases Ym (cntv 4 (clip (YZ (Yb (sq (Yu 200 (Yu 200 (YZ (Yb (sq s 14)).2).2).2).2 2)).2).1)) with H|H
 .exact Cj c b g s e gr w h i (lh H)
 .exact Ck c b g s e gr w h i H
theorem ve(I:IS w d a)(h:DatOk e a):Writes w 156 (e.vals d gr) (dW e a):=by
 intro W c g i q _ j;have this:=EE c g [] e d gr a w W I i q j (fun x H=>by have:=h.n x H;omega) e.cls.toNat e.cr.toNat e.ex.toNat e.used.toNat (YU h.c.1).symm (YU h.cr.1).symm (YU h.ex.1).symm (YU h.u.1).symm (by have A:=h.c;have r:=h.cr;have t:=h.ex;have C:=h.u;omega) (by have:=h.v;omega) (by have:=h.o;omega) h.nl4 (fun x H=>by have:=h.nl x H;omega) (by simp);rw[Yn] at this;exact this
theorem vf(G:Z1 Gr)(w:ZY)(I:GS w gr G)(h:ProfOk e G):Writes w 174 (e.vals d gr) (dH e G):=by
 intro W c g H j _ i;have this:=EG c g [] e d gr G w W I H j i h (by simp);rw[Yn] at this;exact this
theorem IS.keep{l:Z1 Int}(h:IS y v l)(b:Nat)(E:∀ x,v.ownBlock=Z9 x->b<=x)(G:y.heap.size<=u.heap.size)(D:∀ k,b<=k->k<y.heap.size->u.heap[k]?=y.heap[k]?):IS u v l:=by
 obtain⟨a,c,rfl,r,t⟩:=h;refine⟨a,c,rfl,r,fun q=>?_⟩
 obtain⟨i,o,rfl,H,C⟩:=t q;have A:=E i rfl;exact⟨i,o,rfl,Zz H G,fun k j=>(ZT (a:=⟨i,o+k,Z7⟩) (D i A H)).trans (C k j)⟩
theorem GS.keep{l:Z1 Gr}(h:GS y v l)(b:Nat)(I:∀ x,v.ownBlock=Z9 x->b<=x)(J:y.heap.size<=u.heap.size)(G:∀ k,b<=k->k<y.heap.size->u.heap[k]?=y.heap[k]?):GS u v l:=by
 obtain⟨a,c,rfl,C,D⟩:=h;refine⟨a,c,rfl,C,fun A=>?_⟩
 obtain⟨j,o,rfl,t,r⟩:=D A;have E:=I j rfl;have q:=fun i=>ZT (w:=y) (w':=u) (a:=⟨j,i,Z7⟩) (G j E t)
 exact⟨j,o,rfl,Zz t J,fun k H=>⟨(q _).trans (r k H).1,(q _).trans (r k H).2.1,(q _).trans (r k H).2.2⟩⟩
theorem aD{w:ZY}{l:Z1 Int}(h:IS w v l):one v=ZX:=by obtain⟨a,c,rfl,_⟩:=h;rfl
theorem aE{w:ZY}{l:Z1 Gr}(h:GS w v l):one v=ZX:=by obtain⟨a,c,rfl,_⟩:=h;rfl
def PD(e:En)(l:Z1 Int)(b:Nat)(w:ZY)(cs:Zy Z2):Prop:=∃ d,cs=(fg e).vals d (.slice Z7 0 0)/\IS w d l/\∀ x,d.ownBlock=Z9 x->b<=x
theorem PD.stable:Stable (PD e l):=fun b _ _ _ ⟨d,H,i,h⟩ j c=>⟨d,H,i.keep b h j c,h⟩
def PP(e:En)(l:Z1 Gr)(b:Nat)(w:ZY)(cs:Zy Z2):Prop:=∃ gr,cs=(fG e).vals (.slice Z7 0 0) gr/\GS w gr l/\∀ x,gr.ownBlock=Z9 x->b<=x
theorem PP.stable(l:Z1 Gr):Stable (PP e l):=fun b _ _ _ ⟨d,H,i,h⟩ j c=>⟨d,H,i.keep b h j c,h⟩
theorem DQ(h:DatOk e l)(j:(dW e l).length<=1000):Reads w 156 (dW e l) (zcells e.kind e.name) ([],0) (PD e l):=by
 intro W c b g _ _ _ _ R;refine (uM c b g (dW e l,0) ({ En.zero with kind:=e.kind,name:=e.name }:En) _ W R j).mono ?_
 rintro r w' ⟨rfl,A,H,I,G⟩;have i:=uf e l [] h;rw[Yx] at i;rw[i] at H I;exact⟨rfl,G,_,H,ah _ _ _,ay _ _ _ (aD I.1) rfl,A,rfl,I.1,I.2⟩
theorem DS(l:Z1 Gr)(w:ZY)(h:ProfOk e l)(o:(dH e l).length<=1000):Reads w 174 (dH e l) (zcells e.kind e.name) ([],0) (PP e l):=by
 intro W c b g _ _ _ _ R;refine (uN c b g (dH e l,0) ({ En.zero with kind:=e.kind,name:=e.name }:En) _ W R o).mono ?_
 rintro r w' ⟨rfl,G,H,I,j⟩;have i:=ug e l [] h;rw[Yx] at i;rw[i] at H I;exact⟨rfl,j,_,H,ah _ _ _,ay _ _ _ rfl (aE I.1),G,rfl,I.1,I.2⟩
theorem zG(h:DatOk e l):(dW e l).length<=1000:=by
 have A:=lr _ (jr _ h.n);have i:=lr _ (jr _ h.nl);rw[Y4] at A i;have H:(bK e).length=14:=rfl;have E:=h.nl4;have Q:=h.c;have G:=h.v;have I:=h.o;have J:=h.cr;have K:=h.ex;have N:=h.u;have C:=cZ e.cls.toNat (by omega);have j:=cZ e.vol.size (by omega);have q:=cZ e.own.size (by omega);have r:=cZ e.cr.toNat (by omega);have t:=cZ e.ex.toNat (by omega);have x:=cZ e.used.toNat (by omega);have D:=cZ l.length (by omega);unfold dW iG;simp only[encs,ZO,Zw,XX,ZZ]
 omega
theorem CZ(G:Z1 Gr)(w:ZY)(I:e.kind=0)(t:MaxL w)(T:Tab w)(c:IS w d a)(D:GS w gr G) :
 ZH Z8 63 #[.agg (e.vals d gr)] w fun r w'=>r=.returned (.bool (fL e a G))/\Z4 w.heap.size w w':=by
 have j:X8 (.int .i64) (.int .i64 e.kind) fe5.toList 0=Z9 (Z9 (0,.agg (cN (68:Nat) 32 156 157))):=by rw[I];rfl
 have h:=fun W (b:Z4 w.heap.size w W)=>ez e.name W (t.below b)
 have H:=fun W (b:Z4 w.heap.size w W)=>Fg e d gr a W (t.below b) (T.below b) (c.below b)
 unfold fL;cases x:Ds.name (Z5 e.name)
 .rw[x] at h;exact lA 68 _ _ _ 0 e d gr w oA j h
 .rw[x] at h;cases o:Vp.dat e a
  .rw[o] at H;exact lf 68 _ _ _ 0 e d gr w oA sk j h H
  .rw[o] at H;have i:=(kx e a o).1;refine lz 68 _ _ _ 0 e d gr (dW e a) ([],0) _ _ w oA sk oV j h H (fun W b=>ve e d gr a W (c.below b) i) (fun W _=>DQ e a W i (zG e a i)) (PD.stable e a) rfl ?_
   rintro W b C q ⟨A,rfl,E,_⟩;exact lD (fg e) e _ _ d gr a a [] G W E (c.below q) (GS.nil W) (D.below q)
theorem Dd(G:Z1 Gr)(w:ZY)(J:e.kind=4)(x:MaxL w)(E:IS w d a)(i:GS w gr G) :
 ZH Z8 63 #[.agg (e.vals d gr)] w fun r w'=>r=.returned (.bool (gD e a G))/\Z4 w.heap.size w w':=by
 have o:X8 (.int .i64) (.int .i64 e.kind) fe5.toList 0=Z9 (Z9 (4,.agg (cN (80:Nat) 89 174 175))):=by rw[J];rfl
 have H:=fun W (b:Z4 w.heap.size w W)=>Gu e.name W (x.below b)
 have c:=fun W (b:Z4 w.heap.size w W)=>Fj e d gr G W (x.below b) (i.below b)
 unfold gD;cases A:Ds.pat (Z5 e.name)
 .rw[A] at H;exact lA 80 _ _ _ 4 e d gr w pA o H
 .rw[A] at H;cases q:Vp.prof e G
  .rw[q] at c;exact lf 80 _ _ _ 4 e d gr w pA sm o H c
  .rw[q] at c;have h:=km e G q
   have j:(dH e G).length<=1000:=by
    have Z:=cZ e.lev.toNat (by have:=h.1.l;omega);have K:=cZ e.owner.size (by have:=h.2.2.1;omega);have N:=cZ G.length (by have:=h.1.g8;omega);have O:=pF G h.2.2.2;have P:=h.1.g8;have Q:=h.2.2.1;unfold dH;simp only[ZO,ZZ]
    omega
   refine lz 80 _ _ _ 4 e d gr (dH e G) ([],0) _ _ w pA sm oW o H c (fun W b=>vf e d gr G W (i.below b) h.1) (fun W _=>DS e G W h.1 j) (PP.stable e G) rfl ?_
   rintro W b C t ⟨D,rfl,I,_⟩;exact lD (fG e) e _ _ d gr [] a G G W (IS.nil W) (E.below t) I (i.below t)
attribute [local go_sem ↓] aZ bf
attribute [local go_sem] aS aH aK aT ak aI aw az aM ap aq ah aQ aL aP aO aR aY aW bD
theorem qj(k:Int)(h:X8 (.int .i64) (.int .i64 k) fe5.toList 0=Z9 Z7)(W:ZY)(m:Nat)(H:W.heap[m]?=Z9 (.map fe5 5)) :
 (Yv 138 (.map (Z9 m)) (.int .i64 k) ZX).run Z8 W=.ok (.tuple #[.agg #[.int .u8 0,.nilFunc,.nilFunc,.nilFunc],.bool ZW]) W:=uG W m k _ H h sw
theorem Fi(H:¬ (0<=e.kind/\e.kind<=4)) :
 ZH Z8 63 #[.agg (e.vals d gr)] w fun r w'=>r=.returned (.bool ZW)/\Z4 w.heap.size w w':=by
 have h:=uL e.kind H;clear H;have S:(w.alloc (.cells (e.vals d gr) 29)).heap.size=w.heap.size+1:=by simp
 have c:(Yv 138 (.map (Z9 (w.heap.size+1))) (.int .i64 e.kind) ZX).run Z8 ((w.alloc (.cells (e.vals d gr) 29)).alloc (.map fe5 5)).drew=.ok (.tuple #[.agg #[.int .u8 0,.nilFunc,.nilFunc,.nilFunc],.bool ZW]) ((w.alloc (.cells (e.vals d gr) 29)).alloc (.map fe5 5)).drew:=by
  refine qj e.kind h _ _ ?_
  have:=Zs (w.alloc (.cells (e.vals d gr) 29)) (.map fe5 5);rw[S] at this;exact this
 have i:∀ o,(Yv 138 (.map (Z9 (w.heap.size+1))) (.int .i64 e.kind) ZX).run Z8 (((w.alloc (.cells (e.vals d gr) 29)).alloc (.map fe5 5)).alloc o).drew=.ok (.tuple #[.agg #[.int .u8 0,.nilFunc,.nilFunc,.nilFunc],.bool ZW]) (((w.alloc (.cells (e.vals d gr) 29)).alloc (.map fe5 5)).alloc o).drew:=fun o=>by
  refine qj e.kind h _ _ ?_
  have:=Zs (w.alloc (.cells (e.vals d gr) 29)) (.map fe5 5);rw[S] at this;exact (Zk ((w.alloc (.cells (e.vals d gr) 29)).alloc (.map fe5 5)) o (by simp)).trans this
 have j:∀ o,(Yv 138 (.map (Z9 (w.heap.size+1+1))) (.int .i64 e.kind) ZX).run Z8 (((w.alloc (.cells (e.vals d gr) 29)).alloc o).alloc (.map fe5 5)).drew=.ok (.tuple #[.agg #[.int .u8 0,.nilFunc,.nilFunc,.nilFunc],.bool ZW]) (((w.alloc (.cells (e.vals d gr) 29)).alloc o).alloc (.map fe5 5)).drew:=fun o=>by
  refine qj e.kind h _ _ ?_
  have q:((w.alloc (.cells (e.vals d gr) 29)).alloc o).heap.size=w.heap.size+1+1:=by simp
  have:=Zs ((w.alloc (.cells (e.vals d gr) 29)).alloc o) (.map fe5 5);rw[q] at this;exact this
 clear h S;go_enter Tryz.func63,Tryz.ntmps63
 go_upto_region 1 with fail
 go_cut [3,4] (fun _ t W=>t=.bool ZW/\Z4 w.heap.size w W)
 case first =>
  go_region_law (first|(go_simp;go_at_call 74;(with_reducible refine (iC _).mono ?_);rintro _ y ⟨rfl,rfl⟩))
  all_goals
   go_wp2_with fail
   go_meet
   exact⟨rfl,by exact aB⟩
 case rest =>
  obtain⟨rfl,B⟩:=hcut;go_wp2_with fail
  go_ret
  exact⟨rfl,B⟩
theorem lN(G:Z1 Gr)(w:ZY)(c:MaxL w)(T:Tab w)(i:e.name.size<=1000)(h:IS w d a)(H:GS w gr G) :
 ZH Z8 63 #[.agg (e.vals d gr)] w fun r w'=>r=.returned (.bool (aA (e,a,G)))/\Z4 w.heap.size w w':=by
 unfold aA;simp only
 by_cases k0:e.kind=0
 .rw[ZP k0];exact CZ e d gr a G w k0 c T h H
 rw[ZS k0];by_cases k1:e.kind=1
 .rw[ZP k1];exact Da e d gr a G w k1 c h H
 rw[ZS k1];by_cases K:e.kind=2
 .rw[ZP K];exact Db e d gr a G w K c i h H
 rw[ZS K];by_cases j:e.kind=3
 .rw[ZP j];exact Dc e d gr a G w j c h H
 rw[ZS j];by_cases o:e.kind=4
 .rw[ZP o];exact Dd e d gr a G w o c h H
 rw[ZS o];exact Fi e d gr w (by omega)
end
section
attribute [local go_sem ↓ high] fe mI
attribute [local go_sem] fx aH ak aI aw az aM ah fp ap aq cf cM df dc ef bN cB dv cK cC
end
end Go.Proofs.YtnkjliahpeebjaaGreatDoor
