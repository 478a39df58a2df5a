/- Catalogs. -/
import Derived.Test.YtnkjliahpeebjaaGreatDoorReb
set_option maxRecDepth 8000
set_option maxHeartbeats 16000000
open Option renaming some->Z9,none->Z7
open Go.Proofs.Tryz renaming prog->Z8,underlying53->XJ
open _root_ renaming ByteArray->Z6,List->Z3,if_neg->ZX,if_pos->ZT,beq_eq_false_iff_ne->ZS,decide_eq_true->ZO,decide_eq_false->ZN,Option->Zm,bne_iff_ne->Zi
open Go.RowKit renaming Below->Z4
open Bool renaming false->Z2,true->ZZ
open Go renaming Value->Z1,World->ZY,maxLen->YQ,callsIn_wide->Yi
open Nat renaming le_refl->ZV,lt_of_lt_of_le->ZH,le_trans->ZE,zero_le->Zc
open Go.World renaming cell?_of_block->ZU,frozen?_of_block->Ze,cell?_setCell_same'->YJ,putObj_heap_other->YB,ownsRow_nil->Wl
open List renaming length_append->ZM,take_succ_eq_append_getElem->ZK,getElem?_eq_getElem->ZF,take_of_length_le->ZD,length_cons->Zx,length_map->Zt,cons_append->Zp,nil_append->YP,length_nil->Yt,length_drop->Yp,getElem?_map->Yg,map_append->XL,getElem?_range->WE,append_toArray->VD
open Option.some renaming inj->ZL
open Go.CallsIn renaming inRound->Xw
namespace Go.Proofs.YtnkjliahpeebjaaGreatDoor
open Go.RowKit
variable{w0:ZY}(group k:Z6){w W W':ZY}{p i h q:Nat}{sv v:Z1}{l:Z3 Rw}{fl cd c id c':Int}{name:Z6}{r:Rf}{st st':LoopState}{pd d:Zm Code}
section
attribute [local go_sem] Oper.semAt_some
def aN(k:Z6):Z6:=⟨(Ek.trim ((Ds.bl k).drop 1)).toArray⟩
def fh(group:Z6)(s:Z3 Int)(k _r:Z6):Except Int (Z3 Int) :=
 if (Ds.gen (Ds.bl (aN k))=ZZ/\dK (aN k)=group)/\k=aC 0 (aN k) then .ok (s++[((Ds.splN (Ds.bl (aN k)):Nat):Int)]) else .ok s
def eW(l:Z3 Rw)(fl cd a id:Int)(group:Z6):(Z3 Int × Int) × Int :=
 match bS l id fl cd 68 (fh group) (l.length+1) a [(68:UInt8) - 1,255] [] with
 | (.ok (s,C),c)=>(if C≠0 then ([],C) else (s,0),c)
 | (.error e,c)=>(([],e),c)
theorem Co(s:Z3 Int)(k r:Z6)(S:Z3 Int)(h:fh group s k r=.ok S):S.length<=s.length+1:=by
 unfold fh at h;split at h
 .cases h;simp
 .cases h;omega
theorem zH(w:ZY)(j:1<=k.size)(s:k.size<=1000) :
 Calls Z8 91 #[.string k] w fun r f=>r=.returned (.string (aN k))/\f=w:=by
 have b:Ds.bl (k.extract 1 k.size)=(Ds.bl k).drop 1:=by
  unfold Ds.bl;rw[ByteArray.data_extract,Array.toList_extract];simp [List.extract]
  exact ZD (by rw[List.length_tail,Array.length_toList];exact ZV _)
 have H:=oo (k.extract 1 k.size) w (by rw[<-Ds.bl_length,b,Yp,Ds.bl_length];omega);rw[b] at H;have T:=lh H;have g:(0:Int)<=1/\(1:Int)<=(k.size:Int):=by omega
 have G:(1:Int)<=(k.size:Int):=by omega
 clear b H;go_enter Tryz.func91,Tryz.ntmps91
 go_wp2_with (go_at_call 75;(refine T.o.mono ?_);rintro _ m ⟨t,rfl,e,rfl⟩;have a:=lh e;clear e)
 go_ret
 exact⟨congrArg (fun t=>Ending.returned (Value.string t)) (Ds.bl_inj (a.o.trans (Ds.bl_mk _).symm)),rfl⟩
structure GnC (w0 w W:ZY) (h p:Nat) (sv:Z1) (l:Z3 Rw) (fl cd c id:Int) (name:Z6) (r:Rf) (st:LoopState) (pd:Zm Code):Prop where
 sh:SHs w0 W p sv l fl cd c
 g:w.grownBy W (Z9 p)
 ri:RI W (h+5) (h+3) (h+4) (h+6) (h+2) p 68 id
 n:W.cell? ⟨h,0,Z7⟩=Z9 (.string name)
 b3:Bx W (h+1)
 up:Rup r st pd W
 z:h+9<=W.heap.size
theorem GnC.core(A:GnC w0 w W h p sv l fl cd c id name r st pd)(g:∀ k,k<h+9->k≠q->W'.heap[k]?=W.heap[k]?)(t:W.heap.size<=W'.heap.size)(j:q≠h/\∀ i,2<=i->i<=6->q≠h+i)(s:SHs w0 W' p sv l fl cd c')(o:w.grownBy W' (Z9 p))(f:Rup r st' d W')(m:Bx W' (h+1)) :
 GnC w0 w W' h p sv l fl cd c' id name r st' d:=by
 have e:∀ i,2<=i->i<=6->W'.heap[h+i]?=W.heap[h+i]?:=fun i H b=>g _ (by omega) (fun e=>j.2 i H b e.symm)
 obtain⟨R,u,x,y,B,C⟩:=A.ri;have q:=fun i (H:2<=i) (b:i<=6)=>ZU (w:=W) (w':=W') (a:=⟨h+i,0,Z7⟩) (e i H b)
 exact⟨s,o,⟨(q 5 (by omega) (by omega)).trans R,(q 3 (by omega) (by omega)).trans u,(q 4 (by omega) (by omega)).trans x,(q 6 (by omega) (by omega)).trans y,(q 2 (by omega) (by omega)).trans B,(Ze (a:=⟨h+2,0,Z7⟩) (e 2 (by omega) (by omega))).trans C⟩,
  (ZU (a:=⟨h,0,Z7⟩) (g h (by omega) (fun e=>j.1 e.symm))).trans A.n,m,f,ZE A.z t⟩
theorem GnC.tick(H:GnC w0 w W h p sv l fl cd c id name r st pd)(j:p<h)(b:r.D=h+7)(a:W.grownBy W' (Z9 p))(s:SHs w0 W' p sv l fl cd c') :
 GnC w0 w W' h p sv l fl cd c' id name r st pd:=by
 have m:=H.z;have e:∀ k,k<h+9->k≠p->W'.heap[k]?=W.heap[k]?:=fun k f n=>a.block k (by omega) (fun e=>n (ZL e))
 refine H.core (q:=p) e a.size ⟨by omega,fun i _ _=>by omega⟩ s (aJ H.g a) ⟨?_,?_⟩ (H.b3.of (e _ (by omega) (by omega)))
 .rw[e _ (by omega) (by omega)];exact H.up.lp
 .rw[e _ (by omega) (by omega)];exact H.up.dfr
theorem GnC.bel(H:GnC w0 w W h p sv l fl cd c id name r st pd)(s:p<h)(n:w.heap.size=h)(m:r.D=h+7)(o:∀ b,sv.ownBlock=Z9 b->b<h)(a:Z4 (h+9) W W') :
 GnC w0 w W' h p sv l fl cd c id name r st pd:=by
 have e:=fun k f=>a.block k f
 refine H.core (q:=h+9) (fun k f _=>e k f) a.size ⟨by omega,fun i _ _=>by omega⟩ (H.sh.belowB a (by omega) (fun _ b j=>by have:=o b j;omega)) (bx H.g (a.mono (by omega))) ⟨?_,?_⟩ (H.b3.of (e _ (by omega)))
 .rw[e _ (by omega)];exact H.up.lp
 .rw[e _ (by omega)];exact H.up.dfr
theorem GnC.turn(H:GnC w0 w W h p sv l fl cd c id name r st pd)(x:p<h)(s:w0.heap.size<=h)(t:w.heap.size=h)(o:∀ b,sv.ownBlock=Z9 b->b<h)(a:W.grownBy W' (Z9 q))(y:h<=q)(j:q≠h/\∀ i,2<=i->i<=6->q≠h+i)(m:Rup r st' d W')(f:Bx W' (h+1)) :
 GnC w0 w W' h p sv l fl cd c id name r st' d:=by
 have A:=H.z;exact H.core (q:=q) (fun k u n=>a.block k (by omega) (fun e=>n (ZL e))) a.size j (H.sh.other a (by omega) (by omega) (fun b f=>by have:=o b f;omega)) (bx H.g (gJ a (by omega) (by omega))) m f
theorem GnC.put(H:GnC w0 w W h p sv l fl cd c id name r st pd)(j:p<h)(a:w0.heap.size<=h)(f:w.heap.size=h)(m:r.D=h+7)(o:∀ b,sv.ownBlock=Z9 b->b<h) :
 GnC w0 w (W.putObj (r.D+1) (r.loop st' d)) h p sv l fl cd c id name r st' d:=by
 have s:=H.z;have g:=grownBy_putObj' W (r.D+1) (r.loop st' d);have e:∀ k,k<h+8->(W.putObj (r.D+1) (r.loop st' d)).heap[k]?=W.heap[k]?:=fun k n=>g.block k (by omega) (fun e=>by have:=ZL e;omega)
 exact H.turn j a f o g (by omega) ⟨by omega,fun i _ _=>by omega⟩ H.up.put (H.b3.of (e _ (by omega)))
theorem GnC.set(H:GnC w0 w W h p sv l fl cd c id name r st pd)(s:p<h)(a:w0.heap.size<=h)(f:w.heap.size=h)(t:r.D=h+7)(o:∀ b,sv.ownBlock=Z9 b->b<h)(u:i=1) :
 GnC w0 w (W.setCell ⟨h+i,0,Z7⟩ v) h p sv l fl cd c id name r st pd:=by
 have x:=H.z;have g:=de W ⟨h+i,0,Z7⟩ v;have e:∀ k,k<W.heap.size->k≠h+i->(W.setCell ⟨h+i,0,Z7⟩ v).heap[k]?=W.heap[k]?:=fun k m n=>g.block k m (fun e=>n (ZL e))
 refine H.turn s a f o g (by show h<=h+i;omega) ⟨by show h+i≠h;omega,fun j _ _=>by show h+i≠h+j;omega⟩ ⟨?_,?_⟩ H.b3.set
 .rw[e _ (by omega) (by omega)];exact H.up.lp
 .rw[e _ (by omega) (by omega)];exact H.up.dfr
end
section
attribute [local go_sem] Oper.semAt_some
theorem GC(s:SHs w0 W p sv l fl cd c)(g:w.grownBy W (Z9 p))(m:p<h)(f:w.heap.size=h)(H:∀ b,sv.ownBlock=Z9 b->b<h)(e:∀ k,(k<h\/h+9<=k)->W'.heap[k]?=W.heap[k]?)(z:W.heap.size<=W'.heap.size)(o:W'.os=W.os)(t:W'.tape=W.tape)(u:W'.output=W.output):SHs w0 W' p sv l fl cd c/\w.grownBy W' (Z9 p):=by
 have a:Z4 h W W':=⟨o,t,u,z,fun k j=>e k (.inl j)⟩;exact⟨s.belowB a m (fun _ b n=>H b n),bx g (by rw[f];exact a)⟩
theorem Cr{a b c:ZY}{p:Zm Nat}(h:a.grownBy b p)(k:Z4 b.heap.size b c):a.grownBy c p:=bx h (k.mono h.size)
def GnJ(w0 w:ZY)(h p:Nat)(sv:Z1)(l:Z3 Rw)(fl cd id:Int)(name:Z6)(r:Rf)(st:LoopState)(c:Int)(s:Z3 Int)(W:ZY):Prop :=
 GnC w0 w W h p sv l fl cd c id name r st Z7/\∃ o,W.cell? ⟨h+1,0,Z7⟩=Z9 o/\W.ownsRow (h+9) 3 1 o s.length (iv s)
theorem GnJ.put{s:Z3 Int}(A:GnJ w0 w h p sv l fl cd id name r st c s W)(n:p<h)(e:w0.heap.size<=h)(m:w.heap.size=h)(j:r.D=h+7)(H:∀ b,sv.ownBlock=Z9 b->b<h) :
 GnJ w0 w h p sv l fl cd id name r st' c s (W.putObj (r.D+1) (r.loop st' Z7)):=by
 obtain⟨f,O,g,a⟩:=A;exact⟨f.put n e m j H,O,(putc (by omega)).trans g,aV a (fun x o=>YB (by have:=(ax a x o).1;omega))⟩
def xx(w0 w b:ZY)(p:Nat)(sv:Z1)(l:Z3 Rw)(fl cd:Int)(g:(Z3 Int × Int) × Int)(r:Ending):Prop :=
 ∃ a c,r=.returned (.tuple #[.slice a g.1.1.length c,.int .i64 g.1.2])/\SHs w0 b p sv l fl cd g.2/\w.grownBy b (Z9 p)
theorem uy(w:ZY)(n:Int)(k:Nat)(H:k=w.heap.size):CS (w.alloc (.cells #[.int .i64 n] 3)) 1 (.slice (Z9 ⟨k,0,Z7⟩) 1 1) 1 (iv [n]):=by
 subst H;exact⟨_,_,rfl,rfl,fun _=>⟨_,rfl,cell_one_new _ _ _⟩⟩
theorem xL(p:Nat)(sv:Z1)(l:Z3 Rw)(fl cd ca id:Int)(name:Z6)(w0 w:ZY)(hm:MaxL w0)(_hT:Tab w0)(S:SHs w0 w p sv l fl cd ca)(o:∀ b,sv.ownBlock=Z9 b->b<w.heap.size)(hl:l.length<=1000)(be:∀ x∈l,x.2.1.size<=1000)(bb:0<=ca)(bv:ca<=90000)(bc:cd≠0/\cd≠6\/fl<=0) :
 Calls Z8 208 #[.iface 56 (.pointer (Z9 ⟨p,0,Z7⟩)),.int .i64 id,.string name] w fun r w'=>xx w0 w w' p sv l fl cd (eW l fl cd ca id name) r:=by
 have j:=S.pl;have bp:=S.b.size;have HS:=lh S;clear S;obtain⟨g,I⟩:∃ g,eW l fl cd ca id name=g:=⟨_,rfl⟩;rw[I];refine (Yi (n:=4)).1 ?_
 refine callsIn_of_wp_marks Tryz.func208 rfl trivial ?_ rfl
 simp only[Tryz.ntmps208,List.size_toArray,Zx,Yt,Nat.reduceAdd,Nat.reduceSub,Array.replicate_succ,Array.replicate_zero,List.push_toArray,VD,YP,Zp]
 gi_wp2_with (refine⟨trivial,?_⟩;gi_at_call 90;refine (Yi.2 (rI p id 68 _ _)).mono ?_;rintro _ _ ⟨rfl,rfl⟩)
 simp only[Nat.add_assoc,Nat.reduceAdd]
 generalize t:World.alloc _ _=y;have a8:Z4 w.heap.size w y:=by rw[<-t];exact aB
 have b8:y.heap.size=w.heap.size+7:=by rw[<-t];simp
 have k0:y.cell? ⟨w.heap.size,0,Z7⟩=Z9 (.string name):=by rw[<-t];simp [go_sem]
 have k1:y.cell? ⟨w.heap.size+1,0,Z7⟩=Z9 (.slice Z7 0 0):=by rw[<-t];simp [go_sem]
 have k2:y.cell? ⟨w.heap.size+2,0,Z7⟩=Z9 (.int .i64 0):=by rw[<-t];simp [go_sem]
 have k3:y.cell? ⟨w.heap.size+3,0,Z7⟩=Z9 (.iface 56 (.pointer (Z9 ⟨p,0,Z7⟩))):=by rw[<-t];simp [go_sem]
 have k4:y.cell? ⟨w.heap.size+4,0,Z7⟩=Z9 (.int .i64 id):=by rw[<-t];simp [go_sem]
 have k5:y.cell? ⟨w.heap.size+5,0,Z7⟩=Z9 (.int .u8 68):=by rw[<-t];simp [go_sem]
 have k6:y.cell? ⟨w.heap.size+6,0,Z7⟩=Z9 (.pointer (Z9 ⟨w.heap.size+2,0,Z7⟩)):=by rw[<-t];simp [go_sem]
 have f1:y.frozen? ⟨w.heap.size+1,0,Z7⟩=Z2:=by rw[<-t];simp [go_sem]
 have f2:y.frozen? ⟨w.heap.size+2,0,Z7⟩=Z2:=by rw[<-t];simp [go_sem]
 clear t;refine wm rfl (by omega) (gf:=192) rfl trivial (enters_of Tryz.func192 (by kernel_rfl) rfl) ?_
 intro r W _ e1 e2 e3 e4 G hW hU;rw[b8] at G;have B1:Z4 y.heap.size y W:=by rw[hW];exact below2' _ _ _
 have bs:W.heap.size=w.heap.size+9:=by rw[hW];simp [b8]
 clear hW;have q:∀ i,i<=6->W.heap[w.heap.size+i]?=y.heap[w.heap.size+i]?:=fun i hi=>B1.block _ (by omega)
 have qc:∀ i,i<=6->W.cell? ⟨w.heap.size+i,0,Z7⟩=y.cell? ⟨w.heap.size+i,0,Z7⟩:=fun i hi=>ZU (a:=⟨w.heap.size+i,0,Z7⟩) (q i hi)
 have qf:∀ i,i<=6->W.frozen? ⟨w.heap.size+i,0,Z7⟩=y.frozen? ⟨w.heap.size+i,0,Z7⟩:=fun i hi=>Ze (a:=⟨w.heap.size+i,0,Z7⟩) (q i hi)
 have hA:GnC w0 w W w.heap.size p sv l fl cd ca id name r .ready Z7:=by
  refine⟨(HS.o.below a8).below B1,bo _ (a8.trans (B1.mono (by omega))),⟨(qc 5 (by omega)).trans k5,(qc 3 (by omega)).trans k3,(qc 4 (by omega)).trans k4,(qc 6 (by omega)).trans k6,(qc 2 (by omega)).trans k2,(qf 2 (by omega)).trans f2⟩,(qc 0 (by omega)).trans k0,⟨⟨_,(qc 1 (by omega)).trans k1⟩,(qf 1 (by omega)).trans f1⟩,hU,by omega⟩
 have b7:=(qc 1 (by omega)).trans k1;clear B1 q qc qf k0 k1 k2 k3 k4 k5 k6 f1 f2 hU a8;generalize L:w.heap.size=h at *;simp only[VD,Zp,YP]
 unfold eW at I;generalize hR:bS l id fl cd 68 (fh name) (l.length+1) ca [(68:UInt8) - 1,255] []=R at I;have ad:w0.heap.size<=h:=bp
 have ao:∀ (c c':Int) (s:Z3 Int) (N W':ZY),GnJ w0 w h p sv l fl cd id name r .ready c s N->N.grownBy W' (Z9 p)->SHs w0 W' p sv l fl cd c'->GnJ w0 w h p sv l fl cd id name r .ready c' s W':=by
  rintro c c' s N W' ⟨U,ov,h2,h3⟩ I hs;have z:=U.z;exact⟨U.tick j G I hs,ov,(ZU (a:=⟨h+1,0,Z7⟩) (I.block (h+1) (by omega) (fun e=>by have:=ZL e;omega))).trans h2,aV h3 (fun x u=>I.block x (ax h3 x u).2 (fun e=>by have:=ZL e;have:=(ax h3 x u).1;omega))⟩
 have HY:∀ (c:Int) (s:Z3 Int) (k rc:Z6) (N:ZY),GnJ w0 w h p sv l fl cd id name r .ready c s N->s.length<=([]:Z3 Int).length+l.length->k.size<=1000->1<=k.size->YieldAt Fence.wide 2 Z8 (r.D+1) #[.string k,.string rc] N fun e W'=>∃ s',fh name s k rc=.ok s'/\e=.returned (.bool ZZ)/\GnJ w0 w h p sv l fl cd id name r .ready c s' W':=by
  intro c s k rc N a0 a2 b5 b4;have f:=a0.put (st':=.busy) j ad L G o;refine (tI (r:=r) (J:=fun K=>∃ s',fh name s k rc=.ok s'/\GnJ w0 w h p sv l fl cd id name r .busy c s' K) (Jx:=fun _ _=>False) trivial a0.1.up (by rw[e2];rfl) ?_).mono ?_
  rotate_left
  .rintro e W' (⟨rfl,w1,hu,⟨s',bj,U⟩,rfl⟩|⟨rfl,cc,w1,hu,U,rfl⟩)
   .exact⟨s',bj,rfl,U.put j ad L G o⟩
   .exact U.elim
  change GnJ w0 w h p sv l fl cd id name r .busy c s (r.busy N) at f
  simp only[e1,e2,e3,e4]
  gi_wp2
  refine⟨a0.1.up,?_⟩
  generalize r.busy N=Wb at f |-;obtain⟨b0,ov,A,a9⟩:=f;obtain⟨va,vc,rfl⟩:=bX a9
  have b6:(aN k).size<=1000:=by
   rw[<-Ds.bl_length];unfold aN;rw[Ds.bl_mk];unfold Ek.trim;rw[List.length_take,Yp,Ds.bl_length];omega
  have E:=fun W (b:Z4 w0.heap.size w0 W)=>lq (aN k) W b6 (hm.below b)
  have a1:=fun W=>jI 0 (aN k) W
  have S:fh name s k rc=if (Ds.gen (Ds.bl (aN k))=ZZ/\dK (aN k)=name)/\k=aC 0 (aN k) then .ok (s++[((Ds.splN (Ds.bl (aN k)):Nat):Int)]) else .ok s:=rfl
  have av:(⟨(Ds.splG (Ds.bl (aN k))).toArray⟩:Z6)=dK (aN k):=rfl;rw[av] at E;have ac:=zH k;generalize Ds.gen (Ds.bl (aN k))=bg at E S;generalize dK (aN k)=sg at E S;generalize ((Ds.splN (Ds.bl (aN k)):Nat):Int)=sn at E S;generalize aC 0 (aN k)=kz at a1 S;generalize aN k=nz at E a1 ac;have X:=lh (fun W=>ac W b4 b5);have Y:=lh E;have ar:=lh a1;have H:=lh b0;have O:=lh a9;have t2:=fd sg name;have t3:=fd k kz;have c0:s.length<=1000:=by simp only[Yt] at a2;omega
  clear b6 E a1 ac av a0 b0 a9 a2 b4 b5;cases bg
  .rw[ZX (fun k=>by cases k.1.1)] at S;have B:=lh S;clear S t2 t3;gi_wp2_with (first|(refine⟨trivial,?_⟩;gi_at_call 91;refine (Xw _ (Yi.2 (X.o _))).mono ?_;rintro _ _ ⟨rfl,rfl⟩)|(refine⟨trivial,?_⟩;gi_at_call 155;refine (Xw _ (Yi.2 (Y.o _ H.o.sh.b))).mono ?_;rintro _ w3 ⟨rfl,f⟩;have Z:=H.o.z;have A:=((f.mono Z).cell (p:=⟨h+1,0,Z7⟩) (by show h+1<h+9;omega)).trans A;have O:=lh (aV O.o (fun x u=>f.block x (ax O.o x u).2));have H:=lh (H.o.bel j L G o (f.mono Z));have cn:=H.o.n;have f3:=H.o.b3.2;clear f))
   refine⟨trivial,?_⟩
   gi_wp2
   exact⟨H.o.up,s,B.o,H.o,_,A,O.o⟩
  by_cases es:sg=name
  rotate_left
  .rw[ZX (fun k=>es k.1.2)] at S;rw[ZN es] at t2;have B:=lh S;clear S t3 es;gi_wp2_with (first|(refine⟨trivial,?_⟩;gi_at_call 91;refine (Xw _ (Yi.2 (X.o _))).mono ?_;rintro _ _ ⟨rfl,rfl⟩)|(refine⟨trivial,?_⟩;gi_at_call 155;refine (Xw _ (Yi.2 (Y.o _ H.o.sh.b))).mono ?_;rintro _ w3 ⟨rfl,f⟩;have Z:=H.o.z;have A:=((f.mono Z).cell (p:=⟨h+1,0,Z7⟩) (by show h+1<h+9;omega)).trans A;have O:=lh (aV O.o (fun x u=>f.block x (ax O.o x u).2));have H:=lh (H.o.bel j L G o (f.mono Z));have cn:=H.o.n;have f3:=H.o.b3.2;clear f))
   refine⟨trivial,?_⟩
   gi_wp2
   exact⟨H.o.up,s,B.o,H.o,_,A,O.o⟩
  rw[ZO es] at t2;by_cases ek:k=kz
  rotate_left
  .rw[ZX (fun k=>ek k.2)] at S;rw[ZN ek] at t3;have B:=lh S;clear S es ek;gi_wp2_with (first|(refine⟨trivial,?_⟩;gi_at_call 91;refine (Xw _ (Yi.2 (X.o _))).mono ?_;rintro _ _ ⟨rfl,rfl⟩)|(refine⟨trivial,?_⟩;gi_at_call 155;refine (Xw _ (Yi.2 (Y.o _ H.o.sh.b))).mono ?_;rintro _ w3 ⟨rfl,f⟩;have Z:=H.o.z;have A:=((f.mono Z).cell (p:=⟨h+1,0,Z7⟩) (by show h+1<h+9;omega)).trans A;have O:=lh (aV O.o (fun x u=>f.block x (ax O.o x u).2));have H:=lh (H.o.bel j L G o (f.mono Z));have cn:=H.o.n;have f3:=H.o.b3.2;clear f)|(refine⟨trivial,?_⟩;gi_at_call 88;refine (Xw _ (Yi.2 (ar.o _))).mono ?_;rintro _ w4 ⟨rfl,f⟩;have Z:=H.o.z;have A:=((f.mono Z).cell (p:=⟨h+1,0,Z7⟩) (by show h+1<h+9;omega)).trans A;have O:=lh (aV O.o (fun x u=>f.block x (ax O.o x u).2));have H:=lh (H.o.bel j L G o (f.mono Z));have cn:=H.o.n;have f3:=H.o.b3.2;clear f))
   exact⟨H.o.up,s,B.o,H.o,_,A,O.o⟩
  rw[ZT ⟨⟨rfl,es⟩,ek⟩] at S;rw[ZO ek] at t3;have B:=lh S;clear S es ek;gi_wp2_with (first|(refine⟨trivial,?_⟩;gi_at_call 91;refine (Xw _ (Yi.2 (X.o _))).mono ?_;rintro _ _ ⟨rfl,rfl⟩)|(refine⟨trivial,?_⟩;gi_at_call 155;refine (Xw _ (Yi.2 (Y.o _ H.o.sh.b))).mono ?_;rintro _ w3 ⟨rfl,f⟩;have Z:=H.o.z;have A:=((f.mono Z).cell (p:=⟨h+1,0,Z7⟩) (by show h+1<h+9;omega)).trans A;have O:=lh (aV O.o (fun x u=>f.block x (ax O.o x u).2));have H:=lh (H.o.bel j L G o (f.mono Z));have cn:=H.o.n;have f3:=H.o.b3.2;clear f)|(refine⟨trivial,?_⟩;gi_at_call 88;refine (Xw _ (Yi.2 (ar.o _))).mono ?_;rintro _ w4 ⟨rfl,f⟩;have Z:=H.o.z;have A:=((f.mono Z).cell (p:=⟨h+1,0,Z7⟩) (by show h+1<h+9;omega)).trans A;have O:=lh (aV O.o (fun x u=>f.block x (ax O.o x u).2));have H:=lh (H.o.bel j L G o (f.mono Z));have cn:=H.o.n;have f3:=H.o.b3.2;clear f)|(gi_at_builtin;have zA:=H.o.z;have V:=aj w4 (.cells #[.int .i64 sn] 3);have af:=aV O.o (fun x u=>V.block x (ax O.o x u).2);refine sG _ rfl (.tmp 40) (.tmp 42) 26 3 _ _ 1 8 rfl Tryz.underlying26 GA EH EI EJ rfl (by decide) (h+9) (.slice va s.length vc) (.slice (Z9 ⟨w4.heap.size,0,Z7⟩) 1 1) s.length 1 (iv s) (iv [sn]) rfl af rfl (uy w4 sn _ rfl) (by decide) (Gb _) (by unfold YQ;omega) (by omega) (by simp at zA |-;omega) ?_;intro a5 c5 w5 a3 b2 ba;have a4:Z4 (h+9) (w4.alloc (.cells #[.int .i64 sn] 3)) w5:=fy b2 (fun q hq=>(ax af q hq).1) (by simp at zA |-;omega);have A6:=(H.o.bel j L G o (V.mono zA)).bel j L G o a4;have b9:=lh A6;have c6:=(a4.cell (p:=⟨h+1,0,Z7⟩) (by show h+1<h+9;omega)).trans ((V.cell (p:=⟨h+1,0,Z7⟩) (by show h+1<_;omega)).trans A);have f6:=A6.b3.2;have a7:=lh a3;clear A6 a3 b2 ba V a4 af))
  have A7:=(b9.o.set (i:=1) (v:=.slice a5 (s.length+1) c5) j ad L G o rfl);refine⟨A7.up,s++[sn],B.o,A7,.slice a5 (s.length+1) c5,YJ _ _ _ (by rw[c6];rfl),?_⟩
  have br:=aV a7.o (fun x u=>(de w5 ⟨h+1,0,Z7⟩ (.slice a5 (s.length+1) c5)).block x (ax a7.o x u).2 (fun e=>by have q1:=ZL e;have q2:=(ax a7.o x u).1;simp at q1;omega));rw[ZM];unfold iv at *;rw[XL];exact br
 have a6:=vn (ρ:=Int) (fh name) List.length (Co name) (GnJ w0 w h p sv l fl cd id name r .ready) (fun _ _ _=>False) (r.D+1) p (h+5) (h+3) (h+4) (h+6) (h+2) sv l fl cd ca id 68 w0 W [] 3 2 (fun c s W' hj=>⟨hj.1.ri,hj.1.sh⟩) ao (fun c s k rc N U h2 bi h3=>(HY c s k rc N U h2 (by obtain⟨i,hi⟩:=bi;exact be _ hi) h3).mono fun e W' h=>by obtain⟨s',bk,h4⟩:=h;rw[bk];exact h4) (by decide) (by omega) rfl ⟨hA,_,b7,Wl _ _ _ _⟩ bb (by omega) hl bc;rw[hR] at a6;refine a6.mono ?_
 clear a6 ao HY b7 hA;rintro e K ⟨⟨v,rfl⟩,T⟩;refine⟨⟨v,rfl⟩,?_⟩
 unfold pZ at T;have Q:∀ (pd:Zm Code) (k:Nat),k≠h+8->(r.gone pd K).heap[k]?=K.heap[k]?:=fun pd k h2=>YB (by omega)
 obtain⟨R1,cR⟩:=R
 cases R1 with
 | error e=>exact T.elim
 | ok sc =>
   obtain⟨s,C⟩:=sc;obtain⟨w1,⟨m,ov,ho,b1⟩,P⟩:=T;obtain⟨va,vc,rfl⟩:=bX b1;have z1:=m.z
   have F:SHs w0 K p sv l fl cd cR/\w.grownBy K (Z9 p)/\K.cell? ⟨h+1,0,Z7⟩=Z9 (.slice va s.length vc)/\K.cell? ⟨h+2,0,Z7⟩=Z9 (.int .i64 C)/\Rup r .ready Z7 K/\h+9<=K.heap.size:=by
    rcases P with ⟨rfl,rfl⟩|rfl
    .exact⟨m.sh,m.g,ho,m.ri.v,m.up,m.z⟩
    .have ab:=de w1 ⟨h+2,0,Z7⟩ (.int .i64 C);have aa:∀ k,k<w1.heap.size->k≠h+2->(w1.setCell ⟨h+2,0,Z7⟩ (.int .i64 C)).heap[k]?=w1.heap[k]?:=fun k U h2=>ab.block k U (fun e=>h2 (ZL e))
     refine⟨m.sh.other ab (by show p≠h+2;omega) (by show _<=h+2;omega) (fun b f=>by have:=o b f;show b≠h+2;omega),bx m.g (gJ ab (by show w.heap.size<=h+2;omega) (by omega)),(ZU (a:=⟨h+1,0,Z7⟩) (aa (h+1) (by omega) (by omega))).trans ho,YJ _ _ _ (by rw[m.ri.v];rfl),⟨?_,?_⟩,by simpa using z1⟩
     .rw[aa _ (by omega) (by omega)];exact m.up.lp
     .rw[aa _ (by omega) (by omega)];exact m.up.dfr
   clear P ho b1 m z1;obtain⟨q1,q2,q5,q7,q8,q9⟩:=F;refine .inl ⟨q8,?_⟩
   have hK:(r.gone Z7 K).heap[h+7]?=Z9 (.deferred (Z9 [])):=(Q _ _ (by omega)).trans (G ▸ q8.dfr);have x3:=(ZU (a:=⟨h+1,0,Z7⟩) (Q Z7 (h+1) (by omega))).trans q5;have x4:=(ZU (a:=⟨h+2,0,Z7⟩) (Q Z7 (h+2) (by omega))).trans q7;have hF:=GC (W':=(r.gone Z7 K).putObj (h+7) (.deferred Z7)) q1 q2 j L o (fun k hk=>(YB (by omega)).trans (Q Z7 k (by omega))) (by simp [Rf.gone]) rfl rfl rfl;generalize r.gone Z7 K=Wg at hK x3 x4 hF |-;clear Q q1 q2 q5 q7 q8 q9;have ag:=lh hF.1;have al:=lh hF.2;clear hF;by_cases hc:C=0
   .subst hc;replace I:((s,0),cR)=g:=I
    subst I;gi_wp2
    refine⟨by simp,.inl ⟨_,_,rfl,run_takeDeferred hK,?_⟩⟩
    exact⟨_,results_tmp2 rfl _ _ _,va,vc,rfl,ag.o,al.o⟩
   .have t1:(C != 0)=ZZ:=Zi.2 hc;replace I:(if C≠0 then (([]:Z3 Int),C) else (s,0),cR)=g:=I
    rw[ZT hc] at I;subst I;have c1:Tryz.prog.follows .mixedOrders=ZZ:=by kernel_rfl
    gi_wp2
    refine wpIn_region_quiet_lit rfl (by kernel_rfl) (by kernel_rfl) ?_
    repeat (gi_big_quiet_step (fail))
    refine wpQuietIn_nil ?_
    rintro _ ⟨nq,rfl⟩;gi_wp2
    have bd:Z4 (Wg.putObj (h+7) (.deferred Z7)).heap.size (Wg.putObj (h+7) (.deferred Z7)) ((Wg.drewN nq).putObj (h+7) (.deferred Z7)):=⟨rfl,rfl,rfl,ZV _,fun _ _=>rfl⟩;refine⟨by simp,.inl ⟨_,_,rfl,run_takeDeferred (b:=h+7) hK,?_⟩⟩
    exact⟨_,results_tmp2 rfl _ _ _,Z7,0,rfl,ag.o.below bd,Cr al.o bd⟩
end
section
def jN(l:Z3 Rw)(fl cd id K:Int)(name:Z6)(x:Fu)(c:Int):(Z3 Ch × Int) × Int :=
 if K=0\/K=1 then
  (if (dj l fl cd c id name).1.2≠0 then (([],(dj l fl cd c id name).1.2),(dj l fl cd c id name).2)
  else (((dj l fl cd c id name).1.1.map (bJ id)++[bJ id x],0),(dj l fl cd c id name).2))
 else (([bJ id x],0),c)
def iL(l:Z3 Rw)(fl cd C id K:Int)(name:Z6):(Z3 Ch × Int) × Int :=
 if (aG l fl cd C id K name).1.2≠0 then (([],(aG l fl cd C id K name).1.2),(aG l fl cd C id K name).2)
 else if K=1 then
  (if (eW l fl cd (aG l fl cd C id K name).2 id name).1.2≠0 then (([],(eW l fl cd (aG l fl cd C id K name).2 id name).1.2),(eW l fl cd (aG l fl cd C id K name).2 id name).2)
  else if (eW l fl cd (aG l fl cd C id K name).2 id name).1.1≠[] then (([],9),(eW l fl cd (aG l fl cd C id K name).2 id name).2)
  else jN l fl cd id K name (aG l fl cd C id K name).1.1 (eW l fl cd (aG l fl cd C id K name).2 id name).2)
 else jN l fl cd id K name (aG l fl cd C id K name).1.1 (aG l fl cd C id K name).2
theorem uO(l:Z3 Rw)(fl cd C id:Int)(name:Z6):C<=(eW l fl cd C id name).2/\(eW l fl cd C id name).2<=C+l.length+1:=by
 have h:=lI (step:=fh name) (l:=l) (id:=id) (fl:=fl) (cd:=cd) (L:=68) (l.length+1) C [(68:UInt8) - 1,255] [];unfold eW
 cases H:bS l id fl cd 68 (fh name) (l.length+1) C [(68:UInt8) - 1,255] [] with
 | mk a c =>
   rw[H] at h
   cases a with
   | error e=>dsimp only at h |-;omega
   | ok p=>dsimp only at h |-;omega
attribute [local go_sem ↓] aZ fb bf bq cl eX
attribute [local go_sem] bn aS aH bE bH aK aT ak aI aw az aM ah aQ aL aP aO aR aY aW bD ap aq
theorem zI(p:Nat)(sv:Z1)(l:Z3 Rw)(fl cd ca id K:Int)(name:Z6)(w0 w:ZY)(hm:MaxL w0)(hT:Tab w0)(hS:SHs w0 w p sv l fl cd ca)(F:∀ b,sv.ownBlock=Z9 b->b<w.heap.size)(hl:l.length<=1000)(br:∀ x∈l,x.2.1.size<=1000)(bp:0<=ca)(c0:ca<=80000)(b3:cd≠0/\cd≠6\/fl<=0) :
 Calls Z8 124 #[.iface 56 (.pointer (Z9 ⟨p,0,Z7⟩)),.int .i64 id,.int .i64 K,.string name] w fun r w'=>dm w0 w w' p sv l fl cd (iL l fl cd ca id K name) r:=by
 have S:=lh hS;have G:=lh (World.grownBy.refl w (Z9 p));have c2:=hS.b.size;have ba:=hS.pl;have bg:cd≠0\/fl<=0:=b3.imp (fun h=>h.1) (fun h=>h);clear hS;unfold iL;have ao:=fun W (h:SHs w0 W p sv l fl cd ca)=>iy p sv l fl cd ca id K name w0 W hm hT h bp (by omega) bg
 have be:=dS l fl cd ca id K name;generalize aG l fl cd ca id K name=gg at ao be |-;obtain⟨⟨y,b4⟩,cb⟩:=gg;dsimp only at be |-;have E:=lh ao;clear ao;by_cases h0:b4=0
 rotate_left
 .rw[ZT h0];have t1:(b4 != 0)=ZZ:=by rw[Zi];exact h0
  clear h0;go_enter Tryz.func124,Tryz.ntmps124
  go_wp2_with (first|(go_at_call 82;(refine (E.o _ S.o).mono ?_);rintro _ w2 ⟨⟨Q,T,rfl,B,e,f,j⟩,m,g⟩;clear E;obtain⟨z,z2,zS,Y,Z,N,zw,I0,J0,I,J,R,H,G,S⟩:=io S.o G.o B e f j m g;clear B e f j m g))
  go_ret2
  exact⟨_,rfl,bu _,S.o,G.o⟩
 rw[ZX (fun h=>h h0)];subst h0;have bi:∀ W (x:Fu) Q T,bh (x.1.vals Q T).toList=ZZ->Calls Z8 210 #[.int .i64 id,.agg (x.1.vals Q T)] W fun r w'=>r=.returned (.agg #[.int .i64 1,.int .i64 id,.string (aC x.1.kind x.1.name),.string ⟨#[]⟩,.string ⟨#[]⟩])/\Z4 W.heap.size W w':=fun W x Q T h=>th id x Q T W h
 have aa:=lh bi;clear bi;by_cases hk:K=0\/K=1
 rotate_left
 .have k1:¬ K=1:=fun h=>hk (.inr h)
  have k0:¬ K=0:=fun h=>hk (.inl h)
  rw[ZX k1];unfold jN;rw[ZX hk];have t2:(K==1)=Z2:=ZS.2 k1;have t3:(K==0)=Z2:=ZS.2 k0;clear hk k0 k1;unfold bJ;generalize V:aC y.1.kind y.1.name=k1;have b8:=fun W Q T h=>aa.o W y Q T h
  rw[V] at b8;have HE:=lh b8;clear b8 V aa;go_enter Tryz.func124,Tryz.ntmps124
  go_wp2_with first|go_at_call 82;(refine (E.o _ S.o).mono ?_);rintro _ w2 ⟨⟨Q,T,rfl,B,e,f,j⟩,m,g⟩;clear E;obtain⟨z,z2,zS,Y,Z,N,zw,I0,J0,I,J,R,H,G,S⟩:=io S.o G.o B e f j m g;clear B e f j m g|go_at_call 210;(refine (HE.o _ _ _ z).mono ?_);rintro _ w6 ⟨rfl,u⟩;have G:=lh (cU G.o u);have S:=lh (S.o.below u);clear u|at_builtin;have BQ:=aj w6 (.cells #[.int .i64 1,.int .i64 id,.string k1,.string ⟨#[]⟩,.string ⟨#[]⟩] 67);have zQ:w.heap.size<=(w6.alloc (.cells #[.int .i64 1,.int .i64 id,.string k1,.string ⟨#[]⟩,.string ⟨#[]⟩] 67)).heap.size:=(cU G.o BQ).size;refine dQ _ rfl (.tmp 74) (.tmp 78) 53 67 _ _ 5 64 rfl XJ gA fZ ge gi rfl (by decide) w.heap.size (.slice Z7 0 0) (.slice (Z9 ⟨w6.heap.size,0,Z7⟩) 1 1) 0 1 (cv []) (cv [(1,id,k1,⟨#[]⟩,⟨#[]⟩)]) rfl (Wl _ _ _ _) rfl (iE w6 (1,id,k1,⟨#[]⟩,⟨#[]⟩) _ _ rfl) (fC _) (by unfold YQ;omega) (by omega) zQ ?_;intro a8 c8 w8 n U _;have B8:Z4 w.heap.size (w6.alloc (.cells #[.int .i64 1,.int .i64 id,.string k1,.string ⟨#[]⟩,.string ⟨#[]⟩] 67)) w8:=fy U (fun q hq=>by cases hq) zQ;have S8:=lh ((S.o.below BQ).belowB B8 ba (fun _ b u=>F b u));have G8:=lh (bx (cU G.o BQ) B8);have ad:=lh n;clear n U B8 BQ zQ
  go_ret2
  exact⟨.slice a8 (0+1) c8,rfl,jp (l:=[(1,id,k1,⟨#[]⟩,⟨#[]⟩)]) (by simp) (dU ad.o),S8.o,G8.o⟩
 -- the branches that ask for the aliases
 by_cases k1:K=1
 .rw[ZT k1];have t2:(K==1)=ZZ:=beq_iff_eq.2 k1;have t4:(K==0)=Z2:=by rw[k1];rfl
  have b9:=fun W (h:SHs w0 W p sv l fl cd cb) (ho:∀ b,sv.ownBlock=Z9 b->b<W.heap.size)=>xL p sv l fl cd cb id name w0 W hm hT h ho hl br (by omega) (by omega) b3
  have bj:=uO l fl cd cb id name;generalize eW l fl cd cb id name=gn at b9 bj |-;obtain⟨⟨nl,nc⟩,cc⟩:=gn;dsimp only at bj |-;have b2:=lh b9;clear b9;by_cases hn:nc=0
  rotate_left
  .rw[ZT hn];have t1:(nc != 0)=ZZ:=by rw[Zi];exact hn
   clear hn hk k1;go_enter Tryz.func124,Tryz.ntmps124
   go_wp2_with (first|(go_at_call 82;(refine (E.o _ S.o).mono ?_);rintro _ w2 ⟨⟨Q,T,rfl,B,e,f,j⟩,m,g⟩;clear E;obtain⟨z,z2,zS,Y,Z,N,zw,I0,J0,I,J,R,H,G,S⟩:=io S.o G.o B e f j m g;clear B e f j m g)|(go_at_call 208;(refine (b2.o _ S.o (fun b u=>ZH (F b u) G.o.size)).mono ?_);rintro _ w4 ⟨na,bb,rfl,m,g⟩;have R:=dP R (by rw[ah];decide) g N;have H:=fS H g N;have I:=lh (fP I.o g Y);have J:=lh (fQ J.o g Z);have G:=lh (aJ G.o g);have S:=lh m;clear m g))
   go_ret2
   exact⟨_,rfl,bu _,S.o,G.o⟩
  rw[ZX (fun h=>h hn)];subst hn;by_cases hz:nl=[]
  rotate_left
  .rw[ZT hz];have t3:decide (0<(nl.length:Int))=ZZ:=ZO (by cases nl with|nil=>exact absurd rfl hz|cons a t=>rw[Zx];omega);have t5:0<nl.length:=List.length_pos_iff.2 hz;have t6:decide (0<nl.length)=ZZ:=ZO t5;have t7:¬ nl=[]:=hz;clear hz hk k1;go_enter Tryz.func124,Tryz.ntmps124
   go_wp2_with (first|(go_at_call 82;(refine (E.o _ S.o).mono ?_);rintro _ w2 ⟨⟨Q,T,rfl,B,e,f,j⟩,m,g⟩;clear E;obtain⟨z,z2,zS,Y,Z,N,zw,I0,J0,I,J,R,H,G,S⟩:=io S.o G.o B e f j m g;clear B e f j m g)|(go_at_call 208;(refine (b2.o _ S.o (fun b u=>ZH (F b u) G.o.size)).mono ?_);rintro _ w4 ⟨na,bb,rfl,m,g⟩;have R:=dP R (by rw[ah];decide) g N;have H:=fS H g N;have I:=lh (fP I.o g Y);have J:=lh (fQ J.o g Z);have G:=lh (aJ G.o g);have S:=lh m;clear m g))
   go_ret2
   exact⟨_,rfl,bu _,S.o,G.o⟩
  rw[ZX (fun h=>h hz)];subst hz
  (unfold jN;rw[ZT hk];have a3:=fun W (h:SHs w0 W p sv l fl cd cc) (ho:∀ b,sv.ownBlock=Z9 b->b<W.heap.size)=>oe p sv l fl cd cc id name w0 W hm hT h ho hl (by omega) (by omega) b3;have ar:=oR l fl cd cc id name;have av:=oN l fl cd cc id name;generalize dj l fl cd cc id name=ga at a3 ar av |-;obtain⟨⟨s,c3⟩,ce⟩:=ga;dsimp only at ar av |-;have ab:=lh a3;clear a3)
  by_cases h3:c3=0
  rotate_left
  .rw[ZT h3];have t1:(c3 != 0)=ZZ:=by rw[Zi];exact h3
   clear h3 hk k1;go_enter Tryz.func124,Tryz.ntmps124
   go_wp2_with (first|(go_at_call 82;(refine (E.o _ S.o).mono ?_);rintro _ w2 ⟨⟨Q,T,rfl,B,e,f,j⟩,m,g⟩;clear E;obtain⟨z,z2,zS,Y,Z,N,zw,I0,J0,I,J,R,H,G,S⟩:=io S.o G.o B e f j m g;clear B e f j m g)|(go_at_call 208;(refine (b2.o _ S.o (fun b u=>ZH (F b u) G.o.size)).mono ?_);rintro _ w4 ⟨na,bb,rfl,m,g⟩;have R:=dP R (by rw[ah];decide) g N;have H:=fS H g N;have I:=lh (fP I.o g Y);have J:=lh (fQ J.o g Z);have G:=lh (aJ G.o g);have S:=lh m;clear m g)|(go_at_call 209;(refine (ab.o _ S.o (fun b u=>ZH (F b u) G.o.size)).mono ?_);rintro _ w5 ⟨hv,bc,rfl,O,m,g⟩;have zb:=H.lt;obtain⟨va,vc,rfl⟩:=bX O.own;rw[Zt] at O;have ac:=lh O;have R:=dP R (by rw[ah];decide) g N;have H:=fS H g N;have I:=lh (fP I.o g Y);have J:=lh (fQ J.o g Z);have G:=lh (aJ G.o g);have S:=lh m;clear O m g))
   go_ret2
   exact⟨_,rfl,bu _,S.o,G.o⟩
  rw[ZX (fun h=>h h3)];subst h3;clear hk k1;go_enter Tryz.func124,Tryz.ntmps124
  go_wp2_with (first|(go_at_call 82;(refine (E.o _ S.o).mono ?_);rintro _ w2 ⟨⟨Q,T,rfl,B,e,f,j⟩,m,g⟩;clear E;obtain⟨z,z2,zS,Y,Z,N,zw,I0,J0,I,J,R,H,G,S⟩:=io S.o G.o B e f j m g;clear B e f j m g)|(go_at_call 208;(refine (b2.o _ S.o (fun b u=>ZH (F b u) G.o.size)).mono ?_);rintro _ w4 ⟨na,bb,rfl,m,g⟩;have R:=dP R (by rw[ah];decide) g N;have H:=fS H g N;have I:=lh (fP I.o g Y);have J:=lh (fQ J.o g Z);have G:=lh (aJ G.o g);have S:=lh m;clear m g)|(go_at_call 209;(refine (ab.o _ S.o (fun b u=>ZH (F b u) G.o.size)).mono ?_);rintro _ w5 ⟨hv,bc,rfl,O,m,g⟩;have zb:=H.lt;obtain⟨va,vc,rfl⟩:=bX O.own;rw[Zt] at O;have ac:=lh O;have R:=dP R (by rw[ah];decide) g N;have H:=fS H g N;have I:=lh (fP I.o g Y);have J:=lh (fQ J.o g Z);have G:=lh (aJ G.o g);have S:=lh m;clear O m g))
  go_loopw [14,63] (fun v i wr=>∃ (k:Nat),k<=s.length/\i=.int .i64 k/\wr.ownsRow w5.heap.size 67 5 v k (cv ((s.take k).map (bJ id)))/\Z4 w5.heap.size w5 wr) (fun _ i _=>s.length - (intOf i).toNat)
  case atStart=>exact⟨0,Zc _,rfl,Wl _ _ _ _,Below.refl _ _⟩
  case round =>
   obtain⟨k,hk,rfl,n,hB⟩:=hrel;obtain⟨ra,rc,rfl⟩:=bX n;have HO:=lh n;have HB:=lh hB;have zg:=hB.size;clear n hB;by_cases P:k<s.length
   .obtain⟨bs,bv,GG,b1,a0,C,-⟩:=(ac.o.below HB.o).es (by rw[Zt];omega);rw[Zt] at b1 a0 C;injection b1 with v1 v2 v3
    subst v1 v3;clear v2;obtain⟨b,o,rfl,u,a1,c1,a2,L,A,-,-,-⟩:=a0.2 k P
    have af:GG k=cY s[k]:=by
     have e1:(lst GG s.length)[k]?=(s.map cY)[k]?:=by rw[C]
     unfold lst at e1;rw[Yg,WE P,Yg,ZF P] at e1;exact ZL e1
    rw[af] at A;have a9:s.take (k+1)=s.take k++[s[k]]:=ZK P;generalize s[k]=q at A a9;have a6:mid wr b (o+k*33)=q.1.vals (.slice a1 q.2.1.length c1) (.slice a2 q.2.2.length L):=A;have a7:=ay q.1 (.slice a1 q.2.1.length c1) (.slice a2 q.2.2.length L) rfl rfl;have bk:(mid wr b (o+k*33)).size=33:=by rw[a6];exact ah _ _ _
    have j1:(0:Int)<=(k:Int):=by omega
    have j2:(k:Int)<(s.length:Int):=by omega
    have D:((s.take (k+1)).map (bJ id))=((s.take k).map (bJ id))++[(1,id,aC q.1.kind q.1.name,⟨#[]⟩,⟨#[]⟩)]:=by rw[a9,XL];rfl
    have a5:=fun W=>aa.o W q (.slice a1 q.2.1.length c1) (.slice a2 q.2.2.length L) a7
    generalize aC q.1.kind q.1.name=k3 at D a5;have b5:=lh a5;have b7:=lh D;clear a5 D a9 A af a0 C
    go_wp2_with first|go_at_call 210;(refine (b5.o _).mono ?_);rintro _ w9 ⟨rfl,u⟩;have B9:=bt (aj wr (.cells (q.1.vals (.slice a1 q.2.1.length c1) (.slice a2 q.2.2.length L)) 29)) u;have O9:=lh (aV HO.o (fun x hx=>B9.block x (ax HO.o x hx).2));have G9:=lh (Below.trans HB.o (B9.mono zg));have z9:=B9.size;clear u B9|at_builtin;have X:=aj w9 (.cells #[.int .i64 1,.int .i64 id,.string k3,.string ⟨#[]⟩,.string ⟨#[]⟩] 67);have OQ:=aV O9.o (fun x hx=>X.block x (ax O9.o x hx).2);refine dQ _ rfl (.tmp 67) (.tmp 71) 53 67 _ _ 5 64 rfl XJ gA fZ ge gi rfl (by decide) w5.heap.size (.slice ra k rc) (.slice (Z9 ⟨w9.heap.size,0,Z7⟩) 1 1) k 1 _ (cv [(1,id,k3,⟨#[]⟩,⟨#[]⟩)]) rfl OQ rfl (iE w9 (1,id,k3,⟨#[]⟩,⟨#[]⟩) _ _ rfl) (fC _) (by unfold YQ;omega) (by omega) (by simp;omega) ?_;intro aX cX wX n ag _;have OX:=lh n;have GX:=lh ((Below.trans G9.o (X.mono (by omega))).trans (fy ag (fun q hq=>(ax OQ q hq).1) (by simp;omega)));clear n ag OQ X
    go_roundw
    case rel=>exact⟨k+1,by omega,by go_num,by rw[b7.o,gP];exact OX.o,GX.o⟩
    case measure=>simp [intOf];omega
   .obtain rfl:k=s.length:=by omega
    rw[ZD (ZV _)] at HO;have RE:=am HB.o R (by rw[ah];decide);have SE:=lh (S.o.below HB.o);have GE:=lh (cU G.o HB.o);have a4:=fun W Q T h=>aa.o W y Q T h
    generalize V:aC y.1.kind y.1.name=k1 at a4;have HE:=lh a4;have b6:=lh V;have bd:=G.o.size;clear a4 V
    go_wp2_with first|go_at_call 210;(refine (HE.o _ _ _ z).mono ?_);rintro _ w6 ⟨rfl,u⟩;have SE:=lh (SE.o.below u);have GE:=lh (cU GE.o u);have O6:=lh (aV HO.o (fun x hx=>u.block x (ax HO.o x hx).2));have z6:=u.size;clear u|at_builtin;have BQ:=aj w6 (.cells #[.int .i64 1,.int .i64 id,.string k1,.string ⟨#[]⟩,.string ⟨#[]⟩] 67);have OQ:=aV O6.o (fun x hx=>BQ.block x (ax O6.o x hx).2);refine dQ _ rfl (.tmp 74) (.tmp 78) 53 67 _ _ 5 64 rfl XJ gA fZ ge gi rfl (by decide) w5.heap.size (.slice ra s.length rc) (.slice (Z9 ⟨w6.heap.size,0,Z7⟩) 1 1) s.length 1 (cv (s.map (bJ id))) (cv [(1,id,k1,⟨#[]⟩,⟨#[]⟩)]) rfl OQ rfl (iE w6 (1,id,k1,⟨#[]⟩,⟨#[]⟩) _ _ rfl) (fC _) (by unfold YQ;omega) (by omega) (by simp;omega) ?_;intro a8 c8 w8 n U _;have B8:Z4 w.heap.size (w6.alloc (.cells #[.int .i64 1,.int .i64 id,.string k1,.string ⟨#[]⟩,.string ⟨#[]⟩] 67)) w8:=fy U (fun q hq=>ZE bd (ax OQ q hq).1) (by simp;omega);have S8:=lh ((SE.o.below BQ).belowB B8 ba (fun _ b u=>F b u));have G8:=lh (bx (cU GE.o BQ) B8);have ad:=lh n;clear n U B8 BQ OQ
    go_ret2
    refine⟨.slice a8 (s.length+1) c8,rfl,?_,S8.o,G8.o⟩
    have b0:((s.map (bJ id))++[((1,id,k1,⟨#[]⟩,⟨#[]⟩):Ch)]).length=s.length+1:=by rw[ZM,Zt];rfl
    have hc:=jp (w:=w8) (v:=.slice a8 (s.length+1) c8) (l:=(s.map (bJ id))++[((1,id,k1,⟨#[]⟩,⟨#[]⟩):Ch)]) (by rw[b0];omega) (by rw[b0,gP];exact dU ad.o);rw[<-b6.o] at hc;exact hc
 .rw[ZX k1];have k0:K=0:=hk.resolve_right k1;have t2:(K==1)=Z2:=ZS.2 k1;have t4:(K==0)=ZZ:=beq_iff_eq.2 k0
  (unfold jN;rw[ZT hk];have a3:=fun W (h:SHs w0 W p sv l fl cd cb) (ho:∀ b,sv.ownBlock=Z9 b->b<W.heap.size)=>oe p sv l fl cd cb id name w0 W hm hT h ho hl (by omega) (by omega) b3;have ar:=oR l fl cd cb id name;have av:=oN l fl cd cb id name;generalize dj l fl cd cb id name=ga at a3 ar av |-;obtain⟨⟨s,c3⟩,ce⟩:=ga;dsimp only at ar av |-;have ab:=lh a3;clear a3)
  by_cases h3:c3=0
  rotate_left;rw[ZT h3];have t1:(c3 != 0)=ZZ:=by rw[Zi];exact h3
  clear h3 hk k1 k0;rotate_right
  rw[ZX (fun h=>h h3)];subst h3;clear hk k1 k0;rotate_left
  iterate 1
   focus
    go_enter Tryz.func124,Tryz.ntmps124
    go_wp2_with first|go_at_call 82;(refine (E.o _ S.o).mono ?_);rintro _ w2 ⟨⟨Q,T,rfl,B,e,f,j⟩,m,g⟩;clear E;obtain⟨z,z2,zS,Y,Z,N,zw,I0,J0,I,J,R,H,G,S⟩:=io S.o G.o B e f j m g;clear B e f j m g|go_at_call 209;(refine (ab.o _ S.o (fun b u=>ZH (F b u) G.o.size)).mono ?_);rintro _ w5 ⟨hv,bc,rfl,O,m,g⟩;have zb:=H.lt;obtain⟨va,vc,rfl⟩:=bX O.own;rw[Zt] at O;have ac:=lh O;have R:=dP R (by rw[ah];decide) g N;have H:=fS H g N;have I:=lh (fP I.o g Y);have J:=lh (fQ J.o g Z);have G:=lh (aJ G.o g);have S:=lh m;clear O m g
    go_ret2
    exact⟨_,rfl,bu _,S.o,G.o⟩
  go_enter Tryz.func124,Tryz.ntmps124
  go_wp2_with (first|(go_at_call 82;(refine (E.o _ S.o).mono ?_);rintro _ w2 ⟨⟨Q,T,rfl,B,e,f,j⟩,m,g⟩;clear E;obtain⟨z,z2,zS,Y,Z,N,zw,I0,J0,I,J,R,H,G,S⟩:=io S.o G.o B e f j m g;clear B e f j m g)|(go_at_call 209;(refine (ab.o _ S.o (fun b u=>ZH (F b u) G.o.size)).mono ?_);rintro _ w5 ⟨hv,bc,rfl,O,m,g⟩;have zb:=H.lt;obtain⟨va,vc,rfl⟩:=bX O.own;rw[Zt] at O;have ac:=lh O;have R:=dP R (by rw[ah];decide) g N;have H:=fS H g N;have I:=lh (fP I.o g Y);have J:=lh (fQ J.o g Z);have G:=lh (aJ G.o g);have S:=lh m;clear O m g))
  go_loopw [14,63] (fun v i wr=>∃ (k:Nat),k<=s.length/\i=.int .i64 k/\wr.ownsRow w5.heap.size 67 5 v k (cv ((s.take k).map (bJ id)))/\Z4 w5.heap.size w5 wr) (fun _ i _=>s.length - (intOf i).toNat)
  case atStart=>exact⟨0,Zc _,rfl,Wl _ _ _ _,Below.refl _ _⟩
  case round =>
   obtain⟨k,hk,rfl,n,hB⟩:=hrel;obtain⟨ra,rc,rfl⟩:=bX n;have HO:=lh n;have HB:=lh hB;have zg:=hB.size;clear n hB;by_cases P:k<s.length
   .obtain⟨bs,bv,GG,b1,a0,C,-⟩:=(ac.o.below HB.o).es (by rw[Zt];omega);rw[Zt] at b1 a0 C;injection b1 with v1 v2 v3
    subst v1 v3;clear v2;obtain⟨b,o,rfl,u,a1,c1,a2,L,A,-,-,-⟩:=a0.2 k P
    have af:GG k=cY s[k]:=by
     have e1:(lst GG s.length)[k]?=(s.map cY)[k]?:=by rw[C]
     unfold lst at e1;rw[Yg,WE P,Yg,ZF P] at e1;exact ZL e1
    rw[af] at A;have a9:s.take (k+1)=s.take k++[s[k]]:=ZK P;generalize s[k]=q at A a9;have a6:mid wr b (o+k*33)=q.1.vals (.slice a1 q.2.1.length c1) (.slice a2 q.2.2.length L):=A;have a7:=ay q.1 (.slice a1 q.2.1.length c1) (.slice a2 q.2.2.length L) rfl rfl;have bk:(mid wr b (o+k*33)).size=33:=by rw[a6];exact ah _ _ _
    have j1:(0:Int)<=(k:Int):=by omega
    have j2:(k:Int)<(s.length:Int):=by omega
    have D:((s.take (k+1)).map (bJ id))=((s.take k).map (bJ id))++[(1,id,aC q.1.kind q.1.name,⟨#[]⟩,⟨#[]⟩)]:=by rw[a9,XL];rfl
    have a5:=fun W=>aa.o W q (.slice a1 q.2.1.length c1) (.slice a2 q.2.2.length L) a7
    generalize aC q.1.kind q.1.name=k3 at D a5;have b5:=lh a5;have b7:=lh D;clear a5 D a9 A af a0 C
    go_wp2_with first|go_at_call 210;(refine (b5.o _).mono ?_);rintro _ w9 ⟨rfl,u⟩;have B9:=bt (aj wr (.cells (q.1.vals (.slice a1 q.2.1.length c1) (.slice a2 q.2.2.length L)) 29)) u;have O9:=lh (aV HO.o (fun x hx=>B9.block x (ax HO.o x hx).2));have G9:=lh (Below.trans HB.o (B9.mono zg));have z9:=B9.size;clear u B9|at_builtin;have X:=aj w9 (.cells #[.int .i64 1,.int .i64 id,.string k3,.string ⟨#[]⟩,.string ⟨#[]⟩] 67);have OQ:=aV O9.o (fun x hx=>X.block x (ax O9.o x hx).2);refine dQ _ rfl (.tmp 67) (.tmp 71) 53 67 _ _ 5 64 rfl XJ gA fZ ge gi rfl (by decide) w5.heap.size (.slice ra k rc) (.slice (Z9 ⟨w9.heap.size,0,Z7⟩) 1 1) k 1 _ (cv [(1,id,k3,⟨#[]⟩,⟨#[]⟩)]) rfl OQ rfl (iE w9 (1,id,k3,⟨#[]⟩,⟨#[]⟩) _ _ rfl) (fC _) (by unfold YQ;omega) (by omega) (by simp;omega) ?_;intro aX cX wX n ag _;have OX:=lh n;have GX:=lh ((Below.trans G9.o (X.mono (by omega))).trans (fy ag (fun q hq=>(ax OQ q hq).1) (by simp;omega)));clear n ag OQ X
    go_roundw
    case rel=>exact⟨k+1,by omega,by go_num,by rw[b7.o,gP];exact OX.o,GX.o⟩
    case measure=>simp [intOf];omega
   .obtain rfl:k=s.length:=by omega
    rw[ZD (ZV _)] at HO;have RE:=am HB.o R (by rw[ah];decide);have SE:=lh (S.o.below HB.o);have GE:=lh (cU G.o HB.o);have a4:=fun W Q T h=>aa.o W y Q T h
    generalize V:aC y.1.kind y.1.name=k1 at a4;have HE:=lh a4;have b6:=lh V;have bd:=G.o.size;clear a4 V
    go_wp2_with first|go_at_call 210;(refine (HE.o _ _ _ z).mono ?_);rintro _ w6 ⟨rfl,u⟩;have SE:=lh (SE.o.below u);have GE:=lh (cU GE.o u);have O6:=lh (aV HO.o (fun x hx=>u.block x (ax HO.o x hx).2));have z6:=u.size;clear u|at_builtin;have BQ:=aj w6 (.cells #[.int .i64 1,.int .i64 id,.string k1,.string ⟨#[]⟩,.string ⟨#[]⟩] 67);have OQ:=aV O6.o (fun x hx=>BQ.block x (ax O6.o x hx).2);refine dQ _ rfl (.tmp 74) (.tmp 78) 53 67 _ _ 5 64 rfl XJ gA fZ ge gi rfl (by decide) w5.heap.size (.slice ra s.length rc) (.slice (Z9 ⟨w6.heap.size,0,Z7⟩) 1 1) s.length 1 (cv (s.map (bJ id))) (cv [(1,id,k1,⟨#[]⟩,⟨#[]⟩)]) rfl OQ rfl (iE w6 (1,id,k1,⟨#[]⟩,⟨#[]⟩) _ _ rfl) (fC _) (by unfold YQ;omega) (by omega) (by simp;omega) ?_;intro a8 c8 w8 n U _;have B8:Z4 w.heap.size (w6.alloc (.cells #[.int .i64 1,.int .i64 id,.string k1,.string ⟨#[]⟩,.string ⟨#[]⟩] 67)) w8:=fy U (fun q hq=>ZE bd (ax OQ q hq).1) (by simp;omega);have S8:=lh ((SE.o.below BQ).belowB B8 ba (fun _ b u=>F b u));have G8:=lh (bx (cU GE.o BQ) B8);have ad:=lh n;clear n U B8 BQ OQ
    go_ret2
    refine⟨.slice a8 (s.length+1) c8,rfl,?_,S8.o,G8.o⟩
    have b0:((s.map (bJ id))++[((1,id,k1,⟨#[]⟩,⟨#[]⟩):Ch)]).length=s.length+1:=by rw[ZM,Zt];rfl
    have hc:=jp (w:=w8) (v:=.slice a8 (s.length+1) c8) (l:=(s.map (bJ id))++[((1,id,k1,⟨#[]⟩,⟨#[]⟩):Ch)]) (by rw[b0];omega) (by rw[b0,gP];exact dU ad.o);rw[<-b6.o] at hc;exact hc
end
end Go.Proofs.YtnkjliahpeebjaaGreatDoor
