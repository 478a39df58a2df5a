/- Catalogs. -/
import Derived.Test.YtnkjliahpeebjaaGreatDoorSaL
set_option maxRecDepth 8000
set_option maxHeartbeats 8000000
open Option renaming some->Z9,none->Z7
open Go.Proofs.Tryz renaming prog->Z8,underlying3->Zh
open _root_ renaming ByteArray->Z6,List->Z1,decide_eq_true_eq->ZU,if_neg->ZS,if_pos->ZP,UInt8->ZM,beq_eq_false_iff_ne->ZJ,decide_eq_false_iff_not->ZF,Array->Zy,congrArg->Y7
open Go.Proofs.YtnkjliahpeebjaaGreatDoor.Ds renaming bl->Z5,bl_length->ZZ
open Go.RowKit renaming Below->Z4
open Go renaming Value->Z2,World->ZY,Calls->ZH,bodyPost_ret->ZD,heap_alloc_new->Zs
open Bool renaming true->ZX,false->ZW,and_eq_true->ZQ
open Nat renaming le_refl->ZV,le_trans->ZC
open Go.RowKit.Below renaming refl->ZR
open Go.Proofs.YtnkjliahpeebjaaGreatDoor.En renaming base->Zi,zero->YS
open Go.Instr renaming lookup->Yv,findNow->X8
open Go.Result renaming andThen->Yp
open Go.Proofs.YtnkjliahpeebjaaGreatDoor.Ek renaming letter->X9,key->Wb,trim->Vm
open Or renaming inr->Xb,inl->VZ
namespace Go.Proofs.YtnkjliahpeebjaaGreatDoor
open Go.RowKit
variable(e:En)(k:Int){l w w' f W wr q:ZY}(d gr:Z2)(n:Z6)(p:Z1 Int){cs:Zy Z2}(i s:Z1 ZM × Nat){j g r m c:Nat}
section
attribute [local go_sem ↓] aZ bf
attribute [local go_sem] aS aH aK aT ak aI aw az aM ap aq ah aQ aL aP aO aR aY aW bD
theorem Gc(n:Z1 ZM):(Wb k n).length<=32:=by
 unfold Wb;split
 .rename_i h;rw[List.length_cons,Ek.pad_len n h.2];exact ZV _
 .simp
theorem Gg(w:ZY)(m:Nat)(k:Int)(v:Z2)(i:Nat)(u:w.heap[m]?=Z9 (.map fe5 5))(h:X8 (.int .i64) (.int .i64 k) fe5.toList 0=Z9 (Z9 (i,v))) :
 (Yv 138 (.map (Z9 m)) (.int .i64 k) ZW).run Z8 w=.ok v w:=by
 have H:=fun b=>MapKept.run_checkKey (P:=Z8) (w:=w) (k:=.int .i64 k) Zh rfl b 9999
 have t:=MapKept.run_findKey (P:=Z8) (w:=w) (kt:=3) (k:=.int .i64 k) Zh h;simp [Yv,run_underlying Tryz.underlying138,MapKept.run_getObj_map u,H,t,Yp]
def MP(m:Nat)(W:ZY):Prop:=W.heap[m]?=Z9 (.map fe5 5)/\m<W.heap.size
theorem MP.below(h:MP m W)(H:Z4 W.heap.size W q):MP m q:=⟨(H.block m h.2).trans h.1,Nat.lt_of_lt_of_le h.2 H.size⟩
theorem Az(W:ZY):ZH Z8 74 #[] W fun r w'=>∃ m,r=.returned (.map (Z9 m))/\MP m w'/\Z4 W.heap.size W w' :=
 (iC W).mono fun _ _ ⟨H,h⟩=>⟨_,H,by subst h;exact⟨Zs W _,by simp⟩,by subst h;exact (ZR _ _).alloc (ZV _) _⟩
def PE(w:ZY)(cs:Zy Z2)(W:ZY):Prop:=row W w.heap.size=cs/\Z4 w.heap.size w W
theorem PE.below(h:PE w cs W)(H:Z4 W.heap.size W q)(t:0<cs.size):PE w cs q:=⟨am H h.1 t,bt h.2 H⟩
theorem PE.new(w:ZY)(cs:Zy Z2)(t:TypeId):PE w cs (w.alloc (.cells cs t)):=⟨ak w cs t _,(ZR _ _).alloc (ZV _) _⟩
theorem PE.bel(cs:Zy Z2)(h:PE w cs W):Z4 w.heap.size w W:=h.2
theorem PE.drew(h:PE w cs W):PE w cs W.drew:=⟨by rw[az];exact h.1,h.2.drew⟩
theorem xS(w:ZY)(H:∀ W,Z4 w.heap.size w W->ZH Z8 63 #[.agg (e.vals d gr)] W fun r w'=>r=.returned (.bool ZW)/\Z4 W.heap.size W w') :
 ZH Z8 76 #[.agg (e.vals d gr)] w fun r w'=>r=.returned (.tuple #[.string ⟨#[]⟩,.int .i64 1])/\Z4 w.heap.size w w':=by
 have V:=lh H;clear H;go_enter Tryz.func76,Tryz.ntmps76
 go_wp2_with (go_at_call 63;(with_reducible refine (V.o _ (by exact aB)).mono ?_);rintro _ l ⟨rfl,h⟩;have B:=Below.trans (show Z4 w.heap.size w _ by exact aB) (h.mono (by simp));clear h)
 go_ret2
 exact⟨rfl,B⟩
theorem xJ(U A K B i:Nat)(y:Z1 ZM)(w:ZY)(O:cx K)(z:X8 (.int .i64) (.int .i64 e.kind) fe5.toList 0=Z9 (Z9 (i,.agg (cN U A K B))))(hl:y.length<=1000)(P:∀ W,Z4 w.heap.size w W->ZH Z8 63 #[.agg (e.vals d gr)] W fun r w'=>r=.returned (.bool ZX)/\Z4 W.heap.size W w')(S:∀ W,Z4 w.heap.size w W->Writes W K (e.vals d gr) y) :
 ZH Z8 76 #[.agg (e.vals d gr)] w fun r w'=>∃ t,r=.returned (.tuple #[.string t,.int .i64 0])/\Z5 t=Wb e.kind (Z5 e.name)++y/\Z4 w.heap.size w w':=by
 have u:=fun W b=>ut U A K B (e.vals d gr) y W O (S W b)
 have v:=fun W=>vP e.kind e.name W
 have x:=fun W m h=>Gg W m e.kind _ i h z
 unfold cN at u x;have C:=Gc e.kind (Z5 e.name);generalize Wb e.kind (Z5 e.name)=ky at v C |-;have HB:=lh u;have HK:=lh v;have HV:=lh P;have L:=lh x;clear u v x P S z O;go_enter Tryz.func76,Tryz.ntmps76
 go_wp2_with (go_at_call 63;(with_reducible refine (HV.o _ (by exact aB)).mono ?_);rintro _ l ⟨rfl,H⟩;have G:=(PE.new w (e.vals d gr) 29).below H (by simp [ah]);have R:=G.1;have n0:=ae R 0 _ (ap e d gr);have n1:=ae R 1 _ (aq e d gr);clear H)
 have V:=G.drew
 go_region_law (first
  | (go_simp;go_at_call 88;(with_reducible refine (HK.o _).mono ?_);rintro _ w3 ⟨T,rfl,z,H⟩;have X:=PE.below (by assumption) H (by simp [ah]);have I:=X.1;have m0:=ae I 0 _ (ap e d gr);have m1:=ae I 1 _ (aq e d gr);(first|(have M3:=MP.below (by assumption) H;have a0:=L.o _ _ M3.1)|skip);have zk:T.size<=32:=(by rw[<-ZZ,z];exact C);(first|(have p:¬ 9223372036854775807<T.size+tb.size:=(by omega))|skip);have E:=lh z;clear H z)
  | (go_simp;go_at_call 74;(with_reducible refine (Az _).mono ?_);rintro _ w4 ⟨m,rfl,M4,H⟩;have a1:=L.o _ _ M4.1;have Y:=PE.below (by assumption) H (by simp [ah]);have J:=Y.1;have q0:=ae J 0 _ (ap e d gr);have q1:=ae J 1 _ (aq e d gr);clear H)
  | (go_simp;go_at_call 180;(with_reducible refine (HB.o _ (PE.bel (e.vals d gr) (by assumption))).mono ?_);rintro _ w5 ⟨tb,rfl,F,H⟩;have Z:=PE.below (by assumption) H (by simp [ah]);have N:=Z.1;have p0:=ae N 0 _ (ap e d gr);have p1:=ae N 1 _ (aq e d gr);have zb:tb.size<=1000:=(by rw[<-ZZ,F];exact hl);(first|(have p:¬ 9223372036854775807<T.size+tb.size:=(by omega))|skip);have D:=lh F;clear H F))
 all_goals
  go_wp2
  go_ret2
  exact⟨_,rfl,by rw[<-E.o,<-D.o];simp [Z5],PE.bel (e.vals d gr) (by assumption)⟩
end
theorem EC(G:Z1 Gr)(h:aA (e,p,G)=ZX) :
 ∃ (L A K B i:Nat),X8 (.int .i64) (.int .i64 e.kind) fe5.toList 0=Z9 (Z9 (i,.agg (cN (L:Nat) A K B)))/\cx K/\∀ (d gr:Z2) (w:ZY),IS w d p->GS w gr G->Writes w K (e.vals d gr) (dX (e,p,G)):=by
 unfold aA at h;unfold dX;simp only at h |-
 by_cases k0:e.kind=0
 .rw[ZP k0] at h |-;unfold fL at h;simp only[ZQ] at h
  exact⟨68,32,156,157,0,by rw[k0];rfl,oV,fun d gr w H _=>ve e d gr p w H (kx e p h.1.2).1⟩
 rw[ZS k0] at h |-;by_cases k1:e.kind=1
 .rw[ZP k1] at h |-;unfold fm at h;simp only[ZQ] at h
  exact⟨71,158,159,163,1,by rw[k1];rfl,qn,fun d gr w _ _=>tM e d gr w h.1.2⟩
 rw[ZS k1] at h |-;by_cases t:e.kind=2
 .rw[ZP t] at h |-;unfold eY at h;simp only[ZQ] at h
  exact⟨65,166,167,168,2,by rw[t];rfl,qp,fun d gr w _ _=>tL e d gr w h.1.2⟩
 rw[ZS t] at h |-;by_cases u:e.kind=3
 .rw[ZP u] at h |-;unfold fK at h;simp only[ZQ] at h
  exact⟨67,169,171,173,3,by rw[u];rfl,qu,fun d gr w _ _=>vV e d gr w h.1.2⟩
 rw[ZS u] at h |-;by_cases v:e.kind=4
 .rw[ZP v] at h;unfold gD at h;simp only[ZQ] at h
  exact⟨80,89,174,175,4,by rw[v];rfl,oW,fun d gr w _ x=>vf e d gr G w x (km e G h.1.2).1⟩
 .rw[ZS v] at h;cases h
theorem si(G:Z1 Gr)(w:ZY)(C:MaxL w)(T:Tab w)(z:e.name.size<=1000)(v:IS w d p)(x:GS w gr G) :
 ZH Z8 76 #[.agg (e.vals d gr)] w fun r w'=>∃ t,r=.returned (.tuple #[.string t,.int .i64 (if aA (e,p,G)=ZX then 0 else 1)])/\Z5 t=(if aA (e,p,G)=ZX then cJ (e,p,G) else [])/\Z4 w.heap.size w w':=by
 have h:=fun W (b:Z4 w.heap.size w W)=>lN e d gr p G W (C.below b) (T.below b) z (v.below b) (x.below b)
 cases H:aA (e,p,G)
 .rw[H] at h;refine (xS e d gr w h).mono ?_
  rintro r w' ⟨rfl,u⟩;exact⟨_,rfl,rfl,u⟩
 .rw[H] at h;obtain⟨L,A,K,B,i,y,E,F⟩:=EC e p G H;refine (xJ e d gr L A K B i (dX (e,p,G)) w E y (by have:=oG _ H;omega) h (fun W b=>F d gr W (v.below b) (x.below b))).mono ?_
  rintro r w' ⟨t,rfl,D,u⟩;exact⟨t,rfl,D,u⟩
section
open Go.ChangeMaps (setBlock)
def ReadsX(k:Int)(K:Nat):Prop:=∀ (W:ZY) (c j g:Nat) (s:Z1 ZM) (N:Z6),s.length<=1000->RS W c j g (s,0) (zcells k N) ->
 ZH Z8 K #[.pointer (Z9 ⟨c,0,Z7⟩),.pointer (Z9 ⟨g,0,Z7⟩)] W fun r w'=>r=.returned (.tuple #[])/\∃ d gr,RS w' c j g (cS k N (s,0)).2 ((cS k N (s,0)).1.1.vals d gr)/\(IS w' d (cS k N (s,0)).1.2.1/\∀ x,d.ownBlock=Z9 x->W.heap.size<=x)/\(GS w' gr (cS k N (s,0)).1.2.2/\∀ x,gr.ownBlock=Z9 x->W.heap.size<=x)/\G2 W w' j g
theorem Io:cS 0 n s=(((dR (Zi 0 n) s).1,(dR (Zi 0 n) s).2.1,[]),(dR (Zi 0 n) s).2.2):=by
 unfold cS;rw[ZP rfl]
theorem Ip:cS 1 n s=(((gL (Zi 1 n) s).1,[],[]),(gL (Zi 1 n) s).2):=by
 unfold cS;rw[ZS (by decide)];rw[ZP rfl]
theorem Iq:cS 2 n s=(((iB (Zi 2 n) s).1,[],[]),(iB (Zi 2 n) s).2):=by
 unfold cS;rw[ZS (by decide)];rw[ZS (by decide)];rw[ZP rfl]
theorem Ir:cS 3 n s=(((iH (Zi 3 n) s).1,[],[]),(iH (Zi 3 n) s).2):=by
 unfold cS;rw[ZS (by decide)];rw[ZS (by decide)];rw[ZS (by decide)];rw[ZP rfl]
theorem Is:cS 4 n s=(((fW (Zi 4 n) s).1,[],(fW (Zi 4 n) s).2.1),(fW (Zi 4 n) s).2.2):=by
 unfold cS;rw[ZS (by decide)];rw[ZS (by decide)];rw[ZS (by decide)];rw[ZS (by decide)];skip
theorem kT:zcells k n=(Zi k n).vals (.slice Z7 0 0) (.slice Z7 0 0):=rfl
theorem reads0:ReadsX 0 156:=fun W c j g s N v H=>by
 rw[kT] at H;rw[Io];simp only
 generalize Zi 0 N=B at H |-;exact (uM c j g (s,0) B _ W H v).mono fun _ w' ⟨u,A,t,I,G⟩=>⟨u,A,_,t,I,⟨GS.nil w',fun _ h=>by cases h⟩,G⟩
theorem reads1:ReadsX 1 159:=fun W c j g s N v H=>by
 rw[kT] at H;rw[Ip];simp only
 generalize Zi 1 N=B at H |-;exact (sT c j g (s,0) B _ _ W H v).mono fun _ w' ⟨u,t,G⟩=>⟨u,_,_,t,⟨IS.nil w',fun _ h=>by cases h⟩,⟨GS.nil w',fun _ h=>by cases h⟩,G⟩
theorem reads2:ReadsX 2 167:=fun W c j g s N v H=>by
 rw[kT] at H;rw[Iq];simp only
 generalize Zi 2 N=B at H |-;exact (tF c j g (s,0) B _ _ W H v).mono fun _ w' ⟨u,t,G⟩=>⟨u,_,_,t,⟨IS.nil w',fun _ h=>by cases h⟩,⟨GS.nil w',fun _ h=>by cases h⟩,G⟩
theorem reads3:ReadsX 3 171:=fun W c j g s N v H=>by
 rw[kT] at H;rw[Ir];simp only
 generalize Zi 3 N=B at H |-;exact (vT c j g (s,0) B _ _ W H v).mono fun _ w' ⟨u,t,G⟩=>⟨u,_,_,t,⟨IS.nil w',fun _ h=>by cases h⟩,⟨GS.nil w',fun _ h=>by cases h⟩,G⟩
theorem reads4:ReadsX 4 174:=fun W c j g s N x H=>by
 rw[kT] at H;rw[Is];simp only
 generalize Zi 4 N=B at H |-;exact (uN c j g (s,0) B _ W H x).mono fun _ w' ⟨v,G,t,I,u⟩=>⟨v,_,G,t,⟨IS.nil w',fun _ h=>by cases h⟩,I,u⟩
def Hg(x:MapEntry):Prop:=∃ (k:Int) (A K B:Nat),(0<=k/\k<=4)/\x=⟨.int .i64 k,.agg (cN ((X9 k).toNat:Nat) A K B),k.toNat⟩/\cx K/\ReadsX k K
theorem ED:∀ x∈fe5.toList,Hg x:=by
 intro x h;have h:x=⟨.int .i64 0,form0,0⟩\/x=⟨.int .i64 1,form1,1⟩\/x=⟨.int .i64 2,form2,2⟩\/x=⟨.int .i64 3,form3,3⟩\/x=⟨.int .i64 4,form4,4⟩:=by simpa [fe5] using h
 rcases h with rfl|rfl|rfl|rfl|rfl
 .exact⟨0,32,156,157,by decide,rfl,oV,reads0⟩
 .exact⟨1,158,159,163,by decide,rfl,qn,reads1⟩
 .exact⟨2,166,167,168,by decide,rfl,qp,reads2⟩
 .exact⟨3,169,171,173,by decide,rfl,qu,reads3⟩
 .exact⟨4,89,174,175,by decide,rfl,oW,reads4⟩
theorem EA(h:0<=k/\k<=4):∃ x∈fe5.toList,x.born=k.toNat:=by
 rcases (by omega:k=0\/k=1\/k=2\/k=3\/k=4) with rfl|rfl|rfl|rfl|rfl
 .exact⟨_,by unfold fe5;exact List.mem_cons_self,rfl⟩
 .exact⟨⟨.int .i64 1,form1,1⟩,by simp [fe5],rfl⟩
 .exact⟨⟨.int .i64 2,form2,2⟩,by simp [fe5],rfl⟩
 .exact⟨⟨.int .i64 3,form3,3⟩,by simp [fe5],rfl⟩
 .exact⟨⟨.int .i64 4,form4,4⟩,by simp [fe5],rfl⟩
def Iter(w:ZY)(m r:Nat)(S:Zy Nat)(c:Nat):Prop:=w.heap[m]?=Z9 (.map fe5 5)/\w.heap[r]?=Z9 (.mapIter (Z9 m) 5 S c)/\5<=c/\m<w.heap.size/\r<w.heap.size/\m≠r
theorem Iter.keep{S:Zy Nat}(h:Iter w m r S c)(H:w'.heap[m]?=w.heap[m]?)(t:w'.heap[r]?=w.heap[r]?)(u:w.heap.size<=w'.heap.size):Iter w' m r S c :=
 ⟨H.trans h.1,t.trans h.2.1,h.2.2.1,by have:=h.2.2.2.1;omega,by have:=h.2.2.2.2.1;omega,h.2.2.2.2.2⟩
theorem Iter.below{S:Zy Nat}(h:Iter w m r S c)(H:Z4 w.heap.size w w'):Iter w' m r S c:=h.keep (H.block _ h.2.2.2.1) (H.block _ h.2.2.2.2.1) H.size
theorem Iter.seen{S:Zy Nat}(h:Iter w m r S c):w.iterSeen r=S:=by unfold World.iterSeen;rw[h.2.1]
section
variable {b:Zy Oper} {rest:Z1 Oper} {o:Oper} {a:Act} {Q:Exit->Act->ZY->Prop}
theorem xF(w:ZY)(x:o.guard=Z7)(v:Operand)(u:o.op=Op.range 138 v)(m:Nat)(y:a.eval v=.map (Z9 m))(h:MP m w)(K:∀ w',Iter w' m w.heap.size #[] 5->Z4 w.heap.size w w'->w'.heap.size=w.heap.size+1->wpList Z8 b Q rest (a.put o.dst (.pointer (Z9 ⟨w.heap.size,0,Z7⟩))) w') :
 wpList Z8 b Q (o::rest) a w:=by
 refine wpList_plain x fun z t=>?_
 have H:=run_range_map (P:=Z8) w 138 3 142 m fe5 5 Tryz.underlying138 h.1;unfold Oper.wp;simp [execOp,u,y,H,Yp]
 refine t _ _ (K _ ⟨(heap_alloc_old w _ h.2).trans h.1,Zs w _,ZV _,?_,?_,?_⟩ ((ZR _ _).alloc (ZV _) _) ?_)
 .have:=h.2;simp;omega
 .simp
 .have:=h.2;omega
 .simp
theorem xN(w:ZY)(hg:o.guard=Z7)(X:Operand)(G:o.op=Op.next X ZW)(m r c:Nat)(S:Zy Nat)(D:a.eval X=.pointer (Z9 ⟨r,0,Z7⟩))(h:Iter w m r S c)(v:(∀ x∈fe5.toList,S.contains x.born=ZX)->wpList Z8 b Q rest (a.put o.dst (.tuple #[.bool ZW])) w)(y:∀ (k:Int) (A K B:Nat) (w':ZY),(0<=k/\k<=4)->cx K->ReadsX k K->w.grownBy w' (Z9 r)->w'.heap.size=w.heap.size->Iter w' m r (S.push k.toNat) 5->(leftOf fe5 (S.push k.toNat)).size<(leftOf fe5 S).size ->
 (Instr.entry (.pointer (Z9 ⟨r,0,Z7⟩))).run Z8 w'=.ok (.tuple #[.int .i64 k,.agg (cN ((X9 k).toNat:Nat) A K B)]) w' ->
 wpList Z8 b Q rest (a.put o.dst (.tuple #[.bool ZX,.int .i64 k,.agg (cN ((X9 k).toNat:Nat) A K B)])) w') :
 wpList Z8 b Q (o::rest) a w:=by
 refine wpList_plain hg fun K' z=>?_
 unfold Oper.wp;obtain⟨U,V,hc,a0,a2,E⟩:=h;have F:∀ x∈fe5.toList,x.born<5:=by decide
 rcases run_next_at (P:=Z8) w o.type r m 5 c S fe5 5 V U F hc with ⟨Y,t⟩|⟨e,T,f,u,t⟩
 .simp [execOp,G,D,t,Yp]
  exact z _ _ (v (all_seen fe5 S Y))
 .have C:=(mem_left T).1;have N:=left_shrinks fe5 S e T;obtain⟨k,A,K,B,hk,rfl,Z,hR⟩:=ED e C;have a1:f.heap[r]?=Z9 (.mapIter (Z9 m) 5 S c):=by rcases u with rfl|rfl <;> exact V
  have O:f.heap[m]?=Z9 (.map fe5 5):=by rcases u with rfl|rfl <;> exact U
  have R:f.heap.size=w.heap.size:=by rcases u with rfl|rfl <;> rfl
  have J:w.grownBy f (Z9 r):=by rcases u with rfl|rfl <;> exact⟨rfl,rfl,rfl,ZV _,fun _ _ _=>rfl⟩
  have L:w.grownBy (setBlock f r (.mapIter (Z9 m) 5 (S.push k.toNat) 5)) (Z9 r):=J.trans ⟨rfl,rfl,rfl,by simp [setBlock],fun i _ hi=>kP f r i _ (fun e=>hi (by rw[e]))⟩
  have H:Iter (setBlock f r (.mapIter (Z9 m) 5 (S.push k.toNat) 5)) m r (S.push k.toNat) 5 :=
   ⟨(kP f r m _ E).trans O,nZ f r _ (by omega),ZV _,by simp [setBlock];omega,by simp [setBlock];omega,E⟩
  have I:=run_entry_at (P:=Z8) (setBlock f r (.mapIter (Z9 m) 5 (S.push k.toNat) 5)) r m 5 S fe5 5 _ H.2.1 H.1 C (by decide);simp [execOp,G,D,t,Yp]
  exact z _ _ (y k A K B _ hk Z hR L (by simp [setBlock,R]) H N I)
def qK(w w':ZY)(m r:Nat)(S:Zy Nat)(k:Int):Prop:=(0<=k/\k<=4)/\w.grownBy w' (Z9 r)/\w'.heap.size=w.heap.size/\Iter w' m r (S.push k.toNat) 5/\(leftOf fe5 (S.push k.toNat)).size<(leftOf fe5 S).size
theorem xE(w:ZY)(U:o.guard=Z7)(I:Operand)(E:o.op=Op.next I ZW)(m r c:Nat)(S:Zy Nat)(D:a.eval I=.pointer (Z9 ⟨r,0,Z7⟩))(h:Iter w m r S c)(C:ZM)(H:Hid (∀ x∈fe5.toList,S.contains x.born=ZX)->wpList Z8 b Q rest (a.put o.dst (.tuple #[.bool ZW])) w)(u:∀ (k L:Int) (A K B:Nat) (w':ZY),(L==(C.toNat:Int))=ZW->Hid (qK w w' m r S k/\X9 k≠C) ->
 (Instr.entry (.pointer (Z9 ⟨r,0,Z7⟩))).run Z8 w'=.ok (.tuple #[.int .i64 k,.agg #[.int .u8 L,.func (.func A) #[] #[],.func (.func K) #[] #[],.func (.func B) #[] #[]]]) w' ->
 wpList Z8 b Q rest (a.put o.dst (.tuple #[.bool ZX,.int .i64 k,.agg #[.int .u8 L,.func (.func A) #[] #[],.func (.func K) #[] #[],.func (.func B) #[] #[]]])) w')(v:∀ (k:Int) (A K B:Nat) (w':ZY),(∀ (t:Zy Z2) (W:ZY),(callFunc K t).run Z8 W=.ok (.enter K t) W)->Hid (qK w w' m r S k/\X9 k=C/\ReadsX k K) ->
 (Instr.entry (.pointer (Z9 ⟨r,0,Z7⟩))).run Z8 w'=.ok (.tuple #[.int .i64 k,.agg #[.int .u8 (C.toNat:Nat),.func (.func A) #[] #[],.func (.func K) #[] #[],.func (.func B) #[] #[]]]) w' ->
 wpList Z8 b Q rest (a.put o.dst (.tuple #[.bool ZX,.int .i64 k,.agg #[.int .u8 (C.toNat:Nat),.func (.func A) #[] #[],.func (.func K) #[] #[],.func (.func B) #[] #[]]])) w') :
 wpList Z8 b Q (o::rest) a w:=by
 refine xN w U I E m r c S D h (fun T=>H (lh T)) (fun k A K B w' O P R F G J N z=>?_)
 by_cases y:X9 k=C
 .rw[y] at z |-;exact v k A K B w' P (lh ⟨⟨O,F,G,J,N⟩,y,R⟩) z
 .refine u k _ A K B w' ?_ (lh ⟨⟨O,F,G,J,N⟩,y⟩) z
  rw[ZJ];intro e;exact y (UInt8.toNat_inj.1 (by omega))
end
end
section
def DW(w wr:ZY)(m r:Nat)(S:Zy Nat)(c:Nat):Prop:=Z4 w.heap.size w wr/\EB wr w.heap.size (zcells 0 ⟨#[]⟩)/\Iter wr m r S c/\w.heap.size<m/\m<r
theorem DW.bel{S:Zy Nat}(h:DW w wr m r S c):Z4 w.heap.size w wr:=h.1
theorem DW.lt{S:Zy Nat}(h:DW w wr m r S c):w.heap.size<wr.heap.size/\r<wr.heap.size/\m<wr.heap.size:=⟨h.2.1.2.2,h.2.2.1.2.2.2.2.1,h.2.2.1.2.2.2.1⟩
theorem DW.keep{S:Zy Nat}(h:DW w wr m r S c)(H:Z4 w.heap.size wr l)(t:l.heap[w.heap.size]?=wr.heap[w.heap.size]?)(u:l.heap[m]?=wr.heap[m]?)(v:l.heap[r]?=wr.heap[r]?):DW w l m r S c :=
 ⟨h.1.trans H,h.2.1.of_block t H.size,h.2.2.1.keep u v H.size,h.2.2.2⟩
theorem DW.below{S:Zy Nat}(h:DW w wr m r S c)(H:Z4 wr.heap.size wr l):DW w l m r S c:=by
 obtain⟨z,Z,t⟩:=h.lt;exact h.keep (H.mono (by omega)) (H.block _ z) (H.block _ t) (H.block _ Z)
theorem DW.alloc{S:Zy Nat}(h:DW w wr m r S c)(o:Obj):DW w (wr.alloc o) m r S c:=h.below ((ZR _ _).alloc (ZV _) o)
theorem DW.g2{S:Zy Nat}(h:DW w wr m r S c)(H:G2 wr l j g)(u:r<j)(v:r<g):DW w l m r S c:=by
 obtain⟨z,Z,t⟩:=h.lt;have x:=h.2.2.2;exact h.keep (H.below (by omega) (by omega) (by omega)) (H.block _ z (by omega) (by omega)) (H.block _ t (by omega) (by omega)) (H.block _ Z (by omega) (by omega))
theorem DW.step{S:Zy Nat}{k:Int}(h:DW w wr m r S c)(u:qK wr l m r S k):DW w l m r (S.push k.toNat) 5:=by
 obtain⟨z,Z,y⟩:=h.lt;obtain⟨_,H,x,v,_⟩:=u;have t:=h.2.2.2;refine⟨h.1.trans (gJ H (by omega) (by omega)),h.2.1.of_block (H.block _ z (by intro e;have:=Option.some.inj e;omega)) H.size,v,t⟩
def Tried(C:ZM)(s:Z1 ZM)(S:Zy Nat):Prop:=∀ k:Int,0<=k/\k<=4->S.contains k.toNat=ZX->X9 k=C->iu k s=Z7
theorem Tried.push{C:ZM}{s:Z1 ZM}{S:Zy Nat}{k:Int}(h:Tried C s S)(x:0<=k/\k<=4)(v:X9 k=C->iu k s=Z7):Tried C s (S.push k.toNat):=by
 intro j u H t;rw[contains_push,Bool.or_eq_true] at H;rcases H with H|H
 .exact h j u H t
 .have e:j.toNat=k.toNat:=by simpa using H
  obtain rfl:j=k:=by omega
  exact v t
theorem yL(c:ZM)(k:Int)(h:iW c=Z9 k):(0<=k/\k<=4)/\X9 k=c:=by
 unfold iW at h;split at h
 .rename_i e;cases h;exact⟨by decide,e.symm⟩
 split at h
 .rename_i e;cases h;exact⟨by decide,e.symm⟩
 split at h
 .rename_i e;cases h;exact⟨by decide,e.symm⟩
 split at h
 .rename_i e;cases h;exact⟨by decide,e.symm⟩
 split at h
 .rename_i e;cases h;exact⟨by decide,e.symm⟩
 .cases h
theorem zm(s:Z1 ZM)(S:Zy Nat)(h:Tried (s.headD 0) s S)(H:∀ x∈fe5.toList,S.contains x.born=ZX):cF s=Z7:=by
 unfold cF;split
 .split
  .rename_i k y;obtain⟨t,u⟩:=yL _ _ y;obtain⟨x,z,v⟩:=EA k t;exact h k t (by rw[<-v];exact H x z) u
  .rfl
 .rfl
theorem zn(s:Z1 ZM)(k:Int)(x:Fu)(t:32<=s.length/\s.length<=200)(H:0<=k/\k<=4)(h:X9 k=s.headD 0)(u:iu k s=Z9 x):cF s=Z9 x:=by
 unfold cF;rw[ZP t,<-h,l7 k H];exact u
theorem BO:(cS k n s).1.1.name=n:=by
 unfold cS;repeat' split
 all_goals rfl
theorem FT(s:Z1 ZM)(k:Int)(t:Z6)(x:Fu)(i:Z1 ZM × Nat)(v:Z5 t=eE s)(X:cS k t (s.drop 32,0)=(x,i))(h:Rd.fin i=0)(H:aA x=ZX)(u:cJ x=s):iu k s=Z9 x:=by
 unfold iu;rw[<-v,Ds.mk_bl,X,ZP ⟨h,H,u⟩]
theorem Il(s:Z1 ZM)(k:Int)(t:Z6)(x:Fu)(i:Z1 ZM × Nat)(u:Z5 t=eE s)(H:cS k t (s.drop 32,0)=(x,i))(h:¬ (Rd.fin i=0/\aA x=ZX/\cJ x=s)):iu k s=Z7:=by
 unfold iu;rw[<-u,Ds.mk_bl,H,ZS h]
theorem zc(x:Fu)(d gr:Z2)(w:ZY)(z:MaxL w)(T:Tab w)(H:x.1.name.size<=1000)(u:IS w d x.2.1)(v:GS w gr x.2.2)(s:Z6) :
 ZH Z8 76 #[.agg (x.1.vals d gr)] w fun r w'=>∃ t C,r=.returned (.tuple #[.string t,.int .i64 C])/\Z4 w.heap.size w w'/\((C=0/\(t.toList==s.toList)=ZX/\Hid (aA x=ZX/\cJ x=Z5 s))\/(C=0/\(t.toList==s.toList)=ZW/\Hid (cJ x≠Z5 s))\/(C=1/\Hid (aA x=ZW))):=by
 refine (si x.1 d gr x.2.1 x.2.2 w z T H u v).mono ?_
 rintro r w' ⟨t,rfl,h,y⟩;refine⟨t,_,rfl,y,?_⟩
 cases A:aA (x.1,x.2.1,x.2.2)
 .exact Xb (Xb ⟨by simp,lh rfl⟩)
 .rw[A] at h;simp only[if_true] at h
  by_cases e:t=s
  .exact VZ ⟨by simp,by rw[e];simp,lh ⟨rfl,by rw[<-e];exact h.symm⟩⟩
  .refine Xb (VZ ⟨by simp,?_,lh (fun q=>e (Ds.bl_inj (h.trans q)))⟩)
   rw[ZJ];intro q;exact e ((lM t s).1 q)
attribute [local go_sem ↓] aZ bf bq
attribute [local go_sem] bn aS aH aK aT ak aI aw az aM ah aQ aL aP aO aR aY aW bD
def zA(w w':ZY)(s:Z1 ZM)(r:Ending):Prop:=∃ (x:Fu) (d gr:Z2) (C:Int),r=.returned (.tuple #[.agg (x.1.vals d gr),.int .i64 C])/\IS w' d x.2.1/\GS w' gr x.2.2/\Z4 w.heap.size w w'/\(cF s=Z9 x/\C=0\/cF s=Z7/\x=(YS,[],[])/\C=11)
def zpD(w w':ZY)(s:Z1 ZM)(r:Ending):Prop:=∃ (x:Fu) (d gr:Z2) (C:Int),r=.returned (.tuple #[.agg (x.1.vals d gr),.int .i64 C])/\IS w' d x.2.1/\GS w' gr x.2.2/\Z4 w.heap.size w w'/\(cF s=Z9 x/\C=0\/cF s=Z7/\x=(YS,[],[])/\C=11)/\(∀ q,d.ownBlock=Z9 q->w.heap.size<=q)/\(∀ q,gr.ownBlock=Z9 q->w.heap.size<=q)
theorem zpD.weak{s:Z1 ZM}{r:Ending}(h:zpD w w' s r):zA w w' s r:=by
 obtain⟨x,d,gr,C,H,t,u,v,y,-⟩:=h;exact⟨x,d,gr,C,H,t,u,v,y⟩
theorem zo(s:Z6)(w:ZY)(h:s.size<32\/200<s.size) :
 ZH Z8 30 #[.string s] w fun r w'=>zpD w w' (Z5 s) r:=by
 have t:cF (Z5 s)=Z7:=by unfold cF;rw[ZS (by rw[ZZ];omega)]
 have D:=lh t;clear t
 have fin:∀ w':ZY,w'=w.alloc (.cells (zlit 0 ⟨#[]⟩) 29)->zpD w w' (Z5 s) (.returned (.tuple #[.agg (row w' w.heap.size),.int .i64 11])):=fun w' e=>by
  subst e;rw[ak,eh];exact⟨(YS,[],[]),_,_,11,rfl,IS.nil _,GS.nil _,by exact aB,Xb ⟨D.o,rfl,rfl⟩,(fun _ h=>by cases h),(fun _ h=>by cases h)⟩
 have H:=lh fin;clear fin;rcases h with h|h
 .have E:decide ((s.size:Int)<32)=ZX:=by rw[ZU];omega
  clear h;go_enter Tryz.func30,Tryz.ntmps30
  go_wp2_with fail
  refine ZD (bV (n:=32) rfl Tryz.underlying29 rfl (by kernel_rfl) _ _ w.heap.size rfl ?_) rfl ?_
  .rw[ak];rfl
  .exact H.o _ rfl
 .have E:decide ((s.size:Int)<32)=ZW:=by rw[ZF];omega
  have u:decide (200<(s.size:Int))=ZX:=by rw[ZU];omega
  clear h;go_enter Tryz.func30,Tryz.ntmps30
  go_wp2_with fail
  refine ZD (bV (n:=32) rfl Tryz.underlying29 rfl (by kernel_rfl) _ _ w.heap.size rfl ?_) rfl ?_
  .rw[ak];rfl
  .exact H.o _ rfl
theorem ReadsX.at{k:Int}{K:Nat}(h:ReadsX k K)(W:ZY)(O:Zy Z2)(nq:Nat)(t T u v:TypeId)(N l:Z6)(I:l.size<=1000) :
 ZH Z8 K #[.pointer (Z9 ⟨W.heap.size+1+1+1,0,Z7⟩),.pointer (Z9 ⟨W.heap.size+1,0,Z7⟩)] (((((W.alloc (.cells O t)).drewN nq).alloc (.cells (zlit k N) T)).alloc (.cells #[.string l,.int .i64 0] u)).alloc (.cells #[.string ⟨#[]⟩,.pointer (Z9 ⟨W.heap.size+1+1,0,Z7⟩)] v)) fun r w'=>r=.returned (.tuple #[])/\∃ (x:Fu) (i:Z1 ZM × Nat) (d gr:Z2),cS k N (Z5 l,0)=(x,i)/\RS w' (W.heap.size+1+1+1) (W.heap.size+1+1) (W.heap.size+1) i (x.1.vals d gr)/\(IS w' d x.2.1/\∀ y,d.ownBlock=Z9 y->W.heap.size+1<=y)/\(GS w' gr x.2.2/\∀ y,gr.ownBlock=Z9 y->W.heap.size+1<=y)/\G2 (((((W.alloc (.cells O t)).drewN nq).alloc (.cells (zlit k N) T)).alloc (.cells #[.string l,.int .i64 0] u)).alloc (.cells #[.string ⟨#[]⟩,.pointer (Z9 ⟨W.heap.size+1+1,0,Z7⟩)] v)) w' (W.heap.size+1+1) (W.heap.size+1):=by
 have J:(((W.alloc (.cells O t)).drewN nq).alloc (.cells (zlit k N) T)).heap.size=W.heap.size+1+1:=by simp
 have E:=EB.new ((W.alloc (.cells O t)).drewN nq) (zlit k N) T;rw[show ((W.alloc (.cells O t)).drewN nq).heap.size=W.heap.size+1 by simp] at E;have H:=ba2 _ (W.heap.size+1) l (Z5 l) (zlit k N) u v rfl E;rw[J] at H;rw[eh] at H;have F:=h _ _ _ _ (Z5 l) N (by rw[ZZ];exact I) H;rw[eh];refine F.mono ?_
 rintro r w' ⟨G,d,gr,C,A,B,D⟩;have S:W.heap.size+1<=(((((W.alloc (.cells O t)).drewN nq).alloc (.cells (zcells k N) T)).alloc (.cells #[.string l,.int .i64 0] u)).alloc (.cells #[.string ⟨#[]⟩,.pointer (Z9 ⟨W.heap.size+1+1,0,Z7⟩)] v)).heap.size:=by simp
 exact⟨G,_,_,d,gr,rfl,C,⟨A.1,fun y z=>ZC S (A.2 y z)⟩,⟨B.1,fun y z=>ZC S (B.2 y z)⟩,D⟩
theorem xn(s:Z6)(h:0<s.size):(Z5 s).headD 0=s[0]:=by
 rw[Ds.bl_get s 0 h,List.headD_eq_head?_getD,List.head?_eq_getElem?,List.getElem?_eq_getElem (by rw[ZZ];exact h)];rfl
theorem AA(W:ZY):ZH Z8 74 #[] W fun r w'=>∃ m,r=.returned (.map (Z9 m))/\MP m w'/\Z4 W.heap.size W w'/\W.heap.size<=m :=
 (iC W).mono fun _ _ ⟨H,h⟩=>⟨_,H,by subst h;exact⟨Zs W _,by simp⟩,by subst h;exact (ZR _ _).alloc (ZV _) _,ZV _⟩
theorem Df{t:TypeId}(h:Z4 (w.alloc (.cells (zlit 0 ⟨#[]⟩) t)).heap.size (w.alloc (.cells (zlit 0 ⟨#[]⟩) t)) f)(v:MP m f)(x:(w.alloc (.cells (zlit 0 ⟨#[]⟩) t)).heap.size<=m)(I:Iter l m f.heap.size #[] 5)(H:Z4 f.heap.size f l):DW w l m f.heap.size #[] 5:=by
 have S:(w.alloc (.cells (zlit 0 ⟨#[]⟩) t)).heap.size=w.heap.size+1:=by simp
 rw[S] at h x;have u:=h.size;rw[S] at u;have E:=EB.new w (zlit 0 ⟨#[]⟩) t;rw[eh] at E;refine⟨?_,(E.of_block (by rw[h.block _ (by omega),eh]) (by rw[<-eh,S];omega)).of_block (H.block _ (by omega)) H.size,I,by omega,v.2⟩
 exact (((ZR _ _).alloc (ZV _) _).trans (h.mono (by omega))).trans (H.mono (by omega))
theorem uK:(((Rd.fin i:Nat):Int)==0)=ZX/\Hid (Rd.fin i=0)\/(((Rd.fin i:Nat):Int)==0)=ZW/\Hid (Rd.fin i≠0):=by
 by_cases h:Rd.fin i=0
 .exact VZ ⟨by rw[h];rfl,lh h⟩
 .exact Xb ⟨by rw[ZJ];omega,lh h⟩
theorem te{S:Zy Nat}(h:DW w wr m r S c)(n:Nat):DW w (wr.drewN n) m r S c:=h.below (below_drewN (ZR _ _) _)
theorem FR{t s:Z6}(h:Z5 t=Vm (Z5 (s.extract 1 32))):t.size<=1000:=by
 rw[<-ZZ,h];unfold Vm;rw[List.length_take,ZZ];have:(s.extract 1 32).size<=31:=by simp;omega
 omega
theorem Cb(s:Z6)(w:ZY)(hm:MaxL w)(hT:Tab w)(b3:32<=s.size)(a8:s.size<=200) :
 ZH Z8 30 #[.string s] w fun r w'=>zpD w w' (Z5 s) r:=by
 have b7:0<s.size:=by omega
 have a2:=lh (xn s b7);have al:=fun W=>oo (s.extract 1 32) W (by simp;omega)
 have J:32<=(Z5 s).length/\(Z5 s).length<=200:=by rw[ZZ];exact⟨b3,a8⟩
 have af:Vm (Z5 (s.extract 1 32))=eE (Z5 s):=by
  unfold eE Z5;rw[ByteArray.data_extract,Array.toList_extract]
 have D:Z5 (s.extract 32 s.size)=(Z5 s).drop 32:=by
  unfold Z5;rw[ByteArray.data_extract,Array.toList_extract];show (s.data.toList.drop 32).take (s.size - 32)=_
  rw[List.take_of_length_le (by rw[List.length_drop,Array.length_toList];exact ZV _)]
 have b1:=lh al;have a6:=lh af;have a7:=lh D;have av:=lh J;clear al af D J;have e1:decide ((s.size:Int)<32)=ZW:=by rw[ZF];omega
 have e2:decide (200<(s.size:Int))=ZW:=by rw[ZF];omega
 go_enter Tryz.func30,Tryz.ntmps30
 go_wp2_with first|go_at_call 74;(with_reducible refine (AA _).mono ?_);rintro _ f ⟨m,rfl,hM,aa,ac⟩;have HM:=lh hM;have a0:=lh aa;have a5:=lh ac;clear hM aa ac|at_range;refine xF _ rfl _ rfl m rfl HM.o ?_;intro l Z ab b5;have a3:=lh (Df a0.o HM.o a5.o Z ab);clear Z ab b5 HM a0 a5
 go_frame
 go_loopw [23] (fun _ wr=>∃ (S:Zy Nat) (c:Nat),DW w wr m f.heap.size S c/\Tried s[0] (Z5 s) S) (fun _ wr=>(leftOf fe5 (wr.iterSeen f.heap.size)).size)
 case atStart=>exact⟨#[],5,a3.o,fun k _ h=>by simp at h⟩
 case round =>
  clear a3;obtain⟨S,c,hD,a9⟩:=hrel;have G:=lh hD;have O:=lh a9;clear a9 hD;have ao:=lE G.o.2.1 (show (zcells 0 ⟨#[]⟩).size=33 from ah _ _ _) (by decide);have X:=fun (k:Int) (K:Nat) (h:ReadsX k K) W o1 nq t1 t2 t3 t4 nm=>ReadsX.at h W o1 nq t1 t2 t3 t4 nm (s.extract 32 s.size) (by simp;omega)
  unfold zlit at X;have b0:=lh X;have I:=fun (x:Fu) (d gr:Z2) (W:ZY) (hB:Z4 w.heap.size w W) h1 h2 h3=>zc x d gr W (hm.below hB) (hT.below hB) h1 h2 h3 s
  have ar:=lh I;clear X I
  go_wp2_with first|at_next;refine xE _ rfl _ rfl m f.heap.size c S rfl G.o.2.2.1 s[0] (fun U=>?_) (fun k li A K B w3 ad v b4=>?_) (fun k A K B w3 hE v b4=>?_)
  .have H:row (wr.setRow w.heap.size (zlit 0 ⟨#[]⟩)) w.heap.size=zlit 0 ⟨#[]⟩:=au ao _;refine ZD (bV (n:=32) rfl Tryz.underlying29 rfl (by kernel_rfl) _ _ w.heap.size rfl ?_) rfl ?_
   .exact (Y7 Array.size H).trans rfl
   .refine⟨(YS,[],[]),.slice Z7 0 0,.slice Z7 0 0,11,?_,IS.nil _,GS.nil _,below_setRow G.o.1 (ZV _) _,Xb ⟨zm _ S (by rw[a2.o];exact O.o) U.o,rfl,rfl⟩,(fun _ h=>by cases h),(fun _ h=>by cases h)⟩
    exact Y7 (fun z=>Ending.returned (.tuple #[.agg z,.int .i64 11])) (H.trans (eh _ _))
  .go_quiet (fail)
   go_wp2_with fail
   go_roundw
   case rel=>exact⟨S.push k.toNat,5,((G.o.step v.o.1).alloc _).below (below_drewN (ZR _ _) _),O.o.push v.o.1.1 (fun e=>absurd e v.o.2)⟩
   case measure=>rw[G.o.2.2.1.seen,(te ((G.o.step v.o.1).alloc _) _).2.2.1.seen];exact v.o.1.2.2.2.2
  .go_quiet (fail)
   have P:=G.o.step v.o.1;have a4:=lh P;have zr:=P.lt.2.1;clear P
   go_wp2_with first|go_at_call 75;(refine (b1.o _).mono ?_);rintro _ w4 ⟨t,rfl,ht,rfl⟩;have N:=lh ht;clear ht|(go_at_call 45;(with_reducible refine (rR _ _).mono ?_);rintro _ w4 ⟨rfl,rfl⟩)|(with_reducible refine (b0.o k K v.o.2.2 _ _ _ _ _ _ _ _).mono ?_);rintro _ w5 ⟨rfl,x,i,d,gr,hX,F,Z,R,hG⟩;have HX:=lh hX;have L:=lh F;have HI:=lh Z;have E:=lh R;have q:=BO k t (Z5 (s.extract 32 s.size),0);rw[hX] at q;have b6:x.1.name.size<=1000:=(by rw[q];exact FR N.o);have b9:=ay x.1 d gr (aD Z.1) (aE R.1);have R5:=F.2.2.1.1;have Q5:=F.1;unfold CI at Q5;have D5:=lh (DW.g2 ((((te (a4.o.alloc _) _).alloc _).alloc _).alloc _) hG (by omega) (by omega));clear hX F Z R hG|(go_at_call 76;(refine (ar.o x d gr _ D5.o.1 b6 HI.o.1 E.o.1).mono ?_);rintro _ w6 ⟨t',b8,rfl,u,T⟩;have R6:=am u R5 (by simp [ah]);have Q6:=(u.cell (p:=⟨w3.heap.size+1+1+1,1,Z7⟩) L.o.2.2.2.2.2.2.1).trans Q5;have D6:=lh (D5.o.below u);have b2:=lh (L.o.2.1.below u L.o.2.2.2.2.2.2.2);have a1:=lh u;have H6:=lE D6.o.2.1 (show (zcells 0 ⟨#[]⟩).size=33 from ah _ _ _) (by decide);clear u;rcases T with ⟨rfl,ad,hh⟩|⟨rfl,ad,hh⟩|⟨rfl,hh⟩)|(go_at_call 47;(with_reducible refine (wl _ i _ b2.o).mono ?_);rintro _ w7 ⟨rfl,rfl⟩;rcases uK i with ⟨hf,V⟩|⟨hf,V⟩)
   .have H:row (w6.setRow w.heap.size (x.1.vals d gr)) w.heap.size=x.1.vals d gr:=au H6 _;refine ZD (bV (n:=32) rfl Tryz.underlying29 rfl (by kernel_rfl) _ _ w.heap.size rfl ?_) rfl ?_
    .exact (Y7 Array.size H).trans (ah _ _ _)
    .have zz:=a4.o.lt.1;have C:∀ j,w.heap.size+1<=j->j<w6.heap.size->(w6.setRow w.heap.size (x.1.vals d gr)).heap[j]?=w6.heap[j]?:=fun j h1 _=>cP _ _ _ _ (by omega)
     refine⟨x,d,gr,0,Y7 (fun z=>Ending.returned (.tuple #[.agg z,.int .i64 0])) H,(HI.o.1.below a1.o).keep (w.heap.size+1) (fun y Y=>by have:=HI.o.2 y Y;omega) (by simp) C,(E.o.1.below a1.o).keep (w.heap.size+1) (fun y Y=>by have:=E.o.2 y Y;omega) (by simp) C,below_setRow D6.o.1 (ZV _) _,VZ ⟨?_,rfl⟩,(fun y Y=>by have:=HI.o.2 y Y;omega),(fun y Y=>by have:=E.o.2 y Y;omega)⟩
     exact zn _ k x av.o v.o.1.1 (by rw[a2.o];exact v.o.2.1) (FT _ k t x i (N.o.trans a6.o) (by rw[<-a7.o];exact HX.o) V.o hh.o.1 hh.o.2)
   all_goals
    refine⟨⟨S.push k.toNat,5,D6.o,O.o.push v.o.1.1 (fun _=>Il _ k t x i (N.o.trans a6.o) (by rw[<-a7.o];exact HX.o) ?_)⟩,?_⟩
    .rintro ⟨a,b,c⟩
     first
     | exact V.o a
     | exact hh.o c
     | (rw[hh.o] at b;cases b)
    .rw[G.o.2.2.1.seen,D6.o.2.2.1.seen];exact v.o.1.2.2.2.2
theorem rM(s:Z6)(w:ZY)(t:MaxL w)(H:Tab w) :
 ZH Z8 30 #[.string s] w fun r w'=>zpD w w' (Z5 s) r:=by
 by_cases h:s.size<32\/200<s.size
 .exact zo s w h
 .exact Cb s w t H (by omega) (by omega)
theorem KN(s:Z6)(w:ZY)(t:MaxL w)(H:Tab w) :
 ZH Z8 30 #[.string s] w fun r w'=>zA w w' (Z5 s) r :=
 (rM s w t H).mono fun _ _ h=>h.weak
end
end Go.Proofs.YtnkjliahpeebjaaGreatDoor
