/- Catalogs. -/
import Derived.Test.YtnkjliahpeebjaaGreatDoorSaL
set_option maxRecDepth 8000
set_option maxHeartbeats 8000000
open Option renaming some->Z9,none->Z8
open _root_ renaming ByteArray->Z7,List->Z5,if_neg->Z0,if_pos->ZX,decide_eq_true_eq->ZU,UInt8->ZP,beq_eq_false_iff_ne->ZG,Array->ZE,decide_eq_false_iff_not->Zz,congrArg->YX
open Go.Proofs.Tryz renaming prog->Z6,underlying3->Zv
open Go.Proofs.YtnkjliahpeebjaaGreatDoor.Ds renaming bl->Z4,bl_length->ZO
open Go renaming Value->Z3,World->Z2,Calls->ZJ,heap_alloc_new->ZA,bodyPost_ret->Zd
open Bool renaming true->ZZ,false->ZW,and_eq_true->ZT
open Go.RowKit renaming Below->ZV
open Nat renaming le_refl->ZS,le_trans->ZD
open Go.RowKit.Below renaming refl->ZM
open Go.Proofs.YtnkjliahpeebjaaGreatDoor.En renaming zero->YO,base->YD
open Go.Proofs.YtnkjliahpeebjaaGreatDoor.Ek renaming letter->Yo,key->V2,trim->VW
open Go.Instr renaming findNow->Yn,lookup->X6
open Go.Result renaming andThen->XN
open Or renaming inr->WI,inl->VO
namespace Go.Proofs.YtnkjliahpeebjaaGreatDoor
open Go.RowKit
variable(e:En)(k:Int){u w w' l W wr W':Z2}(d f:Z3)(n:Z7)(p:Z5 Int){cs:ZE Z3}(i s:Z5 ZP × Nat){j g r m c:Nat}
section
attribute [local go_sem ↓] aZ bf
attribute [local go_sem] aS aH aK aT ak aI aw az aM ap aq ah aQ aL aP aO aR aY aW bD
theorem Gc(n:Z5 ZP):(V2 k n).length<=32:=by
 unfold V2;split
 .rename_i h;rw[List.length_cons,Ek.pad_len n h.2];exact ZS _
 .simp
theorem Gg(w:Z2)(m:Nat)(k:Int)(v:Z3)(i:Nat)(t:w.heap[m]?=Z9 (.map fe5 5))(h:Yn (.int .i64) (.int .i64 k) fe5.toList 0=Z9 (Z9 (i,v))) :
 (X6 138 (.map (Z9 m)) (.int .i64 k) ZW).run Z6 w=.ok v w:=by
 have H:=fun b=>MapKept.run_checkKey (P:=Z6) (w:=w) (k:=.int .i64 k) Zv rfl b 9999
 have q:=MapKept.run_findKey (P:=Z6) (w:=w) (kt:=3) (k:=.int .i64 k) Zv h;simp [X6,run_underlying Tryz.underlying138,MapKept.run_getObj_map t,H,q,XN]
def MP(m:Nat)(W:Z2):Prop:=W.heap[m]?=Z9 (.map fe5 5)/\m<W.heap.size
theorem MP.below(h:MP m W)(H:ZV W.heap.size W W'):MP m W':=⟨(H.block m h.2).trans h.1,Nat.lt_of_lt_of_le h.2 H.size⟩
theorem Az(W:Z2):ZJ Z6 74 #[] W fun r w'=>∃ m,r=.returned (.map (Z9 m))/\MP m w'/\ZV W.heap.size W w' :=
 (iC W).mono fun _ _ ⟨H,h⟩=>⟨_,H,by subst h;exact⟨ZA W _,by simp⟩,by subst h;exact (ZM _ _).alloc (ZS _) _⟩
def PE(w:Z2)(cs:ZE Z3)(W:Z2):Prop:=row W w.heap.size=cs/\ZV w.heap.size w W
theorem PE.below(h:PE w cs W)(H:ZV W.heap.size W W')(q:0<cs.size):PE w cs W':=⟨am H h.1 q,bt h.2 H⟩
theorem PE.new(w:Z2)(cs:ZE Z3)(t:TypeId):PE w cs (w.alloc (.cells cs t)):=⟨ak w cs t _,(ZM _ _).alloc (ZS _) _⟩
theorem PE.bel(cs:ZE Z3)(h:PE w cs W):ZV w.heap.size w W:=h.2
theorem PE.drew(h:PE w cs W):PE w cs W.drew:=⟨by rw[az];exact h.1,h.2.drew⟩
theorem xS(w:Z2)(H:∀ W,ZV w.heap.size w W->ZJ Z6 63 #[.agg (e.vals d f)] W fun r w'=>r=.returned (.bool ZW)/\ZV W.heap.size W w') :
 ZJ Z6 76 #[.agg (e.vals d f)] w fun r w'=>r=.returned (.tuple #[.string ⟨#[]⟩,.int .i64 1])/\ZV w.heap.size w w':=by
 have V:=lh H;clear H;go_enter Tryz.func76,Tryz.ntmps76
 go_wp2_with (go_at_call 63;(with_reducible refine (V.o _ (by exact aB)).mono ?_);rintro _ u ⟨rfl,h⟩;have B:=Below.trans (show ZV w.heap.size w _ by exact aB) (h.mono (by simp));clear h)
 go_ret2
 exact⟨rfl,B⟩
theorem xJ(U A K B i:Nat)(y:Z5 ZP)(w:Z2)(O:cx K)(z:Yn (.int .i64) (.int .i64 e.kind) fe5.toList 0=Z9 (Z9 (i,.agg (cN U A K B))))(hl:y.length<=1000)(P:∀ W,ZV w.heap.size w W->ZJ Z6 63 #[.agg (e.vals d f)] W fun r w'=>r=.returned (.bool ZZ)/\ZV W.heap.size W w')(S:∀ W,ZV w.heap.size w W->Writes W K (e.vals d f) y) :
 ZJ Z6 76 #[.agg (e.vals d f)] w fun r w'=>∃ t,r=.returned (.tuple #[.string t,.int .i64 0])/\Z4 t=V2 e.kind (Z4 e.name)++y/\ZV w.heap.size w w':=by
 have q:=fun W b=>ut U A K B (e.vals d f) y W O (S W b)
 have v:=fun W=>vP e.kind e.name W
 have x:=fun W m h=>Gg W m e.kind _ i h z
 unfold cN at q x;have C:=Gc e.kind (Z4 e.name);generalize V2 e.kind (Z4 e.name)=ky at v C |-;have HB:=lh q;have HK:=lh v;have HV:=lh P;have L:=lh x;clear q v x P S z O;go_enter Tryz.func76,Tryz.ntmps76
 go_wp2_with (go_at_call 63;(with_reducible refine (HV.o _ (by exact aB)).mono ?_);rintro _ u ⟨rfl,H⟩;have G:=(PE.new w (e.vals d f) 29).below H (by simp [ah]);have R:=G.1;have n0:=ae R 0 _ (ap e d f);have n1:=ae R 1 _ (aq e d f);clear H)
 have V:=G.drew
 go_region_law (first
  | (go_simp;go_at_call 88;(with_reducible refine (HK.o _).mono ?_);rintro _ w3 ⟨T,rfl,z,H⟩;have X:=PE.below (by assumption) H (by simp [ah]);have I:=X.1;have m0:=ae I 0 _ (ap e d f);have m1:=ae I 1 _ (aq e d f);(first|(have M3:=MP.below (by assumption) H;have a0:=L.o _ _ M3.1)|skip);have zk:T.size<=32:=(by rw[<-ZO,z];exact C);(first|(have p:¬ 9223372036854775807<T.size+tb.size:=(by omega))|skip);have E:=lh z;clear H z)
  | (go_simp;go_at_call 74;(with_reducible refine (Az _).mono ?_);rintro _ w4 ⟨m,rfl,M4,H⟩;have a1:=L.o _ _ M4.1;have Y:=PE.below (by assumption) H (by simp [ah]);have J:=Y.1;have q0:=ae J 0 _ (ap e d f);have q1:=ae J 1 _ (aq e d f);clear H)
  | (go_simp;go_at_call 180;(with_reducible refine (HB.o _ (PE.bel (e.vals d f) (by assumption))).mono ?_);rintro _ w5 ⟨tb,rfl,F,H⟩;have Z:=PE.below (by assumption) H (by simp [ah]);have N:=Z.1;have p0:=ae N 0 _ (ap e d f);have p1:=ae N 1 _ (aq e d f);have zb:tb.size<=1000:=(by rw[<-ZO,F];exact hl);(first|(have p:¬ 9223372036854775807<T.size+tb.size:=(by omega))|skip);have D:=lh F;clear H F))
 all_goals
  go_wp2
  go_ret2
  exact⟨_,rfl,by rw[<-E.o,<-D.o];simp [Z4],PE.bel (e.vals d f) (by assumption)⟩
end
theorem EC(G:Z5 Gr)(h:aA (e,p,G)=ZZ) :
 ∃ (L A K B i:Nat),Yn (.int .i64) (.int .i64 e.kind) fe5.toList 0=Z9 (Z9 (i,.agg (cN (L:Nat) A K B)))/\cx K/\∀ (d f:Z3) (w:Z2),IS w d p->GS w f G->Writes w K (e.vals d f) (dX (e,p,G)):=by
 unfold aA at h;unfold dX;simp only at h |-
 by_cases k0:e.kind=0
 .rw[ZX k0] at h |-;unfold fL at h;simp only[ZT] at h
  exact⟨68,32,156,157,0,by rw[k0];rfl,oV,fun d f w H _=>ve e d f p w H (kx e p h.1.2).1⟩
 rw[Z0 k0] at h |-;by_cases k1:e.kind=1
 .rw[ZX k1] at h |-;unfold fm at h;simp only[ZT] at h
  exact⟨71,158,159,163,1,by rw[k1];rfl,qn,fun d f w _ _=>tM e d f w h.1.2⟩
 rw[Z0 k1] at h |-;by_cases q:e.kind=2
 .rw[ZX q] at h |-;unfold eY at h;simp only[ZT] at h
  exact⟨65,166,167,168,2,by rw[q];rfl,qp,fun d f w _ _=>tL e d f w h.1.2⟩
 rw[Z0 q] at h |-;by_cases t:e.kind=3
 .rw[ZX t] at h |-;unfold fK at h;simp only[ZT] at h
  exact⟨67,169,171,173,3,by rw[t];rfl,qu,fun d f w _ _=>vV e d f w h.1.2⟩
 rw[Z0 t] at h |-;by_cases v:e.kind=4
 .rw[ZX v] at h;unfold gD at h;simp only[ZT] at h
  exact⟨80,89,174,175,4,by rw[v];rfl,oW,fun d f w _ x=>vf e d f G w x (km e G h.1.2).1⟩
 .rw[Z0 v] at h;cases h
theorem si(G:Z5 Gr)(w:Z2)(C:MaxL w)(T:Tab w)(z:e.name.size<=1000)(v:IS w d p)(x:GS w f G) :
 ZJ Z6 76 #[.agg (e.vals d f)] w fun r w'=>∃ t,r=.returned (.tuple #[.string t,.int .i64 (if aA (e,p,G)=ZZ then 0 else 1)])/\Z4 t=(if aA (e,p,G)=ZZ then cJ (e,p,G) else [])/\ZV w.heap.size w w':=by
 have h:=fun W (b:ZV w.heap.size w W)=>lN e d f p G W (C.below b) (T.below b) z (v.below b) (x.below b)
 cases H:aA (e,p,G)
 .rw[H] at h;refine (xS e d f w h).mono ?_
  rintro r w' ⟨rfl,q⟩;exact⟨_,rfl,rfl,q⟩
 .rw[H] at h;obtain⟨L,A,K,B,i,y,E,F⟩:=EC e p G H;refine (xJ e d f L A K B i (dX (e,p,G)) w E y (by have:=oG _ H;omega) h (fun W b=>F d f W (v.below b) (x.below b))).mono ?_
  rintro r w' ⟨t,rfl,D,q⟩;exact⟨t,rfl,D,q⟩
section
open Go.ChangeMaps (setBlock)
def ReadsX(k:Int)(K:Nat):Prop:=∀ (W:Z2) (c j g:Nat) (s:Z5 ZP) (N:Z7),s.length<=1000->RS W c j g (s,0) (zcells k N) ->
 ZJ Z6 K #[.pointer (Z9 ⟨c,0,Z8⟩),.pointer (Z9 ⟨g,0,Z8⟩)] W fun r w'=>r=.returned (.tuple #[])/\∃ d f,RS w' c j g (cS k N (s,0)).2 ((cS k N (s,0)).1.1.vals d f)/\(IS w' d (cS k N (s,0)).1.2.1/\∀ x,d.ownBlock=Z9 x->W.heap.size<=x)/\(GS w' f (cS k N (s,0)).1.2.2/\∀ x,f.ownBlock=Z9 x->W.heap.size<=x)/\G2 W w' j g
theorem Io:cS 0 n s=(((dR (YD 0 n) s).1,(dR (YD 0 n) s).2.1,[]),(dR (YD 0 n) s).2.2):=by
 unfold cS;rw[ZX rfl]
theorem Ip:cS 1 n s=(((gL (YD 1 n) s).1,[],[]),(gL (YD 1 n) s).2):=by
 unfold cS;rw[Z0 (by decide)];rw[ZX rfl]
theorem Iq:cS 2 n s=(((iB (YD 2 n) s).1,[],[]),(iB (YD 2 n) s).2):=by
 unfold cS;rw[Z0 (by decide)];rw[Z0 (by decide)];rw[ZX rfl]
theorem Ir:cS 3 n s=(((iH (YD 3 n) s).1,[],[]),(iH (YD 3 n) s).2):=by
 unfold cS;rw[Z0 (by decide)];rw[Z0 (by decide)];rw[Z0 (by decide)];rw[ZX rfl]
theorem Is:cS 4 n s=(((fW (YD 4 n) s).1,[],(fW (YD 4 n) s).2.1),(fW (YD 4 n) s).2.2):=by
 unfold cS;rw[Z0 (by decide)];rw[Z0 (by decide)];rw[Z0 (by decide)];rw[Z0 (by decide)];skip
theorem kT:zcells k n=(YD k n).vals (.slice Z8 0 0) (.slice Z8 0 0):=rfl
theorem reads0:ReadsX 0 156:=fun W c j g s N v H=>by
 rw[kT] at H;rw[Io];simp only
 generalize YD 0 N=B at H |-;exact (uM c j g (s,0) B _ W H v).mono fun _ w' ⟨t,A,q,I,G⟩=>⟨t,A,_,q,I,⟨GS.nil w',fun _ h=>by cases h⟩,G⟩
theorem reads1:ReadsX 1 159:=fun W c j g s N v H=>by
 rw[kT] at H;rw[Ip];simp only
 generalize YD 1 N=B at H |-;exact (sT c j g (s,0) B _ _ W H v).mono fun _ w' ⟨t,q,G⟩=>⟨t,_,_,q,⟨IS.nil w',fun _ h=>by cases h⟩,⟨GS.nil w',fun _ h=>by cases h⟩,G⟩
theorem reads2:ReadsX 2 167:=fun W c j g s N v H=>by
 rw[kT] at H;rw[Iq];simp only
 generalize YD 2 N=B at H |-;exact (tF c j g (s,0) B _ _ W H v).mono fun _ w' ⟨t,q,G⟩=>⟨t,_,_,q,⟨IS.nil w',fun _ h=>by cases h⟩,⟨GS.nil w',fun _ h=>by cases h⟩,G⟩
theorem reads3:ReadsX 3 171:=fun W c j g s N v H=>by
 rw[kT] at H;rw[Ir];simp only
 generalize YD 3 N=B at H |-;exact (vT c j g (s,0) B _ _ W H v).mono fun _ w' ⟨t,q,G⟩=>⟨t,_,_,q,⟨IS.nil w',fun _ h=>by cases h⟩,⟨GS.nil w',fun _ h=>by cases h⟩,G⟩
theorem reads4:ReadsX 4 174:=fun W c j g s N x H=>by
 rw[kT] at H;rw[Is];simp only
 generalize YD 4 N=B at H |-;exact (uN c j g (s,0) B _ W H x).mono fun _ w' ⟨v,G,q,I,t⟩=>⟨v,_,G,q,⟨IS.nil w',fun _ h=>by cases h⟩,I,t⟩
def Hg(x:MapEntry):Prop:=∃ (k:Int) (A K B:Nat),(0<=k/\k<=4)/\x=⟨.int .i64 k,.agg (cN ((Yo k).toNat:Nat) A K B),k.toNat⟩/\cx K/\ReadsX k K
theorem ED:∀ x∈fe5.toList,Hg x:=by
 intro x h;have h:x=⟨.int .i64 0,form0,0⟩\/x=⟨.int .i64 1,form1,1⟩\/x=⟨.int .i64 2,form2,2⟩\/x=⟨.int .i64 3,form3,3⟩\/x=⟨.int .i64 4,form4,4⟩:=by simpa [fe5] using h
 rcases h with rfl|rfl|rfl|rfl|rfl
 .exact⟨0,32,156,157,by decide,rfl,oV,reads0⟩
 .exact⟨1,158,159,163,by decide,rfl,qn,reads1⟩
 .exact⟨2,166,167,168,by decide,rfl,qp,reads2⟩
 .exact⟨3,169,171,173,by decide,rfl,qu,reads3⟩
 .exact⟨4,89,174,175,by decide,rfl,oW,reads4⟩
theorem EA(h:0<=k/\k<=4):∃ x∈fe5.toList,x.born=k.toNat:=by
 rcases (by omega:k=0\/k=1\/k=2\/k=3\/k=4) with rfl|rfl|rfl|rfl|rfl
 .exact⟨_,by unfold fe5;exact List.mem_cons_self,rfl⟩
 .exact⟨⟨.int .i64 1,form1,1⟩,by simp [fe5],rfl⟩
 .exact⟨⟨.int .i64 2,form2,2⟩,by simp [fe5],rfl⟩
 .exact⟨⟨.int .i64 3,form3,3⟩,by simp [fe5],rfl⟩
 .exact⟨⟨.int .i64 4,form4,4⟩,by simp [fe5],rfl⟩
def Iter(w:Z2)(m r:Nat)(S:ZE Nat)(c:Nat):Prop:=w.heap[m]?=Z9 (.map fe5 5)/\w.heap[r]?=Z9 (.mapIter (Z9 m) 5 S c)/\5<=c/\m<w.heap.size/\r<w.heap.size/\m≠r
theorem Iter.keep{S:ZE Nat}(h:Iter w m r S c)(H:w'.heap[m]?=w.heap[m]?)(q:w'.heap[r]?=w.heap[r]?)(t:w.heap.size<=w'.heap.size):Iter w' m r S c :=
 ⟨H.trans h.1,q.trans h.2.1,h.2.2.1,by have:=h.2.2.2.1;omega,by have:=h.2.2.2.2.1;omega,h.2.2.2.2.2⟩
theorem Iter.below{S:ZE Nat}(h:Iter w m r S c)(H:ZV w.heap.size w w'):Iter w' m r S c:=h.keep (H.block _ h.2.2.2.1) (H.block _ h.2.2.2.2.1) H.size
theorem Iter.seen{S:ZE Nat}(h:Iter w m r S c):w.iterSeen r=S:=by unfold World.iterSeen;rw[h.2.1]
section
variable {b:ZE Oper} {rest:Z5 Oper} {o:Oper} {a:Act} {Q:Exit->Act->Z2->Prop}
theorem xF(w:Z2)(x:o.guard=Z8)(v:Operand)(t:o.op=Op.range 138 v)(m:Nat)(y:a.eval v=.map (Z9 m))(h:MP m w)(K:∀ w',Iter w' m w.heap.size #[] 5->ZV w.heap.size w w'->w'.heap.size=w.heap.size+1->wpList Z6 b Q rest (a.put o.dst (.pointer (Z9 ⟨w.heap.size,0,Z8⟩))) w') :
 wpList Z6 b Q (o::rest) a w:=by
 refine wpList_plain x fun z q=>?_
 have H:=run_range_map (P:=Z6) w 138 3 142 m fe5 5 Tryz.underlying138 h.1;unfold Oper.wp;simp [execOp,t,y,H,XN]
 refine q _ _ (K _ ⟨(heap_alloc_old w _ h.2).trans h.1,ZA w _,ZS _,?_,?_,?_⟩ ((ZM _ _).alloc (ZS _) _) ?_)
 .have:=h.2;simp;omega
 .simp
 .have:=h.2;omega
 .simp
theorem xN(w:Z2)(hg:o.guard=Z8)(X:Operand)(G:o.op=Op.next X ZW)(m r c:Nat)(S:ZE Nat)(D:a.eval X=.pointer (Z9 ⟨r,0,Z8⟩))(h:Iter w m r S c)(v:(∀ x∈fe5.toList,S.contains x.born=ZZ)->wpList Z6 b Q rest (a.put o.dst (.tuple #[.bool ZW])) w)(y:∀ (k:Int) (A K B:Nat) (w':Z2),(0<=k/\k<=4)->cx K->ReadsX k K->w.grownBy w' (Z9 r)->w'.heap.size=w.heap.size->Iter w' m r (S.push k.toNat) 5->(leftOf fe5 (S.push k.toNat)).size<(leftOf fe5 S).size ->
 (Instr.entry (.pointer (Z9 ⟨r,0,Z8⟩))).run Z6 w'=.ok (.tuple #[.int .i64 k,.agg (cN ((Yo k).toNat:Nat) A K B)]) w' ->
 wpList Z6 b Q rest (a.put o.dst (.tuple #[.bool ZZ,.int .i64 k,.agg (cN ((Yo k).toNat:Nat) A K B)])) w') :
 wpList Z6 b Q (o::rest) a w:=by
 refine wpList_plain hg fun K' z=>?_
 unfold Oper.wp;obtain⟨U,V,hc,a0,a2,E⟩:=h;have F:∀ x∈fe5.toList,x.born<5:=by decide
 rcases run_next_at (P:=Z6) w o.type r m 5 c S fe5 5 V U F hc with ⟨Y,q⟩|⟨e,T,l,t,q⟩
 .simp [execOp,G,D,q,XN]
  exact z _ _ (v (all_seen fe5 S Y))
 .have C:=(mem_left T).1;have N:=left_shrinks fe5 S e T;obtain⟨k,A,K,B,hk,rfl,Z,hR⟩:=ED e C;have a1:l.heap[r]?=Z9 (.mapIter (Z9 m) 5 S c):=by rcases t with rfl|rfl <;> exact V
  have O:l.heap[m]?=Z9 (.map fe5 5):=by rcases t with rfl|rfl <;> exact U
  have R:l.heap.size=w.heap.size:=by rcases t with rfl|rfl <;> rfl
  have J:w.grownBy l (Z9 r):=by rcases t with rfl|rfl <;> exact⟨rfl,rfl,rfl,ZS _,fun _ _ _=>rfl⟩
  have L:w.grownBy (setBlock l r (.mapIter (Z9 m) 5 (S.push k.toNat) 5)) (Z9 r):=J.trans ⟨rfl,rfl,rfl,by simp [setBlock],fun i _ hi=>kP l r i _ (fun e=>hi (by rw[e]))⟩
  have H:Iter (setBlock l r (.mapIter (Z9 m) 5 (S.push k.toNat) 5)) m r (S.push k.toNat) 5 :=
   ⟨(kP l r m _ E).trans O,nZ l r _ (by omega),ZS _,by simp [setBlock];omega,by simp [setBlock];omega,E⟩
  have I:=run_entry_at (P:=Z6) (setBlock l r (.mapIter (Z9 m) 5 (S.push k.toNat) 5)) r m 5 S fe5 5 _ H.2.1 H.1 C (by decide);simp [execOp,G,D,q,XN]
  exact z _ _ (y k A K B _ hk Z hR L (by simp [setBlock,R]) H N I)
def qK(w w':Z2)(m r:Nat)(S:ZE Nat)(k:Int):Prop:=(0<=k/\k<=4)/\w.grownBy w' (Z9 r)/\w'.heap.size=w.heap.size/\Iter w' m r (S.push k.toNat) 5/\(leftOf fe5 (S.push k.toNat)).size<(leftOf fe5 S).size
theorem xE(w:Z2)(U:o.guard=Z8)(I:Operand)(E:o.op=Op.next I ZW)(m r c:Nat)(S:ZE Nat)(D:a.eval I=.pointer (Z9 ⟨r,0,Z8⟩))(h:Iter w m r S c)(C:ZP)(H:Hid (∀ x∈fe5.toList,S.contains x.born=ZZ)->wpList Z6 b Q rest (a.put o.dst (.tuple #[.bool ZW])) w)(t:∀ (k L:Int) (A K B:Nat) (w':Z2),(L==(C.toNat:Int))=ZW->Hid (qK w w' m r S k/\Yo k≠C) ->
 (Instr.entry (.pointer (Z9 ⟨r,0,Z8⟩))).run Z6 w'=.ok (.tuple #[.int .i64 k,.agg #[.int .u8 L,.func (.func A) #[] #[],.func (.func K) #[] #[],.func (.func B) #[] #[]]]) w' ->
 wpList Z6 b Q rest (a.put o.dst (.tuple #[.bool ZZ,.int .i64 k,.agg #[.int .u8 L,.func (.func A) #[] #[],.func (.func K) #[] #[],.func (.func B) #[] #[]]])) w')(v:∀ (k:Int) (A K B:Nat) (w':Z2),(∀ (q:ZE Z3) (W:Z2),(callFunc K q).run Z6 W=.ok (.enter K q) W)->Hid (qK w w' m r S k/\Yo k=C/\ReadsX k K) ->
 (Instr.entry (.pointer (Z9 ⟨r,0,Z8⟩))).run Z6 w'=.ok (.tuple #[.int .i64 k,.agg #[.int .u8 (C.toNat:Nat),.func (.func A) #[] #[],.func (.func K) #[] #[],.func (.func B) #[] #[]]]) w' ->
 wpList Z6 b Q rest (a.put o.dst (.tuple #[.bool ZZ,.int .i64 k,.agg #[.int .u8 (C.toNat:Nat),.func (.func A) #[] #[],.func (.func K) #[] #[],.func (.func B) #[] #[]]])) w') :
 wpList Z6 b Q (o::rest) a w:=by
 refine xN w U I E m r c S D h (fun T=>H (lh T)) (fun k A K B w' O P R F G J N z=>?_)
 by_cases y:Yo k=C
 .rw[y] at z |-;exact v k A K B w' P (lh ⟨⟨O,F,G,J,N⟩,y,R⟩) z
 .refine t k _ A K B w' ?_ (lh ⟨⟨O,F,G,J,N⟩,y⟩) z
  rw[ZG];intro e;exact y (UInt8.toNat_inj.1 (by omega))
end
end
section
def DW(w wr:Z2)(m r:Nat)(S:ZE Nat)(c:Nat):Prop:=ZV w.heap.size w wr/\EB wr w.heap.size (zcells 0 ⟨#[]⟩)/\Iter wr m r S c/\w.heap.size<m/\m<r
theorem DW.bel{S:ZE Nat}(h:DW w wr m r S c):ZV w.heap.size w wr:=h.1
theorem DW.lt{S:ZE Nat}(h:DW w wr m r S c):w.heap.size<wr.heap.size/\r<wr.heap.size/\m<wr.heap.size:=⟨h.2.1.2.2,h.2.2.1.2.2.2.2.1,h.2.2.1.2.2.2.1⟩
theorem DW.keep{S:ZE Nat}(h:DW w wr m r S c)(H:ZV w.heap.size wr u)(q:u.heap[w.heap.size]?=wr.heap[w.heap.size]?)(t:u.heap[m]?=wr.heap[m]?)(v:u.heap[r]?=wr.heap[r]?):DW w u m r S c :=
 ⟨h.1.trans H,h.2.1.of_block q H.size,h.2.2.1.keep t v H.size,h.2.2.2⟩
theorem DW.below{S:ZE Nat}(h:DW w wr m r S c)(H:ZV wr.heap.size wr u):DW w u m r S c:=by
 obtain⟨z,Z,q⟩:=h.lt;exact h.keep (H.mono (by omega)) (H.block _ z) (H.block _ q) (H.block _ Z)
theorem DW.alloc{S:ZE Nat}(h:DW w wr m r S c)(o:Obj):DW w (wr.alloc o) m r S c:=h.below ((ZM _ _).alloc (ZS _) o)
theorem DW.g2{S:ZE Nat}(h:DW w wr m r S c)(H:G2 wr u j g)(t:r<j)(v:r<g):DW w u m r S c:=by
 obtain⟨z,Z,q⟩:=h.lt;have x:=h.2.2.2;exact h.keep (H.below (by omega) (by omega) (by omega)) (H.block _ z (by omega) (by omega)) (H.block _ q (by omega) (by omega)) (H.block _ Z (by omega) (by omega))
theorem DW.step{S:ZE Nat}{k:Int}(h:DW w wr m r S c)(t:qK wr u m r S k):DW w u m r (S.push k.toNat) 5:=by
 obtain⟨z,Z,y⟩:=h.lt;obtain⟨_,H,x,v,_⟩:=t;have q:=h.2.2.2;refine⟨h.1.trans (gJ H (by omega) (by omega)),h.2.1.of_block (H.block _ z (by intro e;have:=Option.some.inj e;omega)) H.size,v,q⟩
def Tried(C:ZP)(s:Z5 ZP)(S:ZE Nat):Prop:=∀ k:Int,0<=k/\k<=4->S.contains k.toNat=ZZ->Yo k=C->iu k s=Z8
theorem Tried.push{C:ZP}{s:Z5 ZP}{S:ZE Nat}{k:Int}(h:Tried C s S)(x:0<=k/\k<=4)(v:Yo k=C->iu k s=Z8):Tried C s (S.push k.toNat):=by
 intro j t H q;rw[contains_push,Bool.or_eq_true] at H;rcases H with H|H
 .exact h j t H q
 .have e:j.toNat=k.toNat:=by simpa using H
  obtain rfl:j=k:=by omega
  exact v q
theorem yL(c:ZP)(k:Int)(h:iW c=Z9 k):(0<=k/\k<=4)/\Yo k=c:=by
 unfold iW at h;split at h
 .rename_i e;cases h;exact⟨by decide,e.symm⟩
 split at h
 .rename_i e;cases h;exact⟨by decide,e.symm⟩
 split at h
 .rename_i e;cases h;exact⟨by decide,e.symm⟩
 split at h
 .rename_i e;cases h;exact⟨by decide,e.symm⟩
 split at h
 .rename_i e;cases h;exact⟨by decide,e.symm⟩
 .cases h
theorem zm(s:Z5 ZP)(S:ZE Nat)(h:Tried (s.headD 0) s S)(H:∀ x∈fe5.toList,S.contains x.born=ZZ):cF s=Z8:=by
 unfold cF;split
 .split
  .rename_i k y;obtain⟨q,t⟩:=yL _ _ y;obtain⟨x,z,v⟩:=EA k q;exact h k q (by rw[<-v];exact H x z) t
  .rfl
 .rfl
theorem zn(s:Z5 ZP)(k:Int)(x:Fu)(q:32<=s.length/\s.length<=200)(H:0<=k/\k<=4)(h:Yo k=s.headD 0)(t:iu k s=Z9 x):cF s=Z9 x:=by
 unfold cF;rw[ZX q,<-h,l7 k H];exact t
theorem BO:(cS k n s).1.1.name=n:=by
 unfold cS;repeat' split
 all_goals rfl
theorem FT(s:Z5 ZP)(k:Int)(t:Z7)(x:Fu)(i:Z5 ZP × Nat)(v:Z4 t=eE s)(X:cS k t (s.drop 32,0)=(x,i))(h:Rd.fin i=0)(H:aA x=ZZ)(q:cJ x=s):iu k s=Z9 x:=by
 unfold iu;rw[<-v,Ds.mk_bl,X,ZX ⟨h,H,q⟩]
theorem Il(s:Z5 ZP)(k:Int)(t:Z7)(x:Fu)(i:Z5 ZP × Nat)(q:Z4 t=eE s)(H:cS k t (s.drop 32,0)=(x,i))(h:¬ (Rd.fin i=0/\aA x=ZZ/\cJ x=s)):iu k s=Z8:=by
 unfold iu;rw[<-q,Ds.mk_bl,H,Z0 h]
theorem zc(x:Fu)(d f:Z3)(w:Z2)(A:MaxL w)(T:Tab w)(H:x.1.name.size<=1000)(v:IS w d x.2.1)(y:GS w f x.2.2)(s:Z7) :
 ZJ Z6 76 #[.agg (x.1.vals d f)] w fun r w'=>∃ t C,r=.returned (.tuple #[.string t,.int .i64 C])/\ZV w.heap.size w w'/\((C=0/\(t.toList==s.toList)=ZZ/\Hid (aA x=ZZ/\cJ x=Z4 s))\/(C=0/\(t.toList==s.toList)=ZW/\Hid (cJ x≠Z4 s))\/(C=1/\Hid (aA x=ZW))):=by
 refine (si x.1 d f x.2.1 x.2.2 w A T H v y).mono ?_
 rintro r w' ⟨t,rfl,h,z⟩;refine⟨t,_,rfl,z,?_⟩
 cases B:aA (x.1,x.2.1,x.2.2)
 .exact WI (WI ⟨by simp,lh rfl⟩)
 .rw[B] at h;simp only[if_true] at h
  by_cases e:t=s
  .exact VO ⟨by simp,by rw[e];simp,lh ⟨rfl,by rw[<-e];exact h.symm⟩⟩
  .refine WI (VO ⟨by simp,?_,lh (fun q=>e (Ds.bl_inj (h.trans q)))⟩)
   rw[ZG];intro q;exact e ((lM t s).1 q)
attribute [local go_sem ↓] aZ bf bq
attribute [local go_sem] bn aS aH aK aT ak aI aw az aM ah aQ aL aP aO aR aY aW bD
def m8(w w':Z2)(s:Z5 ZP)(r:Ending):Prop:=∃ (x:Fu) (d f:Z3) (C:Int),r=.returned (.tuple #[.agg (x.1.vals d f),.int .i64 C])/\IS w' d x.2.1/\GS w' f x.2.2/\ZV w.heap.size w w'/\(cF s=Z9 x/\C=0\/cF s=Z8/\x=(YO,[],[])/\C=11)/\(∀ q,d.ownBlock=Z9 q->w.heap.size<=q)/\(∀ q,f.ownBlock=Z9 q->w.heap.size<=q)
theorem zo(s:Z7)(w:Z2)(h:s.size<32\/200<s.size) :
 ZJ Z6 30 #[.string s] w fun r w'=>m8 w w' (Z4 s) r:=by
 have q:cF (Z4 s)=Z8:=by unfold cF;rw[Z0 (by rw[ZO];omega)]
 have D:=lh q;clear q
 have fin:∀ w':Z2,w'=w.alloc (.cells (zlit 0 ⟨#[]⟩) 29)->m8 w w' (Z4 s) (.returned (.tuple #[.agg (row w' w.heap.size),.int .i64 11])):=fun w' e=>by
  subst e;rw[ak,eh];exact⟨(YO,[],[]),_,_,11,rfl,IS.nil _,GS.nil _,by exact aB,WI ⟨D.o,rfl,rfl⟩,(fun _ h=>by cases h),(fun _ h=>by cases h)⟩
 have H:=lh fin;clear fin;rcases h with h|h
 .have E:decide ((s.size:Int)<32)=ZZ:=by rw[ZU];omega
  clear h;go_enter Tryz.func30,Tryz.ntmps30
  go_wp2_with fail
  refine Zd (bV (n:=32) rfl Tryz.underlying29 rfl (by kernel_rfl) _ _ w.heap.size rfl ?_) rfl ?_
  .rw[ak];rfl
  .exact H.o _ rfl
 .have E:decide ((s.size:Int)<32)=ZW:=by rw[Zz];omega
  have t:decide (200<(s.size:Int))=ZZ:=by rw[ZU];omega
  clear h;go_enter Tryz.func30,Tryz.ntmps30
  go_wp2_with fail
  refine Zd (bV (n:=32) rfl Tryz.underlying29 rfl (by kernel_rfl) _ _ w.heap.size rfl ?_) rfl ?_
  .rw[ak];rfl
  .exact H.o _ rfl
theorem ReadsX.at{k:Int}{K:Nat}(h:ReadsX k K)(W:Z2)(O:ZE Z3)(nq:Nat)(t T q v:TypeId)(N l:Z7)(I:l.size<=1000) :
 ZJ Z6 K #[.pointer (Z9 ⟨W.heap.size+1+1+1,0,Z8⟩),.pointer (Z9 ⟨W.heap.size+1,0,Z8⟩)] (((((W.alloc (.cells O t)).drewN nq).alloc (.cells (zlit k N) T)).alloc (.cells #[.string l,.int .i64 0] q)).alloc (.cells #[.string ⟨#[]⟩,.pointer (Z9 ⟨W.heap.size+1+1,0,Z8⟩)] v)) fun r w'=>r=.returned (.tuple #[])/\∃ (x:Fu) (i:Z5 ZP × Nat) (d f:Z3),cS k N (Z4 l,0)=(x,i)/\RS w' (W.heap.size+1+1+1) (W.heap.size+1+1) (W.heap.size+1) i (x.1.vals d f)/\(IS w' d x.2.1/\∀ y,d.ownBlock=Z9 y->W.heap.size+1<=y)/\(GS w' f x.2.2/\∀ y,f.ownBlock=Z9 y->W.heap.size+1<=y)/\G2 (((((W.alloc (.cells O t)).drewN nq).alloc (.cells (zlit k N) T)).alloc (.cells #[.string l,.int .i64 0] q)).alloc (.cells #[.string ⟨#[]⟩,.pointer (Z9 ⟨W.heap.size+1+1,0,Z8⟩)] v)) w' (W.heap.size+1+1) (W.heap.size+1):=by
 have J:(((W.alloc (.cells O t)).drewN nq).alloc (.cells (zlit k N) T)).heap.size=W.heap.size+1+1:=by simp
 have E:=EB.new ((W.alloc (.cells O t)).drewN nq) (zlit k N) T;rw[show ((W.alloc (.cells O t)).drewN nq).heap.size=W.heap.size+1 by simp] at E;have H:=ba2 _ (W.heap.size+1) l (Z4 l) (zlit k N) q v rfl E;rw[J] at H;rw[eh] at H;have F:=h _ _ _ _ (Z4 l) N (by rw[ZO];exact I) H;rw[eh];refine F.mono ?_
 rintro r w' ⟨G,d,f,C,A,B,D⟩;have S:W.heap.size+1<=(((((W.alloc (.cells O t)).drewN nq).alloc (.cells (zcells k N) T)).alloc (.cells #[.string l,.int .i64 0] q)).alloc (.cells #[.string ⟨#[]⟩,.pointer (Z9 ⟨W.heap.size+1+1,0,Z8⟩)] v)).heap.size:=by simp
 exact⟨G,_,_,d,f,rfl,C,⟨A.1,fun y z=>ZD S (A.2 y z)⟩,⟨B.1,fun y z=>ZD S (B.2 y z)⟩,D⟩
theorem xn(s:Z7)(h:0<s.size):(Z4 s).headD 0=s[0]:=by
 rw[Ds.bl_get s 0 h,List.headD_eq_head?_getD,List.head?_eq_getElem?,List.getElem?_eq_getElem (by rw[ZO];exact h)];rfl
theorem AA(W:Z2):ZJ Z6 74 #[] W fun r w'=>∃ m,r=.returned (.map (Z9 m))/\MP m w'/\ZV W.heap.size W w'/\W.heap.size<=m :=
 (iC W).mono fun _ _ ⟨H,h⟩=>⟨_,H,by subst h;exact⟨ZA W _,by simp⟩,by subst h;exact (ZM _ _).alloc (ZS _) _,ZS _⟩
theorem Df{t:TypeId}(h:ZV (w.alloc (.cells (zlit 0 ⟨#[]⟩) t)).heap.size (w.alloc (.cells (zlit 0 ⟨#[]⟩) t)) l)(v:MP m l)(x:(w.alloc (.cells (zlit 0 ⟨#[]⟩) t)).heap.size<=m)(I:Iter u m l.heap.size #[] 5)(H:ZV l.heap.size l u):DW w u m l.heap.size #[] 5:=by
 have S:(w.alloc (.cells (zlit 0 ⟨#[]⟩) t)).heap.size=w.heap.size+1:=by simp
 rw[S] at h x;have q:=h.size;rw[S] at q;have E:=EB.new w (zlit 0 ⟨#[]⟩) t;rw[eh] at E;refine⟨?_,(E.of_block (by rw[h.block _ (by omega),eh]) (by rw[<-eh,S];omega)).of_block (H.block _ (by omega)) H.size,I,by omega,v.2⟩
 exact (((ZM _ _).alloc (ZS _) _).trans (h.mono (by omega))).trans (H.mono (by omega))
theorem uK:(((Rd.fin i:Nat):Int)==0)=ZZ/\Hid (Rd.fin i=0)\/(((Rd.fin i:Nat):Int)==0)=ZW/\Hid (Rd.fin i≠0):=by
 by_cases h:Rd.fin i=0
 .exact VO ⟨by rw[h];rfl,lh h⟩
 .exact WI ⟨by rw[ZG];omega,lh h⟩
theorem te{S:ZE Nat}(h:DW w wr m r S c)(n:Nat):DW w (wr.drewN n) m r S c:=h.below (below_drewN (ZM _ _) _)
theorem FR{t s:Z7}(h:Z4 t=VW (Z4 (s.extract 1 32))):t.size<=1000:=by
 rw[<-ZO,h];unfold VW;rw[List.length_take,ZO];have:(s.extract 1 32).size<=31:=by simp;omega
 omega
theorem Cb(s:Z7)(w:Z2)(hm:MaxL w)(hT:Tab w)(b2:32<=s.size)(a8:s.size<=200) :
 ZJ Z6 30 #[.string s] w fun r w'=>m8 w w' (Z4 s) r:=by
 have b6:0<s.size:=by omega
 have a2:=lh (xn s b6);have ag:=fun W=>oo (s.extract 1 32) W (by simp;omega)
 have L:32<=(Z4 s).length/\(Z4 s).length<=200:=by rw[ZO];exact⟨b2,a8⟩
 have af:VW (Z4 (s.extract 1 32))=eE (Z4 s):=by
  unfold eE Z4;rw[ByteArray.data_extract,Array.toList_extract]
 have E:Z4 (s.extract 32 s.size)=(Z4 s).drop 32:=by
  unfold Z4;rw[ByteArray.data_extract,Array.toList_extract];show (s.data.toList.drop 32).take (s.size - 32)=_
  rw[List.take_of_length_le (by rw[List.length_drop,Array.length_toList];exact ZS _)]
 have b0:=lh ag;have a6:=lh af;have a7:=lh E;have ar:=lh L;clear ag af E L;have e1:decide ((s.size:Int)<32)=ZW:=by rw[Zz];omega
 have e2:decide (200<(s.size:Int))=ZW:=by rw[Zz];omega
 go_enter Tryz.func30,Tryz.ntmps30
 go_wp2_with first|go_at_call 74;(with_reducible refine (AA _).mono ?_);rintro _ l ⟨m,rfl,hM,aa,ac⟩;have HM:=lh hM;have a0:=lh aa;have a5:=lh ac;clear hM aa ac|at_range;refine xF _ rfl _ rfl m rfl HM.o ?_;intro u hI ab b4;have a3:=lh (Df a0.o HM.o a5.o hI ab);clear hI ab b4 HM a0 a5
 go_frame
 go_loopw [23] (fun _ wr=>∃ (S:ZE Nat) (c:Nat),DW w wr m l.heap.size S c/\Tried s[0] (Z4 s) S) (fun _ wr=>(leftOf fe5 (wr.iterSeen l.heap.size)).size)
 case atStart=>exact⟨#[],5,a3.o,fun k _ h=>by simp at h⟩
 case round =>
  clear a3;obtain⟨S,c,hD,a9⟩:=hrel;have I:=lh hD;have P:=lh a9;clear a9 hD;have al:=lE I.o.2.1 (show (zcells 0 ⟨#[]⟩).size=33 from ah _ _ _) (by decide);have Y:=fun (k:Int) (K:Nat) (h:ReadsX k K) W o1 nq t1 t2 t3 t4 nm=>ReadsX.at h W o1 nq t1 t2 t3 t4 nm (s.extract 32 s.size) (by simp;omega)
  unfold zlit at Y;have av:=lh Y;have J:=fun (x:Fu) (d f:Z3) (W:Z2) (hB:ZV w.heap.size w W) h1 h2 h3=>zc x d f W (hm.below hB) (hT.below hB) h1 h2 h3 s
  have ao:=lh J;clear Y J
  go_wp2_with first|at_next;refine xE _ rfl _ rfl m l.heap.size c S rfl I.o.2.2.1 s[0] (fun V=>?_) (fun k li A K B w3 ad C b3=>?_) (fun k A K B w3 hE C b3=>?_)
  .have H:row (wr.setRow w.heap.size (zlit 0 ⟨#[]⟩)) w.heap.size=zlit 0 ⟨#[]⟩:=au al _;refine Zd (bV (n:=32) rfl Tryz.underlying29 rfl (by kernel_rfl) _ _ w.heap.size rfl ?_) rfl ?_
   .exact (YX Array.size H).trans rfl
   .refine⟨(YO,[],[]),.slice Z8 0 0,.slice Z8 0 0,11,?_,IS.nil _,GS.nil _,below_setRow I.o.1 (ZS _) _,WI ⟨zm _ S (by rw[a2.o];exact P.o) V.o,rfl,rfl⟩,(fun _ h=>by cases h),(fun _ h=>by cases h)⟩
    exact YX (fun z=>Ending.returned (.tuple #[.agg z,.int .i64 11])) (H.trans (eh _ _))
  .go_quiet (fail)
   go_wp2_with fail
   go_roundw
   case rel=>exact⟨S.push k.toNat,5,((I.o.step C.o.1).alloc _).below (below_drewN (ZM _ _) _),P.o.push C.o.1.1 (fun e=>absurd e C.o.2)⟩
   case measure=>rw[I.o.2.2.1.seen,(te ((I.o.step C.o.1).alloc _) _).2.2.1.seen];exact C.o.1.2.2.2.2
  .go_quiet (fail)
   have R:=I.o.step C.o.1;have a4:=lh R;have zr:=R.lt.2.1;clear R
   go_wp2_with first|go_at_call 75;(refine (b0.o _).mono ?_);rintro _ w4 ⟨t,rfl,ht,rfl⟩;have O:=lh ht;clear ht|(go_at_call 45;(with_reducible refine (rR _ _).mono ?_);rintro _ w4 ⟨rfl,rfl⟩)|(with_reducible refine (av.o k K C.o.2.2 _ _ _ _ _ _ _ _).mono ?_);rintro _ w5 ⟨rfl,x,i,d,f,hX,G,hI,T,hG⟩;have HX:=lh hX;have N:=lh G;have HI:=lh hI;have F:=lh T;have q:=BO k t (Z4 (s.extract 32 s.size),0);rw[hX] at q;have b5:x.1.name.size<=1000:=(by rw[q];exact FR O.o);have b8:=ay x.1 d f (aD hI.1) (aE T.1);have R5:=G.2.2.1.1;have Q5:=G.1;unfold CI at Q5;have D5:=lh (DW.g2 ((((te (a4.o.alloc _) _).alloc _).alloc _).alloc _) hG (by omega) (by omega));clear hX G hI T hG|(go_at_call 76;(refine (ao.o x d f _ D5.o.1 b5 HI.o.1 F.o.1).mono ?_);rintro _ w6 ⟨t',b7,rfl,v,U⟩;have R6:=am v R5 (by simp [ah]);have Q6:=(v.cell (p:=⟨w3.heap.size+1+1+1,1,Z8⟩) N.o.2.2.2.2.2.2.1).trans Q5;have D6:=lh (D5.o.below v);have b1:=lh (N.o.2.1.below v N.o.2.2.2.2.2.2.2);have a1:=lh v;have H6:=lE D6.o.2.1 (show (zcells 0 ⟨#[]⟩).size=33 from ah _ _ _) (by decide);clear v;rcases U with ⟨rfl,ad,hh⟩|⟨rfl,ad,hh⟩|⟨rfl,hh⟩)|(go_at_call 47;(with_reducible refine (wl _ i _ b1.o).mono ?_);rintro _ w7 ⟨rfl,rfl⟩;rcases uK i with ⟨hf,X⟩|⟨hf,X⟩)
   .have H:row (w6.setRow w.heap.size (x.1.vals d f)) w.heap.size=x.1.vals d f:=au H6 _;refine Zd (bV (n:=32) rfl Tryz.underlying29 rfl (by kernel_rfl) _ _ w.heap.size rfl ?_) rfl ?_
    .exact (YX Array.size H).trans (ah _ _ _)
    .have zz:=a4.o.lt.1;have D:∀ j,w.heap.size+1<=j->j<w6.heap.size->(w6.setRow w.heap.size (x.1.vals d f)).heap[j]?=w6.heap[j]?:=fun j h1 _=>cP _ _ _ _ (by omega)
     refine⟨x,d,f,0,YX (fun z=>Ending.returned (.tuple #[.agg z,.int .i64 0])) H,(HI.o.1.below a1.o).keep (w.heap.size+1) (fun y Z=>by have:=HI.o.2 y Z;omega) (by simp) D,(F.o.1.below a1.o).keep (w.heap.size+1) (fun y Z=>by have:=F.o.2 y Z;omega) (by simp) D,below_setRow D6.o.1 (ZS _) _,VO ⟨?_,rfl⟩,(fun y Z=>by have:=HI.o.2 y Z;omega),(fun y Z=>by have:=F.o.2 y Z;omega)⟩
     exact zn _ k x ar.o C.o.1.1 (by rw[a2.o];exact C.o.2.1) (FT _ k t x i (O.o.trans a6.o) (by rw[<-a7.o];exact HX.o) X.o hh.o.1 hh.o.2)
   all_goals
    refine⟨⟨S.push k.toNat,5,D6.o,P.o.push C.o.1.1 (fun _=>Il _ k t x i (O.o.trans a6.o) (by rw[<-a7.o];exact HX.o) ?_)⟩,?_⟩
    .rintro ⟨a,b,c⟩
     first
     | exact X.o a
     | exact hh.o c
     | (rw[hh.o] at b;cases b)
    .rw[I.o.2.2.1.seen,D6.o.2.2.1.seen];exact C.o.1.2.2.2.2
theorem rM(s:Z7)(w:Z2)(q:MaxL w)(H:Tab w) :
 ZJ Z6 30 #[.string s] w fun r w'=>m8 w w' (Z4 s) r:=by
 by_cases h:s.size<32\/200<s.size
 .exact zo s w h
 .exact Cb s w q H (by omega) (by omega)
end
end Go.Proofs.YtnkjliahpeebjaaGreatDoor
