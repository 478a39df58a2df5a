/- Catalogs. -/
import Derived.RangeFuncNested
import Derived.RangeFuncBound
import Derived.Shelf.RegionOpen
import Derived.OwnWalkIn
import Derived.LoopNIn
import Derived.LoopIn
import Derived.Test.YtnkjliahpeebjaaGreatDoorAe
import Derived.Test.YtnkjliahpeebjaaGreatDoorSrt
set_option maxRecDepth 8000
set_option maxHeartbeats 16000000
open Option renaming some->Z9,none->Z8
open _root_ renaming ByteArray->Z7,List->Z5,if_neg->Z0,if_pos->ZX,UInt8->ZP,decide_eq_true->ZL,beq_eq_false_iff_ne->ZG,decide_eq_false->ZF,Array->ZE,Option->Zy,Bool->Zi,congrArg->YX,bne_iff_ne->YN,beq_iff_eq->Yy,id->XP
open Go.Proofs.Tryz renaming prog->Z6,underlying53->WN,underlying5->VX
open Go.Proofs.YtnkjliahpeebjaaGreatDoor.Ds renaming bl->Z4,bl_length->ZO,name->Zj,gen->XZ,bl_mk->V4
open Go renaming Value->Z3,World->Z2,Calls->ZJ,heap_alloc_new->ZA,bodyPost_ret->Zd,callsIn_wide->Zc,TypeId->YZ,maxLen->X9,heap_setCell_other->XO,results_none->WZ
open Go.World renaming cell?_of_block->Z1,cell?_setCell_other->Zt,frozen?_of_block->Zr,cell?_setCell_same'->Zl,putObj_heap_other->Y8,size_alloc->Yi,ownsRow_nil->WJ,alloc->Wt
open Bool renaming true->ZZ,false->ZW,and_eq_true->ZT
open Nat renaming lt_of_lt_of_le->ZY,le_refl->ZS,le_trans->ZD,zero_le->Y7,eq_zero_or_pos->YC
open Go.RowKit renaming Below->ZV,intOf->Y4
open Option.some renaming inj->ZR
open List renaming length_append->ZQ,getElem?_eq_getElem->ZN,length_cons->ZK,take_of_length_le->ZC,take_succ_eq_append_getElem->ZB,length_map->Zq,cons_append->Zm,eq_nil_of_length_eq_zero->Y3,setIfInBounds_toArray->YW,length_nil->YQ,nil_append->YM,length_take->YH,getElem?_map->Yv,set_cons_zero->Ye,set_cons_succ->Yd,length_drop->X8,map_append->XL,append_toArray->Xe,getElem?_range->Xd,length->WR
open Go.RowKit.Below renaming refl->ZM,trans->XY
open Go.Value renaming int->ZH,string->Zh,slice->XF
open UInt8 renaming lt_iff_toNat_lt->Zg,toNat_inj->XT
open Array renaming length_toList->Y2,toList_extract->WQ
open Go.CallsIn renaming inRound->YK
open Go.World.grownBy renaming refl->Xp
namespace Go.Proofs.YtnkjliahpeebjaaGreatDoor
open Go.RowKit
variable(e:En)(g:Nat)(k:Zy Nat){w0 t:Z2}{P:Program}(a:Operand->Z3){fn:Func}{m wq wr w w' W z W':Z2}(al:Z3){A sv u v:Z3}{bp i r:Nat}(gr:Z3){Q:Exit->Act->Z2->Prop}{y:Fu}{B q p bt:Nat}(name s:Z7){σ ρ:Type}{l:Z5 Rw}{f fl:Int}{b gf h:Nat}{cd c d:Int}{st st':LoopState}{pd j:Zy Code}
section
structure Rf where
 fn:FuncId
 tmps:ZE Z3
 ps:ZE Tmp
 asg:Code
 body:Code
 D:Nat
def Rf.loop(r:Rf)(s:LoopState)(p:Zy Code):Obj:=.loop { state:=s,pending:=p,fn:=r.fn,tmps:=r.tmps,params:=r.ps,assign:=r.asg,body:=r.body,defers:=r.D }
structure Rup (r:Rf) (s:LoopState) (p:Zy Code) (w:Z2):Prop where
 lp:w.heap[r.D+1]?=Z9 (r.loop s p)
 dfr:w.heap[r.D]?=Z9 (.deferred (Z9 []))
theorem Rup.lt{r:Rf}{s:LoopState}{p:Zy Code}(h:Rup r s p w):r.D+1<w.heap.size:=(Array.getElem?_eq_some_iff.1 h.lp).1
theorem Rup.put{r:Rf}{s S:LoopState}{p o:Zy Code}(h:Rup r s p w):Rup r S o (w.putObj (r.D+1) (r.loop S o)) :=
 ⟨World.putObj_heap_same h.lt,(Y8 (by omega)).trans h.dfr⟩
def Rf.busy(r:Rf)(w:Z2):Z2:=w.putObj (r.D+1) (r.loop .busy Z8)
def Rf.on(r:Rf)(w:Z2):Z2:=w.putObj (r.D+1) (r.loop .ready Z8)
def Rf.off(r:Rf)(c:Code)(w:Z2):Z2:=w.putObj (r.D+1) (r.loop .done (Z9 c))
def Rf.gone(r:Rf)(p:Zy Code)(w:Z2):Z2:=w.putObj (r.D+1) (r.loop .exhausted p)
theorem Rup.busy{r:Rf}(h:Rup r .ready Z8 w):Rup r .busy Z8 (r.busy w):=h.put
theorem Rup.on{r:Rf}(h:Rup r .busy Z8 w):Rup r .ready Z8 (r.on w):=h.put
theorem Rup.off{r:Rf}{c:Code}(h:Rup r .busy Z8 w):Rup r .done (Z9 c) (r.off c w):=h.put
theorem Rup.gone{r:Rf}{s:LoopState}{p:Zy Code}(h:Rup r s p w):(r.gone p w).heap[r.D]?=Z9 (.deferred (Z9 [])):=(Y8 (by omega)).trans h.dfr
variable {F:Fence} {n:Nat} {P:Program}
def KB(r:Rf)(J:Z2->Prop)(Jx:Code->Z2->Prop):Exit->Act->Z2->Prop
 | .normal,_,w=>Rup r .busy Z8 w/\J w
 | .ret,_,w=>Rup r .busy Z8 w/\Jx .ret w
 | .exit id,_,w=>Rup r .busy Z8 w/\Jx (.exit id) w
 | .goto t,_,w=>Rup r .busy Z8 w/\Jx (.goto t) w
 | .panic _,_,_=>False
 | .outgrown,_,_=>False
theorem pM{r:Rf}{V:ZE Z3}{J:Z2->Prop}{Jx:Code->Z2->Prop}(hF:F.fn r.fn)(R:Rup r .ready Z8 w)(O:V.size=r.ps.size)(E:r.asg.wpIn (F.inRound (r.D+1)) n P (Exit.then (fun a w₁=>Rup r .ready Z8 w₁/\r.body.wpIn (F.inRound (r.D+1)) n P (KB r J Jx) a (r.busy w₁)) (fun _ _ _=>False))
 { tmps:=(r.ps.zip V).foldl (fun t (p,v)=>t.setIfInBounds p v) r.tmps,defers:=[] } w) :
 YieldAt F n P (r.D+1) V w fun e w'=>(e=.returned (.bool ZZ)/\∃ m,Rup r .busy Z8 m/\J m/\w'=r.on m)\/(e=.returned (.bool ZW)/\∃ c m,Rup r .busy Z8 m/\Jx c m/\w'=r.off c m):=by
 refine⟨r.fn,_,r.asg,r.body,run_yield (P:=P) (args:=V) R.lp O,roundIn_of_wpIn hF (wpIn_mono E ?_)⟩
 have fin:∀ (o:Zy Code) (x:Z2),Rup r .busy Z8 x->(Instr.endRound (r.D+1) o).run P x=.ok (.bool o.isNone) (x.putObj (r.D+1) (r.loop (if o.isNone then .ready else .done) o)):=fun o x L=>run_endRound (P:=P) o L.lp
 rintro e a W C
 cases e with
 | normal =>
   obtain⟨G,N⟩:=C;refine⟨_,run_beginRound G.lp rfl,wpIn_mono N ?_⟩
   rintro K S x H
   cases K with
   | normal=>exact⟨_,_,fin Z8 x H.1,.inl ⟨rfl,x,H.1,H.2,rfl⟩⟩
   | ret=>exact⟨_,_,fin (Z9 .ret) x H.1,.inr ⟨rfl,.ret,x,H.1,H.2,rfl⟩⟩
   | exit id=>exact⟨_,_,fin (Z9 (.exit id)) x H.1,.inr ⟨rfl,.exit id,x,H.1,H.2,rfl⟩⟩
   | goto t=>exact⟨_,_,fin (Z9 (.goto t)) x H.1,.inr ⟨rfl,.goto t,x,H.1,H.2,rfl⟩⟩
   | panic I=>exact H.elim
   | outgrown=>exact H.elim
 | ret=>exact C.elim
 | exit id=>exact C.elim
 | goto t=>exact C.elim
 | panic I=>exact C.elim
 | outgrown=>exact C.elim
theorem sd{g:Operand}{G:ZE Tmp}{o x:Code}{a:Act}(R:F.round=Z8)(S:1<=n){L:ZE Z3}(T:a.eval g=.func (.func gf) #[] L)(K:F.fn gf)(eg:∀ args w,(callFunc gf args).run P w=.ok (.enter gf args) w)(h:∀ (r:Rf) (W:Z2),F.fn r.fn->r.tmps=a.tmps->r.ps=G->r.asg=o->r.body=x->r.D=w.heap.size->W=(w.alloc (.deferred (Z9 []))).alloc (r.loop .ready Z8)->Rup r .ready Z8 W ->
 CallsIn F (n - 1) P gf (#[.func (.yield (r.D+1)) #[] #[]]++L) W fun e I=>(∃ v,e=.returned v)/\
  ((Rup r .ready Z8 I/\Q .normal { a with defers:={ target:=.collected r.D,args:=#[] }::a.defers } (r.gone none I))\/
   (∃ c,Rup r .done (Z9 c) I/\c.wpIn F n P Q { a with defers:={ target:=.collected r.D,args:=#[] }::a.defers } (r.gone (some c) I)))) :
 (Code.rangeFunc g G o x).wpIn F n P Q a w:=by
 refine wpIn_rangeFunc ?_
 intro fn N;rw[R];obtain⟨E,H⟩:∃ E,(w.alloc (.deferred (Z9 []))).alloc ((Rf.mk fn a.tmps G o x w.heap.size).loop .ready Z8)=E:=⟨_,rfl⟩
 have U:Rup (Rf.mk fn a.tmps G o x w.heap.size) .ready Z8 E:=by
  rw[<-H];refine⟨?_,(Below.heap_alloc _ _ _ (by simp)).trans (World.alloc_heap_new w _)⟩
  have:=World.alloc_heap_new (w.alloc (.deferred (Z9 []))) ((Rf.mk fn a.tmps G o x w.heap.size).loop .ready Z8);rwa [Yi] at this
 refine⟨w.heap.size+1,[{ target:=.collected w.heap.size,args:=#[] }],E,{ target:=.fn (.func gf) L,args:=#[.func (.yield (w.heap.size+1)) #[] #[]] },E,gf,
  #[.func (.yield (w.heap.size+1)) #[] #[]]++L,E,(by rw[<-H];exact run_enterLoop_outer _ _ _ _ _),?_,?_,?_,fun _=>S,?_⟩
 .simp only[resolve,T]
  simp [go_sem]
 .intro V J;simp [Target.leads] at J;subst J;exact K
 .simp [invoke,go_sem,eg]
 .refine (h (Rf.mk fn a.tmps G o x w.heap.size) _ N rfl rfl rfl rfl rfl H.symm U).mono ?_
  rintro e I ⟨⟨v,rfl⟩,(⟨C,O⟩|⟨c,C,O⟩)⟩
  .exact⟨Z8,_,run_endLoop (P:=P) C.lp (by simp),O⟩
  .exact⟨Z9 c,_,run_endLoop (P:=P) C.lp (by simp),O⟩
end
section
attribute [local go_sem] Oper.semAt_some
def bS(l:Z5 Rw)(id fl cd:Int)(L:ZP){σ ρ:Type}(step:σ->Z7->Z7->Except ρ σ):Nat->Int->Z5 ZP->σ->Except ρ (σ × Int) × Int
 | 0,c,_,s=>(.ok (s,0),c)
 | f+1,c,k,s=>if c+1=fl then (.ok (s,cd),c+1) else match nx id k l with
   | none=>(.ok (s,0),c+1)
   | some x=>if L<(Z4 x.2.1).headD 0 then (.ok (s,0),c+1) else if (Z4 x.2.1).headD 0<L then bS l id fl cd L step f (c+1) (Z4 x.2.1) s else match step s x.2.1 x.2.2 with
     | .ok S=>bS l id fl cd L step f (c+1) (Z4 x.2.1) S
     | .error e=>(.error e,c+1)
structure RI (w:Z2) (bl br bi bc cb p:Nat) (L:ZP) (id:Int):Prop where
 l:w.cell? ⟨bl,0,Z8⟩=Z9 (.int .u8 (L.toNat:Nat))
 r:w.cell? ⟨br,0,Z8⟩=Z9 (.iface 56 (.pointer (Z9 ⟨p,0,Z8⟩)))
 i:w.cell? ⟨bi,0,Z8⟩=Z9 (.int .i64 id)
 c:w.cell? ⟨bc,0,Z8⟩=Z9 (.pointer (Z9 ⟨cb,0,Z8⟩))
 v:w.cell? ⟨cb,0,Z8⟩=Z9 (.int .i64 0)
 f:w.frozen? ⟨cb,0,Z8⟩=ZW
def mF{σ ρ:Type}(C:Nat)(J:Int->σ->Z2->Prop)(Jx:Int->ρ->Z2->Prop)(R:Except ρ (σ × Int) × Int)(w:Z2):Prop :=
 match R.1 with
 | .ok (s,f)=>∃ m,J R.2 s m/\(f=0/\w=m\/w=m.setCell ⟨C,0,Z8⟩ (.int .i64 f))
 | .error x=>Jx R.2 x w
theorem tG(c d:ZP)(W:Z2)(b:Nat)(h:W.cell? ⟨b,0,Z8⟩=Z9 (.int .u8 (c.toNat:Nat)))(H:W.cell? ⟨b,1,Z8⟩=Z9 (.int .u8 (d.toNat:Nat))) :
 (convert 156 9 (.slice (Z9 ⟨b,0,Z8⟩) 2 2)).run Z6 W=.ok (.string ⟨#[c,d]⟩) W:=by
 refine run_convert_bytes_back (P:=Z6) W 156 9 5 ⟨b,0,Z8⟩ 2 [c,d] Tryz.underlying156 VX Tryz.underlying9 ?_
 intro j o;obtain rfl|rfl:j=0\/j=1:=by simp at o;omega
 .simpa [Addr.add] using h
 .simpa [Addr.add] using H
theorem yU(P:Program)(o:Oper)(a:Act)(C:Z2->Prop):Oper.askedIn Fence.wide P o a C=True:=eq_true (fun _ _ _ _=>trivial)
attribute [local go_sem] yU
theorem oX(h:1<=s.size):s[0]'h=(Z4 s).headD 0:=by
 unfold Z4;rw[List.headD_eq_head?_getD,List.head?_eq_getElem?]
 have:s.data.toList[0]?=Z9 (s[0]'h):=by
  rw[ZN (show 0<s.data.toList.length by simpa using ZY Nat.zero_lt_one h)];rfl
 rw[this];rfl
theorem p6(S:σ->Z7->Z7->Except ρ σ)(N:σ->Nat)(a9:∀ s k r s',S s k r=.ok s'->N s'<=N s+1)(J:Int->σ->Z2->Prop)(Jx:Int->ρ->Z2->Prop)(D p bl br bi bc cb:Nat)(sv:Z3)(l:Z5 Rw)(fl cd ca id:Int)(L:ZP)(w0 w:Z2)(s0:σ)(n m:Nat)(Y:∀ c s W,J c s W->RI W bl br bi bc cb p L id/\SHs w0 W p sv l fl cd c)(E:∀ c d s W W',J c s W->W.grownBy W' (Z9 p)->SHs w0 W' p sv l fl cd d->J d s W')(hY:∀ c s k r W,J c s W->N s<=N s0+l.length->(∃ i,(i,k,r)∈l)->1<=k.size->YieldAt Fence.wide m Z6 D #[.string k,.string r] W fun e W'=>match S s k r with|.ok s'=>e=.returned (.bool ZZ)/\J c s' W'|.error x=>e=.returned (.bool ZW)/\Jx c x W')(hw:IntKind.u8.wrap ((L.toNat:Int) - 1)=((L - 1).toNat:Int))(hn:1<=n)(hm:m=n - 1)(h0:J ca s0 w)(ag:0<=ca)(av:ca<=100000)(hl:l.length<=1000)(ar:cd≠0/\cd≠6\/fl<=0) :
 CallsIn Fence.wide n Z6 192 #[.func (.yield D) #[] #[],.pointer (Z9 ⟨bl,0,Z8⟩),.pointer (Z9 ⟨br,0,Z8⟩),.pointer (Z9 ⟨bi,0,Z8⟩),.pointer (Z9 ⟨bc,0,Z8⟩)] w fun e W'=>(∃ v,e=.returned v)/\
  mF cb J Jx (bS l id fl cd L S (l.length+1) ca [L - 1,255] s0) W':=by
 subst hm;have a8:cnt id [L - 1,255] l<l.length+1:=Nat.lt_succ_of_le (cnt_le _ _ _);generalize hR:bS l id fl cd L S (l.length+1) ca [L - 1,255] s0=R;have HR:=lh hR;have ab:=lh a8;have H0:=lh h0;have b2:=(Y _ _ _ h0).1.l;have b3:=tG (L - 1) 255;clear hR a8 h0;refine callsIn_of_wp Tryz.func192 rfl trivial ?_ rfl
 simp only[Tryz.ntmps192,List.size_toArray,ZK,YQ,Nat.reduceAdd,Nat.reduceSub,Array.replicate_succ,Array.replicate_zero,List.push_toArray,Xe,YM,Zm]
 gi_wp2
 have B0:ZV w.heap.size w (w.alloc (.cells #[.int .u8 ((L - 1).toNat:Nat),.int .u8 255] 5)):=(ZM _ _).alloc (ZS _) _;gi_loopw [6] (fun kv wr=>∃ (f:Nat) (c:Int) (k:Z7) (s:σ),kv=.string k/\Hid (bS l id fl cd L S f c (Z4 k) s=R)/\Hid (cnt id (Z4 k) l<f)/\0<=c/\c+f<=ca+l.length+1/\N s+f<=N s0+l.length+1/\Hid (J c s wr)) (fun kv _=>cnt id (Z4 (zy kv)) l)
 case atStart=>exact⟨l.length+1,ca,_,s0,rfl,HR,ab,ag,by omega,by omega,lh (E _ _ _ _ _ H0.o (bo _ B0) ((Y _ _ _ H0.o).2.below B0))⟩
 case round =>
  obtain⟨f,c,k,s,rfl,HP,HC,ao,b0,b1,HJ⟩:=hrel;obtain⟨g,rfl⟩:∃ g,f=g+1:=⟨f - 1,by have:=HC.o;omega⟩;obtain⟨⟨i1,i2,i3,i4,i5,i6⟩,hS⟩:=Y _ _ _ HJ.o;have H:=vO p sv l fl cd c id k w0 wr hS ao (by omega);have b4:=tc ⟨p,0,Z8⟩;have HS:=lh hS;clear hS i5 i6;have C:=HP.o;unfold bS at C;by_cases hf:c+1=fl
  .rw[ZX hf] at C;have K:cd≠0/\cd≠6:=by rcases ar with h|h;exact h;omega
   unfold iM at H;rw[ZX hf] at H;have HN:=lh H;have o:=lh C;have t1:(cd==6)=ZW:=by rw[ZG];exact K.2
   have t2:(cd==0)=ZW:=by rw[ZG];exact K.1
   have t3:(cd != 0)=ZZ:=by rw[YN];exact K.1
   have t4:(cd != 6)=ZZ:=by rw[YN];exact K.2
   clear H C K hf;gi_wp2_with (refine⟨trivial,?_⟩;gi_at_call 371;(refine (Zc.2 HN.o).mono ?_);rintro _ z ⟨rfl,O,T⟩;have I:=lh (E _ _ _ _ _ HJ.o T O);obtain⟨⟨j1,j2,j3,j4,j5,j6⟩,-⟩:=Y _ _ _ I.o;clear O T)
   refine Zd (WZ rfl _ _ _) rfl ?_
   refine⟨⟨_,rfl⟩,?_⟩
   rw[<-o.o];exact⟨_,I.o,.inr rfl⟩
  rw[Z0 hf] at C;unfold iM at H;rw[Z0 hf] at H;clear hf
  cases hx:nx id (Z4 k) l with
  | none =>
    rw[hx] at C H;have HN:=lh H;have o:=lh C;clear H C hx;gi_wp2_with (refine⟨trivial,?_⟩;gi_at_call 371;(refine (Zc.2 HN.o).mono ?_);rintro _ z ⟨rfl,O,T⟩;have I:=lh (E _ _ _ _ _ HJ.o T O);clear O T)
    refine Zd (WZ rfl _ _ _) rfl ?_
    refine⟨⟨_,rfl⟩,?_⟩
    rw[<-o.o];exact⟨_,I.o,.inl ⟨rfl,rfl⟩⟩
  | some x =>
    rw[hx] at C H;obtain⟨a2,-,a0⟩:=jP hx;have a6:=rI hx;obtain⟨xi,X,xr⟩:=x;have a1:=lh a2;clear a2;simp only at C H a0 a6
    have V:1<=X.size:=by
     rcases YC X.size with h|h
     .have:Z4 X=[]:=Y3 (by rw[ZO];exact h);rw[this,lF] at a0;cases a0
     .exact h
    have HN:=lh H;have a3:=lh a6;have a4:Hid (cnt id (Z4 X) l<g):=lh (by have:=HC.o;omega);have af:X[0]'V=(Z4 X).headD 0:=oX X V;have g0:(0:Int)<=0/\(0:Int)<(X.size:Int):=by omega
    have b5:Tryz.prog.follows .mixedOrders=ZZ:=by kernel_rfl
    clear H hx a0 a6;generalize (Z4 X).headD 0=q at C af;by_cases G:L<q
    .rw[ZX G] at C;have o:=lh C;have q1:((L.toNat:Nat):Int)<((q.toNat:Nat):Int):=Int.ofNat_lt.2 (Zg.1 G);have q2:decide (((L.toNat:Nat):Int)<((q.toNat:Nat):Int))=ZZ:=ZL q1;have q3:L.toNat<q.toNat:=Zg.1 G;have q4:decide (L.toNat<q.toNat)=ZZ:=ZL q3;clear C G;gi_wp2_with (refine⟨trivial,?_⟩;gi_at_call 371;(refine (Zc.2 HN.o).mono ?_);rintro _ z ⟨rfl,O,T⟩;have I:=lh (E _ _ _ _ _ HJ.o T O);obtain⟨⟨j1,j2,j3,j4,j5,j6⟩,-⟩:=Y _ _ _ I.o;clear O T)
     refine wpIn_region_quiet_lit rfl (by kernel_rfl) (by kernel_rfl) ?_
     repeat (gi_big_quiet_step (fail))
     refine BigFrame.wpQuietIn_skip (fun _ _ _ _=>trivial) (by rfl) ?_
     simp only[Act.put,YW,Ye,Yd]
     repeat (gi_big_quiet_step (fail))
     refine wpQuietIn_nil ?_
     rintro _ ⟨nq,rfl⟩;gi_wp2
     refine Zd (WZ rfl _ _ _) rfl ?_
     refine⟨⟨_,rfl⟩,?_⟩
     rw[<-o.o];have Z:ZV z.heap.size z (z.drewN nq):=⟨rfl,rfl,rfl,ZS _,fun _ _=>rfl⟩;exact⟨_,E _ _ _ _ _ I.o (bo _ Z) ((Y _ _ _ I.o).2.below Z),.inl ⟨rfl,rfl⟩⟩
    rw[Z0 G] at C;by_cases h8:q<L
    .rw[ZX h8] at C;have o:=lh C;have q1:¬ ((L.toNat:Nat):Int)<((q.toNat:Nat):Int):=fun h=>G (Zg.2 (Int.ofNat_lt.1 h))
     have q2:decide (((L.toNat:Nat):Int)<((q.toNat:Nat):Int))=ZW:=ZF q1;have q3:¬ L.toNat<q.toNat:=fun h=>G (Zg.2 h)
     have q4:decide (L.toNat<q.toNat)=ZW:=ZF q3;have q5:¬ q.toNat=L.toNat:=by have:=Zg.1 h8;omega
     have q6:(((q.toNat:Nat):Int)==((L.toNat:Nat):Int))=ZW:=by rw[ZG];omega
     have q7:(q.toNat==L.toNat)=ZW:=by rw[ZG];omega
     clear C G h8;gi_wp2_with (refine⟨trivial,?_⟩;gi_at_call 371;(refine (Zc.2 HN.o).mono ?_);rintro _ z ⟨rfl,O,T⟩;have I:=lh (E _ _ _ _ _ HJ.o T O);obtain⟨⟨j1,j2,j3,j4,j5,j6⟩,-⟩:=Y _ _ _ I.o;clear O T)
     refine wpIn_region_quiet_lit rfl (by kernel_rfl) (by kernel_rfl) ?_
     repeat (gi_big_quiet_step (fail))
     refine BigFrame.wpQuietIn_skip (fun _ _ _ _=>trivial) (by rfl) ?_
     simp only[Act.put,YW,Ye,Yd]
     repeat (gi_big_quiet_step (fail))
     refine wpQuietIn_nil ?_
     rintro _ ⟨nq,rfl⟩;gi_wp2
     have Z:ZV z.heap.size z (z.drewN nq):=⟨rfl,rfl,rfl,ZS _,fun _ _=>rfl⟩;go_roundw
     case rel=>exact⟨g,c+1,X,s,rfl,o,a4,by omega,by omega,by omega,lh (E _ _ _ _ _ I.o (bo _ Z) ((Y _ _ _ I.o).2.below Z))⟩
     case measure=>exact a3.o
    rw[Z0 h8] at C
    obtain rfl:q=L:=by
     refine XT.1 ?_
     have h1:¬ L.toNat<q.toNat:=fun h=>G (Zg.2 h)
     have h2:¬ q.toNat<L.toNat:=fun h=>h8 (Zg.2 h)
     omega
    have q2:decide (((q.toNat:Nat):Int)<((q.toNat:Nat):Int))=ZW:=ZF (by omega);have q4:decide (q.toNat<q.toNat)=ZW:=ZF (by omega);clear G h8
    cases U:S s X xr with
    | ok s' =>
      have a7:Hid (N s'+g<=N s0+l.length+1):=lh (by have:=a9 _ _ _ _ U;omega);rw[U] at C;have o:=lh C;clear C;gi_wp2_with (refine⟨trivial,?_⟩;gi_at_call 371;(refine (Zc.2 HN.o).mono ?_);rintro _ z ⟨rfl,O,T⟩;have I:=lh (E _ _ _ _ _ HJ.o T O);obtain⟨⟨j1,j2,j3,j4,j5,j6⟩,-⟩:=Y _ _ _ I.o;clear O T;have Z:ZV z.heap.size z z.drew:=⟨rfl,rfl,rfl,ZS _,fun _ _=>rfl⟩;have J3:=lh (E _ _ _ _ _ I.o (bo _ Z) ((Y _ _ _ I.o).2.below Z));obtain⟨fn,aa,ac,ad,hy,hR⟩:=hY _ _ X xr _ J3.o (by omega) ⟨xi,a1.o⟩ V;rw[U] at hR;have a5:=lh hR;clear hR U)
      gi_region_with_o (refine a5.o.mono ?_;rintro _ w4 ⟨rfl,hj⟩;have J4:=lh hj;clear hj)
      all_goals gi_wp2
      all_goals first
       | exact⟨⟨g,c+1,X,s',rfl,o,a4,by omega,by omega,a7.o,J4⟩,a3.o⟩
       | (go_roundw <;> first|exact⟨g,c+1,X,s',rfl,o,a4,by omega,by omega,a7.o,J4⟩|exact a3.o)
    | error e =>
      rw[U] at C;have o:=lh C;clear C;gi_wp2_with (refine⟨trivial,?_⟩;gi_at_call 371;(refine (Zc.2 HN.o).mono ?_);rintro _ z ⟨rfl,O,T⟩;have I:=lh (E _ _ _ _ _ HJ.o T O);obtain⟨⟨j1,j2,j3,j4,j5,j6⟩,-⟩:=Y _ _ _ I.o;clear O T;have Z:ZV z.heap.size z z.drew:=⟨rfl,rfl,rfl,ZS _,fun _ _=>rfl⟩;have J3:=lh (E _ _ _ _ _ I.o (bo _ Z) ((Y _ _ _ I.o).2.below Z));obtain⟨fn,aa,ac,ad,hy,hR⟩:=hY _ _ X xr _ J3.o (by omega) ⟨xi,a1.o⟩ V;rw[U] at hR;have a5:=lh hR;clear hR U)
      gi_region_with_o (refine a5.o.mono ?_;rintro _ w4 ⟨rfl,hj⟩;have J4:=lh hj;clear hj)
      all_goals gi_wp2
      all_goals
       refine Zd (WZ rfl _ _ _) rfl ?_
       refine⟨⟨_,rfl⟩,?_⟩
       rw[<-o.o];exact J4.o
end
section
attribute [local go_sem] Oper.semAt_some
def dC(name:Z7)(s:Z5 Fu)(k r:Z7):Except Int (Z5 Fu) :=
 if (bw k r).2≠0 then .error (bw k r).2 else if (bw k r).1.1.target=name then .ok (s++[(bw k r).1]) else .ok s
def cU(l:Z5 Rw)(fl cd C id:Int)(name:Z7):(Z5 Fu × Int) × Int :=
 match bS l id fl cd 65 (dC name) (l.length+1) C [(65:ZP) - 1,255] [] with
 | (.ok (s,f),c)=>(if f≠0 then ([],f) else (s,0),c)
 | (.error e,c)=>(([],e),c)
theorem tj(s:Z5 Fu)(k r:Z7)(S:Z5 Fu)(h:dC name s k r=.ok S):S.length<=s.length+1:=by
 unfold dC at h;split at h
 .cases h
 split at h
 .cases h;simp
 .cases h;omega
theorem lw{k r:Z7}(h:¬ (bw k r).2≠0):aA (bw k r).1=ZZ/\dL (bw k r).1=Z4 k:=by
 unfold bw at h |-
 cases H:cF (Z4 r) with
 | none=>rw[H] at h;exact absurd (show (11:Int)≠0 by decide) h
 | some y =>
   rw[H] at h;dsimp only at h |-;by_cases o:dL y=Z4 k
   .rw[ZX o];exact⟨(mb _ _ H).1,o⟩
   .rw[Z0 o] at h;exact absurd (show (11:Int)≠0 by decide) h
theorem ze{p u:Tmp}{x o:YZ}(h:fn.results=#[.cell p x,.cell u o])(T:ZE Z3)(w:Z2) :
 (results fn T).run P w=((asAddr (T.getD p undef)).run P w).andThen fun a w₁=>((loadVar x a).run P w₁).andThen fun v w₂=>((asAddr (T.getD u undef)).run P w₂).andThen fun b w₃=>((loadVar o b).run P w₃).andThen fun V w₄=>.ok (.tuple #[v,V]) w₄:=by
 simp only[results,h]
 simp [Sem.run_bind,Result.andThen]
theorem SHs.other{C:Int}(h:SHs w0 wr p sv l fl cd C)(H:wr.grownBy w' (Z9 q))(D:p≠q)(x:w0.heap.size<=q)(I:∀ b,sv.ownBlock=Z9 b->b≠q):SHs w0 w' p sv l fl cd C :=
 ⟨⟨dP h.f.1 (by simp) H D,fun o=>(Zr (a:=⟨p,o,Z8⟩) (H.block p h.pl (fun e=>D (ZR e)))).trans (h.f.2 o)⟩,h.r.keep H.size (fun b E G=>H.block b G (fun e=>I b E (ZR e))),h.ne,h.p0,ZY h.pl H.size,h.b.trans (gJ H x h.b.size)⟩
theorem HJ.le{o:Nat}{H:Z5 Ef}{R:Z5 (ZE Z3)}(h:HJ o w A H R)(I:b<=o):HJ b w A H R:=by
 refine⟨ej h.own I,h.len,h.sz,h.one,fun j r x X Y=>?_⟩
 obtain⟨J,L,K,N,O,S,T,U,V,E⟩:=h.el j r x X Y;exact⟨J,L,K,N,O,S,T,U,V,fun G D C=>⟨(E G D C).1,ZD I (E G D C).2.1,(E G D C).2.2⟩⟩
def Bx(W:Z2)(b:Nat):Prop:=(∃ v,W.cell? ⟨b,0,Z8⟩=Z9 v)/\W.frozen? ⟨b,0,Z8⟩=ZW
theorem Bx.of(h:Bx W b)(e:W'.heap[b]?=W.heap[b]?):Bx W' b:=by
 obtain⟨⟨v,H⟩,o⟩:=h;exact⟨⟨v,(Z1 (a:=⟨b,0,Z8⟩) e).trans H⟩,(Zr (a:=⟨b,0,Z8⟩) e).trans o⟩
theorem Bx.set{o:Nat}(h:Bx W b):Bx (W.setCell ⟨o,0,Z8⟩ v) b:=by
 obtain⟨⟨u,H⟩,x⟩:=h;by_cases e:b=o
 .subst e;exact⟨⟨v,Zl _ _ _ (by rw[H];rfl)⟩,by rw[World.frozen?_setCell];exact x⟩
 .exact⟨⟨u,by rw[Zt _ _ _ _ (by intro k;cases k;exact e rfl)];exact H⟩,by rw[World.frozen?_setCell];exact x⟩
structure AlC (w0 w W:Z2) (h p:Nat) (sv:Z3) (l:Z5 Rw) (fl cd c id:Int) (name:Z7) (r:Rf) (st:LoopState) (pd:Zy Code):Prop where
 sh:SHs w0 W p sv l fl cd c
 g:w.grownBy W (Z9 p)
 ri:RI W (h+7) (h+5) (h+6) (h+8) (h+4) p 65 id
 n:W.cell? ⟨h,0,Z8⟩=Z9 (.string name)
 b1:Bx W (h+1)
 b2:Bx W (h+2)
 b3:Bx W (h+3)
 up:Rup r st pd W
 z:h+11<=W.heap.size
theorem AlC.core{id:Int}{name:Z7}{r:Rf}(x:AlC w0 w W h p sv l fl cd c id name r st pd)(E:∀ k,k<h+11->k≠q->W'.heap[k]?=W.heap[k]?)(K:W.heap.size<=W'.heap.size)(G:q≠h/\∀ i,4<=i->i<=8->q≠h+i)(J:SHs w0 W' p sv l fl cd d)(I:w.grownBy W' (Z9 p))(D:Rup r st' j W')(C:Bx W' (h+1)/\Bx W' (h+2)/\Bx W' (h+3)) :
 AlC w0 w W' h p sv l fl cd d id name r st' j:=by
 have e:∀ i,4<=i->i<=8->W'.heap[h+i]?=W.heap[h+i]?:=fun i H o=>E _ (by omega) (fun e=>G.2 i H o e.symm)
 obtain⟨R,L,N,O,S,T⟩:=x.ri;have q:=fun i (H:4<=i) (o:i<=8)=>Z1 (w:=W) (w':=W') (a:=⟨h+i,0,Z8⟩) (e i H o)
 exact⟨J,I,⟨(q 7 (by omega) (by omega)).trans R,(q 5 (by omega) (by omega)).trans L,(q 6 (by omega) (by omega)).trans N,(q 8 (by omega) (by omega)).trans O,(q 4 (by omega) (by omega)).trans S,(Zr (a:=⟨h+4,0,Z8⟩) (e 4 (by omega) (by omega))).trans T⟩,
  (Z1 (a:=⟨h,0,Z8⟩) (E h (by omega) (fun e=>G.1 e.symm))).trans x.n,C.1,C.2.1,C.2.2,D,ZD x.z K⟩
theorem AlC.tick{id:Int}{name:Z7}{r:Rf}(H:AlC w0 w W h p sv l fl cd c id name r st pd)(I:p<h)(E:r.D=h+9)(o:W.grownBy W' (Z9 p))(C:SHs w0 W' p sv l fl cd d) :
 AlC w0 w W' h p sv l fl cd d id name r st pd:=by
 have J:=H.z;have e:∀ k,k<h+11->k≠p->W'.heap[k]?=W.heap[k]?:=fun k G x=>o.block k (by omega) (fun e=>x (ZR e))
 refine H.core (q:=p) e o.size ⟨by omega,fun i _ _=>by omega⟩ C (aJ H.g o) ⟨?_,?_⟩ ⟨H.b1.of (e _ (by omega) (by omega)),H.b2.of (e _ (by omega) (by omega)),H.b3.of (e _ (by omega) (by omega))⟩
 .rw[e _ (by omega) (by omega)];exact H.up.lp
 .rw[e _ (by omega) (by omega)];exact H.up.dfr
theorem AlC.bel{id:Int}{name:Z7}{r:Rf}(H:AlC w0 w W h p sv l fl cd c id name r st pd)(J:p<h)(I:w.heap.size=h)(G:r.D=h+9)(C:∀ b,sv.ownBlock=Z9 b->b<h)(o:ZV (h+11) W W') :
 AlC w0 w W' h p sv l fl cd c id name r st pd:=by
 have e:=fun k x=>o.block k x
 refine H.core (q:=h+11) (fun k x _=>e k x) o.size ⟨by omega,fun i _ _=>by omega⟩ (H.sh.belowB o (by omega) (fun _ b E=>by have:=C b E;omega)) (bx H.g (o.mono (by omega))) ⟨?_,?_⟩ ⟨H.b1.of (e _ (by omega)),H.b2.of (e _ (by omega)),H.b3.of (e _ (by omega))⟩
 .rw[e _ (by omega)];exact H.up.lp
 .rw[e _ (by omega)];exact H.up.dfr
theorem AlC.turn{id:Int}{name:Z7}{r:Rf}(H:AlC w0 w W h p sv l fl cd c id name r st pd)(L:p<h)(I:w0.heap.size<=h)(J:w.heap.size=h)(D:∀ b,sv.ownBlock=Z9 b->b<h)(o:W.grownBy W' (Z9 q))(N:h<=q)(C:q≠h/\∀ i,4<=i->i<=8->q≠h+i)(E:Rup r st' j W')(x:Bx W' (h+1)/\Bx W' (h+2)/\Bx W' (h+3)) :
 AlC w0 w W' h p sv l fl cd c id name r st' j:=by
 have O:=H.z;exact H.core (q:=q) (fun k K G=>o.block k (by omega) (fun e=>G (ZR e))) o.size C (H.sh.other o (by omega) (by omega) (fun b x=>by have:=D b x;omega)) (bx H.g (gJ o (by omega) (by omega))) E x
theorem AlC.put{id:Int}{name:Z7}{r:Rf}(H:AlC w0 w W h p sv l fl cd c id name r st pd)(G:p<h)(C:w0.heap.size<=h)(E:w.heap.size=h)(I:r.D=h+9)(o:∀ b,sv.ownBlock=Z9 b->b<h) :
 AlC w0 w (W.putObj (r.D+1) (r.loop st' j)) h p sv l fl cd c id name r st' j:=by
 have K:=H.z;have x:=grownBy_putObj' W (r.D+1) (r.loop st' j);have e:∀ k,k<h+10->(W.putObj (r.D+1) (r.loop st' j)).heap[k]?=W.heap[k]?:=fun k J=>x.block k (by omega) (fun e=>by have:=ZR e;omega)
 exact H.turn G C E o x (by omega) ⟨by omega,fun i _ _=>by omega⟩ H.up.put ⟨H.b1.of (e _ (by omega)),H.b2.of (e _ (by omega)),H.b3.of (e _ (by omega))⟩
theorem AlC.set{id:Int}{name:Z7}{r:Rf}(H:AlC w0 w W h p sv l fl cd c id name r st pd)(J:p<h)(C:w0.heap.size<=h)(E:w.heap.size=h)(K:r.D=h+9)(o:∀ b,sv.ownBlock=Z9 b->b<h)(L:i=1\/i=2\/i=3) :
 AlC w0 w (W.setCell ⟨h+i,0,Z8⟩ v) h p sv l fl cd c id name r st pd:=by
 have N:=H.z;have x:=de W ⟨h+i,0,Z8⟩ v;have e:∀ k,k<W.heap.size->k≠h+i->(W.setCell ⟨h+i,0,Z8⟩ v).heap[k]?=W.heap[k]?:=fun k G I=>x.block k G (fun e=>I (ZR e))
 refine H.turn J C E o x (by show h<=h+i;omega) ⟨by show h+i≠h;omega,fun j _ _=>by show h+i≠h+j;omega⟩ ⟨?_,?_⟩ ⟨H.b1.set,H.b2.set,H.b3.set⟩
 .rw[e _ (by omega) (by omega)];exact H.up.lp
 .rw[e _ (by omega) (by omega)];exact H.up.dfr
def zH(w0 w w':Z2)(p:Nat)(sv:Z3)(l:Z5 Rw)(fl cd:Int)(g:(Z5 Fu × Int) × Int)(r:Ending):Prop :=
 ∃ A R,r=.returned (.tuple #[A,.int .i64 g.1.2])/\HJ w.heap.size w' A (g.1.1.map cY) R/\SHs w0 w' p sv l fl cd g.2/\w.grownBy w' (Z9 p)
end
section
attribute [local go_sem] Oper.semAt_some
theorem oC{F:Fence}{R:ZE Oper}{rest:Z5 Oper}{o:Oper}{a:Act}(w:Z2)(Z:o.guard=Z8)(s x:Operand)(t e:YZ)(i:TypeInfo)(z:Z3)(S C:Nat)(ho:o.op=.call { callee:=.builtin .append,args:=#[s,x],argTypes:=#[t,t] })(ht:P.underlying t=Z9 (.slice e))(hi:P.info? e=Z9 i)(hz:i.zero=Z9 z)(I:i.size=S)(V:i.bytes=C)(a1:z.cells.size=S)(a0:0<S)(D:Nat)(v sv:Z3)(n m:Nat)(xs N:Z5 Z3)(hs:a.eval s=v)(L:w.ownsRow D e S v n xs)(hx:a.eval x=sv)(hc:CS w S sv m N)(hm:0<m)(h1:∀ u∈N,u.oneCell'=ZZ)(T:n+m<=X9)(H:(n+m)*C<=140737488355328)(E:D<=w.heap.size)(h:∀ J d w',w'.ownsRow D e S (.slice J (n+m) d) (n+m) (xs++N)->w.grownBy w' v.ownBlock->((XF J (n+m) d).ownBlock=v.ownBlock\/(XF J (n+m) d).ownBlock=Z9 w.heap.size)->wpListIn F B P R Q rest (a.put o.dst (.slice J (n+m) d)) w') :
 wpListIn F B P R Q (o::rest) a w:=by
 obtain⟨a2,c,rfl,hl,Y⟩:=hc;obtain⟨ad,rfl,G⟩:=Y hm;refine wpListIn_plain Z fun K U=>?_
 obtain⟨v',w',O,r1,r2,-,r4⟩:=run_append_own_at (P:=P) w D t o.type e i z S C ht hi hz I V a1 a0 v n xs L ad m c N hl G h1 T H E;obtain⟨J,d,rfl⟩:=bX r1;unfold Oper.wpIn;refine⟨?_,?_⟩
 .simp [Oper.about,ho,resolve,Target.leads,Sem.run_pure]
 .rw[Oper.semAt_plain F _ _ (by rw[ho];intro c X;cases X)];simp [execOp,ho,resolve,invoke,builtin,hs,hx,O,Result.andThen]
  exact U _ _ (h J d w' r1 r2 r4)
theorem Gf(w:Z2)(dst x t pos af gd)(H:db (a x)=ZZ)(o:(row w (bF (a x))).size=33) :
 (Oper.semAt k a ⟨dst,.load 29 x,t,pos,af,gd⟩).run Z6 w=.ok (.value (.agg (row w (bF (a x))))) w:=by
 rw[Oper.semAt_eq k _ _ (by intro c h;cases h)];exact aZ a w dst x t pos af gd H o
theorem Ii(w:Z2)(Z:ZE Z3)(t:YZ)(dst x y t' pos af gd)(H:Z.size=33)(o:db (a x)=ZZ)(C:bF (a x)=w.heap.size)(D:cV (a y)=ZZ)(E:(bA (a y)).size=33)(G:bh (bA (a y)).toList=ZZ) :
 (Oper.semAt k a ⟨dst,.store 29 x y,t',pos,af,gd⟩).run Z6 (w.alloc (.cells Z t))=.ok .skip (w.alloc (.cells (bA (a y)) t)):=by
 rw[Oper.semAt_eq k _ _ (by intro c h;cases h)];exact bf a w Z t dst x y t' pos af gd H o C D E G
theorem Dx(w:Z2)(dst x t pos af gd)(H:cV (a x)=ZZ)(o:(bA (a x)).size=33) :
 (Oper.semAt k a ⟨dst,.buildSlice 33 1 #[(0,x)],t,pos,af,gd⟩).run Z6 w=.ok (.value (.slice (Z9 ⟨w.heap.size,0,Z8⟩) 1 1)) (w.alloc (.cells (bA (a x)) 29)):=by
 rw[Oper.semAt_eq k _ _ (by intro c h;cases h)];exact cl a w dst x t pos af gd H o
attribute [local go_sem ↓] aZ bf bq cl Gf Ii Dx
attribute [local go_sem] bn aS aH bE bH aK aT ak aI aw az aM ah aQ aL aP aO aR aY aW bD ap aq
theorem qZ{T:ZE Z3}{R:Ending->Z2->Prop}{D:Nat}(I:fn.results=#[.cell 6 33,.cell 7 42])(H:T.getD 6 undef=.pointer (Z9 ⟨h+1,0,Z8⟩))(x:T.getD 7 undef=.pointer (Z9 ⟨h+2,0,Z8⟩))(K:W.heap[D]?=Z9 (.deferred (Z9 [])))(E:D=h+9)(C:W.cell? ⟨h+1,0,Z8⟩=Z9 A)(o:W.cell? ⟨h+2,0,Z8⟩=Z9 (.int .i64 f))(G:R (.returned (.tuple #[A,.int .i64 f])) (W.putObj D (.deferred Z8))) :
 LeavesInM Fence.wide B Z6 fn T R [{ target:=.collected D,args:=#[] }] .returning W:=by
 subst E;have J:=grownBy_putObj' W (h+9) (.deferred Z8);have L:(W.putObj (h+9) (.deferred Z8)).cell? ⟨h+1,0,Z8⟩=Z9 A:=(Z1 (a:=⟨h+1,0,Z8⟩) (Y8 (by show h+1≠h+9;omega))).trans C;have N:(W.putObj (h+9) (.deferred Z8)).cell? ⟨h+2,0,Z8⟩=Z9 (.int .i64 f):=(Z1 (a:=⟨h+2,0,Z8⟩) (Y8 (by show h+2≠h+9;omega))).trans o;refine⟨by simp,.inl ⟨_,_,rfl,run_takeDeferred K,?_⟩⟩
 refine⟨.tuple #[A,.int .i64 f],?_,G⟩
 rw[ze I,H,x];go_simp
theorem ye(J:SHs w0 W p sv l fl cd c)(x:w.grownBy W (Z9 p))(G:p<h)(C:w.heap.size=h)(H:∀ b,sv.ownBlock=Z9 b->b<h)(e:∀ k,(k<h\/h+11<=k)->W'.heap[k]?=W.heap[k]?)(N:W.heap.size<=W'.heap.size)(E:W'.os=W.os)(K:W'.tape=W.tape)(L:W'.output=W.output):SHs w0 W' p sv l fl cd c/\w.grownBy W' (Z9 p):=by
 have o:ZV h W W':=⟨E,K,L,N,fun k D=>e k (.inl D)⟩;exact⟨J.belowB o G (fun _ b I=>H b I),bx x (by rw[C];exact o)⟩
def AlJ(w0 w:Z2)(h p:Nat)(sv:Z3)(l:Z5 Rw)(fl cd id:Int)(name:Z7)(r:Rf)(st:LoopState)(c:Int)(s:Z5 Fu)(W:Z2):Prop :=
 AlC w0 w W h p sv l fl cd c id name r st Z8/\∃ o R,W.cell? ⟨h+3,0,Z8⟩=Z9 o/\HJ (h+11) W o (s.map cY) R
def AlX(w0 w:Z2)(h p:Nat)(sv:Z3)(l:Z5 Rw)(fl cd id:Int)(name:Z7)(r:Rf)(st:LoopState)(pd:Zy Code)(c e:Int)(W:Z2):Prop :=
 AlC w0 w W h p sv l fl cd c id name r st pd/\W.cell? ⟨h+1,0,Z8⟩=Z9 (.slice Z8 0 0)/\W.cell? ⟨h+2,0,Z8⟩=Z9 (.int .i64 e)
theorem putc{D j:Nat}{o:Obj}(H:j≠D):(W.putObj D o).cell? ⟨j,0,Z8⟩=W.cell? ⟨j,0,Z8⟩:=Z1 (a:=⟨j,0,Z8⟩) (Y8 H)
theorem AlJ.put{id:Int}{name:Z7}{r:Rf}{s:Z5 Fu}(G:AlJ w0 w h p sv l fl cd id name r st c s W)(K:p<h)(o:w0.heap.size<=h)(J:w.heap.size=h)(I:r.D=h+9)(H:∀ b,sv.ownBlock=Z9 b->b<h) :
 AlJ w0 w h p sv l fl cd id name r st' c s (W.putObj (r.D+1) (r.loop st' Z8)):=by
 obtain⟨x,O,R,C,E⟩:=G;refine⟨x.put K o J I H,O,R,(putc (by omega)).trans C,E.keep (grownBy_putObj' W _ _).size (fun k L _=>Y8 (by omega))⟩
theorem AlX.put{e id:Int}{name:Z7}{r:Rf}(G:AlX w0 w h p sv l fl cd id name r st pd c e W)(K:p<h)(o:w0.heap.size<=h)(J:w.heap.size=h)(I:r.D=h+9)(H:∀ b,sv.ownBlock=Z9 b->b<h) :
 AlX w0 w h p sv l fl cd id name r st' j c e (W.putObj (r.D+1) (r.loop st' j)):=by
 obtain⟨x,C,E⟩:=G;exact⟨x.put K o J I H,(putc (by omega)).trans C,(putc (by omega)).trans E⟩
theorem oc(p:Nat)(sv:Z3)(l:Z5 Rw)(fl cd ca id:Int)(name:Z7)(w0 w:Z2)(hm:MaxL w0)(hT:Tab w0)(Y:SHs w0 w p sv l fl cd ca)(K:∀ b,sv.ownBlock=Z9 b->b<w.heap.size)(hl:l.length<=1000)(ck:0<=ca)(d1:ca<=90000)(cp:cd≠0/\cd≠6\/fl<=0) :
 ZJ Z6 209 #[.iface 56 (.pointer (Z9 ⟨p,0,Z8⟩)),.int .i64 id,.string name] w fun r w'=>zH w0 w w' p sv l fl cd (cU l fl cd ca id name) r:=by
 have I:=Y.pl;have cu:=Y.b.size;have HS:=lh Y;clear Y;obtain⟨g,hg⟩:∃ g,cU l fl cd ca id name=g:=⟨_,rfl⟩;rw[hg];refine (Zc (n:=4)).1 ?_
 refine callsIn_of_wp_marks Tryz.func209 rfl trivial ?_ rfl
 simp only[Tryz.ntmps209,List.size_toArray,ZK,YQ,Nat.reduceAdd,Nat.reduceSub,Array.replicate_succ,Array.replicate_zero,List.push_toArray,Xe,YM,Zm]
 gi_wp2_with (refine⟨trivial,?_⟩;gi_at_call 90;refine (Zc.2 (od p id 65 _ _)).mono ?_;rintro _ _ ⟨rfl,rfl⟩)
 simp only[Nat.add_assoc,Nat.reduceAdd]
 generalize E:Wt _ _=V;have bb:ZV w.heap.size w V:=by rw[<-E];exact aB
 have c8:V.heap.size=w.heap.size+9:=by rw[<-E];simp
 have k0:V.cell? ⟨w.heap.size,0,Z8⟩=Z9 (.string name):=by rw[<-E];simp [go_sem]
 have k1:V.cell? ⟨w.heap.size+1,0,Z8⟩=Z9 (.slice Z8 0 0):=by rw[<-E];simp [go_sem]
 have k2:V.cell? ⟨w.heap.size+2,0,Z8⟩=Z9 (.int .i64 0):=by rw[<-E];simp [go_sem]
 have k3:V.cell? ⟨w.heap.size+3,0,Z8⟩=Z9 (.slice Z8 0 0):=by rw[<-E];simp [go_sem]
 have k4:V.cell? ⟨w.heap.size+4,0,Z8⟩=Z9 (.int .i64 0):=by rw[<-E];simp [go_sem]
 have k5:V.cell? ⟨w.heap.size+5,0,Z8⟩=Z9 (.iface 56 (.pointer (Z9 ⟨p,0,Z8⟩))):=by rw[<-E];simp [go_sem]
 have k6:V.cell? ⟨w.heap.size+6,0,Z8⟩=Z9 (.int .i64 id):=by rw[<-E];simp [go_sem]
 have k7:V.cell? ⟨w.heap.size+7,0,Z8⟩=Z9 (.int .u8 65):=by rw[<-E];simp [go_sem]
 have k8:V.cell? ⟨w.heap.size+8,0,Z8⟩=Z9 (.pointer (Z9 ⟨w.heap.size+4,0,Z8⟩)):=by rw[<-E];simp [go_sem]
 have f1:V.frozen? ⟨w.heap.size+1,0,Z8⟩=ZW:=by rw[<-E];simp [go_sem]
 have f2:V.frozen? ⟨w.heap.size+2,0,Z8⟩=ZW:=by rw[<-E];simp [go_sem]
 have f3:V.frozen? ⟨w.heap.size+3,0,Z8⟩=ZW:=by rw[<-E];simp [go_sem]
 have f4:V.frozen? ⟨w.heap.size+4,0,Z8⟩=ZW:=by rw[<-E];simp [go_sem]
 clear E;refine sd rfl (by omega) (gf:=192) rfl trivial (enters_of Tryz.func192 (by kernel_rfl) rfl) ?_
 intro r W _ e1 e2 e3 e4 hD hW hU;rw[c8] at hD;have B1:ZV V.heap.size V W:=by rw[hW];exact below2' _ _ _
 have d0:W.heap.size=w.heap.size+11:=by rw[hW];simp [c8]
 clear hW;have q:∀ i,i<=8->W.heap[w.heap.size+i]?=V.heap[w.heap.size+i]?:=fun i hi=>B1.block _ (by omega)
 have qc:∀ i,i<=8->W.cell? ⟨w.heap.size+i,0,Z8⟩=V.cell? ⟨w.heap.size+i,0,Z8⟩:=fun i hi=>Z1 (a:=⟨w.heap.size+i,0,Z8⟩) (q i hi)
 have qf:∀ i,i<=8->W.frozen? ⟨w.heap.size+i,0,Z8⟩=V.frozen? ⟨w.heap.size+i,0,Z8⟩:=fun i hi=>Zr (a:=⟨w.heap.size+i,0,Z8⟩) (q i hi)
 have hA:AlC w0 w W w.heap.size p sv l fl cd ca id name r .ready Z8:=by
  refine⟨(HS.o.below bb).below B1,bo _ (bb.trans (B1.mono (by omega))),⟨(qc 7 (by omega)).trans k7,(qc 5 (by omega)).trans k5,(qc 6 (by omega)).trans k6,(qc 8 (by omega)).trans k8,(qc 4 (by omega)).trans k4,(qf 4 (by omega)).trans f4⟩,(qc 0 (by omega)).trans k0,⟨⟨_,(qc 1 (by omega)).trans k1⟩,(qf 1 (by omega)).trans f1⟩,⟨⟨_,(qc 2 (by omega)).trans k2⟩,(qf 2 (by omega)).trans f2⟩,⟨⟨_,(qc 3 (by omega)).trans k3⟩,(qf 3 (by omega)).trans f3⟩,hU,by omega⟩
 have c7:=(qc 3 (by omega)).trans k3;clear B1 q qc qf k0 k1 k2 k3 k4 k5 k6 k7 k8 f1 f2 f3 f4 hU bb;generalize hh:w.heap.size=h at *;simp only[Xe,Zm,YM]
 unfold cU at hg;generalize hR:bS l id fl cd 65 (dC name) (l.length+1) ca [(65:ZP) - 1,255] []=R at hg;have a2:w0.heap.size<=h:=cu
 have br:∀ (c d:Int) (s:Z5 Fu) (W1 W':Z2),AlJ w0 w h p sv l fl cd id name r .ready c s W1->W1.grownBy W' (Z9 p)->SHs w0 W' p sv l fl cd d->AlJ w0 w h p sv l fl cd id name r .ready d s W':=by
  rintro c d s W1 W' ⟨X,ov,L,h2,h3⟩ hg hs;have z:=X.z;exact⟨X.tick I hD hg hs,ov,L,(Z1 (a:=⟨h+3,0,Z8⟩) (hg.block (h+3) (by omega) (fun e=>by have:=ZR e;omega))).trans h2,h3.tick hg (by omega)⟩
 have HY:∀ (c:Int) (s:Z5 Fu) (k rc:Z7) (W1:Z2),AlJ w0 w h p sv l fl cd id name r .ready c s W1->s.length<=([]:Z5 Fu).length+l.length->YieldAt Fence.wide 2 Z6 (r.D+1) #[.string k,.string rc] W1 fun e W'=>match dC name s k rc with|.ok s'=>e=.returned (.bool ZZ)/\AlJ w0 w h p sv l fl cd id name r .ready c s' W'|.error x=>e=.returned (.bool ZW)/\AlX w0 w h p sv l fl cd id name r .done (Z9 .ret) c x W':=by
  intro c s k rc W1 S c4;have hb:=S.put (st':=.busy) I a2 hh hD K;refine (pM (r:=r) (J:=fun C=>∃ s',dC name s k rc=.ok s'/\AlJ w0 w h p sv l fl cd id name r .busy c s' C) (Jx:=fun cc C=>∃ e,dC name s k rc=.error e/\cc=.ret/\AlX w0 w h p sv l fl cd id name r .busy Z8 c e C) trivial S.1.up (by rw[e2];rfl) ?_).mono ?_
  rotate_left
  .rintro e W' (⟨rfl,m,hu,⟨s',cs,X⟩,rfl⟩|⟨rfl,cc,m,hu,⟨e,he,rfl,X⟩,rfl⟩)
   .rw[cs];exact⟨rfl,X.put I a2 hh hD K⟩
   .rw[he];exact⟨rfl,X.put I a2 hh hD K⟩
  change AlJ w0 w h p sv l fl cd id name r .busy c s (r.busy W1) at hb
  simp only[e1,e2,e3,e4]
  gi_wp2
  refine⟨S.1.up,?_⟩
  generalize r.busy W1=Wb at hb |-;obtain⟨a7,ov,L,b0,ao⟩:=hb;obtain⟨va,vc,rfl⟩:=bX ao.own;rw[Zq] at b0 ao;have zb:=a7.z;have bi:=tl k rc Wb (hm.below a7.sh.b) (hT.below a7.sh.b);have ac:¬ (bw k rc).2≠0->aA (bw k rc).1=ZZ:=fun h=>(lw h).1
  have Y:dC name s k rc=if (bw k rc).2≠0 then .error (bw k rc).2 else if (bw k rc).1.1.target=name then .ok (s++[(bw k rc).1]) else .ok s:=rfl
  generalize bw k rc=yy at bi ac Y;obtain⟨y,f⟩:=yy;dsimp only at ac Y;have b9:=lh bi;have b7:=lh a7;have b8:=lh ao;clear bi S ao a7;by_cases h0:f=0
  rotate_left
  .rw[ZX h0] at Y;have t1:(f != 0)=ZZ:=YN.2 h0;have a6:=lh Y;clear h0 ac Y;gi_wp2_with (refine⟨trivial,?_⟩;gi_at_call 92;refine (YK _ (Zc.2 b9.o)).mono ?_;rintro _ w3 ⟨⟨o,G,rfl,hI,N,a9,Z⟩,O⟩;have a1:=ay y.1 o G (aD hI) (aE N);have B4:ZV Wb.heap.size Wb (w3.alloc (.cells (y.1.vals o G) 29)):=bt O (aj w3 _);have z3:=O.size;have U:=b7.o.bel I hh hD K (B4.mono zb);have cn:=U.n;obtain⟨⟨v1,k1⟩,f1⟩:=U.b1;obtain⟨⟨v2,k2⟩,f2⟩:=U.b2;obtain⟨-,f3⟩:=U.b3;have co:=((B4.mono zb).cell (p:=⟨h+3,0,Z8⟩) (by show h+3<h+11;omega)).trans b0;have R4:=ak w3 (y.1.vals o G) 29 (0,0);have N4:=ae R4 29 _ (cB _ _ _);have a0:=lh U;have HI:=lh hI;have a4:=lh N;have af:=lh Z;have ad:=lh B4;clear hI N a9 Z O U B4)
   have A5:=((a0.o.set (i:=1) (v:=.slice Z8 0 0) I a2 hh hD K (.inl rfl)).set (i:=2) (v:=.int .i64 f) I a2 hh hD K (.inr (.inl rfl)));exact⟨A5.up,f,a6.o,rfl,A5,(Zt _ _ _ _ (by intro e;have:=YX Addr.block e;simp at this)).trans (Zl _ _ _ (by rw[k1];rfl)),Zl _ _ _ (by rw[Zt _ _ _ _ (by intro e;have:=YX Addr.block e;simp at this),k2];rfl)⟩
  rw[Z0 (fun k=>k h0)] at Y;subst h0;have d2:=wg y (ac (fun k=>k rfl));have t3:=fd y.1.target name;clear ac;by_cases ht:y.1.target=name
  rotate_left
  .rw[Z0 ht] at Y;rw[ZF ht] at t3;have a6:=lh Y;clear ht Y;gi_wp2_with (refine⟨trivial,?_⟩;gi_at_call 92;refine (YK _ (Zc.2 b9.o)).mono ?_;rintro _ w3 ⟨⟨o,G,rfl,hI,N,a9,Z⟩,O⟩;have a1:=ay y.1 o G (aD hI) (aE N);have B4:ZV Wb.heap.size Wb (w3.alloc (.cells (y.1.vals o G) 29)):=bt O (aj w3 _);have z3:=O.size;have U:=b7.o.bel I hh hD K (B4.mono zb);have cn:=U.n;obtain⟨⟨v1,k1⟩,f1⟩:=U.b1;obtain⟨⟨v2,k2⟩,f2⟩:=U.b2;obtain⟨-,f3⟩:=U.b3;have co:=((B4.mono zb).cell (p:=⟨h+3,0,Z8⟩) (by show h+3<h+11;omega)).trans b0;have R4:=ak w3 (y.1.vals o G) 29 (0,0);have N4:=ae R4 29 _ (cB _ _ _);have a0:=lh U;have HI:=lh hI;have a4:=lh N;have af:=lh Z;have ad:=lh B4;clear hI N a9 Z O U B4)
   exact⟨a0.o.up,s,a6.o,a0.o,_,L,co,b8.o.below ad.o⟩
  rw[ZX ht] at Y;rw[ZL ht] at t3;have a6:=lh Y;clear ht Y;gi_wp2_with (first|(refine⟨trivial,?_⟩;gi_at_call 92;refine (YK _ (Zc.2 b9.o)).mono ?_;rintro _ w3 ⟨⟨o,G,rfl,hI,N,a9,Z⟩,O⟩;have a1:=ay y.1 o G (aD hI) (aE N);have B4:ZV Wb.heap.size Wb (w3.alloc (.cells (y.1.vals o G) 29)):=bt O (aj w3 _);have z3:=O.size;have U:=b7.o.bel I hh hD K (B4.mono zb);have cn:=U.n;obtain⟨⟨v1,k1⟩,f1⟩:=U.b1;obtain⟨⟨v2,k2⟩,f2⟩:=U.b2;obtain⟨-,f3⟩:=U.b3;have co:=((B4.mono zb).cell (p:=⟨h+3,0,Z8⟩) (by show h+3<h+11;omega)).trans b0;have R4:=ak w3 (y.1.vals o G) 29 (0,0);have N4:=ae R4 29 _ (cB _ _ _);have a0:=lh U;have HI:=lh hI;have a4:=lh N;have af:=lh Z;have ad:=lh B4;clear hI N a9 Z O U B4)|(gi_at_builtin;have a3:=aj (w3.alloc (.cells (y.1.vals o G) 29)) (.cells (y.1.vals o G) 29);have ag:=(b8.o.below ad.o).below a3;have zA:=a0.o.z;have cr:s.length<=1000:=(by simp only[YQ] at c4;omega);have c9:=jC ag.own;refine oC _ rfl (.tmp 32) (.tmp 34) 33 29 _ _ 33 336 rfl Tryz.underlying33 kI xf xh xj (ah _ _ _) (by decide) (h+11) (.slice va s.length vc) (.slice (Z9 ⟨w3.heap.size+1,0,Z8⟩) 1 1) s.length 1 (ec L) (y.1.vals o G).toList rfl c9 rfl (vE (by simp) (ah _ _ _)) (by decide) (all1 a1) (by unfold X9;omega) (by omega) (by simp at zA |-;omega) ?_;intro a5 c5 w5 b5 bc bs;have zW:h+11<=((w3.alloc (.cells (y.1.vals o G) 29)).alloc (.cells (y.1.vals o G) 29)).heap.size:=(by simp at zA |-;omega);have b6:ZV (h+11) ((w3.alloc (.cells (y.1.vals o G) 29)).alloc (.cells (y.1.vals o G) 29)) w5:=fy bc (fun q hq=>(ax ag.own q hq).1) zW;have A6:=(a0.o.bel I hh hD K (a3.mono zA)).bel I hh hD K b6;have cb:=lh A6;have c6:=(b6.cell (p:=⟨h+3,0,Z8⟩) (by show h+3<h+11;omega)).trans ((a3.cell (p:=⟨h+3,0,Z8⟩) (by show h+3<_;omega)).trans co);have f6:=A6.b3.2;have c3:GJ (h+11) ((w3.alloc (.cells (y.1.vals o G) 29)).alloc (.cells (y.1.vals o G) 29)) (XF va s.length vc).ownBlock (y.1.vals o G) (cY y):=(by obtain⟨ga,gc,rfl,d3,-⟩:=XP HI.o;obtain⟨cg,ch,rfl,cz,-⟩:=XP a4.o;exact⟨ga,gc,cg,ch,rfl,(by show y.2.1.length<=_;omega),(by show y.2.2.length<=_;omega),rfl,(a4.o.below (aj w3 _)).below a3,fun h0 b hb=>⟨fun e=>(by have q1:=(ax b8.o.own b e).2;have q2:=af.o b hb;omega),(by have q2:=af.o b hb;omega),(by have q3:=sx a4.o h0 b hb;simp;omega)⟩⟩);have ce:=lh (ag.snoc (x:=cY y) (tP b5) bc bs (ah _ _ _) a1 c3);clear c3 A6 b5 bc bs a3 b6 ag c9 zW))
  have A7:=(cb.o.set (i:=3) (v:=.slice a5 (s.length+1) c5) I a2 hh hD K (.inr (.inr rfl)));refine⟨A7.up,s++[y],a6.o,A7,.slice a5 (s.length+1) c5,L++[y.1.vals o G],Zl _ _ _ (by rw[c6];rfl),?_⟩
  rw[XL];exact (ce.o.keep (de w5 ⟨h+3,0,Z8⟩ (.slice a5 (s.length+1) c5)).size (fun k hk be=>(de w5 ⟨h+3,0,Z8⟩ (.slice a5 (s.length+1) c5)).block k be (fun e=>by have:=ZR e;simp at this;omega)))
 have ba:=p6 (dC name) WR (tj name) (AlJ w0 w h p sv l fl cd id name r .ready) (AlX w0 w h p sv l fl cd id name r .done (Z9 .ret)) (r.D+1) p (h+7) (h+5) (h+6) (h+8) (h+4) sv l fl cd ca id 65 w0 W [] 3 2 (fun c s W' hj=>⟨hj.1.ri,hj.1.sh⟩) br (fun c s k rc W1 X h2 _ _=>(HY c s k rc W1 X h2).mono fun e W' h=>by cases ct:dC name s k rc <;> (rw[ct] at h;exact h)) (by decide) (by omega) rfl ⟨hA,_,[],c7,HJ.start _ _⟩ ck (by omega) hl cp;rw[hR] at ba;refine ba.mono ?_
 clear ba br HY c7 hA;rintro e C ⟨⟨v,rfl⟩,ab⟩;refine⟨⟨v,rfl⟩,?_⟩
 unfold mF at ab;have c0:∀ (pd:Zy Code) (k:Nat),k≠h+9->k≠h+10->((r.gone pd C).putObj (h+9) (.deferred Z8)).heap[k]?=C.heap[k]?:=fun pd k X h2=>(Y8 X).trans (Y8 (by omega))
 have T:∀ (pd:Zy Code) (k:Nat),k≠h+10->(r.gone pd C).heap[k]?=C.heap[k]?:=fun pd k h2=>Y8 (by omega)
 obtain⟨R1,cR⟩:=R
 cases R1 with
 | error e =>
   obtain⟨X,h2,h3⟩:=ab;replace hg:(([],e),cR)=g:=hg
   subst hg;refine .inr ⟨.ret,X.up,?_⟩
   have hK:(r.gone (Z9 .ret) C).heap[h+9]?=Z9 (.deferred (Z9 [])):=(T _ _ (by omega)).trans (hD ▸ X.up.dfr);have x1:(r.gone (Z9 .ret) C).cell? ⟨h+1,0,Z8⟩=Z9 (.slice Z8 0 0):=(Z1 (a:=⟨h+1,0,Z8⟩) (T _ (h+1) (by omega))).trans h2;have x2:(r.gone (Z9 .ret) C).cell? ⟨h+2,0,Z8⟩=Z9 (.int .i64 e):=(Z1 (a:=⟨h+2,0,Z8⟩) (T _ (h+2) (by omega))).trans h3;have hF:=ye (W':=(r.gone (Z9 .ret) C).putObj (h+9) (.deferred Z8)) X.sh X.g I hh K (fun k hk=>c0 _ k (by omega) (by omega)) (by simp [Rf.gone]) rfl rfl rfl;gi_wp2
   exact qZ rfl rfl rfl hK rfl x1 x2 ⟨.slice Z8 0 0,[],rfl,HJ.start _ _,hF.1,hF.2⟩
 | ok sc =>
   obtain⟨s,f⟩:=sc;obtain⟨m,⟨H,ov,L,ho,S⟩,a8⟩:=ab;obtain⟨va,vc,rfl⟩:=bX S.own;rw[Zq] at ho S;have z1:=H.z
   have F:SHs w0 C p sv l fl cd cR/\w.grownBy C (Z9 p)/\Bx C (h+1)/\Bx C (h+2)/\C.cell? ⟨h+3,0,Z8⟩=Z9 (.slice va s.length vc)/\HJ (h+11) C (.slice va s.length vc) (s.map cY) L/\C.cell? ⟨h+4,0,Z8⟩=Z9 (.int .i64 f)/\Rup r .ready Z8 C/\h+11<=C.heap.size:=by
    rcases a8 with ⟨rfl,rfl⟩|rfl
    .exact⟨H.sh,H.g,H.b1,H.b2,ho,S,H.ri.v,H.up,H.z⟩
    .have av:=de m ⟨h+4,0,Z8⟩ (.int .i64 f);have ar:∀ k,k<m.heap.size->k≠h+4->(m.setCell ⟨h+4,0,Z8⟩ (.int .i64 f)).heap[k]?=m.heap[k]?:=fun k X h2=>av.block k X (fun e=>h2 (ZR e))
     refine⟨H.sh.other av (by show p≠h+4;omega) (by show _<=h+4;omega) (fun b hb=>by have:=K b hb;show b≠h+4;omega),bx H.g (gJ av (by show w.heap.size<=h+4;omega) (by omega)),H.b1.set,H.b2.set,(Z1 (a:=⟨h+3,0,Z8⟩) (ar (h+3) (by omega) (by omega))).trans ho,S.keep av.size (fun k hk be=>ar k be (by omega)),Zl _ _ _ (by rw[H.ri.v];rfl),⟨?_,?_⟩,by simpa using z1⟩
     .rw[ar _ (by omega) (by omega)];exact H.up.lp
     .rw[ar _ (by omega) (by omega)];exact H.up.dfr
   clear a8 ho S H z1;obtain⟨q1,q2,q3,q4,q5,q6,q7,q8,q9⟩:=F;refine .inl ⟨q8,?_⟩
   have hK:(r.gone Z8 C).heap[h+9]?=Z9 (.deferred (Z9 [])):=(T _ _ (by omega)).trans (hD ▸ q8.dfr);have x1:=q3.of (T Z8 (h+1) (by omega));have x2:=q4.of (T Z8 (h+2) (by omega));have x3:=(Z1 (a:=⟨h+3,0,Z8⟩) (T Z8 (h+3) (by omega))).trans q5;have x4:=(Z1 (a:=⟨h+4,0,Z8⟩) (T Z8 (h+4) (by omega))).trans q7;have bd:=T Z8;have bk:C.heap.size<=(r.gone Z8 C).heap.size:=by simp [Rf.gone]
   have aa:(r.gone Z8 C).os=C.os/\(r.gone Z8 C).tape=C.tape/\(r.gone Z8 C).output=C.output:=⟨rfl,rfl,rfl⟩;generalize r.gone Z8 C=Wg at hK x1 x2 x3 x4 bd bk aa |-;clear c0 T;obtain⟨⟨v1,c1⟩,f1⟩:=x1;obtain⟨⟨v2,c2⟩,f2⟩:=x2
   have b4:∀ (u1 u2:Z3) (W5:Z2),W5=(Wg.setCell ⟨h+1,0,Z8⟩ u1).setCell ⟨h+2,0,Z8⟩ u2->W5.heap[h+9]?=Z9 (.deferred (Z9 []))/\W5.cell? ⟨h+1,0,Z8⟩=Z9 u1/\W5.cell? ⟨h+2,0,Z8⟩=Z9 u2/\SHs w0 (W5.putObj (h+9) (.deferred Z8)) p sv l fl cd cR/\w.grownBy (W5.putObj (h+9) (.deferred Z8)) (Z9 p)/\HJ (h+11) (W5.putObj (h+9) (.deferred Z8)) (.slice va s.length vc) (s.map cY) L:=by
    rintro u1 u2 W5 rfl;have e5:∀ k,k≠h+1->k≠h+2->((Wg.setCell ⟨h+1,0,Z8⟩ u1).setCell ⟨h+2,0,Z8⟩ u2).heap[k]?=Wg.heap[k]?:=fun k k1 k2=>(XO _ ⟨h+2,0,Z8⟩ k u2 k2).trans (XO _ ⟨h+1,0,Z8⟩ k u1 k1)
    have e6:∀ k,(k<h\/h+11<=k)->(((Wg.setCell ⟨h+1,0,Z8⟩ u1).setCell ⟨h+2,0,Z8⟩ u2).putObj (h+9) (.deferred Z8)).heap[k]?=C.heap[k]?:=fun k hk=>(Y8 (by omega)).trans ((e5 k (by omega) (by omega)).trans (bd k (by omega)))
    have z6:C.heap.size<=(((Wg.setCell ⟨h+1,0,Z8⟩ u1).setCell ⟨h+2,0,Z8⟩ u2).putObj (h+9) (.deferred Z8)).heap.size:=by simpa using bk
    have hF:=ye q1 q2 I hh K e6 z6 aa.1 aa.2.1 aa.2.2;exact⟨(e5 _ (by omega) (by omega)).trans hK,(Zt _ _ _ _ (by intro e;have:=YX Addr.block e;simp at this)).trans (Zl _ _ _ (by rw[c1];rfl)),Zl _ _ _ (by rw[Zt _ _ _ _ (by intro e;have:=YX Addr.block e;simp at this),c2];rfl),hF.1,hF.2,q6.keep z6 (fun k hk _=>e6 k (.inr hk))⟩
   have HE:=lh b4;clear b4 bd bk aa q1 q2 q3 q4 q5 q6 q7 q8 q9;by_cases hc:f=0
   .subst hc;replace hg:((s,0),cR)=g:=hg
    subst hg;gi_wp2
    obtain⟨m1,m2,m3,m4,m5,m6⟩:=HE.o (.slice va s.length vc) (.int .i64 0) _ rfl;exact qZ rfl rfl rfl m1 rfl m2 m3 ⟨_,_,rfl,(by rw[hh];exact m6.le (by omega)),m4,m5⟩
   .have t1:(f != 0)=ZZ:=YN.2 hc;replace hg:(if f≠0 then (([]:Z5 Fu),f) else (s,0),cR)=g:=hg
    rw[ZX hc] at hg;subst hg;obtain⟨m1,m2,m3,m4,m5,m6⟩:=HE.o (.slice Z8 0 0) (.int .i64 f) _ rfl;have d4:Tryz.prog.follows .mixedOrders=ZZ:=by kernel_rfl
    gi_wp2
    gi_region_with_o (fail)
    all_goals gi_wp2
    all_goals exact qZ rfl rfl rfl m1 rfl m2 m3 ⟨.slice Z8 0 0,[],rfl,HJ.start _ _,m4.below (ZM _ _).drew,bx m5 (ZM _ _).drew⟩
end
def dz(x:Fu)(s:Z7):Fu:=({ x.1 with name:=s },x.2)
def bT(x:Fu)(s:Z7):Fu:=({ x.1 with target:=s },x.2)
theorem sR:(e.vals al gr).setIfInBounds 1 (.string s)=({ e with name:=s }:En).vals al gr:=by
 unfold En.vals;simp only[YW,Yd,Ye]
theorem sS:(e.vals al gr).setIfInBounds 29 (.string s)=({ e with target:=s }:En).vals al gr:=by
 unfold En.vals;simp only[YW,Yd,Ye]
def jO(id:Int)(x:Fu)(T:Z7)(s:Z5 Fu):Z5 Ch:=bJ id x::bI id (dz x T)::s.map fun a=>bI id (bT a T)
def gz(l:Z5 Rw)(fl cd C id:Int)(name T:Z7):(Z5 Ch × Int) × Int :=
 if Zj (Z4 T)=ZW then (([],1),C)
 else if (aG l fl cd C id 0 name).1.2≠0 then (([],(aG l fl cd C id 0 name).1.2),(aG l fl cd C id 0 name).2)
 else if XZ (Z4 name)=ZZ\/XZ (Z4 T)=ZZ then (([],7),(aG l fl cd C id 0 name).2)
 else if cE (bY l fl cd (aG l fl cd C id 0 name).2 id T).1.2≠0 then (([],cE (bY l fl cd (aG l fl cd C id 0 name).2 id T).1.2),(bY l fl cd (aG l fl cd C id 0 name).2 id T).2)
 else if (cU l fl cd (bY l fl cd (aG l fl cd C id 0 name).2 id T).2 id name).1.2≠0 then (([],(cU l fl cd (bY l fl cd (aG l fl cd C id 0 name).2 id T).2 id name).1.2),(cU l fl cd (bY l fl cd (aG l fl cd C id 0 name).2 id T).2 id name).2)
 else ((jO id (aG l fl cd C id 0 name).1.1 T (cU l fl cd (bY l fl cd (aG l fl cd C id 0 name).2 id T).2 id name).1.1,0),(cU l fl cd (bY l fl cd (aG l fl cd C id 0 name).2 id T).2 id name).2)
def Ali(y:Fu):Prop:=y.2.1=[]/\y.2.2=[]/\y.1.name.size<=60
theorem pv{σ ρ:Type}{S:σ->Z7->Z7->Except ρ σ}{l:Z5 Rw}{id fl cd:Int}{L:ZP}(I:σ->Prop)(D:∀ s k r C,I s->(Z4 k).headD 0=L->S s k r=.ok C->I C) :
 ∀ (f:Nat) (c:Int) (k:Z5 ZP) (s C:σ) (e d:Int),I s->bS l id fl cd L S f c k s=(.ok (C,e),d)->I C
 | 0,c,k,s,C,e,d,H,h=>by
   rw[bS] at h;cases h;exact H
 | f+1,c,k,s,C,e,d,H,h=>by
   rw[bS] at h;split at h
   .cases h;exact H
   split at h
   .cases h;exact H
   rename_i x _;split at h
   .cases h;exact H
   rename_i E;split at h
   .exact pv I D f _ _ _ _ _ _ H h
   rename_i G
   have J:(Z4 x.2.1).headD 0=L:=by
    refine XT.1 ?_
    have K:¬ L.toNat<((Z4 x.2.1).headD 0).toNat:=fun h=>E (Zg.2 h)
    have N:¬ ((Z4 x.2.1).headD 0).toNat<L.toNat:=fun h=>G (Zg.2 h)
    omega
   cases o:S s x.2.1 x.2.2 with
   | ok O =>
     rw[o] at h;exact pv I D f _ _ _ _ _ _ (D _ _ _ _ H J o) h
   | error e=>rw[o] at h;cases h
theorem Mv(h:aA y=ZZ)(o:(dL y).headD 0=65):Ali y:=by
 have C:=lu y h;have x:=iR y h
 have D:y.1.kind=2:=by
  unfold dL Ek.key at o;rw[ZX ⟨by unfold Ek.isKind;simp only[ZT,decide_eq_true_eq];exact C,x.1⟩] at o;have H:Ek.letter y.1.kind=65:=o;have:y.1.kind=0\/y.1.kind=1\/y.1.kind=2\/y.1.kind=3\/y.1.kind=4:=by omega
  rcases this with e|e|e|e|e
  .rw[e] at H;exact absurd H (by decide)
  .rw[e] at H;exact absurd H (by decide)
  .exact e
  .rw[e] at H;exact absurd H (by decide)
  .rw[e] at H;exact absurd H (by decide)
 unfold aA at h;rw[Z0 (by omega),Z0 (by omega),ZX D] at h;unfold eY at h;simp only[ZT] at h
 have:=(dV _ _ _ _ _ _).1 h.2;refine⟨this.2.1.symm,this.2.2.symm,?_⟩
 have:=x.1;rw[ZO] at this;omega
theorem pg(l:Z5 Rw)(fl cd C id:Int)(name:Z7):∀ y∈(cU l fl cd C id name).1.1,Ali y:=by
 unfold cU
 cases E:bS l id fl cd 65 (dC name) (l.length+1) C [(65:ZP) - 1,255] [] with
 | mk a c =>
   cases a with
   | error e=>intro y o;cases o
   | ok p =>
     obtain⟨s,f⟩:=p
     have x:=pv (I:=fun s=>∀ y∈s,Ali y) (fun s k r S x D H=>by
      unfold dC at H;split at H
      .cases H
      rename_i G;obtain⟨O,J⟩:=lw G;split at H
      .cases H
       intro y o;rcases List.mem_append.1 o with o|o
       .exact x y o
       .rw[List.mem_singleton] at o;subst o;exact Mv O (by rw[J];exact D)
      .cases H;exact x) _ _ _ _ _ _ _ (fun y o=>by cases o) E
     dsimp only;split
     .intro y o;cases o
     .exact x
theorem px{σ ρ:Type}{S:σ->Z7->Z7->Except ρ σ}{l:Z5 Rw}{id fl cd:Int}{L:ZP}(o:σ->Nat)(I:∀ s k r C,S s k r=.ok C->o C<=o s+1) :
 ∀ (f:Nat) (c:Int) (k:Z5 ZP) (s C:σ) (e d:Int),bS l id fl cd L S f c k s=(.ok (C,e),d)->o C<=o s+f
 | 0,c,k,s,C,e,d,h=>by
   rw[bS] at h;cases h;omega
 | f+1,c,k,s,C,e,d,h=>by
   rw[bS] at h;split at h
   .cases h;omega
   split at h
   .cases h;omega
   rename_i x _;split at h
   .cases h;omega
   split at h
   .have:=px o I f _ _ _ _ _ _ h;omega
   cases H:S s x.2.1 x.2.2 with
   | ok G =>
     rw[H] at h;have D:=px o I f _ _ _ _ _ _ h;have E:=I _ _ _ _ H;omega
   | error e=>rw[H] at h;cases h
theorem ja{σ ρ:Type}{step:σ->Z7->Z7->Except ρ σ}{l:Z5 Rw}{id fl cd:Int}{L:ZP} :
 ∀ (f:Nat) (c:Int) (k:Z5 ZP) (s:σ),c<=(bS l id fl cd L step f c k s).2/\(bS l id fl cd L step f c k s).2<=c+f
 | 0,c,k,s=>by rw[bS];exact⟨Int.le_refl _,by show c<=c+(0:Nat);omega⟩
 | f+1,c,k,s=>by
   have q:c<=c+1/\c+1<=c+((f+1:Nat):Int):=⟨by omega,by omega⟩;rw[bS];split
   .exact q
   split
   .exact q
   rename_i x _;split
   .exact q
   split
   .have:=ja (step:=step) (l:=l) (id:=id) (fl:=fl) (cd:=cd) (L:=L) f (c+1) (Z4 x.2.1) s;omega
   cases step s x.2.1 x.2.2 with
   | ok S=>have:=ja (step:=step) (l:=l) (id:=id) (fl:=fl) (cd:=cd) (L:=L) f (c+1) (Z4 x.2.1) S;dsimp only;omega
   | error e=>exact q
theorem o8(l:Z5 Rw)(fl cd C id:Int)(name:Z7):(cU l fl cd C id name).1.1.length<=l.length+1:=by
 unfold cU
 cases H:bS l id fl cd 65 (dC name) (l.length+1) C [(65:ZP) - 1,255] [] with
 | mk a c =>
   cases a with
   | error e=>exact Y7 _
   | ok p =>
     obtain⟨s,f⟩:=p;have h:=px WR (tj name) _ _ _ _ _ _ _ H;dsimp only;split
     .exact Y7 _
     .simpa using h
theorem g9{E:Int}{al gr:Z3}(S:SHs w0 m p sv l fl cd c)(G:w.grownBy m (Z9 p))(I:IS z al y.2.1)(H:GS z gr y.2.2)(o:∀ q,al.ownBlock=Z9 q->m.heap.size<=q)(x:∀ q,gr.ownBlock=Z9 q->m.heap.size<=q)(J:SHs w0 z p sv l fl cd E)(C:m.grownBy z (Z9 p)) :
 bh (y.1.vals al gr).toList=ZZ/\p<z.heap.size/\p<m.heap.size/\(∀ q,al.ownBlock=Z9 q->p<q)/\(∀ q,gr.ownBlock=Z9 q->p<q)/\z.heap.size≠p/\w.heap.size<=z.heap.size/\Hid (IS z al y.2.1)/\Hid (GS z gr y.2.2)/\Hid (IS (z.alloc (.cells (y.1.vals al gr) 29)) al y.2.1)/\Hid (GS (z.alloc (.cells (y.1.vals al gr) 29)) gr y.2.2)/\row (z.alloc (.cells (y.1.vals al gr) 29)) z.heap.size=y.1.vals al gr/\Held (z.alloc (.cells (y.1.vals al gr) 29)) z.heap.size 33/\Hid (w.grownBy (z.alloc (.cells (y.1.vals al gr) 29)) (Z9 p))/\Hid (SHs w0 (z.alloc (.cells (y.1.vals al gr) 29)) p sv l fl cd E):=by
 have Z:=J.pl;have zS:=S.pl;have b:=aj z (.cells (y.1.vals al gr) 29);exact⟨ay y.1 al gr (aD I) (aE H),Z,zS,fun q D=>by have:=o q D;omega,fun q D=>by have:=x q D;omega,by omega,(aJ G C).size,lh I,lh H,lh (I.below b),lh (H.below b),ak z _ _ _,gQ z _ _ (ah _ _ _),lh (bx (aJ G C) (b.mono (aJ G C).size)),lh (J.below b)⟩
section
theorem cm{a b c:Z2}{p:Zy Nat}(h:a.grownBy b p)(k:ZV b.heap.size b c):a.grownBy c p:=bx h (k.mono h.size)
theorem f9{n:Nat}(h:Held w b n)(o:w.grownBy w' (Z9 p))(H:b≠p):Held w' b n:=h.of_block (o.block b h.lt (fun e=>H (ZR e)))
theorem uD{al:Z3}{l:Z5 Int}(G:IS t al l)(K:t.heap.size<=r)(h:IS w al l):IS (w.setCell ⟨r,i,Z8⟩ v) al l:=by
 obtain⟨a,c,rfl,L,I⟩:=G;obtain⟨N,d,e,-,D⟩:=h;cases e
 refine⟨_,_,rfl,L,fun E=>?_⟩
 obtain⟨b,o,ha,R,-⟩:=I E;obtain⟨O,S,x,C,H⟩:=D E;subst ha;cases x
 exact⟨_,_,rfl,by simpa using C,fun k J=>by rw[Zt _ _ _ _ (by intro h;cases h;omega)];exact H k J⟩
theorem uQ{al:Z3}{l:Z5 Gr}(J:GS t al l)(L:t.heap.size<=r)(h:GS w al l):GS (w.setCell ⟨r,i,Z8⟩ v) al l:=by
 obtain⟨a,c,rfl,N,K⟩:=J;obtain⟨O,d,e,-,E⟩:=h;cases e
 refine⟨_,_,rfl,N,fun I=>?_⟩
 obtain⟨b,o,ha,S,-⟩:=K I;obtain⟨R,T,C,D,H⟩:=E I;subst ha;cases C
 have x:∀ j,(w.setCell ⟨r,i,Z8⟩ v).cell? ⟨b,j,Z8⟩=w.cell? ⟨b,j,Z8⟩:=fun j=>Zt _ _ _ _ (by intro h;cases h;omega)
 exact⟨_,_,rfl,by simpa using D,fun k G=>⟨(x _).trans (H k G).1,(x _).trans (H k G).2.1,(x _).trans (H k G).2.2⟩⟩
theorem uC(W:Z2)(a:Zy Addr)(c:Nat):IS W (.slice a 0 c) []:=⟨a,c,rfl,by simp,fun h=>by simp at h⟩
theorem uP(W:Z2)(a:Zy Addr)(c:Nat):GS W (.slice a 0 c) []:=⟨a,c,rfl,by simp,fun h=>by simp at h⟩
theorem vg(W:Z2)(x:Ch)(t:YZ):(W.alloc (.cells (ch5 x) t)).ownsRow W.heap.size t 5 (.slice (Z9 ⟨W.heap.size,0,Z8⟩) 1 1) 1 (cv [x]):=by
 refine⟨?_,.inr ⟨W.heap.size,1,ch5 x,rfl,ZS _,ZA W _,ZS _,by unfold X9;omega,rfl,?_⟩⟩
 .rw[vF];rfl
 .exact (show List.take (1*5) (ch5 x).toList=(ch5 x).toList from rfl).trans (List.append_nil _).symm
attribute [local go_sem ↓] aZ fb bf bq cl eX
attribute [local go_sem] bn aS aH bE bH aK aT ak aI aw az aM ah aQ aL aP aO aR aY aW bD ap aq
theorem By(p:Nat)(sv:Z3)(l:Z5 Rw)(fl cd ca id:Int)(name T:Z7)(w0 w:Z2)(hm:MaxL w0)(hT:Tab w0)(hS:SHs w0 w p sv l fl cd ca)(ac:∀ b,sv.ownBlock=Z9 b->b<w.heap.size)(hl:l.length<=1000)(d6:0<=ca)(ds:ca<=80000)(b9:cd≠0/\cd≠6\/fl<=0)(d8:name.size<=1000)(ct:T.size<=1000) :
 ZJ Z6 127 #[.iface 56 (.pointer (Z9 ⟨p,0,Z8⟩)),.int .i64 id,.string name,.string T] w fun r w'=>dj w0 w w' p sv l fl cd (gz l fl cd ca id name T) r:=by
 have S:=lh hS;have G:=lh (Xp w (Z9 p));have e0:=hS.b.size;have dt:=hS.pl;have c6:cd≠0\/fl<=0:=b9.imp (fun h=>h.1) (fun h=>h);have bk:=fun W (b:ZV w0.heap.size w0 W)=>ez T W (hm.below b)
 have bc:=fun W (b:ZV w0.heap.size w0 W)=>tu name W d8 (hm.below b)
 have bd:=fun W (b:ZV w0.heap.size w0 W)=>tu T W ct (hm.below b)
 clear hS;unfold gz;generalize Zj (Z4 T)=bv at bk |-;have HV:=lh bk;clear bk;cases bv
 rw[ZX rfl];rotate_left;rw[Z0 (by simp)];have a6:=fun W (h:SHs w0 W p sv l fl cd ca)=>iy p sv l fl cd ca id 0 name w0 W hm hT h d6 (by omega) c6
 have c5:=dS l fl cd ca id 0 name;have cs:=rP l fl cd ca id 0 name;generalize aG l fl cd ca id 0 name=gg at a6 c5 cs |-;obtain⟨⟨y,f⟩,cb⟩:=gg;dsimp only at c5 cs |-;have ad:=lh a6;clear a6;by_cases h0:f=0
 rotate_left;rw[ZX h0];have t1:(f != 0)=ZZ:=by rw[YN];exact h0
 clear h0;rotate_right
 rw[Z0 (fun h=>h h0)];subst h0;generalize XZ (Z4 name)=b1 at bc |-;generalize XZ (Z4 T)=b2 at bd |-;have af:=lh bc;have ag:=lh bd;clear bc bd;cases b1
 rotate_left;rw[ZX (.inl rfl)];rotate_right
 cases b2
 rotate_left;rw[ZX (.inr rfl)];rotate_right
 rw[Z0 (by simp)];have ba:=fun W (h:SHs w0 W p sv l fl cd cb)=>mx p sv l fl cd cb id T w0 W hm hT h (by omega) (by omega) b9
 have c7:=jq l fl cd cb id T;generalize bY l fl cd cb id T=gf at ba c7 |-;obtain⟨⟨yf,c2⟩,cc⟩:=gf;dsimp only at c7 |-;have HF:=lh ba;clear ba;by_cases h1:cE c2=0
 rotate_left;rw[ZX h1];have t1:(cE c2 != 0)=ZZ:=by rw[YN];exact h1
 clear h1;rotate_right
 rw[Z0 (fun h=>h h1)];have t2:(cE c2 != 0)=ZW:=by rw[h1];rfl
 clear h1;have b8:=fun W (h:SHs w0 W p sv l fl cd cc) (ho:∀ b,sv.ownBlock=Z9 b->b<W.heap.size)=>oc p sv l fl cd cc id name w0 W hm hT h ho hl (by omega) (by omega) b9
 have bb:=pg l fl cd cc id name;have ck:=o8 l fl cd cc id name;generalize cU l fl cd cc id name=ga at b8 bb ck |-;obtain⟨⟨s,c3⟩,ce⟩:=ga;dsimp only at bb ck |-;have br:=lh b8;clear b8;by_cases h3:c3=0
 rotate_left;rw[ZX h3];have t1:(c3 != 0)=ZZ:=by rw[YN];exact h3
 clear h3;rotate_right
 rw[Z0 (fun h=>h h3)];subst h3;have cp:∀ W (b:ZV w0.heap.size w0 W) al gr (i1:IS W al y.2.1) (i2:GS W gr y.2.2),ZJ Z6 140 #[.int .i64 id,.agg ((dz y T).1.vals al gr)] W fun r w'=>r=.returned (.agg #[.int .i64 0,.int .i64 id,.string (aC (dz y T).1.kind (dz y T).1.name),.string (bC (dz y T)),.string ⟨#[]⟩])/\ZV W.heap.size W w':=fun W b al gr i1 i2=>qY id (dz y T) al gr W (hm.below b) (hT.below b) ct i1 i2
 have c9:∀ W al gr,bh (y.1.vals al gr).toList=ZZ->ZJ Z6 210 #[.int .i64 id,.agg (y.1.vals al gr)] W fun r w'=>r=.returned (.agg #[.int .i64 1,.int .i64 id,.string (aC y.1.kind y.1.name),.string ⟨#[]⟩,.string ⟨#[]⟩])/\ZV W.heap.size W w':=fun W al gr h=>ua id y al gr W h
 have b0:=lh cp;have bs:=lh c9;clear cp c9;unfold jO bJ bI;generalize aC y.1.kind y.1.name=k1 at bs |-;generalize aC (dz y T).1.kind (dz y T).1.name=k2 at b0 |-;generalize bC (dz y T)=r2 at b0 |-;rotate_left
 iterate 6
  focus
   go_enter Tryz.func127,Tryz.ntmps127
   go_wp2_with first|go_at_call 32;(with_reducible refine (HV.o _ S.o.b).mono ?_);rintro _ m ⟨rfl,C⟩;have G:=lh (cm G.o C);have S:=lh (S.o.below C);clear C|go_at_call 82;(refine (ad.o _ S.o).mono ?_);rintro _ z ⟨⟨al,gr,rfl,hI,a0,a4,a5⟩,O,D⟩;clear ad;obtain⟨av,z2,zS,O1,O2,X,zw,I0,J0,I,J,R,H,G,S⟩:=g9 S.o G.o hI a0 a4 a5 O D;clear hI a0 a4 a5 O D|go_at_call 211;(with_reducible refine (af.o _ S.o.b).mono ?_);rintro _ w3 ⟨rfl,C⟩;clear af;have R:=am C R (by rw[ah];decide);have H:=H.below C;have I:=lh (I.o.below C);have J:=lh (J.o.below C);have G:=lh (cm G.o C);have S:=lh (S.o.below C);clear C|go_at_call 211;(with_reducible refine (ag.o _ S.o.b).mono ?_);rintro _ w3 ⟨rfl,C⟩;clear ag;have R:=am C R (by rw[ah];decide);have H:=H.below C;have I:=lh (I.o.below C);have J:=lh (J.o.below C);have G:=lh (cm G.o C);have S:=lh (S.o.below C);clear C|go_at_call 112;(refine (HF.o _ S.o).mono ?_);rintro _ w4 ⟨⟨b5,b6,rfl,a3,Z,-,-⟩,O,D⟩;have aa:=ay yf.1 b5 b6 (aD a3) (aE Z);have R:=dP R (by rw[ah];decide) D X;have H:=f9 H D X;have I:=lh (fP I.o D O1);have J:=lh (fQ J.o D O2);have G:=lh (aJ G.o D);have S:=lh O;clear a3 Z O D|(go_at_call 205;(refine (l6 _ _).mono ?_);rintro _ _ ⟨rfl,rfl⟩)|go_at_call 209;(refine (br.o _ S.o (fun b C=>ZY (ac b C) G.o.size)).mono ?_);rintro _ w5 ⟨A,d9,rfl,hJ,O,D⟩;have zb:=H.lt;obtain⟨va,vc,rfl⟩:=bX hJ.own;rw[Zq] at hJ;have ao:=lh hJ;have R:=dP R (by rw[ah];decide) D X;have H:=f9 H D X;have I:=lh (fP I.o D O1);have J:=lh (fQ J.o D O2);have G:=lh (aJ G.o D);have S:=lh O;clear hJ O D
   go_ret2
   exact⟨_,rfl,bu _,S.o,G.o⟩
 go_enter Tryz.func127,Tryz.ntmps127
 go_wp2_with (first|(go_at_call 32;(with_reducible refine (HV.o _ S.o.b).mono ?_);rintro _ m ⟨rfl,C⟩;have G:=lh (cm G.o C);have S:=lh (S.o.below C);clear C)|(go_at_call 82;(refine (ad.o _ S.o).mono ?_);rintro _ z ⟨⟨al,gr,rfl,hI,a0,a4,a5⟩,O,D⟩;clear ad;obtain⟨av,z2,zS,O1,O2,X,zw,I0,J0,I,J,R,H,G,S⟩:=g9 S.o G.o hI a0 a4 a5 O D;clear hI a0 a4 a5 O D)|(go_at_call 211;(with_reducible refine (af.o _ S.o.b).mono ?_);rintro _ w3 ⟨rfl,C⟩;clear af;have R:=am C R (by rw[ah];decide);have H:=H.below C;have I:=lh (I.o.below C);have J:=lh (J.o.below C);have G:=lh (cm G.o C);have S:=lh (S.o.below C);clear C)|(go_at_call 211;(with_reducible refine (ag.o _ S.o.b).mono ?_);rintro _ w3 ⟨rfl,C⟩;clear ag;have R:=am C R (by rw[ah];decide);have H:=H.below C;have I:=lh (I.o.below C);have J:=lh (J.o.below C);have G:=lh (cm G.o C);have S:=lh (S.o.below C);clear C)|(go_at_call 112;(refine (HF.o _ S.o).mono ?_);rintro _ w4 ⟨⟨b5,b6,rfl,a3,Z,-,-⟩,O,D⟩;have aa:=ay yf.1 b5 b6 (aD a3) (aE Z);have R:=dP R (by rw[ah];decide) D X;have H:=f9 H D X;have I:=lh (fP I.o D O1);have J:=lh (fQ J.o D O2);have G:=lh (aJ G.o D);have S:=lh O;clear a3 Z O D)|(go_at_call 205;(refine (l6 _ _).mono ?_);rintro _ _ ⟨rfl,rfl⟩)|(go_at_call 209;(refine (br.o _ S.o (fun b C=>ZY (ac b C) G.o.size)).mono ?_);rintro _ w5 ⟨A,d9,rfl,hJ,O,D⟩;have zb:=H.lt;obtain⟨va,vc,rfl⟩:=bX hJ.own;rw[Zq] at hJ;have ao:=lh hJ;have R:=dP R (by rw[ah];decide) D X;have H:=f9 H D X;have I:=lh (fP I.o D O1);have J:=lh (fQ J.o D O2);have G:=lh (aJ G.o D);have S:=lh O;clear hJ O D)|(go_at_call 210;(refine (bs.o _ _ _ av).mono ?_);rintro _ V ⟨rfl,C⟩;have ci:=C.size;have ao:=lh (ao.o.below C);have R:=am C R (by rw[ah];decide);have H:=H.below C;have I:=lh (I.o.below C);have J:=lh (J.o.below C);have G:=lh (cm G.o C);have S:=lh (S.o.below C);have bv:=H.lt;have NA:=ae R 1 _ (aq _ _ _);have FA:=H.2.2 1;have RS:row (V.setCell ⟨z.heap.size,1,Z8⟩ (.string T)) z.heap.size=(dz y T).1.vals al gr:=((rm _ _ 1 (.string T) _ R (by rw[ah];decide)).trans (sR _ _ _ _));have Y:=aj (V.setCell ⟨z.heap.size,1,Z8⟩ (.string T)) (.cells #[.int .i64 1,.int .i64 id,.string k1,.string ⟨#[]⟩,.string ⟨#[]⟩] 67);have R6:=am Y RS (by rw[ah];decide);have I6:=lh ((uD (i:=1) (v:=.string T) I0.o (ZS _) I.o).below Y);have J6:=lh ((uQ (i:=1) (v:=.string T) J0.o (ZS _) J.o).below Y);have GB:=lh (cm (de V ⟨z.heap.size,1,Z8⟩ (.string T)) Y);have B6:=(S.o.other GB.o (fun e=>X e.symm) (by show w0.heap.size<=z.heap.size;omega) (fun b C=>by have:=ac b C;show b≠z.heap.size;omega)).b;have b3:=vg (V.setCell ⟨z.heap.size,1,Z8⟩ (.string T)) (1,id,k1,⟨#[]⟩,⟨#[]⟩) 67;rw[show (V.setCell ⟨z.heap.size,1,Z8⟩ (.string T)).heap.size=V.heap.size by simp] at b3;have OW:=lh b3;have z6:V.heap.size<((V.setCell ⟨z.heap.size,1,Z8⟩ (.string T)).alloc (.cells #[.int .i64 1,.int .i64 id,.string k1,.string ⟨#[]⟩,.string ⟨#[]⟩] 67)).heap.size:=(by simp);clear C b3 Y)|(go_at_call 140;(refine (b0.o _ B6 al gr I6.o J6.o).mono ?_);rintro _ w7 ⟨rfl,C⟩;have OW:=lh (aV OW.o (fun x hx=>C.block x (ax OW.o x hx).2));have GB:=lh (cm GB.o C);have z7:=C.size;clear C)|(at_builtin;have b4:=aV OW.o (fun x hx=>(aj w7 (.cells #[.int .i64 0,.int .i64 id,.string k2,.string r2,.string ⟨#[]⟩] 67)).block x (ax OW.o x hx).2);refine dQ _ rfl (.tmp 63) (.tmp 67) 53 67 _ _ 5 64 rfl WN gA fZ ge gi rfl (by decide) V.heap.size (.slice (Z9 ⟨V.heap.size,0,Z8⟩) 1 1) (.slice (Z9 ⟨w7.heap.size,0,Z8⟩) 1 1) 1 1 (cv [(1,id,k1,⟨#[]⟩,⟨#[]⟩)]) (cv [(0,id,k2,r2,⟨#[]⟩)]) rfl b4 rfl (iE w7 (0,id,k2,r2,⟨#[]⟩) _ _ rfl) (fC _) (by unfold X9;omega) (by omega) (by simp;omega) ?_;intro a8 c8 w8 E cg _;have c0:=lh E;have cz:=lh (bx (cm GB.o (aj w7 (.cells #[.int .i64 0,.int .i64 id,.string k2,.string r2,.string ⟨#[]⟩] 67))) (fy cg (fun q hq=>(ax b4 q hq).1) (by simp;omega)));clear E cg b4))
 have ar:w8.ownsRow V.heap.size 67 5 (.slice a8 2 c8) 2 (cv ([(1,id,k1,⟨#[]⟩,⟨#[]⟩),(0,id,k2,r2,⟨#[]⟩)]++(s.take 0).map fun a=>(0,id,aC (bT a T).1.kind (bT a T).1.name,bC (bT a T),⟨#[]⟩))):=c0.o;have d1:=lh ar;clear ar c0 OW R6 I6 J6 B6 NA FA RS;go_loopw [13,71] (fun v i wr=>∃ (k:Nat),k<=s.length/\i=.int .i64 k/\wr.ownsRow V.heap.size 67 5 v (k+2) (cv ([(1,id,k1,⟨#[]⟩,⟨#[]⟩),(0,id,k2,r2,⟨#[]⟩)]++(s.take k).map fun a=>(0,id,aC (bT a T).1.kind (bT a T).1.name,bC (bT a T),⟨#[]⟩)))/\V.grownBy wr (Z9 z.heap.size)) (fun _ i _=>s.length - (Y4 i).toNat)
 case atStart=>exact⟨0,Y7 _,rfl,d1.o,cz.o⟩
 case round =>
  obtain⟨k,hk,rfl,E,D⟩:=hrel;obtain⟨ra,rc,rfl⟩:=bX E;have HO:=lh E;have HG:=lh D;have zg:=D.size;clear E D;by_cases a9:k<s.length
  .have c4:=ao.o.keep zg (fun j hj d7=>HG.o.block j d7 (fun e=>by have:=ZR e;omega));obtain⟨e2,e3,GG,cu,b7,a7,-⟩:=c4.es (by rw[Zq];omega);rw[Zq] at cu b7 a7;injection cu with v1 v2 v3
   subst v1 v3;clear v2;obtain⟨b,o,rfl,C,a1,c1,a2,N,L,-,-,-⟩:=b7.2 k a9
   have d4:GG k=cY s[k]:=by
    have e1:(lst GG s.length)[k]?=(s.map cY)[k]?:=by rw[a7]
    unfold lst at e1;rw[Yv,Xd a9,Yv,ZN a9] at e1;exact ZR e1
   obtain⟨g1,g2,g3⟩:=bb s[k] (List.getElem_mem a9);rw[d4] at L;unfold cY at L;rw[g1,g2] at L;simp only[YQ] at L
   have bi:s.take (k+1)=s.take k++[s[k]]:=ZB a9;generalize s[k]=q at g1 g2 g3 L bi;obtain⟨qe,ql,qg⟩:=q;simp only at g1 g2 g3 L
   subst g1 g2;have aa:=ay qe (.slice a1 0 c1) (.slice a2 0 N) rfl rfl;have dl:(mid wr b (o+k*33)).size=33:=by rw[L];exact ah _ _ _
   have j1:(0:Int)<=(k:Int):=by omega
   have j2:(k:Int)<(s.length:Int):=by omega
   have RQ:=ak wr (qe.vals (.slice a1 0 c1) (.slice a2 0 N)) 29 (0,0);have NQ:=ae RQ 29 _ (cB _ _ _);have FQ:=(gQ wr (qe.vals (.slice a1 0 c1) (.slice a2 0 N)) 29 (ah _ _ _)).2.2 29;obtain⟨qt,be⟩:∃ qt:En,bT (qe,[],[]) T=(qt,[],[]):=⟨_,rfl⟩;have ab:({ qe with target:=T }:En)=qt:=congrArg Prod.fst be;have dw:(qe.vals (.slice a1 0 c1) (.slice a2 0 N)).setIfInBounds 29 (.string T)=qt.vals (.slice a1 0 c1) (.slice a2 0 N):=by rw[<-ab];exact sS _ _ _ _
   have cr:qt.name.size<=1000:=by rw[<-ab];show qe.name.size<=1000;omega
   have U:((s.take (k+1)).map fun a=>((0,id,aC (bT a T).1.kind (bT a T).1.name,bC (bT a T),⟨#[]⟩):Ch))=((s.take k).map fun a=>((0,id,aC (bT a T).1.kind (bT a T).1.name,bC (bT a T),⟨#[]⟩):Ch))++[(0,id,aC qt.kind qt.name,bC (qt,[],[]),⟨#[]⟩)]:=by
    rw[bi,XL,List.map_cons,List.map_nil,be]
   have K:=fun W (b:ZV w0.heap.size w0 W) (i1:IS W (.slice a1 0 c1) []) (i2:GS W (.slice a2 0 N) [])=>qY id (qt,[],[]) (.slice a1 0 c1) (.slice a2 0 N) W (hm.below b) (hT.below b) cr i1 i2
   unfold bI ch5 at K;dsimp only at K;generalize aC qt.kind qt.name=k3 at K U;generalize bC (qt,[],[])=r3 at K U;have d2:=lh K;have d0:=lh U;have dq:=ay qt (.slice a1 0 c1) (.slice a2 0 N) rfl rfl;have d3:=lh (S.o.other HG.o (fun e=>X e.symm) (by show w0.heap.size<=z.heap.size;omega) (fun b C=>by have:=ac b C;show b≠z.heap.size;omega)).b;clear K U be ab cr bi b7 a7 c4 g3
   go_wp2_with first|go_at_call 140;(refine (d2.o _ (bt d3.o (aj wr _)) (uC _ _ _) (uP _ _ _)).mono ?_);rintro _ w9 ⟨rfl,C⟩;have B9:=bt (aj wr (.cells (qt.vals (.slice a1 0 c1) (.slice a2 0 N)) 29)) C;have O9:=lh (aV HO.o (fun x hx=>B9.block x (ax HO.o x hx).2));have G9:=lh (cm HG.o B9);have z9:=B9.size;clear C B9|at_builtin;have OQ:=aV O9.o (fun x hx=>(aj w9 (.cells #[.int .i64 0,.int .i64 id,.string k3,.string r3,.string ⟨#[]⟩] 67)).block x (ax O9.o x hx).2);refine dQ _ rfl (.tmp 77) (.tmp 81) 53 67 _ _ 5 64 rfl WN gA fZ ge gi rfl (by decide) V.heap.size (.slice ra (k+2) rc) (.slice (Z9 ⟨w9.heap.size,0,Z8⟩) 1 1) (k+2) 1 _ (cv [(0,id,k3,r3,⟨#[]⟩)]) rfl OQ rfl (iE w9 (0,id,k3,r3,⟨#[]⟩) _ _ rfl) (fC _) (by unfold X9;omega) (by omega) (by simp;omega) ?_;intro aX cX wX E ch _;have OX:=lh E;have GX:=lh (bx (cm G9.o (aj w9 (.cells #[.int .i64 0,.int .i64 id,.string k3,.string r3,.string ⟨#[]⟩] 67))) (fy ch (fun q hq=>(ax OQ q hq).1) (by simp;omega)));clear E ch OQ
   go_roundw
   case rel=>exact⟨k+1,by omega,by go_num,by rw[d0.o,<-List.append_assoc,gP];exact OX.o,GX.o⟩
   case measure=>simp [Y4];omega
  .obtain rfl:k=s.length:=by omega
   rw[ZC (ZS _)] at HO;go_wp2_with fail
   go_ret2
   have d5:=S.o.other HG.o (fun e=>X e.symm) (by show w0.heap.size<=z.heap.size;omega) (fun b C=>by have:=ac b C;show b≠z.heap.size;omega);refine⟨.slice ra (s.length+2) rc,rfl,?_,d5,bx G.o (gJ HG.o zw (ZD zw (by omega)))⟩
   have cn:(([(1,id,k1,⟨#[]⟩,⟨#[]⟩),(0,id,k2,r2,⟨#[]⟩)]:Z5 Ch)++s.map fun a=>((0,id,aC (bT a T).1.kind (bT a T).1.name,bC (bT a T),⟨#[]⟩):Ch)).length=s.length+2:=by
    rw[ZQ,Zq];show 2+s.length=s.length+2;omega
   have hc:=jp (w:=wr) (v:=.slice ra (s.length+2) rc) (l:=([(1,id,k1,⟨#[]⟩,⟨#[]⟩),(0,id,k2,r2,⟨#[]⟩)]:Z5 Ch)++s.map fun a=>(0,id,aC (bT a T).1.kind (bT a T).1.name,bC (bT a T),⟨#[]⟩)) (by rw[cn];omega) (by rw[cn];exact dU HO.o);exact hc
end
section
attribute [local go_sem] Oper.semAt_some
def aN(k:Z7):Z7:=⟨(Ek.trim ((Z4 k).drop 1)).toArray⟩
def fw(group:Z7)(s:Z5 Int)(k _r:Z7):Except Int (Z5 Int) :=
 if (XZ (Z4 (aN k))=ZZ/\dK (aN k)=group)/\k=aC 0 (aN k) then .ok (s++[((Ds.splN (Z4 (aN k)):Nat):Int)]) else .ok s
def ff(l:Z5 Rw)(fl cd C id:Int)(group:Z7):(Z5 Int × Int) × Int :=
 match bS l id fl cd 68 (fw group) (l.length+1) C [(68:ZP) - 1,255] [] with
 | (.ok (s,f),c)=>(if f≠0 then ([],f) else (s,0),c)
 | (.error e,c)=>(([],e),c)
theorem D8(group:Z7)(s:Z5 Int)(k r:Z7)(S:Z5 Int)(h:fw group s k r=.ok S):S.length<=s.length+1:=by
 unfold fw at h;split at h
 .cases h;simp
 .cases h;omega
theorem ti(k:Z7)(w:Z2)(E:1<=k.size)(I:k.size<=1000) :
 ZJ Z6 91 #[.string k] w fun r w'=>r=.returned (.string (aN k))/\w'=w:=by
 have x:Z4 (k.extract 1 k.size)=(Z4 k).drop 1:=by
  unfold Z4;rw[ByteArray.data_extract,WQ];simp [List.extract]
  exact ZC (by rw[List.length_tail,Y2];exact ZS _)
 have H:=oo (k.extract 1 k.size) w (by rw[<-ZO,x,X8,ZO];omega);rw[x] at H;have T:=lh H;have G:(0:Int)<=1/\(1:Int)<=(k.size:Int):=by omega
 have D:(1:Int)<=(k.size:Int):=by omega
 clear x H;go_enter Tryz.func91,Tryz.ntmps91
 go_wp2_with (go_at_call 75;(refine T.o.mono ?_);rintro _ z ⟨t,rfl,C,rfl⟩;have o:=lh C;clear C)
 go_ret
 exact⟨YX (fun t=>Ending.returned (Zh t)) (Ds.bl_inj (o.o.trans (V4 _).symm)),rfl⟩
structure GnC (w0 w W:Z2) (h p:Nat) (sv:Z3) (l:Z5 Rw) (fl cd c id:Int) (name:Z7) (r:Rf) (st:LoopState) (pd:Zy Code):Prop where
 sh:SHs w0 W p sv l fl cd c
 g:w.grownBy W (Z9 p)
 ri:RI W (h+5) (h+3) (h+4) (h+6) (h+2) p 68 id
 n:W.cell? ⟨h,0,Z8⟩=Z9 (.string name)
 b3:Bx W (h+1)
 up:Rup r st pd W
 z:h+9<=W.heap.size
theorem GnC.core{id:Int}{name:Z7}{r:Rf}(x:GnC w0 w W h p sv l fl cd c id name r st pd)(D:∀ k,k<h+9->k≠q->W'.heap[k]?=W.heap[k]?)(K:W.heap.size<=W'.heap.size)(E:q≠h/\∀ i,2<=i->i<=6->q≠h+i)(J:SHs w0 W' p sv l fl cd d)(I:w.grownBy W' (Z9 p))(C:Rup r st' j W')(G:Bx W' (h+1)) :
 GnC w0 w W' h p sv l fl cd d id name r st' j:=by
 have e:∀ i,2<=i->i<=6->W'.heap[h+i]?=W.heap[h+i]?:=fun i H o=>D _ (by omega) (fun e=>E.2 i H o e.symm)
 obtain⟨R,L,N,O,S,T⟩:=x.ri;have q:=fun i (H:2<=i) (o:i<=6)=>Z1 (w:=W) (w':=W') (a:=⟨h+i,0,Z8⟩) (e i H o)
 exact⟨J,I,⟨(q 5 (by omega) (by omega)).trans R,(q 3 (by omega) (by omega)).trans L,(q 4 (by omega) (by omega)).trans N,(q 6 (by omega) (by omega)).trans O,(q 2 (by omega) (by omega)).trans S,(Zr (a:=⟨h+2,0,Z8⟩) (e 2 (by omega) (by omega))).trans T⟩,
  (Z1 (a:=⟨h,0,Z8⟩) (D h (by omega) (fun e=>E.1 e.symm))).trans x.n,G,C,ZD x.z K⟩
theorem GnC.tick{id:Int}{name:Z7}{r:Rf}(H:GnC w0 w W h p sv l fl cd c id name r st pd)(I:p<h)(E:r.D=h+7)(o:W.grownBy W' (Z9 p))(C:SHs w0 W' p sv l fl cd d) :
 GnC w0 w W' h p sv l fl cd d id name r st pd:=by
 have J:=H.z;have e:∀ k,k<h+9->k≠p->W'.heap[k]?=W.heap[k]?:=fun k G x=>o.block k (by omega) (fun e=>x (ZR e))
 refine H.core (q:=p) e o.size ⟨by omega,fun i _ _=>by omega⟩ C (aJ H.g o) ⟨?_,?_⟩ (H.b3.of (e _ (by omega) (by omega)))
 .rw[e _ (by omega) (by omega)];exact H.up.lp
 .rw[e _ (by omega) (by omega)];exact H.up.dfr
theorem GnC.bel{id:Int}{name:Z7}{r:Rf}(H:GnC w0 w W h p sv l fl cd c id name r st pd)(J:p<h)(I:w.heap.size=h)(G:r.D=h+7)(C:∀ b,sv.ownBlock=Z9 b->b<h)(o:ZV (h+9) W W') :
 GnC w0 w W' h p sv l fl cd c id name r st pd:=by
 have e:=fun k x=>o.block k x
 refine H.core (q:=h+9) (fun k x _=>e k x) o.size ⟨by omega,fun i _ _=>by omega⟩ (H.sh.belowB o (by omega) (fun _ b E=>by have:=C b E;omega)) (bx H.g (o.mono (by omega))) ⟨?_,?_⟩ (H.b3.of (e _ (by omega)))
 .rw[e _ (by omega)];exact H.up.lp
 .rw[e _ (by omega)];exact H.up.dfr
theorem GnC.turn{id:Int}{name:Z7}{r:Rf}(H:GnC w0 w W h p sv l fl cd c id name r st pd)(L:p<h)(I:w0.heap.size<=h)(J:w.heap.size=h)(D:∀ b,sv.ownBlock=Z9 b->b<h)(o:W.grownBy W' (Z9 q))(N:h<=q)(C:q≠h/\∀ i,2<=i->i<=6->q≠h+i)(E:Rup r st' j W')(x:Bx W' (h+1)) :
 GnC w0 w W' h p sv l fl cd c id name r st' j:=by
 have O:=H.z;exact H.core (q:=q) (fun k K G=>o.block k (by omega) (fun e=>G (ZR e))) o.size C (H.sh.other o (by omega) (by omega) (fun b x=>by have:=D b x;omega)) (bx H.g (gJ o (by omega) (by omega))) E x
theorem GnC.put{id:Int}{name:Z7}{r:Rf}(H:GnC w0 w W h p sv l fl cd c id name r st pd)(G:p<h)(C:w0.heap.size<=h)(E:w.heap.size=h)(I:r.D=h+7)(o:∀ b,sv.ownBlock=Z9 b->b<h) :
 GnC w0 w (W.putObj (r.D+1) (r.loop st' j)) h p sv l fl cd c id name r st' j:=by
 have K:=H.z;have x:=grownBy_putObj' W (r.D+1) (r.loop st' j);have e:∀ k,k<h+8->(W.putObj (r.D+1) (r.loop st' j)).heap[k]?=W.heap[k]?:=fun k J=>x.block k (by omega) (fun e=>by have:=ZR e;omega)
 exact H.turn G C E o x (by omega) ⟨by omega,fun i _ _=>by omega⟩ H.up.put (H.b3.of (e _ (by omega)))
theorem GnC.set{id:Int}{name:Z7}{r:Rf}(H:GnC w0 w W h p sv l fl cd c id name r st pd)(J:p<h)(C:w0.heap.size<=h)(E:w.heap.size=h)(K:r.D=h+7)(o:∀ b,sv.ownBlock=Z9 b->b<h)(L:i=1) :
 GnC w0 w (W.setCell ⟨h+i,0,Z8⟩ v) h p sv l fl cd c id name r st pd:=by
 have N:=H.z;have x:=de W ⟨h+i,0,Z8⟩ v;have e:∀ k,k<W.heap.size->k≠h+i->(W.setCell ⟨h+i,0,Z8⟩ v).heap[k]?=W.heap[k]?:=fun k G I=>x.block k G (fun e=>I (ZR e))
 refine H.turn J C E o x (by show h<=h+i;omega) ⟨by show h+i≠h;omega,fun j _ _=>by show h+i≠h+j;omega⟩ ⟨?_,?_⟩ H.b3.set
 .rw[e _ (by omega) (by omega)];exact H.up.lp
 .rw[e _ (by omega) (by omega)];exact H.up.dfr
end
section
attribute [local go_sem] Oper.semAt_some
theorem Hq(J:SHs w0 W p sv l fl cd c)(x:w.grownBy W (Z9 p))(G:p<h)(C:w.heap.size=h)(H:∀ b,sv.ownBlock=Z9 b->b<h)(e:∀ k,(k<h\/h+9<=k)->W'.heap[k]?=W.heap[k]?)(N:W.heap.size<=W'.heap.size)(E:W'.os=W.os)(K:W'.tape=W.tape)(L:W'.output=W.output):SHs w0 W' p sv l fl cd c/\w.grownBy W' (Z9 p):=by
 have o:ZV h W W':=⟨E,K,L,N,fun k D=>e k (.inl D)⟩;exact⟨J.belowB o G (fun _ b I=>H b I),bx x (by rw[C];exact o)⟩
theorem D9{a b c:Z2}{p:Zy Nat}(h:a.grownBy b p)(k:ZV b.heap.size b c):a.grownBy c p:=bx h (k.mono h.size)
def GnJ(w0 w:Z2)(h p:Nat)(sv:Z3)(l:Z5 Rw)(fl cd id:Int)(name:Z7)(r:Rf)(st:LoopState)(c:Int)(s:Z5 Int)(W:Z2):Prop :=
 GnC w0 w W h p sv l fl cd c id name r st Z8/\∃ o,W.cell? ⟨h+1,0,Z8⟩=Z9 o/\W.ownsRow (h+9) 3 1 o s.length (iv s)
theorem GnJ.put{id:Int}{name:Z7}{r:Rf}{s:Z5 Int}(I:GnJ w0 w h p sv l fl cd id name r st c s W)(L:p<h)(C:w0.heap.size<=h)(K:w.heap.size=h)(J:r.D=h+7)(H:∀ b,sv.ownBlock=Z9 b->b<h) :
 GnJ w0 w h p sv l fl cd id name r st' c s (W.putObj (r.D+1) (r.loop st' Z8)):=by
 obtain⟨E,O,G,o⟩:=I;exact⟨E.put L C K J H,O,(putc (by omega)).trans G,aV o (fun x N=>Y8 (by have:=(ax o x N).1;omega))⟩
def zI(w0 w w':Z2)(p:Nat)(sv:Z3)(l:Z5 Rw)(fl cd:Int)(g:(Z5 Int × Int) × Int)(r:Ending):Prop :=
 ∃ a c,r=.returned (.tuple #[.slice a g.1.1.length c,.int .i64 g.1.2])/\SHs w0 w' p sv l fl cd g.2/\w.grownBy w' (Z9 p)
theorem uy(w:Z2)(n:Int)(k:Nat)(H:k=w.heap.size):CS (w.alloc (.cells #[.int .i64 n] 3)) 1 (.slice (Z9 ⟨k,0,Z8⟩) 1 1) 1 (iv [n]):=by
 subst H;exact⟨_,_,rfl,rfl,fun _=>⟨_,rfl,cell_one_new _ _ _⟩⟩
theorem Aq(p:Nat)(sv:Z3)(l:Z5 Rw)(fl cd ca id:Int)(name:Z7)(w0 w:Z2)(hm:MaxL w0)(_hT:Tab w0)(S:SHs w0 w p sv l fl cd ca)(E:∀ b,sv.ownBlock=Z9 b->b<w.heap.size)(hl:l.length<=1000)(c2:∀ x∈l,x.2.1.size<=1000)(c0:0<=ca)(ce:ca<=90000)(c1:cd≠0/\cd≠6\/fl<=0) :
 ZJ Z6 208 #[.iface 56 (.pointer (Z9 ⟨p,0,Z8⟩)),.int .i64 id,.string name] w fun r w'=>zI w0 w w' p sv l fl cd (ff l fl cd ca id name) r:=by
 have C:=S.pl;have c8:=S.b.size;have HS:=lh S;clear S;obtain⟨g,V⟩:∃ g,ff l fl cd ca id name=g:=⟨_,rfl⟩;rw[V];refine (Zc (n:=4)).1 ?_
 refine callsIn_of_wp_marks Tryz.func208 rfl trivial ?_ rfl
 simp only[Tryz.ntmps208,List.size_toArray,ZK,YQ,Nat.reduceAdd,Nat.reduceSub,Array.replicate_succ,Array.replicate_zero,List.push_toArray,Xe,YM,Zm]
 gi_wp2_with (refine⟨trivial,?_⟩;gi_at_call 90;refine (Zc.2 (od p id 68 _ _)).mono ?_;rintro _ _ ⟨rfl,rfl⟩)
 simp only[Nat.add_assoc,Nat.reduceAdd]
 generalize I:Wt _ _=L;have af:ZV w.heap.size w L:=by rw[<-I];exact aB
 have bk:L.heap.size=w.heap.size+7:=by rw[<-I];simp
 have k0:L.cell? ⟨w.heap.size,0,Z8⟩=Z9 (.string name):=by rw[<-I];simp [go_sem]
 have k1:L.cell? ⟨w.heap.size+1,0,Z8⟩=Z9 (.slice Z8 0 0):=by rw[<-I];simp [go_sem]
 have k2:L.cell? ⟨w.heap.size+2,0,Z8⟩=Z9 (.int .i64 0):=by rw[<-I];simp [go_sem]
 have k3:L.cell? ⟨w.heap.size+3,0,Z8⟩=Z9 (.iface 56 (.pointer (Z9 ⟨p,0,Z8⟩))):=by rw[<-I];simp [go_sem]
 have k4:L.cell? ⟨w.heap.size+4,0,Z8⟩=Z9 (.int .i64 id):=by rw[<-I];simp [go_sem]
 have k5:L.cell? ⟨w.heap.size+5,0,Z8⟩=Z9 (.int .u8 68):=by rw[<-I];simp [go_sem]
 have k6:L.cell? ⟨w.heap.size+6,0,Z8⟩=Z9 (.pointer (Z9 ⟨w.heap.size+2,0,Z8⟩)):=by rw[<-I];simp [go_sem]
 have f1:L.frozen? ⟨w.heap.size+1,0,Z8⟩=ZW:=by rw[<-I];simp [go_sem]
 have f2:L.frozen? ⟨w.heap.size+2,0,Z8⟩=ZW:=by rw[<-I];simp [go_sem]
 clear I;refine sd rfl (by omega) (gf:=192) rfl trivial (enters_of Tryz.func192 (by kernel_rfl) rfl) ?_
 intro r W _ e1 e2 e3 e4 U hW hU;rw[bk] at U;have B1:ZV L.heap.size L W:=by rw[hW];exact below2' _ _ _
 have cb:W.heap.size=w.heap.size+9:=by rw[hW];simp [bk]
 clear hW;have q:∀ i,i<=6->W.heap[w.heap.size+i]?=L.heap[w.heap.size+i]?:=fun i hi=>B1.block _ (by omega)
 have qc:∀ i,i<=6->W.cell? ⟨w.heap.size+i,0,Z8⟩=L.cell? ⟨w.heap.size+i,0,Z8⟩:=fun i hi=>Z1 (a:=⟨w.heap.size+i,0,Z8⟩) (q i hi)
 have qf:∀ i,i<=6->W.frozen? ⟨w.heap.size+i,0,Z8⟩=L.frozen? ⟨w.heap.size+i,0,Z8⟩:=fun i hi=>Zr (a:=⟨w.heap.size+i,0,Z8⟩) (q i hi)
 have hA:GnC w0 w W w.heap.size p sv l fl cd ca id name r .ready Z8:=by
  refine⟨(HS.o.below af).below B1,bo _ (af.trans (B1.mono (by omega))),⟨(qc 5 (by omega)).trans k5,(qc 3 (by omega)).trans k3,(qc 4 (by omega)).trans k4,(qc 6 (by omega)).trans k6,(qc 2 (by omega)).trans k2,(qf 2 (by omega)).trans f2⟩,(qc 0 (by omega)).trans k0,⟨⟨_,(qc 1 (by omega)).trans k1⟩,(qf 1 (by omega)).trans f1⟩,hU,by omega⟩
 have bi:=(qc 1 (by omega)).trans k1;clear B1 q qc qf k0 k1 k2 k3 k4 k5 k6 f1 f2 hU af;generalize Y:w.heap.size=h at *;simp only[Xe,Zm,YM]
 unfold ff at V;generalize hR:bS l id fl cd 68 (fw name) (l.length+1) ca [(68:ZP) - 1,255] []=R at V;have b0:w0.heap.size<=h:=c8
 have b5:∀ (c d:Int) (s:Z5 Int) (W1 W':Z2),GnJ w0 w h p sv l fl cd id name r .ready c s W1->W1.grownBy W' (Z9 p)->SHs w0 W' p sv l fl cd d->GnJ w0 w h p sv l fl cd id name r .ready d s W':=by
  rintro c d s W1 W' ⟨h1,ov,h2,h3⟩ V hs;have z:=h1.z;exact⟨h1.tick C U V hs,ov,(Z1 (a:=⟨h+1,0,Z8⟩) (V.block (h+1) (by omega) (fun e=>by have:=ZR e;omega))).trans h2,aV h3 (fun x K=>V.block x (ax h3 x K).2 (fun e=>by have:=ZR e;have:=(ax h3 x K).1;omega))⟩
 have HY:∀ (c:Int) (s:Z5 Int) (k rc:Z7) (W1:Z2),GnJ w0 w h p sv l fl cd id name r .ready c s W1->s.length<=([]:Z5 Int).length+l.length->k.size<=1000->1<=k.size->YieldAt Fence.wide 2 Z6 (r.D+1) #[.string k,.string rc] W1 fun e W'=>∃ s',fw name s k rc=.ok s'/\e=.returned (.bool ZZ)/\GnJ w0 w h p sv l fl cd id name r .ready c s' W':=by
  intro c s k rc W1 a7 a9 bc bb;have o:=a7.put (st':=.busy) C b0 Y U E;refine (pM (r:=r) (J:=fun X=>∃ s',fw name s k rc=.ok s'/\GnJ w0 w h p sv l fl cd id name r .busy c s' X) (Jx:=fun _ _=>False) trivial a7.1.up (by rw[e2];rfl) ?_).mono ?_
  rotate_left
  .rintro e W' (⟨rfl,m,hu,⟨s',c4,h1⟩,rfl⟩|⟨rfl,cc,m,hu,h1,rfl⟩)
   .exact⟨s',c4,rfl,h1.put C b0 Y U E⟩
   .exact h1.elim
  change GnJ w0 w h p sv l fl cd id name r .busy c s (r.busy W1) at o
  simp only[e1,e2,e3,e4]
  gi_wp2
  refine⟨a7.1.up,?_⟩
  generalize r.busy W1=Wb at o |-;obtain⟨b8,ov,co,ag⟩:=o;obtain⟨va,vc,rfl⟩:=bX ag
  have be:(aN k).size<=1000:=by
   rw[<-ZO];unfold aN;rw[V4];unfold Ek.trim;rw[YH,X8,ZO];omega
  have T:=fun W (b:ZV w0.heap.size w0 W)=>lq (aN k) W be (hm.below b)
  have a8:=fun W=>jI 0 (aN k) W
  have S:fw name s k rc=if (XZ (Z4 (aN k))=ZZ/\dK (aN k)=name)/\k=aC 0 (aN k) then .ok (s++[((Ds.splN (Z4 (aN k)):Nat):Int)]) else .ok s:=rfl
  have b7:(⟨(Ds.splG (Z4 (aN k))).toArray⟩:Z7)=dK (aN k):=rfl;rw[b7] at T;have av:=ti k;generalize XZ (Z4 (aN k))=bg at T S;generalize dK (aN k)=sg at T S;generalize ((Ds.splN (Z4 (aN k)):Nat):Int)=sn at T S;generalize aC 0 (aN k)=kz at a8 S;generalize aN k=nz at T a8 av;have a4:=lh (fun W=>av W bb bc);have a6:=lh T;have b6:=lh a8;have H:=lh b8;have O:=lh ag;have t2:=fd sg name;have t3:=fd k kz;have cg:s.length<=1000:=by simp only[YQ] at a9;omega
  clear be T a8 av b7 a7 b8 ag a9 bb bc;cases bg
  .rw[Z0 (fun k=>by cases k.1.1)] at S;have N:=lh S;clear S t2 t3;gi_wp2_with (first|(refine⟨trivial,?_⟩;gi_at_call 91;refine (YK _ (Zc.2 (a4.o _))).mono ?_;rintro _ _ ⟨rfl,rfl⟩)|(refine⟨trivial,?_⟩;gi_at_call 155;refine (YK _ (Zc.2 (a6.o _ H.o.sh.b))).mono ?_;rintro _ w3 ⟨rfl,o⟩;have Z:=H.o.z;have co:=((o.mono Z).cell (p:=⟨h+1,0,Z8⟩) (by show h+1<h+9;omega)).trans co;have O:=lh (aV O.o (fun x K=>o.block x (ax O.o x K).2));have H:=lh (H.o.bel C Y U E (o.mono Z));have cn:=H.o.n;have f3:=H.o.b3.2;clear o))
   refine⟨trivial,?_⟩
   gi_wp2
   exact⟨H.o.up,s,N.o,H.o,_,co,O.o⟩
  by_cases es:sg=name
  rotate_left
  .rw[Z0 (fun k=>es k.1.2)] at S;rw[ZF es] at t2;have N:=lh S;clear S t3 es;gi_wp2_with (first|(refine⟨trivial,?_⟩;gi_at_call 91;refine (YK _ (Zc.2 (a4.o _))).mono ?_;rintro _ _ ⟨rfl,rfl⟩)|(refine⟨trivial,?_⟩;gi_at_call 155;refine (YK _ (Zc.2 (a6.o _ H.o.sh.b))).mono ?_;rintro _ w3 ⟨rfl,o⟩;have Z:=H.o.z;have co:=((o.mono Z).cell (p:=⟨h+1,0,Z8⟩) (by show h+1<h+9;omega)).trans co;have O:=lh (aV O.o (fun x K=>o.block x (ax O.o x K).2));have H:=lh (H.o.bel C Y U E (o.mono Z));have cn:=H.o.n;have f3:=H.o.b3.2;clear o))
   refine⟨trivial,?_⟩
   gi_wp2
   exact⟨H.o.up,s,N.o,H.o,_,co,O.o⟩
  rw[ZL es] at t2;by_cases ek:k=kz
  rotate_left
  .rw[Z0 (fun k=>ek k.2)] at S;rw[ZF ek] at t3;have N:=lh S;clear S es ek;gi_wp2_with (first|(refine⟨trivial,?_⟩;gi_at_call 91;refine (YK _ (Zc.2 (a4.o _))).mono ?_;rintro _ _ ⟨rfl,rfl⟩)|(refine⟨trivial,?_⟩;gi_at_call 155;refine (YK _ (Zc.2 (a6.o _ H.o.sh.b))).mono ?_;rintro _ w3 ⟨rfl,o⟩;have Z:=H.o.z;have co:=((o.mono Z).cell (p:=⟨h+1,0,Z8⟩) (by show h+1<h+9;omega)).trans co;have O:=lh (aV O.o (fun x K=>o.block x (ax O.o x K).2));have H:=lh (H.o.bel C Y U E (o.mono Z));have cn:=H.o.n;have f3:=H.o.b3.2;clear o)|(refine⟨trivial,?_⟩;gi_at_call 88;refine (YK _ (Zc.2 (b6.o _))).mono ?_;rintro _ w4 ⟨rfl,o⟩;have Z:=H.o.z;have co:=((o.mono Z).cell (p:=⟨h+1,0,Z8⟩) (by show h+1<h+9;omega)).trans co;have O:=lh (aV O.o (fun x K=>o.block x (ax O.o x K).2));have H:=lh (H.o.bel C Y U E (o.mono Z));have cn:=H.o.n;have f3:=H.o.b3.2;clear o))
   exact⟨H.o.up,s,N.o,H.o,_,co,O.o⟩
  rw[ZX ⟨⟨rfl,es⟩,ek⟩] at S;rw[ZL ek] at t3;have N:=lh S;clear S es ek;gi_wp2_with (first|(refine⟨trivial,?_⟩;gi_at_call 91;refine (YK _ (Zc.2 (a4.o _))).mono ?_;rintro _ _ ⟨rfl,rfl⟩)|(refine⟨trivial,?_⟩;gi_at_call 155;refine (YK _ (Zc.2 (a6.o _ H.o.sh.b))).mono ?_;rintro _ w3 ⟨rfl,o⟩;have Z:=H.o.z;have co:=((o.mono Z).cell (p:=⟨h+1,0,Z8⟩) (by show h+1<h+9;omega)).trans co;have O:=lh (aV O.o (fun x K=>o.block x (ax O.o x K).2));have H:=lh (H.o.bel C Y U E (o.mono Z));have cn:=H.o.n;have f3:=H.o.b3.2;clear o)|(refine⟨trivial,?_⟩;gi_at_call 88;refine (YK _ (Zc.2 (b6.o _))).mono ?_;rintro _ w4 ⟨rfl,o⟩;have Z:=H.o.z;have co:=((o.mono Z).cell (p:=⟨h+1,0,Z8⟩) (by show h+1<h+9;omega)).trans co;have O:=lh (aV O.o (fun x K=>o.block x (ax O.o x K).2));have H:=lh (H.o.bel C Y U E (o.mono Z));have cn:=H.o.n;have f3:=H.o.b3.2;clear o)|(gi_at_builtin;have zA:=H.o.z;have a3:=aj w4 (.cells #[.int .i64 sn] 3);have b1:=aV O.o (fun x K=>a3.block x (ax O.o x K).2);refine oC _ rfl (.tmp 40) (.tmp 42) 26 3 _ _ 1 8 rfl Tryz.underlying26 Hp GA GC EK rfl (by decide) (h+9) (.slice va s.length vc) (.slice (Z9 ⟨w4.heap.size,0,Z8⟩) 1 1) s.length 1 (iv s) (iv [sn]) rfl b1 rfl (uy w4 sn _ rfl) (by decide) (IA _) (by unfold X9;omega) (by omega) (by simp at zA |-;omega) ?_;intro a5 c5 w5 aa ba bs;have ab:ZV (h+9) (w4.alloc (.cells #[.int .i64 sn] 3)) w5:=fy ba (fun q hq=>(ax b1 q hq).1) (by simp at zA |-;omega);have A6:=(H.o.bel C Y U E (a3.mono zA)).bel C Y U E ab;have br:=lh A6;have c6:=(ab.cell (p:=⟨h+1,0,Z8⟩) (by show h+1<h+9;omega)).trans ((a3.cell (p:=⟨h+1,0,Z8⟩) (by show h+1<_;omega)).trans co);have f6:=A6.b3.2;have ad:=lh aa;clear A6 aa ba bs a3 ab b1))
  have A7:=(br.o.set (i:=1) (v:=.slice a5 (s.length+1) c5) C b0 Y U E rfl);refine⟨A7.up,s++[sn],N.o,A7,.slice a5 (s.length+1) c5,Zl _ _ _ (by rw[c6];rfl),?_⟩
  have c9:=aV ad.o (fun x K=>(de w5 ⟨h+1,0,Z8⟩ (.slice a5 (s.length+1) c5)).block x (ax ad.o x K).2 (fun e=>by have q1:=ZR e;have q2:=(ax ad.o x K).1;simp at q1;omega));rw[ZQ];unfold iv at *;rw[XL];exact c9
 have ac:=p6 (ρ:=Int) (fw name) WR (D8 name) (GnJ w0 w h p sv l fl cd id name r .ready) (fun _ _ _=>False) (r.D+1) p (h+5) (h+3) (h+4) (h+6) (h+2) sv l fl cd ca id 68 w0 W [] 3 2 (fun c s W' hj=>⟨hj.1.ri,hj.1.sh⟩) b5 (fun c s k rc W1 h1 h2 c3 h3=>(HY c s k rc W1 h1 h2 (by obtain⟨i,hi⟩:=c3;exact c2 _ hi) h3).mono fun e W' h=>by obtain⟨s',c7,h4⟩:=h;rw[c7];exact h4) (by decide) (by omega) rfl ⟨hA,_,bi,WJ _ _ _ _⟩ c0 (by omega) hl c1;rw[hR] at ac;refine ac.mono ?_
 clear ac b5 HY bi hA;rintro e X ⟨⟨v,rfl⟩,a2⟩;refine⟨⟨v,rfl⟩,?_⟩
 unfold mF at a2;have a1:∀ (pd:Zy Code) (k:Nat),k≠h+8->(r.gone pd X).heap[k]?=X.heap[k]?:=fun pd k h2=>Y8 (by omega)
 obtain⟨R1,cR⟩:=R
 cases R1 with
 | error e=>exact a2.elim
 | ok sc =>
   obtain⟨s,f⟩:=sc;obtain⟨m,⟨G,ov,ho,b9⟩,a0⟩:=a2;obtain⟨va,vc,rfl⟩:=bX b9;have z1:=G.z
   have F:SHs w0 X p sv l fl cd cR/\w.grownBy X (Z9 p)/\X.cell? ⟨h+1,0,Z8⟩=Z9 (.slice va s.length vc)/\X.cell? ⟨h+2,0,Z8⟩=Z9 (.int .i64 f)/\Rup r .ready Z8 X/\h+9<=X.heap.size:=by
    rcases a0 with ⟨rfl,rfl⟩|rfl
    .exact⟨G.sh,G.g,ho,G.ri.v,G.up,G.z⟩
    .have ar:=de m ⟨h+2,0,Z8⟩ (.int .i64 f);have ao:∀ k,k<m.heap.size->k≠h+2->(m.setCell ⟨h+2,0,Z8⟩ (.int .i64 f)).heap[k]?=m.heap[k]?:=fun k h1 h2=>ar.block k h1 (fun e=>h2 (ZR e))
     refine⟨G.sh.other ar (by show p≠h+2;omega) (by show _<=h+2;omega) (fun b o=>by have:=E b o;show b≠h+2;omega),bx G.g (gJ ar (by show w.heap.size<=h+2;omega) (by omega)),(Z1 (a:=⟨h+1,0,Z8⟩) (ao (h+1) (by omega) (by omega))).trans ho,Zl _ _ _ (by rw[G.ri.v];rfl),⟨?_,?_⟩,by simpa using z1⟩
     .rw[ao _ (by omega) (by omega)];exact G.up.lp
     .rw[ao _ (by omega) (by omega)];exact G.up.dfr
   clear a0 ho b9 G z1;obtain⟨q1,q2,q5,q7,q8,q9⟩:=F;refine .inl ⟨q8,?_⟩
   have hK:(r.gone Z8 X).heap[h+7]?=Z9 (.deferred (Z9 [])):=(a1 _ _ (by omega)).trans (U ▸ q8.dfr);have x3:=(Z1 (a:=⟨h+1,0,Z8⟩) (a1 Z8 (h+1) (by omega))).trans q5;have x4:=(Z1 (a:=⟨h+2,0,Z8⟩) (a1 Z8 (h+2) (by omega))).trans q7;have hF:=Hq (W':=(r.gone Z8 X).putObj (h+7) (.deferred Z8)) q1 q2 C Y E (fun k hk=>(Y8 (by omega)).trans (a1 Z8 k (by omega))) (by simp [Rf.gone]) rfl rfl rfl;generalize r.gone Z8 X=Wg at hK x3 x4 hF |-;clear a1 q1 q2 q5 q7 q8 q9;have b2:=lh hF.1;have b4:=lh hF.2;clear hF;by_cases hc:f=0
   .subst hc;replace V:((s,0),cR)=g:=V
    subst V;gi_wp2
    refine⟨by simp,.inl ⟨_,_,rfl,run_takeDeferred hK,?_⟩⟩
    exact⟨_,results_tmp2 rfl _ _ _,va,vc,rfl,b2.o,b4.o⟩
   .have t1:(f != 0)=ZZ:=YN.2 hc;replace V:(if f≠0 then (([]:Z5 Int),f) else (s,0),cR)=g:=V
    rw[ZX hc] at V;subst V;have ch:Tryz.prog.follows .mixedOrders=ZZ:=by kernel_rfl
    gi_wp2
    refine wpIn_region_quiet_lit rfl (by kernel_rfl) (by kernel_rfl) ?_
    repeat (gi_big_quiet_step (fail))
    refine wpQuietIn_nil ?_
    rintro _ ⟨nq,rfl⟩;gi_wp2
    have bd:ZV (Wg.putObj (h+7) (.deferred Z8)).heap.size (Wg.putObj (h+7) (.deferred Z8)) ((Wg.drewN nq).putObj (h+7) (.deferred Z8)):=⟨rfl,rfl,rfl,ZS _,fun _ _=>rfl⟩;refine⟨by simp,.inl ⟨_,_,rfl,run_takeDeferred (b:=h+7) hK,?_⟩⟩
    exact⟨_,results_tmp2 rfl _ _ _,Z8,0,rfl,b2.o.below bd,D9 b4.o bd⟩
end
section
def je(l:Z5 Rw)(fl cd id K:Int)(name:Z7)(x:Fu)(c:Int):(Z5 Ch × Int) × Int :=
 if K=0\/K=1 then
  (if (cU l fl cd c id name).1.2≠0 then (([],(cU l fl cd c id name).1.2),(cU l fl cd c id name).2)
  else (((cU l fl cd c id name).1.1.map (bJ id)++[bJ id x],0),(cU l fl cd c id name).2))
 else (([bJ id x],0),c)
def ip(l:Z5 Rw)(fl cd C id K:Int)(name:Z7):(Z5 Ch × Int) × Int :=
 if (aG l fl cd C id K name).1.2≠0 then (([],(aG l fl cd C id K name).1.2),(aG l fl cd C id K name).2)
 else if K=1 then
  (if (ff l fl cd (aG l fl cd C id K name).2 id name).1.2≠0 then (([],(ff l fl cd (aG l fl cd C id K name).2 id name).1.2),(ff l fl cd (aG l fl cd C id K name).2 id name).2)
  else if (ff l fl cd (aG l fl cd C id K name).2 id name).1.1≠[] then (([],9),(ff l fl cd (aG l fl cd C id K name).2 id name).2)
  else je l fl cd id K name (aG l fl cd C id K name).1.1 (ff l fl cd (aG l fl cd C id K name).2 id name).2)
 else je l fl cd id K name (aG l fl cd C id K name).1.1 (aG l fl cd C id K name).2
theorem wP(l:Z5 Rw)(fl cd C id:Int)(name:Z7):C<=(ff l fl cd C id name).2/\(ff l fl cd C id name).2<=C+l.length+1:=by
 have h:=ja (step:=fw name) (l:=l) (id:=id) (fl:=fl) (cd:=cd) (L:=68) (l.length+1) C [(68:ZP) - 1,255] [];unfold ff
 cases H:bS l id fl cd 68 (fw name) (l.length+1) C [(68:ZP) - 1,255] [] with
 | mk a c =>
   rw[H] at h
   cases a with
   | error e=>dsimp only at h |-;omega
   | ok p=>dsimp only at h |-;omega
attribute [local go_sem ↓] aZ fb bf bq cl eX
attribute [local go_sem] bn aS aH bE bH aK aT ak aI aw az aM ah aQ aL aP aO aR aY aW bD ap aq
theorem Bw(p:Nat)(sv:Z3)(l:Z5 Rw)(fl cd ca id K:Int)(name:Z7)(w0 w:Z2)(hm:MaxL w0)(hT:Tab w0)(hS:SHs w0 w p sv l fl cd ca)(a3:∀ b,sv.ownBlock=Z9 b->b<w.heap.size)(hl:l.length<=1000)(c9:∀ x∈l,x.2.1.size<=1000)(c7:0<=ca)(ck:ca<=80000)(ba:cd≠0/\cd≠6\/fl<=0) :
 ZJ Z6 124 #[.iface 56 (.pointer (Z9 ⟨p,0,Z8⟩)),.int .i64 id,.int .i64 K,.string name] w fun r w'=>dj w0 w w' p sv l fl cd (ip l fl cd ca id K name) r:=by
 have S:=lh hS;have G:=lh (Xp w (Z9 p));have cn:=hS.b.size;have bk:=hS.pl;have c2:cd≠0\/fl<=0:=ba.imp (fun h=>h.1) (fun h=>h);clear hS;unfold ip;have b4:=fun W (h:SHs w0 W p sv l fl cd ca)=>iy p sv l fl cd ca id K name w0 W hm hT h c7 (by omega) c2
 have c0:=dS l fl cd ca id K name;generalize aG l fl cd ca id K name=gg at b4 c0 |-;obtain⟨⟨y,f⟩,cb⟩:=gg;dsimp only at c0 |-;have U:=lh b4;clear b4;by_cases h0:f=0
 rotate_left
 .rw[ZX h0];have t1:(f != 0)=ZZ:=by rw[YN];exact h0
  clear h0;go_enter Tryz.func124,Tryz.ntmps124
  go_wp2_with (first|(go_at_call 82;(refine (U.o _ S.o).mono ?_);rintro _ z ⟨⟨al,gr,rfl,Y,E,L,N⟩,O,C⟩;clear U;obtain⟨V,z2,zS,O1,O2,nb,zw,I0,J0,I,J,R,H,G,S⟩:=g9 S.o G.o Y E L N O C;clear Y E L N O C))
  go_ret2
  exact⟨_,rfl,bu _,S.o,G.o⟩
 rw[Z0 (fun h=>h h0)];subst h0;have c4:∀ W (x:Fu) al gr,bh (x.1.vals al gr).toList=ZZ->ZJ Z6 210 #[.int .i64 id,.agg (x.1.vals al gr)] W fun r w'=>r=.returned (.agg #[.int .i64 1,.int .i64 id,.string (aC x.1.kind x.1.name),.string ⟨#[]⟩,.string ⟨#[]⟩])/\ZV W.heap.size W w':=fun W x al gr h=>ua id x al gr W h
 have ar:=lh c4;clear c4;by_cases hk:K=0\/K=1
 rotate_left
 .have k1:¬ K=1:=fun h=>hk (.inr h)
  have k0:¬ K=0:=fun h=>hk (.inl h)
  rw[Z0 k1];unfold je;rw[Z0 hk];have t2:(K==1)=ZW:=ZG.2 k1;have t3:(K==0)=ZW:=ZG.2 k0;clear hk k0 k1;unfold bJ;generalize a7:aC y.1.kind y.1.name=k1;have be:=fun W al gr h=>ar.o W y al gr h
  rw[a7] at be;have HE:=lh be;clear be a7 ar;go_enter Tryz.func124,Tryz.ntmps124
  go_wp2_with first|go_at_call 82;(refine (U.o _ S.o).mono ?_);rintro _ z ⟨⟨al,gr,rfl,Y,E,L,N⟩,O,C⟩;clear U;obtain⟨V,z2,zS,O1,O2,nb,zw,I0,J0,I,J,R,H,G,S⟩:=g9 S.o G.o Y E L N O C;clear Y E L N O C|go_at_call 210;(refine (HE.o _ _ _ V).mono ?_);rintro _ w6 ⟨rfl,T⟩;have G:=lh (cm G.o T);have S:=lh (S.o.below T);clear T|at_builtin;have BQ:=aj w6 (.cells #[.int .i64 1,.int .i64 id,.string k1,.string ⟨#[]⟩,.string ⟨#[]⟩] 67);have zQ:w.heap.size<=(w6.alloc (.cells #[.int .i64 1,.int .i64 id,.string k1,.string ⟨#[]⟩,.string ⟨#[]⟩] 67)).heap.size:=(cm G.o BQ).size;refine dQ _ rfl (.tmp 74) (.tmp 78) 53 67 _ _ 5 64 rfl WN gA fZ ge gi rfl (by decide) w.heap.size (.slice Z8 0 0) (.slice (Z9 ⟨w6.heap.size,0,Z8⟩) 1 1) 0 1 (cv []) (cv [(1,id,k1,⟨#[]⟩,⟨#[]⟩)]) rfl (WJ _ _ _ _) rfl (iE w6 (1,id,k1,⟨#[]⟩,⟨#[]⟩) _ _ rfl) (fC _) (by unfold X9;omega) (by omega) zQ ?_;intro a8 c8 w8 D a6 _;have B8:ZV w.heap.size (w6.alloc (.cells #[.int .i64 1,.int .i64 id,.string k1,.string ⟨#[]⟩,.string ⟨#[]⟩] 67)) w8:=fy a6 (fun q hq=>by cases hq) zQ;have S8:=lh ((S.o.below BQ).belowB B8 bk (fun _ b T=>a3 b T));have G8:=lh (bx (cm G.o BQ) B8);have b1:=lh D;clear D a6 B8 BQ zQ
  go_ret2
  exact⟨.slice a8 (0+1) c8,rfl,jp (l:=[(1,id,k1,⟨#[]⟩,⟨#[]⟩)]) (by simp) (dU b1.o),S8.o,G8.o⟩
 -- the branches that ask for the aliases
 by_cases k1:K=1
 .rw[ZX k1];have t2:(K==1)=ZZ:=Yy.2 k1;have t4:(K==0)=ZW:=by rw[k1];rfl
  have bi:=fun W (h:SHs w0 W p sv l fl cd cb) (ho:∀ b,sv.ownBlock=Z9 b->b<W.heap.size)=>Aq p sv l fl cd cb id name w0 W hm hT h ho hl c9 (by omega) (by omega) ba
  have c5:=wP l fl cd cb id name;generalize ff l fl cd cb id name=gn at bi c5 |-;obtain⟨⟨nl,nc⟩,cc⟩:=gn;dsimp only at c5 |-;have b9:=lh bi;clear bi;by_cases hn:nc=0
  rotate_left
  .rw[ZX hn];have t1:(nc != 0)=ZZ:=by rw[YN];exact hn
   clear hn hk k1;go_enter Tryz.func124,Tryz.ntmps124
   go_wp2_with (first|(go_at_call 82;(refine (U.o _ S.o).mono ?_);rintro _ z ⟨⟨al,gr,rfl,Y,E,L,N⟩,O,C⟩;clear U;obtain⟨V,z2,zS,O1,O2,nb,zw,I0,J0,I,J,R,H,G,S⟩:=g9 S.o G.o Y E L N O C;clear Y E L N O C)|(go_at_call 208;(refine (b9.o _ S.o (fun b T=>ZY (a3 b T) G.o.size)).mono ?_);rintro _ w4 ⟨na,br,rfl,O,C⟩;have R:=dP R (by rw[ah];decide) C nb;have H:=f9 H C nb;have I:=lh (fP I.o C O1);have J:=lh (fQ J.o C O2);have G:=lh (aJ G.o C);have S:=lh O;clear O C))
   go_ret2
   exact⟨_,rfl,bu _,S.o,G.o⟩
  rw[Z0 (fun h=>h hn)];subst hn;by_cases hz:nl=[]
  rotate_left
  .rw[ZX hz];have t3:decide (0<(nl.length:Int))=ZZ:=ZL (by cases nl with|nil=>exact absurd rfl hz|cons a t=>rw[ZK];omega);have t5:0<nl.length:=List.length_pos_iff.2 hz;have t6:decide (0<nl.length)=ZZ:=ZL t5;have t7:¬ nl=[]:=hz;clear hz hk k1;go_enter Tryz.func124,Tryz.ntmps124
   go_wp2_with (first|(go_at_call 82;(refine (U.o _ S.o).mono ?_);rintro _ z ⟨⟨al,gr,rfl,Y,E,L,N⟩,O,C⟩;clear U;obtain⟨V,z2,zS,O1,O2,nb,zw,I0,J0,I,J,R,H,G,S⟩:=g9 S.o G.o Y E L N O C;clear Y E L N O C)|(go_at_call 208;(refine (b9.o _ S.o (fun b T=>ZY (a3 b T) G.o.size)).mono ?_);rintro _ w4 ⟨na,br,rfl,O,C⟩;have R:=dP R (by rw[ah];decide) C nb;have H:=f9 H C nb;have I:=lh (fP I.o C O1);have J:=lh (fQ J.o C O2);have G:=lh (aJ G.o C);have S:=lh O;clear O C))
   go_ret2
   exact⟨_,rfl,bu _,S.o,G.o⟩
  rw[Z0 (fun h=>h hz)];subst hz
  (unfold je;rw[ZX hk];have ab:=fun W (h:SHs w0 W p sv l fl cd cc) (ho:∀ b,sv.ownBlock=Z9 b->b<W.heap.size)=>oc p sv l fl cd cc id name w0 W hm hT h ho hl (by omega) (by omega) ba;have b5:=pg l fl cd cc id name;have b6:=o8 l fl cd cc id name;generalize cU l fl cd cc id name=ga at ab b5 b6 |-;obtain⟨⟨s,c3⟩,ce⟩:=ga;dsimp only at b5 b6 |-;have av:=lh ab;clear ab)
  by_cases h3:c3=0
  rotate_left
  .rw[ZX h3];have t1:(c3 != 0)=ZZ:=by rw[YN];exact h3
   clear h3 hk k1;go_enter Tryz.func124,Tryz.ntmps124
   go_wp2_with (first|(go_at_call 82;(refine (U.o _ S.o).mono ?_);rintro _ z ⟨⟨al,gr,rfl,Y,E,L,N⟩,O,C⟩;clear U;obtain⟨V,z2,zS,O1,O2,nb,zw,I0,J0,I,J,R,H,G,S⟩:=g9 S.o G.o Y E L N O C;clear Y E L N O C)|(go_at_call 208;(refine (b9.o _ S.o (fun b T=>ZY (a3 b T) G.o.size)).mono ?_);rintro _ w4 ⟨na,br,rfl,O,C⟩;have R:=dP R (by rw[ah];decide) C nb;have H:=f9 H C nb;have I:=lh (fP I.o C O1);have J:=lh (fQ J.o C O2);have G:=lh (aJ G.o C);have S:=lh O;clear O C)|(go_at_call 209;(refine (av.o _ S.o (fun b T=>ZY (a3 b T) G.o.size)).mono ?_);rintro _ w5 ⟨A,bs,rfl,hJ,O,C⟩;have zb:=H.lt;obtain⟨va,vc,rfl⟩:=bX hJ.own;rw[Zq] at hJ;have b0:=lh hJ;have R:=dP R (by rw[ah];decide) C nb;have H:=f9 H C nb;have I:=lh (fP I.o C O1);have J:=lh (fQ J.o C O2);have G:=lh (aJ G.o C);have S:=lh O;clear hJ O C))
   go_ret2
   exact⟨_,rfl,bu _,S.o,G.o⟩
  rw[Z0 (fun h=>h h3)];subst h3;clear hk k1;go_enter Tryz.func124,Tryz.ntmps124
  go_wp2_with (first|(go_at_call 82;(refine (U.o _ S.o).mono ?_);rintro _ z ⟨⟨al,gr,rfl,Y,E,L,N⟩,O,C⟩;clear U;obtain⟨V,z2,zS,O1,O2,nb,zw,I0,J0,I,J,R,H,G,S⟩:=g9 S.o G.o Y E L N O C;clear Y E L N O C)|(go_at_call 208;(refine (b9.o _ S.o (fun b T=>ZY (a3 b T) G.o.size)).mono ?_);rintro _ w4 ⟨na,br,rfl,O,C⟩;have R:=dP R (by rw[ah];decide) C nb;have H:=f9 H C nb;have I:=lh (fP I.o C O1);have J:=lh (fQ J.o C O2);have G:=lh (aJ G.o C);have S:=lh O;clear O C)|(go_at_call 209;(refine (av.o _ S.o (fun b T=>ZY (a3 b T) G.o.size)).mono ?_);rintro _ w5 ⟨A,bs,rfl,hJ,O,C⟩;have zb:=H.lt;obtain⟨va,vc,rfl⟩:=bX hJ.own;rw[Zq] at hJ;have b0:=lh hJ;have R:=dP R (by rw[ah];decide) C nb;have H:=f9 H C nb;have I:=lh (fP I.o C O1);have J:=lh (fQ J.o C O2);have G:=lh (aJ G.o C);have S:=lh O;clear hJ O C))
  go_loopw [14,63] (fun v i wr=>∃ (k:Nat),k<=s.length/\i=.int .i64 k/\wr.ownsRow w5.heap.size 67 5 v k (cv ((s.take k).map (bJ id)))/\ZV w5.heap.size w5 wr) (fun _ i _=>s.length - (Y4 i).toNat)
  case atStart=>exact⟨0,Y7 _,rfl,WJ _ _ _ _,ZM _ _⟩
  case round =>
   obtain⟨k,hk,rfl,D,hB⟩:=hrel;obtain⟨ra,rc,rfl⟩:=bX D;have HO:=lh D;have HB:=lh hB;have zg:=hB.size;clear D hB;by_cases a5:k<s.length
   .obtain⟨cg,ch,GG,b8,aa,Z,-⟩:=(b0.o.below HB.o).es (by rw[Zq];omega);rw[Zq] at b8 aa Z;injection b8 with v1 v2 v3
    subst v1 v3;clear v2;obtain⟨b,o,rfl,T,a1,c1,a2,a4,X,-,-,-⟩:=aa.2 k a5
    have b2:GG k=cY s[k]:=by
     have e1:(lst GG s.length)[k]?=(s.map cY)[k]?:=by rw[Z]
     unfold lst at e1;rw[Yv,Xd a5,Yv,ZN a5] at e1;exact ZR e1
    rw[b2] at X;have ao:s.take (k+1)=s.take k++[s[k]]:=ZB a5;generalize s[k]=q at X ao;have af:mid wr b (o+k*33)=q.1.vals (.slice a1 q.2.1.length c1) (.slice a2 q.2.2.length a4):=X;have ag:=ay q.1 (.slice a1 q.2.1.length c1) (.slice a2 q.2.2.length a4) rfl rfl;have c6:(mid wr b (o+k*33)).size=33:=by rw[af];exact ah _ _ _
    have j1:(0:Int)<=(k:Int):=by omega
    have j2:(k:Int)<(s.length:Int):=by omega
    have a0:((s.take (k+1)).map (bJ id))=((s.take k).map (bJ id))++[(1,id,aC q.1.kind q.1.name,⟨#[]⟩,⟨#[]⟩)]:=by rw[ao,XL];rfl
    have ad:=fun W=>ar.o W q (.slice a1 q.2.1.length c1) (.slice a2 q.2.2.length a4) ag
    generalize aC q.1.kind q.1.name=k3 at a0 ad;have bb:=lh ad;have bd:=lh a0;clear ad a0 ao X b2 aa Z
    go_wp2_with first|go_at_call 210;(refine (bb.o _).mono ?_);rintro _ w9 ⟨rfl,T⟩;have B9:=bt (aj wr (.cells (q.1.vals (.slice a1 q.2.1.length c1) (.slice a2 q.2.2.length a4)) 29)) T;have O9:=lh (aV HO.o (fun x hx=>B9.block x (ax HO.o x hx).2));have G9:=lh (XY HB.o (B9.mono zg));have z9:=B9.size;clear T B9|at_builtin;have a9:=aj w9 (.cells #[.int .i64 1,.int .i64 id,.string k3,.string ⟨#[]⟩,.string ⟨#[]⟩] 67);have OQ:=aV O9.o (fun x hx=>a9.block x (ax O9.o x hx).2);refine dQ _ rfl (.tmp 67) (.tmp 71) 53 67 _ _ 5 64 rfl WN gA fZ ge gi rfl (by decide) w5.heap.size (.slice ra k rc) (.slice (Z9 ⟨w9.heap.size,0,Z8⟩) 1 1) k 1 _ (cv [(1,id,k3,⟨#[]⟩,⟨#[]⟩)]) rfl OQ rfl (iE w9 (1,id,k3,⟨#[]⟩,⟨#[]⟩) _ _ rfl) (fC _) (by unfold X9;omega) (by omega) (by simp;omega) ?_;intro aX cX wX D b3 _;have OX:=lh D;have GX:=lh ((XY G9.o (a9.mono (by omega))).trans (fy b3 (fun q hq=>(ax OQ q hq).1) (by simp;omega)));clear D b3 OQ a9
    go_roundw
    case rel=>exact⟨k+1,by omega,by go_num,by rw[bd.o,gP];exact OX.o,GX.o⟩
    case measure=>simp [Y4];omega
   .obtain rfl:k=s.length:=by omega
    rw[ZC (ZS _)] at HO;have RE:=am HB.o R (by rw[ah];decide);have SE:=lh (S.o.below HB.o);have GE:=lh (cm G.o HB.o);have ac:=fun W al gr h=>ar.o W y al gr h
    generalize a7:aC y.1.kind y.1.name=k1 at ac;have HE:=lh ac;have bc:=lh a7;have Jg:=G.o.size;clear ac a7
    go_wp2_with first|go_at_call 210;(refine (HE.o _ _ _ V).mono ?_);rintro _ w6 ⟨rfl,T⟩;have SE:=lh (SE.o.below T);have GE:=lh (cm GE.o T);have O6:=lh (aV HO.o (fun x hx=>T.block x (ax HO.o x hx).2));have z6:=T.size;clear T|at_builtin;have BQ:=aj w6 (.cells #[.int .i64 1,.int .i64 id,.string k1,.string ⟨#[]⟩,.string ⟨#[]⟩] 67);have OQ:=aV O6.o (fun x hx=>BQ.block x (ax O6.o x hx).2);refine dQ _ rfl (.tmp 74) (.tmp 78) 53 67 _ _ 5 64 rfl WN gA fZ ge gi rfl (by decide) w5.heap.size (.slice ra s.length rc) (.slice (Z9 ⟨w6.heap.size,0,Z8⟩) 1 1) s.length 1 (cv (s.map (bJ id))) (cv [(1,id,k1,⟨#[]⟩,⟨#[]⟩)]) rfl OQ rfl (iE w6 (1,id,k1,⟨#[]⟩,⟨#[]⟩) _ _ rfl) (fC _) (by unfold X9;omega) (by omega) (by simp;omega) ?_;intro a8 c8 w8 D a6 _;have B8:ZV w.heap.size (w6.alloc (.cells #[.int .i64 1,.int .i64 id,.string k1,.string ⟨#[]⟩,.string ⟨#[]⟩] 67)) w8:=fy a6 (fun q hq=>ZD Jg (ax OQ q hq).1) (by simp;omega);have S8:=lh ((SE.o.below BQ).belowB B8 bk (fun _ b T=>a3 b T));have G8:=lh (bx (cm GE.o BQ) B8);have b1:=lh D;clear D a6 B8 BQ OQ
    go_ret2
    refine⟨.slice a8 (s.length+1) c8,rfl,?_,S8.o,G8.o⟩
    have b7:((s.map (bJ id))++[((1,id,k1,⟨#[]⟩,⟨#[]⟩):Ch)]).length=s.length+1:=by rw[ZQ,Zq];rfl
    have hc:=jp (w:=w8) (v:=.slice a8 (s.length+1) c8) (l:=(s.map (bJ id))++[((1,id,k1,⟨#[]⟩,⟨#[]⟩):Ch)]) (by rw[b7];omega) (by rw[b7,gP];exact dU b1.o);rw[<-bc.o] at hc;exact hc
 .rw[Z0 k1];have k0:K=0:=hk.resolve_right k1;have t2:(K==1)=ZW:=ZG.2 k1;have t4:(K==0)=ZZ:=Yy.2 k0
  (unfold je;rw[ZX hk];have ab:=fun W (h:SHs w0 W p sv l fl cd cb) (ho:∀ b,sv.ownBlock=Z9 b->b<W.heap.size)=>oc p sv l fl cd cb id name w0 W hm hT h ho hl (by omega) (by omega) ba;have b5:=pg l fl cd cb id name;have b6:=o8 l fl cd cb id name;generalize cU l fl cd cb id name=ga at ab b5 b6 |-;obtain⟨⟨s,c3⟩,ce⟩:=ga;dsimp only at b5 b6 |-;have av:=lh ab;clear ab)
  by_cases h3:c3=0
  rotate_left;rw[ZX h3];have t1:(c3 != 0)=ZZ:=by rw[YN];exact h3
  clear h3 hk k1 k0;rotate_right
  rw[Z0 (fun h=>h h3)];subst h3;clear hk k1 k0;rotate_left
  iterate 1
   focus
    go_enter Tryz.func124,Tryz.ntmps124
    go_wp2_with first|go_at_call 82;(refine (U.o _ S.o).mono ?_);rintro _ z ⟨⟨al,gr,rfl,Y,E,L,N⟩,O,C⟩;clear U;obtain⟨V,z2,zS,O1,O2,nb,zw,I0,J0,I,J,R,H,G,S⟩:=g9 S.o G.o Y E L N O C;clear Y E L N O C|go_at_call 209;(refine (av.o _ S.o (fun b T=>ZY (a3 b T) G.o.size)).mono ?_);rintro _ w5 ⟨A,bs,rfl,hJ,O,C⟩;have zb:=H.lt;obtain⟨va,vc,rfl⟩:=bX hJ.own;rw[Zq] at hJ;have b0:=lh hJ;have R:=dP R (by rw[ah];decide) C nb;have H:=f9 H C nb;have I:=lh (fP I.o C O1);have J:=lh (fQ J.o C O2);have G:=lh (aJ G.o C);have S:=lh O;clear hJ O C
    go_ret2
    exact⟨_,rfl,bu _,S.o,G.o⟩
  go_enter Tryz.func124,Tryz.ntmps124
  go_wp2_with (first|(go_at_call 82;(refine (U.o _ S.o).mono ?_);rintro _ z ⟨⟨al,gr,rfl,Y,E,L,N⟩,O,C⟩;clear U;obtain⟨V,z2,zS,O1,O2,nb,zw,I0,J0,I,J,R,H,G,S⟩:=g9 S.o G.o Y E L N O C;clear Y E L N O C)|(go_at_call 209;(refine (av.o _ S.o (fun b T=>ZY (a3 b T) G.o.size)).mono ?_);rintro _ w5 ⟨A,bs,rfl,hJ,O,C⟩;have zb:=H.lt;obtain⟨va,vc,rfl⟩:=bX hJ.own;rw[Zq] at hJ;have b0:=lh hJ;have R:=dP R (by rw[ah];decide) C nb;have H:=f9 H C nb;have I:=lh (fP I.o C O1);have J:=lh (fQ J.o C O2);have G:=lh (aJ G.o C);have S:=lh O;clear hJ O C))
  go_loopw [14,63] (fun v i wr=>∃ (k:Nat),k<=s.length/\i=.int .i64 k/\wr.ownsRow w5.heap.size 67 5 v k (cv ((s.take k).map (bJ id)))/\ZV w5.heap.size w5 wr) (fun _ i _=>s.length - (Y4 i).toNat)
  case atStart=>exact⟨0,Y7 _,rfl,WJ _ _ _ _,ZM _ _⟩
  case round =>
   obtain⟨k,hk,rfl,D,hB⟩:=hrel;obtain⟨ra,rc,rfl⟩:=bX D;have HO:=lh D;have HB:=lh hB;have zg:=hB.size;clear D hB;by_cases a5:k<s.length
   .obtain⟨cg,ch,GG,b8,aa,Z,-⟩:=(b0.o.below HB.o).es (by rw[Zq];omega);rw[Zq] at b8 aa Z;injection b8 with v1 v2 v3
    subst v1 v3;clear v2;obtain⟨b,o,rfl,T,a1,c1,a2,a4,X,-,-,-⟩:=aa.2 k a5
    have b2:GG k=cY s[k]:=by
     have e1:(lst GG s.length)[k]?=(s.map cY)[k]?:=by rw[Z]
     unfold lst at e1;rw[Yv,Xd a5,Yv,ZN a5] at e1;exact ZR e1
    rw[b2] at X;have ao:s.take (k+1)=s.take k++[s[k]]:=ZB a5;generalize s[k]=q at X ao;have af:mid wr b (o+k*33)=q.1.vals (.slice a1 q.2.1.length c1) (.slice a2 q.2.2.length a4):=X;have ag:=ay q.1 (.slice a1 q.2.1.length c1) (.slice a2 q.2.2.length a4) rfl rfl;have c6:(mid wr b (o+k*33)).size=33:=by rw[af];exact ah _ _ _
    have j1:(0:Int)<=(k:Int):=by omega
    have j2:(k:Int)<(s.length:Int):=by omega
    have a0:((s.take (k+1)).map (bJ id))=((s.take k).map (bJ id))++[(1,id,aC q.1.kind q.1.name,⟨#[]⟩,⟨#[]⟩)]:=by rw[ao,XL];rfl
    have ad:=fun W=>ar.o W q (.slice a1 q.2.1.length c1) (.slice a2 q.2.2.length a4) ag
    generalize aC q.1.kind q.1.name=k3 at a0 ad;have bb:=lh ad;have bd:=lh a0;clear ad a0 ao X b2 aa Z
    go_wp2_with first|go_at_call 210;(refine (bb.o _).mono ?_);rintro _ w9 ⟨rfl,T⟩;have B9:=bt (aj wr (.cells (q.1.vals (.slice a1 q.2.1.length c1) (.slice a2 q.2.2.length a4)) 29)) T;have O9:=lh (aV HO.o (fun x hx=>B9.block x (ax HO.o x hx).2));have G9:=lh (XY HB.o (B9.mono zg));have z9:=B9.size;clear T B9|at_builtin;have a9:=aj w9 (.cells #[.int .i64 1,.int .i64 id,.string k3,.string ⟨#[]⟩,.string ⟨#[]⟩] 67);have OQ:=aV O9.o (fun x hx=>a9.block x (ax O9.o x hx).2);refine dQ _ rfl (.tmp 67) (.tmp 71) 53 67 _ _ 5 64 rfl WN gA fZ ge gi rfl (by decide) w5.heap.size (.slice ra k rc) (.slice (Z9 ⟨w9.heap.size,0,Z8⟩) 1 1) k 1 _ (cv [(1,id,k3,⟨#[]⟩,⟨#[]⟩)]) rfl OQ rfl (iE w9 (1,id,k3,⟨#[]⟩,⟨#[]⟩) _ _ rfl) (fC _) (by unfold X9;omega) (by omega) (by simp;omega) ?_;intro aX cX wX D b3 _;have OX:=lh D;have GX:=lh ((XY G9.o (a9.mono (by omega))).trans (fy b3 (fun q hq=>(ax OQ q hq).1) (by simp;omega)));clear D b3 OQ a9
    go_roundw
    case rel=>exact⟨k+1,by omega,by go_num,by rw[bd.o,gP];exact OX.o,GX.o⟩
    case measure=>simp [Y4];omega
   .obtain rfl:k=s.length:=by omega
    rw[ZC (ZS _)] at HO;have RE:=am HB.o R (by rw[ah];decide);have SE:=lh (S.o.below HB.o);have GE:=lh (cm G.o HB.o);have ac:=fun W al gr h=>ar.o W y al gr h
    generalize a7:aC y.1.kind y.1.name=k1 at ac;have HE:=lh ac;have bc:=lh a7;have Jg:=G.o.size;clear ac a7
    go_wp2_with first|go_at_call 210;(refine (HE.o _ _ _ V).mono ?_);rintro _ w6 ⟨rfl,T⟩;have SE:=lh (SE.o.below T);have GE:=lh (cm GE.o T);have O6:=lh (aV HO.o (fun x hx=>T.block x (ax HO.o x hx).2));have z6:=T.size;clear T|at_builtin;have BQ:=aj w6 (.cells #[.int .i64 1,.int .i64 id,.string k1,.string ⟨#[]⟩,.string ⟨#[]⟩] 67);have OQ:=aV O6.o (fun x hx=>BQ.block x (ax O6.o x hx).2);refine dQ _ rfl (.tmp 74) (.tmp 78) 53 67 _ _ 5 64 rfl WN gA fZ ge gi rfl (by decide) w5.heap.size (.slice ra s.length rc) (.slice (Z9 ⟨w6.heap.size,0,Z8⟩) 1 1) s.length 1 (cv (s.map (bJ id))) (cv [(1,id,k1,⟨#[]⟩,⟨#[]⟩)]) rfl OQ rfl (iE w6 (1,id,k1,⟨#[]⟩,⟨#[]⟩) _ _ rfl) (fC _) (by unfold X9;omega) (by omega) (by simp;omega) ?_;intro a8 c8 w8 D a6 _;have B8:ZV w.heap.size (w6.alloc (.cells #[.int .i64 1,.int .i64 id,.string k1,.string ⟨#[]⟩,.string ⟨#[]⟩] 67)) w8:=fy a6 (fun q hq=>ZD Jg (ax OQ q hq).1) (by simp;omega);have S8:=lh ((SE.o.below BQ).belowB B8 bk (fun _ b T=>a3 b T));have G8:=lh (bx (cm GE.o BQ) B8);have b1:=lh D;clear D a6 B8 BQ OQ
    go_ret2
    refine⟨.slice a8 (s.length+1) c8,rfl,?_,S8.o,G8.o⟩
    have b7:((s.map (bJ id))++[((1,id,k1,⟨#[]⟩,⟨#[]⟩):Ch)]).length=s.length+1:=by rw[ZQ,Zq];rfl
    have hc:=jp (w:=w8) (v:=.slice a8 (s.length+1) c8) (l:=(s.map (bJ id))++[((1,id,k1,⟨#[]⟩,⟨#[]⟩):Ch)]) (by rw[b7];omega) (by rw[b7,gP];exact dU b1.o);rw[<-bc.o] at hc;exact hc
end
section
set_option linter.unusedSimpArgs false
def eF(l:Z5 Rw)(fl cd C:Int)(name:Z7)(D:Int->Int->(Z5 Ch × Int) × Int):(Z5 Ch × Int) × Int :=
 if (dJ l fl cd C name).1.2≠0 then (([],(dJ l fl cd C name).1.2),(dJ l fl cd C name).2) else D (dJ l fl cd C name).1.1 (dJ l fl cd C name).2
def iJ(l:Z5 Rw)(fl cd C K:Int)(name:Z7)(D:Int->Int->(Z5 Ch × Int) × Int):(Z5 Ch × Int) × Int :=
 if K=4 then D 1 C else eF l fl cd C name D
def jS(l:Z5 Rw)(fl cd C:Int)(x:Fu):(Z5 Ch × Int) × Int :=
 if aA x=ZZ/\x.1.kind≠3 then iJ l fl cd C x.1.kind x.1.name (fun id c=>io l fl cd c id x) else (([],1),C)
def jT(l:Z5 Rw)(fl cd C K:Int)(name:Z7):(Z5 Ch × Int) × Int :=
 if K<0\/4<K\/K=3 then (([],1),C) else iJ l fl cd C K name (fun id c=>ip l fl cd c id K name)
def kB(l:Z5 Rw)(fl cd o:Int)(name T:Z7):(Z5 Ch × Int) × Int :=
 if Zj (Z4 name)=ZW\/Zj (Z4 T)=ZW then (([],1),o)
 else eF l fl cd o name (fun id c=>eF l fl cd c T (fun I C=>if id≠I then (([],9),C) else gz l fl cd C id name T))
theorem m7(T:g=121\/g=65\/g=123\/g=125\/g=126\/g=86)(V:ZE Z3)(p:Nat)(sv:Z3)(l:Z5 Rw)(fl cd C:Int)(name:Z7)(D:Int->Int->(Z5 Ch × Int) × Int)(w0 w:Z2)(hm:MaxL w0)(hT:Tab w0)(X:SHs w0 w p sv l fl cd C)(O:0<=C)(a0:C<=70000)(R:cd≠0/\cd≠6\/fl<=0)(N:∀ id c W,SHs w0 W p sv l fl cd c->w.grownBy W (Z9 p)->C<=c->c<=C+2->ZJ Z6 g (#[.int .i64 id]++V) W fun r w'=>dj w0 W w' p sv l fl cd (D id c) r) :
 ZJ Z6 85 #[.iface 56 (.pointer (Z9 ⟨p,0,Z8⟩)),.string name,.func (.func g) #[] V] w fun r w'=>dj w0 w w' p sv l fl cd (eF l fl cd C name D) r:=by
 have E:=oJ p sv l fl cd C name w0 w hm hT X O (by omega) R;have x:=sD l fl cd C name;unfold eF;generalize dJ l fl cd C name=gg at E x |-;obtain⟨⟨id,f⟩,c⟩:=gg;dsimp only at E x |-;have I:=lh E;clear E X;by_cases J:f=0
 rotate_left
 .rw[ZX J];have t1:(f != 0)=ZZ:=YN.2 J;clear J N;go_enter Tryz.func85,Tryz.ntmps85
  go_wp2_with (go_at_call 34;(refine I.o.mono ?_);rintro _ z ⟨rfl,o,H⟩;have S:=lh o;have G:=lh H;clear o H)
  go_ret2
  exact⟨_,rfl,bu _,S.o,G.o⟩
 rw[Z0 (fun h=>h J)];subst J;have U:=lh (fun W o T=>N id c W o T x.1 x.2);generalize D id c=d at U |-;clear N;rcases T with rfl|rfl|rfl|rfl|rfl|rfl
 all_goals
  go_enter Tryz.func85,Tryz.ntmps85
  go_wp2_with first|go_at_call 34;(refine I.o.mono ?_);rintro _ z ⟨rfl,o,H⟩;have S:=lh o;have G:=lh H;clear o H|(first|go_at_call 121|go_at_call 65|go_at_call 123|go_at_call 125|go_at_call 126|go_at_call 86);(refine (U.o _ S.o G.o).mono ?_);rintro _ w3 ⟨ov,rfl,K,o,L⟩;have S3:=lh o;have Z:=lh L;have Y:=lh K;clear o L K
  go_ret2
  exact⟨_,rfl,Y.o,S3.o,aJ G.o Z.o⟩
theorem xl(V:g=121\/g=65\/g=123)(O:ZE Z3)(p:Nat)(sv:Z3)(l:Z5 Rw)(fl cd C K:Int)(name:Z7)(D:Int->Int->(Z5 Ch × Int) × Int)(w0 w:Z2)(Z:MaxL w0)(Y:Tab w0)(S:SHs w0 w p sv l fl cd C)(R:0<=C)(T:C<=70000)(U:cd≠0/\cd≠6\/fl<=0)(G:∀ id c W,SHs w0 W p sv l fl cd c->w.grownBy W (Z9 p)->C<=c->c<=C+2->ZJ Z6 g (#[.int .i64 id]++O) W fun r w'=>dj w0 W w' p sv l fl cd (D id c) r) :
 ZJ Z6 64 #[.iface 56 (.pointer (Z9 ⟨p,0,Z8⟩)),.int .i64 K,.string name,.func (.func g) #[] O] w fun r w'=>dj w0 w w' p sv l fl cd (iJ l fl cd C K name D) r:=by
 unfold iJ;by_cases x:K=4
 .rw[ZX x];have X:=lh (G 1 C w S (Xp _ _) (Int.le_refl _) (by omega));generalize D 1 C=d at X |-;have t1:(K==4)=ZZ:=Yy.2 x;clear G S x;rcases V with rfl|rfl|rfl
  all_goals
   go_enter Tryz.func64,Tryz.ntmps64
   go_wp2_with ((first|go_at_call 121|go_at_call 65|go_at_call 123);(refine X.o.mono ?_);rintro _ w3 ⟨ov,rfl,H,E,o⟩;have L:=lh E;have J:=lh o;have I:=lh H;clear E o H)
   go_ret2
   exact⟨_,rfl,I.o,L.o,J.o⟩
 .rw[Z0 x];have N:=lh (m7 g (by rcases V with h|h|h;exact .inl h;exact .inr (.inl h);exact .inr (.inr (.inl h))) O p sv l fl cd C name D w0 w Z Y S R T U G);generalize eF l fl cd C name D=d at N |-;have t1:(K==4)=ZW:=ZG.2 x;clear G S x V;go_enter Tryz.func64,Tryz.ntmps64
  go_wp2_with (go_at_call 85;(refine N.o.mono ?_);rintro _ w3 ⟨ov,rfl,H,E,o⟩;have L:=lh E;have J:=lh o;have I:=lh H;clear E o H)
  go_ret2
  exact⟨_,rfl,I.o,L.o,J.o⟩
end
section
set_option linter.unusedSimpArgs false
attribute [local go_sem ↓] aZ bf bq cl eX
attribute [local go_sem] bn aS aH bE bH aK aT ak aI aw az aM ah aQ aL aP aO aR aY aW bD ap aq
structure MdB (w0 W:Z2) (h p:Nat) (x:Fu) (al gr:Z3):Prop where
 r:W.cell? ⟨h,0,Z8⟩=Z9 (.iface 56 (.pointer (Z9 ⟨p,0,Z8⟩)))
 e:row W (h+1)=x.1.vals al gr
 z:h+2<=W.heap.size
 I:IS W al x.2.1
 G:GS W gr x.2.2
theorem MdB.grown{x:Fu}{al gr:Z3}(H:MdB w0 W h p x al gr)(D:p<h)(o:W.grownBy W' (Z9 p))(O:0<x.2.1.length->∀ q,al.ownBlock=Z9 q->q≠p)(C:0<x.2.2.length->∀ q,gr.ownBlock=Z9 q->q≠p):MdB w0 W' h p x al gr:=by
 have z:=H.z;exact⟨(Z1 (a:=⟨h,0,Z8⟩) (o.block h (by omega) (fun e=>by have:=ZR e;omega))).trans H.r,dP H.e (by rw[ah];decide) o (by omega),ZD z o.size,kZ H.I o O,kY H.G o C⟩
theorem L3(p h:Nat)(sv:Z3)(l:Z5 Rw)(fl cd C id:Int)(x:Fu)(al gr:Z3)(w0 w:Z2)(hm:MaxL w0)(Z:Tab w0)(S:SHs w0 w p sv l fl cd C)(J:0<=C)(K:C<=80000)(L:cd≠0/\cd≠6\/fl<=0)(N:x.1.name.size<=1000)(H:MdB w0 w h p x al gr)(T:0<x.2.1.length->∀ q,al.ownBlock=Z9 q->q≠p)(U:0<x.2.2.length->∀ q,gr.ownBlock=Z9 q->q≠p) :
 ZJ Z6 121 #[.int .i64 id,.pointer (Z9 ⟨h,0,Z8⟩),.pointer (Z9 ⟨h+1,0,Z8⟩)] w fun r w'=>dj w0 w w' p sv l fl cd (io l fl cd C id x) r:=by
 have E:=Mx p sv l fl cd C id x al gr w0 w hm Z S J K L N H.I H.G T U;generalize io l fl cd C id x=g at E |-;have V:=lh E;have c0:=H.r;have c1:=H.e;clear E S H T U;go_enter Tryz.func121,Tryz.ntmps121
 go_wp2_with (go_at_call 122;(refine V.o.mono ?_);rintro _ w5 ⟨ov,rfl,o,R,O⟩;have D:=lh o;have Y:=lh R;have X:=lh O;clear R O o)
 go_ret2
 exact⟨_,rfl,D.o,Y.o,X.o⟩
theorem Mh(w:Z2)(p:Nat)(x:Fu)(al gr:Z3)(w0:Z2)(I:IS w al x.2.1)(H:GS w gr x.2.2):MdB w0 ((w.alloc (.cells #[.iface 56 (.pointer (Z9 ⟨p,0,Z8⟩))] 115)).alloc (.cells (x.1.vals al gr) 29)) w.heap.size p x al gr:=by
 have b:ZV w.heap.size w ((w.alloc (.cells #[.iface 56 (.pointer (Z9 ⟨p,0,Z8⟩))] 115)).alloc (.cells (x.1.vals al gr) 29)):=by exact aB
 refine⟨by simp [go_sem],?_,by simp,I.below b,H.below b⟩
 have h:=ak (w.alloc (.cells #[.iface 56 (.pointer (Z9 ⟨p,0,Z8⟩))] 115)) (x.1.vals al gr) 29 (0,0);rw[Yi] at h;exact h
theorem MdB.below{x:Fu}{al gr:Z3}(H:MdB w0 W h p x al gr)(o:ZV W.heap.size W W'):MdB w0 W' h p x al gr:=by
 have z:=H.z;exact⟨(Z1 (a:=⟨h,0,Z8⟩) (o.block h (by omega))).trans H.r,am o H.e (by rw[ah];decide),ZD z o.size,H.I.below o,H.G.below o⟩
theorem BA(p:Nat)(sv:Z3)(l:Z5 Rw)(fl cd G:Int)(x:Fu)(al gr:Z3)(w0 w:Z2)(hm:MaxL w0)(hT:Tab w0)(hS:SHs w0 w p sv l fl cd G)(a0:0<=G)(a2:G<=70000)(N:cd≠0/\cd≠6\/fl<=0)(T:x.1.name.size<=1000)(V:IS w al x.2.1)(C:GS w gr x.2.2)(o1:0<x.2.1.length->∀ q,al.ownBlock=Z9 q->q≠p)(o2:0<x.2.2.length->∀ q,gr.ownBlock=Z9 q->q≠p) :
 ZJ Z6 55 #[.iface 56 (.pointer (Z9 ⟨p,0,Z8⟩)),.agg (x.1.vals al gr)] w fun r w'=>dj w0 w w' p sv l fl cd (jS l fl cd G x) r:=by
 have a1:=ay x.1 al gr (aD V) (aE C);have a3:=hS.pl;have Z:=lh hS;have HV:=fun W (b0:ZV w0.heap.size w0 W) (b:ZV w.heap.size w W)=>lN x.1 al gr x.2.1 x.2.2 W (hm.below b0) (hT.below b0) T (V.below b) (C.below b)
 have o:=Mh w p x al gr w0 V C;have D:=lh (show ZV w.heap.size w ((w.alloc (.cells #[.iface 56 (.pointer (Z9 ⟨p,0,Z8⟩))] 115)).alloc (.cells (x.1.vals al gr) 29)) by exact aB);have Y:=lh o;have c0:=o.r;have K:=o.e;have n0:=ae K 0 _ (ap _ _ _);have n1:=ae K 1 _ (aq _ _ _);have HH:=lh (fun W (X:SHs w0 W p sv l fl cd G) (L:MdB w0 W w.heap.size p x al gr)=>xl 121 (.inl rfl) #[.pointer (Z9 ⟨w.heap.size,0,Z8⟩),.pointer (Z9 ⟨w.heap.size+1,0,Z8⟩)] p sv l fl cd G x.1.kind x.1.name (fun id c=>io l fl cd c id x) w0 W hm hT X a0 a2 N (fun id c W2 h2 g2 q1 q2=>L3 p w.heap.size sv l fl cd c id x al gr w0 W2 hm hT h2 (by omega) (by omega) N T (L.grown a3 g2 o1 o2) o1 o2));unfold jS;have H:∀ W,ZV w0.heap.size w0 W->ZV w.heap.size w W->ZJ Z6 63 #[.agg (x.1.vals al gr)] W fun r w'=>r=.returned (.bool (aA x))/\ZV W.heap.size W w':=HV
 clear HV hS V C o1 o2 o;cases S:aA x
 rw[Z0 (by rintro ⟨h,-⟩;cases h)];rw[S] at H;have J:=lh H;clear H;rotate_left;rw[S] at H;have J:=lh H;clear H;by_cases I:x.1.kind=3
 rw[Z0 (by rintro ⟨-,h⟩;exact h I)];have t1:(x.1.kind==3)=ZZ:=Yy.2 I;clear I;rotate_left;rw[ZX ⟨rfl,I⟩];have t1:(x.1.kind==3)=ZW:=ZG.2 I;generalize iJ l fl cd G x.1.kind x.1.name (fun id c=>io l fl cd c id x)=g at HH |-;clear I
 all_goals
  go_enter Tryz.func55,Tryz.ntmps55
  go_wp2_with first|go_at_call 63;(refine (J.o _ (Z.o.below D.o).b D.o).mono ?_);rintro _ z ⟨rfl,L⟩;have E:=lh (Y.o.below L);have c0:=E.o.r;have K:=E.o.e;have n0:=ae K 0 _ (ap _ _ _);have n1:=ae K 1 _ (aq _ _ _);have U:=lh (bt D.o L);clear L|go_at_call 64;(refine (HH.o _ (Z.o.below U.o) E.o).mono ?_);rintro _ w3 ⟨ov,rfl,O,X,R⟩;have S3:=lh X;have G3:=lh R;have C3:=lh O;clear X R O
  go_ret2
  first|exact⟨_,rfl,C3.o,S3.o,aJ (bo _ U.o) G3.o⟩|exact⟨_,rfl,bu _,Z.o.below U.o,bo _ U.o⟩
structure MrB (W:Z2) (h p:Nat) (u v:Z3):Prop where
 r:W.cell? ⟨h,0,Z8⟩=Z9 (.iface 56 (.pointer (Z9 ⟨p,0,Z8⟩)))
 u:W.cell? ⟨h+1,0,Z8⟩=Z9 u
 v:W.cell? ⟨h+2,0,Z8⟩=Z9 v
 z:h+3<=W.heap.size
theorem MrB.grown(H:MrB W h p u v)(C:p<h)(o:W.grownBy W' (Z9 p)):MrB W' h p u v:=by
 have z:=H.z;have e:=fun k (x:k<W.heap.size) (D:p<k)=>o.block k x (fun e=>by have:=ZR e;omega)
 exact⟨(Z1 (a:=⟨h,0,Z8⟩) (e h (by omega) C)).trans H.r,(Z1 (a:=⟨h+1,0,Z8⟩) (e (h+1) (by omega) (by omega))).trans H.u,(Z1 (a:=⟨h+2,0,Z8⟩) (e (h+2) (by omega) (by omega))).trans H.v,ZD z o.size⟩
theorem MrB.below(H:MrB W h p u v)(o:ZV W.heap.size W W'):MrB W' h p u v:=by
 have z:=H.z;exact⟨(Z1 (a:=⟨h,0,Z8⟩) (o.block h (by omega))).trans H.r,(Z1 (a:=⟨h+1,0,Z8⟩) (o.block (h+1) (by omega))).trans H.u,(Z1 (a:=⟨h+2,0,Z8⟩) (o.block (h+2) (by omega))).trans H.v,ZD z o.size⟩
theorem L5(p h:Nat)(sv:Z3)(l:Z5 Rw)(fl cd C id K:Int)(name:Z7)(w0 w:Z2)(Z:MaxL w0)(X:Tab w0)(S:SHs w0 w p sv l fl cd C)(D:∀ b,sv.ownBlock=Z9 b->b<w.heap.size)(Y:l.length<=1000)(o:∀ x∈l,x.2.1.size<=1000)(J:0<=C)(L:C<=80000)(N:cd≠0/\cd≠6\/fl<=0)(E:MrB w h p (.int .i64 K) (.string name)) :
 ZJ Z6 123 #[.int .i64 id,.pointer (Z9 ⟨h,0,Z8⟩),.pointer (Z9 ⟨h+1,0,Z8⟩),.pointer (Z9 ⟨h+2,0,Z8⟩)] w fun r w'=>dj w0 w w' p sv l fl cd (ip l fl cd C id K name) r:=by
 have I:=Bw p sv l fl cd C id K name w0 w Z X S D Y o J L N;generalize ip l fl cd C id K name=g at I |-;have T:=lh I;have c0:=E.r;have c1:=E.u;have c2:=E.v;clear I S E D o;go_enter Tryz.func123,Tryz.ntmps123
 go_wp2_with (go_at_call 124;(refine T.o.mono ?_);rintro _ w5 ⟨ov,rfl,H,R,O⟩;have G:=lh H;have V:=lh R;have U:=lh O;clear R O H)
 go_ret2
 exact⟨_,rfl,G.o,V.o,U.o⟩
theorem BB(p:Nat)(sv:Z3)(l:Z5 Rw)(fl cd D K:Int)(name:Z7)(w0 w:Z2)(hm:MaxL w0)(hT:Tab w0)(V:SHs w0 w p sv l fl cd D)(S:∀ b,sv.ownBlock=Z9 b->b<w.heap.size)(hl:l.length<=1000)(R:∀ x∈l,x.2.1.size<=1000)(X:0<=D)(Y:D<=70000)(L:cd≠0/\cd≠6\/fl<=0) :
 ZJ Z6 56 #[.iface 56 (.pointer (Z9 ⟨p,0,Z8⟩)),.int .i64 K,.string name] w fun r w'=>dj w0 w w' p sv l fl cd (jT l fl cd D K name) r:=by
 have Z:=V.pl;have HS:=lh V;have J:ZV w.heap.size w (((w.alloc (.cells #[.iface 56 (.pointer (Z9 ⟨p,0,Z8⟩))] 115)).alloc (.cells #[.int .i64 K] 3)).alloc (.cells #[.string name] 9)):=by exact aB
 have I:MrB (((w.alloc (.cells #[.iface 56 (.pointer (Z9 ⟨p,0,Z8⟩))] 115)).alloc (.cells #[.int .i64 K] 3)).alloc (.cells #[.string name] 9)) w.heap.size p (.int .i64 K) (.string name):=⟨by simp [go_sem],by simp [go_sem],by simp [go_sem],by simp⟩;have H:=lh J;have U:=lh I;have G:=lh (fun W (T:SHs w0 W p sv l fl cd D) (hz:w.heap.size<=W.heap.size) (hb:MrB W w.heap.size p (.int .i64 K) (.string name))=>xl 123 (.inr (.inr rfl)) #[.pointer (Z9 ⟨w.heap.size,0,Z8⟩),.pointer (Z9 ⟨w.heap.size+1,0,Z8⟩),.pointer (Z9 ⟨w.heap.size+2,0,Z8⟩)] p sv l fl cd D K name (fun id c=>ip l fl cd c id K name) w0 W hm hT T X Y L (fun id c W2 o g2 q1 q2=>L5 p w.heap.size sv l fl cd c id K name w0 W2 hm hT o (fun b e=>by have:=S b e;have:=g2.size;omega) hl R (by omega) (by omega) L (hb.grown Z g2)));unfold jT;clear V S R I J;by_cases C:K<0
 rw[ZX (.inl C)];have t1:decide (K<0)=ZZ:=ZL C;clear C G;rotate_left;have t1:decide (K<0)=ZW:=ZF C;by_cases o:4<K
 rw[ZX (.inr (.inl o))];have t2:decide (4<K)=ZZ:=ZL o;clear C o G;rotate_left;have t2:decide (4<K)=ZW:=ZF o;by_cases E:K=3
 rw[ZX (.inr (.inr E))];have t3:(K==3)=ZZ:=Yy.2 E;clear C o E G;rotate_left;have t3:(K==3)=ZW:=ZG.2 E;rw[Z0 (by rintro (h|h|h);exact C h;exact o h;exact E h)];generalize iJ l fl cd D K name (fun id c=>ip l fl cd c id K name)=g at G |-;clear C o E
 all_goals
  go_enter Tryz.func56,Tryz.ntmps56
  go_wp2_with (go_at_call 64;(refine (G.o _ (HS.o.below H.o) H.o.size U.o).mono ?_);rintro _ w3 ⟨ov,rfl,N,T,O⟩;have S3:=lh T;have G3:=lh O;have C3:=lh N;clear T O N)
  go_ret2
  first|exact⟨_,rfl,C3.o,S3.o,aJ (bo _ H.o) G3.o⟩|exact⟨_,rfl,bu _,HS.o.below H.o,bo _ H.o⟩
theorem DF(p U h:Nat)(sv:Z3)(l:Z5 Rw)(fl cd C id I:Int)(name T:Z7)(w0 w:Z2)(hm:MaxL w0)(hT:Tab w0)(S:SHs w0 w p sv l fl cd C)(x:∀ b,sv.ownBlock=Z9 b->b<w.heap.size)(hl:l.length<=1000)(K:0<=C)(L:C<=80000)(N:cd≠0/\cd≠6\/fl<=0)(O:name.size<=1000)(R:T.size<=1000)(D:MrB w h p (.string name) (.string T))(hi:w.cell? ⟨U,0,Z8⟩=Z9 (.int .i64 id)) :
 ZJ Z6 126 #[.int .i64 I,.pointer (Z9 ⟨U,0,Z8⟩),.pointer (Z9 ⟨h,0,Z8⟩),.pointer (Z9 ⟨h+1,0,Z8⟩),.pointer (Z9 ⟨h+2,0,Z8⟩)] w fun r w'=>dj w0 w w' p sv l fl cd (if id≠I then (([],9),C) else gz l fl cd C id name T) r:=by
 have J:=By p sv l fl cd C id name T w0 w hm hT S x hl K L N O R;generalize gz l fl cd C id name T=g at J |-;have Y:=lh J;have HS:=lh S;have c0:=D.r;have c1:=D.u;have c2:=D.v;clear J S D x;by_cases H:id≠I
 .rw[ZX H];have t1:(id != I)=ZZ:=YN.2 H;clear H;go_enter Tryz.func126,Tryz.ntmps126
  go_wp2_with fail
  go_ret2
  exact⟨_,rfl,bu _,HS.o,Xp _ _⟩
 .rw[Z0 H];have t1:(id != I)=ZW:=by simpa using H
  clear H;go_enter Tryz.func126,Tryz.ntmps126
  go_wp2_with (go_at_call 127;(refine Y.o.mono ?_);rintro _ w5 ⟨ov,rfl,o,X,V⟩;have E:=lh o;have G:=lh X;have Z:=lh V;clear X V o)
  go_ret2
  exact⟨_,rfl,E.o,G.o,Z.o⟩
theorem Mg(p h:Nat)(sv:Z3)(l:Z5 Rw)(fl cd D id:Int)(name T:Z7)(w0 w:Z2)(hm:MaxL w0)(hT:Tab w0)(S:SHs w0 w p sv l fl cd D)(J:∀ b,sv.ownBlock=Z9 b->b<w.heap.size)(hl:l.length<=1000)(U:0<=D)(V:D<=70000)(E:cd≠0/\cd≠6\/fl<=0)(X:name.size<=1000)(Y:T.size<=1000)(hp:p<h)(Z:MrB w h p (.string name) (.string T)) :
 ZJ Z6 125 #[.int .i64 id,.pointer (Z9 ⟨h,0,Z8⟩),.pointer (Z9 ⟨h+2,0,Z8⟩),.pointer (Z9 ⟨h+1,0,Z8⟩)] w fun r w'=>dj w0 w w' p sv l fl cd (eF l fl cd D T (fun I C=>if id≠I then (([],9),C) else gz l fl cd C id name T)) r:=by
 have o:=aj w (.cells #[.int .i64 id] 3);have H:=Z.below o;have x:=S.below o;have a0:=x.pl;have a1:=S.pl;have hi:(w.alloc (.cells #[.int .i64 id] 3)).cell? ⟨w.heap.size,0,Z8⟩=Z9 (.int .i64 id):=by simp [go_sem]
 have K:=lh o;have R:=m7 126 (.inr (.inr (.inr (.inr (.inl rfl))))) #[.pointer (Z9 ⟨w.heap.size,0,Z8⟩),.pointer (Z9 ⟨h,0,Z8⟩),.pointer (Z9 ⟨h+1,0,Z8⟩),.pointer (Z9 ⟨h+2,0,Z8⟩)] p sv l fl cd D T (fun I C=>if id≠I then (([],9),C) else gz l fl cd C id name T) w0 _ hm hT x U V E (fun I C W2 h2 O q1 q2=>DF p w.heap.size h sv l fl cd C id I name T w0 W2 hm hT h2 (fun b e=>by have:=J b e;have:=O.size;simp at this;omega) hl (by omega) (by omega) E X Y (H.grown hp O) ((Z1 (a:=⟨w.heap.size,0,Z8⟩) (O.block w.heap.size (by simp) (fun e=>by have:=ZR e;omega))).trans hi));generalize eF l fl cd D T (fun I C=>if id≠I then (([],9),C) else gz l fl cd C id name T)=g at R |-;have HC:=lh R;have c0:=H.r;have c1:=H.u;have C:=H.v;clear R S Z J H x o;go_enter Tryz.func125,Tryz.ntmps125
 go_wp2_with (go_at_call 85;(refine HC.o.mono ?_);rintro _ w5 ⟨ov,rfl,G,hs,hg⟩;have L:=lh G;have N:=lh hs;have HG:=lh hg;clear hs hg G)
 go_ret2
 exact⟨_,rfl,L.o,N.o,aJ (bo _ K.o) HG.o⟩
theorem BE(p:Nat)(sv:Z3)(l:Z5 Rw)(fl cd E:Int)(name T:Z7)(w0 w:Z2)(hm:MaxL w0)(hT:Tab w0)(hS:SHs w0 w p sv l fl cd E)(a0:∀ b,sv.ownBlock=Z9 b->b<w.heap.size)(hl:l.length<=1000)(a2:0<=E)(a5:E<=60000)(V:cd≠0/\cd≠6\/fl<=0)(a3:name.size<=1000)(a4:T.size<=1000) :
 ZJ Z6 57 #[.iface 56 (.pointer (Z9 ⟨p,0,Z8⟩)),.string name,.string T] w fun r w'=>dj w0 w w' p sv l fl cd (kB l fl cd E name T) r:=by
 have Z:=hS.pl;have S:=lh hS;have U:ZV w.heap.size w (((w.alloc (.cells #[.iface 56 (.pointer (Z9 ⟨p,0,Z8⟩))] 115)).alloc (.cells #[.string name] 9)).alloc (.cells #[.string T] 9)):=by exact aB
 have R:MrB (((w.alloc (.cells #[.iface 56 (.pointer (Z9 ⟨p,0,Z8⟩))] 115)).alloc (.cells #[.string name] 9)).alloc (.cells #[.string T] 9)) w.heap.size p (.string name) (.string T):=⟨by simp [go_sem],by simp [go_sem],by simp [go_sem],by simp⟩;have L:=lh U;have a1:=lh R;have HH:=lh (fun W (hs:SHs w0 W p sv l fl cd E) (hz:w.heap.size<=W.heap.size) (C:MrB W w.heap.size p (.string name) (.string T))=>m7 125 (.inr (.inr (.inr (.inl rfl)))) #[.pointer (Z9 ⟨w.heap.size,0,Z8⟩),.pointer (Z9 ⟨w.heap.size+2,0,Z8⟩),.pointer (Z9 ⟨w.heap.size+1,0,Z8⟩)] p sv l fl cd E name (fun id c=>eF l fl cd c T (fun I G=>if id≠I then (([],9),G) else gz l fl cd G id name T)) w0 W hm hT hs a2 (by omega) V (fun id c W2 J g2 q1 q2=>Mg p w.heap.size sv l fl cd c id name T w0 W2 hm hT J (fun b e=>by have:=a0 b e;have:=g2.size;omega) hl (by omega) (by omega) V a3 a4 Z (C.grown Z g2)));have o:=fun W (b:ZV w0.heap.size w0 W)=>ez name W (hm.below b)
 have H:=fun W (b:ZV w0.heap.size w0 W)=>ez T W (hm.below b)
 unfold kB;clear hS a0 R U;cases h1:Zj (Z4 name)
 rw[ZX (.inl rfl)];rw[h1] at o;have D:=lh o;clear o H HH h1;rotate_left;rw[h1] at o;have D:=lh o;clear o h1;cases J:Zj (Z4 T)
 rw[ZX (.inr rfl)];rw[J] at H;have O:=lh H;clear H HH J;rotate_left;rw[J] at H;have O:=lh H;clear H J;rw[Z0 (by rintro (h|h) <;> cases h)];generalize eF l fl cd E name (fun id c=>eF l fl cd c T (fun I G=>if id≠I then (([],9),G) else gz l fl cd G id name T))=g at HH |-
 all_goals
  go_enter Tryz.func57,Tryz.ntmps57
  go_wp2_with first|go_at_call 32;(with_reducible refine (D.o _ (S.o.below L.o).b).mono ?_);rintro _ z ⟨rfl,C⟩;clear D;have N:=lh (a1.o.below C);have G:=N.o.v;have B2:=lh (bt L.o C);clear C|go_at_call 32;(with_reducible refine (O.o _ (S.o.below B2.o).b).mono ?_);rintro _ w3 ⟨rfl,C⟩;have x:=lh (N.o.below C);have r3:=x.o.r;have u3:=x.o.u;have v3:=x.o.v;have K:=lh (bt B2.o C);clear C|go_at_call 85;(refine (HH.o _ (S.o.below K.o) K.o.size x.o).mono ?_);rintro _ w4 ⟨ov,rfl,X,hs,Y⟩;have S4:=lh hs;have G4:=lh Y;have C4:=lh X;clear hs Y X
  go_ret2
  first|exact⟨_,rfl,C4.o,S4.o,aJ (bo _ K.o) G4.o⟩|exact⟨_,rfl,bu _,S.o.below K.o,bo _ K.o⟩|exact⟨_,rfl,bu _,S.o.below B2.o,bo _ B2.o⟩
end
section
set_option linter.unusedSimpArgs false
def dy(s:Z7):Zi:=Zj (Z4 s)&&decide ((Lib.countByte s.data.toList 46:Int)<2)
theorem tg(w:Z2)(D:MaxL w):ZJ Z6 84 #[.string s] w fun r w'=>r=.returned (.bool (dy s))/\ZV w.heap.size w w':=by
 have A:=ez s w D;have o:=fun W=>Tryz.strings_Count_one s 46 W
 unfold dy;generalize (Lib.countByte s.data.toList 46:Int)=n at o |-;cases x:Zj (Z4 s)
 .rw[x] at A;have V:=lh A;clear A o;go_enter Tryz.func84,Tryz.ntmps84
  go_wp2_with (go_at_call 32;(refine V.o.mono ?_);rintro _ z ⟨rfl,H⟩;have B:=lh H;clear H)
  go_ret
  exact⟨rfl,B.o⟩
 .rw[x] at A;have V:=lh A;have C:=lh o;clear A o;rw[Bool.true_and];go_enter Tryz.func84,Tryz.ntmps84
  go_wp2_with first|go_at_call 32;(refine V.o.mono ?_);rintro _ z ⟨rfl,H⟩;have B:=lh H;clear H|(go_at_call 170;(refine (C.o _).mono ?_);rintro _ _ ⟨rfl,rfl⟩)
  all_goals
   go_ret
   exact⟨by simp_all,B.o⟩
def dm(p:Z7)(n:Z7):Zi:=Zj (Z4 n)&&(decide (n=p) || Lib.hasPrefix n.data.toList (p.data.toList++[46]))
def fO(p:Z7)(s:Zi)(k _r:Z7):Except Int Zi:=.ok (s || dm p (aN k))
def ji:Except Int (Zi × Int) × Int->(Zi × Int) × Int
 | (.ok (s,f),d)=>((s,f),d)
 | (.error e,d)=>((ZW,e),d)
def dZ(l:Z5 Rw)(fl cd id:Int)(p:Z7)(L:ZP)(c:Int):(Zi × Int) × Int:=ji (bS l id fl cd L (fO p) (l.length+1) c [L - 1,255] ZW)
def iL(l:Z5 Rw)(fl cd id:Int)(p:Z7):Z5 ZP->Int->Int × Int
 | [],c=>(0,c)
 | L::o,c=>if (dZ l fl cd id p L c).1.2≠0 then ((dZ l fl cd id p L c).1.2,(dZ l fl cd id p L c).2) else if (dZ l fl cd id p L c).1.1=ZZ then (9,(dZ l fl cd id p L c).2) else iL l fl cd id p o (dZ l fl cd id p L c).2
def ep(l:Z5 Rw)(fl cd C id:Int)(p:Z7):Int × Int:=iL l fl cd id p [68,71,65] C
theorem eM{o:Nat}{s:Zy Nat}(h:w.cell? ⟨b,o,s⟩=Z9 v):b<w.heap.size:=block_lt_of_cell h
theorem Ms(bp bt:Nat)(p:Z7)(s:Zi)(k r:Z7)(w:Z2)(hm:MaxL w)(a0:1<=k.size)(a1:k.size<=1000)(hp:p.size<=1000)(D:w.cell? ⟨bp,0,Z8⟩=Z9 (.string p))(C:w.cell? ⟨bt,0,Z8⟩=Z9 (.bool s))(O:w.frozen? ⟨bt,0,Z8⟩=ZW) :
 ZJ Z6 185 #[.string k,.string r,.pointer (Z9 ⟨bp,0,Z8⟩),.pointer (Z9 ⟨bt,0,Z8⟩)] w fun e w'=>e=.returned (.int .i64 0)/\∃ m,ZV w.heap.size w m/\(w'=m/\dm p (aN k)=ZW\/w'=m.setCell ⟨bt,0,Z8⟩ (.bool ZZ)/\dm p (aN k)=ZZ):=by
 have H:Z4 (k.extract 1 k.size)=(Z4 k).drop 1:=by
  unfold Z4;rw[ByteArray.data_extract,WQ];simp [List.extract]
  exact ZC (by rw[List.length_tail,Y2];exact ZS _)
 have x:=oo (k.extract 1 k.size) w (by rw[<-ZO,H,X8,ZO];omega);rw[H] at x
 have S:(aN k).size<=1000:=by
  rw[<-ZO];unfold aN;rw[V4];unfold Ek.trim;rw[YH,X8,ZO];omega
 have J:Z4 (aN k)=Ek.trim ((Z4 k).drop 1):=V4 _;have R:ZJ Z6 75 #[.string (k.extract 1 k.size),.string ⟨#[32]⟩] w fun e w'=>e=.returned (.string (aN k))/\w'=w:=x.mono (by rintro _ w' ⟨t,rfl,ht,rfl⟩;exact⟨YX (fun t=>Ending.returned (Zh t)) (Ds.bl_inj (ht.trans J.symm)),rfl⟩)
 clear x H J;have A:=ez (aN k) w hm;have X:(p++⟨#[46]⟩:Z7).data.toList=p.data.toList++[46]:=by simp
 have o:=fun W=>Tryz.strings_HasPrefix (aN k) (p++⟨#[46]⟩) W
 rw[X] at o;unfold dm;generalize aN k=N at R A o S |-;have g1:(0:Int)<=1/\(1:Int)<=(k.size:Int):=by omega
 have g2:(1:Int)<=(k.size:Int):=by omega
 have T:=lh R;clear R;cases Z:Zj (Z4 N)
 .rw[Z] at A;have V:=lh A;clear A o;go_enter Tryz.func185,Tryz.ntmps185
  go_wp2_with first|(go_at_call 75;(refine T.o.mono ?_);rintro _ _ ⟨rfl,rfl⟩)|go_at_call 32;(refine V.o.mono ?_);rintro _ z ⟨rfl,H⟩;have B:=lh H;clear H
  go_ret
  exact⟨rfl,_,B.o,.inl ⟨rfl,rfl⟩⟩
 rw[Z] at A;have V:=lh A;clear A;have K:=fd N p;by_cases L:N=p
 .rw[ZL L] at K |-;clear L o;go_enter Tryz.func185,Tryz.ntmps185
  go_wp2_with first|(go_at_call 75;(refine T.o.mono ?_);rintro _ _ ⟨rfl,rfl⟩)|go_at_call 32;(refine V.o.mono ?_);rintro _ z ⟨rfl,H⟩;have E:=(H.cell (p:=⟨bp,0,Z8⟩) (eM D)).trans D;have G:=(H.cell (p:=⟨bt,0,Z8⟩) (eM C)).trans C;have I:=(H.frozen (p:=⟨bt,0,Z8⟩) (eM C)).trans O;have B:=lh H;clear H
  go_ret
  exact⟨rfl,_,B.o,.inr ⟨rfl,rfl⟩⟩
 rw[ZF L] at K |-;clear L;generalize Lib.hasPrefix N.data.toList (p.data.toList++[46])=U at o |-;have Y:=lh o;clear o;cases U
 .go_enter Tryz.func185,Tryz.ntmps185
  go_wp2_with first|(go_at_call 75;(refine T.o.mono ?_);rintro _ _ ⟨rfl,rfl⟩)|(go_at_call 186;(refine (Y.o _).mono ?_);rintro _ _ ⟨rfl,rfl⟩)|go_at_call 32;(refine V.o.mono ?_);rintro _ z ⟨rfl,H⟩;have E:=(H.cell (p:=⟨bp,0,Z8⟩) (eM D)).trans D;have G:=(H.cell (p:=⟨bt,0,Z8⟩) (eM C)).trans C;have I:=(H.frozen (p:=⟨bt,0,Z8⟩) (eM C)).trans O;have B:=lh H;clear H
  go_ret
  exact⟨rfl,_,B.o,.inl ⟨rfl,rfl⟩⟩
 .go_enter Tryz.func185,Tryz.ntmps185
  go_wp2_with first|(go_at_call 75;(refine T.o.mono ?_);rintro _ _ ⟨rfl,rfl⟩)|(go_at_call 186;(refine (Y.o _).mono ?_);rintro _ _ ⟨rfl,rfl⟩)|go_at_call 32;(refine V.o.mono ?_);rintro _ z ⟨rfl,H⟩;have E:=(H.cell (p:=⟨bp,0,Z8⟩) (eM D)).trans D;have G:=(H.cell (p:=⟨bt,0,Z8⟩) (eM C)).trans C;have I:=(H.frozen (p:=⟨bt,0,Z8⟩) (eM C)).trans O;have B:=lh H;clear H
  go_ret
  exact⟨rfl,_,B.o,.inr ⟨rfl,rfl⟩⟩
end
section
set_option linter.unusedSimpArgs false
structure UnJ (w0 wq W:Z2) (p bp bt:Nat) (pre:Z7) (sv:Z3) (l:Z5 Rw) (fl cd c:Int) (s:Zi):Prop where
 sh:SHs w0 W p sv l fl cd c
 g:wq.grownBy W (Z9 p)
 cp:W.cell? ⟨bp,0,Z8⟩=Z9 (.string pre)
 ct:W.cell? ⟨bt,0,Z8⟩=Z9 (.bool s)
 ft:W.frozen? ⟨bt,0,Z8⟩=ZW
 pb:bp≠p
 lt:p<wq.heap.size
 zb:wq.heap.size<=bt
 ne:bp≠bt
 z0:w0.heap.size<=wq.heap.size
 so:∀ b,sv.ownBlock=Z9 b->b<wq.heap.size
theorem UnJ.tick{o:Z7}{s:Zi}(h:UnJ w0 wq W p bp bt o sv l fl cd c s)(H:W.grownBy W' (Z9 p))(D:SHs w0 W' p sv l fl cd d):UnJ w0 wq W' p bp bt o sv l fl cd d s:=by
 have e:∀ k,k≠p->k<W.heap.size->W'.heap[k]?=W.heap[k]?:=fun k x C=>H.block k C (fun e=>x (ZR e))
 have q:=h.lt;have Z:=h.zb;exact⟨D,aJ h.g H,(Z1 (a:=⟨bp,0,Z8⟩) (e bp h.pb (eM h.cp))).trans h.cp,(Z1 (a:=⟨bt,0,Z8⟩) (e bt (by omega) (eM h.ct))).trans h.ct,(Zr (a:=⟨bt,0,Z8⟩) (e bt (by omega) (eM h.ct))).trans h.ft,h.pb,h.lt,h.zb,h.ne,h.z0,h.so⟩
theorem UnJ.below{o:Z7}{s:Zi}(h:UnJ w0 wq W p bp bt o sv l fl cd c s)(H:ZV W.heap.size W W'):UnJ w0 wq W' p bp bt o sv l fl cd c s :=
 ⟨h.sh.below H,bx h.g (H.mono h.g.size),(H.cell (p:=⟨bp,0,Z8⟩) (eM h.cp)).trans h.cp,(H.cell (p:=⟨bt,0,Z8⟩) (eM h.ct)).trans h.ct,(H.frozen (p:=⟨bt,0,Z8⟩) (eM h.ct)).trans h.ft,h.pb,h.lt,h.zb,h.ne,h.z0,h.so⟩
theorem UnJ.set{o:Z7}{s:Zi}(h:UnJ w0 wq W p bp bt o sv l fl cd c s):UnJ w0 wq (W.setCell ⟨bt,0,Z8⟩ (.bool ZZ)) p bp bt o sv l fl cd c ZZ:=by
 have H:=de W ⟨bt,0,Z8⟩ (.bool ZZ);have L:=h.lt;have C:=h.zb;have Z:=h.z0;have N:=h.ne;refine⟨h.sh.other H (by show p≠bt;omega) (by show _<=bt;omega) (fun b x=>by have:=h.so b x;show b≠bt;omega),bx h.g (gJ H (by show _<=bt;omega) h.g.size),?_,Zl _ _ _ (by rw[h.ct];rfl),by rw[World.frozen?_setCell];exact h.ft,h.pb,h.lt,h.zb,h.ne,h.z0,h.so⟩
 rw[Zt _ _ _ _ (by intro e;exact N (YX Addr.block e).symm)];exact h.cp
theorem K1(p bp bt:Nat)(o:Z7)(sv:Z3)(l:Z5 Rw)(fl cd O id:Int)(L:ZP)(w0 wq w:Z2)(hm:MaxL w0)(hw:IntKind.u8.wrap ((L.toNat:Int) - 1)=((L - 1).toNat:Int))(h0:UnJ w0 wq w p bp bt o sv l fl cd O ZW)(hl:l.length<=1000)(ac:∀ x∈l,x.2.1.size<=1000)(ad:o.size<=1000)(a9:0<=O)(af:O<=90000)(ab:cd≠0/\cd≠6\/fl<=0) :
 ZJ Z6 184 #[.iface 56 (.pointer (Z9 ⟨p,0,Z8⟩)),.int .i64 id,.int .u8 (L.toNat:Nat),.func (.func 185) #[] #[.pointer (Z9 ⟨bp,0,Z8⟩),.pointer (Z9 ⟨bt,0,Z8⟩)]] w fun r w' =>
  r=.returned (.int .i64 (dZ l fl cd id o L O).1.2)/\UnJ w0 wq w' p bp bt o sv l fl cd (dZ l fl cd id o L O).2 (dZ l fl cd id o L O).1.1:=by
 have a4:cnt id [L - 1,255] l<l.length+1:=Nat.lt_succ_of_le (cnt_le _ _ _);unfold dZ;generalize hR:bS l id fl cd L (fO o) (l.length+1) O [L - 1,255] ZW=R;obtain⟨G,hG⟩:∃ G,ji R=G:=⟨_,rfl⟩;rw[hG];have HG:=lh hG;have HR:=lh hR;have a7:=lh a4;have H0:=lh h0;have ao:=tG (L - 1) 255;clear hR a4 h0 hG;go_enter Tryz.func184,Tryz.ntmps184
 go_wp2_with fail
 have B0:ZV w.heap.size w (w.alloc (.cells #[.int .u8 ((L - 1).toNat:Nat),.int .u8 255] 5)):=(ZM _ _).alloc (ZS _) _;go_loopw [9] (fun kv wr=>∃ (f:Nat) (c:Int) (k:Z7) (s:Zi),kv=.string k/\Hid (bS l id fl cd L (fO o) f c (Z4 k) s=R)/\Hid (cnt id (Z4 k) l<f)/\0<=c/\c+f<=O+l.length+1/\Hid (UnJ w0 wq wr p bp bt o sv l fl cd c s)) (fun kv _=>cnt id (Z4 (zy kv)) l)
 case atStart=>exact⟨l.length+1,O,_,ZW,rfl,HR,a7,a9,by omega,lh (H0.o.below B0)⟩
 case round =>
  obtain⟨f,c,k,s,rfl,HP,HC,aa,ag,HJ⟩:=hrel;obtain⟨g,rfl⟩:∃ g,f=g+1:=⟨f - 1,by have:=HC.o;omega⟩;have H:=vO p sv l fl cd c id k w0 wr HJ.o.sh aa (by omega);have ar:=tc ⟨p,0,Z8⟩;have E:=HP.o;unfold bS at E;by_cases hf:c+1=fl
  .rw[ZX hf] at E;have I:cd≠0/\cd≠6:=by rcases ab with h|h;exact h;omega
   unfold iM at H;rw[ZX hf] at H;have V:=lh H;have C:=lh E;have t1:(cd==6)=ZW:=by rw[ZG];exact I.2
   have t2:(cd==0)=ZW:=by rw[ZG];exact I.1
   have t3:(cd != 0)=ZZ:=by rw[YN];exact I.1
   clear H E I hf;go_wp2_with (go_at_call 371;(refine V.o.mono ?_);rintro _ z ⟨rfl,S,K⟩;have J:=lh (HJ.o.tick K S);clear S K)
   go_ret
   rw[<-HG.o,<-C.o];exact⟨rfl,J.o⟩
  rw[Z0 hf] at E;unfold iM at H;rw[Z0 hf] at H;clear hf
  cases hx:nx id (Z4 k) l with
  | none =>
    rw[hx] at E H;have V:=lh H;have C:=lh E;clear H E hx;go_wp2_with (go_at_call 371;(refine V.o.mono ?_);rintro _ z ⟨rfl,S,K⟩;have J:=lh (HJ.o.tick K S);clear S K)
    go_ret
    rw[<-HG.o,<-C.o];exact⟨rfl,J.o⟩
  | some x =>
    rw[hx] at E H;obtain⟨U,-,T⟩:=jP hx;have Z:=rI hx;obtain⟨xi,X,xr⟩:=x;have a6:=ac _ U;clear U;simp only at E H T Z a6
    have N:1<=X.size:=by
     rcases YC X.size with h|h
     .have:Z4 X=[]:=Y3 (by rw[ZO];exact h);rw[this,lF] at T;cases T
     .exact h
    have V:=lh H;have a0:=lh Z;have a1:Hid (cnt id (Z4 X) l<g):=lh (by have:=HC.o;omega);have a8:X[0]'N=(Z4 X).headD 0:=oX X N;have g0:(0:Int)<=0/\(0:Int)<(X.size:Int):=by omega
    clear H hx T Z;generalize (Z4 X).headD 0=q at E a8;by_cases D:L<q
    .rw[ZX D] at E;have C:=lh E;have q1:((L.toNat:Nat):Int)<((q.toNat:Nat):Int):=Int.ofNat_lt.2 (Zg.1 D);have q2:decide (((L.toNat:Nat):Int)<((q.toNat:Nat):Int))=ZZ:=ZL q1;have q3:L.toNat<q.toNat:=Zg.1 D;have q4:decide (L.toNat<q.toNat)=ZZ:=ZL q3;clear E D;go_wp2_with (go_at_call 371;(refine V.o.mono ?_);rintro _ z ⟨rfl,S,K⟩;have J:=lh (HJ.o.tick K S);clear S K)
     go_ret
     rw[<-HG.o,<-C.o];exact⟨rfl,J.o⟩
    rw[Z0 D] at E;by_cases h8:q<L
    .rw[ZX h8] at E;have C:=lh E;have q1:¬ ((L.toNat:Nat):Int)<((q.toNat:Nat):Int):=fun h=>D (Zg.2 (Int.ofNat_lt.1 h))
     have q2:decide (((L.toNat:Nat):Int)<((q.toNat:Nat):Int))=ZW:=ZF q1;have q3:¬ L.toNat<q.toNat:=fun h=>D (Zg.2 h)
     have q4:decide (L.toNat<q.toNat)=ZW:=ZF q3;have q5:¬ q.toNat=L.toNat:=by have:=Zg.1 h8;omega
     have q6:(((q.toNat:Nat):Int)==((L.toNat:Nat):Int))=ZW:=by rw[ZG];omega
     have q7:(q.toNat==L.toNat)=ZW:=by rw[ZG];omega
     clear E D h8;go_wp2_with (go_at_call 371;(refine V.o.mono ?_);rintro _ z ⟨rfl,S,K⟩;have J:=lh (HJ.o.tick K S);clear S K)
     go_roundw
     case rel=>exact⟨g,c+1,X,s,rfl,C,a1,by omega,by omega,J⟩
     case measure=>exact a0.o
    rw[Z0 h8] at E
    obtain rfl:q=L:=by
     refine XT.1 ?_
     have h1:¬ L.toNat<q.toNat:=fun h=>D (Zg.2 h)
     have h2:¬ q.toNat<L.toNat:=fun h=>h8 (Zg.2 h)
     omega
    have q2:decide (((q.toNat:Nat):Int)<((q.toNat:Nat):Int))=ZW:=ZF (by omega);have q4:decide (q.toNat<q.toNat)=ZW:=ZF (by omega);clear D h8;have a3:bS l id fl cd q (fO o) g (c+1) (Z4 X) (s || dm o (aN X))=R:=E;have C:=lh a3;clear E a3;have a2:=lh (fun W (hb:ZV w0.heap.size w0 W) cp ct ft=>Ms bp bt o s X xr W (hm.below hb) N a6 ad cp ct ft);generalize dm o (aN X)=un at C a2
    go_wp2_with first|go_at_call 371;(refine V.o.mono ?_);rintro _ z ⟨rfl,S,K⟩;have J:=lh (HJ.o.tick K S);clear S K|go_at_call 185;(refine (a2.o _ J.o.sh.b J.o.cp J.o.ct J.o.ft).mono ?_);rintro _ w3 ⟨rfl,w4,Y,a5⟩;have J3:=lh (show UnJ w0 wq w3 p bp bt o sv l fl cd (c+1) (s || un) from by rcases a5 with ⟨rfl,rfl⟩ | ⟨rfl,rfl⟩;(rw[Bool.or_false];exact J.o.below Y);(rw[Bool.or_true];exact (J.o.below Y).set));clear Y a5
    go_roundw
    case rel=>exact⟨g,c+1,X,s || un,rfl,C,a1,by omega,by omega,J3⟩
    case measure=>exact a0.o
end
section
set_option linter.unusedSimpArgs false
theorem Mj{step:σ->Z7->Z7->Except ρ σ}{id:Int}{L:ZP} :
 ∀ (f:Nat) (c:Int) (k:Z5 ZP) (s:σ),c<=(bS l id fl cd L step f c k s).2/\(bS l id fl cd L step f c k s).2<=c+f:=fun f c k s=>ja f c k s
theorem Mt(l:Z5 Rw)(fl cd id:Int)(p:Z7)(L:ZP)(c:Int):c<=(dZ l fl cd id p L c).2/\(dZ l fl cd id p L c).2<=c+l.length+1:=by
 have h:=Mj (step:=fO p) (l:=l) (id:=id) (fl:=fl) (cd:=cd) (L:=L) (l.length+1) c [L - 1,255] ZW;unfold dZ
 cases H:bS l id fl cd L (fO p) (l.length+1) c [L - 1,255] ZW with
 | mk a c =>
   rw[H] at h
   cases a with
   | error e=>unfold ji;dsimp only at h |-;omega
   | ok p=>obtain⟨s,e⟩:=p;unfold ji;dsimp only at h |-;omega
def sy(i:Nat):Z5 ZP:=[68,71,65].drop i
theorem FG(i:Nat)(h:i<3):∃ L:ZP,sy i=L::sy (i+1)/\IntKind.u8.wrap ((L.toNat:Int) - 1)=((L - 1).toNat:Int)/\#[ZH .u8 68,.int .u8 71,.int .u8 65][i]?=Z9 (.int .u8 (L.toNat:Nat)):=by
 have:i=0\/i=1\/i=2:=by omega
 rcases this with rfl|rfl|rfl
 .exact⟨68,rfl,by decide,rfl⟩
 .exact⟨71,rfl,by decide,rfl⟩
 .exact⟨65,rfl,by decide,rfl⟩
structure UuJ (w0 w W:Z2) (p h:Nat) (pre:Z7) (sv:Z3) (l:Z5 Rw) (fl cd c:Int):Prop where
 sh:SHs w0 W p sv l fl cd c
 g:w.grownBy W (Z9 p)
 cp:W.cell? ⟨h,0,Z8⟩=Z9 (.string pre)
 kL:W.heap[h+1]?=Z9 (.cells #[.int .u8 68,.int .u8 71,.int .u8 65] 5 (3,4))
 z:h+2<=W.heap.size
theorem Mu(k:W.heap[h+1]?=Z9 (.cells #[.int .u8 68,.int .u8 71,.int .u8 65] 5 (3,4)))(e:#[ZH .u8 68,.int .u8 71,.int .u8 65][i]?=Z9 v):W.cell? ⟨h+1,i,Z8⟩=Z9 v:=by
 unfold World.cell?;rw[k];exact e
theorem UuJ.next{o:Z7}{s:Zi}(H:UuJ w0 w W p h o sv l fl cd c)(x:p<h)(J:UnJ w0 W W' p h bt o sv l fl cd d s):UuJ w0 w W' p h o sv l fl cd d:=by
 have z:=H.z;exact⟨J.sh,aJ H.g J.g,J.cp,(J.g.block (h+1) (by omega) (fun e=>by have:=ZR e;omega)).trans H.kL,by have:=J.g.size;omega⟩
theorem UuJ.start{o:Z7}(H:UuJ w0 w W p h o sv l fl cd c)(D:p<h)(E:w0.heap.size<=h)(x:∀ b,sv.ownBlock=Z9 b->b<h):UnJ w0 W (W.alloc (.cells #[.bool ZW] 4)) p h W.heap.size o sv l fl cd c ZW:=by
 have b:=aj W (.cells #[.bool ZW] 4);have z:=H.z;exact⟨H.sh.below b,bo _ b,(Z1 (a:=⟨h,0,Z8⟩) (b.block h (by omega))).trans H.cp,by simp [go_sem],by simp [go_sem],by omega,by omega,ZS _,by omega,by omega,fun q C=>by have:=x q C;omega⟩
theorem s9(p:Nat)(o:Z7)(sv:Z3)(l:Z5 Rw)(fl cd D id:Int)(w0 w:Z2)(hm:MaxL w0)(V:SHs w0 w p sv l fl cd D)(T:∀ b,sv.ownBlock=Z9 b->b<w.heap.size)(hl:l.length<=1000)(a7:∀ x∈l,x.2.1.size<=1000)(a8:o.size<=1000)(a1:0<=D)(a9:D<=80000)(a3:cd≠0/\cd≠6\/fl<=0) :
 ZJ Z6 87 #[.iface 56 (.pointer (Z9 ⟨p,0,Z8⟩)),.int .i64 id,.string o] w fun r w' =>
  r=.returned (.int .i64 (ep l fl cd D id o).1)/\SHs w0 w' p sv l fl cd (ep l fl cd D id o).2/\w.grownBy w' (Z9 p):=by
 have K:=V.pl;have U:=V.b.size;obtain⟨g,X⟩:∃ g,ep l fl cd D id o=g:=⟨_,rfl⟩;rw[X];unfold ep at X;have kc:=Go.Lib.run_convert_bytes_const (P:=Z6) (w.alloc (.cells #[.string o] 9)) 156 5 #[.int .u8 68,.int .u8 71,.int .u8 65] 3 3 Tryz.underlying156 VX;obtain⟨h,hh⟩:∃ h,w.heap.size=h:=⟨_,rfl⟩;simp only[Yi] at kc
 rw[hh] at kc K T U
 have N:UuJ w0 w ((w.alloc (.cells #[.string o] 9)).alloc (.cells #[.int .u8 68,.int .u8 71,.int .u8 65] 5 (3,4))) p h o sv l fl cd D:=by
  have b:ZV w.heap.size w ((w.alloc (.cells #[.string o] 9)).alloc (.cells #[.int .u8 68,.int .u8 71,.int .u8 65] 5 (3,4))):=by exact aB
  refine⟨V.below b,bo _ b,by rw[<-hh];simp [go_sem],?_,by simp;omega⟩
  have:=ZA (w.alloc (.cells #[.string o] 9)) (.cells #[.int .u8 68,.int .u8 71,.int .u8 65] 5 (3,4));rw[Yi,hh] at this;exact this
 have Y:=lh N;have HG:=lh X;clear N V X;go_enter Tryz.func87,Tryz.ntmps87
 go_wp2_with fail
 go_loopw [14] (fun kv wr=>∃ (i:Nat) (c:Int),kv=.int .i64 (i:Int)/\i<=3/\Hid (iL l fl cd id o (sy i) c=g)/\0<=c/\c<=D+i*(l.length+1)/\Hid (UuJ w0 w wr p h o sv l fl cd c)) (fun kv _=>(3 - Y4 kv).toNat)
 case atStart=>exact⟨0,D,rfl,by omega,HG,a1,by omega,Y⟩
 case round =>
  obtain⟨i,c,rfl,hi,HL,a2,aa,HJ⟩:=hrel;by_cases a5:i<3
  rotate_left
  .obtain rfl:i=3:=by omega
   have hL:=HL.o;have a0:((0:Int),c)=g:=hL;subst a0;go_wp2_with fail
   go_ret
   exact⟨rfl,HJ.o.sh,HJ.o.g⟩
  obtain⟨L,O,S,R⟩:=FG i a5;have kL:=Mu HJ.o.kL R;have hq:=Mt l fl cd id o L c
  have a4:c<=90000:=by
   have:(i:Int)*((l.length:Int)+1)<=3*1001:=Int.mul_le_mul (by omega) (by omega) (by omega) (by omega);omega
  have E:=K1 p h wr.heap.size o sv l fl cd c id L w0 wr _ hm S (HJ.o.start K U T) hl a7 a8 a2 a4 a3;have H:=HL.o;rw[O,iL] at H;have a6:((i+1:Nat):Int)*((l.length:Int)+1)=(i:Int)*((l.length:Int)+1)+(l.length+1):=by rw[Int.natCast_add,Int.add_mul];omega
  generalize dZ l fl cd id o L c=Q at E hq H;obtain⟨⟨s,f⟩,c2⟩:=Q;dsimp only at E hq H;have G:=lh E;have I:=lh H;clear E H S R O;by_cases Z:f=0
  rotate_left
  .have t1:(f != 0)=ZZ:=YN.2 Z;go_wp2_with (go_at_call 184;(refine G.o.mono ?_);rintro _ w3 ⟨rfl,C⟩;have J:=lh C;clear C)
   go_ret
   have e:=I.o;rw[ZX Z] at e;subst e;exact⟨rfl,J.o.sh,aJ HJ.o.g J.o.g⟩
  subst Z;cases s
  .go_wp2_with (go_at_call 184;(refine G.o.mono ?_);rintro _ w3 ⟨rfl,C⟩;have J:=lh C;have ct:=C.ct;clear C)
   go_roundw
   case rel=>exact⟨i+1,c2,rfl,by omega,lh (by have e:=I.o;rw[Z0 (fun h=>h rfl),Z0 (by decide)] at e;exact e),by omega,by rw[a6];omega,lh (HJ.o.next K J.o)⟩
   case measure=>simp [Y4];omega
  .go_wp2_with (go_at_call 184;(refine G.o.mono ?_);rintro _ w3 ⟨rfl,C⟩;have J:=lh C;have ct:=C.ct;clear C)
   go_ret
   have e:=I.o;rw[Z0 (fun h=>h rfl),ZX trivial] at e;subst e;exact⟨rfl,J.o.sh,aJ HJ.o.g J.o.g⟩
end
section
set_option linter.unusedSimpArgs false
attribute [local go_sem ↓] aZ bf bq cl eX
attribute [local go_sem] bn aS aH bE bH aK aT ak aI aw az aM ah aQ aL aP aO aR aY aW bD ap aq
def di(o:Z7)(id:Int):Fu:=({ En.zero with kind:=3,name:=o,cat:=id },[],[])
def fk(o:Z7)(id:Int):ZE Z3:=#[.int .i64 3,.string o,.int .i64 0,.int .i64 0,.int .i64 0,.int .i64 0,.int .i64 0,.int .i64 0,.int .i64 0,.int .i64 0,.int .i64 0,.int .i64 0,.int .i64 0,.int .i64 0,.int .i64 0,.int .i64 0,.bool ZW,.int .i64 0,.string ⟨#[]⟩,.string ⟨#[]⟩,.int .i64 0,.int .i64 0,.bool ZW,.slice Z8 0 0,.int .i64 0,.int .i64 0,.int .i64 0,.bool ZW,.string ⟨#[]⟩,.string ⟨#[]⟩,.int .i64 id,.int .i64 0,.slice Z8 0 0]
theorem uv(o:Z7)(id:Int):(di o id).1.vals (.slice Z8 0 0) (.slice Z8 0 0)=fk o id:=by unfold di fk En.vals En.zero;rfl
def con1F(l:Z5 Rw)(fl cd C O:Int)(o:Z7)(id:Int):(Z5 Ch × Int) × Int :=
 if (ep l fl cd C O o).1≠0 then (([],(ep l fl cd C O o).1),(ep l fl cd C O o).2)
 else if aA (di o id)=ZZ then (([bI 1 (di o id)],0),(ep l fl cd C O o).2) else (([],1),(ep l fl cd C O o).2)
def kE(l:Z5 Rw)(fl cd C:Int)(o:Z7)(id:Int):(Z5 Ch × Int) × Int :=
 if dy o=ZW\/id<2\/15<id then (([],1),C)
 else if (aG l fl cd C 1 3 o).1.2=0 then (([],5),(aG l fl cd C 1 3 o).2)
 else if (aG l fl cd C 1 3 o).1.2≠6 then (([],(aG l fl cd C 1 3 o).1.2),(aG l fl cd C 1 3 o).2)
 else eF l fl cd (aG l fl cd C 1 3 o).2 o (fun O c=>con1F l fl cd c O o id)
def kG(l:Z5 Rw)(fl cd C:Int)(o:Z7):(Z5 Ch × Int) × Int :=
 if dy o=ZW then (([],1),C)
 else if (aG l fl cd C 1 3 o).1.2≠0 then (([],(aG l fl cd C 1 3 o).1.2),(aG l fl cd C 1 3 o).2)
 else if (ep l fl cd (aG l fl cd C 1 3 o).2 (aG l fl cd C 1 3 o).1.1.1.cat o).1≠0 then (([],(ep l fl cd (aG l fl cd C 1 3 o).2 (aG l fl cd C 1 3 o).1.1.1.cat o).1),(ep l fl cd (aG l fl cd C 1 3 o).2 (aG l fl cd C 1 3 o).1.1.1.cat o).2)
 else (([bJ 1 (aG l fl cd C 1 3 o).1.1],0),(ep l fl cd (aG l fl cd C 1 3 o).2 (aG l fl cd C 1 3 o).1.1.1.cat o).2)
theorem K9(p h:Nat)(sv:Z3)(l:Z5 Rw)(fl cd R O id:Int)(o:Z7)(w0 w:Z2)(hm:MaxL w0)(hT:Tab w0)(hS:SHs w0 w p sv l fl cd R)(a9:∀ b,sv.ownBlock=Z9 b->b<w.heap.size)(hl:l.length<=1000)(a8:∀ x∈l,x.2.1.size<=1000)(a5:0<=R)(a6:R<=80000)(a7:cd≠0/\cd≠6\/fl<=0)(a2:o.size<=1000)(J:p<h)(Y:MrB w h p (.string o) (.int .i64 id)) :
 ZJ Z6 86 #[.int .i64 O,.pointer (Z9 ⟨h,0,Z8⟩),.pointer (Z9 ⟨h+1,0,Z8⟩),.pointer (Z9 ⟨h+2,0,Z8⟩)] w fun r w'=>dj w0 w w' p sv l fl cd (con1F l fl cd R O o id) r:=by
 have c0:=Y.r;have c1:=Y.u;have c2:=Y.v;have hu:=s9 p o sv l fl cd R O w0 w hm hS a9 hl a8 a2 a5 a6 a7;have aa:=hS.b.size;unfold con1F;generalize ep l fl cd R O o=U at hu |-;obtain⟨f,cu⟩:=U;dsimp only at hu |-;have HU:=lh hu;have X:=lh Y;clear hu hS Y;by_cases V:f=0
 rotate_left
 .rw[ZX V];have t1:(f != 0)=ZZ:=YN.2 V;clear V;go_enter Tryz.func86,Tryz.ntmps86
  go_wp2_with (go_at_call 87;(refine HU.o.mono ?_);rintro _ z ⟨rfl,L,H⟩;have S:=lh L;have G:=lh H;clear L H)
  go_ret2
  exact⟨_,rfl,bu _,S.o,G.o⟩
 rw[Z0 (fun h=>h V)];subst V;have C:=fun W (b:ZV w0.heap.size w0 W)=>yA (di o id) (.slice Z8 0 0) (.slice Z8 0 0) W (hm.below b) (hT.below b) a2 (IS.nil _) (GS.nil _)
 rw[uv] at C;have a3:∀ W:Z2,row (W.alloc (.cells (fk o id) 29)) W.heap.size=fk o id:=fun W=>ak W _ _ (0,0)
 have a0:(fk o id).size=33:=rfl;have v0:(fk o id)[0]?=Z9 (.int .i64 3):=rfl;have v1:(fk o id)[1]?=Z9 (.string o):=rfl;have T:=lh (fun (W W':Z2) (E:ZV (W.heap.size+1) (W.alloc (.cells (fk o id) 29)) W')=>am (by rw[Yi];exact E) (a3 W) (by rw[a0];decide));have K:bh (fk o id).toList=ZZ:=by unfold fk;simp [go_sem,aQ,aL,aP,aO,aR,aW]
 have HK:=lh (fun W=>jI 3 o W);clear a3;cases I:aA (di o id)
 .rw[Z0 (by decide)];simp only[I] at C
  generalize bC (di o id)=rz at C;unfold fk at C;have N:=lh C;clear C I T K v0 v1 a0;go_enter Tryz.func86,Tryz.ntmps86
  go_wp2_with first|go_at_call 87;(refine HU.o.mono ?_);rintro _ z ⟨rfl,L,H⟩;have c1:=(X.o.grown J H).u;have c2:=(X.o.grown J H).v;have S:=lh L;have G:=lh H;clear L H|go_at_call 76;(refine (N.o _ (S.o.below (aj _ _)).b).mono ?_);rintro _ w3 ⟨rfl,E⟩;have B3:=lh (bt (aj z _) E);clear E
  go_ret2
  exact⟨_,rfl,bu _,S.o.below B3.o,bx G.o (B3.o.mono G.o.size)⟩
 rw[ZX rfl];have D:=fun W=>iT W (bI 1 (di o id))
 unfold bI ch5 at D;have a1:aC (di o id).1.kind (di o id).1.name=aC 3 o:=rfl;rw[a1] at D;unfold bI;rw[a1];simp only[I] at C
 generalize bC (di o id)=rz at C D |-;generalize aC 3 o=kz at HK D |-;have a4:=lh D;unfold fk at C;have N:=lh C;clear C I D K;go_enter Tryz.func86,Tryz.ntmps86
 go_wp2_with first|go_at_call 87;(refine HU.o.mono ?_);rintro _ z ⟨rfl,L,H⟩;have c1:=(X.o.grown J H).u;have c2:=(X.o.grown J H).v;have S:=lh L;have G:=lh H;clear L H|go_at_call 76;(refine (N.o _ (S.o.below (aj _ _)).b).mono ?_);rintro _ w3 ⟨rfl,E⟩;have R3:=T.o z w3 (by rw[Yi] at E;exact E);have n0:=ae R3 0 _ v0;have n1:=ae R3 1 _ v1;have B3:=lh (bt (aj z _) E);clear E R3|go_at_call 88;(with_reducible refine (HK.o _).mono ?_);rintro _ w4 ⟨rfl,Z⟩;have B4:=lh (bt (bt B3.o Z) (aj w4 (.cells #[.int .i64 0,.int .i64 1,.string kz,.string rz,.string ⟨#[]⟩] 67)));clear Z
 go_ret2
 exact⟨_,rfl,a4.o _,S.o.below B4.o,bx G.o (B4.o.mono G.o.size)⟩
theorem sX(p:Nat)(sv:Z3)(l:Z5 Rw)(fl cd J id:Int)(o:Z7)(w0 w:Z2)(hm:MaxL w0)(hT:Tab w0)(hS:SHs w0 w p sv l fl cd J)(ac:∀ b,sv.ownBlock=Z9 b->b<w.heap.size)(hl:l.length<=1000)(aa:∀ x∈l,x.2.1.size<=1000)(a7:0<=J)(af:J<=60000)(R:cd≠0/\cd≠6\/fl<=0)(ab:o.size<=1000) :
 ZJ Z6 35 #[.iface 56 (.pointer (Z9 ⟨p,0,Z8⟩)),.string o,.int .i64 id] w fun r w'=>dj w0 w w' p sv l fl cd (kE l fl cd J o id) r:=by
 have T:=hS.pl;have a1:cd≠0\/fl<=0:=R.imp (fun h=>h.1) (fun h=>h);have HS:=lh hS;have a0:ZV w.heap.size w (((w.alloc (.cells #[.iface 56 (.pointer (Z9 ⟨p,0,Z8⟩))] 115)).alloc (.cells #[.string o] 9)).alloc (.cells #[.int .i64 id] 3)):=by exact aB
 have Y:MrB (((w.alloc (.cells #[.iface 56 (.pointer (Z9 ⟨p,0,Z8⟩))] 115)).alloc (.cells #[.string o] 9)).alloc (.cells #[.int .i64 id] 3)) w.heap.size p (.string o) (.int .i64 id):=⟨by simp [go_sem],by simp [go_sem],by simp [go_sem],by simp⟩;have V:=lh a0;have a4:=lh Y;have S:=fun W (b:ZV w0.heap.size w0 W)=>tg o W (hm.below b)
 have H:=fun W (h:SHs w0 W p sv l fl cd J)=>iy p sv l fl cd J 1 3 o w0 W hm hT h a7 (by omega) a1
 have D:=dS l fl cd J 1 3 o;unfold kE;generalize dy o=pf at S |-;have a6:=lh S;clear hS Y a0 S;cases pf
 rw[ZX (.inl rfl)];clear H D;rotate_left;by_cases N:id<2
 rw[ZX (.inr (.inl N))];have t1:decide (id<2)=ZZ:=ZL N;clear H D N;rotate_left;have t1:decide (id<2)=ZW:=ZF N;by_cases K:15<id
 rw[ZX (.inr (.inr K))];have t2:decide (15<id)=ZZ:=ZL K;clear H D N K;rotate_left;have t2:decide (15<id)=ZW:=ZF K;rw[Z0 (by rintro (h|h|h);cases h;exact N h;exact K h)];generalize aG l fl cd J 1 3 o=gg at H D |-;obtain⟨⟨y,f⟩,cb⟩:=gg;dsimp only at D |-;have a5:=lh H;clear H N K;by_cases X:f=0
 subst X;rw[ZX rfl];rotate_left;rw[Z0 X];have t3:(f==0)=ZW:=ZG.2 X;by_cases U:f≠6
 rw[ZX U];have t4:(f != 6)=ZZ:=YN.2 U;clear X U;rotate_left;rw[Z0 U];have t4:(f != 6)=ZW:=by simpa using U
 have HH:=lh (fun W (hs:SHs w0 W p sv l fl cd cb) (hz:w.heap.size<=W.heap.size) (hb:MrB W w.heap.size p (.string o) (.int .i64 id))=>m7 86 (.inr (.inr (.inr (.inr (.inr rfl))))) #[.pointer (Z9 ⟨w.heap.size,0,Z8⟩),.pointer (Z9 ⟨w.heap.size+1,0,Z8⟩),.pointer (Z9 ⟨w.heap.size+2,0,Z8⟩)] p sv l fl cd cb o (fun O c=>con1F l fl cd c O o id) w0 W hm hT hs (by omega) (by omega) R (fun O c W2 K g2 q1 q2=>K9 p w.heap.size sv l fl cd c O id o w0 W2 hm hT K (fun b e=>by have:=ac b e;have:=g2.size;omega) hl aa (by omega) (by omega) R ab T (hb.grown T g2)));generalize eF l fl cd cb o (fun O c=>con1F l fl cd c O o id)=g at HH |-;clear X U
 all_goals
  go_enter Tryz.func35,Tryz.ntmps35
  go_wp2_with first|go_at_call 84;(refine (a6.o _ (HS.o.below V.o).b).mono ?_);rintro _ z ⟨rfl,hb⟩;have E:=lh (a4.o.below hb);have r2:=E.o.r;have u2:=E.o.u;have v2:=E.o.v;have B2:=lh (bt V.o hb);clear hb|go_at_call 82;(refine (a5.o _ (HS.o.below B2.o)).mono ?_);rintro _ w3 ⟨⟨G,I,rfl,hI,Z,a8,a9⟩,a3,C⟩;have ad:=ay y.1 G I (aD hI) (aE Z);have L:=lh ((E.o.grown T C).below (aj w3 (.cells (y.1.vals G I) 29)));have r3:=L.o.r;have u3:=L.o.u;have S3:=lh (a3.below (aj w3 (.cells (y.1.vals G I) 29)));have G3:=lh (cm (aJ (bo _ B2.o) C) (aj w3 (.cells (y.1.vals G I) 29)));clear hI Z a8 a9 a3 C|go_at_call 85;(refine (HH.o _ S3.o G3.o.size L.o).mono ?_);rintro _ w4 ⟨ov,rfl,a2,hs,C⟩;have S4:=lh hs;have G4:=lh C;have C4:=lh a2;clear hs C a2
  go_ret2
  first|exact⟨_,rfl,C4.o,S4.o,aJ G3.o G4.o⟩|exact⟨_,rfl,bu _,S3.o,G3.o⟩|exact⟨_,rfl,bu _,HS.o.below B2.o,bo _ B2.o⟩
theorem sG(p:Nat)(sv:Z3)(l:Z5 Rw)(fl cd Z:Int)(C:Z7)(w0 w:Z2)(hm:MaxL w0)(hT:Tab w0)(hS:SHs w0 w p sv l fl cd Z)(ar:∀ b,sv.ownBlock=Z9 b->b<w.heap.size)(hl:l.length<=1000)(ag:∀ x∈l,x.2.1.size<=1000)(af:0<=Z)(b0:Z<=70000)(a8:cd≠0/\cd≠6\/fl<=0)(ao:C.size<=1000) :
 ZJ Z6 38 #[.iface 56 (.pointer (Z9 ⟨p,0,Z8⟩)),.string C] w fun r w'=>dj w0 w w' p sv l fl cd (kG l fl cd Z C) r:=by
 have b1:=hS.pl;have a9:cd≠0\/fl<=0:=a8.imp (fun h=>h.1) (fun h=>h);have Y:=lh hS;have a4:=fun W (b:ZV w0.heap.size w0 W)=>tg C W (hm.below b)
 have I:=fun W (h:SHs w0 W p sv l fl cd Z)=>iy p sv l fl cd Z 1 3 C w0 W hm hT h af (by omega) a9
 have a3:=dS l fl cd Z 1 3 C;unfold kG;generalize dy C=pf at a4 |-;have V:=lh a4;clear hS a4;cases pf
 .rw[ZX rfl];clear I a3;go_enter Tryz.func38,Tryz.ntmps38
  go_wp2_with (go_at_call 84;(refine (V.o _ Y.o.b).mono ?_);rintro _ z ⟨rfl,N⟩;have K:=lh N;clear N)
  go_ret2
  exact⟨_,rfl,bu _,Y.o.below K.o,bo _ K.o⟩
 rw[Z0 (by decide)];generalize aG l fl cd Z 1 3 C=gg at I a3 |-;obtain⟨⟨y,f⟩,cb⟩:=gg;dsimp only at a3 |-;have a2:=lh I;clear I;by_cases h0:f=0
 rotate_left
 .rw[ZX h0];have t3:(f != 0)=ZZ:=YN.2 h0;clear h0;go_enter Tryz.func38,Tryz.ntmps38
  go_wp2_with first|go_at_call 84;(refine (V.o _ Y.o.b).mono ?_);rintro _ z ⟨rfl,N⟩;have K:=lh N;clear N|go_at_call 82;(refine (a2.o _ (Y.o.below K.o)).mono ?_);rintro _ T ⟨⟨o,G,rfl,hI,D,R,S⟩,H,E⟩;have a0:=ay y.1 o G (aD hI) (aE D);have S3:=lh (H.below (aj T (.cells (y.1.vals o G) 29)));have G3:=lh (cm (aJ (bo _ K.o) E) (aj T (.cells (y.1.vals o G) 29)));clear hI D R S H E
  go_ret2
  exact⟨_,rfl,bu _,S3.o,G3.o⟩
 subst h0;rw[Z0 (fun h=>h rfl)];have X:=fun W (hs:SHs w0 W p sv l fl cd cb) (hz:w.heap.size<=W.heap.size)=>s9 p C sv l fl cd cb y.1.cat w0 W hm hs (fun b e=>by have:=ar b e;omega) hl ag ao (by omega) (by omega) a8
 have v0:=fun al gr=>ap y.1 al gr
 have v1:=fun al gr=>aq y.1 al gr
 have aa:=fun al gr=>dv y.1 al gr
 have a1:=fun al gr=>ah y.1 al gr
 have ac:=lh v0;have a6:=lh v1;have L:=lh aa;have ad:=lh a1;clear v0 v1 aa a1;generalize ep l fl cd cb y.1.cat C=U at X |-;obtain⟨uc,cu⟩:=U;dsimp only at X |-;have a5:=lh X;clear X;by_cases h1:uc=0
 rotate_left
 .rw[ZX h1];have t3:(uc != 0)=ZZ:=YN.2 h1;clear h1;go_enter Tryz.func38,Tryz.ntmps38
  go_wp2_with first|go_at_call 84;(refine (V.o _ Y.o.b).mono ?_);rintro _ z ⟨rfl,N⟩;have K:=lh N;clear N|go_at_call 82;(refine (a2.o _ (Y.o.below K.o)).mono ?_);rintro _ T ⟨⟨o,G,rfl,hI,D,R,S⟩,H,E⟩;have a0:=ay y.1 o G (aD hI) (aE D);have R3:=ak T (y.1.vals o G) 29 (0,0);have av:=ae R3 30 _ (L.o _ _);have S3:=lh (H.below (aj T (.cells (y.1.vals o G) 29)));have G3:=lh (cm (aJ (bo _ K.o) E) (aj T (.cells (y.1.vals o G) 29)));clear hI D R S H E|go_at_call 87;(refine (a5.o _ S3.o G3.o.size).mono ?_);rintro _ w4 ⟨rfl,hs,J⟩;have S4:=lh hs;have G4:=lh J;clear hs J
  go_ret2
  exact⟨_,rfl,bu _,S4.o,aJ G3.o G4.o⟩
 subst h1;rw[Z0 (fun h=>h rfl)];have O:=fun W=>iT W (bJ 1 y)
 unfold bJ ch5 at O;dsimp only at O;unfold bJ;have HK:=lh (fun W=>jI y.1.kind y.1.name W);generalize aC y.1.kind y.1.name=kz at HK O |-;have ab:=lh O;clear O;go_enter Tryz.func38,Tryz.ntmps38
 go_wp2_with first|go_at_call 84;(refine (V.o _ Y.o.b).mono ?_);rintro _ z ⟨rfl,N⟩;have K:=lh N;clear N|go_at_call 82;(refine (a2.o _ (Y.o.below K.o)).mono ?_);rintro _ T ⟨⟨o,G,rfl,hI,D,R,S⟩,H,E⟩;have a0:=ay y.1 o G (aD hI) (aE D);have zp:=H.pl;have R3:=ak T (y.1.vals o G) 29 (0,0);have av:=ae R3 30 _ (L.o _ _);have S3:=lh (H.below (aj T (.cells (y.1.vals o G) 29)));have G3:=lh (cm (aJ (bo _ K.o) E) (aj T (.cells (y.1.vals o G) 29)));clear hI D R S H E|go_at_call 87;(refine (a5.o _ S3.o G3.o.size).mono ?_);rintro _ w4 ⟨rfl,hs,J⟩;have R4:=dP R3 (by rw[ad.o];decide) J (by omega);have n0:=ae R4 0 _ (ac.o _ _);have n1:=ae R4 1 _ (a6.o _ _);have S4:=lh hs;have G4:=lh (aJ G3.o J);clear hs J|go_at_call 88;(with_reducible refine (HK.o _).mono ?_);rintro _ w5 ⟨rfl,a7⟩;have B5:=lh (bt a7 (aj w5 (.cells #[.int .i64 1,.int .i64 1,.string kz,.string ⟨#[]⟩,.string ⟨#[]⟩] 67)));clear a7
 go_ret2
 exact⟨_,rfl,ab.o _,S4.o.below B5.o,bx G4.o (B5.o.mono G4.o.size)⟩
end
end Go.Proofs.YtnkjliahpeebjaaGreatDoor
