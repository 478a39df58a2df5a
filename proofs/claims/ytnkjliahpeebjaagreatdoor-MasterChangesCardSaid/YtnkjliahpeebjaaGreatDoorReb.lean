/- Catalogs. -/
import Derived.RangeFuncNested
import Derived.RangeFuncBound
import Derived.Shelf.RegionOpen
import Derived.OwnWalkIn
import Derived.LoopNIn
import Derived.LoopIn
import Derived.Test.YtnkjliahpeebjaaGreatDoorAe
import Derived.Test.YtnkjliahpeebjaaGreatDoorSrt
set_option maxRecDepth 8000
set_option maxHeartbeats 16000000
open Option renaming some->Z9,none->Z7
open Go.Proofs.Tryz renaming prog->Z8,underlying53->XJ
open _root_ renaming ByteArray->Z6,List->Z3,if_neg->ZX,if_pos->ZT,beq_eq_false_iff_ne->ZS,UInt8->ZP,decide_eq_true->ZO,decide_eq_false->ZN,Array->Zz,Option->Zm,bne_iff_ne->Zi,congrArg->Y8,id->V7
open Go.Proofs.YtnkjliahpeebjaaGreatDoor.Ds renaming bl->Z5,bl_length->Z0,gen->Xp
open Go.RowKit renaming Below->Z4
open Bool renaming false->Z2,true->ZZ,and_eq_true->ZQ
open Go renaming Value->Z1,World->ZY,bodyPost_ret->ZA,TypeId->Y0,maxLen->YQ,callsIn_wide->Yi,heap_setCell_other->WA,results_none->Ws
open Nat renaming le_refl->ZV,lt_of_lt_of_le->ZH,le_trans->ZE,zero_le->Zc
open Go.World renaming cell?_of_block->ZU,frozen?_of_block->Ze,cell?_setCell_other->Y7,cell?_setCell_same'->YJ,putObj_heap_other->YB
open Option.some renaming inj->ZL
open List renaming getElem?_eq_getElem->ZF,length_cons->Zx,setIfInBounds_toArray->Zw,length_map->Zt,cons_append->Zp,set_cons_zero->Za,set_cons_succ->Y9,nil_append->YP,length_nil->Yt,getElem?_map->Yg,map_append->XL,length->VJ,append_toArray->VD
open UInt8 renaming lt_iff_toNat_lt->YU,toNat_inj->Yf
namespace Go.Proofs.YtnkjliahpeebjaaGreatDoor
open Go.RowKit
variable(e:En)(g:Zm Nat){P:Program}(a:Operand->Z1){fn:Func}{m wr x w' w W:ZY}{s j:LoopState}{t W' w0:ZY}{k D h b p i r q:Nat}{z f:Z1}{Q:Exit->Act->ZY->Prop}{y:Fu}{v sv:Z1}{l:Z3 Rw}{fl d cd c A id c':Int}{name:Z6}{st st':LoopState}{pd u:Zm Code}
section
structure Rf where
 fn:FuncId
 tmps:Zz Z1
 ps:Zz Tmp
 asg:Code
 body:Code
 D:Nat
def Rf.loop(r:Rf)(s:LoopState)(p:Zm Code):Obj:=.loop { state:=s,pending:=p,fn:=r.fn,tmps:=r.tmps,params:=r.ps,assign:=r.asg,body:=r.body,defers:=r.D }
structure Rup (r:Rf) (s:LoopState) (p:Zm Code) (w:ZY):Prop where
 lp:w.heap[r.D+1]?=Z9 (r.loop s p)
 dfr:w.heap[r.D]?=Z9 (.deferred (Z9 []))
theorem Rup.lt{r:Rf}{p:Zm Code}(h:Rup r s p w):r.D+1<w.heap.size:=(Array.getElem?_eq_some_iff.1 h.lp).1
theorem Rup.put{r:Rf}{p o:Zm Code}(h:Rup r s p w):Rup r j o (w.putObj (r.D+1) (r.loop j o)) :=
 ⟨World.putObj_heap_same h.lt,(YB (by omega)).trans h.dfr⟩
def Rf.busy(r:Rf)(w:ZY):ZY:=w.putObj (r.D+1) (r.loop .busy Z7)
def Rf.on(r:Rf)(w:ZY):ZY:=w.putObj (r.D+1) (r.loop .ready Z7)
def Rf.off(r:Rf)(c:Code)(w:ZY):ZY:=w.putObj (r.D+1) (r.loop .done (Z9 c))
def Rf.gone(r:Rf)(p:Zm Code)(w:ZY):ZY:=w.putObj (r.D+1) (r.loop .exhausted p)
theorem Rup.busy{r:Rf}(h:Rup r .ready Z7 w):Rup r .busy Z7 (r.busy w):=h.put
theorem Rup.on{r:Rf}(h:Rup r .busy Z7 w):Rup r .ready Z7 (r.on w):=h.put
theorem Rup.off{r:Rf}{c:Code}(h:Rup r .busy Z7 w):Rup r .done (Z9 c) (r.off c w):=h.put
theorem Rup.gone{r:Rf}{p:Zm Code}(h:Rup r s p w):(r.gone p w).heap[r.D]?=Z9 (.deferred (Z9 [])):=(YB (by omega)).trans h.dfr
variable {F:Fence} {n:Nat} {P:Program}
def F9(r:Rf)(J:ZY->Prop)(o:Code->ZY->Prop):Exit->Act->ZY->Prop
 | .normal,_,w=>Rup r .busy Z7 w/\J w
 | .ret,_,w=>Rup r .busy Z7 w/\o .ret w
 | .exit id,_,w=>Rup r .busy Z7 w/\o (.exit id) w
 | .goto t,_,w=>Rup r .busy Z7 w/\o (.goto t) w
 | .panic _,_,_=>False
 | .outgrown,_,_=>False
theorem tI{r:Rf}{V:Zz Z1}{J:ZY->Prop}{Jx:Code->ZY->Prop}(hF:F.fn r.fn)(R:Rup r .ready Z7 w)(O:V.size=r.ps.size)(E:r.asg.wpIn (F.inRound (r.D+1)) n P (Exit.then (fun a w₁=>Rup r .ready Z7 w₁/\r.body.wpIn (F.inRound (r.D+1)) n P (F9 r J Jx) a (r.busy w₁)) (fun _ _ _=>False))
 { tmps:=(r.ps.zip V).foldl (fun t (p,v)=>t.setIfInBounds p v) r.tmps,defers:=[] } w) :
 YieldAt F n P (r.D+1) V w fun e w'=>(e=.returned (.bool ZZ)/\∃ m,Rup r .busy Z7 m/\J m/\w'=r.on m)\/(e=.returned (.bool Z2)/\∃ c m,Rup r .busy Z7 m/\Jx c m/\w'=r.off c m):=by
 refine⟨r.fn,_,r.asg,r.body,run_yield (P:=P) (args:=V) R.lp O,roundIn_of_wpIn hF (wpIn_mono E ?_)⟩
 have fin:∀ (o:Zm Code) (B:ZY),Rup r .busy Z7 B->(Instr.endRound (r.D+1) o).run P B=.ok (.bool o.isNone) (B.putObj (r.D+1) (r.loop (if o.isNone then .ready else .done) o)):=fun o B L=>run_endRound (P:=P) o L.lp
 rintro e a W C
 cases e with
 | normal =>
   obtain⟨G,N⟩:=C;refine⟨_,run_beginRound G.lp rfl,wpIn_mono N ?_⟩
   rintro K S B H
   cases K with
   | normal=>exact⟨_,_,fin Z7 B H.1,.inl ⟨rfl,B,H.1,H.2,rfl⟩⟩
   | ret=>exact⟨_,_,fin (Z9 .ret) B H.1,.inr ⟨rfl,.ret,B,H.1,H.2,rfl⟩⟩
   | exit id=>exact⟨_,_,fin (Z9 (.exit id)) B H.1,.inr ⟨rfl,.exit id,B,H.1,H.2,rfl⟩⟩
   | goto t=>exact⟨_,_,fin (Z9 (.goto t)) B H.1,.inr ⟨rfl,.goto t,B,H.1,H.2,rfl⟩⟩
   | panic I=>exact H.elim
   | outgrown=>exact H.elim
 | ret=>exact C.elim
 | exit id=>exact C.elim
 | goto t=>exact C.elim
 | panic I=>exact C.elim
 | outgrown=>exact C.elim
theorem wm{g:Operand}{G:Zz Tmp}{o B:Code}{a:Act}(R:F.round=Z7)(T:1<=n){gf:Nat}{L:Zz Z1}(U:a.eval g=.func (.func gf) #[] L)(K:F.fn gf)(S:∀ args w,(callFunc gf args).run P w=.ok (.enter gf args) w)(h:∀ (r:Rf) (W:ZY),F.fn r.fn->r.tmps=a.tmps->r.ps=G->r.asg=o->r.body=B->r.D=w.heap.size->W=(w.alloc (.deferred (Z9 []))).alloc (r.loop .ready Z7)->Rup r .ready Z7 W ->
 CallsIn F (n - 1) P gf (#[.func (.yield (r.D+1)) #[] #[]]++L) W fun e I=>(∃ v,e=.returned v)/\
  ((Rup r .ready Z7 I/\Q .normal { a with defers:={ target:=.collected r.D,args:=#[] }::a.defers } (r.gone none I))\/
   (∃ c,Rup r .done (Z9 c) I/\c.wpIn F n P Q { a with defers:={ target:=.collected r.D,args:=#[] }::a.defers } (r.gone (some c) I)))) :
 (Code.rangeFunc g G o B).wpIn F n P Q a w:=by
 refine wpIn_rangeFunc ?_
 intro fn N;rw[R];obtain⟨E,H⟩:∃ E,(w.alloc (.deferred (Z9 []))).alloc ((Rf.mk fn a.tmps G o B w.heap.size).loop .ready Z7)=E:=⟨_,rfl⟩
 have V:Rup (Rf.mk fn a.tmps G o B w.heap.size) .ready Z7 E:=by
  rw[<-H];refine⟨?_,(Below.heap_alloc _ _ _ (by simp)).trans (World.alloc_heap_new w _)⟩
  have:=World.alloc_heap_new (w.alloc (.deferred (Z9 []))) ((Rf.mk fn a.tmps G o B w.heap.size).loop .ready Z7);rwa [World.size_alloc] at this
 refine⟨w.heap.size+1,[{ target:=.collected w.heap.size,args:=#[] }],E,{ target:=.fn (.func gf) L,args:=#[.func (.yield (w.heap.size+1)) #[] #[]] },E,gf,
  #[.func (.yield (w.heap.size+1)) #[] #[]]++L,E,(by rw[<-H];exact run_enterLoop_outer _ _ _ _ _),?_,?_,?_,fun _=>T,?_⟩
 .simp only[resolve,U]
  simp [go_sem]
 .intro X J;simp [Target.leads] at J;subst J;exact K
 .simp [invoke,go_sem,S]
 .refine (h (Rf.mk fn a.tmps G o B w.heap.size) _ N rfl rfl rfl rfl rfl H.symm V).mono ?_
  rintro e I ⟨⟨v,rfl⟩,(⟨C,O⟩|⟨c,C,O⟩)⟩
  .exact⟨Z7,_,run_endLoop (P:=P) C.lp (by simp),O⟩
  .exact⟨Z9 c,_,run_endLoop (P:=P) C.lp (by simp),O⟩
end
section
attribute [local go_sem] Oper.semAt_some
def bS(l:Z3 Rw)(id fl cd:Int)(L:ZP){σ ρ:Type}(S:σ->Z6->Z6->Except ρ σ):Nat->Int->Z3 ZP->σ->Except ρ (σ × Int) × Int
 | 0,c,_,s=>(.ok (s,0),c)
 | f+1,c,k,s=>if c+1=fl then (.ok (s,cd),c+1) else match nx id k l with
   | none=>(.ok (s,0),c+1)
   | some x=>if L<(Z5 x.2.1).headD 0 then (.ok (s,0),c+1) else if (Z5 x.2.1).headD 0<L then bS l id fl cd L S f (c+1) (Z5 x.2.1) s else match S s x.2.1 x.2.2 with
     | .ok j=>bS l id fl cd L S f (c+1) (Z5 x.2.1) j
     | .error e=>(.error e,c+1)
structure RI (w:ZY) (bl br bi bc cb p:Nat) (L:ZP) (id:Int):Prop where
 l:w.cell? ⟨bl,0,Z7⟩=Z9 (.int .u8 (L.toNat:Nat))
 r:w.cell? ⟨br,0,Z7⟩=Z9 (.iface 56 (.pointer (Z9 ⟨p,0,Z7⟩)))
 i:w.cell? ⟨bi,0,Z7⟩=Z9 (.int .i64 id)
 c:w.cell? ⟨bc,0,Z7⟩=Z9 (.pointer (Z9 ⟨cb,0,Z7⟩))
 v:w.cell? ⟨cb,0,Z7⟩=Z9 (.int .i64 0)
 f:w.frozen? ⟨cb,0,Z7⟩=Z2
def pZ{σ ρ:Type}(C:Nat)(J:Int->σ->ZY->Prop)(o:Int->ρ->ZY->Prop)(R:Except ρ (σ × Int) × Int)(w:ZY):Prop :=
 match R.1 with
 | .ok (s,d)=>∃ m,J R.2 s m/\(d=0/\w=m\/w=m.setCell ⟨C,0,Z7⟩ (.int .i64 d))
 | .error x=>o R.2 x w
theorem tu(c d:ZP)(W:ZY)(b:Nat)(h:W.cell? ⟨b,0,Z7⟩=Z9 (.int .u8 (c.toNat:Nat)))(H:W.cell? ⟨b,1,Z7⟩=Z9 (.int .u8 (d.toNat:Nat))) :
 (convert 156 9 (.slice (Z9 ⟨b,0,Z7⟩) 2 2)).run Z8 W=.ok (.string ⟨#[c,d]⟩) W:=by
 refine run_convert_bytes_back (P:=Z8) W 156 9 5 ⟨b,0,Z7⟩ 2 [c,d] Tryz.underlying156 Tryz.underlying5 Tryz.underlying9 ?_
 intro j o;obtain rfl|rfl:j=0\/j=1:=by simp at o;omega
 .simpa [Addr.add] using h
 .simpa [Addr.add] using H
theorem yU(P:Program)(o:Oper)(a:Act)(C:ZY->Prop):Oper.askedIn Fence.wide P o a C=True:=eq_true (fun _ _ _ _=>trivial)
attribute [local go_sem] yU
theorem oX(s:Z6)(h:1<=s.size):s[0]'h=(Z5 s).headD 0:=by
 unfold Z5;rw[List.headD_eq_head?_getD,List.head?_eq_getElem?]
 have:s.data.toList[0]?=Z9 (s[0]'h):=by
  rw[ZF (show 0<s.data.toList.length by simpa using ZH Nat.zero_lt_one h)];rfl
 rw[this];rfl
theorem vn{σ ρ:Type}(S:σ->Z6->Z6->Except ρ σ)(K:σ->Nat)(a9:∀ s k r j,S s k r=.ok j->K j<=K s+1)(J:Int->σ->ZY->Prop)(Jx:Int->ρ->ZY->Prop)(D p bl br bi bc cb:Nat)(sv:Z1)(l:Z3 Rw)(fl cd ca id:Int)(L:ZP)(w0 w:ZY)(s0:σ)(n m:Nat)(V:∀ c s W,J c s W->RI W bl br bi bc cb p L id/\SHs w0 W p sv l fl cd c)(C:∀ c c' s W W',J c s W->W.grownBy W' (Z9 p)->SHs w0 W' p sv l fl cd c'->J c' s W')(hY:∀ c s k r W,J c s W->K s<=K s0+l.length->(∃ i,(i,k,r)∈l)->1<=k.size->YieldAt Fence.wide m Z8 D #[.string k,.string r] W fun e W'=>match S s k r with|.ok j=>e=.returned (.bool ZZ)/\J c j W'|.error x=>e=.returned (.bool Z2)/\Jx c x W')(hw:IntKind.u8.wrap ((L.toNat:Int) - 1)=((L - 1).toNat:Int))(hn:1<=n)(hm:m=n - 1)(h0:J ca s0 w)(ag:0<=ca)(ar:ca<=100000)(hl:l.length<=1000)(ao:cd≠0/\cd≠6\/fl<=0) :
 CallsIn Fence.wide n Z8 192 #[.func (.yield D) #[] #[],.pointer (Z9 ⟨bl,0,Z7⟩),.pointer (Z9 ⟨br,0,Z7⟩),.pointer (Z9 ⟨bi,0,Z7⟩),.pointer (Z9 ⟨bc,0,Z7⟩)] w fun e W'=>(∃ v,e=.returned v)/\
  pZ cb J Jx (bS l id fl cd L S (l.length+1) ca [L - 1,255] s0) W':=by
 subst hm;have a8:cnt id [L - 1,255] l<l.length+1:=Nat.lt_succ_of_le (cnt_le _ _ _);generalize Z:bS l id fl cd L S (l.length+1) ca [L - 1,255] s0=R;have HR:=lh Z;have ab:=lh a8;have H0:=lh h0;have b1:=(V _ _ _ h0).1.l;have b2:=tu (L - 1) 255;clear Z a8 h0;refine callsIn_of_wp Tryz.func192 rfl trivial ?_ rfl
 simp only[Tryz.ntmps192,List.size_toArray,Zx,Yt,Nat.reduceAdd,Nat.reduceSub,Array.replicate_succ,Array.replicate_zero,List.push_toArray,VD,YP,Zp]
 gi_wp2
 have B0:Z4 w.heap.size w (w.alloc (.cells #[.int .u8 ((L - 1).toNat:Nat),.int .u8 255] 5)):=(Below.refl _ _).alloc (ZV _) _;gi_loopw [6] (fun kv wr=>∃ (f:Nat) (c:Int) (k:Z6) (s:σ),kv=.string k/\Hid (bS l id fl cd L S f c (Z5 k) s=R)/\Hid (cnt id (Z5 k) l<f)/\0<=c/\c+f<=ca+l.length+1/\K s+f<=K s0+l.length+1/\Hid (J c s wr)) (fun kv _=>cnt id (Z5 (xq kv)) l)
 case atStart=>exact⟨l.length+1,ca,_,s0,rfl,HR,ab,ag,by omega,by omega,lh (C _ _ _ _ _ H0.o (bo _ B0) ((V _ _ _ H0.o).2.below B0))⟩
 case round =>
  obtain⟨f,c,k,s,rfl,HP,HC,al,av,b0,HJ⟩:=hrel;obtain⟨g,rfl⟩:∃ g,f=g+1:=⟨f - 1,by have:=HC.o;omega⟩;obtain⟨⟨i1,i2,i3,i4,i5,i6⟩,hS⟩:=V _ _ _ HJ.o;have H:=tK p sv l fl cd c id k w0 wr hS al (by omega);have b3:=sC ⟨p,0,Z7⟩;have HS:=lh hS;clear hS i5 i6;have B:=HP.o;unfold bS at B;by_cases hf:c+1=fl
  .rw[ZT hf] at B;have I:cd≠0/\cd≠6:=by rcases ao with h|h;exact h;omega
   unfold jn at H;rw[ZT hf] at H;have HN:=lh H;have o:=lh B;have t1:(cd==6)=Z2:=by rw[ZS];exact I.2
   have t2:(cd==0)=Z2:=by rw[ZS];exact I.1
   have t3:(cd != 0)=ZZ:=by rw[Zi];exact I.1
   have t4:(cd != 6)=ZZ:=by rw[Zi];exact I.2
   clear H B I hf;gi_wp2_with (refine⟨trivial,?_⟩;gi_at_call 371;(refine (Yi.2 HN.o).mono ?_);rintro _ t ⟨rfl,N,O⟩;have G:=lh (C _ _ _ _ _ HJ.o O N);obtain⟨⟨j1,j2,j3,j4,j5,j6⟩,-⟩:=V _ _ _ G.o;clear N O)
   refine ZA (Ws rfl _ _ _) rfl ?_
   refine⟨⟨_,rfl⟩,?_⟩
   rw[<-o.o];exact⟨_,G.o,.inr rfl⟩
  rw[ZX hf] at B;unfold jn at H;rw[ZX hf] at H;clear hf
  cases hx:nx id (Z5 k) l with
  | none =>
    rw[hx] at B H;have HN:=lh H;have o:=lh B;clear H B hx;gi_wp2_with (refine⟨trivial,?_⟩;gi_at_call 371;(refine (Yi.2 HN.o).mono ?_);rintro _ t ⟨rfl,N,O⟩;have G:=lh (C _ _ _ _ _ HJ.o O N);clear N O)
    refine ZA (Ws rfl _ _ _) rfl ?_
    refine⟨⟨_,rfl⟩,?_⟩
    rw[<-o.o];exact⟨_,G.o,.inl ⟨rfl,rfl⟩⟩
  | some x =>
    rw[hx] at B H;obtain⟨a2,-,a0⟩:=mF hx;have a6:=p6 hx;obtain⟨xi,X,xr⟩:=x;have a1:=lh a2;clear a2;simp only at B H a0 a6
    have U:1<=X.size:=by
     rcases Nat.eq_zero_or_pos X.size with h|h
     .have:Z5 X=[]:=List.eq_nil_of_length_eq_zero (by rw[Z0];exact h);rw[this,lG] at a0;cases a0
     .exact h
    have HN:=lh H;have a3:=lh a6;have a4:Hid (cnt id (Z5 X) l<g):=lh (by have:=HC.o;omega);have af:X[0]'U=(Z5 X).headD 0:=oX X U;have g0:(0:Int)<=0/\(0:Int)<(X.size:Int):=by omega
    have b4:Tryz.prog.follows .mixedOrders=ZZ:=by kernel_rfl
    clear H hx a0 a6;generalize (Z5 X).headD 0=q at B af;by_cases E:L<q
    .rw[ZT E] at B;have o:=lh B;have q1:((L.toNat:Nat):Int)<((q.toNat:Nat):Int):=Int.ofNat_lt.2 (YU.1 E);have q2:decide (((L.toNat:Nat):Int)<((q.toNat:Nat):Int))=ZZ:=ZO q1;have q3:L.toNat<q.toNat:=YU.1 E;have q4:decide (L.toNat<q.toNat)=ZZ:=ZO q3;clear B E;gi_wp2_with (refine⟨trivial,?_⟩;gi_at_call 371;(refine (Yi.2 HN.o).mono ?_);rintro _ t ⟨rfl,N,O⟩;have G:=lh (C _ _ _ _ _ HJ.o O N);obtain⟨⟨j1,j2,j3,j4,j5,j6⟩,-⟩:=V _ _ _ G.o;clear N O)
     refine wpIn_region_quiet_lit rfl (by kernel_rfl) (by kernel_rfl) ?_
     repeat (gi_big_quiet_step (fail))
     refine BigFrame.wpQuietIn_skip (fun _ _ _ _=>trivial) (by rfl) ?_
     simp only[Act.put,Zw,Za,Y9]
     repeat (gi_big_quiet_step (fail))
     refine wpQuietIn_nil ?_
     rintro _ ⟨nq,rfl⟩;gi_wp2
     refine ZA (Ws rfl _ _ _) rfl ?_
     refine⟨⟨_,rfl⟩,?_⟩
     rw[<-o.o];have Y:Z4 t.heap.size t (t.drewN nq):=⟨rfl,rfl,rfl,ZV _,fun _ _=>rfl⟩;exact⟨_,C _ _ _ _ _ G.o (bo _ Y) ((V _ _ _ G.o).2.below Y),.inl ⟨rfl,rfl⟩⟩
    rw[ZX E] at B;by_cases h8:q<L
    .rw[ZT h8] at B;have o:=lh B;have q1:¬ ((L.toNat:Nat):Int)<((q.toNat:Nat):Int):=fun h=>E (YU.2 (Int.ofNat_lt.1 h))
     have q2:decide (((L.toNat:Nat):Int)<((q.toNat:Nat):Int))=Z2:=ZN q1;have q3:¬ L.toNat<q.toNat:=fun h=>E (YU.2 h)
     have q4:decide (L.toNat<q.toNat)=Z2:=ZN q3;have q5:¬ q.toNat=L.toNat:=by have:=YU.1 h8;omega
     have q6:(((q.toNat:Nat):Int)==((L.toNat:Nat):Int))=Z2:=by rw[ZS];omega
     have q7:(q.toNat==L.toNat)=Z2:=by rw[ZS];omega
     clear B E h8;gi_wp2_with (refine⟨trivial,?_⟩;gi_at_call 371;(refine (Yi.2 HN.o).mono ?_);rintro _ t ⟨rfl,N,O⟩;have G:=lh (C _ _ _ _ _ HJ.o O N);obtain⟨⟨j1,j2,j3,j4,j5,j6⟩,-⟩:=V _ _ _ G.o;clear N O)
     refine wpIn_region_quiet_lit rfl (by kernel_rfl) (by kernel_rfl) ?_
     repeat (gi_big_quiet_step (fail))
     refine BigFrame.wpQuietIn_skip (fun _ _ _ _=>trivial) (by rfl) ?_
     simp only[Act.put,Zw,Za,Y9]
     repeat (gi_big_quiet_step (fail))
     refine wpQuietIn_nil ?_
     rintro _ ⟨nq,rfl⟩;gi_wp2
     have Y:Z4 t.heap.size t (t.drewN nq):=⟨rfl,rfl,rfl,ZV _,fun _ _=>rfl⟩;go_roundw
     case rel=>exact⟨g,c+1,X,s,rfl,o,a4,by omega,by omega,by omega,lh (C _ _ _ _ _ G.o (bo _ Y) ((V _ _ _ G.o).2.below Y))⟩
     case measure=>exact a3.o
    rw[ZX h8] at B
    obtain rfl:q=L:=by
     refine Yf.1 ?_
     have h1:¬ L.toNat<q.toNat:=fun h=>E (YU.2 h)
     have h2:¬ q.toNat<L.toNat:=fun h=>h8 (YU.2 h)
     omega
    have q2:decide (((q.toNat:Nat):Int)<((q.toNat:Nat):Int))=Z2:=ZN (by omega);have q4:decide (q.toNat<q.toNat)=Z2:=ZN (by omega);clear E h8
    cases T:S s X xr with
    | ok j =>
      have a7:Hid (K j+g<=K s0+l.length+1):=lh (by have:=a9 _ _ _ _ T;omega);rw[T] at B;have o:=lh B;clear B;gi_wp2_with (refine⟨trivial,?_⟩;gi_at_call 371;(refine (Yi.2 HN.o).mono ?_);rintro _ t ⟨rfl,N,O⟩;have G:=lh (C _ _ _ _ _ HJ.o O N);obtain⟨⟨j1,j2,j3,j4,j5,j6⟩,-⟩:=V _ _ _ G.o;clear N O;have Y:Z4 t.heap.size t t.drew:=⟨rfl,rfl,rfl,ZV _,fun _ _=>rfl⟩;have J3:=lh (C _ _ _ _ _ G.o (bo _ Y) ((V _ _ _ G.o).2.below Y));obtain⟨fn,aa,ac,ad,hy,Z⟩:=hY _ _ X xr _ J3.o (by omega) ⟨xi,a1.o⟩ U;rw[T] at Z;have a5:=lh Z;clear Z T)
      gi_region_with_o (refine a5.o.mono ?_;rintro _ w4 ⟨rfl,hj⟩;have J4:=lh hj;clear hj)
      all_goals gi_wp2
      all_goals first
       | exact⟨⟨g,c+1,X,j,rfl,o,a4,by omega,by omega,a7.o,J4⟩,a3.o⟩
       | (go_roundw <;> first|exact⟨g,c+1,X,j,rfl,o,a4,by omega,by omega,a7.o,J4⟩|exact a3.o)
    | error e =>
      rw[T] at B;have o:=lh B;clear B;gi_wp2_with (refine⟨trivial,?_⟩;gi_at_call 371;(refine (Yi.2 HN.o).mono ?_);rintro _ t ⟨rfl,N,O⟩;have G:=lh (C _ _ _ _ _ HJ.o O N);obtain⟨⟨j1,j2,j3,j4,j5,j6⟩,-⟩:=V _ _ _ G.o;clear N O;have Y:Z4 t.heap.size t t.drew:=⟨rfl,rfl,rfl,ZV _,fun _ _=>rfl⟩;have J3:=lh (C _ _ _ _ _ G.o (bo _ Y) ((V _ _ _ G.o).2.below Y));obtain⟨fn,aa,ac,ad,hy,Z⟩:=hY _ _ X xr _ J3.o (by omega) ⟨xi,a1.o⟩ U;rw[T] at Z;have a5:=lh Z;clear Z T)
      gi_region_with_o (refine a5.o.mono ?_;rintro _ w4 ⟨rfl,hj⟩;have J4:=lh hj;clear hj)
      all_goals gi_wp2
      all_goals
       refine ZA (Ws rfl _ _ _) rfl ?_
       refine⟨⟨_,rfl⟩,?_⟩
       rw[<-o.o];exact J4.o
end
section
attribute [local go_sem] Oper.semAt_some
def dZ(name:Z6)(s:Z3 Fu)(k r:Z6):Except Int (Z3 Fu) :=
 if (bw k r).2≠0 then .error (bw k r).2 else if (bw k r).1.1.target=name then .ok (s++[(bw k r).1]) else .ok s
def dj(l:Z3 Rw)(fl cd C id:Int)(name:Z6):(Z3 Fu × Int) × Int :=
 match bS l id fl cd 65 (dZ name) (l.length+1) C [(65:ZP) - 1,255] [] with
 | (.ok (s,d),c)=>(if d≠0 then ([],d) else (s,0),c)
 | (.error e,c)=>(([],e),c)
theorem sY(name:Z6)(s:Z3 Fu)(k r:Z6)(j:Z3 Fu)(h:dZ name s k r=.ok j):j.length<=s.length+1:=by
 unfold dZ at h;split at h
 .cases h
 split at h
 .cases h;simp
 .cases h;omega
theorem lw{k r:Z6}(h:¬ (bw k r).2≠0):aA (bw k r).1=ZZ/\dL (bw k r).1=Z5 k:=by
 unfold bw at h |-
 cases H:cF (Z5 r) with
 | none=>rw[H] at h;exact absurd (show (11:Int)≠0 by decide) h
 | some y =>
   rw[H] at h;dsimp only at h |-;by_cases o:dL y=Z5 k
   .rw[ZT o];exact⟨(mb _ _ H).1,o⟩
   .rw[ZX o] at h;exact absurd (show (11:Int)≠0 by decide) h
theorem F8{p u:Tmp}{B o:Y0}(h:fn.results=#[.cell p B,.cell u o])(T:Zz Z1)(w:ZY) :
 (results fn T).run P w=((asAddr (T.getD p undef)).run P w).andThen fun a w₁=>((loadVar B a).run P w₁).andThen fun v w₂=>((asAddr (T.getD u undef)).run P w₂).andThen fun b w₃=>((loadVar o b).run P w₃).andThen fun V w₄=>.ok (.tuple #[v,V]) w₄:=by
 simp only[results,h]
 simp [Sem.run_bind,Result.andThen]
theorem SHs.other{C:Int}(h:SHs w0 wr p sv l fl cd C)(H:wr.grownBy w' (Z9 q))(E:p≠q)(B:w0.heap.size<=q)(J:∀ b,sv.ownBlock=Z9 b->b≠q):SHs w0 w' p sv l fl cd C :=
 ⟨⟨dP h.f.1 (by simp) H E,fun o=>(Ze (a:=⟨p,o,Z7⟩) (H.block p h.pl (fun e=>E (ZL e)))).trans (h.f.2 o)⟩,h.r.keep H.size (fun b G I=>H.block b I (fun e=>J b G (ZL e))),h.ne,h.p0,ZH h.pl H.size,h.b.trans (gJ H B h.b.size)⟩
theorem HJ.le{B:Nat}{H:Z3 Ef}{R:Z3 (Zz Z1)}(h:HJ B w z H R)(I:b<=B):HJ b w z H R:=by
 refine⟨ej h.own I,h.len,h.sz,h.one,fun j r x V X=>?_⟩
 obtain⟨J,L,K,A,N,O,S,T,U,E⟩:=h.el j r x V X;exact⟨J,L,K,A,N,O,S,T,U,fun G C o=>⟨(E G C o).1,ZE I (E G C o).2.1,(E G C o).2.2⟩⟩
def Bx(W:ZY)(b:Nat):Prop:=(∃ v,W.cell? ⟨b,0,Z7⟩=Z9 v)/\W.frozen? ⟨b,0,Z7⟩=Z2
theorem Bx.of(h:Bx W b)(e:W'.heap[b]?=W.heap[b]?):Bx W' b:=by
 obtain⟨⟨v,H⟩,o⟩:=h;exact⟨⟨v,(ZU (a:=⟨b,0,Z7⟩) e).trans H⟩,(Ze (a:=⟨b,0,Z7⟩) e).trans o⟩
theorem Bx.set{B:Nat}(h:Bx W b):Bx (W.setCell ⟨B,0,Z7⟩ v) b:=by
 obtain⟨⟨u,H⟩,o⟩:=h;by_cases e:b=B
 .subst e;exact⟨⟨v,YJ _ _ _ (by rw[H];rfl)⟩,by rw[World.frozen?_setCell];exact o⟩
 .exact⟨⟨u,by rw[Y7 _ _ _ _ (by intro k;cases k;exact e rfl)];exact H⟩,by rw[World.frozen?_setCell];exact o⟩
structure AlC (w0 w W:ZY) (h p:Nat) (sv:Z1) (l:Z3 Rw) (fl cd c id:Int) (name:Z6) (r:Rf) (st:LoopState) (pd:Zm Code):Prop where
 sh:SHs w0 W p sv l fl cd c
 g:w.grownBy W (Z9 p)
 ri:RI W (h+7) (h+5) (h+6) (h+8) (h+4) p 65 id
 n:W.cell? ⟨h,0,Z7⟩=Z9 (.string name)
 b1:Bx W (h+1)
 b2:Bx W (h+2)
 b3:Bx W (h+3)
 up:Rup r st pd W
 z:h+11<=W.heap.size
theorem AlC.core{r:Rf}(B:AlC w0 w W h p sv l fl cd c id name r st pd)(G:∀ k,k<h+11->k≠q->W'.heap[k]?=W.heap[k]?)(L:W.heap.size<=W'.heap.size)(I:q≠h/\∀ i,4<=i->i<=8->q≠h+i)(K:SHs w0 W' p sv l fl cd c')(J:w.grownBy W' (Z9 p))(E:Rup r st' u W')(C:Bx W' (h+1)/\Bx W' (h+2)/\Bx W' (h+3)) :
 AlC w0 w W' h p sv l fl cd c' id name r st' u:=by
 have e:∀ i,4<=i->i<=8->W'.heap[h+i]?=W.heap[h+i]?:=fun i H o=>G _ (by omega) (fun e=>I.2 i H o e.symm)
 obtain⟨R,N,O,S,T,U⟩:=B.ri;have q:=fun i (H:4<=i) (o:i<=8)=>ZU (w:=W) (w':=W') (a:=⟨h+i,0,Z7⟩) (e i H o)
 exact⟨K,J,⟨(q 7 (by omega) (by omega)).trans R,(q 5 (by omega) (by omega)).trans N,(q 6 (by omega) (by omega)).trans O,(q 8 (by omega) (by omega)).trans S,(q 4 (by omega) (by omega)).trans T,(Ze (a:=⟨h+4,0,Z7⟩) (e 4 (by omega) (by omega))).trans U⟩,
  (ZU (a:=⟨h,0,Z7⟩) (G h (by omega) (fun e=>I.1 e.symm))).trans B.n,C.1,C.2.1,C.2.2,E,ZE B.z L⟩
theorem AlC.tick{r:Rf}(H:AlC w0 w W h p sv l fl cd c id name r st pd)(I:p<h)(E:r.D=h+9)(o:W.grownBy W' (Z9 p))(C:SHs w0 W' p sv l fl cd c') :
 AlC w0 w W' h p sv l fl cd c' id name r st pd:=by
 have J:=H.z;have e:∀ k,k<h+11->k≠p->W'.heap[k]?=W.heap[k]?:=fun k G B=>o.block k (by omega) (fun e=>B (ZL e))
 refine H.core (q:=p) e o.size ⟨by omega,fun i _ _=>by omega⟩ C (aJ H.g o) ⟨?_,?_⟩ ⟨H.b1.of (e _ (by omega) (by omega)),H.b2.of (e _ (by omega) (by omega)),H.b3.of (e _ (by omega) (by omega))⟩
 .rw[e _ (by omega) (by omega)];exact H.up.lp
 .rw[e _ (by omega) (by omega)];exact H.up.dfr
theorem AlC.bel{r:Rf}(H:AlC w0 w W h p sv l fl cd c id name r st pd)(J:p<h)(I:w.heap.size=h)(G:r.D=h+9)(C:∀ b,sv.ownBlock=Z9 b->b<h)(o:Z4 (h+11) W W') :
 AlC w0 w W' h p sv l fl cd c id name r st pd:=by
 have e:=fun k B=>o.block k B
 refine H.core (q:=h+11) (fun k B _=>e k B) o.size ⟨by omega,fun i _ _=>by omega⟩ (H.sh.belowB o (by omega) (fun _ b E=>by have:=C b E;omega)) (bx H.g (o.mono (by omega))) ⟨?_,?_⟩ ⟨H.b1.of (e _ (by omega)),H.b2.of (e _ (by omega)),H.b3.of (e _ (by omega))⟩
 .rw[e _ (by omega)];exact H.up.lp
 .rw[e _ (by omega)];exact H.up.dfr
theorem AlC.turn{r:Rf}(H:AlC w0 w W h p sv l fl cd c id name r st pd)(N:p<h)(J:w0.heap.size<=h)(K:w.heap.size=h)(E:∀ b,sv.ownBlock=Z9 b->b<h)(o:W.grownBy W' (Z9 q))(O:h<=q)(C:q≠h/\∀ i,4<=i->i<=8->q≠h+i)(G:Rup r st' u W')(B:Bx W' (h+1)/\Bx W' (h+2)/\Bx W' (h+3)) :
 AlC w0 w W' h p sv l fl cd c id name r st' u:=by
 have R:=H.z;exact H.core (q:=q) (fun k L I=>o.block k (by omega) (fun e=>I (ZL e))) o.size C (H.sh.other o (by omega) (by omega) (fun b B=>by have:=E b B;omega)) (bx H.g (gJ o (by omega) (by omega))) G B
theorem AlC.put{r:Rf}(H:AlC w0 w W h p sv l fl cd c id name r st pd)(G:p<h)(C:w0.heap.size<=h)(E:w.heap.size=h)(I:r.D=h+9)(o:∀ b,sv.ownBlock=Z9 b->b<h) :
 AlC w0 w (W.putObj (r.D+1) (r.loop st' u)) h p sv l fl cd c id name r st' u:=by
 have K:=H.z;have B:=grownBy_putObj' W (r.D+1) (r.loop st' u);have e:∀ k,k<h+10->(W.putObj (r.D+1) (r.loop st' u)).heap[k]?=W.heap[k]?:=fun k J=>B.block k (by omega) (fun e=>by have:=ZL e;omega)
 exact H.turn G C E o B (by omega) ⟨by omega,fun i _ _=>by omega⟩ H.up.put ⟨H.b1.of (e _ (by omega)),H.b2.of (e _ (by omega)),H.b3.of (e _ (by omega))⟩
theorem AlC.set{r:Rf}(H:AlC w0 w W h p sv l fl cd c id name r st pd)(J:p<h)(C:w0.heap.size<=h)(E:w.heap.size=h)(K:r.D=h+9)(o:∀ b,sv.ownBlock=Z9 b->b<h)(L:i=1\/i=2\/i=3) :
 AlC w0 w (W.setCell ⟨h+i,0,Z7⟩ v) h p sv l fl cd c id name r st pd:=by
 have N:=H.z;have B:=de W ⟨h+i,0,Z7⟩ v;have e:∀ k,k<W.heap.size->k≠h+i->(W.setCell ⟨h+i,0,Z7⟩ v).heap[k]?=W.heap[k]?:=fun k G I=>B.block k G (fun e=>I (ZL e))
 refine H.turn J C E o B (by show h<=h+i;omega) ⟨by show h+i≠h;omega,fun j _ _=>by show h+i≠h+j;omega⟩ ⟨?_,?_⟩ ⟨H.b1.set,H.b2.set,H.b3.set⟩
 .rw[e _ (by omega) (by omega)];exact H.up.lp
 .rw[e _ (by omega) (by omega)];exact H.up.dfr
def xu(w0 w w':ZY)(p:Nat)(sv:Z1)(l:Z3 Rw)(fl cd:Int)(g:(Z3 Fu × Int) × Int)(r:Ending):Prop :=
 ∃ z R,r=.returned (.tuple #[z,.int .i64 g.1.2])/\HJ w.heap.size w' z (g.1.1.map cY) R/\SHs w0 w' p sv l fl cd g.2/\w.grownBy w' (Z9 p)
end
section
attribute [local go_sem] Oper.semAt_some
theorem sG{F:Fence}{R:Zz Oper}{rest:Z3 Oper}{o:Oper}{a:Act}(w:ZY)(Z:o.guard=Z7)(s x:Operand)(t e:Y0)(i:TypeInfo)(z:Z1)(S B:Nat)(ho:o.op=.call { callee:=.builtin .append,args:=#[s,x],argTypes:=#[t,t] })(ht:P.underlying t=Z9 (.slice e))(hi:P.info? e=Z9 i)(hz:i.zero=Z9 z)(I:i.size=S)(V:i.bytes=B)(a1:z.cells.size=S)(a0:0<S)(C:Nat)(v sv:Z1)(n m:Nat)(xs N:Z3 Z1)(hs:a.eval s=v)(L:w.ownsRow C e S v n xs)(hx:a.eval x=sv)(hc:CS w S sv m N)(hm:0<m)(h1:∀ u∈N,u.oneCell'=ZZ)(T:n+m<=YQ)(H:(n+m)*B<=140737488355328)(E:C<=w.heap.size)(h:∀ J c' w',w'.ownsRow C e S (.slice J (n+m) c') (n+m) (xs++N)->w.grownBy w' v.ownBlock->((Value.slice J (n+m) c').ownBlock=v.ownBlock\/(Value.slice J (n+m) c').ownBlock=Z9 w.heap.size)->wpListIn F k P R Q rest (a.put o.dst (.slice J (n+m) c')) w') :
 wpListIn F k P R Q (o::rest) a w:=by
 obtain⟨a2,c,rfl,hl,Y⟩:=hc;obtain⟨ad,rfl,G⟩:=Y hm;refine wpListIn_plain Z fun K U=>?_
 obtain⟨v',w',O,r1,r2,-,r4⟩:=run_append_own_at (P:=P) w C t o.type e i z S B ht hi hz I V a1 a0 v n xs L ad m c N hl G h1 T H E;obtain⟨J,c',rfl⟩:=bX r1;unfold Oper.wpIn;refine⟨?_,?_⟩
 .simp [Oper.about,ho,resolve,Target.leads,Sem.run_pure]
 .rw[Oper.semAt_plain F _ _ (by rw[ho];intro c X;cases X)];simp [execOp,ho,resolve,invoke,builtin,hs,hx,O,Result.andThen]
  exact U _ _ (h J c' w' r1 r2 r4)
theorem Gf(w:ZY)(dst x t pos af gd)(H:db (a x)=ZZ)(o:(row w (bF (a x))).size=33) :
 (Oper.semAt g a ⟨dst,.load 29 x,t,pos,af,gd⟩).run Z8 w=.ok (.value (.agg (row w (bF (a x))))) w:=by
 rw[Oper.semAt_eq g _ _ (by intro c h;cases h)];exact aZ a w dst x t pos af gd H o
theorem Ii(w:ZY)(Z:Zz Z1)(t:Y0)(dst x y t' pos af gd)(H:Z.size=33)(o:db (a x)=ZZ)(B:bF (a x)=w.heap.size)(C:cV (a y)=ZZ)(E:(bA (a y)).size=33)(G:bh (bA (a y)).toList=ZZ) :
 (Oper.semAt g a ⟨dst,.store 29 x y,t',pos,af,gd⟩).run Z8 (w.alloc (.cells Z t))=.ok .skip (w.alloc (.cells (bA (a y)) t)):=by
 rw[Oper.semAt_eq g _ _ (by intro c h;cases h)];exact bf a w Z t dst x y t' pos af gd H o B C E G
theorem Dx(w:ZY)(dst x t pos af gd)(H:cV (a x)=ZZ)(o:(bA (a x)).size=33) :
 (Oper.semAt g a ⟨dst,.buildSlice 33 1 #[(0,x)],t,pos,af,gd⟩).run Z8 w=.ok (.value (.slice (Z9 ⟨w.heap.size,0,Z7⟩) 1 1)) (w.alloc (.cells (bA (a x)) 29)):=by
 rw[Oper.semAt_eq g _ _ (by intro c h;cases h)];exact cl a w dst x t pos af gd H o
attribute [local go_sem ↓] aZ bf bq cl Gf Ii Dx
attribute [local go_sem] bn aS aH bE bH aK aT ak aI aw az aM ah aQ aL aP aO aR aY aW bD ap aq
theorem p5{T:Zz Z1}{R:Ending->ZY->Prop}(G:fn.results=#[.cell 6 33,.cell 7 42])(H:T.getD 6 undef=.pointer (Z9 ⟨h+1,0,Z7⟩))(o:T.getD 7 undef=.pointer (Z9 ⟨h+2,0,Z7⟩))(K:W.heap[D]?=Z9 (.deferred (Z9 [])))(B:D=h+9)(C:W.cell? ⟨h+1,0,Z7⟩=Z9 z)(A:W.cell? ⟨h+2,0,Z7⟩=Z9 (.int .i64 d))(E:R (.returned (.tuple #[z,.int .i64 d])) (W.putObj D (.deferred Z7))) :
 LeavesInM Fence.wide k Z8 fn T R [{ target:=.collected D,args:=#[] }] .returning W:=by
 subst B;have I:=grownBy_putObj' W (h+9) (.deferred Z7);have J:(W.putObj (h+9) (.deferred Z7)).cell? ⟨h+1,0,Z7⟩=Z9 z:=(ZU (a:=⟨h+1,0,Z7⟩) (YB (by show h+1≠h+9;omega))).trans C;have L:(W.putObj (h+9) (.deferred Z7)).cell? ⟨h+2,0,Z7⟩=Z9 (.int .i64 d):=(ZU (a:=⟨h+2,0,Z7⟩) (YB (by show h+2≠h+9;omega))).trans A;refine⟨by simp,.inl ⟨_,_,rfl,run_takeDeferred K,?_⟩⟩
 refine⟨.tuple #[z,.int .i64 d],?_,E⟩
 rw[F8 G,H,o];go_simp
theorem vB(K:SHs w0 W p sv l fl cd c)(B:w.grownBy W (Z9 p))(I:p<h)(C:w.heap.size=h)(H:∀ b,sv.ownBlock=Z9 b->b<h)(e:∀ k,(k<h\/h+11<=k)->W'.heap[k]?=W.heap[k]?)(O:W.heap.size<=W'.heap.size)(G:W'.os=W.os)(L:W'.tape=W.tape)(N:W'.output=W.output):SHs w0 W' p sv l fl cd c/\w.grownBy W' (Z9 p):=by
 have o:Z4 h W W':=⟨G,L,N,O,fun k E=>e k (.inl E)⟩;exact⟨K.belowB o I (fun _ b J=>H b J),bx B (by rw[C];exact o)⟩
def AlJ(w0 w:ZY)(h p:Nat)(sv:Z1)(l:Z3 Rw)(fl cd id:Int)(name:Z6)(r:Rf)(st:LoopState)(c:Int)(s:Z3 Fu)(W:ZY):Prop :=
 AlC w0 w W h p sv l fl cd c id name r st Z7/\∃ o R,W.cell? ⟨h+3,0,Z7⟩=Z9 o/\HJ (h+11) W o (s.map cY) R
def AlX(w0 w:ZY)(h p:Nat)(sv:Z1)(l:Z3 Rw)(fl cd id:Int)(name:Z6)(r:Rf)(st:LoopState)(pd:Zm Code)(c e:Int)(W:ZY):Prop :=
 AlC w0 w W h p sv l fl cd c id name r st pd/\W.cell? ⟨h+1,0,Z7⟩=Z9 (.slice Z7 0 0)/\W.cell? ⟨h+2,0,Z7⟩=Z9 (.int .i64 e)
theorem putc{j:Nat}{o:Obj}(H:j≠D):(W.putObj D o).cell? ⟨j,0,Z7⟩=W.cell? ⟨j,0,Z7⟩:=ZU (a:=⟨j,0,Z7⟩) (YB H)
theorem AlJ.put{r:Rf}{s:Z3 Fu}(G:AlJ w0 w h p sv l fl cd id name r st c s W)(K:p<h)(o:w0.heap.size<=h)(J:w.heap.size=h)(I:r.D=h+9)(H:∀ b,sv.ownBlock=Z9 b->b<h) :
 AlJ w0 w h p sv l fl cd id name r st' c s (W.putObj (r.D+1) (r.loop st' Z7)):=by
 obtain⟨B,O,R,C,E⟩:=G;refine⟨B.put K o J I H,O,R,(putc (by omega)).trans C,E.keep (grownBy_putObj' W _ _).size (fun k L _=>YB (by omega))⟩
theorem AlX.put{e:Int}{r:Rf}(G:AlX w0 w h p sv l fl cd id name r st pd c e W)(K:p<h)(o:w0.heap.size<=h)(J:w.heap.size=h)(I:r.D=h+9)(H:∀ b,sv.ownBlock=Z9 b->b<h) :
 AlX w0 w h p sv l fl cd id name r st' u c e (W.putObj (r.D+1) (r.loop st' u)):=by
 obtain⟨B,C,E⟩:=G;exact⟨B.put K o J I H,(putc (by omega)).trans C,(putc (by omega)).trans E⟩
theorem oe(p:Nat)(sv:Z1)(l:Z3 Rw)(fl cd ca id:Int)(name:Z6)(w0 w:ZY)(hm:MaxL w0)(hT:Tab w0)(X:SHs w0 w p sv l fl cd ca)(I:∀ b,sv.ownBlock=Z9 b->b<w.heap.size)(hl:l.length<=1000)(c8:0<=ca)(cm:ca<=90000)(c9:cd≠0/\cd≠6\/fl<=0) :
 Calls Z8 209 #[.iface 56 (.pointer (Z9 ⟨p,0,Z7⟩)),.int .i64 id,.string name] w fun r w'=>xu w0 w w' p sv l fl cd (dj l fl cd ca id name) r:=by
 have E:=X.pl;have ch:=X.b.size;have HS:=lh X;clear X;obtain⟨g,Z⟩:∃ g,dj l fl cd ca id name=g:=⟨_,rfl⟩;rw[Z];refine (Yi (n:=4)).1 ?_
 refine callsIn_of_wp_marks Tryz.func209 rfl trivial ?_ rfl
 simp only[Tryz.ntmps209,List.size_toArray,Zx,Yt,Nat.reduceAdd,Nat.reduceSub,Array.replicate_succ,Array.replicate_zero,List.push_toArray,VD,YP,Zp]
 gi_wp2_with (refine⟨trivial,?_⟩;gi_at_call 90;refine (Yi.2 (rI p id 65 _ _)).mono ?_;rintro _ _ ⟨rfl,rfl⟩)
 simp only[Nat.add_assoc,Nat.reduceAdd]
 generalize C:World.alloc _ _=U;have ba:Z4 w.heap.size w U:=by rw[<-C];exact aB
 have bv:U.heap.size=w.heap.size+9:=by rw[<-C];simp
 have k0:U.cell? ⟨w.heap.size,0,Z7⟩=Z9 (.string name):=by rw[<-C];simp [go_sem]
 have k1:U.cell? ⟨w.heap.size+1,0,Z7⟩=Z9 (.slice Z7 0 0):=by rw[<-C];simp [go_sem]
 have k2:U.cell? ⟨w.heap.size+2,0,Z7⟩=Z9 (.int .i64 0):=by rw[<-C];simp [go_sem]
 have k3:U.cell? ⟨w.heap.size+3,0,Z7⟩=Z9 (.slice Z7 0 0):=by rw[<-C];simp [go_sem]
 have k4:U.cell? ⟨w.heap.size+4,0,Z7⟩=Z9 (.int .i64 0):=by rw[<-C];simp [go_sem]
 have k5:U.cell? ⟨w.heap.size+5,0,Z7⟩=Z9 (.iface 56 (.pointer (Z9 ⟨p,0,Z7⟩))):=by rw[<-C];simp [go_sem]
 have k6:U.cell? ⟨w.heap.size+6,0,Z7⟩=Z9 (.int .i64 id):=by rw[<-C];simp [go_sem]
 have k7:U.cell? ⟨w.heap.size+7,0,Z7⟩=Z9 (.int .u8 65):=by rw[<-C];simp [go_sem]
 have k8:U.cell? ⟨w.heap.size+8,0,Z7⟩=Z9 (.pointer (Z9 ⟨w.heap.size+4,0,Z7⟩)):=by rw[<-C];simp [go_sem]
 have f1:U.frozen? ⟨w.heap.size+1,0,Z7⟩=Z2:=by rw[<-C];simp [go_sem]
 have f2:U.frozen? ⟨w.heap.size+2,0,Z7⟩=Z2:=by rw[<-C];simp [go_sem]
 have f3:U.frozen? ⟨w.heap.size+3,0,Z7⟩=Z2:=by rw[<-C];simp [go_sem]
 have f4:U.frozen? ⟨w.heap.size+4,0,Z7⟩=Z2:=by rw[<-C];simp [go_sem]
 clear C;refine wm rfl (by omega) (gf:=192) rfl trivial (enters_of Tryz.func192 (by kernel_rfl) rfl) ?_
 intro r W _ e1 e2 e3 e4 hD hW hU;rw[bv] at hD;have B1:Z4 U.heap.size U W:=by rw[hW];exact below2' _ _ _
 have ck:W.heap.size=w.heap.size+11:=by rw[hW];simp [bv]
 clear hW;have q:∀ i,i<=8->W.heap[w.heap.size+i]?=U.heap[w.heap.size+i]?:=fun i hi=>B1.block _ (by omega)
 have qc:∀ i,i<=8->W.cell? ⟨w.heap.size+i,0,Z7⟩=U.cell? ⟨w.heap.size+i,0,Z7⟩:=fun i hi=>ZU (a:=⟨w.heap.size+i,0,Z7⟩) (q i hi)
 have qf:∀ i,i<=8->W.frozen? ⟨w.heap.size+i,0,Z7⟩=U.frozen? ⟨w.heap.size+i,0,Z7⟩:=fun i hi=>Ze (a:=⟨w.heap.size+i,0,Z7⟩) (q i hi)
 have hA:AlC w0 w W w.heap.size p sv l fl cd ca id name r .ready Z7:=by
  refine⟨(HS.o.below ba).below B1,bo _ (ba.trans (B1.mono (by omega))),⟨(qc 7 (by omega)).trans k7,(qc 5 (by omega)).trans k5,(qc 6 (by omega)).trans k6,(qc 8 (by omega)).trans k8,(qc 4 (by omega)).trans k4,(qf 4 (by omega)).trans f4⟩,(qc 0 (by omega)).trans k0,⟨⟨_,(qc 1 (by omega)).trans k1⟩,(qf 1 (by omega)).trans f1⟩,⟨⟨_,(qc 2 (by omega)).trans k2⟩,(qf 2 (by omega)).trans f2⟩,⟨⟨_,(qc 3 (by omega)).trans k3⟩,(qf 3 (by omega)).trans f3⟩,hU,by omega⟩
 have bs:=(qc 3 (by omega)).trans k3;clear B1 q qc qf k0 k1 k2 k3 k4 k5 k6 k7 k8 f1 f2 f3 f4 hU ba;generalize hh:w.heap.size=h at *;simp only[VD,Zp,YP]
 unfold dj at Z;generalize hR:bS l id fl cd 65 (dZ name) (l.length+1) ca [(65:ZP) - 1,255] []=R at Z;have a2:w0.heap.size<=h:=ch
 have bi:∀ (c c':Int) (s:Z3 Fu) (W1 W':ZY),AlJ w0 w h p sv l fl cd id name r .ready c s W1->W1.grownBy W' (Z9 p)->SHs w0 W' p sv l fl cd c'->AlJ w0 w h p sv l fl cd id name r .ready c' s W':=by
  rintro c c' s W1 W' ⟨V,ov,K,h2,h3⟩ Z hs;have z:=V.z;exact⟨V.tick E hD Z hs,ov,K,(ZU (a:=⟨h+3,0,Z7⟩) (Z.block (h+3) (by omega) (fun e=>by have:=ZL e;omega))).trans h2,h3.tick Z (by omega)⟩
 have HY:∀ (c:Int) (s:Z3 Fu) (k rc:Z6) (W1:ZY),AlJ w0 w h p sv l fl cd id name r .ready c s W1->s.length<=([]:Z3 Fu).length+l.length->YieldAt Fence.wide 2 Z8 (r.D+1) #[.string k,.string rc] W1 fun e W'=>match dZ name s k rc with|.ok j=>e=.returned (.bool ZZ)/\AlJ w0 w h p sv l fl cd id name r .ready c j W'|.error x=>e=.returned (.bool Z2)/\AlX w0 w h p sv l fl cd id name r .done (Z9 .ret) c x W':=by
  intro c s k rc W1 O br;have hb:=O.put (st':=.busy) E a2 hh hD I;refine (tI (r:=r) (J:=fun B=>∃ j,dZ name s k rc=.ok j/\AlJ w0 w h p sv l fl cd id name r .busy c j B) (Jx:=fun cc B=>∃ e,dZ name s k rc=.error e/\cc=.ret/\AlX w0 w h p sv l fl cd id name r .busy Z7 c e B) trivial O.1.up (by rw[e2];rfl) ?_).mono ?_
  rotate_left
  .rintro e W' (⟨rfl,m,hu,⟨j,ce,V⟩,rfl⟩|⟨rfl,cc,m,hu,⟨e,he,rfl,V⟩,rfl⟩)
   .rw[ce];exact⟨rfl,V.put E a2 hh hD I⟩
   .rw[he];exact⟨rfl,V.put E a2 hh hD I⟩
  change AlJ w0 w h p sv l fl cd id name r .busy c s (r.busy W1) at hb
  simp only[e1,e2,e3,e4]
  gi_wp2
  refine⟨O.1.up,?_⟩
  generalize r.busy W1=Wb at hb |-;obtain⟨a7,ov,K,av,al⟩:=hb;obtain⟨va,vc,rfl⟩:=bX al.own;rw[Zt] at av al;have zb:=a7.z;have be:=tl k rc Wb (hm.below a7.sh.b) (hT.below a7.sh.b);have ac:¬ (bw k rc).2≠0->aA (bw k rc).1=ZZ:=fun h=>(lw h).1
  have X:dZ name s k rc=if (bw k rc).2≠0 then .error (bw k rc).2 else if (bw k rc).1.1.target=name then .ok (s++[(bw k rc).1]) else .ok s:=rfl
  generalize bw k rc=yy at be ac X;obtain⟨y,d⟩:=yy;dsimp only at ac X;have b8:=lh be;have b6:=lh a7;have b7:=lh al;clear be O al a7;by_cases h0:d=0
  rotate_left
  .rw[ZT h0] at X;have t1:(d != 0)=ZZ:=Zi.2 h0;have a6:=lh X;clear h0 ac X;gi_wp2_with (refine⟨trivial,?_⟩;gi_at_call 92;refine (CallsIn.inRound _ (Yi.2 b8.o)).mono ?_;rintro _ w3 ⟨⟨o,G,rfl,hI,L,a9,Y⟩,N⟩;have a1:=ay y.1 o G (aD hI) (aE L);have B4:Z4 Wb.heap.size Wb (w3.alloc (.cells (y.1.vals o G) 29)):=bt N (aj w3 _);have z3:=N.size;have T:=b6.o.bel E hh hD I (B4.mono zb);have cn:=T.n;obtain⟨⟨v1,k1⟩,f1⟩:=T.b1;obtain⟨⟨v2,k2⟩,f2⟩:=T.b2;obtain⟨-,f3⟩:=T.b3;have co:=((B4.mono zb).cell (p:=⟨h+3,0,Z7⟩) (by show h+3<h+11;omega)).trans av;have R4:=ak w3 (y.1.vals o G) 29 (0,0);have N4:=ae R4 29 _ (cB _ _ _);have a0:=lh T;have HI:=lh hI;have a4:=lh L;have af:=lh Y;have ad:=lh B4;clear hI L a9 Y N T B4)
   have A5:=((a0.o.set (i:=1) (v:=.slice Z7 0 0) E a2 hh hD I (.inl rfl)).set (i:=2) (v:=.int .i64 d) E a2 hh hD I (.inr (.inl rfl)));exact⟨A5.up,d,a6.o,rfl,A5,(Y7 _ _ _ _ (by intro e;have:=Y8 Addr.block e;simp at this)).trans (YJ _ _ _ (by rw[k1];rfl)),YJ _ _ _ (by rw[Y7 _ _ _ _ (by intro e;have:=Y8 Addr.block e;simp at this),k2];rfl)⟩
  rw[ZX (fun k=>k h0)] at X;subst h0;have cp:=wg y (ac (fun k=>k rfl));have t3:=fd y.1.target name;clear ac;by_cases ht:y.1.target=name
  rotate_left
  .rw[ZX ht] at X;rw[ZN ht] at t3;have a6:=lh X;clear ht X;gi_wp2_with (refine⟨trivial,?_⟩;gi_at_call 92;refine (CallsIn.inRound _ (Yi.2 b8.o)).mono ?_;rintro _ w3 ⟨⟨o,G,rfl,hI,L,a9,Y⟩,N⟩;have a1:=ay y.1 o G (aD hI) (aE L);have B4:Z4 Wb.heap.size Wb (w3.alloc (.cells (y.1.vals o G) 29)):=bt N (aj w3 _);have z3:=N.size;have T:=b6.o.bel E hh hD I (B4.mono zb);have cn:=T.n;obtain⟨⟨v1,k1⟩,f1⟩:=T.b1;obtain⟨⟨v2,k2⟩,f2⟩:=T.b2;obtain⟨-,f3⟩:=T.b3;have co:=((B4.mono zb).cell (p:=⟨h+3,0,Z7⟩) (by show h+3<h+11;omega)).trans av;have R4:=ak w3 (y.1.vals o G) 29 (0,0);have N4:=ae R4 29 _ (cB _ _ _);have a0:=lh T;have HI:=lh hI;have a4:=lh L;have af:=lh Y;have ad:=lh B4;clear hI L a9 Y N T B4)
   exact⟨a0.o.up,s,a6.o,a0.o,_,K,co,b7.o.below ad.o⟩
  rw[ZT ht] at X;rw[ZO ht] at t3;have a6:=lh X;clear ht X;gi_wp2_with (first|(refine⟨trivial,?_⟩;gi_at_call 92;refine (CallsIn.inRound _ (Yi.2 b8.o)).mono ?_;rintro _ w3 ⟨⟨o,G,rfl,hI,L,a9,Y⟩,N⟩;have a1:=ay y.1 o G (aD hI) (aE L);have B4:Z4 Wb.heap.size Wb (w3.alloc (.cells (y.1.vals o G) 29)):=bt N (aj w3 _);have z3:=N.size;have T:=b6.o.bel E hh hD I (B4.mono zb);have cn:=T.n;obtain⟨⟨v1,k1⟩,f1⟩:=T.b1;obtain⟨⟨v2,k2⟩,f2⟩:=T.b2;obtain⟨-,f3⟩:=T.b3;have co:=((B4.mono zb).cell (p:=⟨h+3,0,Z7⟩) (by show h+3<h+11;omega)).trans av;have R4:=ak w3 (y.1.vals o G) 29 (0,0);have N4:=ae R4 29 _ (cB _ _ _);have a0:=lh T;have HI:=lh hI;have a4:=lh L;have af:=lh Y;have ad:=lh B4;clear hI L a9 Y N T B4)|(gi_at_builtin;have a3:=aj (w3.alloc (.cells (y.1.vals o G) 29)) (.cells (y.1.vals o G) 29);have ag:=(b7.o.below ad.o).below a3;have zA:=a0.o.z;have cb:s.length<=1000:=(by simp only[Yt] at br;omega);have c0:=jC ag.own;refine sG _ rfl (.tmp 32) (.tmp 34) 33 29 _ _ 33 336 rfl Tryz.underlying33 kI xf xh xj (ah _ _ _) (by decide) (h+11) (.slice va s.length vc) (.slice (Z9 ⟨w3.heap.size+1,0,Z7⟩) 1 1) s.length 1 (ec K) (y.1.vals o G).toList rfl c0 rfl (vE (by simp) (ah _ _ _)) (by decide) (all1 a1) (by unfold YQ;omega) (by omega) (by simp at zA |-;omega) ?_;intro a5 c5 w5 b4 bb bj;have zW:h+11<=((w3.alloc (.cells (y.1.vals o G) 29)).alloc (.cells (y.1.vals o G) 29)).heap.size:=(by simp at zA |-;omega);have b5:Z4 (h+11) ((w3.alloc (.cells (y.1.vals o G) 29)).alloc (.cells (y.1.vals o G) 29)) w5:=fy bb (fun q hq=>(ax ag.own q hq).1) zW;have A6:=(a0.o.bel E hh hD I (a3.mono zA)).bel E hh hD I b5;have c2:=lh A6;have c6:=(b5.cell (p:=⟨h+3,0,Z7⟩) (by show h+3<h+11;omega)).trans ((a3.cell (p:=⟨h+3,0,Z7⟩) (by show h+3<_;omega)).trans co);have f6:=A6.b3.2;have bp:GJ (h+11) ((w3.alloc (.cells (y.1.vals o G) 29)).alloc (.cells (y.1.vals o G) 29)) (Value.slice va s.length vc).ownBlock (y.1.vals o G) (cY y):=(by obtain⟨ga,gc,rfl,cq,-⟩:=V7 HI.o;obtain⟨c4,c7,rfl,ci,-⟩:=V7 a4.o;exact⟨ga,gc,c4,c7,rfl,(by show y.2.1.length<=_;omega),(by show y.2.2.length<=_;omega),rfl,(a4.o.below (aj w3 _)).below a3,fun h0 b hb=>⟨fun e=>(by have q1:=(ax b7.o.own b e).2;have q2:=af.o b hb;omega),(by have q2:=af.o b hb;omega),(by have q3:=sx a4.o h0 b hb;simp;omega)⟩⟩);have c3:=lh (ag.snoc (x:=cY y) (tP b4) bb bj (ah _ _ _) a1 bp);clear bp A6 b4 bb bj a3 b5 ag c0 zW))
  have A7:=(c2.o.set (i:=3) (v:=.slice a5 (s.length+1) c5) E a2 hh hD I (.inr (.inr rfl)));refine⟨A7.up,s++[y],a6.o,A7,.slice a5 (s.length+1) c5,K++[y.1.vals o G],YJ _ _ _ (by rw[c6];rfl),?_⟩
  rw[XL];exact (c3.o.keep (de w5 ⟨h+3,0,Z7⟩ (.slice a5 (s.length+1) c5)).size (fun k hk bd=>(de w5 ⟨h+3,0,Z7⟩ (.slice a5 (s.length+1) c5)).block k bd (fun e=>by have:=ZL e;simp at this;omega)))
 have b9:=vn (dZ name) VJ (sY name) (AlJ w0 w h p sv l fl cd id name r .ready) (AlX w0 w h p sv l fl cd id name r .done (Z9 .ret)) (r.D+1) p (h+7) (h+5) (h+6) (h+8) (h+4) sv l fl cd ca id 65 w0 W [] 3 2 (fun c s W' hj=>⟨hj.1.ri,hj.1.sh⟩) bi (fun c s k rc W1 V h2 _ _=>(HY c s k rc W1 V h2).mono fun e W' h=>by cases cg:dZ name s k rc <;> (rw[cg] at h;exact h)) (by decide) (by omega) rfl ⟨hA,_,[],bs,HJ.start _ _⟩ c8 (by omega) hl c9;rw[hR] at b9;refine b9.mono ?_
 clear b9 bi HY bs hA;rintro e B ⟨⟨v,rfl⟩,ab⟩;refine⟨⟨v,rfl⟩,?_⟩
 unfold pZ at ab;have bk:∀ (pd:Zm Code) (k:Nat),k≠h+9->k≠h+10->((r.gone pd B).putObj (h+9) (.deferred Z7)).heap[k]?=B.heap[k]?:=fun pd k V h2=>(YB V).trans (YB (by omega))
 have S:∀ (pd:Zm Code) (k:Nat),k≠h+10->(r.gone pd B).heap[k]?=B.heap[k]?:=fun pd k h2=>YB (by omega)
 obtain⟨R1,cR⟩:=R
 cases R1 with
 | error e =>
   obtain⟨V,h2,h3⟩:=ab;replace Z:(([],e),cR)=g:=Z
   subst Z;refine .inr ⟨.ret,V.up,?_⟩
   have hK:(r.gone (Z9 .ret) B).heap[h+9]?=Z9 (.deferred (Z9 [])):=(S _ _ (by omega)).trans (hD ▸ V.up.dfr);have x1:(r.gone (Z9 .ret) B).cell? ⟨h+1,0,Z7⟩=Z9 (.slice Z7 0 0):=(ZU (a:=⟨h+1,0,Z7⟩) (S _ (h+1) (by omega))).trans h2;have x2:(r.gone (Z9 .ret) B).cell? ⟨h+2,0,Z7⟩=Z9 (.int .i64 e):=(ZU (a:=⟨h+2,0,Z7⟩) (S _ (h+2) (by omega))).trans h3;have hF:=vB (W':=(r.gone (Z9 .ret) B).putObj (h+9) (.deferred Z7)) V.sh V.g E hh I (fun k hk=>bk _ k (by omega) (by omega)) (by simp [Rf.gone]) rfl rfl rfl;gi_wp2
   exact p5 rfl rfl rfl hK rfl x1 x2 ⟨.slice Z7 0 0,[],rfl,HJ.start _ _,hF.1,hF.2⟩
 | ok sc =>
   obtain⟨s,d⟩:=sc;obtain⟨m,⟨H,ov,K,ho,O⟩,a8⟩:=ab;obtain⟨va,vc,rfl⟩:=bX O.own;rw[Zt] at ho O;have z1:=H.z
   have F:SHs w0 B p sv l fl cd cR/\w.grownBy B (Z9 p)/\Bx B (h+1)/\Bx B (h+2)/\B.cell? ⟨h+3,0,Z7⟩=Z9 (.slice va s.length vc)/\HJ (h+11) B (.slice va s.length vc) (s.map cY) K/\B.cell? ⟨h+4,0,Z7⟩=Z9 (.int .i64 d)/\Rup r .ready Z7 B/\h+11<=B.heap.size:=by
    rcases a8 with ⟨rfl,rfl⟩|rfl
    .exact⟨H.sh,H.g,H.b1,H.b2,ho,O,H.ri.v,H.up,H.z⟩
    .have ar:=de m ⟨h+4,0,Z7⟩ (.int .i64 d);have ao:∀ k,k<m.heap.size->k≠h+4->(m.setCell ⟨h+4,0,Z7⟩ (.int .i64 d)).heap[k]?=m.heap[k]?:=fun k V h2=>ar.block k V (fun e=>h2 (ZL e))
     refine⟨H.sh.other ar (by show p≠h+4;omega) (by show _<=h+4;omega) (fun b hb=>by have:=I b hb;show b≠h+4;omega),bx H.g (gJ ar (by show w.heap.size<=h+4;omega) (by omega)),H.b1.set,H.b2.set,(ZU (a:=⟨h+3,0,Z7⟩) (ao (h+3) (by omega) (by omega))).trans ho,O.keep ar.size (fun k hk bd=>ao k bd (by omega)),YJ _ _ _ (by rw[H.ri.v];rfl),⟨?_,?_⟩,by simpa using z1⟩
     .rw[ao _ (by omega) (by omega)];exact H.up.lp
     .rw[ao _ (by omega) (by omega)];exact H.up.dfr
   clear a8 ho O H z1;obtain⟨q1,q2,q3,q4,q5,q6,q7,q8,q9⟩:=F;refine .inl ⟨q8,?_⟩
   have hK:(r.gone Z7 B).heap[h+9]?=Z9 (.deferred (Z9 [])):=(S _ _ (by omega)).trans (hD ▸ q8.dfr);have x1:=q3.of (S Z7 (h+1) (by omega));have x2:=q4.of (S Z7 (h+2) (by omega));have x3:=(ZU (a:=⟨h+3,0,Z7⟩) (S Z7 (h+3) (by omega))).trans q5;have x4:=(ZU (a:=⟨h+4,0,Z7⟩) (S Z7 (h+4) (by omega))).trans q7;have bc:=S Z7;have bg:B.heap.size<=(r.gone Z7 B).heap.size:=by simp [Rf.gone]
   have aa:(r.gone Z7 B).os=B.os/\(r.gone Z7 B).tape=B.tape/\(r.gone Z7 B).output=B.output:=⟨rfl,rfl,rfl⟩;generalize r.gone Z7 B=Wg at hK x1 x2 x3 x4 bc bg aa |-;clear bk S;obtain⟨⟨v1,c1⟩,f1⟩:=x1;obtain⟨⟨v2,A⟩,f2⟩:=x2
   have b0:∀ (u1 u2:Z1) (W5:ZY),W5=(Wg.setCell ⟨h+1,0,Z7⟩ u1).setCell ⟨h+2,0,Z7⟩ u2->W5.heap[h+9]?=Z9 (.deferred (Z9 []))/\W5.cell? ⟨h+1,0,Z7⟩=Z9 u1/\W5.cell? ⟨h+2,0,Z7⟩=Z9 u2/\SHs w0 (W5.putObj (h+9) (.deferred Z7)) p sv l fl cd cR/\w.grownBy (W5.putObj (h+9) (.deferred Z7)) (Z9 p)/\HJ (h+11) (W5.putObj (h+9) (.deferred Z7)) (.slice va s.length vc) (s.map cY) K:=by
    rintro u1 u2 W5 rfl;have e5:∀ k,k≠h+1->k≠h+2->((Wg.setCell ⟨h+1,0,Z7⟩ u1).setCell ⟨h+2,0,Z7⟩ u2).heap[k]?=Wg.heap[k]?:=fun k k1 k2=>(WA _ ⟨h+2,0,Z7⟩ k u2 k2).trans (WA _ ⟨h+1,0,Z7⟩ k u1 k1)
    have e6:∀ k,(k<h\/h+11<=k)->(((Wg.setCell ⟨h+1,0,Z7⟩ u1).setCell ⟨h+2,0,Z7⟩ u2).putObj (h+9) (.deferred Z7)).heap[k]?=B.heap[k]?:=fun k hk=>(YB (by omega)).trans ((e5 k (by omega) (by omega)).trans (bc k (by omega)))
    have z6:B.heap.size<=(((Wg.setCell ⟨h+1,0,Z7⟩ u1).setCell ⟨h+2,0,Z7⟩ u2).putObj (h+9) (.deferred Z7)).heap.size:=by simpa using bg
    have hF:=vB q1 q2 E hh I e6 z6 aa.1 aa.2.1 aa.2.2;exact⟨(e5 _ (by omega) (by omega)).trans hK,(Y7 _ _ _ _ (by intro e;have:=Y8 Addr.block e;simp at this)).trans (YJ _ _ _ (by rw[c1];rfl)),YJ _ _ _ (by rw[Y7 _ _ _ _ (by intro e;have:=Y8 Addr.block e;simp at this),A];rfl),hF.1,hF.2,q6.keep z6 (fun k hk _=>e6 k (.inr hk))⟩
   have HE:=lh b0;clear b0 bc bg aa q1 q2 q3 q4 q5 q6 q7 q8 q9;by_cases hc:d=0
   .subst hc;replace Z:((s,0),cR)=g:=Z
    subst Z;gi_wp2
    obtain⟨m1,m2,m3,m4,m5,m6⟩:=HE.o (.slice va s.length vc) (.int .i64 0) _ rfl;exact p5 rfl rfl rfl m1 rfl m2 m3 ⟨_,_,rfl,(by rw[hh];exact m6.le (by omega)),m4,m5⟩
   .have t1:(d != 0)=ZZ:=Zi.2 hc;replace Z:(if d≠0 then (([]:Z3 Fu),d) else (s,0),cR)=g:=Z
    rw[ZT hc] at Z;subst Z;obtain⟨m1,m2,m3,m4,m5,m6⟩:=HE.o (.slice Z7 0 0) (.int .i64 d) _ rfl;have cr:Tryz.prog.follows .mixedOrders=ZZ:=by kernel_rfl
    gi_wp2
    gi_region_with_o (fail)
    all_goals gi_wp2
    all_goals exact p5 rfl rfl rfl m1 rfl m2 m3 ⟨.slice Z7 0 0,[],rfl,HJ.start _ _,m4.below (Below.refl _ _).drew,bx m5 (Below.refl _ _).drew⟩
end
def dz(x:Fu)(s:Z6):Fu:=({ x.1 with name:=s },x.2)
def bT(x:Fu)(s:Z6):Fu:=({ x.1 with target:=s },x.2)
theorem sR(f G:Z1)(s:Z6):(e.vals f G).setIfInBounds 1 (.string s)=({ e with name:=s }:En).vals f G:=by
 unfold En.vals;simp only[Zw,Y9,Za]
theorem sS(f G:Z1)(s:Z6):(e.vals f G).setIfInBounds 29 (.string s)=({ e with target:=s }:En).vals f G:=by
 unfold En.vals;simp only[Zw,Y9,Za]
def jO(id:Int)(x:Fu)(T:Z6)(s:Z3 Fu):Z3 Ch:=bJ id x::bI id (dz x T)::s.map fun a=>bI id (bT a T)
def gC(l:Z3 Rw)(fl cd C id:Int)(name T:Z6):(Z3 Ch × Int) × Int :=
 if Ds.name (Z5 T)=Z2 then (([],1),C)
 else if (aG l fl cd C id 0 name).1.2≠0 then (([],(aG l fl cd C id 0 name).1.2),(aG l fl cd C id 0 name).2)
 else if Xp (Z5 name)=ZZ\/Xp (Z5 T)=ZZ then (([],7),(aG l fl cd C id 0 name).2)
 else if cE (bY l fl cd (aG l fl cd C id 0 name).2 id T).1.2≠0 then (([],cE (bY l fl cd (aG l fl cd C id 0 name).2 id T).1.2),(bY l fl cd (aG l fl cd C id 0 name).2 id T).2)
 else if (dj l fl cd (bY l fl cd (aG l fl cd C id 0 name).2 id T).2 id name).1.2≠0 then (([],(dj l fl cd (bY l fl cd (aG l fl cd C id 0 name).2 id T).2 id name).1.2),(dj l fl cd (bY l fl cd (aG l fl cd C id 0 name).2 id T).2 id name).2)
 else ((jO id (aG l fl cd C id 0 name).1.1 T (dj l fl cd (bY l fl cd (aG l fl cd C id 0 name).2 id T).2 id name).1.1,0),(dj l fl cd (bY l fl cd (aG l fl cd C id 0 name).2 id T).2 id name).2)
def Ali(y:Fu):Prop:=y.2.1=[]/\y.2.2=[]/\y.1.name.size<=60
theorem o7{σ ρ:Type}{S:σ->Z6->Z6->Except ρ σ}{l:Z3 Rw}{id fl cd:Int}{L:ZP}(I:σ->Prop)(B:∀ s k r j,I s->(Z5 k).headD 0=L->S s k r=.ok j->I j) :
 ∀ (f:Nat) (c:Int) (k:Z3 ZP) (s j:σ) (e c':Int),I s->bS l id fl cd L S f c k s=(.ok (j,e),c')->I j
 | 0,c,k,s,j,e,c',H,h=>by
   rw[bS] at h;cases h;exact H
 | f+1,c,k,s,j,e,c',H,h=>by
   rw[bS] at h;split at h
   .cases h;exact H
   split at h
   .cases h;exact H
   rename_i x _;split at h
   .cases h;exact H
   rename_i C;split at h
   .exact o7 I B f _ _ _ _ _ _ H h
   rename_i E
   have G:(Z5 x.2.1).headD 0=L:=by
    refine Yf.1 ?_
    have J:¬ L.toNat<((Z5 x.2.1).headD 0).toNat:=fun h=>C (YU.2 h)
    have K:¬ ((Z5 x.2.1).headD 0).toNat<L.toNat:=fun h=>E (YU.2 h)
    omega
   cases o:S s x.2.1 x.2.2 with
   | ok N =>
     rw[o] at h;exact o7 I B f _ _ _ _ _ _ (B _ _ _ _ H G o) h
   | error e=>rw[o] at h;cases h
theorem Fx(h:aA y=ZZ)(o:(dL y).headD 0=65):Ali y:=by
 have C:=lu y h;have B:=iR y h
 have E:y.1.kind=2:=by
  unfold dL Ek.key at o;rw[ZT ⟨by unfold Ek.isKind;simp only[ZQ,decide_eq_true_eq];exact C,B.1⟩] at o;have H:Ek.letter y.1.kind=65:=o;have:y.1.kind=0\/y.1.kind=1\/y.1.kind=2\/y.1.kind=3\/y.1.kind=4:=by omega
  rcases this with e|e|e|e|e
  .rw[e] at H;exact absurd H (by decide)
  .rw[e] at H;exact absurd H (by decide)
  .exact e
  .rw[e] at H;exact absurd H (by decide)
  .rw[e] at H;exact absurd H (by decide)
 unfold aA at h;rw[ZX (by omega),ZX (by omega),ZT E] at h;unfold eY at h;simp only[ZQ] at h
 have:=(dV _ _ _ _ _ _).1 h.2;refine⟨this.2.1.symm,this.2.2.symm,?_⟩
 have:=B.1;rw[Z0] at this;omega
theorem oR(l:Z3 Rw)(fl cd C id:Int)(name:Z6):∀ y∈(dj l fl cd C id name).1.1,Ali y:=by
 unfold dj
 cases G:bS l id fl cd 65 (dZ name) (l.length+1) C [(65:ZP) - 1,255] [] with
 | mk a c =>
   cases a with
   | error e=>intro y o;cases o
   | ok p =>
     obtain⟨s,d⟩:=p
     have B:=o7 (I:=fun s=>∀ y∈s,Ali y) (fun s k r j B E H=>by
      unfold dZ at H;split at H
      .cases H
      rename_i J;obtain⟨O,K⟩:=lw J;split at H
      .cases H
       intro y o;rcases List.mem_append.1 o with o|o
       .exact B y o
       .rw[List.mem_singleton] at o;subst o;exact Fx O (by rw[K];exact E)
      .cases H;exact B) _ _ _ _ _ _ _ (fun y o=>by cases o) G
     dsimp only;split
     .intro y o;cases o
     .exact B
theorem o8{σ ρ:Type}{S:σ->Z6->Z6->Except ρ σ}{l:Z3 Rw}{id fl cd:Int}{L:ZP}(o:σ->Nat)(I:∀ s k r j,S s k r=.ok j->o j<=o s+1) :
 ∀ (f:Nat) (c:Int) (k:Z3 ZP) (s j:σ) (e c':Int),bS l id fl cd L S f c k s=(.ok (j,e),c')->o j<=o s+f
 | 0,c,k,s,j,e,c',h=>by
   rw[bS] at h;cases h;omega
 | f+1,c,k,s,j,e,c',h=>by
   rw[bS] at h;split at h
   .cases h;omega
   split at h
   .cases h;omega
   rename_i x _;split at h
   .cases h;omega
   split at h
   .have:=o8 o I f _ _ _ _ _ _ h;omega
   cases H:S s x.2.1 x.2.2 with
   | ok E =>
     rw[H] at h;have B:=o8 o I f _ _ _ _ _ _ h;have C:=I _ _ _ _ H;omega
   | error e=>rw[H] at h;cases h
theorem lI{σ ρ:Type}{step:σ->Z6->Z6->Except ρ σ}{l:Z3 Rw}{id fl cd:Int}{L:ZP} :
 ∀ (f:Nat) (c:Int) (k:Z3 ZP) (s:σ),c<=(bS l id fl cd L step f c k s).2/\(bS l id fl cd L step f c k s).2<=c+f
 | 0,c,k,s=>by rw[bS];exact⟨Int.le_refl _,by show c<=c+(0:Nat);omega⟩
 | f+1,c,k,s=>by
   have q:c<=c+1/\c+1<=c+((f+1:Nat):Int):=⟨by omega,by omega⟩;rw[bS];split
   .exact q
   split
   .exact q
   rename_i x _;split
   .exact q
   split
   .have:=lI (step:=step) (l:=l) (id:=id) (fl:=fl) (cd:=cd) (L:=L) f (c+1) (Z5 x.2.1) s;omega
   cases step s x.2.1 x.2.2 with
   | ok S=>have:=lI (step:=step) (l:=l) (id:=id) (fl:=fl) (cd:=cd) (L:=L) f (c+1) (Z5 x.2.1) S;dsimp only;omega
   | error e=>exact q
theorem oN(l:Z3 Rw)(fl cd C id:Int)(name:Z6):(dj l fl cd C id name).1.1.length<=l.length+1:=by
 unfold dj
 cases H:bS l id fl cd 65 (dZ name) (l.length+1) C [(65:ZP) - 1,255] [] with
 | mk a c =>
   cases a with
   | error e=>exact Zc _
   | ok p =>
     obtain⟨s,d⟩:=p;have h:=o8 VJ (sY name) _ _ _ _ _ _ _ H;dsimp only;split
     .exact Zc _
     .simpa using h
theorem io{G:Z1}(S:SHs w0 m p sv l fl cd c)(o:w.grownBy m (Z9 p))(I:IS t f y.2.1)(H:GS t G y.2.2)(B:∀ q,f.ownBlock=Z9 q->m.heap.size<=q)(C:∀ q,G.ownBlock=Z9 q->m.heap.size<=q)(K:SHs w0 t p sv l fl cd A)(E:m.grownBy t (Z9 p)) :
 bh (y.1.vals f G).toList=ZZ/\p<t.heap.size/\p<m.heap.size/\(∀ q,f.ownBlock=Z9 q->p<q)/\(∀ q,G.ownBlock=Z9 q->p<q)/\t.heap.size≠p/\w.heap.size<=t.heap.size/\Hid (IS t f y.2.1)/\Hid (GS t G y.2.2)/\Hid (IS (t.alloc (.cells (y.1.vals f G) 29)) f y.2.1)/\Hid (GS (t.alloc (.cells (y.1.vals f G) 29)) G y.2.2)/\row (t.alloc (.cells (y.1.vals f G) 29)) t.heap.size=y.1.vals f G/\Held (t.alloc (.cells (y.1.vals f G) 29)) t.heap.size 33/\Hid (w.grownBy (t.alloc (.cells (y.1.vals f G) 29)) (Z9 p))/\Hid (SHs w0 (t.alloc (.cells (y.1.vals f G) 29)) p sv l fl cd A):=by
 have Z:=K.pl;have L:=S.pl;have b:=aj t (.cells (y.1.vals f G) 29);exact⟨ay y.1 f G (aD I) (aE H),Z,L,fun q J=>by have:=B q J;omega,fun q J=>by have:=C q J;omega,by omega,(aJ o E).size,lh I,lh H,lh (I.below b),lh (H.below b),ak t _ _ _,gQ t _ _ (ah _ _ _),lh (bx (aJ o E) (b.mono (aJ o E).size)),lh (K.below b)⟩
section
theorem cU{a b c:ZY}{p:Zm Nat}(h:a.grownBy b p)(k:Z4 b.heap.size b c):a.grownBy c p:=bx h (k.mono h.size)
theorem fS{n:Nat}(h:Held w b n)(o:w.grownBy w' (Z9 p))(H:b≠p):Held w' b n:=h.of_block (o.block b h.lt (fun e=>H (ZL e)))
theorem uD{l:Z3 Int}(I:IS x f l)(L:x.heap.size<=r)(h:IS w f l):IS (w.setCell ⟨r,i,Z7⟩ v) f l:=by
 obtain⟨a,c,rfl,N,J⟩:=I;obtain⟨O,c',e,-,E⟩:=h;cases e
 refine⟨_,_,rfl,N,fun G=>?_⟩
 obtain⟨b,o,ha,S,-⟩:=J G;obtain⟨R,T,B,C,H⟩:=E G;subst ha;cases B
 exact⟨_,_,rfl,by simpa using C,fun k K=>by rw[Y7 _ _ _ _ (by intro h;cases h;omega)];exact H k K⟩
theorem uQ{l:Z3 Gr}(K:GS x f l)(N:x.heap.size<=r)(h:GS w f l):GS (w.setCell ⟨r,i,Z7⟩ v) f l:=by
 obtain⟨a,c,rfl,O,L⟩:=K;obtain⟨R,c',e,-,G⟩:=h;cases e
 refine⟨_,_,rfl,O,fun J=>?_⟩
 obtain⟨b,o,ha,T,-⟩:=L J;obtain⟨S,U,C,E,H⟩:=G J;subst ha;cases C
 have B:∀ j,(w.setCell ⟨r,i,Z7⟩ v).cell? ⟨b,j,Z7⟩=w.cell? ⟨b,j,Z7⟩:=fun j=>Y7 _ _ _ _ (by intro h;cases h;omega)
 exact⟨_,_,rfl,by simpa using E,fun k I=>⟨(B _).trans (H k I).1,(B _).trans (H k I).2.1,(B _).trans (H k I).2.2⟩⟩
theorem uC(W:ZY)(a:Zm Addr)(c:Nat):IS W (.slice a 0 c) []:=⟨a,c,rfl,by simp,fun h=>by simp at h⟩
theorem uP(W:ZY)(a:Zm Addr)(c:Nat):GS W (.slice a 0 c) []:=⟨a,c,rfl,by simp,fun h=>by simp at h⟩
theorem vg(W:ZY)(x:Ch)(t:Y0):(W.alloc (.cells (ch5 x) t)).ownsRow W.heap.size t 5 (.slice (Z9 ⟨W.heap.size,0,Z7⟩) 1 1) 1 (cv [x]):=by
 refine⟨?_,.inr ⟨W.heap.size,1,ch5 x,rfl,ZV _,heap_alloc_new W _,ZV _,by unfold YQ;omega,rfl,?_⟩⟩
 .rw[vF];rfl
 .exact (show List.take (1*5) (ch5 x).toList=(ch5 x).toList from rfl).trans (List.append_nil _).symm
attribute [local go_sem ↓] aZ fb bf bq cl eX
attribute [local go_sem] bn aS aH bE bH aK aT ak aI aw az aM ah aQ aL aP aO aR aY aW bD ap aq
theorem zJ(p:Nat)(sv:Z1)(l:Z3 Rw)(fl cd ca id:Int)(name T:Z6)(w0 w:ZY)(hm:MaxL w0)(hT:Tab w0)(hS:SHs w0 w p sv l fl cd ca)(af:∀ b,sv.ownBlock=Z9 b->b<w.heap.size)(hl:l.length<=1000)(cw:0<=ca)(d4:ca<=80000)(ba:cd≠0/\cd≠6\/fl<=0)(d0:name.size<=1000)(cm:T.size<=1000) :
 Calls Z8 127 #[.iface 56 (.pointer (Z9 ⟨p,0,Z7⟩)),.int .i64 id,.string name,.string T] w fun r w'=>dm w0 w w' p sv l fl cd (gC l fl cd ca id name T) r:=by
 have S:=lh hS;have G:=lh (World.grownBy.refl w (Z9 p));have d7:=hS.b.size;have d5:=hS.pl;have c2:cd≠0\/fl<=0:=ba.imp (fun h=>h.1) (fun h=>h);have bj:=fun W (b:Z4 w0.heap.size w0 W)=>ez T W (hm.below b)
 have bd:=fun W (b:Z4 w0.heap.size w0 W)=>ti name W d0 (hm.below b)
 have be:=fun W (b:Z4 w0.heap.size w0 W)=>ti T W cm (hm.below b)
 clear hS;unfold gC;generalize Ds.name (Z5 T)=bv at bj |-;have HV:=lh bj;clear bj;cases bv
 rw[ZT rfl];rotate_left;rw[ZX (by simp)];have a9:=fun W (h:SHs w0 W p sv l fl cd ca)=>iy p sv l fl cd ca id 0 name w0 W hm hT h cw (by omega) c2
 have c0:=dS l fl cd ca id 0 name;have ck:=rP l fl cd ca id 0 name;generalize aG l fl cd ca id 0 name=gg at a9 c0 ck |-;obtain⟨⟨y,d⟩,cb⟩:=gg;dsimp only at c0 ck |-;have ag:=lh a9;clear a9;by_cases h0:d=0
 rotate_left;rw[ZT h0];have t1:(d != 0)=ZZ:=by rw[Zi];exact h0
 clear h0;rotate_right
 rw[ZX (fun h=>h h0)];subst h0;generalize Xp (Z5 name)=b1 at bd |-;generalize Xp (Z5 T)=b2 at be |-;have al:=lh bd;have ao:=lh be;clear bd be;cases b1
 rotate_left;rw[ZT (.inl rfl)];rotate_right
 cases b2
 rotate_left;rw[ZT (.inr rfl)];rotate_right
 rw[ZX (by simp)];have bb:=fun W (h:SHs w0 W p sv l fl cd cb)=>mx p sv l fl cd cb id T w0 W hm hT h (by omega) (by omega) ba
 have c4:=jq l fl cd cb id T;generalize bY l fl cd cb id T=gf at bb c4 |-;obtain⟨⟨yf,A⟩,cc⟩:=gf;dsimp only at c4 |-;have HF:=lh bb;clear bb;by_cases h1:cE A=0
 rotate_left;rw[ZT h1];have t1:(cE A != 0)=ZZ:=by rw[Zi];exact h1
 clear h1;rotate_right
 rw[ZX (fun h=>h h1)];have t2:(cE A != 0)=Z2:=by rw[h1];rfl
 clear h1;have b9:=fun W (h:SHs w0 W p sv l fl cd cc) (ho:∀ b,sv.ownBlock=Z9 b->b<W.heap.size)=>oe p sv l fl cd cc id name w0 W hm hT h ho hl (by omega) (by omega) ba
 have bc:=oR l fl cd cc id name;have c9:=oN l fl cd cc id name;generalize dj l fl cd cc id name=ga at b9 bc c9 |-;obtain⟨⟨s,c3⟩,ce⟩:=ga;dsimp only at bc c9 |-;have bk:=lh b9;clear b9;by_cases h3:c3=0
 rotate_left;rw[ZT h3];have t1:(c3 != 0)=ZZ:=by rw[Zi];exact h3
 clear h3;rotate_right
 rw[ZX (fun h=>h h3)];subst h3;have ch:∀ W (b:Z4 w0.heap.size w0 W) f Y (i1:IS W f y.2.1) (i2:GS W Y y.2.2),Calls Z8 140 #[.int .i64 id,.agg ((dz y T).1.vals f Y)] W fun r w'=>r=.returned (.agg #[.int .i64 0,.int .i64 id,.string (aC (dz y T).1.kind (dz y T).1.name),.string (bC (dz y T)),.string ⟨#[]⟩])/\Z4 W.heap.size W w':=fun W b f Y i1 i2=>mV id (dz y T) f Y W (hm.below b) (hT.below b) cm i1 i2
 have c5:∀ W f Y,bh (y.1.vals f Y).toList=ZZ->Calls Z8 210 #[.int .i64 id,.agg (y.1.vals f Y)] W fun r w'=>r=.returned (.agg #[.int .i64 1,.int .i64 id,.string (aC y.1.kind y.1.name),.string ⟨#[]⟩,.string ⟨#[]⟩])/\Z4 W.heap.size W w':=fun W f Y h=>th id y f Y W h
 have b3:=lh ch;have bp:=lh c5;clear ch c5;unfold jO bJ bI;generalize aC y.1.kind y.1.name=k1 at bp |-;generalize aC (dz y T).1.kind (dz y T).1.name=k2 at b3 |-;generalize bC (dz y T)=r2 at b3 |-;rotate_left
 iterate 6
  focus
   go_enter Tryz.func127,Tryz.ntmps127
   go_wp2_with first|go_at_call 32;(with_reducible refine (HV.o _ S.o.b).mono ?_);rintro _ m ⟨rfl,B⟩;have G:=lh (cU G.o B);have S:=lh (S.o.below B);clear B|go_at_call 82;(refine (ag.o _ S.o).mono ?_);rintro _ t ⟨⟨f,Y,rfl,hI,a4,a6,a7⟩,O,C⟩;clear ag;obtain⟨b0,z2,zS,O1,O2,Z,zw,I0,J0,I,J,R,H,G,S⟩:=io S.o G.o hI a4 a6 a7 O C;clear hI a4 a6 a7 O C|go_at_call 211;(with_reducible refine (al.o _ S.o.b).mono ?_);rintro _ w3 ⟨rfl,B⟩;clear al;have R:=am B R (by rw[ah];decide);have H:=H.below B;have I:=lh (I.o.below B);have J:=lh (J.o.below B);have G:=lh (cU G.o B);have S:=lh (S.o.below B);clear B|go_at_call 211;(with_reducible refine (ao.o _ S.o.b).mono ?_);rintro _ w3 ⟨rfl,B⟩;clear ao;have R:=am B R (by rw[ah];decide);have H:=H.below B;have I:=lh (I.o.below B);have J:=lh (J.o.below B);have G:=lh (cU G.o B);have S:=lh (S.o.below B);clear B|go_at_call 112;(refine (HF.o _ S.o).mono ?_);rintro _ w4 ⟨⟨b6,b7,rfl,a5,a3,-,-⟩,O,C⟩;have ac:=ay yf.1 b6 b7 (aD a5) (aE a3);have R:=dP R (by rw[ah];decide) C Z;have H:=fS H C Z;have I:=lh (fP I.o C O1);have J:=lh (fQ J.o C O2);have G:=lh (aJ G.o C);have S:=lh O;clear a5 a3 O C|(go_at_call 205;(refine (mj _ _).mono ?_);rintro _ _ ⟨rfl,rfl⟩)|go_at_call 209;(refine (bk.o _ S.o (fun b B=>ZH (af b B) G.o.size)).mono ?_);rintro _ w5 ⟨z,d1,rfl,hJ,O,C⟩;have zb:=H.lt;obtain⟨va,vc,rfl⟩:=bX hJ.own;rw[Zt] at hJ;have ar:=lh hJ;have R:=dP R (by rw[ah];decide) C Z;have H:=fS H C Z;have I:=lh (fP I.o C O1);have J:=lh (fQ J.o C O2);have G:=lh (aJ G.o C);have S:=lh O;clear hJ O C
   go_ret2
   exact⟨_,rfl,bu _,S.o,G.o⟩
 go_enter Tryz.func127,Tryz.ntmps127
 go_wp2_with (first|(go_at_call 32;(with_reducible refine (HV.o _ S.o.b).mono ?_);rintro _ m ⟨rfl,B⟩;have G:=lh (cU G.o B);have S:=lh (S.o.below B);clear B)|(go_at_call 82;(refine (ag.o _ S.o).mono ?_);rintro _ t ⟨⟨f,Y,rfl,hI,a4,a6,a7⟩,O,C⟩;clear ag;obtain⟨b0,z2,zS,O1,O2,Z,zw,I0,J0,I,J,R,H,G,S⟩:=io S.o G.o hI a4 a6 a7 O C;clear hI a4 a6 a7 O C)|(go_at_call 211;(with_reducible refine (al.o _ S.o.b).mono ?_);rintro _ w3 ⟨rfl,B⟩;clear al;have R:=am B R (by rw[ah];decide);have H:=H.below B;have I:=lh (I.o.below B);have J:=lh (J.o.below B);have G:=lh (cU G.o B);have S:=lh (S.o.below B);clear B)|(go_at_call 211;(with_reducible refine (ao.o _ S.o.b).mono ?_);rintro _ w3 ⟨rfl,B⟩;clear ao;have R:=am B R (by rw[ah];decide);have H:=H.below B;have I:=lh (I.o.below B);have J:=lh (J.o.below B);have G:=lh (cU G.o B);have S:=lh (S.o.below B);clear B)|(go_at_call 112;(refine (HF.o _ S.o).mono ?_);rintro _ w4 ⟨⟨b6,b7,rfl,a5,a3,-,-⟩,O,C⟩;have ac:=ay yf.1 b6 b7 (aD a5) (aE a3);have R:=dP R (by rw[ah];decide) C Z;have H:=fS H C Z;have I:=lh (fP I.o C O1);have J:=lh (fQ J.o C O2);have G:=lh (aJ G.o C);have S:=lh O;clear a5 a3 O C)|(go_at_call 205;(refine (mj _ _).mono ?_);rintro _ _ ⟨rfl,rfl⟩)|(go_at_call 209;(refine (bk.o _ S.o (fun b B=>ZH (af b B) G.o.size)).mono ?_);rintro _ w5 ⟨z,d1,rfl,hJ,O,C⟩;have zb:=H.lt;obtain⟨va,vc,rfl⟩:=bX hJ.own;rw[Zt] at hJ;have ar:=lh hJ;have R:=dP R (by rw[ah];decide) C Z;have H:=fS H C Z;have I:=lh (fP I.o C O1);have J:=lh (fQ J.o C O2);have G:=lh (aJ G.o C);have S:=lh O;clear hJ O C)|(go_at_call 210;(refine (bp.o _ _ _ b0).mono ?_);rintro _ X ⟨rfl,B⟩;have dl:=B.size;have ar:=lh (ar.o.below B);have R:=am B R (by rw[ah];decide);have H:=H.below B;have I:=lh (I.o.below B);have J:=lh (J.o.below B);have G:=lh (cU G.o B);have S:=lh (S.o.below B);have dq:=H.lt;have NA:=ae R 1 _ (aq _ _ _);have FA:=H.2.2 1;have RS:row (X.setCell ⟨t.heap.size,1,Z7⟩ (.string T)) t.heap.size=(dz y T).1.vals f Y:=((rm _ _ 1 (.string T) _ R (by rw[ah];decide)).trans (sR _ _ _ _));have a0:=aj (X.setCell ⟨t.heap.size,1,Z7⟩ (.string T)) (.cells #[.int .i64 1,.int .i64 id,.string k1,.string ⟨#[]⟩,.string ⟨#[]⟩] 67);have R6:=am a0 RS (by rw[ah];decide);have I6:=lh ((uD (i:=1) (v:=.string T) I0.o (ZV _) I.o).below a0);have J6:=lh ((uQ (i:=1) (v:=.string T) J0.o (ZV _) J.o).below a0);have GB:=lh (cU (de X ⟨t.heap.size,1,Z7⟩ (.string T)) a0);have B6:=(S.o.other GB.o (fun e=>Z e.symm) (by show w0.heap.size<=t.heap.size;omega) (fun b B=>by have:=af b B;show b≠t.heap.size;omega)).b;have b4:=vg (X.setCell ⟨t.heap.size,1,Z7⟩ (.string T)) (1,id,k1,⟨#[]⟩,⟨#[]⟩) 67;rw[show (X.setCell ⟨t.heap.size,1,Z7⟩ (.string T)).heap.size=X.heap.size by simp] at b4;have OW:=lh b4;have z6:X.heap.size<((X.setCell ⟨t.heap.size,1,Z7⟩ (.string T)).alloc (.cells #[.int .i64 1,.int .i64 id,.string k1,.string ⟨#[]⟩,.string ⟨#[]⟩] 67)).heap.size:=(by simp);clear B b4 a0)|(go_at_call 140;(refine (b3.o _ B6 f Y I6.o J6.o).mono ?_);rintro _ w7 ⟨rfl,B⟩;have OW:=lh (aV OW.o (fun x hx=>B.block x (ax OW.o x hx).2));have GB:=lh (cU GB.o B);have z7:=B.size;clear B)|(at_builtin;have b5:=aV OW.o (fun x hx=>(aj w7 (.cells #[.int .i64 0,.int .i64 id,.string k2,.string r2,.string ⟨#[]⟩] 67)).block x (ax OW.o x hx).2);refine dQ _ rfl (.tmp 63) (.tmp 67) 53 67 _ _ 5 64 rfl XJ gA fZ ge gi rfl (by decide) X.heap.size (.slice (Z9 ⟨X.heap.size,0,Z7⟩) 1 1) (.slice (Z9 ⟨w7.heap.size,0,Z7⟩) 1 1) 1 1 (cv [(1,id,k1,⟨#[]⟩,⟨#[]⟩)]) (cv [(0,id,k2,r2,⟨#[]⟩)]) rfl b5 rfl (iE w7 (0,id,k2,r2,⟨#[]⟩) _ _ rfl) (fC _) (by unfold YQ;omega) (by omega) (by simp;omega) ?_;intro a8 c8 w8 E c6 _;have br:=lh E;have co:=lh (bx (cU GB.o (aj w7 (.cells #[.int .i64 0,.int .i64 id,.string k2,.string r2,.string ⟨#[]⟩] 67))) (fy c6 (fun q hq=>(ax b5 q hq).1) (by simp;omega)));clear E c6 b5))
 have av:w8.ownsRow X.heap.size 67 5 (.slice a8 2 c8) 2 (cv ([(1,id,k1,⟨#[]⟩,⟨#[]⟩),(0,id,k2,r2,⟨#[]⟩)]++(s.take 0).map fun a=>(0,id,aC (bT a T).1.kind (bT a T).1.name,bC (bT a T),⟨#[]⟩))):=br.o;have cq:=lh av;clear av br OW R6 I6 J6 B6 NA FA RS;go_loopw [13,71] (fun v i wr=>∃ (k:Nat),k<=s.length/\i=.int .i64 k/\wr.ownsRow X.heap.size 67 5 v (k+2) (cv ([(1,id,k1,⟨#[]⟩,⟨#[]⟩),(0,id,k2,r2,⟨#[]⟩)]++(s.take k).map fun a=>(0,id,aC (bT a T).1.kind (bT a T).1.name,bC (bT a T),⟨#[]⟩)))/\X.grownBy wr (Z9 t.heap.size)) (fun _ i _=>s.length - (intOf i).toNat)
 case atStart=>exact⟨0,Zc _,rfl,cq.o,co.o⟩
 case round =>
  obtain⟨k,hk,rfl,E,C⟩:=hrel;obtain⟨ra,rc,rfl⟩:=bX E;have HO:=lh E;have HG:=lh C;have zg:=C.size;clear E C;by_cases ab:k<s.length
  .have bs:=ar.o.keep zg (fun j hj cz=>HG.o.block j cz (fun e=>by have:=ZL e;omega));obtain⟨d8,d9,GG,cn,b8,aa,-⟩:=bs.es (by rw[Zt];omega);rw[Zt] at cn b8 aa;injection cn with v1 v2 v3
   subst v1 v3;clear v2;obtain⟨b,o,rfl,B,a1,c1,a2,N,L,-,-,-⟩:=b8.2 k ab
   have ct:GG k=cY s[k]:=by
    have e1:(lst GG s.length)[k]?=(s.map cY)[k]?:=by rw[aa]
    unfold lst at e1;rw[Yg,List.getElem?_range ab,Yg,ZF ab] at e1;exact ZL e1
   obtain⟨g1,g2,g3⟩:=bc s[k] (List.getElem_mem ab);rw[ct] at L;unfold cY at L;rw[g1,g2] at L;simp only[Yt] at L
   have bi:s.take (k+1)=s.take k++[s[k]]:=List.take_succ_eq_append_getElem ab;generalize s[k]=q at g1 g2 g3 L bi;obtain⟨qe,ql,qg⟩:=q;simp only at g1 g2 g3 L
   subst g1 g2;have ac:=ay qe (.slice a1 0 c1) (.slice a2 0 N) rfl rfl;have d2:(mid wr b (o+k*33)).size=33:=by rw[L];exact ah _ _ _
   have j1:(0:Int)<=(k:Int):=by omega
   have j2:(k:Int)<(s.length:Int):=by omega
   have RQ:=ak wr (qe.vals (.slice a1 0 c1) (.slice a2 0 N)) 29 (0,0);have NQ:=ae RQ 29 _ (cB _ _ _);have FQ:=(gQ wr (qe.vals (.slice a1 0 c1) (.slice a2 0 N)) 29 (ah _ _ _)).2.2 29;obtain⟨V,bg⟩:∃ V:En,bT (qe,[],[]) T=(V,[],[]):=⟨_,rfl⟩;have ad:({ qe with target:=T }:En)=V:=congrArg Prod.fst bg;have d6:(qe.vals (.slice a1 0 c1) (.slice a2 0 N)).setIfInBounds 29 (.string T)=V.vals (.slice a1 0 c1) (.slice a2 0 N):=by rw[<-ad];exact sS _ _ _ _
   have ci:V.name.size<=1000:=by rw[<-ad];show qe.name.size<=1000;omega
   have U:((s.take (k+1)).map fun a=>((0,id,aC (bT a T).1.kind (bT a T).1.name,bC (bT a T),⟨#[]⟩):Ch))=((s.take k).map fun a=>((0,id,aC (bT a T).1.kind (bT a T).1.name,bC (bT a T),⟨#[]⟩):Ch))++[(0,id,aC V.kind V.name,bC (V,[],[]),⟨#[]⟩)]:=by
    rw[bi,XL,List.map_cons,List.map_nil,bg]
   have K:=fun W (b:Z4 w0.heap.size w0 W) (i1:IS W (.slice a1 0 c1) []) (i2:GS W (.slice a2 0 N) [])=>mV id (V,[],[]) (.slice a1 0 c1) (.slice a2 0 N) W (hm.below b) (hT.below b) ci i1 i2
   unfold bI ch5 at K;dsimp only at K;generalize aC V.kind V.name=k3 at K U;generalize bC (V,[],[])=r3 at K U;have cr:=lh K;have cp:=lh U;have d3:=ay V (.slice a1 0 c1) (.slice a2 0 N) rfl rfl;have cs:=lh (S.o.other HG.o (fun e=>Z e.symm) (by show w0.heap.size<=t.heap.size;omega) (fun b B=>by have:=af b B;show b≠t.heap.size;omega)).b;clear K U bg ad ci bi b8 aa bs g3
   go_wp2_with first|go_at_call 140;(refine (cr.o _ (bt cs.o (aj wr _)) (uC _ _ _) (uP _ _ _)).mono ?_);rintro _ w9 ⟨rfl,B⟩;have B9:=bt (aj wr (.cells (V.vals (.slice a1 0 c1) (.slice a2 0 N)) 29)) B;have O9:=lh (aV HO.o (fun x hx=>B9.block x (ax HO.o x hx).2));have G9:=lh (cU HG.o B9);have z9:=B9.size;clear B B9|at_builtin;have OQ:=aV O9.o (fun x hx=>(aj w9 (.cells #[.int .i64 0,.int .i64 id,.string k3,.string r3,.string ⟨#[]⟩] 67)).block x (ax O9.o x hx).2);refine dQ _ rfl (.tmp 77) (.tmp 81) 53 67 _ _ 5 64 rfl XJ gA fZ ge gi rfl (by decide) X.heap.size (.slice ra (k+2) rc) (.slice (Z9 ⟨w9.heap.size,0,Z7⟩) 1 1) (k+2) 1 _ (cv [(0,id,k3,r3,⟨#[]⟩)]) rfl OQ rfl (iE w9 (0,id,k3,r3,⟨#[]⟩) _ _ rfl) (fC _) (by unfold YQ;omega) (by omega) (by simp;omega) ?_;intro aX cX wX E c7 _;have OX:=lh E;have GX:=lh (bx (cU G9.o (aj w9 (.cells #[.int .i64 0,.int .i64 id,.string k3,.string r3,.string ⟨#[]⟩] 67))) (fy c7 (fun q hq=>(ax OQ q hq).1) (by simp;omega)));clear E c7 OQ
   go_roundw
   case rel=>exact⟨k+1,by omega,by go_num,by rw[cp.o,<-List.append_assoc,gP];exact OX.o,GX.o⟩
   case measure=>simp [intOf];omega
  .obtain rfl:k=s.length:=by omega
   rw[List.take_of_length_le (ZV _)] at HO;go_wp2_with fail
   go_ret2
   have cu:=S.o.other HG.o (fun e=>Z e.symm) (by show w0.heap.size<=t.heap.size;omega) (fun b B=>by have:=af b B;show b≠t.heap.size;omega);refine⟨.slice ra (s.length+2) rc,rfl,?_,cu,bx G.o (gJ HG.o zw (ZE zw (by omega)))⟩
   have cg:(([(1,id,k1,⟨#[]⟩,⟨#[]⟩),(0,id,k2,r2,⟨#[]⟩)]:Z3 Ch)++s.map fun a=>((0,id,aC (bT a T).1.kind (bT a T).1.name,bC (bT a T),⟨#[]⟩):Ch)).length=s.length+2:=by
    rw[List.length_append,Zt];show 2+s.length=s.length+2;omega
   have hc:=jp (w:=wr) (v:=.slice ra (s.length+2) rc) (l:=([(1,id,k1,⟨#[]⟩,⟨#[]⟩),(0,id,k2,r2,⟨#[]⟩)]:Z3 Ch)++s.map fun a=>(0,id,aC (bT a T).1.kind (bT a T).1.name,bC (bT a T),⟨#[]⟩)) (by rw[cg];omega) (by rw[cg];exact dU HO.o);exact hc
end
end Go.Proofs.YtnkjliahpeebjaaGreatDoor
