/- Contract of package catalog: Rename (the walk). -/
import Derived.RangeFuncNested
import Derived.RangeFuncBound
import Derived.Shelf.RegionOpen
import Derived.OwnWalkIn
import Derived.LoopNIn
import Derived.LoopIn
import Derived.Test.YtkafnmbldpofdaaGreatDoorAe
import Derived.Test.YtkafnmbldpofdaaGreatDoorSrt
namespace Go.Proofs.YtkafnmbldpofdaaGreatDoor
open Go.RowKit
section
structure Rf where
 fn:FuncId
 tmps:Array Value
 ps:Array Tmp
 asg:Code
 body:Code
 D:Nat
def Rf.loop(r:Rf)(s:LoopState)(p:Option Code):Obj:=.loop { state:=s,pending:=p,fn:=r.fn,tmps:=r.tmps,params:=r.ps,assign:=r.asg,body:=r.body,defers:=r.D }
structure Rup (r:Rf) (s:LoopState) (p:Option Code) (w:World):Prop where
 lp:w.heap[r.D+1]?=some (r.loop s p)
 dfr:w.heap[r.D]?=some (.deferred (some []))
theorem Rup.lt{r:Rf}{s:LoopState}{p:Option Code}{w:World}(h:Rup r s p w):r.D+1<w.heap.size:=(Array.getElem?_eq_some_iff.1 h.lp).1
theorem Rup.put{r:Rf}{s s':LoopState}{p p':Option Code}{w:World}(h:Rup r s p w):Rup r s' p' (w.putObj (r.D+1) (r.loop s' p')) :=
 ⟨World.putObj_heap_same h.lt,(World.putObj_heap_other (by omega)).trans h.dfr⟩
def Rf.busy(r:Rf)(w:World):World:=w.putObj (r.D+1) (r.loop .busy none)
def Rf.on(r:Rf)(w:World):World:=w.putObj (r.D+1) (r.loop .ready none)
def Rf.off(r:Rf)(c:Code)(w:World):World:=w.putObj (r.D+1) (r.loop .done (some c))
def Rf.gone(r:Rf)(p:Option Code)(w:World):World:=w.putObj (r.D+1) (r.loop .exhausted p)
theorem Rup.busy{r:Rf}{w:World}(h:Rup r .ready none w):Rup r .busy none (r.busy w):=h.put
theorem Rup.on{r:Rf}{w:World}(h:Rup r .busy none w):Rup r .ready none (r.on w):=h.put
theorem Rup.off{r:Rf}{c:Code}{w:World}(h:Rup r .busy none w):Rup r .done (some c) (r.off c w):=h.put
theorem Rup.gone{r:Rf}{s:LoopState}{p:Option Code}{w:World}(h:Rup r s p w):(r.gone p w).heap[r.D]?=some (.deferred (some [])):=(World.putObj_heap_other (by omega)).trans h.dfr
variable {F:Fence} {n:Nat} {P:Program}
def zs0(r:Rf)(J:World->Prop)(Jx:Code->World->Prop):Exit->Act->World->Prop
 | .normal,_,w=>Rup r .busy none w∧J w
 | .ret,_,w=>Rup r .busy none w∧Jx .ret w
 | .exit id,_,w=>Rup r .busy none w∧Jx (.exit id) w
 | .goto t,_,w=>Rup r .busy none w∧Jx (.goto t) w
 | .panic _,_,_=>False
 | .outgrown,_,_=>False
theorem zgG{r:Rf}{w:World}{vs:Array Value}{J:World->Prop}{Jx:Code->World->Prop}(hF:F.fn r.fn)(hu:Rup r .ready none w)(hs:vs.size=r.ps.size)(hasg:r.asg.wpIn (F.inRound (r.D+1)) n P (Exit.then (fun a w₁=>Rup r .ready none w₁∧r.body.wpIn (F.inRound (r.D+1)) n P (zs0 r J Jx) a (r.busy w₁)) (fun _ _ _=>False))
    { tmps:=(r.ps.zip vs).foldl (fun t (p,v)=>t.setIfInBounds p v) r.tmps,defers:=[] } w) :
  YieldAt F n P (r.D+1) vs w fun e w'=>(e=.returned (.bool true)∧∃ w1,Rup r .busy none w1∧J w1∧w'=r.on w1)∨(e=.returned (.bool false)∧∃ c w1,Rup r .busy none w1∧Jx c w1∧w'=r.off c w1):=by
 refine⟨r.fn,_,r.asg,r.body,run_yield (P:=P) (args:=vs) hu.lp hs,roundIn_of_wpIn hF (wpIn_mono hasg ?_)⟩
 have fin:∀ (jump:Option Code) (W3:World),Rup r .busy none W3->(Instr.endRound (r.D+1) jump).run P W3=.ok (.bool jump.isNone) (W3.putObj (r.D+1) (r.loop (if jump.isNone then .ready else .done) jump)):=fun jump W3 h3=>run_endRound (P:=P) jump h3.lp
 rintro e a W hp
 cases e with
 | normal =>
   obtain⟨hu1,hb⟩:=hp
   refine⟨_,run_beginRound hu1.lp rfl,wpIn_mono hb ?_⟩
   rintro e2 a2 W3 hp2
   cases e2 with
   | normal=>exact⟨_,_,fin none W3 hp2.1,.inl ⟨rfl,W3,hp2.1,hp2.2,rfl⟩⟩
   | ret=>exact⟨_,_,fin (some .ret) W3 hp2.1,.inr ⟨rfl,.ret,W3,hp2.1,hp2.2,rfl⟩⟩
   | exit id=>exact⟨_,_,fin (some (.exit id)) W3 hp2.1,.inr ⟨rfl,.exit id,W3,hp2.1,hp2.2,rfl⟩⟩
   | goto t=>exact⟨_,_,fin (some (.goto t)) W3 hp2.1,.inr ⟨rfl,.goto t,W3,hp2.1,hp2.2,rfl⟩⟩
   | panic ch=>exact hp2.elim
   | outgrown=>exact hp2.elim
 | ret=>exact hp.elim
 | exit id=>exact hp.elim
 | goto t=>exact hp.elim
 | panic ch=>exact hp.elim
 | outgrown=>exact hp.elim
theorem zlE{g:Operand}{ps:Array Tmp}{assign body:Code}{Q:Exit->Act->World->Prop}{a:Act}{w:World}(hro:F.round=none)(h1:1<=n){gf:Nat}{lb:Array Value}(hg:a.eval g=.func (.func gf) #[] lb)(hFg:F.fn gf)(eg:∀ args w,(callFunc gf args).run P w=.ok (.enter gf args) w)(h:∀ (r:Rf) (W:World),F.fn r.fn->r.tmps=a.tmps->r.ps=ps->r.asg=assign->r.body=body->r.D=w.heap.size->W=(w.alloc (.deferred (some []))).alloc (r.loop .ready none)->Rup r .ready none W ->
    CallsIn F (n - 1) P gf (#[.func (.yield (r.D+1)) #[] #[]]++lb) W fun e W2=>(∃ v,e=.returned v) ∧
     ((Rup r .ready none W2∧Q .normal { a with defers:={ target:=.collected r.D,args:=#[] }::a.defers } (r.gone none W2)) ∨
      (∃ c,Rup r .done (some c) W2∧c.wpIn F n P Q { a with defers:={ target:=.collected r.D,args:=#[] }::a.defers } (r.gone (some c) W2)))) :
  (Code.rangeFunc g ps assign body).wpIn F n P Q a w:=by
 refine wpIn_rangeFunc ?_
 intro fn hfn
 rw[hro]
 obtain⟨W1,hW1⟩:∃ W1,(w.alloc (.deferred (some []))).alloc ((Rf.mk fn a.tmps ps assign body w.heap.size).loop .ready none)=W1:=⟨_,rfl⟩
 have hu:Rup (Rf.mk fn a.tmps ps assign body w.heap.size) .ready none W1:=by
  rw[<-hW1]
  refine⟨?_,(Below.heap_alloc _ _ _ (by simp)).trans (World.alloc_heap_new w _)⟩
  have:=World.alloc_heap_new (w.alloc (.deferred (some []))) ((Rf.mk fn a.tmps ps assign body w.heap.size).loop .ready none)
  rwa [World.size_alloc] at this
 refine⟨w.heap.size+1,[{ target:=.collected w.heap.size,args:=#[] }],W1,{ target:=.fn (.func gf) lb,args:=#[.func (.yield (w.heap.size+1)) #[] #[]] },W1,gf,
  #[.func (.yield (w.heap.size+1)) #[] #[]]++lb,W1,(by rw[<-hW1];exact run_enterLoop_outer _ _ _ _ _),?_,?_,?_,fun _=>h1,?_⟩
 · simp only[resolve,hg]
   simp [go_sem]
 · intro f' hf';simp [Target.leads] at hf';subst hf';exact hFg
 · simp [invoke,go_sem,eg]
 · refine (h (Rf.mk fn a.tmps ps assign body w.heap.size) _ hfn rfl rfl rfl rfl rfl hW1.symm hu).mono ?_
   rintro e W2 ⟨⟨v,rfl⟩,(⟨hu2,hq⟩|⟨c,hu2,hq⟩)⟩
   · exact⟨none,_,run_endLoop (P:=P) hu2.lp (by simp),hq⟩
   · exact⟨some c,_,run_endLoop (P:=P) hu2.lp (by simp),hq⟩
end
section
set_option maxHeartbeats 8000000
set_option maxRecDepth 8000
attribute [local go_sem] Oper.semAt_some
def zb4(l:List Rw)(id fl cd:Int)(L:UInt8){σ ρ:Type}(step:σ->ByteArray->ByteArray->Except ρ σ):Nat->Int->List UInt8->σ->Except ρ (σ × Int) × Int
 | 0,c,_,s=>(.ok (s,0),c)
 | f+1,c,k,s=>if c+1=fl then (.ok (s,cd),c+1) else match nx id k l with
   | none=>(.ok (s,0),c+1)
   | some x=>if L<(Ds.bl x.2.1).headD 0 then (.ok (s,0),c+1) else if (Ds.bl x.2.1).headD 0<L then zb4 l id fl cd L step f (c+1) (Ds.bl x.2.1) s else match step s x.2.1 x.2.2 with
     | .ok s'=>zb4 l id fl cd L step f (c+1) (Ds.bl x.2.1) s'
     | .error e=>(.error e,c+1)
structure RI (w:World) (bl br bi bc cb p:Nat) (L:UInt8) (id:Int):Prop where
 l:w.cell? ⟨bl,0,none⟩=some (.int .u8 (L.toNat:Nat))
 r:w.cell? ⟨br,0,none⟩=some (.iface 37 (.pointer (some ⟨p,0,none⟩)))
 i:w.cell? ⟨bi,0,none⟩=some (.int .i64 id)
 c:w.cell? ⟨bc,0,none⟩=some (.pointer (some ⟨cb,0,none⟩))
 v:w.cell? ⟨cb,0,none⟩=some (.int .i64 0)
 f:w.frozen? ⟨cb,0,none⟩=false
def zio{σ ρ:Type}(cb:Nat)(J:Int->σ->World->Prop)(Jx:Int->ρ->World->Prop)(R:Except ρ (σ × Int) × Int)(w:World):Prop :=
 match R.1 with
 | .ok (s,code)=>∃ w1,J R.2 s w1∧(code=0∧w=w1∨w=w1.setCell ⟨cb,0,none⟩ (.int .i64 code))
 | .error x=>Jx R.2 x w
theorem zml(c d:UInt8)(W:World)(b:Nat)(h:W.cell? ⟨b,0,none⟩=some (.int .u8 (c.toNat:Nat)))(h2:W.cell? ⟨b,1,none⟩=some (.int .u8 (d.toNat:Nat))) :
  (convert 122 9 (.slice (some ⟨b,0,none⟩) 2 2)).run Tryz.prog W=.ok (.string ⟨#[c,d]⟩) W:=by
 refine run_convert_bytes_back (P:=Tryz.prog) W 122 9 5 ⟨b,0,none⟩ 2 [c,d] Tryz.underlying122 Tryz.underlying5 Tryz.underlying9 ?_
 intro j hj
 obtain rfl|rfl:j=0∨j=1:=by simp at hj;omega
 · simpa [Addr.add] using h
 · simpa [Addr.add] using h2
theorem zju(P:Program)(o:Oper)(a:Act)(C:World->Prop):Oper.askedIn Fence.wide P o a C=True:=eq_true (fun _ _ _ _=>trivial)
attribute [local go_sem] zju
theorem zmE(s:ByteArray)(h:1<=s.size):s[0]'h=(Ds.bl s).headD 0:=by
 unfold Ds.bl
 rw[List.headD_eq_head?_getD,List.head?_eq_getElem?]
 have:s.data.toList[0]?=some (s[0]'h):=by
  rw[List.getElem?_eq_getElem (show 0<s.data.toList.length by simpa using Nat.lt_of_lt_of_le Nat.zero_lt_one h)];rfl
 rw[this];rfl
theorem zig{σ ρ:Type}(step:σ->ByteArray->ByteArray->Except ρ σ)(len:σ->Nat)(hlen:∀ s k r s',step s k r=.ok s'->len s'<=len s+1)(J:Int->σ->World->Prop)(Jx:Int->ρ->World->Prop)(D p bl br bi bc cb:Nat)(sv:Value)(l:List Rw)(fl cd ca id:Int)(L:UInt8)(w0 w:World)(s0:σ)(n m:Nat)(hJ:∀ c s W,J c s W->RI W bl br bi bc cb p L id∧SHs w0 W p sv l fl cd c)(hJt:∀ c c' s W W',J c s W->W.grownBy W' (some p)->SHs w0 W' p sv l fl cd c'->J c' s W')(hY:∀ c s k r W,J c s W->len s<=len s0+l.length->(∃ i,(i,k,r)∈l)->1<=k.size->YieldAt Fence.wide m Tryz.prog D #[.string k,.string r] W fun e W'=>match step s k r with|.ok s'=>e=.returned (.bool true)∧J c s' W'|.error x=>e=.returned (.bool false)∧Jx c x W')(hw:IntKind.u8.wrap ((L.toNat:Int) - 1)=((L - 1).toNat:Int))(hn:1<=n)(hm:m=n - 1)(h0:J ca s0 w)(hc0:0<=ca)(hc1:ca<=100000)(hl:l.length<=1000)(hcd:cd≠0∧cd≠6∨fl<=0) :
  CallsIn Fence.wide n Tryz.prog 164 #[.func (.yield D) #[] #[],.pointer (some ⟨bl,0,none⟩),.pointer (some ⟨br,0,none⟩),.pointer (some ⟨bi,0,none⟩),.pointer (some ⟨bc,0,none⟩)] w fun e W'=>(∃ v,e=.returned v) ∧
   zio cb J Jx (zb4 l id fl cd L step (l.length+1) ca [L - 1,255] s0) W':=by
 subst hm
 have hR0:cnt id [L - 1,255] l<l.length+1:=Nat.lt_succ_of_le (cnt_le _ _ _)
 generalize hR:zb4 l id fl cd L step (l.length+1) ca [L - 1,255] s0=R
 have HR:=lh hR
 have HR0:=lh hR0
 have H0:=lh h0
 have hcl:=(hJ _ _ _ h0).1.l
 have hcv:=zml (L - 1) 255
 clear hR hR0 h0
 refine callsIn_of_wp Tryz.func164 rfl trivial ?_ rfl
 simp only[Tryz.ntmps164,List.size_toArray,List.length_cons,List.length_nil,Nat.reduceAdd,Nat.reduceSub,Array.replicate_succ,Array.replicate_zero,List.push_toArray,List.append_toArray,List.nil_append,List.cons_append]
 gi_wp2
 have B0:Below w.heap.size w (w.alloc (.cells #[.int .u8 ((L - 1).toNat:Nat),.int .u8 255] 5)):=(Below.refl _ _).alloc (Nat.le_refl _) _
 gi_loopw [6] (fun kv wr=>∃ (f:Nat) (c:Int) (k:ByteArray) (s:σ),kv=.string k∧Hid (zb4 l id fl cd L step f c (Ds.bl k) s=R)∧Hid (cnt id (Ds.bl k) l<f)∧0<=c∧c+f<=ca+l.length+1∧len s+f<=len s0+l.length+1∧Hid (J c s wr)) (fun kv _=>cnt id (Ds.bl (ztD kv)) l)
 case atStart=>exact⟨l.length+1,ca,_,s0,rfl,HR,HR0,hc0,by omega,by omega,lh (hJt _ _ _ _ _ H0.out (zaw _ B0) ((hJ _ _ _ H0.out).2.below B0))⟩
 case round =>
  obtain⟨f,c,k,s,rfl,HP,HC,hc2,hc3,hc4,HJ⟩:=hrel
  obtain⟨g,rfl⟩:∃ g,f=g+1:=⟨f - 1,by have:=HC.out;omega⟩
  obtain⟨⟨i1,i2,i3,i4,i5,i6⟩,hS⟩:=hJ _ _ _ HJ.out
  have hnx:=zmt p sv l fl cd c id k w0 wr hS hc2 (by omega)
  have hmt:=zl1 ⟨p,0,none⟩
  have HS:=lh hS
  clear hS i5 i6
  have hP:=HP.out
  unfold zb4 at hP
  by_cases hf:c+1=fl
  · rw[if_pos hf] at hP
    have hcd':cd≠0∧cd≠6:=by rcases hcd with h|h;exact h;omega
    unfold nxV at hnx
    rw[if_pos hf] at hnx
    have HN:=lh hnx
    have HPP:=lh hP
    have t1:(cd==6)=false:=by rw[beq_eq_false_iff_ne];exact hcd'.2
    have t2:(cd==0)=false:=by rw[beq_eq_false_iff_ne];exact hcd'.1
    have t3:(cd != 0)=true:=by rw[bne_iff_ne];exact hcd'.1
    have t4:(cd != 6)=true:=by rw[bne_iff_ne];exact hcd'.2
    clear hnx hP hcd' hf
    gi_wp2_with (refine⟨trivial,?_⟩;gi_at_call 363;(refine (callsIn_wide.2 HN.out).mono ?_);rintro _ w2 ⟨rfl,s1,s2⟩;have J2:=lh (hJt _ _ _ _ _ HJ.out s2 s1);obtain⟨⟨j1,j2,j3,j4,j5,j6⟩,-⟩:=hJ _ _ _ J2.out;clear s1 s2)
    refine bodyPost_ret (results_none rfl _ _ _) rfl ?_
    refine⟨⟨_,rfl⟩,?_⟩
    rw[<-HPP.out]
    exact⟨_,J2.out,.inr rfl⟩
  rw[if_neg hf] at hP
  unfold nxV at hnx
  rw[if_neg hf] at hnx
  clear hf
  cases hx:nx id (Ds.bl k) l with
  | none =>
    rw[hx] at hP hnx
    have HN:=lh hnx
    have HPP:=lh hP
    clear hnx hP hx
    gi_wp2_with (refine⟨trivial,?_⟩;gi_at_call 363;(refine (callsIn_wide.2 HN.out).mono ?_);rintro _ w2 ⟨rfl,s1,s2⟩;have J2:=lh (hJt _ _ _ _ _ HJ.out s2 s1);clear s1 s2)
    refine bodyPost_ret (results_none rfl _ _ _) rfl ?_
    refine⟨⟨_,rfl⟩,?_⟩
    rw[<-HPP.out]
    exact⟨_,J2.out,.inl ⟨rfl,rfl⟩⟩
  | some x =>
    rw[hx] at hP hnx
    obtain⟨hmem,-,hx3⟩:=zgw hx
    have hcn:=zsY hx
    obtain⟨xi,xk,xr⟩:=x
    have HMEM:=lh hmem
    clear hmem
    simp only at hP hnx hx3 hcn
    have hpos:1<=xk.size:=by
     rcases Nat.eq_zero_or_pos xk.size with h|h
     · have:Ds.bl xk=[]:=List.eq_nil_of_length_eq_zero (by rw[Ds.bl_length];exact h)
       rw[this,zo0] at hx3;cases hx3
     · exact h
    have HN:=lh hnx
    have HCM:=lh hcn
    have HCN:Hid (cnt id (Ds.bl xk) l<g):=lh (by have:=HC.out;omega)
    have hb0:xk[0]'hpos=(Ds.bl xk).headD 0:=zmE xk hpos
    have g0:(0:Int)<=0∧(0:Int)<(xk.size:Int):=by omega
    have hmx:Tryz.prog.follows .mixedOrders=true:=by kernel_rfl
    clear hnx hx hx3 hcn
    generalize (Ds.bl xk).headD 0=q at hP hb0
    by_cases h80:L<q
    · rw[if_pos h80] at hP
      have HPP:=lh hP
      have q1:((L.toNat:Nat):Int)<((q.toNat:Nat):Int):=Int.ofNat_lt.2 (UInt8.lt_iff_toNat_lt.1 h80)
      have q2:decide (((L.toNat:Nat):Int)<((q.toNat:Nat):Int))=true:=decide_eq_true q1
      have q3:L.toNat<q.toNat:=UInt8.lt_iff_toNat_lt.1 h80
      have q4:decide (L.toNat<q.toNat)=true:=decide_eq_true q3
      clear hP h80
      gi_wp2_with (refine⟨trivial,?_⟩;gi_at_call 363;(refine (callsIn_wide.2 HN.out).mono ?_);rintro _ w2 ⟨rfl,s1,s2⟩;have J2:=lh (hJt _ _ _ _ _ HJ.out s2 s1);obtain⟨⟨j1,j2,j3,j4,j5,j6⟩,-⟩:=hJ _ _ _ J2.out;clear s1 s2)
      refine wpIn_region_quiet_lit rfl (by kernel_rfl) (by kernel_rfl) ?_
      repeat (gi_big_quiet_step (fail))
      refine BigFrame.wpQuietIn_skip (fun _ _ _ _=>trivial) (by rfl) ?_
      simp only[Act.put,List.setIfInBounds_toArray,List.set_cons_zero,List.set_cons_succ]
      repeat (gi_big_quiet_step (fail))
      refine wpQuietIn_nil ?_
      rintro _ ⟨nq,rfl⟩
      gi_wp2
      refine bodyPost_ret (results_none rfl _ _ _) rfl ?_
      refine⟨⟨_,rfl⟩,?_⟩
      rw[<-HPP.out]
      have bd:Below w2.heap.size w2 (w2.drewN nq):=⟨rfl,rfl,rfl,Nat.le_refl _,fun _ _=>rfl⟩
      exact⟨_,hJt _ _ _ _ _ J2.out (zaw _ bd) ((hJ _ _ _ J2.out).2.below bd),.inl ⟨rfl,rfl⟩⟩
    rw[if_neg h80] at hP
    by_cases h8:q<L
    · rw[if_pos h8] at hP
      have HPP:=lh hP
      have q1:¬ ((L.toNat:Nat):Int)<((q.toNat:Nat):Int):=fun h=>h80 (UInt8.lt_iff_toNat_lt.2 (Int.ofNat_lt.1 h))
      have q2:decide (((L.toNat:Nat):Int)<((q.toNat:Nat):Int))=false:=decide_eq_false q1
      have q3:¬ L.toNat<q.toNat:=fun h=>h80 (UInt8.lt_iff_toNat_lt.2 h)
      have q4:decide (L.toNat<q.toNat)=false:=decide_eq_false q3
      have q5:¬ q.toNat=L.toNat:=by have:=UInt8.lt_iff_toNat_lt.1 h8;omega
      have q6:(((q.toNat:Nat):Int)==((L.toNat:Nat):Int))=false:=by rw[beq_eq_false_iff_ne];omega
      have q7:(q.toNat==L.toNat)=false:=by rw[beq_eq_false_iff_ne];omega
      clear hP h80 h8
      gi_wp2_with (refine⟨trivial,?_⟩;gi_at_call 363;(refine (callsIn_wide.2 HN.out).mono ?_);rintro _ w2 ⟨rfl,s1,s2⟩;have J2:=lh (hJt _ _ _ _ _ HJ.out s2 s1);obtain⟨⟨j1,j2,j3,j4,j5,j6⟩,-⟩:=hJ _ _ _ J2.out;clear s1 s2)
      refine wpIn_region_quiet_lit rfl (by kernel_rfl) (by kernel_rfl) ?_
      repeat (gi_big_quiet_step (fail))
      refine BigFrame.wpQuietIn_skip (fun _ _ _ _=>trivial) (by rfl) ?_
      simp only[Act.put,List.setIfInBounds_toArray,List.set_cons_zero,List.set_cons_succ]
      repeat (gi_big_quiet_step (fail))
      refine wpQuietIn_nil ?_
      rintro _ ⟨nq,rfl⟩
      gi_wp2
      have bd:Below w2.heap.size w2 (w2.drewN nq):=⟨rfl,rfl,rfl,Nat.le_refl _,fun _ _=>rfl⟩
      go_roundw
      case rel=>exact⟨g,c+1,xk,s,rfl,HPP,HCN,by omega,by omega,by omega,lh (hJt _ _ _ _ _ J2.out (zaw _ bd) ((hJ _ _ _ J2.out).2.below bd))⟩
      case measure=>exact HCM.out
    rw[if_neg h8] at hP
    obtain rfl:q=L:=by
     refine UInt8.toNat_inj.1 ?_
     have h1:¬ L.toNat<q.toNat:=fun h=>h80 (UInt8.lt_iff_toNat_lt.2 h)
     have h2:¬ q.toNat<L.toNat:=fun h=>h8 (UInt8.lt_iff_toNat_lt.2 h)
     omega
    have q2:decide (((q.toNat:Nat):Int)<((q.toNat:Nat):Int))=false:=decide_eq_false (by omega)
    have q4:decide (q.toNat<q.toNat)=false:=decide_eq_false (by omega)
    clear h80 h8
    cases hst:step s xk xr with
    | ok s' =>
      have HLE:Hid (len s'+g<=len s0+l.length+1):=lh (by have:=hlen _ _ _ _ hst;omega)
      rw[hst] at hP
      have HPP:=lh hP
      clear hP
      gi_wp2_with (refine⟨trivial,?_⟩;gi_at_call 363;(refine (callsIn_wide.2 HN.out).mono ?_);rintro _ w2 ⟨rfl,s1,s2⟩;have J2:=lh (hJt _ _ _ _ _ HJ.out s2 s1);obtain⟨⟨j1,j2,j3,j4,j5,j6⟩,-⟩:=hJ _ _ _ J2.out;clear s1 s2;have bd:Below w2.heap.size w2 w2.drew:=⟨rfl,rfl,rfl,Nat.le_refl _,fun _ _=>rfl⟩;have J3:=lh (hJt _ _ _ _ _ J2.out (zaw _ bd) ((hJ _ _ _ J2.out).2.below bd));obtain⟨fn,tmps,asg,bod,hy,hR⟩:=hY _ _ xk xr _ J3.out (by omega) ⟨xi,HMEM.out⟩ hpos;rw[hst] at hR;have HRd:=lh hR;clear hR hst)
      gi_region_with_o (refine HRd.out.mono ?_;rintro _ w4 ⟨rfl,hj⟩;have J4:=lh hj;clear hj)
      all_goals gi_wp2
      all_goals first
       | exact⟨⟨g,c+1,xk,s',rfl,HPP,HCN,by omega,by omega,HLE.out,J4⟩,HCM.out⟩
       | (go_roundw <;> first|exact⟨g,c+1,xk,s',rfl,HPP,HCN,by omega,by omega,HLE.out,J4⟩|exact HCM.out)
    | error e =>
      rw[hst] at hP
      have HPP:=lh hP
      clear hP
      gi_wp2_with (refine⟨trivial,?_⟩;gi_at_call 363;(refine (callsIn_wide.2 HN.out).mono ?_);rintro _ w2 ⟨rfl,s1,s2⟩;have J2:=lh (hJt _ _ _ _ _ HJ.out s2 s1);obtain⟨⟨j1,j2,j3,j4,j5,j6⟩,-⟩:=hJ _ _ _ J2.out;clear s1 s2;have bd:Below w2.heap.size w2 w2.drew:=⟨rfl,rfl,rfl,Nat.le_refl _,fun _ _=>rfl⟩;have J3:=lh (hJt _ _ _ _ _ J2.out (zaw _ bd) ((hJ _ _ _ J2.out).2.below bd));obtain⟨fn,tmps,asg,bod,hy,hR⟩:=hY _ _ xk xr _ J3.out (by omega) ⟨xi,HMEM.out⟩ hpos;rw[hst] at hR;have HRd:=lh hR;clear hR hst)
      gi_region_with_o (refine HRd.out.mono ?_;rintro _ w4 ⟨rfl,hj⟩;have J4:=lh hj;clear hj)
      all_goals gi_wp2
      all_goals
       refine bodyPost_ret (results_none rfl _ _ _) rfl ?_
       refine⟨⟨_,rfl⟩,?_⟩
       rw[<-HPP.out]
       exact J4.out
end
section
set_option maxHeartbeats 8000000
set_option maxRecDepth 8000
attribute [local go_sem] Oper.semAt_some
def zfA(name:ByteArray)(s:List Fu)(k r:ByteArray):Except Int (List Fu) :=
 if (zbb k r).2≠0 then .error (zbb k r).2 else if (zbb k r).1.1.target=name then .ok (s++[(zbb k r).1]) else .ok s
def zeL(l:List Rw)(fl cd ca id:Int)(name:ByteArray):(List Fu × Int) × Int :=
 match zb4 l id fl cd 65 (zfA name) (l.length+1) ca [(65:UInt8) - 1,255] [] with
 | (.ok (s,code),c)=>(if code≠0 then ([],code) else (s,0),c)
 | (.error e,c)=>(([],e),c)
theorem ziA(name:ByteArray)(s:List Fu)(k r:ByteArray)(s':List Fu)(h:zfA name s k r=.ok s'):s'.length<=s.length+1:=by
 unfold zfA at h
 split at h
 · cases h
 split at h
 · cases h;simp
 · cases h;omega
theorem zgp{k r:ByteArray}(h:¬ (zbb k r).2≠0):okX (zbb k r).1=true∧zhf (zbb k r).1=Ds.bl k:=by
 unfold zbb at h ⊢
 cases hd:zc6 (Ds.bl r) with
 | none=>rw[hd] at h;exact absurd (show (11:Int)≠0 by decide) h
 | some y =>
   rw[hd] at h
   dsimp only at h ⊢
   by_cases hk:zhf y=Ds.bl k
   · rw[if_pos hk];exact⟨(zdi _ _ hd).1,hk⟩
   · rw[if_neg hk] at h;exact absurd (show (11:Int)≠0 by decide) h
theorem zoC{P:Program}{fn:Func}{p u:Tmp}{ty tv:TypeId}(h:fn.results=#[.cell p ty,.cell u tv])(tmps:Array Value)(w:World) :
  (results fn tmps).run P w=((asAddr (tmps.getD p undef)).run P w).andThen fun a w₁=>((loadVar ty a).run P w₁).andThen fun v w₂=>((asAddr (tmps.getD u undef)).run P w₂).andThen fun b w₃=>((loadVar tv b).run P w₃).andThen fun v' w₄=>.ok (.tuple #[v,v']) w₄:=by
 simp only[results,h]
 simp [Sem.run_bind,Result.andThen]
theorem SHs.other{w0 wr w':World}{p q:Nat}{sv:Value}{l:List Rw}{fl cd ca:Int}(h:SHs w0 wr p sv l fl cd ca)(hg:wr.grownBy w' (some q))(hq:p≠q)(hq0:w0.heap.size<=q)(hs:∀ b,sv.ownBlock=some b->b≠q):SHs w0 w' p sv l fl cd ca :=
 ⟨⟨zaZ h.f.1 (by simp) hg hq,fun o=>(World.frozen?_of_block (a:=⟨p,o,none⟩) (hg.block p h.pl (fun e=>hq (Option.some.inj e)))).trans (h.f.2 o)⟩,h.r.keep hg.size (fun b hb hl=>hg.block b hl (fun e=>hs b hb (Option.some.inj e))),h.ne,h.p0,Nat.lt_of_lt_of_le h.pl hg.size,h.b.trans (zbk hg hq0 h.b.size)⟩
theorem HJ.le{base b:Nat}{w:World}{hv:Value}{H:List Ef}{rows:List (Array Value)}(h:HJ base w hv H rows)(hb:b<=base):HJ b w hv H rows:=by
 refine⟨zdE h.own hb,h.len,h.sz,h.one,fun j r x h1 h2=>?_⟩
 obtain⟨a1,c1,a2,c2,e1,e2,e3,e4,e5,e6⟩:=h.el j r x h1 h2
 exact⟨a1,c1,a2,c2,e1,e2,e3,e4,e5,fun h0 b' hb'=>⟨(e6 h0 b' hb').1,Nat.le_trans hb (e6 h0 b' hb').2.1,(e6 h0 b' hb').2.2⟩⟩
def Bx(W:World)(b:Nat):Prop:=(∃ v,W.cell? ⟨b,0,none⟩=some v)∧W.frozen? ⟨b,0,none⟩=false
theorem Bx.of{W W':World}{b:Nat}(h:Bx W b)(e:W'.heap[b]?=W.heap[b]?):Bx W' b:=by
 obtain⟨⟨v,h1⟩,h2⟩:=h
 exact⟨⟨v,(World.cell?_of_block (a:=⟨b,0,none⟩) e).trans h1⟩,(World.frozen?_of_block (a:=⟨b,0,none⟩) e).trans h2⟩
theorem Bx.set{W:World}{b b':Nat}{v:Value}(h:Bx W b):Bx (W.setCell ⟨b',0,none⟩ v) b:=by
 obtain⟨⟨u,h1⟩,h2⟩:=h
 by_cases e:b=b'
 · subst e
   exact⟨⟨v,World.cell?_setCell_same' _ _ _ (by rw[h1];rfl)⟩,by rw[World.frozen?_setCell];exact h2⟩
 · exact⟨⟨u,by rw[World.cell?_setCell_other _ _ _ _ (by intro k;cases k;exact e rfl)];exact h1⟩,by rw[World.frozen?_setCell];exact h2⟩
structure AlC (w0 w W:World) (h p:Nat) (sv:Value) (l:List Rw) (fl cd c id:Int) (name:ByteArray) (r:Rf) (st:LoopState) (pd:Option Code):Prop where
 sh:SHs w0 W p sv l fl cd c
 g:w.grownBy W (some p)
 ri:RI W (h+7) (h+5) (h+6) (h+8) (h+4) p 65 id
 n:W.cell? ⟨h,0,none⟩=some (.string name)
 b1:Bx W (h+1)
 b2:Bx W (h+2)
 b3:Bx W (h+3)
 up:Rup r st pd W
 z:h+11<=W.heap.size
theorem AlC.core{w0 w W W':World}{h p q:Nat}{sv:Value}{l:List Rw}{fl cd c c' id:Int}{name:ByteArray}{r:Rf}{st st':LoopState}{pd pd':Option Code}(hA:AlC w0 w W h p sv l fl cd c id name r st pd)(hk:∀ k,k<h+11->k≠q->W'.heap[k]?=W.heap[k]?)(hz:W.heap.size<=W'.heap.size)(hq:q≠h∧∀ i,4<=i->i<=8->q≠h+i)(hs:SHs w0 W' p sv l fl cd c')(hg:w.grownBy W' (some p))(hup:Rup r st' pd' W')(hb:Bx W' (h+1)∧Bx W' (h+2)∧Bx W' (h+3)) :
  AlC w0 w W' h p sv l fl cd c' id name r st' pd':=by
 have e:∀ i,4<=i->i<=8->W'.heap[h+i]?=W.heap[h+i]?:=fun i h1 h2=>hk _ (by omega) (fun e=>hq.2 i h1 h2 e.symm)
 obtain⟨r1,r2,r3,r4,r5,r6⟩:=hA.ri
 have q:=fun i (h1:4<=i) (h2:i<=8)=>World.cell?_of_block (w:=W) (w':=W') (a:=⟨h+i,0,none⟩) (e i h1 h2)
 exact⟨hs,hg,⟨(q 7 (by omega) (by omega)).trans r1,(q 5 (by omega) (by omega)).trans r2,(q 6 (by omega) (by omega)).trans r3,(q 8 (by omega) (by omega)).trans r4,(q 4 (by omega) (by omega)).trans r5,(World.frozen?_of_block (a:=⟨h+4,0,none⟩) (e 4 (by omega) (by omega))).trans r6⟩,
  (World.cell?_of_block (a:=⟨h,0,none⟩) (hk h (by omega) (fun e=>hq.1 e.symm))).trans hA.n,hb.1,hb.2.1,hb.2.2,hup,Nat.le_trans hA.z hz⟩
theorem AlC.tick{w0 w W W':World}{h p:Nat}{sv:Value}{l:List Rw}{fl cd c c' id:Int}{name:ByteArray}{r:Rf}{st:LoopState}{pd:Option Code}(hA:AlC w0 w W h p sv l fl cd c id name r st pd)(hp:p<h)(hD:r.D=h+9)(hg:W.grownBy W' (some p))(hs:SHs w0 W' p sv l fl cd c') :
  AlC w0 w W' h p sv l fl cd c' id name r st pd:=by
 have hz:=hA.z
 have e:∀ k,k<h+11->k≠p->W'.heap[k]?=W.heap[k]?:=fun k hk hn=>hg.block k (by omega) (fun e=>hn (Option.some.inj e))
 refine hA.core (q:=p) e hg.size ⟨by omega,fun i _ _=>by omega⟩ hs (zaI hA.g hg) ⟨?_,?_⟩ ⟨hA.b1.of (e _ (by omega) (by omega)),hA.b2.of (e _ (by omega) (by omega)),hA.b3.of (e _ (by omega) (by omega))⟩
 · rw[e _ (by omega) (by omega)];exact hA.up.lp
 · rw[e _ (by omega) (by omega)];exact hA.up.dfr
theorem AlC.bel{w0 w W W':World}{h p:Nat}{sv:Value}{l:List Rw}{fl cd c id:Int}{name:ByteArray}{r:Rf}{st:LoopState}{pd:Option Code}(hA:AlC w0 w W h p sv l fl cd c id name r st pd)(hp:p<h)(hh:w.heap.size=h)(hD:r.D=h+9)(hso:∀ b,sv.ownBlock=some b->b<h)(hb:Below (h+11) W W') :
  AlC w0 w W' h p sv l fl cd c id name r st pd:=by
 have e:=fun k hk=>hb.block k hk
 refine hA.core (q:=h+11) (fun k hk _=>e k hk) hb.size ⟨by omega,fun i _ _=>by omega⟩ (hA.sh.belowB hb (by omega) (fun _ b hq=>by have:=hso b hq;omega)) (zaG hA.g (hb.mono (by omega))) ⟨?_,?_⟩ ⟨hA.b1.of (e _ (by omega)),hA.b2.of (e _ (by omega)),hA.b3.of (e _ (by omega))⟩
 · rw[e _ (by omega)];exact hA.up.lp
 · rw[e _ (by omega)];exact hA.up.dfr
theorem AlC.turn{w0 w W W':World}{h p q:Nat}{sv:Value}{l:List Rw}{fl cd c id:Int}{name:ByteArray}{r:Rf}{st st':LoopState}{pd pd':Option Code}(hA:AlC w0 w W h p sv l fl cd c id name r st pd)(hp:p<h)(h0:w0.heap.size<=h)(hh:w.heap.size=h)(hso:∀ b,sv.ownBlock=some b->b<h)(hg:W.grownBy W' (some q))(hq:h<=q)(hq2:q≠h∧∀ i,4<=i->i<=8->q≠h+i)(hup:Rup r st' pd' W')(hb:Bx W' (h+1)∧Bx W' (h+2)∧Bx W' (h+3)) :
  AlC w0 w W' h p sv l fl cd c id name r st' pd':=by
 have hz:=hA.z
 exact hA.core (q:=q) (fun k hk hn=>hg.block k (by omega) (fun e=>hn (Option.some.inj e))) hg.size hq2 (hA.sh.other hg (by omega) (by omega) (fun b hb=>by have:=hso b hb;omega)) (zaG hA.g (zbk hg (by omega) (by omega))) hup hb
theorem AlC.put{w0 w W:World}{h p:Nat}{sv:Value}{l:List Rw}{fl cd c id:Int}{name:ByteArray}{r:Rf}{st st':LoopState}{pd pd':Option Code}(hA:AlC w0 w W h p sv l fl cd c id name r st pd)(hp:p<h)(h0:w0.heap.size<=h)(hh:w.heap.size=h)(hD:r.D=h+9)(hso:∀ b,sv.ownBlock=some b->b<h) :
  AlC w0 w (W.putObj (r.D+1) (r.loop st' pd')) h p sv l fl cd c id name r st' pd':=by
 have hz:=hA.z
 have hg:=grownBy_putObj' W (r.D+1) (r.loop st' pd')
 have e:∀ k,k<h+10->(W.putObj (r.D+1) (r.loop st' pd')).heap[k]?=W.heap[k]?:=fun k hk=>hg.block k (by omega) (fun e=>by have:=Option.some.inj e;omega)
 exact hA.turn hp h0 hh hso hg (by omega) ⟨by omega,fun i _ _=>by omega⟩ hA.up.put ⟨hA.b1.of (e _ (by omega)),hA.b2.of (e _ (by omega)),hA.b3.of (e _ (by omega))⟩
theorem AlC.set{w0 w W:World}{h p i:Nat}{sv v:Value}{l:List Rw}{fl cd c id:Int}{name:ByteArray}{r:Rf}{st:LoopState}{pd:Option Code}(hA:AlC w0 w W h p sv l fl cd c id name r st pd)(hp:p<h)(h0:w0.heap.size<=h)(hh:w.heap.size=h)(hD:r.D=h+9)(hso:∀ b,sv.ownBlock=some b->b<h)(hi:i=1∨i=2∨i=3) :
  AlC w0 w (W.setCell ⟨h+i,0,none⟩ v) h p sv l fl cd c id name r st pd:=by
 have hz:=hA.z
 have hg:=zaH W ⟨h+i,0,none⟩ v
 have e:∀ k,k<W.heap.size->k≠h+i->(W.setCell ⟨h+i,0,none⟩ v).heap[k]?=W.heap[k]?:=fun k hk hn=>hg.block k hk (fun e=>hn (Option.some.inj e))
 refine hA.turn hp h0 hh hso hg (by show h<=h+i;omega) ⟨by show h+i≠h;omega,fun j _ _=>by show h+i≠h+j;omega⟩ ⟨?_,?_⟩ ⟨hA.b1.set,hA.b2.set,hA.b3.set⟩
 · rw[e _ (by omega) (by omega)];exact hA.up.lp
 · rw[e _ (by omega) (by omega)];exact hA.up.dfr
def AlR(w0 w w':World)(p:Nat)(sv:Value)(l:List Rw)(fl cd:Int)(g:(List Fu × Int) × Int)(r:Ending):Prop :=
 ∃ hv rows,r=.returned (.tuple #[hv,.int .i64 g.1.2])∧HJ w.heap.size w' hv (g.1.1.map zgP) rows∧SHs w0 w' p sv l fl cd g.2∧w.grownBy w' (some p)
end
section
set_option maxHeartbeats 8000000
set_option maxRecDepth 8000
attribute [local go_sem] Oper.semAt_some
theorem zfk{F:Fence}{nn:Nat}{P:Program}{ops:Array Oper}{rest:List Oper}{o:Oper}{a:Act}{Q:Exit->Act->World->Prop}(w:World)(hgd:o.guard=none)(s x:Operand)(t e:TypeId)(i:TypeInfo)(z:Value)(size bytes:Nat)(ho:o.op=.call { callee:=.builtin .append,args:=#[s,x],argTypes:=#[t,t] })(ht:P.underlying t=some (.slice e))(hi:P.info? e=some i)(hz:i.zero=some z)(hsize:i.size=size)(hby:i.bytes=bytes)(hzs:z.cells.size=size)(hsz:0<size)(base:Nat)(v sv:Value)(n m:Nat)(xs news:List Value)(hs:a.eval s=v)(hown:w.ownsRow base e size v n xs)(hx:a.eval x=sv)(hc:CS w size sv m news)(hm:0<m)(h1:∀ u∈news,u.oneCell'=true)(h63:n+m<=maxLen)(hbytes:(n+m)*bytes<=140737488355328)(hbase:base<=w.heap.size)(h:∀ a' c' w',w'.ownsRow base e size (.slice a' (n+m) c') (n+m) (xs++news)->w.grownBy w' v.ownBlock->((Value.slice a' (n+m) c').ownBlock=v.ownBlock∨(Value.slice a' (n+m) c').ownBlock=some w.heap.size)->wpListIn F nn P ops Q rest (a.put o.dst (.slice a' (n+m) c')) w') :
  wpListIn F nn P ops Q (o::rest) a w:=by
 obtain⟨ad0,c,rfl,hl,hcs⟩:=hc
 obtain⟨ad,rfl,hnews⟩:=hcs hm
 refine wpListIn_plain hgd fun K hK'=>?_
 obtain⟨v',w',hrun,r1,r2,-,r4⟩:=run_append_own_at (P:=P) w base t o.type e i z size bytes ht hi hz hsize hby hzs hsz v n xs hown ad m c news hl hnews h1 h63 hbytes hbase
 obtain⟨a',c',rfl⟩:=zbd r1
 unfold Oper.wpIn
 refine⟨?_,?_⟩
 · simp [Oper.about,ho,resolve,Target.leads,Sem.run_pure]
 · rw[Oper.semAt_plain F _ _ (by rw[ho];intro c hc';cases hc')]
   simp [execOp,ho,resolve,invoke,builtin,hs,hx,hrun,Result.andThen]
   exact hK' _ _ (h a' c' w' r1 r2 r4)
theorem zn5(ro:Option Nat)(ev:Operand->Value)(w:World)(dst x t pos af gd)(h1:zbK (ev x)=true)(h2:(row w (za5 (ev x))).size=33) :
  (Oper.semAt ro ev ⟨dst,.load 32 x,t,pos,af,gd⟩).run Tryz.prog w=.ok (.value (.agg (row w (za5 (ev x))))) w:=by
 rw[Oper.semAt_eq ro _ _ (by intro c h;cases h)];exact zaX ev w dst x t pos af gd h1 h2
theorem zoK(ro:Option Nat)(ev:Operand->Value)(w:World)(zs:Array Value)(t:TypeId)(dst x y t' pos af gd)(h0:zs.size=33)(h1:zbK (ev x)=true)(h2:za5 (ev x)=w.heap.size)(h3:zbJ (ev y)=true)(h4:(zaJ (ev y)).size=33)(h5:zaV (zaJ (ev y)).toList=true) :
  (Oper.semAt ro ev ⟨dst,.store 32 x y,t',pos,af,gd⟩).run Tryz.prog (w.alloc (.cells zs t))=.ok .skip (w.alloc (.cells (zaJ (ev y)) t)):=by
 rw[Oper.semAt_eq ro _ _ (by intro c h;cases h)];exact za0 ev w zs t dst x y t' pos af gd h0 h1 h2 h3 h4 h5
theorem zkq(ro:Option Nat)(ev:Operand->Value)(w:World)(dst x t pos af gd)(h3:zbJ (ev x)=true)(h4:(zaJ (ev x)).size=33) :
  (Oper.semAt ro ev ⟨dst,.buildSlice 22 1 #[(0,x)],t,pos,af,gd⟩).run Tryz.prog w=.ok (.value (.slice (some ⟨w.heap.size,0,none⟩) 1 1)) (w.alloc (.cells (zaJ (ev x)) 32)):=by
 rw[Oper.semAt_eq ro _ _ (by intro c h;cases h)];exact zbg ev w dst x t pos af gd h3 h4
attribute [local go_sem ↓] zaX za0 zaD zbg zn5 zoK zkq
attribute [local go_sem] zaA zas zan zaM zaO zah zat zai zau zaf zak zaq zab zap zaj zaE zaC zao zam zax zaL zay zaz
theorem zj9{nn:Nat}{fn:Func}{tmps:Array Value}{R:Ending->World->Prop}{W:World}{h D:Nat}{hv:Value}{code:Int}(hr:fn.results=#[.cell 6 22,.cell 7 34])(h6:tmps.getD 6 undef=.pointer (some ⟨h+1,0,none⟩))(h7:tmps.getD 7 undef=.pointer (some ⟨h+2,0,none⟩))(hK:W.heap[D]?=some (.deferred (some [])))(hD:D=h+9)(c1:W.cell? ⟨h+1,0,none⟩=some hv)(c2:W.cell? ⟨h+2,0,none⟩=some (.int .i64 code))(hR:R (.returned (.tuple #[hv,.int .i64 code])) (W.putObj D (.deferred none))) :
  LeavesInM Fence.wide nn Tryz.prog fn tmps R [{ target:=.collected D,args:=#[] }] .returning W:=by
 subst hD
 have hg:=grownBy_putObj' W (h+9) (.deferred none)
 have q1:(W.putObj (h+9) (.deferred none)).cell? ⟨h+1,0,none⟩=some hv:=(World.cell?_of_block (a:=⟨h+1,0,none⟩) (World.putObj_heap_other (by show h+1≠h+9;omega))).trans c1
 have q2:(W.putObj (h+9) (.deferred none)).cell? ⟨h+2,0,none⟩=some (.int .i64 code):=(World.cell?_of_block (a:=⟨h+2,0,none⟩) (World.putObj_heap_other (by show h+2≠h+9;omega))).trans c2
 refine⟨by simp,.inl ⟨_,_,rfl,run_takeDeferred hK,?_⟩⟩
 refine⟨.tuple #[hv,.int .i64 code],?_,hR⟩
 rw[zoC hr,h6,h7]
 go_simp
theorem zn0{w0 w W W':World}{h p:Nat}{sv:Value}{l:List Rw}{fl cd c:Int}(hs:SHs w0 W p sv l fl cd c)(hg:w.grownBy W (some p))(hp:p<h)(hh:w.heap.size=h)(hso:∀ b,sv.ownBlock=some b->b<h)(e:∀ k,(k<h∨h+11<=k)->W'.heap[k]?=W.heap[k]?)(hz:W.heap.size<=W'.heap.size)(ho:W'.os=W.os)(ht:W'.tape=W.tape)(hu:W'.output=W.output):SHs w0 W' p sv l fl cd c∧w.grownBy W' (some p):=by
 have hb:Below h W W':=⟨ho,ht,hu,hz,fun k hk=>e k (.inl hk)⟩
 exact⟨hs.belowB hb hp (fun _ b hq=>hso b hq),zaG hg (by rw[hh];exact hb)⟩
def AlJ(w0 w:World)(h p:Nat)(sv:Value)(l:List Rw)(fl cd id:Int)(name:ByteArray)(r:Rf)(st:LoopState)(c:Int)(s:List Fu)(W:World):Prop :=
 AlC w0 w W h p sv l fl cd c id name r st none∧∃ ov rows,W.cell? ⟨h+3,0,none⟩=some ov∧HJ (h+11) W ov (s.map zgP) rows
def AlX(w0 w:World)(h p:Nat)(sv:Value)(l:List Rw)(fl cd id:Int)(name:ByteArray)(r:Rf)(st:LoopState)(pd:Option Code)(c e:Int)(W:World):Prop :=
 AlC w0 w W h p sv l fl cd c id name r st pd∧W.cell? ⟨h+1,0,none⟩=some (.slice none 0 0)∧W.cell? ⟨h+2,0,none⟩=some (.int .i64 e)
theorem putc{W:World}{D j:Nat}{o:Obj}(hj:j≠D):(W.putObj D o).cell? ⟨j,0,none⟩=W.cell? ⟨j,0,none⟩:=World.cell?_of_block (a:=⟨j,0,none⟩) (World.putObj_heap_other hj)
theorem AlJ.put{w0 w W:World}{h p:Nat}{sv:Value}{l:List Rw}{fl cd c id:Int}{name:ByteArray}{r:Rf}{st st':LoopState}{s:List Fu}(hA:AlJ w0 w h p sv l fl cd id name r st c s W)(hp:p<h)(h0:w0.heap.size<=h)(hh:w.heap.size=h)(hD:r.D=h+9)(hso:∀ b,sv.ownBlock=some b->b<h) :
  AlJ w0 w h p sv l fl cd id name r st' c s (W.putObj (r.D+1) (r.loop st' none)):=by
 obtain⟨h1,ov,rows,h2,h3⟩:=hA
 refine⟨h1.put hp h0 hh hD hso,ov,rows,(putc (by omega)).trans h2,h3.keep (grownBy_putObj' W _ _).size (fun k hk _=>World.putObj_heap_other (by omega))⟩
theorem AlX.put{w0 w W:World}{h p:Nat}{sv:Value}{l:List Rw}{fl cd c e id:Int}{name:ByteArray}{r:Rf}{st st':LoopState}{pd pd':Option Code}(hA:AlX w0 w h p sv l fl cd id name r st pd c e W)(hp:p<h)(h0:w0.heap.size<=h)(hh:w.heap.size=h)(hD:r.D=h+9)(hso:∀ b,sv.ownBlock=some b->b<h) :
  AlX w0 w h p sv l fl cd id name r st' pd' c e (W.putObj (r.D+1) (r.loop st' pd')):=by
 obtain⟨h1,h2,h3⟩:=hA
 exact⟨h1.put hp h0 hh hD hso,(putc (by omega)).trans h2,(putc (by omega)).trans h3⟩
theorem zel(p:Nat)(sv:Value)(l:List Rw)(fl cd ca id:Int)(name:ByteArray)(w0 w:World)(hm:MaxL w0)(hT:Tab w0)(hS:SHs w0 w p sv l fl cd ca)(hso:∀ b,sv.ownBlock=some b->b<w.heap.size)(hl:l.length<=1000)(hc0:0<=ca)(hc1:ca<=90000)(hcd:cd≠0∧cd≠6∨fl<=0) :
  Calls Tryz.prog 64 #[.iface 37 (.pointer (some ⟨p,0,none⟩)),.int .i64 id,.string name] w fun r w'=>AlR w0 w w' p sv l fl cd (zeL l fl cd ca id name) r:=by
 have hpl:=hS.pl
 have hz0:=hS.b.size
 have HS:=lh hS
 clear hS
 obtain⟨g,hg⟩:∃ g,zeL l fl cd ca id name=g:=⟨_,rfl⟩
 rw[hg]
 refine (callsIn_wide (n:=4)).1 ?_
 refine callsIn_of_wp_marks Tryz.func64 rfl trivial ?_ rfl
 simp only[Tryz.ntmps64,List.size_toArray,List.length_cons,List.length_nil,Nat.reduceAdd,Nat.reduceSub,Array.replicate_succ,Array.replicate_zero,List.push_toArray,List.append_toArray,List.nil_append,List.cons_append]
 gi_wp2_with (refine⟨trivial,?_⟩;gi_at_call 86;refine (callsIn_wide.2 (zer p id 65 _ _)).mono ?_;rintro _ _ ⟨rfl,rfl⟩)
 simp only[Nat.add_assoc,Nat.reduceAdd]
 generalize hW0:World.alloc _ _=W0
 have hB0:Below w.heap.size w W0:=by rw[<-hW0];exact za4
 have hsz:W0.heap.size=w.heap.size+9:=by rw[<-hW0];simp
 have k0:W0.cell? ⟨w.heap.size,0,none⟩=some (.string name):=by rw[<-hW0];simp [go_sem]
 have k1:W0.cell? ⟨w.heap.size+1,0,none⟩=some (.slice none 0 0):=by rw[<-hW0];simp [go_sem]
 have k2:W0.cell? ⟨w.heap.size+2,0,none⟩=some (.int .i64 0):=by rw[<-hW0];simp [go_sem]
 have k3:W0.cell? ⟨w.heap.size+3,0,none⟩=some (.slice none 0 0):=by rw[<-hW0];simp [go_sem]
 have k4:W0.cell? ⟨w.heap.size+4,0,none⟩=some (.int .i64 0):=by rw[<-hW0];simp [go_sem]
 have k5:W0.cell? ⟨w.heap.size+5,0,none⟩=some (.iface 37 (.pointer (some ⟨p,0,none⟩))):=by rw[<-hW0];simp [go_sem]
 have k6:W0.cell? ⟨w.heap.size+6,0,none⟩=some (.int .i64 id):=by rw[<-hW0];simp [go_sem]
 have k7:W0.cell? ⟨w.heap.size+7,0,none⟩=some (.int .u8 65):=by rw[<-hW0];simp [go_sem]
 have k8:W0.cell? ⟨w.heap.size+8,0,none⟩=some (.pointer (some ⟨w.heap.size+4,0,none⟩)):=by rw[<-hW0];simp [go_sem]
 have f1:W0.frozen? ⟨w.heap.size+1,0,none⟩=false:=by rw[<-hW0];simp [go_sem]
 have f2:W0.frozen? ⟨w.heap.size+2,0,none⟩=false:=by rw[<-hW0];simp [go_sem]
 have f3:W0.frozen? ⟨w.heap.size+3,0,none⟩=false:=by rw[<-hW0];simp [go_sem]
 have f4:W0.frozen? ⟨w.heap.size+4,0,none⟩=false:=by rw[<-hW0];simp [go_sem]
 clear hW0
 refine zlE rfl (by omega) (gf:=164) rfl trivial (enters_of Tryz.func164 (by kernel_rfl) rfl) ?_
 intro r W _ e1 e2 e3 e4 hD hW hU
 rw[hsz] at hD
 have B1:Below W0.heap.size W0 W:=by rw[hW];exact below2' _ _ _
 have hW2:W.heap.size=w.heap.size+11:=by rw[hW];simp [hsz]
 clear hW
 have q:∀ i,i<=8->W.heap[w.heap.size+i]?=W0.heap[w.heap.size+i]?:=fun i hi=>B1.block _ (by omega)
 have qc:∀ i,i<=8->W.cell? ⟨w.heap.size+i,0,none⟩=W0.cell? ⟨w.heap.size+i,0,none⟩:=fun i hi=>World.cell?_of_block (a:=⟨w.heap.size+i,0,none⟩) (q i hi)
 have qf:∀ i,i<=8->W.frozen? ⟨w.heap.size+i,0,none⟩=W0.frozen? ⟨w.heap.size+i,0,none⟩:=fun i hi=>World.frozen?_of_block (a:=⟨w.heap.size+i,0,none⟩) (q i hi)
 have hA:AlC w0 w W w.heap.size p sv l fl cd ca id name r .ready none:=by
  refine⟨(HS.out.below hB0).below B1,zaw _ (hB0.trans (B1.mono (by omega))),⟨(qc 7 (by omega)).trans k7,(qc 5 (by omega)).trans k5,(qc 6 (by omega)).trans k6,(qc 8 (by omega)).trans k8,(qc 4 (by omega)).trans k4,(qf 4 (by omega)).trans f4⟩,(qc 0 (by omega)).trans k0,⟨⟨_,(qc 1 (by omega)).trans k1⟩,(qf 1 (by omega)).trans f1⟩,⟨⟨_,(qc 2 (by omega)).trans k2⟩,(qf 2 (by omega)).trans f2⟩,⟨⟨_,(qc 3 (by omega)).trans k3⟩,(qf 3 (by omega)).trans f3⟩,hU,by omega⟩
 have hov:=(qc 3 (by omega)).trans k3
 clear B1 q qc qf k0 k1 k2 k3 k4 k5 k6 k7 k8 f1 f2 f3 f4 hU hB0
 generalize hh:w.heap.size=h at *
 simp only[List.append_toArray,List.cons_append,List.nil_append]
 unfold zeL at hg
 generalize hR:zb4 l id fl cd 65 (zfA name) (l.length+1) ca [(65:UInt8) - 1,255] []=R at hg
 have hp0:w0.heap.size<=h:=hz0
 have HJT:∀ (c c':Int) (s:List Fu) (W1 W':World),AlJ w0 w h p sv l fl cd id name r .ready c s W1->W1.grownBy W' (some p)->SHs w0 W' p sv l fl cd c'->AlJ w0 w h p sv l fl cd id name r .ready c' s W':=by
  rintro c c' s W1 W' ⟨h1,ov,rows,h2,h3⟩ hg hs
  have z:=h1.z
  exact⟨h1.tick hpl hD hg hs,ov,rows,(World.cell?_of_block (a:=⟨h+3,0,none⟩) (hg.block (h+3) (by omega) (fun e=>by have:=Option.some.inj e;omega))).trans h2,h3.tick hg (by omega)⟩
 have HY:∀ (c:Int) (s:List Fu) (k rc:ByteArray) (W1:World),AlJ w0 w h p sv l fl cd id name r .ready c s W1->s.length<=([]:List Fu).length+l.length->YieldAt Fence.wide 2 Tryz.prog (r.D+1) #[.string k,.string rc] W1 fun e W'=>match zfA name s k rc with|.ok s'=>e=.returned (.bool true)∧AlJ w0 w h p sv l fl cd id name r .ready c s' W'|.error x=>e=.returned (.bool false)∧AlX w0 w h p sv l fl cd id name r .done (some .ret) c x W':=by
  intro c s k rc W1 hJ1 hlen
  have hb:=hJ1.put (st':=.busy) hpl hp0 hh hD hso
  refine (zgG (r:=r) (J:=fun W2=>∃ s',zfA name s k rc=.ok s'∧AlJ w0 w h p sv l fl cd id name r .busy c s' W2) (Jx:=fun cc W2=>∃ e,zfA name s k rc=.error e∧cc=.ret∧AlX w0 w h p sv l fl cd id name r .busy none c e W2) trivial hJ1.1.up (by rw[e2];rfl) ?_).mono ?_
  rotate_left
  · rintro e W' (⟨rfl,w1,hu,⟨s',hs',h1⟩,rfl⟩|⟨rfl,cc,w1,hu,⟨e,he,rfl,h1⟩,rfl⟩)
    · rw[hs']
      exact⟨rfl,h1.put hpl hp0 hh hD hso⟩
    · rw[he]
      exact⟨rfl,h1.put hpl hp0 hh hD hso⟩
  change AlJ w0 w h p sv l fl cd id name r .busy c s (r.busy W1) at hb
  simp only[e1,e2,e3,e4]
  gi_wp2
  refine⟨hJ1.1.up,?_⟩
  generalize r.busy W1=Wb at hb ⊢
  obtain⟨hAb,ov,rows,hob,hJb⟩:=hb
  obtain⟨va,vc,rfl⟩:=zbd hJb.own
  rw[List.length_map] at hob hJb
  have zb:=hAb.z
  have hrd:=zgl k rc Wb (hm.below hAb.sh.b) (hT.below hAb.sh.b)
  have hrk:¬ (zbb k rc).2≠0->okX (zbb k rc).1=true:=fun h=>(zgp h).1
  have hS:zfA name s k rc=if (zbb k rc).2≠0 then .error (zbb k rc).2 else if (zbb k rc).1.1.target=name then .ok (s++[(zbb k rc).1]) else .ok s:=rfl
  generalize zbb k rc=yy at hrd hrk hS
  obtain⟨y,code⟩:=yy
  dsimp only at hrk hS
  have HRD:=lh hrd
  have HAB:=lh hAb
  have HJB:=lh hJb
  clear hrd hJ1 hJb hAb
  by_cases h0:code=0
  rotate_left
  · rw[if_pos h0] at hS
    have t1:(code != 0)=true:=bne_iff_ne.2 h0
    have HSS:=lh hS
    clear h0 hrk hS
    gi_wp2_with (refine⟨trivial,?_⟩;gi_at_call 59;refine (CallsIn.inRound _ (callsIn_wide.2 HRD.out)).mono ?_;rintro _ w3 ⟨⟨al2,gr2,rfl,hI,hGs,hf1,hf2⟩,hb3⟩;have hone:=zav y.1 al2 gr2 (zaT hI) (zaU hGs);have B4:Below Wb.heap.size Wb (w3.alloc (.cells (y.1.vals al2 gr2) 32)):=bt hb3 (zag w3 _);have z3:=hb3.size;have A4:=HAB.out.bel hpl hh hD hso (B4.mono zb);have cn:=A4.n;obtain⟨⟨v1,k1⟩,f1⟩:=A4.b1;obtain⟨⟨v2,k2⟩,f2⟩:=A4.b2;obtain⟨-,f3⟩:=A4.b3;have co:=((B4.mono zb).cell (p:=⟨h+3,0,none⟩) (by show h+3<h+11;omega)).trans hob;have R4:=zai w3 (y.1.vals al2 gr2) 32 (0,0);have N4:=zaa R4 29 _ (za9 _ _ _);have HA4:=lh A4;have HI:=lh hI;have HGS:=lh hGs;have HF2:=lh hf2;have HB4:=lh B4;clear hI hGs hf1 hf2 hb3 A4 B4)
    have A5:=((HA4.out.set (i:=1) (v:=.slice none 0 0) hpl hp0 hh hD hso (.inl rfl)).set (i:=2) (v:=.int .i64 code) hpl hp0 hh hD hso (.inr (.inl rfl)))
    exact⟨A5.up,code,HSS.out,rfl,A5,(World.cell?_setCell_other _ _ _ _ (by intro e;have:=congrArg Addr.block e;simp at this)).trans (World.cell?_setCell_same' _ _ _ (by rw[k1];rfl)),World.cell?_setCell_same' _ _ _ (by rw[World.cell?_setCell_other _ _ _ _ (by intro e;have:=congrArg Addr.block e;simp at this),k2];rfl)⟩
  rw[if_neg (fun k=>k h0)] at hS
  subst h0
  have hg8:=zoG y (hrk (fun k=>k rfl))
  have t3:=zeC y.1.target name
  clear hrk
  by_cases ht:y.1.target=name
  rotate_left
  · rw[if_neg ht] at hS
    rw[decide_eq_false ht] at t3
    have HSS:=lh hS
    clear ht hS
    gi_wp2_with (refine⟨trivial,?_⟩;gi_at_call 59;refine (CallsIn.inRound _ (callsIn_wide.2 HRD.out)).mono ?_;rintro _ w3 ⟨⟨al2,gr2,rfl,hI,hGs,hf1,hf2⟩,hb3⟩;have hone:=zav y.1 al2 gr2 (zaT hI) (zaU hGs);have B4:Below Wb.heap.size Wb (w3.alloc (.cells (y.1.vals al2 gr2) 32)):=bt hb3 (zag w3 _);have z3:=hb3.size;have A4:=HAB.out.bel hpl hh hD hso (B4.mono zb);have cn:=A4.n;obtain⟨⟨v1,k1⟩,f1⟩:=A4.b1;obtain⟨⟨v2,k2⟩,f2⟩:=A4.b2;obtain⟨-,f3⟩:=A4.b3;have co:=((B4.mono zb).cell (p:=⟨h+3,0,none⟩) (by show h+3<h+11;omega)).trans hob;have R4:=zai w3 (y.1.vals al2 gr2) 32 (0,0);have N4:=zaa R4 29 _ (za9 _ _ _);have HA4:=lh A4;have HI:=lh hI;have HGS:=lh hGs;have HF2:=lh hf2;have HB4:=lh B4;clear hI hGs hf1 hf2 hb3 A4 B4)
    exact⟨HA4.out.up,s,HSS.out,HA4.out,_,rows,co,HJB.out.below HB4.out⟩
  rw[if_pos ht] at hS
  rw[decide_eq_true ht] at t3
  have HSS:=lh hS
  clear ht hS
  gi_wp2_with (first|(refine⟨trivial,?_⟩;gi_at_call 59;refine (CallsIn.inRound _ (callsIn_wide.2 HRD.out)).mono ?_;rintro _ w3 ⟨⟨al2,gr2,rfl,hI,hGs,hf1,hf2⟩,hb3⟩;have hone:=zav y.1 al2 gr2 (zaT hI) (zaU hGs);have B4:Below Wb.heap.size Wb (w3.alloc (.cells (y.1.vals al2 gr2) 32)):=bt hb3 (zag w3 _);have z3:=hb3.size;have A4:=HAB.out.bel hpl hh hD hso (B4.mono zb);have cn:=A4.n;obtain⟨⟨v1,k1⟩,f1⟩:=A4.b1;obtain⟨⟨v2,k2⟩,f2⟩:=A4.b2;obtain⟨-,f3⟩:=A4.b3;have co:=((B4.mono zb).cell (p:=⟨h+3,0,none⟩) (by show h+3<h+11;omega)).trans hob;have R4:=zai w3 (y.1.vals al2 gr2) 32 (0,0);have N4:=zaa R4 29 _ (za9 _ _ _);have HA4:=lh A4;have HI:=lh hI;have HGS:=lh hGs;have HF2:=lh hf2;have HB4:=lh B4;clear hI hGs hf1 hf2 hb3 A4 B4)|(gi_at_builtin;have B45:=zag (w3.alloc (.cells (y.1.vals al2 gr2) 32)) (.cells (y.1.vals al2 gr2) 32);have HJ5:=(HJB.out.below HB4.out).below B45;have zA:=HA4.out.z;have hlen2:s.length<=1000:=(by simp only[List.length_nil] at hlen;omega);have ow5:=zpL HJ5.own;refine zfk _ rfl (.tmp 32) (.tmp 34) 22 32 _ _ 33 336 rfl Tryz.underlying22 zov zha zgT zhv (zab _ _ _) (by decide) (h+11) (.slice va s.length vc) (.slice (some ⟨w3.heap.size+1,0,none⟩) 1 1) s.length 1 (ec rows) (y.1.vals al2 gr2).toList rfl ow5 rfl (zoP (by simp) (zab _ _ _)) (by decide) (all1 hone) (by unfold maxLen;omega) (by omega) (by simp at zA ⊢;omega) ?_;intro a5 c5 w5 hown hg5 hat;have zW:h+11<=((w3.alloc (.cells (y.1.vals al2 gr2) 32)).alloc (.cells (y.1.vals al2 gr2) 32)).heap.size:=(by simp at zA ⊢;omega);have B56:Below (h+11) ((w3.alloc (.cells (y.1.vals al2 gr2) 32)).alloc (.cells (y.1.vals al2 gr2) 32)) w5:=zbH hg5 (fun q hq=>(zar HJ5.own q hq).1) zW;have A6:=(HA4.out.bel hpl hh hD hso (B45.mono zA)).bel hpl hh hD hso B56;have HA6:=lh A6;have c6:=(B56.cell (p:=⟨h+3,0,none⟩) (by show h+3<h+11;omega)).trans ((B45.cell (p:=⟨h+3,0,none⟩) (by show h+3<_;omega)).trans co);have f6:=A6.b3.2;have hge:GJ (h+11) ((w3.alloc (.cells (y.1.vals al2 gr2) 32)).alloc (.cells (y.1.vals al2 gr2) 32)) (Value.slice va s.length vc).ownBlock (y.1.vals al2 gr2) (zgP y):=(by obtain⟨ga,gc,rfl,hgz,-⟩:=_root_.id HI.out;obtain⟨ga2,gc2,rfl,hgz2,-⟩:=_root_.id HGS.out;exact⟨ga,gc,ga2,gc2,rfl,(by show y.2.1.length<=_;omega),(by show y.2.2.length<=_;omega),rfl,(HGS.out.below (zag w3 _)).below B45,fun h0 b hb=>⟨fun e=>(by have q1:=(zar HJB.out.own b e).2;have q2:=HF2.out b hb;omega),(by have q2:=HF2.out b hb;omega),(by have q3:=zlc HGS.out h0 b hb;simp;omega)⟩⟩);have HJ6:=lh (HJ5.snoc (x:=zgP y) (zmK hown) hg5 hat (zab _ _ _) hone hge);clear hge A6 hown hg5 hat B45 B56 HJ5 ow5 zW))
  have A7:=(HA6.out.set (i:=3) (v:=.slice a5 (s.length+1) c5) hpl hp0 hh hD hso (.inr (.inr rfl)))
  refine⟨A7.up,s++[y],HSS.out,A7,.slice a5 (s.length+1) c5,rows++[y.1.vals al2 gr2],World.cell?_setCell_same' _ _ _ (by rw[c6];rfl),?_⟩
  rw[List.map_append]
  exact (HJ6.out.keep (zaH w5 ⟨h+3,0,none⟩ (.slice a5 (s.length+1) c5)).size (fun k hk hk2=>(zaH w5 ⟨h+3,0,none⟩ (.slice a5 (s.length+1) c5)).block k hk2 (fun e=>by have:=Option.some.inj e;simp at this;omega)))
 have HRS:=zig (zfA name) List.length (ziA name) (AlJ w0 w h p sv l fl cd id name r .ready) (AlX w0 w h p sv l fl cd id name r .done (some .ret)) (r.D+1) p (h+7) (h+5) (h+6) (h+8) (h+4) sv l fl cd ca id 65 w0 W [] 3 2 (fun c s W' hj=>⟨hj.1.ri,hj.1.sh⟩) HJT (fun c s k rc W1 h1 h2 _ _=>(HY c s k rc W1 h1 h2).mono fun e W' h=>by cases hst:zfA name s k rc <;> (rw[hst] at h;exact h)) (by decide) (by omega) rfl ⟨hA,_,[],hov,HJ.start _ _⟩ hc0 (by omega) hl hcd
 rw[hR] at HRS
 refine HRS.mono ?_
 clear HRS HJT HY hov hA
 rintro e W2 ⟨⟨v,rfl⟩,hout⟩
 refine⟨⟨v,rfl⟩,?_⟩
 unfold zio at hout
 have heq:∀ (pd:Option Code) (k:Nat),k≠h+9->k≠h+10->((r.gone pd W2).putObj (h+9) (.deferred none)).heap[k]?=W2.heap[k]?:=fun pd k h1 h2=>(World.putObj_heap_other h1).trans (World.putObj_heap_other (by omega))
 have hgc:∀ (pd:Option Code) (k:Nat),k≠h+10->(r.gone pd W2).heap[k]?=W2.heap[k]?:=fun pd k h2=>World.putObj_heap_other (by omega)
 obtain⟨R1,cR⟩:=R
 cases R1 with
 | error e =>
   obtain⟨h1,h2,h3⟩:=hout
   replace hg:(([],e),cR)=g:=hg
   subst hg
   refine .inr ⟨.ret,h1.up,?_⟩
   have hK:(r.gone (some .ret) W2).heap[h+9]?=some (.deferred (some [])):=(hgc _ _ (by omega)).trans (hD ▸ h1.up.dfr)
   have x1:(r.gone (some .ret) W2).cell? ⟨h+1,0,none⟩=some (.slice none 0 0):=(World.cell?_of_block (a:=⟨h+1,0,none⟩) (hgc _ (h+1) (by omega))).trans h2
   have x2:(r.gone (some .ret) W2).cell? ⟨h+2,0,none⟩=some (.int .i64 e):=(World.cell?_of_block (a:=⟨h+2,0,none⟩) (hgc _ (h+2) (by omega))).trans h3
   have hF:=zn0 (W':=(r.gone (some .ret) W2).putObj (h+9) (.deferred none)) h1.sh h1.g hpl hh hso (fun k hk=>heq _ k (by omega) (by omega)) (by simp [Rf.gone]) rfl rfl rfl
   gi_wp2
   exact zj9 rfl rfl rfl hK rfl x1 x2 ⟨.slice none 0 0,[],rfl,HJ.start _ _,hF.1,hF.2⟩
 | ok sc =>
   obtain⟨s,code⟩:=sc
   obtain⟨w1,⟨hA1,ov,rows,ho,hJ1⟩,hcode⟩:=hout
   obtain⟨va,vc,rfl⟩:=zbd hJ1.own
   rw[List.length_map] at ho hJ1
   have z1:=hA1.z
   have F:SHs w0 W2 p sv l fl cd cR∧w.grownBy W2 (some p)∧Bx W2 (h+1)∧Bx W2 (h+2)∧W2.cell? ⟨h+3,0,none⟩=some (.slice va s.length vc)∧HJ (h+11) W2 (.slice va s.length vc) (s.map zgP) rows∧W2.cell? ⟨h+4,0,none⟩=some (.int .i64 code)∧Rup r .ready none W2∧h+11<=W2.heap.size:=by
    rcases hcode with ⟨rfl,rfl⟩|rfl
    · exact⟨hA1.sh,hA1.g,hA1.b1,hA1.b2,ho,hJ1,hA1.ri.v,hA1.up,hA1.z⟩
    · have hg4:=zaH w1 ⟨h+4,0,none⟩ (.int .i64 code)
      have hb4:∀ k,k<w1.heap.size->k≠h+4->(w1.setCell ⟨h+4,0,none⟩ (.int .i64 code)).heap[k]?=w1.heap[k]?:=fun k h1 h2=>hg4.block k h1 (fun e=>h2 (Option.some.inj e))
      refine⟨hA1.sh.other hg4 (by show p≠h+4;omega) (by show _<=h+4;omega) (fun b hb=>by have:=hso b hb;show b≠h+4;omega),zaG hA1.g (zbk hg4 (by show w.heap.size<=h+4;omega) (by omega)),hA1.b1.set,hA1.b2.set,(World.cell?_of_block (a:=⟨h+3,0,none⟩) (hb4 (h+3) (by omega) (by omega))).trans ho,hJ1.keep hg4.size (fun k hk hk2=>hb4 k hk2 (by omega)),World.cell?_setCell_same' _ _ _ (by rw[hA1.ri.v];rfl),⟨?_,?_⟩,by simpa using z1⟩
      · rw[hb4 _ (by omega) (by omega)];exact hA1.up.lp
      · rw[hb4 _ (by omega) (by omega)];exact hA1.up.dfr
   clear hcode ho hJ1 hA1 z1
   obtain⟨q1,q2,q3,q4,q5,q6,q7,q8,q9⟩:=F
   refine .inl ⟨q8,?_⟩
   have hK:(r.gone none W2).heap[h+9]?=some (.deferred (some [])):=(hgc _ _ (by omega)).trans (hD ▸ q8.dfr)
   have x1:=q3.of (hgc none (h+1) (by omega))
   have x2:=q4.of (hgc none (h+2) (by omega))
   have x3:=(World.cell?_of_block (a:=⟨h+3,0,none⟩) (hgc none (h+3) (by omega))).trans q5
   have x4:=(World.cell?_of_block (a:=⟨h+4,0,none⟩) (hgc none (h+4) (by omega))).trans q7
   have hgx:=hgc none
   have hzx:W2.heap.size<=(r.gone none W2).heap.size:=by simp [Rf.gone]
   have hos:(r.gone none W2).os=W2.os∧(r.gone none W2).tape=W2.tape∧(r.gone none W2).output=W2.output:=⟨rfl,rfl,rfl⟩
   generalize r.gone none W2=Wg at hK x1 x2 x3 x4 hgx hzx hos ⊢
   clear heq hgc
   obtain⟨⟨v1,c1⟩,f1⟩:=x1
   obtain⟨⟨v2,c2⟩,f2⟩:=x2
   have hend:∀ (u1 u2:Value) (W5:World),W5=(Wg.setCell ⟨h+1,0,none⟩ u1).setCell ⟨h+2,0,none⟩ u2->W5.heap[h+9]?=some (.deferred (some []))∧W5.cell? ⟨h+1,0,none⟩=some u1∧W5.cell? ⟨h+2,0,none⟩=some u2∧SHs w0 (W5.putObj (h+9) (.deferred none)) p sv l fl cd cR∧w.grownBy (W5.putObj (h+9) (.deferred none)) (some p)∧HJ (h+11) (W5.putObj (h+9) (.deferred none)) (.slice va s.length vc) (s.map zgP) rows:=by
    rintro u1 u2 W5 rfl
    have e5:∀ k,k≠h+1->k≠h+2->((Wg.setCell ⟨h+1,0,none⟩ u1).setCell ⟨h+2,0,none⟩ u2).heap[k]?=Wg.heap[k]?:=fun k k1 k2=>(heap_setCell_other _ ⟨h+2,0,none⟩ k u2 k2).trans (heap_setCell_other _ ⟨h+1,0,none⟩ k u1 k1)
    have e6:∀ k,(k<h∨h+11<=k)->(((Wg.setCell ⟨h+1,0,none⟩ u1).setCell ⟨h+2,0,none⟩ u2).putObj (h+9) (.deferred none)).heap[k]?=W2.heap[k]?:=fun k hk=>(World.putObj_heap_other (by omega)).trans ((e5 k (by omega) (by omega)).trans (hgx k (by omega)))
    have z6:W2.heap.size<=(((Wg.setCell ⟨h+1,0,none⟩ u1).setCell ⟨h+2,0,none⟩ u2).putObj (h+9) (.deferred none)).heap.size:=by simpa using hzx
    have hF:=zn0 q1 q2 hpl hh hso e6 z6 hos.1 hos.2.1 hos.2.2
    exact⟨(e5 _ (by omega) (by omega)).trans hK,(World.cell?_setCell_other _ _ _ _ (by intro e;have:=congrArg Addr.block e;simp at this)).trans (World.cell?_setCell_same' _ _ _ (by rw[c1];rfl)),World.cell?_setCell_same' _ _ _ (by rw[World.cell?_setCell_other _ _ _ _ (by intro e;have:=congrArg Addr.block e;simp at this),c2];rfl),hF.1,hF.2,q6.keep z6 (fun k hk _=>e6 k (.inr hk))⟩
   have HE:=lh hend
   clear hend hgx hzx hos q1 q2 q3 q4 q5 q6 q7 q8 q9
   by_cases hc:code=0
   · subst hc
     replace hg:((s,0),cR)=g:=hg
     subst hg
     gi_wp2
     obtain⟨m1,m2,m3,m4,m5,m6⟩:=HE.out (.slice va s.length vc) (.int .i64 0) _ rfl
     exact zj9 rfl rfl rfl m1 rfl m2 m3 ⟨_,_,rfl,(by rw[hh];exact m6.le (by omega)),m4,m5⟩
   · have t1:(code != 0)=true:=bne_iff_ne.2 hc
     replace hg:(if code≠0 then (([]:List Fu),code) else (s,0),cR)=g:=hg
     rw[if_pos hc] at hg
     subst hg
     obtain⟨m1,m2,m3,m4,m5,m6⟩:=HE.out (.slice none 0 0) (.int .i64 code) _ rfl
     have hmx:Tryz.prog.follows .mixedOrders=true:=by kernel_rfl
     gi_wp2
     gi_region_with_o (fail)
     all_goals gi_wp2
     all_goals exact zj9 rfl rfl rfl m1 rfl m2 m3 ⟨.slice none 0 0,[],rfl,HJ.start _ _,m4.below (Below.refl _ _).drew,zaG m5 (Below.refl _ _).drew⟩
end
section
set_option maxHeartbeats 8000000
set_option maxRecDepth 8000
def zl5(x:Fu)(s:ByteArray):Fu:=({ x.1 with name:=s },x.2)
def zfZ(x:Fu)(s:ByteArray):Fu:=({ x.1 with target:=s },x.2)
theorem zlV(e:En)(al gr:Value)(s:ByteArray):(e.vals al gr).setIfInBounds 1 (.string s)=({ e with name:=s }:En).vals al gr:=by
 unfold En.vals
 simp only[List.setIfInBounds_toArray,List.set_cons_succ,List.set_cons_zero]
theorem zlW(e:En)(al gr:Value)(s:ByteArray):(e.vals al gr).setIfInBounds 29 (.string s)=({ e with target:=s }:En).vals al gr:=by
 unfold En.vals
 simp only[List.setIfInBounds_toArray,List.set_cons_succ,List.set_cons_zero]
def ztl(id:Int)(x:Fu)(tn:ByteArray)(s:List Fu):List Ch:=zcP id x::zbv id (zl5 x tn)::s.map fun a=>zbv id (zfZ a tn)
def znC(l:List Rw)(fl cd ca id:Int)(name tn:ByteArray):(List Ch × Int) × Int :=
 if Ds.name (Ds.bl tn)=false then (([],1),ca)
 else if (zbs l fl cd ca id 0 name).1.2≠0 then (([],(zbs l fl cd ca id 0 name).1.2),(zbs l fl cd ca id 0 name).2)
 else if Ds.gen (Ds.bl name)=true∨Ds.gen (Ds.bl tn)=true then (([],7),(zbs l fl cd ca id 0 name).2)
 else if zep (zbL l fl cd (zbs l fl cd ca id 0 name).2 id tn).1.2≠0 then (([],zep (zbL l fl cd (zbs l fl cd ca id 0 name).2 id tn).1.2),(zbL l fl cd (zbs l fl cd ca id 0 name).2 id tn).2)
 else if (zeL l fl cd (zbL l fl cd (zbs l fl cd ca id 0 name).2 id tn).2 id name).1.2≠0 then (([],(zeL l fl cd (zbL l fl cd (zbs l fl cd ca id 0 name).2 id tn).2 id name).1.2),(zeL l fl cd (zbL l fl cd (zbs l fl cd ca id 0 name).2 id tn).2 id name).2)
 else ((ztl id (zbs l fl cd ca id 0 name).1.1 tn (zeL l fl cd (zbL l fl cd (zbs l fl cd ca id 0 name).2 id tn).2 id name).1.1,0),(zeL l fl cd (zbL l fl cd (zbs l fl cd ca id 0 name).2 id tn).2 id name).2)
def Ali(y:Fu):Prop:=y.2.1=[]∧y.2.2=[]∧y.1.name.size<=60
theorem zgE{σ ρ:Type}{step:σ->ByteArray->ByteArray->Except ρ σ}{l:List Rw}{id fl cd:Int}{L:UInt8}(I:σ->Prop)(hI:∀ s k r s',I s->(Ds.bl k).headD 0=L->step s k r=.ok s'->I s') :
  ∀ (f:Nat) (c:Int) (k:List UInt8) (s s':σ) (e c':Int),I s->zb4 l id fl cd L step f c k s=(.ok (s',e),c')->I s'
 | 0,c,k,s,s',e,c',hs,h=>by
   rw[zb4] at h
   cases h;exact hs
 | f+1,c,k,s,s',e,c',hs,h=>by
   rw[zb4] at h
   split at h
   · cases h;exact hs
   split at h
   · cases h;exact hs
   rename_i x _
   split at h
   · cases h;exact hs
   rename_i h1
   split at h
   · exact zgE I hI f _ _ _ _ _ _ hs h
   rename_i h2
   have hL:(Ds.bl x.2.1).headD 0=L:=by
    refine UInt8.toNat_inj.1 ?_
    have q1:¬ L.toNat<((Ds.bl x.2.1).headD 0).toNat:=fun h=>h1 (UInt8.lt_iff_toNat_lt.2 h)
    have q2:¬ ((Ds.bl x.2.1).headD 0).toNat<L.toNat:=fun h=>h2 (UInt8.lt_iff_toNat_lt.2 h)
    omega
   cases hst:step s x.2.1 x.2.2 with
   | ok s2 =>
     rw[hst] at h
     exact zgE I hI f _ _ _ _ _ _ (hI _ _ _ _ hs hL hst) h
   | error e=>rw[hst] at h;cases h
theorem zrG{y:Fu}(h:okX y=true)(hk:(zhf y).headD 0=65):Ali y:=by
 have h0:=zdp y h
 have hn:=zdj y h
 have h2:y.1.kind=2:=by
  unfold zhf Ek.key at hk
  rw[if_pos ⟨by unfold Ek.isKind;simp only[Bool.and_eq_true,decide_eq_true_eq];exact h0,hn.1⟩] at hk
  have hl:Ek.letter y.1.kind=65:=hk
  have:y.1.kind=0∨y.1.kind=1∨y.1.kind=2∨y.1.kind=3∨y.1.kind=4:=by omega
  rcases this with e|e|e|e|e
  · rw[e] at hl;exact absurd hl (by decide)
  · rw[e] at hl;exact absurd hl (by decide)
  · exact e
  · rw[e] at hl;exact absurd hl (by decide)
  · rw[e] at hl;exact absurd hl (by decide)
 unfold okX at h
 rw[if_neg (by omega),if_neg (by omega),if_pos h2] at h
 unfold okA at h
 simp only[Bool.and_eq_true] at h
 have:=(zby _ _ _ _ _ _).1 h.2
 refine⟨this.2.1.symm,this.2.2.symm,?_⟩
 have:=hn.1
 rw[Ds.bl_length] at this
 omega
theorem zf7(l:List Rw)(fl cd ca id:Int)(name:ByteArray):∀ y∈(zeL l fl cd ca id name).1.1,Ali y:=by
 unfold zeL
 cases hr:zb4 l id fl cd 65 (zfA name) (l.length+1) ca [(65:UInt8) - 1,255] [] with
 | mk a c =>
   cases a with
   | error e=>intro y hy;cases hy
   | ok p =>
     obtain⟨s,code⟩:=p
     have hs:=zgE (I:=fun s=>∀ y∈s,Ali y) (fun s k r s' hs hk hst=>by
      unfold zfA at hst
      split at hst
      · cases hst
      rename_i hz
      obtain⟨o1,o2⟩:=zgp hz
      split at hst
      · cases hst
        intro y hy
        rcases List.mem_append.1 hy with hy|hy
        · exact hs y hy
        · rw[List.mem_singleton] at hy;subst hy
          exact zrG o1 (by rw[o2];exact hk)
      · cases hst;exact hs) _ _ _ _ _ _ _ (fun y hy=>by cases hy) hr
     dsimp only
     split
     · intro y hy;cases hy
     · exact hs
theorem zgF{σ ρ:Type}{step:σ->ByteArray->ByteArray->Except ρ σ}{l:List Rw}{id fl cd:Int}{L:UInt8}(len:σ->Nat)(hI:∀ s k r s',step s k r=.ok s'->len s'<=len s+1) :
  ∀ (f:Nat) (c:Int) (k:List UInt8) (s s':σ) (e c':Int),zb4 l id fl cd L step f c k s=(.ok (s',e),c')->len s'<=len s+f
 | 0,c,k,s,s',e,c',h=>by
   rw[zb4] at h
   cases h;omega
 | f+1,c,k,s,s',e,c',h=>by
   rw[zb4] at h
   split at h
   · cases h;omega
   split at h
   · cases h;omega
   rename_i x _
   split at h
   · cases h;omega
   split at h
   · have:=zgF len hI f _ _ _ _ _ _ h;omega
   cases hst:step s x.2.1 x.2.2 with
   | ok s2 =>
     rw[hst] at h
     have h1:=zgF len hI f _ _ _ _ _ _ h
     have h2:=hI _ _ _ _ hst
     omega
   | error e=>rw[hst] at h;cases h
theorem zgu{σ ρ:Type}{step:σ->ByteArray->ByteArray->Except ρ σ}{l:List Rw}{id fl cd:Int}{L:UInt8} :
  ∀ (f:Nat) (c:Int) (k:List UInt8) (s:σ),c<=(zb4 l id fl cd L step f c k s).2∧(zb4 l id fl cd L step f c k s).2<=c+f
 | 0,c,k,s=>by rw[zb4];exact⟨Int.le_refl _,by show c<=c+(0:Nat);omega⟩
 | f+1,c,k,s=>by
   have q:c<=c+1∧c+1<=c+((f+1:Nat):Int):=⟨by omega,by omega⟩
   rw[zb4]
   split
   · exact q
   split
   · exact q
   rename_i x _
   split
   · exact q
   split
   · have:=zgu (step:=step) (l:=l) (id:=id) (fl:=fl) (cd:=cd) (L:=L) f (c+1) (Ds.bl x.2.1) s;omega
   cases step s x.2.1 x.2.2 with
   | ok s2=>have:=zgu (step:=step) (l:=l) (id:=id) (fl:=fl) (cd:=cd) (L:=L) f (c+1) (Ds.bl x.2.1) s2;dsimp only;omega
   | error e=>exact q
theorem zf0(l:List Rw)(fl cd ca id:Int)(name:ByteArray):(zeL l fl cd ca id name).1.1.length<=l.length+1:=by
 unfold zeL
 cases hr:zb4 l id fl cd 65 (zfA name) (l.length+1) ca [(65:UInt8) - 1,255] [] with
 | mk a c =>
   cases a with
   | error e=>exact Nat.zero_le _
   | ok p =>
     obtain⟨s,code⟩:=p
     have h:=zgF List.length (ziA name) _ _ _ _ _ _ _ hr
     dsimp only
     split
     · exact Nat.zero_le _
     · simpa using h
theorem zeg{w w1 w2 w0:World}{p:Nat}{sv:Value}{l:List Rw}{fl cd c c2:Int}{y:Fu}{al gr:Value}(hS:SHs w0 w1 p sv l fl cd c)(hG:w.grownBy w1 (some p))(hI:IS w2 al y.2.1)(hGs:GS w2 gr y.2.2)(hf1:∀ q,al.ownBlock=some q->w1.heap.size<=q)(hf2:∀ q,gr.ownBlock=some q->w1.heap.size<=q)(hs:SHs w0 w2 p sv l fl cd c2)(hg:w1.grownBy w2 (some p)) :
  zaV (y.1.vals al gr).toList=true∧p<w2.heap.size∧p<w1.heap.size∧(∀ q,al.ownBlock=some q->p<q)∧(∀ q,gr.ownBlock=some q->p<q)∧w2.heap.size≠p∧w.heap.size<=w2.heap.size∧Hid (IS w2 al y.2.1)∧Hid (GS w2 gr y.2.2)∧Hid (IS (w2.alloc (.cells (y.1.vals al gr) 32)) al y.2.1)∧Hid (GS (w2.alloc (.cells (y.1.vals al gr) 32)) gr y.2.2)∧row (w2.alloc (.cells (y.1.vals al gr) 32)) w2.heap.size=y.1.vals al gr∧Held (w2.alloc (.cells (y.1.vals al gr) 32)) w2.heap.size 33∧Hid (w.grownBy (w2.alloc (.cells (y.1.vals al gr) 32)) (some p))∧Hid (SHs w0 (w2.alloc (.cells (y.1.vals al gr) 32)) p sv l fl cd c2):=by
 have z2:=hs.pl
 have zS:=hS.pl
 have b:=zag w2 (.cells (y.1.vals al gr) 32)
 exact⟨zav y.1 al gr (zaT hI) (zaU hGs),z2,zS,fun q hq=>by have:=hf1 q hq;omega,fun q hq=>by have:=hf2 q hq;omega,by omega,(zaI hG hg).size,lh hI,lh hGs,lh (hI.below b),lh (hGs.below b),zai w2 _ _ _,zhp w2 _ _ (zab _ _ _),lh (zaG (zaI hG hg) (b.mono (zaI hG hg).size)),lh (hs.below b)⟩
end
section
set_option maxHeartbeats 16000000
set_option maxRecDepth 8000
theorem zaY{a b c:World}{p:Option Nat}(h:a.grownBy b p)(k:Below b.heap.size b c):a.grownBy c p:=zaG h (k.mono h.size)
theorem zb2{w w':World}{p b n:Nat}(h:Held w b n)(hg:w.grownBy w' (some p))(hne:b≠p):Held w' b n:=h.of_block (hg.block b h.lt (fun e=>hne (Option.some.inj e)))
theorem zqn{wb w:World}{al v:Value}{l:List Int}{be i:Nat}(h0:IS wb al l)(hlt:wb.heap.size<=be)(h:IS w al l):IS (w.setCell ⟨be,i,none⟩ v) al l:=by
 obtain⟨a,c,rfl,hz,hc⟩:=h0
 obtain⟨a',c',e,-,hc'⟩:=h
 cases e
 refine⟨_,_,rfl,hz,fun hp=>?_⟩
 obtain⟨b,o,ha,hb,-⟩:=hc hp
 obtain⟨b',o',ha',hb',hcell⟩:=hc' hp
 subst ha
 cases ha'
 exact⟨_,_,rfl,by simpa using hb',fun k hk=>by rw[World.cell?_setCell_other _ _ _ _ (by intro h;cases h;omega)];exact hcell k hk⟩
theorem zqc{wb w:World}{al v:Value}{l:List Gr}{be i:Nat}(h0:GS wb al l)(hlt:wb.heap.size<=be)(h:GS w al l):GS (w.setCell ⟨be,i,none⟩ v) al l:=by
 obtain⟨a,c,rfl,hz,hc⟩:=h0
 obtain⟨a',c',e,-,hc'⟩:=h
 cases e
 refine⟨_,_,rfl,hz,fun hp=>?_⟩
 obtain⟨b,o,ha,hb,-⟩:=hc hp
 obtain⟨b',o',ha',hb',hcell⟩:=hc' hp
 subst ha
 cases ha'
 have hne:∀ j,(w.setCell ⟨be,i,none⟩ v).cell? ⟨b,j,none⟩=w.cell? ⟨b,j,none⟩:=fun j=>World.cell?_setCell_other _ _ _ _ (by intro h;cases h;omega)
 exact⟨_,_,rfl,by simpa using hb',fun k hk=>⟨(hne _).trans (hcell k hk).1,(hne _).trans (hcell k hk).2.1,(hne _).trans (hcell k hk).2.2⟩⟩
theorem zqj(W:World)(a:Option Addr)(c:Nat):IS W (.slice a 0 c) []:=⟨a,c,rfl,by simp,fun h=>by simp at h⟩
theorem zqb(W:World)(a:Option Addr)(c:Nat):GS W (.slice a 0 c) []:=⟨a,c,rfl,by simp,fun h=>by simp at h⟩
theorem zqC(W:World)(x:Ch)(t:TypeId):(W.alloc (.cells (ch5 x) t)).ownsRow W.heap.size t 5 (.slice (some ⟨W.heap.size,0,none⟩) 1 1) 1 (cv [x]):=by
 refine⟨?_,.inr ⟨W.heap.size,1,ch5 x,rfl,Nat.le_refl _,heap_alloc_new W _,Nat.le_refl _,by unfold maxLen;omega,rfl,?_⟩⟩
 · rw[znZ];rfl
 · exact (show List.take (1*5) (ch5 x).toList=(ch5 x).toList from rfl).trans (List.append_nil _).symm
attribute [local go_sem ↓] zaX zdf za0 zaD zbg zka
attribute [local go_sem] zaA zas zan zaM zaO zah zat zai zau zaf zak zaq zab zap zaj zaE zaC zao zam zax zaL zay zaz
theorem zg7(p:Nat)(sv:Value)(l:List Rw)(fl cd ca id:Int)(name tn:ByteArray)(w0 w:World)(hm:MaxL w0)(hT:Tab w0)(hS:SHs w0 w p sv l fl cd ca)(hso:∀ b,sv.ownBlock=some b->b<w.heap.size)(hl:l.length<=1000)(hc0:0<=ca)(hc1:ca<=80000)(hcd:cd≠0∧cd≠6∨fl<=0)(hns:name.size<=1000)(hts:tn.size<=1000) :
  Calls Tryz.prog 31 #[.iface 37 (.pointer (some ⟨p,0,none⟩)),.int .i64 id,.string name,.string tn] w fun r w'=>ChR w0 w w' p sv l fl cd (znC l fl cd ca id name tn) r:=by
 have S:=lh hS
 have G:=lh (World.grownBy.refl w (some p))
 have hz0:=hS.b.size
 have hpl:=hS.pl
 have hcd2:cd≠0∨fl<=0:=hcd.imp (fun h=>h.1) (fun h=>h)
 have hvv:=fun W (b:Below w0.heap.size w0 W)=>zbX tn W (hm.below b)
 have hi1:=fun W (b:Below w0.heap.size w0 W)=>ziO name W hns (hm.below b)
 have hi2:=fun W (b:Below w0.heap.size w0 W)=>ziO tn W hts (hm.below b)
 clear hS
 unfold znC
 generalize Ds.name (Ds.bl tn)=bv at hvv ⊢
 have HV:=lh hvv
 clear hvv
 cases bv
 · rw[if_pos rfl]
   go_enter Tryz.func31,Tryz.ntmps31
   go_wp2_with (first|(go_at_call 62;(with_reducible refine (HV.out _ S.out.b).mono ?_);rintro _ w1 ⟨rfl,hb⟩;have G:=lh (zaY G.out hb);have S:=lh (S.out.below hb);clear hb))
   go_ret2
   exact⟨_,rfl,zbi _,S.out,G.out⟩
 rw[if_neg (by simp)]
 have hget:=fun W (h:SHs w0 W p sv l fl cd ca)=>zdT p sv l fl cd ca id 0 name w0 W hm hT h hc0 (by omega) hcd2
 have hca:=zbU l fl cd ca id 0 name
 have hsh:=zfX l fl cd ca id 0 name
 generalize zbs l fl cd ca id 0 name=gg at hget hca hsh ⊢
 obtain⟨⟨y,code⟩,cb⟩:=gg
 dsimp only at hca hsh ⊢
 have HGE:=lh hget
 clear hget
 by_cases h0:code=0
 rotate_left
 · rw[if_pos h0]
   have t1:(code != 0)=true:=by rw[bne_iff_ne];exact h0
   clear h0
   go_enter Tryz.func31,Tryz.ntmps31
   go_wp2_with (first|(go_at_call 62;(with_reducible refine (HV.out _ S.out.b).mono ?_);rintro _ w1 ⟨rfl,hb⟩;have G:=lh (zaY G.out hb);have S:=lh (S.out.below hb);clear hb)|(go_at_call 14;(refine (HGE.out _ S.out).mono ?_);rintro _ w2 ⟨⟨al,gr,rfl,hI,hGs,hf1,hf2⟩,hs,hg⟩;clear HGE;obtain⟨hone,z2,zS,O1,O2,nb,zw,I0,J0,I,J,R,H,G,S⟩:=zeg S.out G.out hI hGs hf1 hf2 hs hg;clear hI hGs hf1 hf2 hs hg))
   go_ret2
   exact⟨_,rfl,zbi _,S.out,G.out⟩
 rw[if_neg (fun h=>h h0)]
 subst h0
 generalize Ds.gen (Ds.bl name)=b1 at hi1 ⊢
 generalize Ds.gen (Ds.bl tn)=b2 at hi2 ⊢
 have HI1:=lh hi1
 have HI2:=lh hi2
 clear hi1 hi2
 cases b1
 rotate_left
 · rw[if_pos (.inl rfl)]
   go_enter Tryz.func31,Tryz.ntmps31
   go_wp2_with (first|(go_at_call 62;(with_reducible refine (HV.out _ S.out.b).mono ?_);rintro _ w1 ⟨rfl,hb⟩;have G:=lh (zaY G.out hb);have S:=lh (S.out.below hb);clear hb)|(go_at_call 14;(refine (HGE.out _ S.out).mono ?_);rintro _ w2 ⟨⟨al,gr,rfl,hI,hGs,hf1,hf2⟩,hs,hg⟩;clear HGE;obtain⟨hone,z2,zS,O1,O2,nb,zw,I0,J0,I,J,R,H,G,S⟩:=zeg S.out G.out hI hGs hf1 hf2 hs hg;clear hI hGs hf1 hf2 hs hg)|(go_at_call 84;(with_reducible refine (HI1.out _ S.out.b).mono ?_);rintro _ w3 ⟨rfl,hb⟩;clear HI1;have R:=zae hb R (by rw[zab];decide);have H:=H.below hb;have I:=lh (I.out.below hb);have J:=lh (J.out.below hb);have G:=lh (zaY G.out hb);have S:=lh (S.out.below hb);clear hb))
   go_ret2
   exact⟨_,rfl,zbi _,S.out,G.out⟩
 cases b2
 rotate_left
 · rw[if_pos (.inr rfl)]
   go_enter Tryz.func31,Tryz.ntmps31
   go_wp2_with (first|(go_at_call 62;(with_reducible refine (HV.out _ S.out.b).mono ?_);rintro _ w1 ⟨rfl,hb⟩;have G:=lh (zaY G.out hb);have S:=lh (S.out.below hb);clear hb)|(go_at_call 14;(refine (HGE.out _ S.out).mono ?_);rintro _ w2 ⟨⟨al,gr,rfl,hI,hGs,hf1,hf2⟩,hs,hg⟩;clear HGE;obtain⟨hone,z2,zS,O1,O2,nb,zw,I0,J0,I,J,R,H,G,S⟩:=zeg S.out G.out hI hGs hf1 hf2 hs hg;clear hI hGs hf1 hf2 hs hg)|(go_at_call 84;(with_reducible refine (HI1.out _ S.out.b).mono ?_);rintro _ w3 ⟨rfl,hb⟩;clear HI1;have R:=zae hb R (by rw[zab];decide);have H:=H.below hb;have I:=lh (I.out.below hb);have J:=lh (J.out.below hb);have G:=lh (zaY G.out hb);have S:=lh (S.out.below hb);clear hb)|(go_at_call 84;(with_reducible refine (HI2.out _ S.out.b).mono ?_);rintro _ w3 ⟨rfl,hb⟩;clear HI2;have R:=zae hb R (by rw[zab];decide);have H:=H.below hb;have I:=lh (I.out.below hb);have J:=lh (J.out.below hb);have G:=lh (zaY G.out hb);have S:=lh (S.out.below hb);clear hb))
   go_ret2
   exact⟨_,rfl,zbi _,S.out,G.out⟩
 rw[if_neg (by simp)]
 have hfi:=fun W (h:SHs w0 W p sv l fl cd cb)=>zeQ p sv l fl cd cb id tn w0 W hm hT h (by omega) (by omega) hcd
 have hcf:=zeh l fl cd cb id tn
 generalize zbL l fl cd cb id tn=gf at hfi hcf ⊢
 obtain⟨⟨yf,c2⟩,cc⟩:=gf
 dsimp only at hcf ⊢
 have HF:=lh hfi
 clear hfi
 by_cases h1:zep c2=0
 rotate_left
 · rw[if_pos h1]
   have t1:(zep c2 != 0)=true:=by rw[bne_iff_ne];exact h1
   clear h1
   go_enter Tryz.func31,Tryz.ntmps31
   go_wp2_with (first|(go_at_call 62;(with_reducible refine (HV.out _ S.out.b).mono ?_);rintro _ w1 ⟨rfl,hb⟩;have G:=lh (zaY G.out hb);have S:=lh (S.out.below hb);clear hb)|(go_at_call 14;(refine (HGE.out _ S.out).mono ?_);rintro _ w2 ⟨⟨al,gr,rfl,hI,hGs,hf1,hf2⟩,hs,hg⟩;clear HGE;obtain⟨hone,z2,zS,O1,O2,nb,zw,I0,J0,I,J,R,H,G,S⟩:=zeg S.out G.out hI hGs hf1 hf2 hs hg;clear hI hGs hf1 hf2 hs hg)|(go_at_call 84;(with_reducible refine (HI1.out _ S.out.b).mono ?_);rintro _ w3 ⟨rfl,hb⟩;clear HI1;have R:=zae hb R (by rw[zab];decide);have H:=H.below hb;have I:=lh (I.out.below hb);have J:=lh (J.out.below hb);have G:=lh (zaY G.out hb);have S:=lh (S.out.below hb);clear hb)|(go_at_call 84;(with_reducible refine (HI2.out _ S.out.b).mono ?_);rintro _ w3 ⟨rfl,hb⟩;clear HI2;have R:=zae hb R (by rw[zab];decide);have H:=H.below hb;have I:=lh (I.out.below hb);have J:=lh (J.out.below hb);have G:=lh (zaY G.out hb);have S:=lh (S.out.below hb);clear hb)|(go_at_call 16;(refine (HF.out _ S.out).mono ?_);rintro _ w4 ⟨⟨al2,gr2,rfl,hI2,hG2,-,-⟩,hs,hg⟩;have hone2:=zav yf.1 al2 gr2 (zaT hI2) (zaU hG2);have R:=zaZ R (by rw[zab];decide) hg nb;have H:=zb2 H hg nb;have I:=lh (zbI I.out hg O1);have J:=lh (zbE J.out hg O2);have G:=lh (zaI G.out hg);have S:=lh hs;clear hI2 hG2 hs hg)|(go_at_call 51;(refine (zc9 _ _).mono ?_);rintro _ _ ⟨rfl,rfl⟩))
   go_ret2
   exact⟨_,rfl,zbi _,S.out,G.out⟩
 rw[if_neg (fun h=>h h1)]
 have t2:(zep c2 != 0)=false:=by rw[h1];rfl
 clear h1
 have hal:=fun W (h:SHs w0 W p sv l fl cd cc) (ho:∀ b,sv.ownBlock=some b->b<W.heap.size)=>zel p sv l fl cd cc id name w0 W hm hT h ho hl (by omega) (by omega) hcd
 have hgo:=zf7 l fl cd cc id name
 have hle:=zf0 l fl cd cc id name
 generalize zeL l fl cd cc id name=ga at hal hgo hle ⊢
 obtain⟨⟨s,c3⟩,ce⟩:=ga
 dsimp only at hgo hle ⊢
 have HAL:=lh hal
 clear hal
 by_cases h3:c3=0
 rotate_left
 · rw[if_pos h3]
   have t1:(c3 != 0)=true:=by rw[bne_iff_ne];exact h3
   clear h3
   go_enter Tryz.func31,Tryz.ntmps31
   go_wp2_with (first|(go_at_call 62;(with_reducible refine (HV.out _ S.out.b).mono ?_);rintro _ w1 ⟨rfl,hb⟩;have G:=lh (zaY G.out hb);have S:=lh (S.out.below hb);clear hb)|(go_at_call 14;(refine (HGE.out _ S.out).mono ?_);rintro _ w2 ⟨⟨al,gr,rfl,hI,hGs,hf1,hf2⟩,hs,hg⟩;clear HGE;obtain⟨hone,z2,zS,O1,O2,nb,zw,I0,J0,I,J,R,H,G,S⟩:=zeg S.out G.out hI hGs hf1 hf2 hs hg;clear hI hGs hf1 hf2 hs hg)|(go_at_call 84;(with_reducible refine (HI1.out _ S.out.b).mono ?_);rintro _ w3 ⟨rfl,hb⟩;clear HI1;have R:=zae hb R (by rw[zab];decide);have H:=H.below hb;have I:=lh (I.out.below hb);have J:=lh (J.out.below hb);have G:=lh (zaY G.out hb);have S:=lh (S.out.below hb);clear hb)|(go_at_call 84;(with_reducible refine (HI2.out _ S.out.b).mono ?_);rintro _ w3 ⟨rfl,hb⟩;clear HI2;have R:=zae hb R (by rw[zab];decide);have H:=H.below hb;have I:=lh (I.out.below hb);have J:=lh (J.out.below hb);have G:=lh (zaY G.out hb);have S:=lh (S.out.below hb);clear hb)|(go_at_call 16;(refine (HF.out _ S.out).mono ?_);rintro _ w4 ⟨⟨al2,gr2,rfl,hI2,hG2,-,-⟩,hs,hg⟩;have hone2:=zav yf.1 al2 gr2 (zaT hI2) (zaU hG2);have R:=zaZ R (by rw[zab];decide) hg nb;have H:=zb2 H hg nb;have I:=lh (zbI I.out hg O1);have J:=lh (zbE J.out hg O2);have G:=lh (zaI G.out hg);have S:=lh hs;clear hI2 hG2 hs hg)|(go_at_call 51;(refine (zc9 _ _).mono ?_);rintro _ _ ⟨rfl,rfl⟩)|(go_at_call 64;(refine (HAL.out _ S.out (fun b hb=>Nat.lt_of_lt_of_le (hso b hb) G.out.size)).mono ?_);rintro _ w5 ⟨hv,rws,rfl,hJ,hs,hg⟩;have zb:=H.lt;obtain⟨va,vc,rfl⟩:=zbd hJ.own;rw[List.length_map] at hJ;have HJL:=lh hJ;have R:=zaZ R (by rw[zab];decide) hg nb;have H:=zb2 H hg nb;have I:=lh (zbI I.out hg O1);have J:=lh (zbE J.out hg O2);have G:=lh (zaI G.out hg);have S:=lh hs;clear hJ hs hg))
   go_ret2
   exact⟨_,rfl,zbi _,S.out,G.out⟩
 rw[if_neg (fun h=>h h3)]
 subst h3
 have hpu:∀ W (b:Below w0.heap.size w0 W) al gr (i1:IS W al y.2.1) (i2:GS W gr y.2.2),Calls Tryz.prog 56 #[.int .i64 id,.agg ((zl5 y tn).1.vals al gr)] W fun r w'=>r=.returned (.agg #[.int .i64 0,.int .i64 id,.string (zbl (zl5 y tn).1.kind (zl5 y tn).1.name),.string (zbT (zl5 y tn)),.string ⟨#[]⟩])∧Below W.heap.size W w':=fun W b al gr i1 i2=>ziY id (zl5 y tn) al gr W (hm.below b) (hT.below b) hts i1 i2
 have her:∀ W al gr,zaV (y.1.vals al gr).toList=true->Calls Tryz.prog 65 #[.int .i64 id,.agg (y.1.vals al gr)] W fun r w'=>r=.returned (.agg #[.int .i64 1,.int .i64 id,.string (zbl y.1.kind y.1.name),.string ⟨#[]⟩,.string ⟨#[]⟩])∧Below W.heap.size W w':=fun W al gr h=>ziq id y al gr W h
 have HPU:=lh hpu
 have HER:=lh her
 clear hpu her
 unfold ztl zcP zbv
 generalize zbl y.1.kind y.1.name=k1 at HER ⊢
 generalize zbl (zl5 y tn).1.kind (zl5 y tn).1.name=k2 at HPU ⊢
 generalize zbT (zl5 y tn)=r2 at HPU ⊢
 go_enter Tryz.func31,Tryz.ntmps31
 go_wp2_with (first|(go_at_call 62;(with_reducible refine (HV.out _ S.out.b).mono ?_);rintro _ w1 ⟨rfl,hb⟩;have G:=lh (zaY G.out hb);have S:=lh (S.out.below hb);clear hb)|(go_at_call 14;(refine (HGE.out _ S.out).mono ?_);rintro _ w2 ⟨⟨al,gr,rfl,hI,hGs,hf1,hf2⟩,hs,hg⟩;clear HGE;obtain⟨hone,z2,zS,O1,O2,nb,zw,I0,J0,I,J,R,H,G,S⟩:=zeg S.out G.out hI hGs hf1 hf2 hs hg;clear hI hGs hf1 hf2 hs hg)|(go_at_call 84;(with_reducible refine (HI1.out _ S.out.b).mono ?_);rintro _ w3 ⟨rfl,hb⟩;clear HI1;have R:=zae hb R (by rw[zab];decide);have H:=H.below hb;have I:=lh (I.out.below hb);have J:=lh (J.out.below hb);have G:=lh (zaY G.out hb);have S:=lh (S.out.below hb);clear hb)|(go_at_call 84;(with_reducible refine (HI2.out _ S.out.b).mono ?_);rintro _ w3 ⟨rfl,hb⟩;clear HI2;have R:=zae hb R (by rw[zab];decide);have H:=H.below hb;have I:=lh (I.out.below hb);have J:=lh (J.out.below hb);have G:=lh (zaY G.out hb);have S:=lh (S.out.below hb);clear hb)|(go_at_call 16;(refine (HF.out _ S.out).mono ?_);rintro _ w4 ⟨⟨al2,gr2,rfl,hI2,hG2,-,-⟩,hs,hg⟩;have hone2:=zav yf.1 al2 gr2 (zaT hI2) (zaU hG2);have R:=zaZ R (by rw[zab];decide) hg nb;have H:=zb2 H hg nb;have I:=lh (zbI I.out hg O1);have J:=lh (zbE J.out hg O2);have G:=lh (zaI G.out hg);have S:=lh hs;clear hI2 hG2 hs hg)|(go_at_call 51;(refine (zc9 _ _).mono ?_);rintro _ _ ⟨rfl,rfl⟩)|(go_at_call 64;(refine (HAL.out _ S.out (fun b hb=>Nat.lt_of_lt_of_le (hso b hb) G.out.size)).mono ?_);rintro _ w5 ⟨hv,rws,rfl,hJ,hs,hg⟩;have zb:=H.lt;obtain⟨va,vc,rfl⟩:=zbd hJ.own;rw[List.length_map] at hJ;have HJL:=lh hJ;have R:=zaZ R (by rw[zab];decide) hg nb;have H:=zb2 H hg nb;have I:=lh (zbI I.out hg O1);have J:=lh (zbE J.out hg O2);have G:=lh (zaI G.out hg);have S:=lh hs;clear hJ hs hg)|(go_at_call 65;(refine (HER.out _ _ _ hone).mono ?_);rintro _ w6 ⟨rfl,hb⟩;have zb6:=hb.size;have HJL:=lh (HJL.out.below hb);have R:=zae hb R (by rw[zab];decide);have H:=H.below hb;have I:=lh (I.out.below hb);have J:=lh (J.out.below hb);have G:=lh (zaY G.out hb);have S:=lh (S.out.below hb);have zh6:=H.lt;have NA:=zaa R 1 _ (zaz _ _ _);have FA:=H.2.2 1;have RS:row (w6.setCell ⟨w2.heap.size,1,none⟩ (.string tn)) w2.heap.size=(zl5 y tn).1.vals al gr:=((ze3 _ _ 1 (.string tn) _ R (by rw[zab];decide)).trans (zlV _ _ _ _));have BAl:=zag (w6.setCell ⟨w2.heap.size,1,none⟩ (.string tn)) (.cells #[.int .i64 1,.int .i64 id,.string k1,.string ⟨#[]⟩,.string ⟨#[]⟩] 74);have R6:=zae BAl RS (by rw[zab];decide);have I6:=lh ((zqn (i:=1) (v:=.string tn) I0.out (Nat.le_refl _) I.out).below BAl);have J6:=lh ((zqc (i:=1) (v:=.string tn) J0.out (Nat.le_refl _) J.out).below BAl);have GB:=lh (zaY (zaH w6 ⟨w2.heap.size,1,none⟩ (.string tn)) BAl);have B6:=(S.out.other GB.out (fun e=>nb e.symm) (by show w0.heap.size<=w2.heap.size;omega) (fun b hb=>by have:=hso b hb;show b≠w2.heap.size;omega)).b;have OW0:=zqC (w6.setCell ⟨w2.heap.size,1,none⟩ (.string tn)) (1,id,k1,⟨#[]⟩,⟨#[]⟩) 74;rw[show (w6.setCell ⟨w2.heap.size,1,none⟩ (.string tn)).heap.size=w6.heap.size by simp] at OW0;have OW:=lh OW0;have z6:w6.heap.size<((w6.setCell ⟨w2.heap.size,1,none⟩ (.string tn)).alloc (.cells #[.int .i64 1,.int .i64 id,.string k1,.string ⟨#[]⟩,.string ⟨#[]⟩] 74)).heap.size:=(by simp);clear hb OW0 BAl)|(go_at_call 56;(refine (HPU.out _ B6 al gr I6.out J6.out).mono ?_);rintro _ w7 ⟨rfl,hb⟩;have OW:=lh (zaF OW.out (fun x hx=>hb.block x (zar OW.out x hx).2));have GB:=lh (zaY GB.out hb);have z7:=hb.size;clear hb)|(at_builtin;have OWQ:=zaF OW.out (fun x hx=>(zag w7 (.cells #[.int .i64 0,.int .i64 id,.string k2,.string r2,.string ⟨#[]⟩] 74)).block x (zar OW.out x hx).2);refine zbC _ rfl (.tmp 63) (.tmp 67) 33 74 _ _ 5 64 rfl Tryz.underlying33 zqx zh7 zh5 zhX rfl (by decide) w6.heap.size (.slice (some ⟨w6.heap.size,0,none⟩) 1 1) (.slice (some ⟨w7.heap.size,0,none⟩) 1 1) 1 1 (cv [(1,id,k1,⟨#[]⟩,⟨#[]⟩)]) (cv [(0,id,k2,r2,⟨#[]⟩)]) rfl OWQ rfl (zft w7 (0,id,k2,r2,⟨#[]⟩) _ _ rfl) (zeD _) (by unfold maxLen;omega) (by omega) (by simp;omega) ?_;intro a8 c8 w8 hown hg8 _;have OW8:=lh hown;have GB8:=lh (zaG (zaY GB.out (zag w7 (.cells #[.int .i64 0,.int .i64 id,.string k2,.string r2,.string ⟨#[]⟩] 74))) (zbH hg8 (fun q hq=>(zar OWQ q hq).1) (by simp;omega)));clear hown hg8 OWQ))
 have OW8':w8.ownsRow w6.heap.size 74 5 (.slice a8 2 c8) 2 (cv ([(1,id,k1,⟨#[]⟩,⟨#[]⟩),(0,id,k2,r2,⟨#[]⟩)]++(s.take 0).map fun a=>(0,id,zbl (zfZ a tn).1.kind (zfZ a tn).1.name,zbT (zfZ a tn),⟨#[]⟩))):=OW8.out
 have HOW:=lh OW8'
 clear OW8' OW8 OW R6 I6 J6 B6 NA FA RS
 go_loopw [13,71] (fun v i wr=>∃ (k:Nat),k<=s.length∧i=.int .i64 k∧wr.ownsRow w6.heap.size 74 5 v (k+2) (cv ([(1,id,k1,⟨#[]⟩,⟨#[]⟩),(0,id,k2,r2,⟨#[]⟩)]++(s.take k).map fun a=>(0,id,zbl (zfZ a tn).1.kind (zfZ a tn).1.name,zbT (zfZ a tn),⟨#[]⟩)))∧w6.grownBy wr (some w2.heap.size)) (fun _ i _=>s.length - (intOf i).toNat)
 case atStart=>exact⟨0,Nat.zero_le _,rfl,HOW.out,GB8.out⟩
 case round =>
  obtain⟨k,hk,rfl,hown,hg⟩:=hrel
  obtain⟨ra,rc,rfl⟩:=zbd hown
  have HO:=lh hown
  have HG:=lh hg
  have zg:=hg.size
  clear hown hg
  by_cases hlt:k<s.length
  · have hJw:=HJL.out.keep zg (fun j hj hj2=>HG.out.block j hj2 (fun e=>by have:=Option.some.inj e;omega))
    obtain⟨va',vc',GG,hve,hES,hlst,-⟩:=hJw.es (by rw[List.length_map];omega)
    rw[List.length_map] at hve hES hlst
    injection hve with v1 v2 v3
    subst v1 v3
    clear v2
    obtain⟨b,o,rfl,hb,a1,c1,a2,c2',hmid,-,-,-⟩:=hES.2 k hlt
    have hGk:GG k=zgP s[k]:=by
     have e1:(lst GG s.length)[k]?=(s.map zgP)[k]?:=by rw[hlst]
     unfold lst at e1
     rw[List.getElem?_map,List.getElem?_range hlt,List.getElem?_map,List.getElem?_eq_getElem hlt] at e1
     exact Option.some.inj e1
    obtain⟨g1,g2,g3⟩:=hgo s[k] (List.getElem_mem hlt)
    rw[hGk] at hmid
    unfold zgP at hmid
    rw[g1,g2] at hmid
    simp only[List.length_nil] at hmid
    have htk:s.take (k+1)=s.take k++[s[k]]:=List.take_succ_eq_append_getElem hlt
    generalize s[k]=q at g1 g2 g3 hmid htk
    obtain⟨qe,ql,qg⟩:=q
    simp only at g1 g2 g3 hmid
    subst g1 g2
    have hone2:=zav qe (.slice a1 0 c1) (.slice a2 0 c2') rfl rfl
    have hz33:(mid wr b (o+k*33)).size=33:=by rw[hmid];exact zab _ _ _
    have j1:(0:Int)<=(k:Int):=by omega
    have j2:(k:Int)<(s.length:Int):=by omega
    have RQ:=zai wr (qe.vals (.slice a1 0 c1) (.slice a2 0 c2')) 32 (0,0)
    have NQ:=zaa RQ 29 _ (za9 _ _ _)
    have FQ:=(zhp wr (qe.vals (.slice a1 0 c1) (.slice a2 0 c2')) 32 (zab _ _ _)).2.2 29
    obtain⟨qt,hqt⟩:∃ qt:En,zfZ (qe,[],[]) tn=(qt,[],[]):=⟨_,rfl⟩
    have hqt1:({ qe with target:=tn }:En)=qt:=congrArg Prod.fst hqt
    have hqv:(qe.vals (.slice a1 0 c1) (.slice a2 0 c2')).setIfInBounds 29 (.string tn)=qt.vals (.slice a1 0 c1) (.slice a2 0 c2'):=by rw[<-hqt1];exact zlW _ _ _ _
    have hqs:qt.name.size<=1000:=by rw[<-hqt1];show qe.name.size<=1000;omega
    have hmap:((s.take (k+1)).map fun a=>((0,id,zbl (zfZ a tn).1.kind (zfZ a tn).1.name,zbT (zfZ a tn),⟨#[]⟩):Ch))=((s.take k).map fun a=>((0,id,zbl (zfZ a tn).1.kind (zfZ a tn).1.name,zbT (zfZ a tn),⟨#[]⟩):Ch))++[(0,id,zbl qt.kind qt.name,zbT (qt,[],[]),⟨#[]⟩)]:=by
     rw[htk,List.map_append,List.map_cons,List.map_nil,hqt]
    have hrow3:=fun W (b:Below w0.heap.size w0 W) (i1:IS W (.slice a1 0 c1) []) (i2:GS W (.slice a2 0 c2') [])=>ziY id (qt,[],[]) (.slice a1 0 c1) (.slice a2 0 c2') W (hm.below b) (hT.below b) hqs i1 i2
    unfold zbv ch5 at hrow3
    dsimp only at hrow3
    generalize zbl qt.kind qt.name=k3 at hrow3 hmap
    generalize zbT (qt,[],[])=r3 at hrow3 hmap
    have HP3:=lh hrow3
    have HMP:=lh hmap
    have oneq:=zav qt (.slice a1 0 c1) (.slice a2 0 c2') rfl rfl
    have hBr:=lh (S.out.other HG.out (fun e=>nb e.symm) (by show w0.heap.size<=w2.heap.size;omega) (fun b hb=>by have:=hso b hb;show b≠w2.heap.size;omega)).b
    clear hrow3 hmap hqt hqt1 hqs htk hES hlst hJw g3
    go_wp2_with (first
     | (go_at_call 56;(refine (HP3.out _ (bt hBr.out (zag wr _)) (zqj _ _ _) (zqb _ _ _)).mono ?_);rintro _ w9 ⟨rfl,hb⟩;have B9:=bt (zag wr (.cells (qt.vals (.slice a1 0 c1) (.slice a2 0 c2')) 32)) hb;have O9:=lh (zaF HO.out (fun x hx=>B9.block x (zar HO.out x hx).2));have G9:=lh (zaY HG.out B9);have z9:=B9.size;clear hb B9)
     | (at_builtin;have OQ:=zaF O9.out (fun x hx=>(zag w9 (.cells #[.int .i64 0,.int .i64 id,.string k3,.string r3,.string ⟨#[]⟩] 74)).block x (zar O9.out x hx).2);refine zbC _ rfl (.tmp 77) (.tmp 81) 33 74 _ _ 5 64 rfl Tryz.underlying33 zqx zh7 zh5 zhX rfl (by decide) w6.heap.size (.slice ra (k+2) rc) (.slice (some ⟨w9.heap.size,0,none⟩) 1 1) (k+2) 1 _ (cv [(0,id,k3,r3,⟨#[]⟩)]) rfl OQ rfl (zft w9 (0,id,k3,r3,⟨#[]⟩) _ _ rfl) (zeD _) (by unfold maxLen;omega) (by omega) (by simp;omega) ?_;intro aX cX wX hown hgX _;have OX:=lh hown;have GX:=lh (zaG (zaY G9.out (zag w9 (.cells #[.int .i64 0,.int .i64 id,.string k3,.string r3,.string ⟨#[]⟩] 74))) (zbH hgX (fun q hq=>(zar OQ q hq).1) (by simp;omega)));clear hown hgX OQ))
    go_roundw
    case rel=>exact⟨k+1,by omega,by go_num,by rw[HMP.out,<-List.append_assoc,zfQ];exact OX.out,GX.out⟩
    case measure=>simp [intOf];omega
  · obtain rfl:k=s.length:=by omega
    rw[List.take_of_length_le (Nat.le_refl _)] at HO
    go_wp2_with fail
    go_ret2
    have hS6:=S.out.other HG.out (fun e=>nb e.symm) (by show w0.heap.size<=w2.heap.size;omega) (fun b hb=>by have:=hso b hb;show b≠w2.heap.size;omega)
    refine⟨.slice ra (s.length+2) rc,rfl,?_,hS6,zaG G.out (zbk HG.out zw (Nat.le_trans zw (by omega)))⟩
    have hll:(([(1,id,k1,⟨#[]⟩,⟨#[]⟩),(0,id,k2,r2,⟨#[]⟩)]:List Ch)++s.map fun a=>((0,id,zbl (zfZ a tn).1.kind (zfZ a tn).1.name,zbT (zfZ a tn),⟨#[]⟩):Ch)).length=s.length+2:=by
     rw[List.length_append,List.length_map];show 2+s.length=s.length+2;omega
    have hc:=zcy (w:=wr) (v:=.slice ra (s.length+2) rc) (l:=([(1,id,k1,⟨#[]⟩,⟨#[]⟩),(0,id,k2,r2,⟨#[]⟩)]:List Ch)++s.map fun a=>(0,id,zbl (zfZ a tn).1.kind (zfZ a tn).1.name,zbT (zfZ a tn),⟨#[]⟩)) (by rw[hll];omega) (by rw[hll];exact zbq HO.out)
    exact hc
end
end Go.Proofs.YtkafnmbldpofdaaGreatDoor
