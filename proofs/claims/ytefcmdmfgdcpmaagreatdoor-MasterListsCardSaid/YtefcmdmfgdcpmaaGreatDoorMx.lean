/- Catalogs. -/
import Derived.RangeFuncNested
import Derived.RangeFuncBound
import Derived.Test.YtefcmdmfgdcpmaaGreatDoorAe
import Derived.Test.YtefcmdmfgdcpmaaGreatDoorSrt
set_option maxRecDepth 8000
set_option maxHeartbeats 16000000
namespace Go.Proofs.YtefcmdmfgdcpmaaGreatDoor
open Go.RowKit
section
structure Rf where
 fn:FuncId
 tmps:Array Value
 ps:Array Tmp
 asg:Code
 body:Code
 D:Nat
def Rf.loop(r:Rf)(s:LoopState)(p:Option Code):Obj:=.loop { state:=s,pending:=p,fn:=r.fn,tmps:=r.tmps,params:=r.ps,assign:=r.asg,body:=r.body,defers:=r.D }
structure Rup (r:Rf) (s:LoopState) (p:Option Code) (w:World):Prop where
 lp:w.heap[r.D+1]?=some (r.loop s p)
 dfr:w.heap[r.D]?=some (.deferred (some []))
theorem Rup.lt{r:Rf}{s:LoopState}{p:Option Code}{w:World}(h:Rup r s p w):r.D+1<w.heap.size:=(Array.getElem?_eq_some_iff.1 h.lp).1
theorem Rup.put{r:Rf}{s s':LoopState}{p p':Option Code}{w:World}(h:Rup r s p w):Rup r s' p' (w.putObj (r.D+1) (r.loop s' p')) :=
 ⟨World.putObj_heap_same h.lt,(World.putObj_heap_other (by omega)).trans h.dfr⟩
def Rf.busy(r:Rf)(w:World):World:=w.putObj (r.D+1) (r.loop .busy none)
def Rf.on(r:Rf)(w:World):World:=w.putObj (r.D+1) (r.loop .ready none)
def Rf.off(r:Rf)(c:Code)(w:World):World:=w.putObj (r.D+1) (r.loop .done (some c))
def Rf.gone(r:Rf)(p:Option Code)(w:World):World:=w.putObj (r.D+1) (r.loop .exhausted p)
theorem Rup.busy{r:Rf}{w:World}(h:Rup r .ready none w):Rup r .busy none (r.busy w):=h.put
theorem Rup.on{r:Rf}{w:World}(h:Rup r .busy none w):Rup r .ready none (r.on w):=h.put
theorem Rup.off{r:Rf}{c:Code}{w:World}(h:Rup r .busy none w):Rup r .done (some c) (r.off c w):=h.put
theorem Rup.gone{r:Rf}{s:LoopState}{p:Option Code}{w:World}(h:Rup r s p w):(r.gone p w).heap[r.D]?=some (.deferred (some [])):=(World.putObj_heap_other (by omega)).trans h.dfr
variable {F:Fence} {n:Nat} {P:Program}
def zuE(r:Rf)(J:World->Prop)(Jx:Code->World->Prop):Exit->Act->World->Prop
 | .normal,_,w=>Rup r .busy none w∧J w
 | .ret,_,w=>Rup r .busy none w∧Jx .ret w
 | .exit id,_,w=>Rup r .busy none w∧Jx (.exit id) w
 | .goto t,_,w=>Rup r .busy none w∧Jx (.goto t) w
 | .panic _,_,_=>False
 | .outgrown,_,_=>False
theorem zg8{r:Rf}{w:World}{vs:Array Value}{J:World->Prop}{Jx:Code->World->Prop}(hF:F.fn r.fn)(hu:Rup r .ready none w)(hs:vs.size=r.ps.size)(hasg:r.asg.wpIn (F.inRound (r.D+1)) n P (Exit.then (fun a w₁=>Rup r .ready none w₁∧r.body.wpIn (F.inRound (r.D+1)) n P (zuE r J Jx) a (r.busy w₁)) (fun _ _ _=>False))
    { tmps:=(r.ps.zip vs).foldl (fun t (p,v)=>t.setIfInBounds p v) r.tmps,defers:=[] } w) :
  YieldAt F n P (r.D+1) vs w fun e w'=>(e=.returned (.bool true)∧∃ w1,Rup r .busy none w1∧J w1∧w'=r.on w1)∨(e=.returned (.bool false)∧∃ c w1,Rup r .busy none w1∧Jx c w1∧w'=r.off c w1):=by
 refine⟨r.fn,_,r.asg,r.body,run_yield (P:=P) (args:=vs) hu.lp hs,roundIn_of_wpIn hF (wpIn_mono hasg ?_)⟩
 have fin:∀ (jump:Option Code) (W3:World),Rup r .busy none W3->(Instr.endRound (r.D+1) jump).run P W3=.ok (.bool jump.isNone) (W3.putObj (r.D+1) (r.loop (if jump.isNone then .ready else .done) jump)):=fun jump W3 h3=>run_endRound (P:=P) jump h3.lp
 rintro e a W hp
 cases e with
 | normal =>
   obtain⟨hu1,hb⟩:=hp;refine⟨_,run_beginRound hu1.lp rfl,wpIn_mono hb ?_⟩
   rintro e2 a2 W3 hp2
   cases e2 with
   | normal=>exact⟨_,_,fin none W3 hp2.1,.inl ⟨rfl,W3,hp2.1,hp2.2,rfl⟩⟩
   | ret=>exact⟨_,_,fin (some .ret) W3 hp2.1,.inr ⟨rfl,.ret,W3,hp2.1,hp2.2,rfl⟩⟩
   | exit id=>exact⟨_,_,fin (some (.exit id)) W3 hp2.1,.inr ⟨rfl,.exit id,W3,hp2.1,hp2.2,rfl⟩⟩
   | goto t=>exact⟨_,_,fin (some (.goto t)) W3 hp2.1,.inr ⟨rfl,.goto t,W3,hp2.1,hp2.2,rfl⟩⟩
   | panic ch=>exact hp2.elim
   | outgrown=>exact hp2.elim
 | ret=>exact hp.elim
 | exit id=>exact hp.elim
 | goto t=>exact hp.elim
 | panic ch=>exact hp.elim
 | outgrown=>exact hp.elim
theorem znc{g:Operand}{ps:Array Tmp}{assign body:Code}{Q:Exit->Act->World->Prop}{a:Act}{w:World}(hro:F.round=none)(h1:1<=n){gf:Nat}{lb:Array Value}(hg:a.eval g=.func (.func gf) #[] lb)(hFg:F.fn gf)(eg:∀ args w,(callFunc gf args).run P w=.ok (.enter gf args) w)(h:∀ (r:Rf) (W:World),F.fn r.fn->r.tmps=a.tmps->r.ps=ps->r.asg=assign->r.body=body->r.D=w.heap.size->W=(w.alloc (.deferred (some []))).alloc (r.loop .ready none)->Rup r .ready none W ->
    CallsIn F (n - 1) P gf (#[.func (.yield (r.D+1)) #[] #[]]++lb) W fun e W2=>(∃ v,e=.returned v) ∧
     ((Rup r .ready none W2∧Q .normal { a with defers:={ target:=.collected r.D,args:=#[] }::a.defers } (r.gone none W2)) ∨
      (∃ c,Rup r .done (some c) W2∧c.wpIn F n P Q { a with defers:={ target:=.collected r.D,args:=#[] }::a.defers } (r.gone (some c) W2)))) :
  (Code.rangeFunc g ps assign body).wpIn F n P Q a w:=by
 refine wpIn_rangeFunc ?_
 intro fn hfn;rw[hro];obtain⟨W1,hW1⟩:∃ W1,(w.alloc (.deferred (some []))).alloc ((Rf.mk fn a.tmps ps assign body w.heap.size).loop .ready none)=W1:=⟨_,rfl⟩
 have hu:Rup (Rf.mk fn a.tmps ps assign body w.heap.size) .ready none W1:=by
  rw[<-hW1];refine⟨?_,(Below.heap_alloc _ _ _ (by simp)).trans (World.alloc_heap_new w _)⟩
  have:=World.alloc_heap_new (w.alloc (.deferred (some []))) ((Rf.mk fn a.tmps ps assign body w.heap.size).loop .ready none);rwa [World.size_alloc] at this
 refine⟨w.heap.size+1,[{ target:=.collected w.heap.size,args:=#[] }],W1,{ target:=.fn (.func gf) lb,args:=#[.func (.yield (w.heap.size+1)) #[] #[]] },W1,gf,
  #[.func (.yield (w.heap.size+1)) #[] #[]]++lb,W1,(by rw[<-hW1];exact run_enterLoop_outer _ _ _ _ _),?_,?_,?_,fun _=>h1,?_⟩
 · simp only[resolve,hg]
   simp [go_sem]
 · intro f' hf';simp [Target.leads] at hf';subst hf';exact hFg
 · simp [invoke,go_sem,eg]
 · refine (h (Rf.mk fn a.tmps ps assign body w.heap.size) _ hfn rfl rfl rfl rfl rfl hW1.symm hu).mono ?_
   rintro e W2 ⟨⟨v,rfl⟩,(⟨hu2,hq⟩|⟨c,hu2,hq⟩)⟩
   · exact⟨none,_,run_endLoop (P:=P) hu2.lp (by simp),hq⟩
   · exact⟨some c,_,run_endLoop (P:=P) hu2.lp (by simp),hq⟩
end
section
attribute [local go_sem] Oper.semAt_some
def zbt(l:List Rw)(id fl cd:Int)(L:UInt8){σ ρ:Type}(step:σ->ByteArray->ByteArray->Except ρ σ):Nat->Int->List UInt8->σ->Except ρ (σ × Int) × Int
 | 0,c,_,s=>(.ok (s,0),c)
 | f+1,c,k,s=>if c+1=fl then (.ok (s,cd),c+1) else match nx id k l with
   | none=>(.ok (s,0),c+1)
   | some x=>if L<(Ds.bl x.2.1).headD 0 then (.ok (s,0),c+1) else if (Ds.bl x.2.1).headD 0<L then zbt l id fl cd L step f (c+1) (Ds.bl x.2.1) s else match step s x.2.1 x.2.2 with
     | .ok s'=>zbt l id fl cd L step f (c+1) (Ds.bl x.2.1) s'
     | .error e=>(.error e,c+1)
structure RI (w:World) (bl br bi bc cb p:Nat) (L:UInt8) (id:Int):Prop where
 l:w.cell? ⟨bl,0,none⟩=some (.int .u8 (L.toNat:Nat))
 r:w.cell? ⟨br,0,none⟩=some (.iface 31 (.pointer (some ⟨p,0,none⟩)))
 i:w.cell? ⟨bi,0,none⟩=some (.int .i64 id)
 c:w.cell? ⟨bc,0,none⟩=some (.pointer (some ⟨cb,0,none⟩))
 v:w.cell? ⟨cb,0,none⟩=some (.int .i64 0)
 f:w.frozen? ⟨cb,0,none⟩=false
def zjg{σ ρ:Type}(cb:Nat)(J:Int->σ->World->Prop)(Jx:Int->ρ->World->Prop)(R:Except ρ (σ × Int) × Int)(w:World):Prop :=
 match R.1 with
 | .ok (s,code)=>∃ w1,J R.2 s w1∧(code=0∧w=w1∨w=w1.setCell ⟨cb,0,none⟩ (.int .i64 code))
 | .error x=>Jx R.2 x w
theorem zgv(c d:UInt8)(W:World)(b:Nat)(h:W.cell? ⟨b,0,none⟩=some (.int .u8 (c.toNat:Nat)))(h2:W.cell? ⟨b,1,none⟩=some (.int .u8 (d.toNat:Nat))) :
  (convert 157 9 (.slice (some ⟨b,0,none⟩) 2 2)).run Tryz.prog W=.ok (.string ⟨#[c,d]⟩) W:=by
 refine run_convert_bytes_back (P:=Tryz.prog) W 157 9 5 ⟨b,0,none⟩ 2 [c,d] Tryz.underlying157 Tryz.underlying5 Tryz.underlying9 ?_
 intro j hj;obtain rfl|rfl:j=0∨j=1:=by simp at hj;omega
 · simpa [Addr.add] using h
 · simpa [Addr.add] using h2
theorem zkr(P:Program)(o:Oper)(a:Act)(C:World->Prop):Oper.askedIn Fence.wide P o a C=True:=eq_true (fun _ _ _ _=>trivial)
attribute [local go_sem] zkr
theorem zgF(s:ByteArray)(h:1<=s.size):s[0]'h=(Ds.bl s).headD 0:=by
 unfold Ds.bl;rw[List.headD_eq_head?_getD,List.head?_eq_getElem?]
 have:s.data.toList[0]?=some (s[0]'h):=by
  rw[List.getElem?_eq_getElem (show 0<s.data.toList.length by simpa using Nat.lt_of_lt_of_le Nat.zero_lt_one h)];rfl
 rw[this];rfl
theorem zi4{σ ρ:Type}(step:σ->ByteArray->ByteArray->Except ρ σ)(len:σ->Nat)(hlen:∀ s k r s',step s k r=.ok s'->len s'<=len s+1)(J:Int->σ->World->Prop)(Jx:Int->ρ->World->Prop)(D p bl br bi bc cb:Nat)(sv:Value)(l:List Rw)(fl cd ca id:Int)(L:UInt8)(w0 w:World)(s0:σ)(n m:Nat)(hJ:∀ c s W,J c s W->RI W bl br bi bc cb p L id∧SHs w0 W p sv l fl cd c)(hJt:∀ c c' s W W',J c s W->W.grownBy W' (some p)->SHs w0 W' p sv l fl cd c'->J c' s W')(hY:∀ c s k r W,J c s W->len s<=len s0+l.length->(∃ i,(i,k,r)∈l)->1<=k.size->YieldAt Fence.wide m Tryz.prog D #[.string k,.string r] W fun e W'=>match step s k r with|.ok s'=>e=.returned (.bool true)∧J c s' W'|.error x=>e=.returned (.bool false)∧Jx c x W')(hw:IntKind.u8.wrap ((L.toNat:Int) - 1)=((L - 1).toNat:Int))(hn:1<=n)(hm:m=n - 1)(h0:J ca s0 w)(hc0:0<=ca)(hc1:ca<=100000)(hl:l.length<=1000)(hcd:cd≠0∧cd≠6∨fl<=0) :
  CallsIn Fence.wide n Tryz.prog 167 #[.func (.yield D) #[] #[],.pointer (some ⟨bl,0,none⟩),.pointer (some ⟨br,0,none⟩),.pointer (some ⟨bi,0,none⟩),.pointer (some ⟨bc,0,none⟩)] w fun e W'=>(∃ v,e=.returned v) ∧
   zjg cb J Jx (zbt l id fl cd L step (l.length+1) ca [L - 1,255] s0) W':=by
 subst hm;have hR0:cnt id [L - 1,255] l<l.length+1:=Nat.lt_succ_of_le (cnt_le _ _ _);generalize hR:zbt l id fl cd L step (l.length+1) ca [L - 1,255] s0=R;have HR:=lh hR;have HR0:=lh hR0;have H0:=lh h0;have hcl:=(hJ _ _ _ h0).1.l;have hcv:=zgv (L - 1) 255;clear hR hR0 h0;refine callsIn_of_wp Tryz.func167 rfl trivial ?_ rfl
 simp only[Tryz.ntmps167,List.size_toArray,List.length_cons,List.length_nil,Nat.reduceAdd,Nat.reduceSub,Array.replicate_succ,Array.replicate_zero,List.push_toArray,List.append_toArray,List.nil_append,List.cons_append]
 gi_wp2
 have B0:Below w.heap.size w (w.alloc (.cells #[.int .u8 ((L - 1).toNat:Nat),.int .u8 255] 5)):=(Below.refl _ _).alloc (Nat.le_refl _) _;gi_loopw [6] (fun kv wr=>∃ (f:Nat) (c:Int) (k:ByteArray) (s:σ),kv=.string k∧Hid (zbt l id fl cd L step f c (Ds.bl k) s=R)∧Hid (cnt id (Ds.bl k) l<f)∧0<=c∧c+f<=ca+l.length+1∧len s+f<=len s0+l.length+1∧Hid (J c s wr)) (fun kv _=>cnt id (Ds.bl (zsX kv)) l)
 case atStart=>exact⟨l.length+1,ca,_,s0,rfl,HR,HR0,hc0,by omega,by omega,lh (hJt _ _ _ _ _ H0.out (zad _ B0) ((hJ _ _ _ H0.out).2.below B0))⟩
 case round =>
  obtain⟨f,c,k,s,rfl,HP,HC,hc2,hc3,hc4,HJ⟩:=hrel;obtain⟨g,rfl⟩:∃ g,f=g+1:=⟨f - 1,by have:=HC.out;omega⟩;obtain⟨⟨i1,i2,i3,i4,i5,i6⟩,hS⟩:=hJ _ _ _ HJ.out;have hnx:=zhb p sv l fl cd c id k w0 wr hS hc2 (by omega);have hmt:=zfu ⟨p,0,none⟩;have HS:=lh hS;clear hS i5 i6;have hP:=HP.out;unfold zbt at hP;by_cases hf:c+1=fl
  · rw[if_pos hf] at hP;have hcd':cd≠0∧cd≠6:=by rcases hcd with h|h;exact h;omega
    unfold nxV at hnx;rw[if_pos hf] at hnx;have HN:=lh hnx;have HPP:=lh hP;have t1:(cd==6)=false:=by rw[beq_eq_false_iff_ne];exact hcd'.2
    have t2:(cd==0)=false:=by rw[beq_eq_false_iff_ne];exact hcd'.1
    have t3:(cd != 0)=true:=by rw[bne_iff_ne];exact hcd'.1
    have t4:(cd != 6)=true:=by rw[bne_iff_ne];exact hcd'.2
    clear hnx hP hcd' hf;gi_wp2_with (refine⟨trivial,?_⟩;gi_at_call 324;(refine (callsIn_wide.2 HN.out).mono ?_);rintro _ w2 ⟨rfl,s1,s2⟩;have J2:=lh (hJt _ _ _ _ _ HJ.out s2 s1);obtain⟨⟨j1,j2,j3,j4,j5,j6⟩,-⟩:=hJ _ _ _ J2.out;clear s1 s2)
    refine bodyPost_ret (results_none rfl _ _ _) rfl ?_
    refine⟨⟨_,rfl⟩,?_⟩
    rw[<-HPP.out];exact⟨_,J2.out,.inr rfl⟩
  rw[if_neg hf] at hP;unfold nxV at hnx;rw[if_neg hf] at hnx;clear hf
  cases hx:nx id (Ds.bl k) l with
  | none =>
    rw[hx] at hP hnx;have HN:=lh hnx;have HPP:=lh hP;clear hnx hP hx;gi_wp2_with (refine⟨trivial,?_⟩;gi_at_call 324;(refine (callsIn_wide.2 HN.out).mono ?_);rintro _ w2 ⟨rfl,s1,s2⟩;have J2:=lh (hJt _ _ _ _ _ HJ.out s2 s1);clear s1 s2)
    refine bodyPost_ret (results_none rfl _ _ _) rfl ?_
    refine⟨⟨_,rfl⟩,?_⟩
    rw[<-HPP.out];exact⟨_,J2.out,.inl ⟨rfl,rfl⟩⟩
  | some x =>
    rw[hx] at hP hnx;obtain⟨hmem,-,hx3⟩:=zdI hx;have hcn:=zjt hx;obtain⟨xi,xk,xr⟩:=x;have HMEM:=lh hmem;clear hmem;simp only at hP hnx hx3 hcn
    have hpos:1<=xk.size:=by
     rcases Nat.eq_zero_or_pos xk.size with h|h
     · have:Ds.bl xk=[]:=List.eq_nil_of_length_eq_zero (by rw[Ds.bl_length];exact h);rw[this,zeA] at hx3;cases hx3
     · exact h
    have HN:=lh hnx;have HCM:=lh hcn;have HCN:Hid (cnt id (Ds.bl xk) l<g):=lh (by have:=HC.out;omega);have hb0:xk[0]'hpos=(Ds.bl xk).headD 0:=zgF xk hpos;have g0:(0:Int)<=0∧(0:Int)<(xk.size:Int):=by omega
    have hmx:Tryz.prog.follows .mixedOrders=true:=by kernel_rfl
    clear hnx hx hx3 hcn;generalize (Ds.bl xk).headD 0=q at hP hb0;by_cases h80:L<q
    · rw[if_pos h80] at hP;have HPP:=lh hP;have q1:((L.toNat:Nat):Int)<((q.toNat:Nat):Int):=Int.ofNat_lt.2 (UInt8.lt_iff_toNat_lt.1 h80);have q2:decide (((L.toNat:Nat):Int)<((q.toNat:Nat):Int))=true:=decide_eq_true q1;have q3:L.toNat<q.toNat:=UInt8.lt_iff_toNat_lt.1 h80;have q4:decide (L.toNat<q.toNat)=true:=decide_eq_true q3;clear hP h80;gi_wp2_with (refine⟨trivial,?_⟩;gi_at_call 324;(refine (callsIn_wide.2 HN.out).mono ?_);rintro _ w2 ⟨rfl,s1,s2⟩;have J2:=lh (hJt _ _ _ _ _ HJ.out s2 s1);obtain⟨⟨j1,j2,j3,j4,j5,j6⟩,-⟩:=hJ _ _ _ J2.out;clear s1 s2)
      refine wpIn_region_quiet_lit rfl (by kernel_rfl) (by kernel_rfl) ?_
      repeat (gi_big_quiet_step (fail))
      refine BigFrame.wpQuietIn_skip (fun _ _ _ _=>trivial) (by rfl) ?_
      simp only[Act.put,List.setIfInBounds_toArray,List.set_cons_zero,List.set_cons_succ]
      repeat (gi_big_quiet_step (fail))
      refine wpQuietIn_nil ?_
      rintro _ ⟨nq,rfl⟩;gi_wp2
      refine bodyPost_ret (results_none rfl _ _ _) rfl ?_
      refine⟨⟨_,rfl⟩,?_⟩
      rw[<-HPP.out];have bd:Below w2.heap.size w2 (w2.drewN nq):=⟨rfl,rfl,rfl,Nat.le_refl _,fun _ _=>rfl⟩;exact⟨_,hJt _ _ _ _ _ J2.out (zad _ bd) ((hJ _ _ _ J2.out).2.below bd),.inl ⟨rfl,rfl⟩⟩
    rw[if_neg h80] at hP;by_cases h8:q<L
    · rw[if_pos h8] at hP;have HPP:=lh hP;have q1:¬ ((L.toNat:Nat):Int)<((q.toNat:Nat):Int):=fun h=>h80 (UInt8.lt_iff_toNat_lt.2 (Int.ofNat_lt.1 h))
      have q2:decide (((L.toNat:Nat):Int)<((q.toNat:Nat):Int))=false:=decide_eq_false q1;have q3:¬ L.toNat<q.toNat:=fun h=>h80 (UInt8.lt_iff_toNat_lt.2 h)
      have q4:decide (L.toNat<q.toNat)=false:=decide_eq_false q3;have q5:¬ q.toNat=L.toNat:=by have:=UInt8.lt_iff_toNat_lt.1 h8;omega
      have q6:(((q.toNat:Nat):Int)==((L.toNat:Nat):Int))=false:=by rw[beq_eq_false_iff_ne];omega
      have q7:(q.toNat==L.toNat)=false:=by rw[beq_eq_false_iff_ne];omega
      clear hP h80 h8;gi_wp2_with (refine⟨trivial,?_⟩;gi_at_call 324;(refine (callsIn_wide.2 HN.out).mono ?_);rintro _ w2 ⟨rfl,s1,s2⟩;have J2:=lh (hJt _ _ _ _ _ HJ.out s2 s1);obtain⟨⟨j1,j2,j3,j4,j5,j6⟩,-⟩:=hJ _ _ _ J2.out;clear s1 s2)
      refine wpIn_region_quiet_lit rfl (by kernel_rfl) (by kernel_rfl) ?_
      repeat (gi_big_quiet_step (fail))
      refine BigFrame.wpQuietIn_skip (fun _ _ _ _=>trivial) (by rfl) ?_
      simp only[Act.put,List.setIfInBounds_toArray,List.set_cons_zero,List.set_cons_succ]
      repeat (gi_big_quiet_step (fail))
      refine wpQuietIn_nil ?_
      rintro _ ⟨nq,rfl⟩;gi_wp2
      have bd:Below w2.heap.size w2 (w2.drewN nq):=⟨rfl,rfl,rfl,Nat.le_refl _,fun _ _=>rfl⟩;go_roundw
      case rel=>exact⟨g,c+1,xk,s,rfl,HPP,HCN,by omega,by omega,by omega,lh (hJt _ _ _ _ _ J2.out (zad _ bd) ((hJ _ _ _ J2.out).2.below bd))⟩
      case measure=>exact HCM.out
    rw[if_neg h8] at hP
    obtain rfl:q=L:=by
     refine UInt8.toNat_inj.1 ?_
     have h1:¬ L.toNat<q.toNat:=fun h=>h80 (UInt8.lt_iff_toNat_lt.2 h)
     have h2:¬ q.toNat<L.toNat:=fun h=>h8 (UInt8.lt_iff_toNat_lt.2 h)
     omega
    have q2:decide (((q.toNat:Nat):Int)<((q.toNat:Nat):Int))=false:=decide_eq_false (by omega);have q4:decide (q.toNat<q.toNat)=false:=decide_eq_false (by omega);clear h80 h8
    cases hst:step s xk xr with
    | ok s' =>
      have HLE:Hid (len s'+g<=len s0+l.length+1):=lh (by have:=hlen _ _ _ _ hst;omega);rw[hst] at hP;have HPP:=lh hP;clear hP;gi_wp2_with (refine⟨trivial,?_⟩;gi_at_call 324;(refine (callsIn_wide.2 HN.out).mono ?_);rintro _ w2 ⟨rfl,s1,s2⟩;have J2:=lh (hJt _ _ _ _ _ HJ.out s2 s1);obtain⟨⟨j1,j2,j3,j4,j5,j6⟩,-⟩:=hJ _ _ _ J2.out;clear s1 s2;have bd:Below w2.heap.size w2 w2.drew:=⟨rfl,rfl,rfl,Nat.le_refl _,fun _ _=>rfl⟩;have J3:=lh (hJt _ _ _ _ _ J2.out (zad _ bd) ((hJ _ _ _ J2.out).2.below bd));obtain⟨fn,tmps,asg,bod,hy,hR⟩:=hY _ _ xk xr _ J3.out (by omega) ⟨xi,HMEM.out⟩ hpos;rw[hst] at hR;have HRd:=lh hR;clear hR hst)
      gi_region_with_o (refine HRd.out.mono ?_;rintro _ w4 ⟨rfl,hj⟩;have J4:=lh hj;clear hj)
      all_goals gi_wp2
      all_goals first
       | exact⟨⟨g,c+1,xk,s',rfl,HPP,HCN,by omega,by omega,HLE.out,J4⟩,HCM.out⟩
       | (go_roundw <;> first|exact⟨g,c+1,xk,s',rfl,HPP,HCN,by omega,by omega,HLE.out,J4⟩|exact HCM.out)
    | error e =>
      rw[hst] at hP;have HPP:=lh hP;clear hP;gi_wp2_with (refine⟨trivial,?_⟩;gi_at_call 324;(refine (callsIn_wide.2 HN.out).mono ?_);rintro _ w2 ⟨rfl,s1,s2⟩;have J2:=lh (hJt _ _ _ _ _ HJ.out s2 s1);obtain⟨⟨j1,j2,j3,j4,j5,j6⟩,-⟩:=hJ _ _ _ J2.out;clear s1 s2;have bd:Below w2.heap.size w2 w2.drew:=⟨rfl,rfl,rfl,Nat.le_refl _,fun _ _=>rfl⟩;have J3:=lh (hJt _ _ _ _ _ J2.out (zad _ bd) ((hJ _ _ _ J2.out).2.below bd));obtain⟨fn,tmps,asg,bod,hy,hR⟩:=hY _ _ xk xr _ J3.out (by omega) ⟨xi,HMEM.out⟩ hpos;rw[hst] at hR;have HRd:=lh hR;clear hR hst)
      gi_region_with_o (refine HRd.out.mono ?_;rintro _ w4 ⟨rfl,hj⟩;have J4:=lh hj;clear hj)
      all_goals gi_wp2
      all_goals
       refine bodyPost_ret (results_none rfl _ _ _) rfl ?_
       refine⟨⟨_,rfl⟩,?_⟩
       rw[<-HPP.out];exact J4.out
end
section
attribute [local go_sem] Oper.semAt_some
def zhi(name:ByteArray)(s:List Fu)(k r:ByteArray):Except Int (List Fu) :=
 if (zaS k r).2≠0 then .error (zaS k r).2 else if (zaS k r).1.1.target=name then .ok (s++[(zaS k r).1]) else .ok s
def zfR(l:List Rw)(fl cd ca id:Int)(name:ByteArray):(List Fu × Int) × Int :=
 match zbt l id fl cd 65 (zhi name) (l.length+1) ca [(65:UInt8) - 1,255] [] with
 | (.ok (s,code),c)=>(if code≠0 then ([],code) else (s,0),c)
 | (.error e,c)=>(([],e),c)
theorem zjj(name:ByteArray)(s:List Fu)(k r:ByteArray)(s':List Fu)(h:zhi name s k r=.ok s'):s'.length<=s.length+1:=by
 unfold zhi at h;split at h
 · cases h
 split at h
 · cases h;simp
 · cases h;omega
theorem zea{k r:ByteArray}(h:¬ (zaS k r).2≠0):okX (zaS k r).1=true∧zfr (zaS k r).1=Ds.bl k:=by
 unfold zaS at h ⊢
 cases hd:zc6 (Ds.bl r) with
 | none=>rw[hd] at h;exact absurd (show (11:Int)≠0 by decide) h
 | some y =>
   rw[hd] at h;dsimp only at h ⊢;by_cases hk:zfr y=Ds.bl k
   · rw[if_pos hk];exact⟨(zcI _ _ hd).1,hk⟩
   · rw[if_neg hk] at h;exact absurd (show (11:Int)≠0 by decide) h
theorem zqm{P:Program}{fn:Func}{p u:Tmp}{ty tv:TypeId}(h:fn.results=#[.cell p ty,.cell u tv])(tmps:Array Value)(w:World) :
  (results fn tmps).run P w=((asAddr (tmps.getD p undef)).run P w).andThen fun a w₁=>((loadVar ty a).run P w₁).andThen fun v w₂=>((asAddr (tmps.getD u undef)).run P w₂).andThen fun b w₃=>((loadVar tv b).run P w₃).andThen fun v' w₄=>.ok (.tuple #[v,v']) w₄:=by
 simp only[results,h]
 simp [Sem.run_bind,Result.andThen]
theorem SHs.other{w0 wr w':World}{p q:Nat}{sv:Value}{l:List Rw}{fl cd ca:Int}(h:SHs w0 wr p sv l fl cd ca)(hg:wr.grownBy w' (some q))(hq:p≠q)(hq0:w0.heap.size<=q)(hs:∀ b,sv.ownBlock=some b->b≠q):SHs w0 w' p sv l fl cd ca :=
 ⟨⟨za4 h.f.1 (by simp) hg hq,fun o=>(World.frozen?_of_block (a:=⟨p,o,none⟩) (hg.block p h.pl (fun e=>hq (Option.some.inj e)))).trans (h.f.2 o)⟩,h.r.keep hg.size (fun b hb hl=>hg.block b hl (fun e=>hs b hb (Option.some.inj e))),h.ne,h.p0,Nat.lt_of_lt_of_le h.pl hg.size,h.b.trans (zaU hg hq0 h.b.size)⟩
theorem HJ.le{base b:Nat}{w:World}{hv:Value}{H:List Ef}{rows:List (Array Value)}(h:HJ base w hv H rows)(hb:b<=base):HJ b w hv H rows:=by
 refine⟨zdy h.own hb,h.len,h.sz,h.one,fun j r x h1 h2=>?_⟩
 obtain⟨a1,c1,a2,c2,e1,e2,e3,e4,e5,e6⟩:=h.el j r x h1 h2;exact⟨a1,c1,a2,c2,e1,e2,e3,e4,e5,fun h0 b' hb'=>⟨(e6 h0 b' hb').1,Nat.le_trans hb (e6 h0 b' hb').2.1,(e6 h0 b' hb').2.2⟩⟩
def Bx(W:World)(b:Nat):Prop:=(∃ v,W.cell? ⟨b,0,none⟩=some v)∧W.frozen? ⟨b,0,none⟩=false
theorem Bx.of{W W':World}{b:Nat}(h:Bx W b)(e:W'.heap[b]?=W.heap[b]?):Bx W' b:=by
 obtain⟨⟨v,h1⟩,h2⟩:=h;exact⟨⟨v,(World.cell?_of_block (a:=⟨b,0,none⟩) e).trans h1⟩,(World.frozen?_of_block (a:=⟨b,0,none⟩) e).trans h2⟩
theorem Bx.set{W:World}{b b':Nat}{v:Value}(h:Bx W b):Bx (W.setCell ⟨b',0,none⟩ v) b:=by
 obtain⟨⟨u,h1⟩,h2⟩:=h;by_cases e:b=b'
 · subst e;exact⟨⟨v,World.cell?_setCell_same' _ _ _ (by rw[h1];rfl)⟩,by rw[World.frozen?_setCell];exact h2⟩
 · exact⟨⟨u,by rw[World.cell?_setCell_other _ _ _ _ (by intro k;cases k;exact e rfl)];exact h1⟩,by rw[World.frozen?_setCell];exact h2⟩
structure AlC (w0 w W:World) (h p:Nat) (sv:Value) (l:List Rw) (fl cd c id:Int) (name:ByteArray) (r:Rf) (st:LoopState) (pd:Option Code):Prop where
 sh:SHs w0 W p sv l fl cd c
 g:w.grownBy W (some p)
 ri:RI W (h+7) (h+5) (h+6) (h+8) (h+4) p 65 id
 n:W.cell? ⟨h,0,none⟩=some (.string name)
 b1:Bx W (h+1)
 b2:Bx W (h+2)
 b3:Bx W (h+3)
 up:Rup r st pd W
 z:h+11<=W.heap.size
theorem AlC.core{w0 w W W':World}{h p q:Nat}{sv:Value}{l:List Rw}{fl cd c c' id:Int}{name:ByteArray}{r:Rf}{st st':LoopState}{pd pd':Option Code}(hA:AlC w0 w W h p sv l fl cd c id name r st pd)(hk:∀ k,k<h+11->k≠q->W'.heap[k]?=W.heap[k]?)(hz:W.heap.size<=W'.heap.size)(hq:q≠h∧∀ i,4<=i->i<=8->q≠h+i)(hs:SHs w0 W' p sv l fl cd c')(hg:w.grownBy W' (some p))(hup:Rup r st' pd' W')(hb:Bx W' (h+1)∧Bx W' (h+2)∧Bx W' (h+3)) :
  AlC w0 w W' h p sv l fl cd c' id name r st' pd':=by
 have e:∀ i,4<=i->i<=8->W'.heap[h+i]?=W.heap[h+i]?:=fun i h1 h2=>hk _ (by omega) (fun e=>hq.2 i h1 h2 e.symm)
 obtain⟨r1,r2,r3,r4,r5,r6⟩:=hA.ri;have q:=fun i (h1:4<=i) (h2:i<=8)=>World.cell?_of_block (w:=W) (w':=W') (a:=⟨h+i,0,none⟩) (e i h1 h2)
 exact⟨hs,hg,⟨(q 7 (by omega) (by omega)).trans r1,(q 5 (by omega) (by omega)).trans r2,(q 6 (by omega) (by omega)).trans r3,(q 8 (by omega) (by omega)).trans r4,(q 4 (by omega) (by omega)).trans r5,(World.frozen?_of_block (a:=⟨h+4,0,none⟩) (e 4 (by omega) (by omega))).trans r6⟩,
  (World.cell?_of_block (a:=⟨h,0,none⟩) (hk h (by omega) (fun e=>hq.1 e.symm))).trans hA.n,hb.1,hb.2.1,hb.2.2,hup,Nat.le_trans hA.z hz⟩
theorem AlC.tick{w0 w W W':World}{h p:Nat}{sv:Value}{l:List Rw}{fl cd c c' id:Int}{name:ByteArray}{r:Rf}{st:LoopState}{pd:Option Code}(hA:AlC w0 w W h p sv l fl cd c id name r st pd)(hp:p<h)(hD:r.D=h+9)(hg:W.grownBy W' (some p))(hs:SHs w0 W' p sv l fl cd c') :
  AlC w0 w W' h p sv l fl cd c' id name r st pd:=by
 have hz:=hA.z;have e:∀ k,k<h+11->k≠p->W'.heap[k]?=W.heap[k]?:=fun k hk hn=>hg.block k (by omega) (fun e=>hn (Option.some.inj e))
 refine hA.core (q:=p) e hg.size ⟨by omega,fun i _ _=>by omega⟩ hs (zat hA.g hg) ⟨?_,?_⟩ ⟨hA.b1.of (e _ (by omega) (by omega)),hA.b2.of (e _ (by omega) (by omega)),hA.b3.of (e _ (by omega) (by omega))⟩
 · rw[e _ (by omega) (by omega)];exact hA.up.lp
 · rw[e _ (by omega) (by omega)];exact hA.up.dfr
theorem AlC.bel{w0 w W W':World}{h p:Nat}{sv:Value}{l:List Rw}{fl cd c id:Int}{name:ByteArray}{r:Rf}{st:LoopState}{pd:Option Code}(hA:AlC w0 w W h p sv l fl cd c id name r st pd)(hp:p<h)(hh:w.heap.size=h)(hD:r.D=h+9)(hso:∀ b,sv.ownBlock=some b->b<h)(hb:Below (h+11) W W') :
  AlC w0 w W' h p sv l fl cd c id name r st pd:=by
 have e:=fun k hk=>hb.block k hk
 refine hA.core (q:=h+11) (fun k hk _=>e k hk) hb.size ⟨by omega,fun i _ _=>by omega⟩ (hA.sh.belowB hb (by omega) (fun _ b hq=>by have:=hso b hq;omega)) (zay hA.g (hb.mono (by omega))) ⟨?_,?_⟩ ⟨hA.b1.of (e _ (by omega)),hA.b2.of (e _ (by omega)),hA.b3.of (e _ (by omega))⟩
 · rw[e _ (by omega)];exact hA.up.lp
 · rw[e _ (by omega)];exact hA.up.dfr
theorem AlC.turn{w0 w W W':World}{h p q:Nat}{sv:Value}{l:List Rw}{fl cd c id:Int}{name:ByteArray}{r:Rf}{st st':LoopState}{pd pd':Option Code}(hA:AlC w0 w W h p sv l fl cd c id name r st pd)(hp:p<h)(h0:w0.heap.size<=h)(hh:w.heap.size=h)(hso:∀ b,sv.ownBlock=some b->b<h)(hg:W.grownBy W' (some q))(hq:h<=q)(hq2:q≠h∧∀ i,4<=i->i<=8->q≠h+i)(hup:Rup r st' pd' W')(hb:Bx W' (h+1)∧Bx W' (h+2)∧Bx W' (h+3)) :
  AlC w0 w W' h p sv l fl cd c id name r st' pd':=by
 have hz:=hA.z;exact hA.core (q:=q) (fun k hk hn=>hg.block k (by omega) (fun e=>hn (Option.some.inj e))) hg.size hq2 (hA.sh.other hg (by omega) (by omega) (fun b hb=>by have:=hso b hb;omega)) (zay hA.g (zaU hg (by omega) (by omega))) hup hb
theorem AlC.put{w0 w W:World}{h p:Nat}{sv:Value}{l:List Rw}{fl cd c id:Int}{name:ByteArray}{r:Rf}{st st':LoopState}{pd pd':Option Code}(hA:AlC w0 w W h p sv l fl cd c id name r st pd)(hp:p<h)(h0:w0.heap.size<=h)(hh:w.heap.size=h)(hD:r.D=h+9)(hso:∀ b,sv.ownBlock=some b->b<h) :
  AlC w0 w (W.putObj (r.D+1) (r.loop st' pd')) h p sv l fl cd c id name r st' pd':=by
 have hz:=hA.z;have hg:=grownBy_putObj' W (r.D+1) (r.loop st' pd');have e:∀ k,k<h+10->(W.putObj (r.D+1) (r.loop st' pd')).heap[k]?=W.heap[k]?:=fun k hk=>hg.block k (by omega) (fun e=>by have:=Option.some.inj e;omega)
 exact hA.turn hp h0 hh hso hg (by omega) ⟨by omega,fun i _ _=>by omega⟩ hA.up.put ⟨hA.b1.of (e _ (by omega)),hA.b2.of (e _ (by omega)),hA.b3.of (e _ (by omega))⟩
theorem AlC.set{w0 w W:World}{h p i:Nat}{sv v:Value}{l:List Rw}{fl cd c id:Int}{name:ByteArray}{r:Rf}{st:LoopState}{pd:Option Code}(hA:AlC w0 w W h p sv l fl cd c id name r st pd)(hp:p<h)(h0:w0.heap.size<=h)(hh:w.heap.size=h)(hD:r.D=h+9)(hso:∀ b,sv.ownBlock=some b->b<h)(hi:i=1∨i=2∨i=3) :
  AlC w0 w (W.setCell ⟨h+i,0,none⟩ v) h p sv l fl cd c id name r st pd:=by
 have hz:=hA.z;have hg:=zaH W ⟨h+i,0,none⟩ v;have e:∀ k,k<W.heap.size->k≠h+i->(W.setCell ⟨h+i,0,none⟩ v).heap[k]?=W.heap[k]?:=fun k hk hn=>hg.block k hk (fun e=>hn (Option.some.inj e))
 refine hA.turn hp h0 hh hso hg (by show h<=h+i;omega) ⟨by show h+i≠h;omega,fun j _ _=>by show h+i≠h+j;omega⟩ ⟨?_,?_⟩ ⟨hA.b1.set,hA.b2.set,hA.b3.set⟩
 · rw[e _ (by omega) (by omega)];exact hA.up.lp
 · rw[e _ (by omega) (by omega)];exact hA.up.dfr
def AlR(w0 w w':World)(p:Nat)(sv:Value)(l:List Rw)(fl cd:Int)(g:(List Fu × Int) × Int)(r:Ending):Prop :=
 ∃ hv rows,r=.returned (.tuple #[hv,.int .i64 g.1.2])∧HJ w.heap.size w' hv (g.1.1.map zfV) rows∧SHs w0 w' p sv l fl cd g.2∧w.grownBy w' (some p)
end
section
attribute [local go_sem] Oper.semAt_some
theorem zfN{F:Fence}{nn:Nat}{P:Program}{ops:Array Oper}{rest:List Oper}{o:Oper}{a:Act}{Q:Exit->Act->World->Prop}(w:World)(hgd:o.guard=none)(s x:Operand)(t e:TypeId)(i:TypeInfo)(z:Value)(size bytes:Nat)(ho:o.op=.call { callee:=.builtin .append,args:=#[s,x],argTypes:=#[t,t] })(ht:P.underlying t=some (.slice e))(hi:P.info? e=some i)(hz:i.zero=some z)(hsize:i.size=size)(hby:i.bytes=bytes)(hzs:z.cells.size=size)(hsz:0<size)(base:Nat)(v sv:Value)(n m:Nat)(xs news:List Value)(hs:a.eval s=v)(hown:w.ownsRow base e size v n xs)(hx:a.eval x=sv)(hc:CS w size sv m news)(hm:0<m)(h1:∀ u∈news,u.oneCell'=true)(h63:n+m<=maxLen)(hbytes:(n+m)*bytes<=140737488355328)(hbase:base<=w.heap.size)(h:∀ a' c' w',w'.ownsRow base e size (.slice a' (n+m) c') (n+m) (xs++news)->w.grownBy w' v.ownBlock->((Value.slice a' (n+m) c').ownBlock=v.ownBlock∨(Value.slice a' (n+m) c').ownBlock=some w.heap.size)->wpListIn F nn P ops Q rest (a.put o.dst (.slice a' (n+m) c')) w') :
  wpListIn F nn P ops Q (o::rest) a w:=by
 obtain⟨ad0,c,rfl,hl,hcs⟩:=hc;obtain⟨ad,rfl,hnews⟩:=hcs hm;refine wpListIn_plain hgd fun K hK'=>?_
 obtain⟨v',w',hrun,r1,r2,-,r4⟩:=run_append_own_at (P:=P) w base t o.type e i z size bytes ht hi hz hsize hby hzs hsz v n xs hown ad m c news hl hnews h1 h63 hbytes hbase;obtain⟨a',c',rfl⟩:=za6 r1;unfold Oper.wpIn;refine⟨?_,?_⟩
 · simp [Oper.about,ho,resolve,Target.leads,Sem.run_pure]
 · rw[Oper.semAt_plain F _ _ (by rw[ho];intro c hc';cases hc')];simp [execOp,ho,resolve,invoke,builtin,hs,hx,hrun,Result.andThen]
   exact hK' _ _ (h a' c' w' r1 r2 r4)
theorem zp7(ro:Option Nat)(ev:Operand->Value)(w:World)(dst x t pos af gd)(h1:zbA (ev x)=true)(h2:(row w (za0 (ev x))).size=33) :
  (Oper.semAt ro ev ⟨dst,.load 40 x,t,pos,af,gd⟩).run Tryz.prog w=.ok (.value (.agg (row w (za0 (ev x))))) w:=by
 rw[Oper.semAt_eq ro _ _ (by intro c h;cases h)];exact zaV ev w dst x t pos af gd h1 h2
theorem zqD(ro:Option Nat)(ev:Operand->Value)(w:World)(zs:Array Value)(t:TypeId)(dst x y t' pos af gd)(h0:zs.size=33)(h1:zbA (ev x)=true)(h2:za0 (ev x)=w.heap.size)(h3:zbC (ev y)=true)(h4:(zaK (ev y)).size=33)(h5:zaM (zaK (ev y)).toList=true) :
  (Oper.semAt ro ev ⟨dst,.store 40 x y,t',pos,af,gd⟩).run Tryz.prog (w.alloc (.cells zs t))=.ok .skip (w.alloc (.cells (zaK (ev y)) t)):=by
 rw[Oper.semAt_eq ro _ _ (by intro c h;cases h)];exact zaW ev w zs t dst x y t' pos af gd h0 h1 h2 h3 h4 h5
theorem zlf(ro:Option Nat)(ev:Operand->Value)(w:World)(dst x t pos af gd)(h3:zbC (ev x)=true)(h4:(zaK (ev x)).size=33) :
  (Oper.semAt ro ev ⟨dst,.buildSlice 50 1 #[(0,x)],t,pos,af,gd⟩).run Tryz.prog w=.ok (.value (.slice (some ⟨w.heap.size,0,none⟩) 1 1)) (w.alloc (.cells (zaK (ev x)) 40)):=by
 rw[Oper.semAt_eq ro _ _ (by intro c h;cases h)];exact za1 ev w dst x t pos af gd h3 h4
attribute [local go_sem ↓] zaV zaW zaz za1 zp7 zqD zlf
attribute [local go_sem] zav zap zal zaI zaJ zae zaq zai zaw zao zas zan zaa zaj zaf zaA zax zak zag zar zaG zaC zaE
theorem zlc{nn:Nat}{fn:Func}{tmps:Array Value}{R:Ending->World->Prop}{W:World}{h D:Nat}{hv:Value}{code:Int}(hr:fn.results=#[.cell 6 50,.cell 7 28])(h6:tmps.getD 6 undef=.pointer (some ⟨h+1,0,none⟩))(h7:tmps.getD 7 undef=.pointer (some ⟨h+2,0,none⟩))(hK:W.heap[D]?=some (.deferred (some [])))(hD:D=h+9)(c1:W.cell? ⟨h+1,0,none⟩=some hv)(c2:W.cell? ⟨h+2,0,none⟩=some (.int .i64 code))(hR:R (.returned (.tuple #[hv,.int .i64 code])) (W.putObj D (.deferred none))) :
  LeavesInM Fence.wide nn Tryz.prog fn tmps R [{ target:=.collected D,args:=#[] }] .returning W:=by
 subst hD;have hg:=grownBy_putObj' W (h+9) (.deferred none);have q1:(W.putObj (h+9) (.deferred none)).cell? ⟨h+1,0,none⟩=some hv:=(World.cell?_of_block (a:=⟨h+1,0,none⟩) (World.putObj_heap_other (by show h+1≠h+9;omega))).trans c1;have q2:(W.putObj (h+9) (.deferred none)).cell? ⟨h+2,0,none⟩=some (.int .i64 code):=(World.cell?_of_block (a:=⟨h+2,0,none⟩) (World.putObj_heap_other (by show h+2≠h+9;omega))).trans c2;refine⟨by simp,.inl ⟨_,_,rfl,run_takeDeferred hK,?_⟩⟩
 refine⟨.tuple #[hv,.int .i64 code],?_,hR⟩
 rw[zqm hr,h6,h7];go_simp
theorem zpD{w0 w W W':World}{h p:Nat}{sv:Value}{l:List Rw}{fl cd c:Int}(hs:SHs w0 W p sv l fl cd c)(hg:w.grownBy W (some p))(hp:p<h)(hh:w.heap.size=h)(hso:∀ b,sv.ownBlock=some b->b<h)(e:∀ k,(k<h∨h+11<=k)->W'.heap[k]?=W.heap[k]?)(hz:W.heap.size<=W'.heap.size)(ho:W'.os=W.os)(ht:W'.tape=W.tape)(hu:W'.output=W.output):SHs w0 W' p sv l fl cd c∧w.grownBy W' (some p):=by
 have hb:Below h W W':=⟨ho,ht,hu,hz,fun k hk=>e k (.inl hk)⟩;exact⟨hs.belowB hb hp (fun _ b hq=>hso b hq),zay hg (by rw[hh];exact hb)⟩
def AlJ(w0 w:World)(h p:Nat)(sv:Value)(l:List Rw)(fl cd id:Int)(name:ByteArray)(r:Rf)(st:LoopState)(c:Int)(s:List Fu)(W:World):Prop :=
 AlC w0 w W h p sv l fl cd c id name r st none∧∃ ov rows,W.cell? ⟨h+3,0,none⟩=some ov∧HJ (h+11) W ov (s.map zfV) rows
def AlX(w0 w:World)(h p:Nat)(sv:Value)(l:List Rw)(fl cd id:Int)(name:ByteArray)(r:Rf)(st:LoopState)(pd:Option Code)(c e:Int)(W:World):Prop :=
 AlC w0 w W h p sv l fl cd c id name r st pd∧W.cell? ⟨h+1,0,none⟩=some (.slice none 0 0)∧W.cell? ⟨h+2,0,none⟩=some (.int .i64 e)
theorem putc{W:World}{D j:Nat}{o:Obj}(hj:j≠D):(W.putObj D o).cell? ⟨j,0,none⟩=W.cell? ⟨j,0,none⟩:=World.cell?_of_block (a:=⟨j,0,none⟩) (World.putObj_heap_other hj)
theorem AlJ.put{w0 w W:World}{h p:Nat}{sv:Value}{l:List Rw}{fl cd c id:Int}{name:ByteArray}{r:Rf}{st st':LoopState}{s:List Fu}(hA:AlJ w0 w h p sv l fl cd id name r st c s W)(hp:p<h)(h0:w0.heap.size<=h)(hh:w.heap.size=h)(hD:r.D=h+9)(hso:∀ b,sv.ownBlock=some b->b<h) :
  AlJ w0 w h p sv l fl cd id name r st' c s (W.putObj (r.D+1) (r.loop st' none)):=by
 obtain⟨h1,ov,rows,h2,h3⟩:=hA;refine⟨h1.put hp h0 hh hD hso,ov,rows,(putc (by omega)).trans h2,h3.keep (grownBy_putObj' W _ _).size (fun k hk _=>World.putObj_heap_other (by omega))⟩
theorem AlX.put{w0 w W:World}{h p:Nat}{sv:Value}{l:List Rw}{fl cd c e id:Int}{name:ByteArray}{r:Rf}{st st':LoopState}{pd pd':Option Code}(hA:AlX w0 w h p sv l fl cd id name r st pd c e W)(hp:p<h)(h0:w0.heap.size<=h)(hh:w.heap.size=h)(hD:r.D=h+9)(hso:∀ b,sv.ownBlock=some b->b<h) :
  AlX w0 w h p sv l fl cd id name r st' pd' c e (W.putObj (r.D+1) (r.loop st' pd')):=by
 obtain⟨h1,h2,h3⟩:=hA;exact⟨h1.put hp h0 hh hD hso,(putc (by omega)).trans h2,(putc (by omega)).trans h3⟩
theorem zep(p:Nat)(sv:Value)(l:List Rw)(fl cd ca id:Int)(name:ByteArray)(w0 w:World)(hm:MaxL w0)(hT:Tab w0)(hS:SHs w0 w p sv l fl cd ca)(hso:∀ b,sv.ownBlock=some b->b<w.heap.size)(hl:l.length<=1000)(hc0:0<=ca)(hc1:ca<=90000)(hcd:cd≠0∧cd≠6∨fl<=0) :
  Calls Tryz.prog 190 #[.iface 31 (.pointer (some ⟨p,0,none⟩)),.int .i64 id,.string name] w fun r w'=>AlR w0 w w' p sv l fl cd (zfR l fl cd ca id name) r:=by
 have hpl:=hS.pl;have hz0:=hS.b.size;have HS:=lh hS;clear hS;obtain⟨g,hg⟩:∃ g,zfR l fl cd ca id name=g:=⟨_,rfl⟩;rw[hg];refine (callsIn_wide (n:=4)).1 ?_
 refine callsIn_of_wp_marks Tryz.func190 rfl trivial ?_ rfl
 simp only[Tryz.ntmps190,List.size_toArray,List.length_cons,List.length_nil,Nat.reduceAdd,Nat.reduceSub,Array.replicate_succ,Array.replicate_zero,List.push_toArray,List.append_toArray,List.nil_append,List.cons_append]
 gi_wp2_with (refine⟨trivial,?_⟩;gi_at_call 108;refine (callsIn_wide.2 (zeq p id 65 _ _)).mono ?_;rintro _ _ ⟨rfl,rfl⟩)
 simp only[Nat.add_assoc,Nat.reduceAdd]
 generalize hW0:World.alloc _ _=W0;have hB0:Below w.heap.size w W0:=by rw[<-hW0];exact zbo
 have hsz:W0.heap.size=w.heap.size+9:=by rw[<-hW0];simp
 have k0:W0.cell? ⟨w.heap.size,0,none⟩=some (.string name):=by rw[<-hW0];simp [go_sem]
 have k1:W0.cell? ⟨w.heap.size+1,0,none⟩=some (.slice none 0 0):=by rw[<-hW0];simp [go_sem]
 have k2:W0.cell? ⟨w.heap.size+2,0,none⟩=some (.int .i64 0):=by rw[<-hW0];simp [go_sem]
 have k3:W0.cell? ⟨w.heap.size+3,0,none⟩=some (.slice none 0 0):=by rw[<-hW0];simp [go_sem]
 have k4:W0.cell? ⟨w.heap.size+4,0,none⟩=some (.int .i64 0):=by rw[<-hW0];simp [go_sem]
 have k5:W0.cell? ⟨w.heap.size+5,0,none⟩=some (.iface 31 (.pointer (some ⟨p,0,none⟩))):=by rw[<-hW0];simp [go_sem]
 have k6:W0.cell? ⟨w.heap.size+6,0,none⟩=some (.int .i64 id):=by rw[<-hW0];simp [go_sem]
 have k7:W0.cell? ⟨w.heap.size+7,0,none⟩=some (.int .u8 65):=by rw[<-hW0];simp [go_sem]
 have k8:W0.cell? ⟨w.heap.size+8,0,none⟩=some (.pointer (some ⟨w.heap.size+4,0,none⟩)):=by rw[<-hW0];simp [go_sem]
 have f1:W0.frozen? ⟨w.heap.size+1,0,none⟩=false:=by rw[<-hW0];simp [go_sem]
 have f2:W0.frozen? ⟨w.heap.size+2,0,none⟩=false:=by rw[<-hW0];simp [go_sem]
 have f3:W0.frozen? ⟨w.heap.size+3,0,none⟩=false:=by rw[<-hW0];simp [go_sem]
 have f4:W0.frozen? ⟨w.heap.size+4,0,none⟩=false:=by rw[<-hW0];simp [go_sem]
 clear hW0;refine znc rfl (by omega) (gf:=167) rfl trivial (enters_of Tryz.func167 (by kernel_rfl) rfl) ?_
 intro r W _ e1 e2 e3 e4 hD hW hU;rw[hsz] at hD;have B1:Below W0.heap.size W0 W:=by rw[hW];exact below2' _ _ _
 have hW2:W.heap.size=w.heap.size+11:=by rw[hW];simp [hsz]
 clear hW;have q:∀ i,i<=8->W.heap[w.heap.size+i]?=W0.heap[w.heap.size+i]?:=fun i hi=>B1.block _ (by omega)
 have qc:∀ i,i<=8->W.cell? ⟨w.heap.size+i,0,none⟩=W0.cell? ⟨w.heap.size+i,0,none⟩:=fun i hi=>World.cell?_of_block (a:=⟨w.heap.size+i,0,none⟩) (q i hi)
 have qf:∀ i,i<=8->W.frozen? ⟨w.heap.size+i,0,none⟩=W0.frozen? ⟨w.heap.size+i,0,none⟩:=fun i hi=>World.frozen?_of_block (a:=⟨w.heap.size+i,0,none⟩) (q i hi)
 have hA:AlC w0 w W w.heap.size p sv l fl cd ca id name r .ready none:=by
  refine⟨(HS.out.below hB0).below B1,zad _ (hB0.trans (B1.mono (by omega))),⟨(qc 7 (by omega)).trans k7,(qc 5 (by omega)).trans k5,(qc 6 (by omega)).trans k6,(qc 8 (by omega)).trans k8,(qc 4 (by omega)).trans k4,(qf 4 (by omega)).trans f4⟩,(qc 0 (by omega)).trans k0,⟨⟨_,(qc 1 (by omega)).trans k1⟩,(qf 1 (by omega)).trans f1⟩,⟨⟨_,(qc 2 (by omega)).trans k2⟩,(qf 2 (by omega)).trans f2⟩,⟨⟨_,(qc 3 (by omega)).trans k3⟩,(qf 3 (by omega)).trans f3⟩,hU,by omega⟩
 have hov:=(qc 3 (by omega)).trans k3;clear B1 q qc qf k0 k1 k2 k3 k4 k5 k6 k7 k8 f1 f2 f3 f4 hU hB0;generalize hh:w.heap.size=h at *;simp only[List.append_toArray,List.cons_append,List.nil_append]
 unfold zfR at hg;generalize hR:zbt l id fl cd 65 (zhi name) (l.length+1) ca [(65:UInt8) - 1,255] []=R at hg;have hp0:w0.heap.size<=h:=hz0
 have HJT:∀ (c c':Int) (s:List Fu) (W1 W':World),AlJ w0 w h p sv l fl cd id name r .ready c s W1->W1.grownBy W' (some p)->SHs w0 W' p sv l fl cd c'->AlJ w0 w h p sv l fl cd id name r .ready c' s W':=by
  rintro c c' s W1 W' ⟨h1,ov,rows,h2,h3⟩ hg hs;have z:=h1.z;exact⟨h1.tick hpl hD hg hs,ov,rows,(World.cell?_of_block (a:=⟨h+3,0,none⟩) (hg.block (h+3) (by omega) (fun e=>by have:=Option.some.inj e;omega))).trans h2,h3.tick hg (by omega)⟩
 have HY:∀ (c:Int) (s:List Fu) (k rc:ByteArray) (W1:World),AlJ w0 w h p sv l fl cd id name r .ready c s W1->s.length<=([]:List Fu).length+l.length->YieldAt Fence.wide 2 Tryz.prog (r.D+1) #[.string k,.string rc] W1 fun e W'=>match zhi name s k rc with|.ok s'=>e=.returned (.bool true)∧AlJ w0 w h p sv l fl cd id name r .ready c s' W'|.error x=>e=.returned (.bool false)∧AlX w0 w h p sv l fl cd id name r .done (some .ret) c x W':=by
  intro c s k rc W1 hJ1 hlen;have hb:=hJ1.put (st':=.busy) hpl hp0 hh hD hso;refine (zg8 (r:=r) (J:=fun W2=>∃ s',zhi name s k rc=.ok s'∧AlJ w0 w h p sv l fl cd id name r .busy c s' W2) (Jx:=fun cc W2=>∃ e,zhi name s k rc=.error e∧cc=.ret∧AlX w0 w h p sv l fl cd id name r .busy none c e W2) trivial hJ1.1.up (by rw[e2];rfl) ?_).mono ?_
  rotate_left
  · rintro e W' (⟨rfl,w1,hu,⟨s',hs',h1⟩,rfl⟩|⟨rfl,cc,w1,hu,⟨e,he,rfl,h1⟩,rfl⟩)
    · rw[hs'];exact⟨rfl,h1.put hpl hp0 hh hD hso⟩
    · rw[he];exact⟨rfl,h1.put hpl hp0 hh hD hso⟩
  change AlJ w0 w h p sv l fl cd id name r .busy c s (r.busy W1) at hb
  simp only[e1,e2,e3,e4]
  gi_wp2
  refine⟨hJ1.1.up,?_⟩
  generalize r.busy W1=Wb at hb ⊢;obtain⟨hAb,ov,rows,hob,hJb⟩:=hb;obtain⟨va,vc,rfl⟩:=za6 hJb.own;rw[List.length_map] at hob hJb;have zb:=hAb.z;have hrd:=zgr k rc Wb (hm.below hAb.sh.b) (hT.below hAb.sh.b);have hrk:¬ (zaS k rc).2≠0->okX (zaS k rc).1=true:=fun h=>(zea h).1
  have hS:zhi name s k rc=if (zaS k rc).2≠0 then .error (zaS k rc).2 else if (zaS k rc).1.1.target=name then .ok (s++[(zaS k rc).1]) else .ok s:=rfl
  generalize zaS k rc=yy at hrd hrk hS;obtain⟨y,code⟩:=yy;dsimp only at hrk hS;have HRD:=lh hrd;have HAB:=lh hAb;have HJB:=lh hJb;clear hrd hJ1 hJb hAb;by_cases h0:code=0
  rotate_left
  · rw[if_pos h0] at hS;have t1:(code != 0)=true:=bne_iff_ne.2 h0;have HSS:=lh hS;clear h0 hrk hS;gi_wp2_with (refine⟨trivial,?_⟩;gi_at_call 102;refine (CallsIn.inRound _ (callsIn_wide.2 HRD.out)).mono ?_;rintro _ w3 ⟨⟨al2,gr2,rfl,hI,hGs,hf1,hf2⟩,hb3⟩;have hone:=zau y.1 al2 gr2 (zaP hI) (zaO hGs);have B4:Below Wb.heap.size Wb (w3.alloc (.cells (y.1.vals al2 gr2) 40)):=bt hb3 (zab w3 _);have z3:=hb3.size;have A4:=HAB.out.bel hpl hh hD hso (B4.mono zb);have cn:=A4.n;obtain⟨⟨v1,k1⟩,f1⟩:=A4.b1;obtain⟨⟨v2,k2⟩,f2⟩:=A4.b2;obtain⟨-,f3⟩:=A4.b3;have co:=((B4.mono zb).cell (p:=⟨h+3,0,none⟩) (by show h+3<h+11;omega)).trans hob;have R4:=zai w3 (y.1.vals al2 gr2) 40 (0,0);have N4:=zah R4 29 _ (zbb _ _ _);have HA4:=lh A4;have HI:=lh hI;have HGS:=lh hGs;have HF2:=lh hf2;have HB4:=lh B4;clear hI hGs hf1 hf2 hb3 A4 B4)
    have A5:=((HA4.out.set (i:=1) (v:=.slice none 0 0) hpl hp0 hh hD hso (.inl rfl)).set (i:=2) (v:=.int .i64 code) hpl hp0 hh hD hso (.inr (.inl rfl)));exact⟨A5.up,code,HSS.out,rfl,A5,(World.cell?_setCell_other _ _ _ _ (by intro e;have:=congrArg Addr.block e;simp at this)).trans (World.cell?_setCell_same' _ _ _ (by rw[k1];rfl)),World.cell?_setCell_same' _ _ _ (by rw[World.cell?_setCell_other _ _ _ _ (by intro e;have:=congrArg Addr.block e;simp at this),k2];rfl)⟩
  rw[if_neg (fun k=>k h0)] at hS;subst h0;have hg8:=zqc y (hrk (fun k=>k rfl));have t3:=zei y.1.target name;clear hrk;by_cases ht:y.1.target=name
  rotate_left
  · rw[if_neg ht] at hS;rw[decide_eq_false ht] at t3;have HSS:=lh hS;clear ht hS;gi_wp2_with (refine⟨trivial,?_⟩;gi_at_call 102;refine (CallsIn.inRound _ (callsIn_wide.2 HRD.out)).mono ?_;rintro _ w3 ⟨⟨al2,gr2,rfl,hI,hGs,hf1,hf2⟩,hb3⟩;have hone:=zau y.1 al2 gr2 (zaP hI) (zaO hGs);have B4:Below Wb.heap.size Wb (w3.alloc (.cells (y.1.vals al2 gr2) 40)):=bt hb3 (zab w3 _);have z3:=hb3.size;have A4:=HAB.out.bel hpl hh hD hso (B4.mono zb);have cn:=A4.n;obtain⟨⟨v1,k1⟩,f1⟩:=A4.b1;obtain⟨⟨v2,k2⟩,f2⟩:=A4.b2;obtain⟨-,f3⟩:=A4.b3;have co:=((B4.mono zb).cell (p:=⟨h+3,0,none⟩) (by show h+3<h+11;omega)).trans hob;have R4:=zai w3 (y.1.vals al2 gr2) 40 (0,0);have N4:=zah R4 29 _ (zbb _ _ _);have HA4:=lh A4;have HI:=lh hI;have HGS:=lh hGs;have HF2:=lh hf2;have HB4:=lh B4;clear hI hGs hf1 hf2 hb3 A4 B4)
    exact⟨HA4.out.up,s,HSS.out,HA4.out,_,rows,co,HJB.out.below HB4.out⟩
  rw[if_pos ht] at hS;rw[decide_eq_true ht] at t3;have HSS:=lh hS;clear ht hS;gi_wp2_with (first|(refine⟨trivial,?_⟩;gi_at_call 102;refine (CallsIn.inRound _ (callsIn_wide.2 HRD.out)).mono ?_;rintro _ w3 ⟨⟨al2,gr2,rfl,hI,hGs,hf1,hf2⟩,hb3⟩;have hone:=zau y.1 al2 gr2 (zaP hI) (zaO hGs);have B4:Below Wb.heap.size Wb (w3.alloc (.cells (y.1.vals al2 gr2) 40)):=bt hb3 (zab w3 _);have z3:=hb3.size;have A4:=HAB.out.bel hpl hh hD hso (B4.mono zb);have cn:=A4.n;obtain⟨⟨v1,k1⟩,f1⟩:=A4.b1;obtain⟨⟨v2,k2⟩,f2⟩:=A4.b2;obtain⟨-,f3⟩:=A4.b3;have co:=((B4.mono zb).cell (p:=⟨h+3,0,none⟩) (by show h+3<h+11;omega)).trans hob;have R4:=zai w3 (y.1.vals al2 gr2) 40 (0,0);have N4:=zah R4 29 _ (zbb _ _ _);have HA4:=lh A4;have HI:=lh hI;have HGS:=lh hGs;have HF2:=lh hf2;have HB4:=lh B4;clear hI hGs hf1 hf2 hb3 A4 B4)|(gi_at_builtin;have B45:=zab (w3.alloc (.cells (y.1.vals al2 gr2) 40)) (.cells (y.1.vals al2 gr2) 40);have HJ5:=(HJB.out.below HB4.out).below B45;have zA:=HA4.out.z;have hlen2:s.length<=1000:=(by simp only[List.length_nil] at hlen;omega);have ow5:=zr9 HJ5.own;refine zfN _ rfl (.tmp 32) (.tmp 34) 50 40 _ _ 33 336 rfl Tryz.underlying50 ztS zlE zlF zlG (zaa _ _ _) (by decide) (h+11) (.slice va s.length vc) (.slice (some ⟨w3.heap.size+1,0,none⟩) 1 1) s.length 1 (ec rows) (y.1.vals al2 gr2).toList rfl ow5 rfl (cs_one (by simp) (zaa _ _ _)) (by decide) (all1 hone) (by unfold maxLen;omega) (by omega) (by simp at zA ⊢;omega) ?_;intro a5 c5 w5 hown hg5 hat;have zW:h+11<=((w3.alloc (.cells (y.1.vals al2 gr2) 40)).alloc (.cells (y.1.vals al2 gr2) 40)).heap.size:=(by simp at zA ⊢;omega);have B56:Below (h+11) ((w3.alloc (.cells (y.1.vals al2 gr2) 40)).alloc (.cells (y.1.vals al2 gr2) 40)) w5:=za2 hg5 (fun q hq=>(zam HJ5.own q hq).1) zW;have A6:=(HA4.out.bel hpl hh hD hso (B45.mono zA)).bel hpl hh hD hso B56;have HA6:=lh A6;have c6:=(B56.cell (p:=⟨h+3,0,none⟩) (by show h+3<h+11;omega)).trans ((B45.cell (p:=⟨h+3,0,none⟩) (by show h+3<_;omega)).trans co);have f6:=A6.b3.2;have hge:GJ (h+11) ((w3.alloc (.cells (y.1.vals al2 gr2) 40)).alloc (.cells (y.1.vals al2 gr2) 40)) (Value.slice va s.length vc).ownBlock (y.1.vals al2 gr2) (zfV y):=(by obtain⟨ga,gc,rfl,hgz,-⟩:=_root_.id HI.out;obtain⟨ga2,gc2,rfl,hgz2,-⟩:=_root_.id HGS.out;exact⟨ga,gc,ga2,gc2,rfl,(by show y.2.1.length<=_;omega),(by show y.2.2.length<=_;omega),rfl,(HGS.out.below (zab w3 _)).below B45,fun h0 b hb=>⟨fun e=>(by have q1:=(zam HJB.out.own b e).2;have q2:=HF2.out b hb;omega),(by have q2:=HF2.out b hb;omega),(by have q3:=zl4 HGS.out h0 b hb;simp;omega)⟩⟩);have HJ6:=lh (HJ5.snoc (x:=zfV y) (zoG hown) hg5 hat (zaa _ _ _) hone hge);clear hge A6 hown hg5 hat B45 B56 HJ5 ow5 zW))
  have A7:=(HA6.out.set (i:=3) (v:=.slice a5 (s.length+1) c5) hpl hp0 hh hD hso (.inr (.inr rfl)));refine⟨A7.up,s++[y],HSS.out,A7,.slice a5 (s.length+1) c5,rows++[y.1.vals al2 gr2],World.cell?_setCell_same' _ _ _ (by rw[c6];rfl),?_⟩
  rw[List.map_append];exact (HJ6.out.keep (zaH w5 ⟨h+3,0,none⟩ (.slice a5 (s.length+1) c5)).size (fun k hk hk2=>(zaH w5 ⟨h+3,0,none⟩ (.slice a5 (s.length+1) c5)).block k hk2 (fun e=>by have:=Option.some.inj e;simp at this;omega)))
 have HRS:=zi4 (zhi name) List.length (zjj name) (AlJ w0 w h p sv l fl cd id name r .ready) (AlX w0 w h p sv l fl cd id name r .done (some .ret)) (r.D+1) p (h+7) (h+5) (h+6) (h+8) (h+4) sv l fl cd ca id 65 w0 W [] 3 2 (fun c s W' hj=>⟨hj.1.ri,hj.1.sh⟩) HJT (fun c s k rc W1 h1 h2 _ _=>(HY c s k rc W1 h1 h2).mono fun e W' h=>by cases hst:zhi name s k rc <;> (rw[hst] at h;exact h)) (by decide) (by omega) rfl ⟨hA,_,[],hov,HJ.start _ _⟩ hc0 (by omega) hl hcd;rw[hR] at HRS;refine HRS.mono ?_
 clear HRS HJT HY hov hA;rintro e W2 ⟨⟨v,rfl⟩,hout⟩;refine⟨⟨v,rfl⟩,?_⟩
 unfold zjg at hout;have heq:∀ (pd:Option Code) (k:Nat),k≠h+9->k≠h+10->((r.gone pd W2).putObj (h+9) (.deferred none)).heap[k]?=W2.heap[k]?:=fun pd k h1 h2=>(World.putObj_heap_other h1).trans (World.putObj_heap_other (by omega))
 have hgc:∀ (pd:Option Code) (k:Nat),k≠h+10->(r.gone pd W2).heap[k]?=W2.heap[k]?:=fun pd k h2=>World.putObj_heap_other (by omega)
 obtain⟨R1,cR⟩:=R
 cases R1 with
 | error e =>
   obtain⟨h1,h2,h3⟩:=hout;replace hg:(([],e),cR)=g:=hg
   subst hg;refine .inr ⟨.ret,h1.up,?_⟩
   have hK:(r.gone (some .ret) W2).heap[h+9]?=some (.deferred (some [])):=(hgc _ _ (by omega)).trans (hD ▸ h1.up.dfr);have x1:(r.gone (some .ret) W2).cell? ⟨h+1,0,none⟩=some (.slice none 0 0):=(World.cell?_of_block (a:=⟨h+1,0,none⟩) (hgc _ (h+1) (by omega))).trans h2;have x2:(r.gone (some .ret) W2).cell? ⟨h+2,0,none⟩=some (.int .i64 e):=(World.cell?_of_block (a:=⟨h+2,0,none⟩) (hgc _ (h+2) (by omega))).trans h3;have hF:=zpD (W':=(r.gone (some .ret) W2).putObj (h+9) (.deferred none)) h1.sh h1.g hpl hh hso (fun k hk=>heq _ k (by omega) (by omega)) (by simp [Rf.gone]) rfl rfl rfl;gi_wp2
   exact zlc rfl rfl rfl hK rfl x1 x2 ⟨.slice none 0 0,[],rfl,HJ.start _ _,hF.1,hF.2⟩
 | ok sc =>
   obtain⟨s,code⟩:=sc;obtain⟨w1,⟨hA1,ov,rows,ho,hJ1⟩,hcode⟩:=hout;obtain⟨va,vc,rfl⟩:=za6 hJ1.own;rw[List.length_map] at ho hJ1;have z1:=hA1.z
   have F:SHs w0 W2 p sv l fl cd cR∧w.grownBy W2 (some p)∧Bx W2 (h+1)∧Bx W2 (h+2)∧W2.cell? ⟨h+3,0,none⟩=some (.slice va s.length vc)∧HJ (h+11) W2 (.slice va s.length vc) (s.map zfV) rows∧W2.cell? ⟨h+4,0,none⟩=some (.int .i64 code)∧Rup r .ready none W2∧h+11<=W2.heap.size:=by
    rcases hcode with ⟨rfl,rfl⟩|rfl
    · exact⟨hA1.sh,hA1.g,hA1.b1,hA1.b2,ho,hJ1,hA1.ri.v,hA1.up,hA1.z⟩
    · have hg4:=zaH w1 ⟨h+4,0,none⟩ (.int .i64 code);have hb4:∀ k,k<w1.heap.size->k≠h+4->(w1.setCell ⟨h+4,0,none⟩ (.int .i64 code)).heap[k]?=w1.heap[k]?:=fun k h1 h2=>hg4.block k h1 (fun e=>h2 (Option.some.inj e))
      refine⟨hA1.sh.other hg4 (by show p≠h+4;omega) (by show _<=h+4;omega) (fun b hb=>by have:=hso b hb;show b≠h+4;omega),zay hA1.g (zaU hg4 (by show w.heap.size<=h+4;omega) (by omega)),hA1.b1.set,hA1.b2.set,(World.cell?_of_block (a:=⟨h+3,0,none⟩) (hb4 (h+3) (by omega) (by omega))).trans ho,hJ1.keep hg4.size (fun k hk hk2=>hb4 k hk2 (by omega)),World.cell?_setCell_same' _ _ _ (by rw[hA1.ri.v];rfl),⟨?_,?_⟩,by simpa using z1⟩
      · rw[hb4 _ (by omega) (by omega)];exact hA1.up.lp
      · rw[hb4 _ (by omega) (by omega)];exact hA1.up.dfr
   clear hcode ho hJ1 hA1 z1;obtain⟨q1,q2,q3,q4,q5,q6,q7,q8,q9⟩:=F;refine .inl ⟨q8,?_⟩
   have hK:(r.gone none W2).heap[h+9]?=some (.deferred (some [])):=(hgc _ _ (by omega)).trans (hD ▸ q8.dfr);have x1:=q3.of (hgc none (h+1) (by omega));have x2:=q4.of (hgc none (h+2) (by omega));have x3:=(World.cell?_of_block (a:=⟨h+3,0,none⟩) (hgc none (h+3) (by omega))).trans q5;have x4:=(World.cell?_of_block (a:=⟨h+4,0,none⟩) (hgc none (h+4) (by omega))).trans q7;have hgx:=hgc none;have hzx:W2.heap.size<=(r.gone none W2).heap.size:=by simp [Rf.gone]
   have hos:(r.gone none W2).os=W2.os∧(r.gone none W2).tape=W2.tape∧(r.gone none W2).output=W2.output:=⟨rfl,rfl,rfl⟩;generalize r.gone none W2=Wg at hK x1 x2 x3 x4 hgx hzx hos ⊢;clear heq hgc;obtain⟨⟨v1,c1⟩,f1⟩:=x1;obtain⟨⟨v2,c2⟩,f2⟩:=x2
   have hend:∀ (u1 u2:Value) (W5:World),W5=(Wg.setCell ⟨h+1,0,none⟩ u1).setCell ⟨h+2,0,none⟩ u2->W5.heap[h+9]?=some (.deferred (some []))∧W5.cell? ⟨h+1,0,none⟩=some u1∧W5.cell? ⟨h+2,0,none⟩=some u2∧SHs w0 (W5.putObj (h+9) (.deferred none)) p sv l fl cd cR∧w.grownBy (W5.putObj (h+9) (.deferred none)) (some p)∧HJ (h+11) (W5.putObj (h+9) (.deferred none)) (.slice va s.length vc) (s.map zfV) rows:=by
    rintro u1 u2 W5 rfl;have e5:∀ k,k≠h+1->k≠h+2->((Wg.setCell ⟨h+1,0,none⟩ u1).setCell ⟨h+2,0,none⟩ u2).heap[k]?=Wg.heap[k]?:=fun k k1 k2=>(heap_setCell_other _ ⟨h+2,0,none⟩ k u2 k2).trans (heap_setCell_other _ ⟨h+1,0,none⟩ k u1 k1)
    have e6:∀ k,(k<h∨h+11<=k)->(((Wg.setCell ⟨h+1,0,none⟩ u1).setCell ⟨h+2,0,none⟩ u2).putObj (h+9) (.deferred none)).heap[k]?=W2.heap[k]?:=fun k hk=>(World.putObj_heap_other (by omega)).trans ((e5 k (by omega) (by omega)).trans (hgx k (by omega)))
    have z6:W2.heap.size<=(((Wg.setCell ⟨h+1,0,none⟩ u1).setCell ⟨h+2,0,none⟩ u2).putObj (h+9) (.deferred none)).heap.size:=by simpa using hzx
    have hF:=zpD q1 q2 hpl hh hso e6 z6 hos.1 hos.2.1 hos.2.2;exact⟨(e5 _ (by omega) (by omega)).trans hK,(World.cell?_setCell_other _ _ _ _ (by intro e;have:=congrArg Addr.block e;simp at this)).trans (World.cell?_setCell_same' _ _ _ (by rw[c1];rfl)),World.cell?_setCell_same' _ _ _ (by rw[World.cell?_setCell_other _ _ _ _ (by intro e;have:=congrArg Addr.block e;simp at this),c2];rfl),hF.1,hF.2,q6.keep z6 (fun k hk _=>e6 k (.inr hk))⟩
   have HE:=lh hend;clear hend hgx hzx hos q1 q2 q3 q4 q5 q6 q7 q8 q9;by_cases hc:code=0
   · subst hc;replace hg:((s,0),cR)=g:=hg
     subst hg;gi_wp2
     obtain⟨m1,m2,m3,m4,m5,m6⟩:=HE.out (.slice va s.length vc) (.int .i64 0) _ rfl;exact zlc rfl rfl rfl m1 rfl m2 m3 ⟨_,_,rfl,(by rw[hh];exact m6.le (by omega)),m4,m5⟩
   · have t1:(code != 0)=true:=bne_iff_ne.2 hc;replace hg:(if code≠0 then (([]:List Fu),code) else (s,0),cR)=g:=hg
     rw[if_pos hc] at hg;subst hg;obtain⟨m1,m2,m3,m4,m5,m6⟩:=HE.out (.slice none 0 0) (.int .i64 code) _ rfl;have hmx:Tryz.prog.follows .mixedOrders=true:=by kernel_rfl
     gi_wp2
     gi_region_with_o (fail)
     all_goals gi_wp2
     all_goals exact zlc rfl rfl rfl m1 rfl m2 m3 ⟨.slice none 0 0,[],rfl,HJ.start _ _,m4.below (Below.refl _ _).drew,zay m5 (Below.refl _ _).drew⟩
end
def zid(x:Fu)(s:ByteArray):Fu:=({ x.1 with name:=s },x.2)
def zda(x:Fu)(s:ByteArray):Fu:=({ x.1 with target:=s },x.2)
theorem znB(e:En)(al gr:Value)(s:ByteArray):(e.vals al gr).setIfInBounds 1 (.string s)=({ e with name:=s }:En).vals al gr:=by
 unfold En.vals;simp only[List.setIfInBounds_toArray,List.set_cons_succ,List.set_cons_zero]
theorem zil(e:En)(al gr:Value)(s:ByteArray):(e.vals al gr).setIfInBounds 29 (.string s)=({ e with target:=s }:En).vals al gr:=by
 unfold En.vals;simp only[List.setIfInBounds_toArray,List.set_cons_succ,List.set_cons_zero]
def zql(id:Int)(x:Fu)(tn:ByteArray)(s:List Fu):List Ch:=zbf id x::zby id (zid x tn)::s.map fun a=>zby id (zda a tn)
def zk7(l:List Rw)(fl cd ca id:Int)(name tn:ByteArray):(List Ch × Int) × Int :=
 if Ds.name (Ds.bl tn)=false then (([],1),ca)
 else if (zbn l fl cd ca id 0 name).1.2≠0 then (([],(zbn l fl cd ca id 0 name).1.2),(zbn l fl cd ca id 0 name).2)
 else if Ds.gen (Ds.bl name)=true∨Ds.gen (Ds.bl tn)=true then (([],7),(zbn l fl cd ca id 0 name).2)
 else if zhh (zbF l fl cd (zbn l fl cd ca id 0 name).2 id tn).1.2≠0 then (([],zhh (zbF l fl cd (zbn l fl cd ca id 0 name).2 id tn).1.2),(zbF l fl cd (zbn l fl cd ca id 0 name).2 id tn).2)
 else if (zfR l fl cd (zbF l fl cd (zbn l fl cd ca id 0 name).2 id tn).2 id name).1.2≠0 then (([],(zfR l fl cd (zbF l fl cd (zbn l fl cd ca id 0 name).2 id tn).2 id name).1.2),(zfR l fl cd (zbF l fl cd (zbn l fl cd ca id 0 name).2 id tn).2 id name).2)
 else ((zql id (zbn l fl cd ca id 0 name).1.1 tn (zfR l fl cd (zbF l fl cd (zbn l fl cd ca id 0 name).2 id tn).2 id name).1.1,0),(zfR l fl cd (zbF l fl cd (zbn l fl cd ca id 0 name).2 id tn).2 id name).2)
def Ali(y:Fu):Prop:=y.2.1=[]∧y.2.2=[]∧y.1.name.size<=60
theorem zg5{σ ρ:Type}{step:σ->ByteArray->ByteArray->Except ρ σ}{l:List Rw}{id fl cd:Int}{L:UInt8}(I:σ->Prop)(hI:∀ s k r s',I s->(Ds.bl k).headD 0=L->step s k r=.ok s'->I s') :
  ∀ (f:Nat) (c:Int) (k:List UInt8) (s s':σ) (e c':Int),I s->zbt l id fl cd L step f c k s=(.ok (s',e),c')->I s'
 | 0,c,k,s,s',e,c',hs,h=>by
   rw[zbt] at h;cases h;exact hs
 | f+1,c,k,s,s',e,c',hs,h=>by
   rw[zbt] at h;split at h
   · cases h;exact hs
   split at h
   · cases h;exact hs
   rename_i x _;split at h
   · cases h;exact hs
   rename_i h1;split at h
   · exact zg5 I hI f _ _ _ _ _ _ hs h
   rename_i h2
   have hL:(Ds.bl x.2.1).headD 0=L:=by
    refine UInt8.toNat_inj.1 ?_
    have q1:¬ L.toNat<((Ds.bl x.2.1).headD 0).toNat:=fun h=>h1 (UInt8.lt_iff_toNat_lt.2 h)
    have q2:¬ ((Ds.bl x.2.1).headD 0).toNat<L.toNat:=fun h=>h2 (UInt8.lt_iff_toNat_lt.2 h)
    omega
   cases hst:step s x.2.1 x.2.2 with
   | ok s2 =>
     rw[hst] at h;exact zg5 I hI f _ _ _ _ _ _ (hI _ _ _ _ hs hL hst) h
   | error e=>rw[hst] at h;cases h
theorem ztv{y:Fu}(h:okX y=true)(hk:(zfr y).headD 0=65):Ali y:=by
 have h0:=zd5 y h;have hn:=zcc y h
 have h2:y.1.kind=2:=by
  unfold zfr Ek.key at hk;rw[if_pos ⟨by unfold Ek.isKind;simp only[Bool.and_eq_true,decide_eq_true_eq];exact h0,hn.1⟩] at hk;have hl:Ek.letter y.1.kind=65:=hk;have:y.1.kind=0∨y.1.kind=1∨y.1.kind=2∨y.1.kind=3∨y.1.kind=4:=by omega
  rcases this with e|e|e|e|e
  · rw[e] at hl;exact absurd hl (by decide)
  · rw[e] at hl;exact absurd hl (by decide)
  · exact e
  · rw[e] at hl;exact absurd hl (by decide)
  · rw[e] at hl;exact absurd hl (by decide)
 unfold okX at h;rw[if_neg (by omega),if_neg (by omega),if_pos h2] at h;unfold okA at h;simp only[Bool.and_eq_true] at h
 have:=(zbj _ _ _ _ _ _).1 h.2;refine⟨this.2.1.symm,this.2.2.symm,?_⟩
 have:=hn.1;rw[Ds.bl_length] at this;omega
theorem zgp(l:List Rw)(fl cd ca id:Int)(name:ByteArray):∀ y∈(zfR l fl cd ca id name).1.1,Ali y:=by
 unfold zfR
 cases hr:zbt l id fl cd 65 (zhi name) (l.length+1) ca [(65:UInt8) - 1,255] [] with
 | mk a c =>
   cases a with
   | error e=>intro y hy;cases hy
   | ok p =>
     obtain⟨s,code⟩:=p
     have hs:=zg5 (I:=fun s=>∀ y∈s,Ali y) (fun s k r s' hs hk hst=>by
      unfold zhi at hst;split at hst
      · cases hst
      rename_i hz;obtain⟨o1,o2⟩:=zea hz;split at hst
      · cases hst
        intro y hy;rcases List.mem_append.1 hy with hy|hy
        · exact hs y hy
        · rw[List.mem_singleton] at hy;subst hy;exact ztv o1 (by rw[o2];exact hk)
      · cases hst;exact hs) _ _ _ _ _ _ _ (fun y hy=>by cases hy) hr
     dsimp only;split
     · intro y hy;cases hy
     · exact hs
theorem zec{σ ρ:Type}{step:σ->ByteArray->ByteArray->Except ρ σ}{l:List Rw}{id fl cd:Int}{L:UInt8}(len:σ->Nat)(hI:∀ s k r s',step s k r=.ok s'->len s'<=len s+1) :
  ∀ (f:Nat) (c:Int) (k:List UInt8) (s s':σ) (e c':Int),zbt l id fl cd L step f c k s=(.ok (s',e),c')->len s'<=len s+f
 | 0,c,k,s,s',e,c',h=>by
   rw[zbt] at h;cases h;omega
 | f+1,c,k,s,s',e,c',h=>by
   rw[zbt] at h;split at h
   · cases h;omega
   split at h
   · cases h;omega
   rename_i x _;split at h
   · cases h;omega
   split at h
   · have:=zec len hI f _ _ _ _ _ _ h;omega
   cases hst:step s x.2.1 x.2.2 with
   | ok s2 =>
     rw[hst] at h;have h1:=zec len hI f _ _ _ _ _ _ h;have h2:=hI _ _ _ _ hst;omega
   | error e=>rw[hst] at h;cases h
theorem zc2{σ ρ:Type}{step:σ->ByteArray->ByteArray->Except ρ σ}{l:List Rw}{id fl cd:Int}{L:UInt8} :
  ∀ (f:Nat) (c:Int) (k:List UInt8) (s:σ),c<=(zbt l id fl cd L step f c k s).2∧(zbt l id fl cd L step f c k s).2<=c+f
 | 0,c,k,s=>by rw[zbt];exact⟨Int.le_refl _,by show c<=c+(0:Nat);omega⟩
 | f+1,c,k,s=>by
   have q:c<=c+1∧c+1<=c+((f+1:Nat):Int):=⟨by omega,by omega⟩;rw[zbt];split
   · exact q
   split
   · exact q
   rename_i x _;split
   · exact q
   split
   · have:=zc2 (step:=step) (l:=l) (id:=id) (fl:=fl) (cd:=cd) (L:=L) f (c+1) (Ds.bl x.2.1) s;omega
   cases step s x.2.1 x.2.2 with
   | ok s2=>have:=zc2 (step:=step) (l:=l) (id:=id) (fl:=fl) (cd:=cd) (L:=L) f (c+1) (Ds.bl x.2.1) s2;dsimp only;omega
   | error e=>exact q
theorem zgl(l:List Rw)(fl cd ca id:Int)(name:ByteArray):(zfR l fl cd ca id name).1.1.length<=l.length+1:=by
 unfold zfR
 cases hr:zbt l id fl cd 65 (zhi name) (l.length+1) ca [(65:UInt8) - 1,255] [] with
 | mk a c =>
   cases a with
   | error e=>exact Nat.zero_le _
   | ok p =>
     obtain⟨s,code⟩:=p;have h:=zec List.length (zjj name) _ _ _ _ _ _ _ hr;dsimp only;split
     · exact Nat.zero_le _
     · simpa using h
theorem zfY{w w1 w2 w0:World}{p:Nat}{sv:Value}{l:List Rw}{fl cd c c2:Int}{y:Fu}{al gr:Value}(hS:SHs w0 w1 p sv l fl cd c)(hG:w.grownBy w1 (some p))(hI:IS w2 al y.2.1)(hGs:GS w2 gr y.2.2)(hf1:∀ q,al.ownBlock=some q->w1.heap.size<=q)(hf2:∀ q,gr.ownBlock=some q->w1.heap.size<=q)(hs:SHs w0 w2 p sv l fl cd c2)(hg:w1.grownBy w2 (some p)) :
  zaM (y.1.vals al gr).toList=true∧p<w2.heap.size∧p<w1.heap.size∧(∀ q,al.ownBlock=some q->p<q)∧(∀ q,gr.ownBlock=some q->p<q)∧w2.heap.size≠p∧w.heap.size<=w2.heap.size∧Hid (IS w2 al y.2.1)∧Hid (GS w2 gr y.2.2)∧Hid (IS (w2.alloc (.cells (y.1.vals al gr) 40)) al y.2.1)∧Hid (GS (w2.alloc (.cells (y.1.vals al gr) 40)) gr y.2.2)∧row (w2.alloc (.cells (y.1.vals al gr) 40)) w2.heap.size=y.1.vals al gr∧Held (w2.alloc (.cells (y.1.vals al gr) 40)) w2.heap.size 33∧Hid (w.grownBy (w2.alloc (.cells (y.1.vals al gr) 40)) (some p))∧Hid (SHs w0 (w2.alloc (.cells (y.1.vals al gr) 40)) p sv l fl cd c2):=by
 have z2:=hs.pl;have zS:=hS.pl;have b:=zab w2 (.cells (y.1.vals al gr) 40);exact⟨zau y.1 al gr (zaP hI) (zaO hGs),z2,zS,fun q hq=>by have:=hf1 q hq;omega,fun q hq=>by have:=hf2 q hq;omega,by omega,(zat hG hg).size,lh hI,lh hGs,lh (hI.below b),lh (hGs.below b),zai w2 _ _ _,zhG w2 _ _ (zaa _ _ _),lh (zay (zat hG hg) (b.mono (zat hG hg).size)),lh (hs.below b)⟩
section
theorem zbc{a b c:World}{p:Option Nat}(h:a.grownBy b p)(k:Below b.heap.size b c):a.grownBy c p:=zay h (k.mono h.size)
theorem zbV{w w':World}{p b n:Nat}(h:Held w b n)(hg:w.grownBy w' (some p))(hne:b≠p):Held w' b n:=h.of_block (hg.block b h.lt (fun e=>hne (Option.some.inj e)))
theorem zrX{wb w:World}{al v:Value}{l:List Int}{be i:Nat}(h0:IS wb al l)(hlt:wb.heap.size<=be)(h:IS w al l):IS (w.setCell ⟨be,i,none⟩ v) al l:=by
 obtain⟨a,c,rfl,hz,hc⟩:=h0;obtain⟨a',c',e,-,hc'⟩:=h;cases e
 refine⟨_,_,rfl,hz,fun hp=>?_⟩
 obtain⟨b,o,ha,hb,-⟩:=hc hp;obtain⟨b',o',ha',hb',hcell⟩:=hc' hp;subst ha;cases ha'
 exact⟨_,_,rfl,by simpa using hb',fun k hk=>by rw[World.cell?_setCell_other _ _ _ _ (by intro h;cases h;omega)];exact hcell k hk⟩
theorem zrL{wb w:World}{al v:Value}{l:List Gr}{be i:Nat}(h0:GS wb al l)(hlt:wb.heap.size<=be)(h:GS w al l):GS (w.setCell ⟨be,i,none⟩ v) al l:=by
 obtain⟨a,c,rfl,hz,hc⟩:=h0;obtain⟨a',c',e,-,hc'⟩:=h;cases e
 refine⟨_,_,rfl,hz,fun hp=>?_⟩
 obtain⟨b,o,ha,hb,-⟩:=hc hp;obtain⟨b',o',ha',hb',hcell⟩:=hc' hp;subst ha;cases ha'
 have hne:∀ j,(w.setCell ⟨be,i,none⟩ v).cell? ⟨b,j,none⟩=w.cell? ⟨b,j,none⟩:=fun j=>World.cell?_setCell_other _ _ _ _ (by intro h;cases h;omega)
 exact⟨_,_,rfl,by simpa using hb',fun k hk=>⟨(hne _).trans (hcell k hk).1,(hne _).trans (hcell k hk).2.1,(hne _).trans (hcell k hk).2.2⟩⟩
theorem zrW(W:World)(a:Option Addr)(c:Nat):IS W (.slice a 0 c) []:=⟨a,c,rfl,by simp,fun h=>by simp at h⟩
theorem zrK(W:World)(a:Option Addr)(c:Nat):GS W (.slice a 0 c) []:=⟨a,c,rfl,by simp,fun h=>by simp at h⟩
theorem zsx(W:World)(x:Ch)(t:TypeId):(W.alloc (.cells (ch5 x) t)).ownsRow W.heap.size t 5 (.slice (some ⟨W.heap.size,0,none⟩) 1 1) 1 (cv [x]):=by
 refine⟨?_,.inr ⟨W.heap.size,1,ch5 x,rfl,Nat.le_refl _,heap_alloc_new W _,Nat.le_refl _,by unfold maxLen;omega,rfl,?_⟩⟩
 · rw[zpJ];rfl
 · exact (show List.take (1*5) (ch5 x).toList=(ch5 x).toList from rfl).trans (List.append_nil _).symm
attribute [local go_sem ↓] zaV zcu zaW zaz za1 zi8
attribute [local go_sem] zav zap zal zaI zaJ zae zaq zai zaw zao zas zan zaa zaj zaf zaA zax zak zag zar zaG zaC zaE
theorem zlp(p:Nat)(sv:Value)(l:List Rw)(fl cd ca id:Int)(name tn:ByteArray)(w0 w:World)(hm:MaxL w0)(hT:Tab w0)(hS:SHs w0 w p sv l fl cd ca)(hso:∀ b,sv.ownBlock=some b->b<w.heap.size)(hl:l.length<=1000)(hc0:0<=ca)(hc1:ca<=80000)(hcd:cd≠0∧cd≠6∨fl<=0)(hns:name.size<=1000)(hts:tn.size<=1000) :
  Calls Tryz.prog 126 #[.iface 31 (.pointer (some ⟨p,0,none⟩)),.int .i64 id,.string name,.string tn] w fun r w'=>ChR w0 w w' p sv l fl cd (zk7 l fl cd ca id name tn) r:=by
 have S:=lh hS;have G:=lh (World.grownBy.refl w (some p));have hz0:=hS.b.size;have hpl:=hS.pl;have hcd2:cd≠0∨fl<=0:=hcd.imp (fun h=>h.1) (fun h=>h);have hvv:=fun W (b:Below w0.heap.size w0 W)=>zbh tn W (hm.below b)
 have hi1:=fun W (b:Below w0.heap.size w0 W)=>zjo name W hns (hm.below b)
 have hi2:=fun W (b:Below w0.heap.size w0 W)=>zjo tn W hts (hm.below b)
 clear hS;unfold zk7;generalize Ds.name (Ds.bl tn)=bv at hvv ⊢;have HV:=lh hvv;clear hvv;cases bv
 rw[if_pos rfl];rotate_left;rw[if_neg (by simp)];have hget:=fun W (h:SHs w0 W p sv l fl cd ca)=>zdd p sv l fl cd ca id 0 name w0 W hm hT h hc0 (by omega) hcd2
 have hca:=zbJ l fl cd ca id 0 name;have hsh:=zf9 l fl cd ca id 0 name;generalize zbn l fl cd ca id 0 name=gg at hget hca hsh ⊢;obtain⟨⟨y,code⟩,cb⟩:=gg;dsimp only at hca hsh ⊢;have HGE:=lh hget;clear hget;by_cases h0:code=0
 rotate_left;rw[if_pos h0];have t1:(code != 0)=true:=by rw[bne_iff_ne];exact h0
 clear h0;rotate_right
 rw[if_neg (fun h=>h h0)];subst h0;generalize Ds.gen (Ds.bl name)=b1 at hi1 ⊢;generalize Ds.gen (Ds.bl tn)=b2 at hi2 ⊢;have HI1:=lh hi1;have HI2:=lh hi2;clear hi1 hi2;cases b1
 rotate_left;rw[if_pos (.inl rfl)];rotate_right
 cases b2
 rotate_left;rw[if_pos (.inr rfl)];rotate_right
 rw[if_neg (by simp)];have hfi:=fun W (h:SHs w0 W p sv l fl cd cb)=>zeX p sv l fl cd cb id tn w0 W hm hT h (by omega) (by omega) hcd
 have hcf:=zcY l fl cd cb id tn;generalize zbF l fl cd cb id tn=gf at hfi hcf ⊢;obtain⟨⟨yf,c2⟩,cc⟩:=gf;dsimp only at hcf ⊢;have HF:=lh hfi;clear hfi;by_cases h1:zhh c2=0
 rotate_left;rw[if_pos h1];have t1:(zhh c2 != 0)=true:=by rw[bne_iff_ne];exact h1
 clear h1;rotate_right
 rw[if_neg (fun h=>h h1)];have t2:(zhh c2 != 0)=false:=by rw[h1];rfl
 clear h1;have hal:=fun W (h:SHs w0 W p sv l fl cd cc) (ho:∀ b,sv.ownBlock=some b->b<W.heap.size)=>zep p sv l fl cd cc id name w0 W hm hT h ho hl (by omega) (by omega) hcd
 have hgo:=zgp l fl cd cc id name;have hle:=zgl l fl cd cc id name;generalize zfR l fl cd cc id name=ga at hal hgo hle ⊢;obtain⟨⟨s,c3⟩,ce⟩:=ga;dsimp only at hgo hle ⊢;have HAL:=lh hal;clear hal;by_cases h3:c3=0
 rotate_left;rw[if_pos h3];have t1:(c3 != 0)=true:=by rw[bne_iff_ne];exact h3
 clear h3;rotate_right
 rw[if_neg (fun h=>h h3)];subst h3;have hpu:∀ W (b:Below w0.heap.size w0 W) al gr (i1:IS W al y.2.1) (i2:GS W gr y.2.2),Calls Tryz.prog 188 #[.int .i64 id,.agg ((zid y tn).1.vals al gr)] W fun r w'=>r=.returned (.agg #[.int .i64 0,.int .i64 id,.string (zaT (zid y tn).1.kind (zid y tn).1.name),.string (zcF (zid y tn)),.string ⟨#[]⟩])∧Below W.heap.size W w':=fun W b al gr i1 i2=>zln id (zid y tn) al gr W (hm.below b) (hT.below b) hts i1 i2
 have her:∀ W al gr,zaM (y.1.vals al gr).toList=true->Calls Tryz.prog 191 #[.int .i64 id,.agg (y.1.vals al gr)] W fun r w'=>r=.returned (.agg #[.int .i64 1,.int .i64 id,.string (zaT y.1.kind y.1.name),.string ⟨#[]⟩,.string ⟨#[]⟩])∧Below W.heap.size W w':=fun W al gr h=>zjn id y al gr W h
 have HPU:=lh hpu;have HER:=lh her;clear hpu her
 unfold zql zbf zby;generalize zaT y.1.kind y.1.name=k1 at HER ⊢;generalize zaT (zid y tn).1.kind (zid y tn).1.name=k2 at HPU ⊢;generalize zcF (zid y tn)=r2 at HPU ⊢;rotate_left
 iterate 6
  focus
   go_enter Tryz.func126,Tryz.ntmps126
   go_wp2_with (first
    | (go_at_call 34;(with_reducible refine (HV.out _ S.out.b).mono ?_);rintro _ w1 ⟨rfl,hb⟩;have G:=lh (zbc G.out hb);have S:=lh (S.out.below hb);clear hb)
    | (go_at_call 35;(refine (HGE.out _ S.out).mono ?_);rintro _ w2 ⟨⟨al,gr,rfl,hI,hGs,hf1,hf2⟩,hs,hg⟩;clear HGE;obtain⟨hone,z2,zS,O1,O2,nb,zw,I0,J0,I,J,R,H,G,S⟩:=zfY S.out G.out hI hGs hf1 hf2 hs hg;clear hI hGs hf1 hf2 hs hg)
    | (go_at_call 192;(with_reducible refine (HI1.out _ S.out.b).mono ?_);rintro _ w3 ⟨rfl,hb⟩;clear HI1;have R:=zaB hb R (by rw[zaa];decide);have H:=H.below hb;have I:=lh (I.out.below hb);have J:=lh (J.out.below hb);have G:=lh (zbc G.out hb);have S:=lh (S.out.below hb);clear hb)
    | (go_at_call 192;(with_reducible refine (HI2.out _ S.out.b).mono ?_);rintro _ w3 ⟨rfl,hb⟩;clear HI2;have R:=zaB hb R (by rw[zaa];decide);have H:=H.below hb;have I:=lh (I.out.below hb);have J:=lh (J.out.below hb);have G:=lh (zbc G.out hb);have S:=lh (S.out.below hb);clear hb)
    | (go_at_call 39;(refine (HF.out _ S.out).mono ?_);rintro _ w4 ⟨⟨al2,gr2,rfl,hI2,hG2,-,-⟩,hs,hg⟩;have hone2:=zau yf.1 al2 gr2 (zaP hI2) (zaO hG2);have R:=za4 R (by rw[zaa];decide) hg nb;have H:=zbV H hg nb;have I:=lh (zbR I.out hg O1);have J:=lh (zbQ J.out hg O2);have G:=lh (zat G.out hg);have S:=lh hs;clear hI2 hG2 hs hg)
    | (go_at_call 184;(refine (zdR _ _).mono ?_);rintro _ _ ⟨rfl,rfl⟩)
    | (go_at_call 190;(refine (HAL.out _ S.out (fun b hb=>Nat.lt_of_lt_of_le (hso b hb) G.out.size)).mono ?_);rintro _ w5 ⟨hv,rws,rfl,hJ,hs,hg⟩;have zb:=H.lt;obtain⟨va,vc,rfl⟩:=za6 hJ.own;rw[List.length_map] at hJ;have HJL:=lh hJ;have R:=za4 R (by rw[zaa];decide) hg nb;have H:=zbV H hg nb;have I:=lh (zbR I.out hg O1);have J:=lh (zbQ J.out hg O2);have G:=lh (zat G.out hg);have S:=lh hs;clear hJ hs hg))
   go_ret2
   exact⟨_,rfl,zbe _,S.out,G.out⟩
 go_enter Tryz.func126,Tryz.ntmps126
 go_wp2_with (first|(go_at_call 34;(with_reducible refine (HV.out _ S.out.b).mono ?_);rintro _ w1 ⟨rfl,hb⟩;have G:=lh (zbc G.out hb);have S:=lh (S.out.below hb);clear hb)|(go_at_call 35;(refine (HGE.out _ S.out).mono ?_);rintro _ w2 ⟨⟨al,gr,rfl,hI,hGs,hf1,hf2⟩,hs,hg⟩;clear HGE;obtain⟨hone,z2,zS,O1,O2,nb,zw,I0,J0,I,J,R,H,G,S⟩:=zfY S.out G.out hI hGs hf1 hf2 hs hg;clear hI hGs hf1 hf2 hs hg)|(go_at_call 192;(with_reducible refine (HI1.out _ S.out.b).mono ?_);rintro _ w3 ⟨rfl,hb⟩;clear HI1;have R:=zaB hb R (by rw[zaa];decide);have H:=H.below hb;have I:=lh (I.out.below hb);have J:=lh (J.out.below hb);have G:=lh (zbc G.out hb);have S:=lh (S.out.below hb);clear hb)|(go_at_call 192;(with_reducible refine (HI2.out _ S.out.b).mono ?_);rintro _ w3 ⟨rfl,hb⟩;clear HI2;have R:=zaB hb R (by rw[zaa];decide);have H:=H.below hb;have I:=lh (I.out.below hb);have J:=lh (J.out.below hb);have G:=lh (zbc G.out hb);have S:=lh (S.out.below hb);clear hb)|(go_at_call 39;(refine (HF.out _ S.out).mono ?_);rintro _ w4 ⟨⟨al2,gr2,rfl,hI2,hG2,-,-⟩,hs,hg⟩;have hone2:=zau yf.1 al2 gr2 (zaP hI2) (zaO hG2);have R:=za4 R (by rw[zaa];decide) hg nb;have H:=zbV H hg nb;have I:=lh (zbR I.out hg O1);have J:=lh (zbQ J.out hg O2);have G:=lh (zat G.out hg);have S:=lh hs;clear hI2 hG2 hs hg)|(go_at_call 184;(refine (zdR _ _).mono ?_);rintro _ _ ⟨rfl,rfl⟩)|(go_at_call 190;(refine (HAL.out _ S.out (fun b hb=>Nat.lt_of_lt_of_le (hso b hb) G.out.size)).mono ?_);rintro _ w5 ⟨hv,rws,rfl,hJ,hs,hg⟩;have zb:=H.lt;obtain⟨va,vc,rfl⟩:=za6 hJ.own;rw[List.length_map] at hJ;have HJL:=lh hJ;have R:=za4 R (by rw[zaa];decide) hg nb;have H:=zbV H hg nb;have I:=lh (zbR I.out hg O1);have J:=lh (zbQ J.out hg O2);have G:=lh (zat G.out hg);have S:=lh hs;clear hJ hs hg)|(go_at_call 191;(refine (HER.out _ _ _ hone).mono ?_);rintro _ w6 ⟨rfl,hb⟩;have zb6:=hb.size;have HJL:=lh (HJL.out.below hb);have R:=zaB hb R (by rw[zaa];decide);have H:=H.below hb;have I:=lh (I.out.below hb);have J:=lh (J.out.below hb);have G:=lh (zbc G.out hb);have S:=lh (S.out.below hb);have zh6:=H.lt;have NA:=zah R 1 _ (zaE _ _ _);have FA:=H.2.2 1;have RS:row (w6.setCell ⟨w2.heap.size,1,none⟩ (.string tn)) w2.heap.size=(zid y tn).1.vals al gr:=((zfE _ _ 1 (.string tn) _ R (by rw[zaa];decide)).trans (znB _ _ _ _));have BAl:=zab (w6.setCell ⟨w2.heap.size,1,none⟩ (.string tn)) (.cells #[.int .i64 1,.int .i64 id,.string k1,.string ⟨#[]⟩,.string ⟨#[]⟩] 123);have R6:=zaB BAl RS (by rw[zaa];decide);have I6:=lh ((zrX (i:=1) (v:=.string tn) I0.out (Nat.le_refl _) I.out).below BAl);have J6:=lh ((zrL (i:=1) (v:=.string tn) J0.out (Nat.le_refl _) J.out).below BAl);have GB:=lh (zbc (zaH w6 ⟨w2.heap.size,1,none⟩ (.string tn)) BAl);have B6:=(S.out.other GB.out (fun e=>nb e.symm) (by show w0.heap.size<=w2.heap.size;omega) (fun b hb=>by have:=hso b hb;show b≠w2.heap.size;omega)).b;have OW0:=zsx (w6.setCell ⟨w2.heap.size,1,none⟩ (.string tn)) (1,id,k1,⟨#[]⟩,⟨#[]⟩) 123;rw[show (w6.setCell ⟨w2.heap.size,1,none⟩ (.string tn)).heap.size=w6.heap.size by simp] at OW0;have OW:=lh OW0;have z6:w6.heap.size<((w6.setCell ⟨w2.heap.size,1,none⟩ (.string tn)).alloc (.cells #[.int .i64 1,.int .i64 id,.string k1,.string ⟨#[]⟩,.string ⟨#[]⟩] 123)).heap.size:=(by simp);clear hb OW0 BAl)|(go_at_call 188;(refine (HPU.out _ B6 al gr I6.out J6.out).mono ?_);rintro _ w7 ⟨rfl,hb⟩;have OW:=lh (zaD OW.out (fun x hx=>hb.block x (zam OW.out x hx).2));have GB:=lh (zbc GB.out hb);have z7:=hb.size;clear hb)|(at_builtin;have OWQ:=zaD OW.out (fun x hx=>(zab w7 (.cells #[.int .i64 0,.int .i64 id,.string k2,.string r2,.string ⟨#[]⟩] 123)).block x (zam OW.out x hx).2);refine zca _ rfl (.tmp 63) (.tmp 67) 62 123 _ _ 5 64 rfl Tryz.underlying62 zrc ziy ziz ziA rfl (by decide) w6.heap.size (.slice (some ⟨w6.heap.size,0,none⟩) 1 1) (.slice (some ⟨w7.heap.size,0,none⟩) 1 1) 1 1 (cv [(1,id,k1,⟨#[]⟩,⟨#[]⟩)]) (cv [(0,id,k2,r2,⟨#[]⟩)]) rfl OWQ rfl (zfh w7 (0,id,k2,r2,⟨#[]⟩) _ _ rfl) (zeI _) (by unfold maxLen;omega) (by omega) (by simp;omega) ?_;intro a8 c8 w8 hown hg8 _;have OW8:=lh hown;have GB8:=lh (zay (zbc GB.out (zab w7 (.cells #[.int .i64 0,.int .i64 id,.string k2,.string r2,.string ⟨#[]⟩] 123))) (za2 hg8 (fun q hq=>(zam OWQ q hq).1) (by simp;omega)));clear hown hg8 OWQ))
 have OW8':w8.ownsRow w6.heap.size 123 5 (.slice a8 2 c8) 2 (cv ([(1,id,k1,⟨#[]⟩,⟨#[]⟩),(0,id,k2,r2,⟨#[]⟩)]++(s.take 0).map fun a=>(0,id,zaT (zda a tn).1.kind (zda a tn).1.name,zcF (zda a tn),⟨#[]⟩))):=OW8.out;have HOW:=lh OW8';clear OW8' OW8 OW R6 I6 J6 B6 NA FA RS;go_loopw [13,71] (fun v i wr=>∃ (k:Nat),k<=s.length∧i=.int .i64 k∧wr.ownsRow w6.heap.size 123 5 v (k+2) (cv ([(1,id,k1,⟨#[]⟩,⟨#[]⟩),(0,id,k2,r2,⟨#[]⟩)]++(s.take k).map fun a=>(0,id,zaT (zda a tn).1.kind (zda a tn).1.name,zcF (zda a tn),⟨#[]⟩)))∧w6.grownBy wr (some w2.heap.size)) (fun _ i _=>s.length - (intOf i).toNat)
 case atStart=>exact⟨0,Nat.zero_le _,rfl,HOW.out,GB8.out⟩
 case round =>
  obtain⟨k,hk,rfl,hown,hg⟩:=hrel;obtain⟨ra,rc,rfl⟩:=za6 hown;have HO:=lh hown;have HG:=lh hg;have zg:=hg.size;clear hown hg;by_cases hlt:k<s.length
  · have hJw:=HJL.out.keep zg (fun j hj hj2=>HG.out.block j hj2 (fun e=>by have:=Option.some.inj e;omega));obtain⟨va',vc',GG,hve,hES,hlst,-⟩:=hJw.es (by rw[List.length_map];omega);rw[List.length_map] at hve hES hlst;injection hve with v1 v2 v3
    subst v1 v3;clear v2;obtain⟨b,o,rfl,hb,a1,c1,a2,c2',hmid,-,-,-⟩:=hES.2 k hlt
    have hGk:GG k=zfV s[k]:=by
     have e1:(lst GG s.length)[k]?=(s.map zfV)[k]?:=by rw[hlst]
     unfold lst at e1;rw[List.getElem?_map,List.getElem?_range hlt,List.getElem?_map,List.getElem?_eq_getElem hlt] at e1;exact Option.some.inj e1
    obtain⟨g1,g2,g3⟩:=hgo s[k] (List.getElem_mem hlt);rw[hGk] at hmid;unfold zfV at hmid;rw[g1,g2] at hmid;simp only[List.length_nil] at hmid
    have htk:s.take (k+1)=s.take k++[s[k]]:=List.take_succ_eq_append_getElem hlt;generalize s[k]=q at g1 g2 g3 hmid htk;obtain⟨qe,ql,qg⟩:=q;simp only at g1 g2 g3 hmid
    subst g1 g2;have hone2:=zau qe (.slice a1 0 c1) (.slice a2 0 c2') rfl rfl;have hz33:(mid wr b (o+k*33)).size=33:=by rw[hmid];exact zaa _ _ _
    have j1:(0:Int)<=(k:Int):=by omega
    have j2:(k:Int)<(s.length:Int):=by omega
    have RQ:=zai wr (qe.vals (.slice a1 0 c1) (.slice a2 0 c2')) 40 (0,0);have NQ:=zah RQ 29 _ (zbb _ _ _);have FQ:=(zhG wr (qe.vals (.slice a1 0 c1) (.slice a2 0 c2')) 40 (zaa _ _ _)).2.2 29;obtain⟨qt,hqt⟩:∃ qt:En,zda (qe,[],[]) tn=(qt,[],[]):=⟨_,rfl⟩;have hqt1:({ qe with target:=tn }:En)=qt:=congrArg Prod.fst hqt;have hqv:(qe.vals (.slice a1 0 c1) (.slice a2 0 c2')).setIfInBounds 29 (.string tn)=qt.vals (.slice a1 0 c1) (.slice a2 0 c2'):=by rw[<-hqt1];exact zil _ _ _ _
    have hqs:qt.name.size<=1000:=by rw[<-hqt1];show qe.name.size<=1000;omega
    have hmap:((s.take (k+1)).map fun a=>((0,id,zaT (zda a tn).1.kind (zda a tn).1.name,zcF (zda a tn),⟨#[]⟩):Ch))=((s.take k).map fun a=>((0,id,zaT (zda a tn).1.kind (zda a tn).1.name,zcF (zda a tn),⟨#[]⟩):Ch))++[(0,id,zaT qt.kind qt.name,zcF (qt,[],[]),⟨#[]⟩)]:=by
     rw[htk,List.map_append,List.map_cons,List.map_nil,hqt]
    have hrow3:=fun W (b:Below w0.heap.size w0 W) (i1:IS W (.slice a1 0 c1) []) (i2:GS W (.slice a2 0 c2') [])=>zln id (qt,[],[]) (.slice a1 0 c1) (.slice a2 0 c2') W (hm.below b) (hT.below b) hqs i1 i2
    unfold zby ch5 at hrow3;dsimp only at hrow3;generalize zaT qt.kind qt.name=k3 at hrow3 hmap;generalize zcF (qt,[],[])=r3 at hrow3 hmap;have HP3:=lh hrow3;have HMP:=lh hmap;have oneq:=zau qt (.slice a1 0 c1) (.slice a2 0 c2') rfl rfl;have hBr:=lh (S.out.other HG.out (fun e=>nb e.symm) (by show w0.heap.size<=w2.heap.size;omega) (fun b hb=>by have:=hso b hb;show b≠w2.heap.size;omega)).b;clear hrow3 hmap hqt hqt1 hqs htk hES hlst hJw g3
    go_wp2_with (first
     | (go_at_call 188;(refine (HP3.out _ (bt hBr.out (zab wr _)) (zrW _ _ _) (zrK _ _ _)).mono ?_);rintro _ w9 ⟨rfl,hb⟩;have B9:=bt (zab wr (.cells (qt.vals (.slice a1 0 c1) (.slice a2 0 c2')) 40)) hb;have O9:=lh (zaD HO.out (fun x hx=>B9.block x (zam HO.out x hx).2));have G9:=lh (zbc HG.out B9);have z9:=B9.size;clear hb B9)
     | (at_builtin;have OQ:=zaD O9.out (fun x hx=>(zab w9 (.cells #[.int .i64 0,.int .i64 id,.string k3,.string r3,.string ⟨#[]⟩] 123)).block x (zam O9.out x hx).2);refine zca _ rfl (.tmp 77) (.tmp 81) 62 123 _ _ 5 64 rfl Tryz.underlying62 zrc ziy ziz ziA rfl (by decide) w6.heap.size (.slice ra (k+2) rc) (.slice (some ⟨w9.heap.size,0,none⟩) 1 1) (k+2) 1 _ (cv [(0,id,k3,r3,⟨#[]⟩)]) rfl OQ rfl (zfh w9 (0,id,k3,r3,⟨#[]⟩) _ _ rfl) (zeI _) (by unfold maxLen;omega) (by omega) (by simp;omega) ?_;intro aX cX wX hown hgX _;have OX:=lh hown;have GX:=lh (zay (zbc G9.out (zab w9 (.cells #[.int .i64 0,.int .i64 id,.string k3,.string r3,.string ⟨#[]⟩] 123))) (za2 hgX (fun q hq=>(zam OQ q hq).1) (by simp;omega)));clear hown hgX OQ))
    go_roundw
    case rel=>exact⟨k+1,by omega,by go_num,by rw[HMP.out,<-List.append_assoc,zf5];exact OX.out,GX.out⟩
    case measure=>simp [intOf];omega
  · obtain rfl:k=s.length:=by omega
    rw[List.take_of_length_le (Nat.le_refl _)] at HO;go_wp2_with fail
    go_ret2
    have hS6:=S.out.other HG.out (fun e=>nb e.symm) (by show w0.heap.size<=w2.heap.size;omega) (fun b hb=>by have:=hso b hb;show b≠w2.heap.size;omega);refine⟨.slice ra (s.length+2) rc,rfl,?_,hS6,zay G.out (zaU HG.out zw (Nat.le_trans zw (by omega)))⟩
    have hll:(([(1,id,k1,⟨#[]⟩,⟨#[]⟩),(0,id,k2,r2,⟨#[]⟩)]:List Ch)++s.map fun a=>((0,id,zaT (zda a tn).1.kind (zda a tn).1.name,zcF (zda a tn),⟨#[]⟩):Ch)).length=s.length+2:=by
     rw[List.length_append,List.length_map];show 2+s.length=s.length+2;omega
    have hc:=zcB (w:=wr) (v:=.slice ra (s.length+2) rc) (l:=([(1,id,k1,⟨#[]⟩,⟨#[]⟩),(0,id,k2,r2,⟨#[]⟩)]:List Ch)++s.map fun a=>(0,id,zaT (zda a tn).1.kind (zda a tn).1.name,zcF (zda a tn),⟨#[]⟩)) (by rw[hll];omega) (by rw[hll];exact zbq HO.out);exact hc
end
section
attribute [local go_sem] Oper.semAt_some
def zaZ(k:ByteArray):ByteArray:=⟨(Ek.trim ((Ds.bl k).drop 1)).toArray⟩
def zjK(group:ByteArray)(s:List Int)(k _r:ByteArray):Except Int (List Int) :=
 if (Ds.gen (Ds.bl (zaZ k))=true∧zeV (zaZ k)=group)∧k=zaT 0 (zaZ k) then .ok (s++[((Ds.splN (Ds.bl (zaZ k)):Nat):Int)]) else .ok s
def ziL(l:List Rw)(fl cd ca id:Int)(group:ByteArray):(List Int × Int) × Int :=
 match zbt l id fl cd 68 (zjK group) (l.length+1) ca [(68:UInt8) - 1,255] [] with
 | (.ok (s,code),c)=>(if code≠0 then ([],code) else (s,0),c)
 | (.error e,c)=>(([],e),c)
theorem zok(group:ByteArray)(s:List Int)(k r:ByteArray)(s':List Int)(h:zjK group s k r=.ok s'):s'.length<=s.length+1:=by
 unfold zjK at h;split at h
 · cases h;simp
 · cases h;omega
theorem zhp(k:ByteArray)(w:World)(h1:1<=k.size)(hs:k.size<=1000) :
  Calls Tryz.prog 109 #[.string k] w fun r w'=>r=.returned (.string (zaZ k))∧w'=w:=by
 have hb:Ds.bl (k.extract 1 k.size)=(Ds.bl k).drop 1:=by
  unfold Ds.bl;rw[ByteArray.data_extract,Array.toList_extract];simp [List.extract]
  exact List.take_of_length_le (by rw[List.length_tail,Array.length_toList];exact Nat.le_refl _)
 have htr:=zeG (k.extract 1 k.size) w (by rw[<-Ds.bl_length,hb,List.length_drop,Ds.bl_length];omega);rw[hb] at htr;have HT:=lh htr;have g1:(0:Int)<=1∧(1:Int)<=(k.size:Int):=by omega
 have g2:(1:Int)<=(k.size:Int):=by omega
 clear hb htr;go_enter Tryz.func109,Tryz.ntmps109
 go_wp2_with (go_at_call 30;(refine HT.out.mono ?_);rintro _ w2 ⟨t,rfl,ht,rfl⟩;have HT2:=lh ht;clear ht)
 go_ret
 exact⟨congrArg (fun t=>Ending.returned (Value.string t)) (Ds.bl_inj (HT2.out.trans (Ds.bl_mk _).symm)),rfl⟩
structure GnC (w0 w W:World) (h p:Nat) (sv:Value) (l:List Rw) (fl cd c id:Int) (name:ByteArray) (r:Rf) (st:LoopState) (pd:Option Code):Prop where
 sh:SHs w0 W p sv l fl cd c
 g:w.grownBy W (some p)
 ri:RI W (h+5) (h+3) (h+4) (h+6) (h+2) p 68 id
 n:W.cell? ⟨h,0,none⟩=some (.string name)
 b3:Bx W (h+1)
 up:Rup r st pd W
 z:h+9<=W.heap.size
theorem GnC.core{w0 w W W':World}{h p q:Nat}{sv:Value}{l:List Rw}{fl cd c c' id:Int}{name:ByteArray}{r:Rf}{st st':LoopState}{pd pd':Option Code}(hA:GnC w0 w W h p sv l fl cd c id name r st pd)(hk:∀ k,k<h+9->k≠q->W'.heap[k]?=W.heap[k]?)(hz:W.heap.size<=W'.heap.size)(hq:q≠h∧∀ i,2<=i->i<=6->q≠h+i)(hs:SHs w0 W' p sv l fl cd c')(hg:w.grownBy W' (some p))(hup:Rup r st' pd' W')(hb:Bx W' (h+1)) :
  GnC w0 w W' h p sv l fl cd c' id name r st' pd':=by
 have e:∀ i,2<=i->i<=6->W'.heap[h+i]?=W.heap[h+i]?:=fun i h1 h2=>hk _ (by omega) (fun e=>hq.2 i h1 h2 e.symm)
 obtain⟨r1,r2,r3,r4,r5,r6⟩:=hA.ri;have q:=fun i (h1:2<=i) (h2:i<=6)=>World.cell?_of_block (w:=W) (w':=W') (a:=⟨h+i,0,none⟩) (e i h1 h2)
 exact⟨hs,hg,⟨(q 5 (by omega) (by omega)).trans r1,(q 3 (by omega) (by omega)).trans r2,(q 4 (by omega) (by omega)).trans r3,(q 6 (by omega) (by omega)).trans r4,(q 2 (by omega) (by omega)).trans r5,(World.frozen?_of_block (a:=⟨h+2,0,none⟩) (e 2 (by omega) (by omega))).trans r6⟩,
  (World.cell?_of_block (a:=⟨h,0,none⟩) (hk h (by omega) (fun e=>hq.1 e.symm))).trans hA.n,hb,hup,Nat.le_trans hA.z hz⟩
theorem GnC.tick{w0 w W W':World}{h p:Nat}{sv:Value}{l:List Rw}{fl cd c c' id:Int}{name:ByteArray}{r:Rf}{st:LoopState}{pd:Option Code}(hA:GnC w0 w W h p sv l fl cd c id name r st pd)(hp:p<h)(hD:r.D=h+7)(hg:W.grownBy W' (some p))(hs:SHs w0 W' p sv l fl cd c') :
  GnC w0 w W' h p sv l fl cd c' id name r st pd:=by
 have hz:=hA.z;have e:∀ k,k<h+9->k≠p->W'.heap[k]?=W.heap[k]?:=fun k hk hn=>hg.block k (by omega) (fun e=>hn (Option.some.inj e))
 refine hA.core (q:=p) e hg.size ⟨by omega,fun i _ _=>by omega⟩ hs (zat hA.g hg) ⟨?_,?_⟩ (hA.b3.of (e _ (by omega) (by omega)))
 · rw[e _ (by omega) (by omega)];exact hA.up.lp
 · rw[e _ (by omega) (by omega)];exact hA.up.dfr
theorem GnC.bel{w0 w W W':World}{h p:Nat}{sv:Value}{l:List Rw}{fl cd c id:Int}{name:ByteArray}{r:Rf}{st:LoopState}{pd:Option Code}(hA:GnC w0 w W h p sv l fl cd c id name r st pd)(hp:p<h)(hh:w.heap.size=h)(hD:r.D=h+7)(hso:∀ b,sv.ownBlock=some b->b<h)(hb:Below (h+9) W W') :
  GnC w0 w W' h p sv l fl cd c id name r st pd:=by
 have e:=fun k hk=>hb.block k hk
 refine hA.core (q:=h+9) (fun k hk _=>e k hk) hb.size ⟨by omega,fun i _ _=>by omega⟩ (hA.sh.belowB hb (by omega) (fun _ b hq=>by have:=hso b hq;omega)) (zay hA.g (hb.mono (by omega))) ⟨?_,?_⟩ (hA.b3.of (e _ (by omega)))
 · rw[e _ (by omega)];exact hA.up.lp
 · rw[e _ (by omega)];exact hA.up.dfr
theorem GnC.turn{w0 w W W':World}{h p q:Nat}{sv:Value}{l:List Rw}{fl cd c id:Int}{name:ByteArray}{r:Rf}{st st':LoopState}{pd pd':Option Code}(hA:GnC w0 w W h p sv l fl cd c id name r st pd)(hp:p<h)(h0:w0.heap.size<=h)(hh:w.heap.size=h)(hso:∀ b,sv.ownBlock=some b->b<h)(hg:W.grownBy W' (some q))(hq:h<=q)(hq2:q≠h∧∀ i,2<=i->i<=6->q≠h+i)(hup:Rup r st' pd' W')(hb:Bx W' (h+1)) :
  GnC w0 w W' h p sv l fl cd c id name r st' pd':=by
 have hz:=hA.z;exact hA.core (q:=q) (fun k hk hn=>hg.block k (by omega) (fun e=>hn (Option.some.inj e))) hg.size hq2 (hA.sh.other hg (by omega) (by omega) (fun b hb=>by have:=hso b hb;omega)) (zay hA.g (zaU hg (by omega) (by omega))) hup hb
theorem GnC.put{w0 w W:World}{h p:Nat}{sv:Value}{l:List Rw}{fl cd c id:Int}{name:ByteArray}{r:Rf}{st st':LoopState}{pd pd':Option Code}(hA:GnC w0 w W h p sv l fl cd c id name r st pd)(hp:p<h)(h0:w0.heap.size<=h)(hh:w.heap.size=h)(hD:r.D=h+7)(hso:∀ b,sv.ownBlock=some b->b<h) :
  GnC w0 w (W.putObj (r.D+1) (r.loop st' pd')) h p sv l fl cd c id name r st' pd':=by
 have hz:=hA.z;have hg:=grownBy_putObj' W (r.D+1) (r.loop st' pd');have e:∀ k,k<h+8->(W.putObj (r.D+1) (r.loop st' pd')).heap[k]?=W.heap[k]?:=fun k hk=>hg.block k (by omega) (fun e=>by have:=Option.some.inj e;omega)
 exact hA.turn hp h0 hh hso hg (by omega) ⟨by omega,fun i _ _=>by omega⟩ hA.up.put (hA.b3.of (e _ (by omega)))
theorem GnC.set{w0 w W:World}{h p i:Nat}{sv v:Value}{l:List Rw}{fl cd c id:Int}{name:ByteArray}{r:Rf}{st:LoopState}{pd:Option Code}(hA:GnC w0 w W h p sv l fl cd c id name r st pd)(hp:p<h)(h0:w0.heap.size<=h)(hh:w.heap.size=h)(hD:r.D=h+7)(hso:∀ b,sv.ownBlock=some b->b<h)(hi:i=1) :
  GnC w0 w (W.setCell ⟨h+i,0,none⟩ v) h p sv l fl cd c id name r st pd:=by
 have hz:=hA.z;have hg:=zaH W ⟨h+i,0,none⟩ v;have e:∀ k,k<W.heap.size->k≠h+i->(W.setCell ⟨h+i,0,none⟩ v).heap[k]?=W.heap[k]?:=fun k hk hn=>hg.block k hk (fun e=>hn (Option.some.inj e))
 refine hA.turn hp h0 hh hso hg (by show h<=h+i;omega) ⟨by show h+i≠h;omega,fun j _ _=>by show h+i≠h+j;omega⟩ ⟨?_,?_⟩ hA.b3.set
 · rw[e _ (by omega) (by omega)];exact hA.up.lp
 · rw[e _ (by omega) (by omega)];exact hA.up.dfr
end
section
attribute [local go_sem] Oper.semAt_some
theorem ztX{w0 w W W':World}{h p:Nat}{sv:Value}{l:List Rw}{fl cd c:Int}(hs:SHs w0 W p sv l fl cd c)(hg:w.grownBy W (some p))(hp:p<h)(hh:w.heap.size=h)(hso:∀ b,sv.ownBlock=some b->b<h)(e:∀ k,(k<h∨h+9<=k)->W'.heap[k]?=W.heap[k]?)(hz:W.heap.size<=W'.heap.size)(ho:W'.os=W.os)(ht:W'.tape=W.tape)(hu:W'.output=W.output):SHs w0 W' p sv l fl cd c∧w.grownBy W' (some p):=by
 have hb:Below h W W':=⟨ho,ht,hu,hz,fun k hk=>e k (.inl hk)⟩;exact⟨hs.belowB hb hp (fun _ b hq=>hso b hq),zay hg (by rw[hh];exact hb)⟩
theorem zoo{a b c:World}{p:Option Nat}(h:a.grownBy b p)(k:Below b.heap.size b c):a.grownBy c p:=zay h (k.mono h.size)
def GnJ(w0 w:World)(h p:Nat)(sv:Value)(l:List Rw)(fl cd id:Int)(name:ByteArray)(r:Rf)(st:LoopState)(c:Int)(s:List Int)(W:World):Prop :=
 GnC w0 w W h p sv l fl cd c id name r st none∧∃ ov,W.cell? ⟨h+1,0,none⟩=some ov∧W.ownsRow (h+9) 3 1 ov s.length (iv s)
theorem GnJ.put{w0 w W:World}{h p:Nat}{sv:Value}{l:List Rw}{fl cd c id:Int}{name:ByteArray}{r:Rf}{st st':LoopState}{s:List Int}(hA:GnJ w0 w h p sv l fl cd id name r st c s W)(hp:p<h)(h0:w0.heap.size<=h)(hh:w.heap.size=h)(hD:r.D=h+7)(hso:∀ b,sv.ownBlock=some b->b<h) :
  GnJ w0 w h p sv l fl cd id name r st' c s (W.putObj (r.D+1) (r.loop st' none)):=by
 obtain⟨h1,ov,h2,h3⟩:=hA;exact⟨h1.put hp h0 hh hD hso,ov,(putc (by omega)).trans h2,zaD h3 (fun x hx=>World.putObj_heap_other (by have:=(zam h3 x hx).1;omega))⟩
def GnR(w0 w w':World)(p:Nat)(sv:Value)(l:List Rw)(fl cd:Int)(g:(List Int × Int) × Int)(r:Ending):Prop :=
 ∃ a c,r=.returned (.tuple #[.slice a g.1.1.length c,.int .i64 g.1.2])∧SHs w0 w' p sv l fl cd g.2∧w.grownBy w' (some p)
theorem zlu(w:World)(n:Int)(k:Nat)(hk:k=w.heap.size):CS (w.alloc (.cells #[.int .i64 n] 3)) 1 (.slice (some ⟨k,0,none⟩) 1 1) 1 (iv [n]):=by
 subst hk;exact⟨_,_,rfl,rfl,fun _=>⟨_,rfl,cell_one_new _ _ _⟩⟩
theorem zfW(p:Nat)(sv:Value)(l:List Rw)(fl cd ca id:Int)(name:ByteArray)(w0 w:World)(hm:MaxL w0)(_hT:Tab w0)(hS:SHs w0 w p sv l fl cd ca)(hso:∀ b,sv.ownBlock=some b->b<w.heap.size)(hl:l.length<=1000)(hkz:∀ x∈l,x.2.1.size<=1000)(hc0:0<=ca)(hc1:ca<=90000)(hcd:cd≠0∧cd≠6∨fl<=0) :
  Calls Tryz.prog 189 #[.iface 31 (.pointer (some ⟨p,0,none⟩)),.int .i64 id,.string name] w fun r w'=>GnR w0 w w' p sv l fl cd (ziL l fl cd ca id name) r:=by
 have hpl:=hS.pl;have hz0:=hS.b.size;have HS:=lh hS;clear hS;obtain⟨g,hg⟩:∃ g,ziL l fl cd ca id name=g:=⟨_,rfl⟩;rw[hg];refine (callsIn_wide (n:=4)).1 ?_
 refine callsIn_of_wp_marks Tryz.func189 rfl trivial ?_ rfl
 simp only[Tryz.ntmps189,List.size_toArray,List.length_cons,List.length_nil,Nat.reduceAdd,Nat.reduceSub,Array.replicate_succ,Array.replicate_zero,List.push_toArray,List.append_toArray,List.nil_append,List.cons_append]
 gi_wp2_with (refine⟨trivial,?_⟩;gi_at_call 108;refine (callsIn_wide.2 (zeq p id 68 _ _)).mono ?_;rintro _ _ ⟨rfl,rfl⟩)
 simp only[Nat.add_assoc,Nat.reduceAdd]
 generalize hW0:World.alloc _ _=W0;have hB0:Below w.heap.size w W0:=by rw[<-hW0];exact zbo
 have hsz:W0.heap.size=w.heap.size+7:=by rw[<-hW0];simp
 have k0:W0.cell? ⟨w.heap.size,0,none⟩=some (.string name):=by rw[<-hW0];simp [go_sem]
 have k1:W0.cell? ⟨w.heap.size+1,0,none⟩=some (.slice none 0 0):=by rw[<-hW0];simp [go_sem]
 have k2:W0.cell? ⟨w.heap.size+2,0,none⟩=some (.int .i64 0):=by rw[<-hW0];simp [go_sem]
 have k3:W0.cell? ⟨w.heap.size+3,0,none⟩=some (.iface 31 (.pointer (some ⟨p,0,none⟩))):=by rw[<-hW0];simp [go_sem]
 have k4:W0.cell? ⟨w.heap.size+4,0,none⟩=some (.int .i64 id):=by rw[<-hW0];simp [go_sem]
 have k5:W0.cell? ⟨w.heap.size+5,0,none⟩=some (.int .u8 68):=by rw[<-hW0];simp [go_sem]
 have k6:W0.cell? ⟨w.heap.size+6,0,none⟩=some (.pointer (some ⟨w.heap.size+2,0,none⟩)):=by rw[<-hW0];simp [go_sem]
 have f1:W0.frozen? ⟨w.heap.size+1,0,none⟩=false:=by rw[<-hW0];simp [go_sem]
 have f2:W0.frozen? ⟨w.heap.size+2,0,none⟩=false:=by rw[<-hW0];simp [go_sem]
 clear hW0;refine znc rfl (by omega) (gf:=167) rfl trivial (enters_of Tryz.func167 (by kernel_rfl) rfl) ?_
 intro r W _ e1 e2 e3 e4 hD hW hU;rw[hsz] at hD;have B1:Below W0.heap.size W0 W:=by rw[hW];exact below2' _ _ _
 have hW2:W.heap.size=w.heap.size+9:=by rw[hW];simp [hsz]
 clear hW;have q:∀ i,i<=6->W.heap[w.heap.size+i]?=W0.heap[w.heap.size+i]?:=fun i hi=>B1.block _ (by omega)
 have qc:∀ i,i<=6->W.cell? ⟨w.heap.size+i,0,none⟩=W0.cell? ⟨w.heap.size+i,0,none⟩:=fun i hi=>World.cell?_of_block (a:=⟨w.heap.size+i,0,none⟩) (q i hi)
 have qf:∀ i,i<=6->W.frozen? ⟨w.heap.size+i,0,none⟩=W0.frozen? ⟨w.heap.size+i,0,none⟩:=fun i hi=>World.frozen?_of_block (a:=⟨w.heap.size+i,0,none⟩) (q i hi)
 have hA:GnC w0 w W w.heap.size p sv l fl cd ca id name r .ready none:=by
  refine⟨(HS.out.below hB0).below B1,zad _ (hB0.trans (B1.mono (by omega))),⟨(qc 5 (by omega)).trans k5,(qc 3 (by omega)).trans k3,(qc 4 (by omega)).trans k4,(qc 6 (by omega)).trans k6,(qc 2 (by omega)).trans k2,(qf 2 (by omega)).trans f2⟩,(qc 0 (by omega)).trans k0,⟨⟨_,(qc 1 (by omega)).trans k1⟩,(qf 1 (by omega)).trans f1⟩,hU,by omega⟩
 have hov:=(qc 1 (by omega)).trans k1;clear B1 q qc qf k0 k1 k2 k3 k4 k5 k6 f1 f2 hU hB0;generalize hh:w.heap.size=h at *;simp only[List.append_toArray,List.cons_append,List.nil_append]
 unfold ziL at hg;generalize hR:zbt l id fl cd 68 (zjK name) (l.length+1) ca [(68:UInt8) - 1,255] []=R at hg;have hp0:w0.heap.size<=h:=hz0
 have HJT:∀ (c c':Int) (s:List Int) (W1 W':World),GnJ w0 w h p sv l fl cd id name r .ready c s W1->W1.grownBy W' (some p)->SHs w0 W' p sv l fl cd c'->GnJ w0 w h p sv l fl cd id name r .ready c' s W':=by
  rintro c c' s W1 W' ⟨h1,ov,h2,h3⟩ hg hs;have z:=h1.z;exact⟨h1.tick hpl hD hg hs,ov,(World.cell?_of_block (a:=⟨h+1,0,none⟩) (hg.block (h+1) (by omega) (fun e=>by have:=Option.some.inj e;omega))).trans h2,zaD h3 (fun x hx=>hg.block x (zam h3 x hx).2 (fun e=>by have:=Option.some.inj e;have:=(zam h3 x hx).1;omega))⟩
 have HY:∀ (c:Int) (s:List Int) (k rc:ByteArray) (W1:World),GnJ w0 w h p sv l fl cd id name r .ready c s W1->s.length<=([]:List Int).length+l.length->k.size<=1000->1<=k.size->YieldAt Fence.wide 2 Tryz.prog (r.D+1) #[.string k,.string rc] W1 fun e W'=>∃ s',zjK name s k rc=.ok s'∧e=.returned (.bool true)∧GnJ w0 w h p sv l fl cd id name r .ready c s' W':=by
  intro c s k rc W1 hJ1 hlen hk2 hk1;have hb:=hJ1.put (st':=.busy) hpl hp0 hh hD hso;refine (zg8 (r:=r) (J:=fun W2=>∃ s',zjK name s k rc=.ok s'∧GnJ w0 w h p sv l fl cd id name r .busy c s' W2) (Jx:=fun _ _=>False) trivial hJ1.1.up (by rw[e2];rfl) ?_).mono ?_
  rotate_left
  · rintro e W' (⟨rfl,w1,hu,⟨s',hs',h1⟩,rfl⟩|⟨rfl,cc,w1,hu,h1,rfl⟩)
    · exact⟨s',hs',rfl,h1.put hpl hp0 hh hD hso⟩
    · exact h1.elim
  change GnJ w0 w h p sv l fl cd id name r .busy c s (r.busy W1) at hb
  simp only[e1,e2,e3,e4]
  gi_wp2
  refine⟨hJ1.1.up,?_⟩
  generalize r.busy W1=Wb at hb ⊢;obtain⟨hAb,ov,co,hOb⟩:=hb;obtain⟨va,vc,rfl⟩:=za6 hOb
  have hnz:(zaZ k).size<=1000:=by
   rw[<-Ds.bl_length];unfold zaZ;rw[Ds.bl_mk];unfold Ek.trim;rw[List.length_take,List.length_drop,Ds.bl_length];omega
  have hsp:=fun W (b:Below w0.heap.size w0 W)=>zdW (zaZ k) W hnz (hm.below b)
  have hky:=fun W=>zd9 0 (zaZ k) W
  have hS:zjK name s k rc=if (Ds.gen (Ds.bl (zaZ k))=true∧zeV (zaZ k)=name)∧k=zaT 0 (zaZ k) then .ok (s++[((Ds.splN (Ds.bl (zaZ k)):Nat):Int)]) else .ok s:=rfl
  have esp:(⟨(Ds.splG (Ds.bl (zaZ k))).toArray⟩:ByteArray)=zeV (zaZ k):=rfl;rw[esp] at hsp;have hnm:=zhp k;generalize Ds.gen (Ds.bl (zaZ k))=bg at hsp hS;generalize zeV (zaZ k)=sg at hsp hS;generalize ((Ds.splN (Ds.bl (zaZ k)):Nat):Int)=sn at hsp hS;generalize zaT 0 (zaZ k)=kz at hky hS;generalize zaZ k=nz at hsp hky hnm;have HNM:=lh (fun W=>hnm W hk1 hk2);have HSP:=lh hsp;have HKY:=lh hky;have HA:=lh hAb;have OW:=lh hOb;have t2:=zei sg name;have t3:=zei k kz;have hle:s.length<=1000:=by simp only[List.length_nil] at hlen;omega
  clear hnz hsp hky hnm esp hJ1 hAb hOb hlen hk1 hk2;cases bg
  · rw[if_neg (fun k=>by cases k.1.1)] at hS;have HSS:=lh hS;clear hS t2 t3;gi_wp2_with (first|(refine⟨trivial,?_⟩;gi_at_call 109;refine (CallsIn.inRound _ (callsIn_wide.2 (HNM.out _))).mono ?_;rintro _ _ ⟨rfl,rfl⟩)|(refine⟨trivial,?_⟩;gi_at_call 84;refine (CallsIn.inRound _ (callsIn_wide.2 (HSP.out _ HA.out.sh.b))).mono ?_;rintro _ w3 ⟨rfl,hb⟩;have zz:=HA.out.z;have co:=((hb.mono zz).cell (p:=⟨h+1,0,none⟩) (by show h+1<h+9;omega)).trans co;have OW:=lh (zaD OW.out (fun x hx=>hb.block x (zam OW.out x hx).2));have HA:=lh (HA.out.bel hpl hh hD hso (hb.mono zz));have cn:=HA.out.n;have f3:=HA.out.b3.2;clear hb))
    refine⟨trivial,?_⟩
    gi_wp2
    exact⟨HA.out.up,s,HSS.out,HA.out,_,co,OW.out⟩
  by_cases es:sg=name
  rotate_left
  · rw[if_neg (fun k=>es k.1.2)] at hS;rw[decide_eq_false es] at t2;have HSS:=lh hS;clear hS t3 es;gi_wp2_with (first|(refine⟨trivial,?_⟩;gi_at_call 109;refine (CallsIn.inRound _ (callsIn_wide.2 (HNM.out _))).mono ?_;rintro _ _ ⟨rfl,rfl⟩)|(refine⟨trivial,?_⟩;gi_at_call 84;refine (CallsIn.inRound _ (callsIn_wide.2 (HSP.out _ HA.out.sh.b))).mono ?_;rintro _ w3 ⟨rfl,hb⟩;have zz:=HA.out.z;have co:=((hb.mono zz).cell (p:=⟨h+1,0,none⟩) (by show h+1<h+9;omega)).trans co;have OW:=lh (zaD OW.out (fun x hx=>hb.block x (zam OW.out x hx).2));have HA:=lh (HA.out.bel hpl hh hD hso (hb.mono zz));have cn:=HA.out.n;have f3:=HA.out.b3.2;clear hb))
    refine⟨trivial,?_⟩
    gi_wp2
    exact⟨HA.out.up,s,HSS.out,HA.out,_,co,OW.out⟩
  rw[decide_eq_true es] at t2;by_cases ek:k=kz
  rotate_left
  · rw[if_neg (fun k=>ek k.2)] at hS;rw[decide_eq_false ek] at t3;have HSS:=lh hS;clear hS es ek;gi_wp2_with (first|(refine⟨trivial,?_⟩;gi_at_call 109;refine (CallsIn.inRound _ (callsIn_wide.2 (HNM.out _))).mono ?_;rintro _ _ ⟨rfl,rfl⟩)|(refine⟨trivial,?_⟩;gi_at_call 84;refine (CallsIn.inRound _ (callsIn_wide.2 (HSP.out _ HA.out.sh.b))).mono ?_;rintro _ w3 ⟨rfl,hb⟩;have zz:=HA.out.z;have co:=((hb.mono zz).cell (p:=⟨h+1,0,none⟩) (by show h+1<h+9;omega)).trans co;have OW:=lh (zaD OW.out (fun x hx=>hb.block x (zam OW.out x hx).2));have HA:=lh (HA.out.bel hpl hh hD hso (hb.mono zz));have cn:=HA.out.n;have f3:=HA.out.b3.2;clear hb)|(refine⟨trivial,?_⟩;gi_at_call 70;refine (CallsIn.inRound _ (callsIn_wide.2 (HKY.out _))).mono ?_;rintro _ w4 ⟨rfl,hb⟩;have zz:=HA.out.z;have co:=((hb.mono zz).cell (p:=⟨h+1,0,none⟩) (by show h+1<h+9;omega)).trans co;have OW:=lh (zaD OW.out (fun x hx=>hb.block x (zam OW.out x hx).2));have HA:=lh (HA.out.bel hpl hh hD hso (hb.mono zz));have cn:=HA.out.n;have f3:=HA.out.b3.2;clear hb))
    exact⟨HA.out.up,s,HSS.out,HA.out,_,co,OW.out⟩
  rw[if_pos ⟨⟨rfl,es⟩,ek⟩] at hS;rw[decide_eq_true ek] at t3;have HSS:=lh hS;clear hS es ek;gi_wp2_with (first|(refine⟨trivial,?_⟩;gi_at_call 109;refine (CallsIn.inRound _ (callsIn_wide.2 (HNM.out _))).mono ?_;rintro _ _ ⟨rfl,rfl⟩)|(refine⟨trivial,?_⟩;gi_at_call 84;refine (CallsIn.inRound _ (callsIn_wide.2 (HSP.out _ HA.out.sh.b))).mono ?_;rintro _ w3 ⟨rfl,hb⟩;have zz:=HA.out.z;have co:=((hb.mono zz).cell (p:=⟨h+1,0,none⟩) (by show h+1<h+9;omega)).trans co;have OW:=lh (zaD OW.out (fun x hx=>hb.block x (zam OW.out x hx).2));have HA:=lh (HA.out.bel hpl hh hD hso (hb.mono zz));have cn:=HA.out.n;have f3:=HA.out.b3.2;clear hb)|(refine⟨trivial,?_⟩;gi_at_call 70;refine (CallsIn.inRound _ (callsIn_wide.2 (HKY.out _))).mono ?_;rintro _ w4 ⟨rfl,hb⟩;have zz:=HA.out.z;have co:=((hb.mono zz).cell (p:=⟨h+1,0,none⟩) (by show h+1<h+9;omega)).trans co;have OW:=lh (zaD OW.out (fun x hx=>hb.block x (zam OW.out x hx).2));have HA:=lh (HA.out.bel hpl hh hD hso (hb.mono zz));have cn:=HA.out.n;have f3:=HA.out.b3.2;clear hb)|(gi_at_builtin;have zA:=HA.out.z;have B45:=zab w4 (.cells #[.int .i64 sn] 3);have ow5:=zaD OW.out (fun x hx=>B45.block x (zam OW.out x hx).2);refine zfN _ rfl (.tmp 40) (.tmp 42) 27 3 _ _ 1 8 rfl Tryz.underlying27 zp0 zlX zlY zlZ rfl (by decide) (h+9) (.slice va s.length vc) (.slice (some ⟨w4.heap.size,0,none⟩) 1 1) s.length 1 (iv s) (iv [sn]) rfl ow5 rfl (zlu w4 sn _ rfl) (by decide) (zp6 _) (by unfold maxLen;omega) (by omega) (by simp at zA ⊢;omega) ?_;intro a5 c5 w5 hown hg5 hat;have B56:Below (h+9) (w4.alloc (.cells #[.int .i64 sn] 3)) w5:=za2 hg5 (fun q hq=>(zam ow5 q hq).1) (by simp at zA ⊢;omega);have A6:=(HA.out.bel hpl hh hD hso (B45.mono zA)).bel hpl hh hD hso B56;have HA6:=lh A6;have c6:=(B56.cell (p:=⟨h+1,0,none⟩) (by show h+1<h+9;omega)).trans ((B45.cell (p:=⟨h+1,0,none⟩) (by show h+1<_;omega)).trans co);have f6:=A6.b3.2;have OW6:=lh hown;clear A6 hown hg5 hat B45 B56 ow5))
  have A7:=(HA6.out.set (i:=1) (v:=.slice a5 (s.length+1) c5) hpl hp0 hh hD hso rfl);refine⟨A7.up,s++[sn],HSS.out,A7,.slice a5 (s.length+1) c5,World.cell?_setCell_same' _ _ _ (by rw[c6];rfl),?_⟩
  have ow6:=zaD OW6.out (fun x hx=>(zaH w5 ⟨h+1,0,none⟩ (.slice a5 (s.length+1) c5)).block x (zam OW6.out x hx).2 (fun e=>by have q1:=Option.some.inj e;have q2:=(zam OW6.out x hx).1;simp at q1;omega));rw[List.length_append];unfold iv at *;rw[List.map_append];exact ow6
 have HRS:=zi4 (ρ:=Int) (zjK name) List.length (zok name) (GnJ w0 w h p sv l fl cd id name r .ready) (fun _ _ _=>False) (r.D+1) p (h+5) (h+3) (h+4) (h+6) (h+2) sv l fl cd ca id 68 w0 W [] 3 2 (fun c s W' hj=>⟨hj.1.ri,hj.1.sh⟩) HJT (fun c s k rc W1 h1 h2 hm1 h3=>(HY c s k rc W1 h1 h2 (by obtain⟨i,hi⟩:=hm1;exact hkz _ hi) h3).mono fun e W' h=>by obtain⟨s',hst,h4⟩:=h;rw[hst];exact h4) (by decide) (by omega) rfl ⟨hA,_,hov,World.ownsRow_nil _ _ _ _⟩ hc0 (by omega) hl hcd;rw[hR] at HRS;refine HRS.mono ?_
 clear HRS HJT HY hov hA;rintro e W2 ⟨⟨v,rfl⟩,hout⟩;refine⟨⟨v,rfl⟩,?_⟩
 unfold zjg at hout;have hgc:∀ (pd:Option Code) (k:Nat),k≠h+8->(r.gone pd W2).heap[k]?=W2.heap[k]?:=fun pd k h2=>World.putObj_heap_other (by omega)
 obtain⟨R1,cR⟩:=R
 cases R1 with
 | error e=>exact hout.elim
 | ok sc =>
   obtain⟨s,code⟩:=sc;obtain⟨w1,⟨hA1,ov,ho,hO1⟩,hcode⟩:=hout;obtain⟨va,vc,rfl⟩:=za6 hO1;have z1:=hA1.z
   have F:SHs w0 W2 p sv l fl cd cR∧w.grownBy W2 (some p)∧W2.cell? ⟨h+1,0,none⟩=some (.slice va s.length vc)∧W2.cell? ⟨h+2,0,none⟩=some (.int .i64 code)∧Rup r .ready none W2∧h+9<=W2.heap.size:=by
    rcases hcode with ⟨rfl,rfl⟩|rfl
    · exact⟨hA1.sh,hA1.g,ho,hA1.ri.v,hA1.up,hA1.z⟩
    · have hg4:=zaH w1 ⟨h+2,0,none⟩ (.int .i64 code);have hb4:∀ k,k<w1.heap.size->k≠h+2->(w1.setCell ⟨h+2,0,none⟩ (.int .i64 code)).heap[k]?=w1.heap[k]?:=fun k h1 h2=>hg4.block k h1 (fun e=>h2 (Option.some.inj e))
      refine⟨hA1.sh.other hg4 (by show p≠h+2;omega) (by show _<=h+2;omega) (fun b hb=>by have:=hso b hb;show b≠h+2;omega),zay hA1.g (zaU hg4 (by show w.heap.size<=h+2;omega) (by omega)),(World.cell?_of_block (a:=⟨h+1,0,none⟩) (hb4 (h+1) (by omega) (by omega))).trans ho,World.cell?_setCell_same' _ _ _ (by rw[hA1.ri.v];rfl),⟨?_,?_⟩,by simpa using z1⟩
      · rw[hb4 _ (by omega) (by omega)];exact hA1.up.lp
      · rw[hb4 _ (by omega) (by omega)];exact hA1.up.dfr
   clear hcode ho hO1 hA1 z1;obtain⟨q1,q2,q5,q7,q8,q9⟩:=F;refine .inl ⟨q8,?_⟩
   have hK:(r.gone none W2).heap[h+7]?=some (.deferred (some [])):=(hgc _ _ (by omega)).trans (hD ▸ q8.dfr);have x3:=(World.cell?_of_block (a:=⟨h+1,0,none⟩) (hgc none (h+1) (by omega))).trans q5;have x4:=(World.cell?_of_block (a:=⟨h+2,0,none⟩) (hgc none (h+2) (by omega))).trans q7;have hF:=ztX (W':=(r.gone none W2).putObj (h+7) (.deferred none)) q1 q2 hpl hh hso (fun k hk=>(World.putObj_heap_other (by omega)).trans (hgc none k (by omega))) (by simp [Rf.gone]) rfl rfl rfl;generalize r.gone none W2=Wg at hK x3 x4 hF ⊢;clear hgc q1 q2 q5 q7 q8 q9;have HF1:=lh hF.1;have HF2:=lh hF.2;clear hF;by_cases hc:code=0
   · subst hc;replace hg:((s,0),cR)=g:=hg
     subst hg;gi_wp2
     refine⟨by simp,.inl ⟨_,_,rfl,run_takeDeferred hK,?_⟩⟩
     exact⟨_,results_tmp2 rfl _ _ _,va,vc,rfl,HF1.out,HF2.out⟩
   · have t1:(code != 0)=true:=bne_iff_ne.2 hc;replace hg:(if code≠0 then (([]:List Int),code) else (s,0),cR)=g:=hg
     rw[if_pos hc] at hg;subst hg;have hmx:Tryz.prog.follows .mixedOrders=true:=by kernel_rfl
     gi_wp2
     refine wpIn_region_quiet_lit rfl (by kernel_rfl) (by kernel_rfl) ?_
     repeat (gi_big_quiet_step (fail))
     refine wpQuietIn_nil ?_
     rintro _ ⟨nq,rfl⟩;gi_wp2
     have bd:Below (Wg.putObj (h+7) (.deferred none)).heap.size (Wg.putObj (h+7) (.deferred none)) ((Wg.drewN nq).putObj (h+7) (.deferred none)):=⟨rfl,rfl,rfl,Nat.le_refl _,fun _ _=>rfl⟩;refine⟨by simp,.inl ⟨_,_,rfl,run_takeDeferred (b:=h+7) hK,?_⟩⟩
     exact⟨_,results_tmp2 rfl _ _ _,none,0,rfl,HF1.out.below bd,zoo HF2.out bd⟩
end
section
def zsM(l:List Rw)(fl cd id kind:Int)(name:ByteArray)(x:Fu)(c:Int):(List Ch × Int) × Int :=
 if kind=0∨kind=1 then
  (if (zfR l fl cd c id name).1.2≠0 then (([],(zfR l fl cd c id name).1.2),(zfR l fl cd c id name).2)
  else (((zfR l fl cd c id name).1.1.map (zbf id)++[zbf id x],0),(zfR l fl cd c id name).2))
 else (([zbf id x],0),c)
def zo9(l:List Rw)(fl cd ca id kind:Int)(name:ByteArray):(List Ch × Int) × Int :=
 if (zbn l fl cd ca id kind name).1.2≠0 then (([],(zbn l fl cd ca id kind name).1.2),(zbn l fl cd ca id kind name).2)
 else if kind=1 then
  (if (ziL l fl cd (zbn l fl cd ca id kind name).2 id name).1.2≠0 then (([],(ziL l fl cd (zbn l fl cd ca id kind name).2 id name).1.2),(ziL l fl cd (zbn l fl cd ca id kind name).2 id name).2)
  else if (ziL l fl cd (zbn l fl cd ca id kind name).2 id name).1.1≠[] then (([],9),(ziL l fl cd (zbn l fl cd ca id kind name).2 id name).2)
  else zsM l fl cd id kind name (zbn l fl cd ca id kind name).1.1 (ziL l fl cd (zbn l fl cd ca id kind name).2 id name).2)
 else zsM l fl cd id kind name (zbn l fl cd ca id kind name).1.1 (zbn l fl cd ca id kind name).2
theorem zl0(l:List Rw)(fl cd ca id:Int)(name:ByteArray):ca<=(ziL l fl cd ca id name).2∧(ziL l fl cd ca id name).2<=ca+l.length+1:=by
 have h:=zc2 (step:=zjK name) (l:=l) (id:=id) (fl:=fl) (cd:=cd) (L:=68) (l.length+1) ca [(68:UInt8) - 1,255] [];unfold ziL
 cases hr:zbt l id fl cd 68 (zjK name) (l.length+1) ca [(68:UInt8) - 1,255] [] with
 | mk a c =>
   rw[hr] at h
   cases a with
   | error e=>dsimp only at h ⊢;omega
   | ok p=>dsimp only at h ⊢;omega
attribute [local go_sem ↓] zaV zcu zaW zaz za1 zi8
attribute [local go_sem] zav zap zal zaI zaJ zae zaq zai zaw zao zas zan zaa zaj zaf zaA zax zak zag zar zaG zaC zaE
theorem zlo(p:Nat)(sv:Value)(l:List Rw)(fl cd ca id kind:Int)(name:ByteArray)(w0 w:World)(hm:MaxL w0)(hT:Tab w0)(hS:SHs w0 w p sv l fl cd ca)(hso:∀ b,sv.ownBlock=some b->b<w.heap.size)(hl:l.length<=1000)(hkz:∀ x∈l,x.2.1.size<=1000)(hc0:0<=ca)(hc1:ca<=80000)(hcd:cd≠0∧cd≠6∨fl<=0) :
  Calls Tryz.prog 122 #[.iface 31 (.pointer (some ⟨p,0,none⟩)),.int .i64 id,.int .i64 kind,.string name] w fun r w'=>ChR w0 w w' p sv l fl cd (zo9 l fl cd ca id kind name) r:=by
 have S:=lh hS;have G:=lh (World.grownBy.refl w (some p));have hz0:=hS.b.size;have hpl:=hS.pl;have hcd2:cd≠0∨fl<=0:=hcd.imp (fun h=>h.1) (fun h=>h);clear hS;unfold zo9;have hget:=fun W (h:SHs w0 W p sv l fl cd ca)=>zdd p sv l fl cd ca id kind name w0 W hm hT h hc0 (by omega) hcd2
 have hca:=zbJ l fl cd ca id kind name;generalize zbn l fl cd ca id kind name=gg at hget hca ⊢;obtain⟨⟨y,code⟩,cb⟩:=gg;dsimp only at hca ⊢;have HGE:=lh hget;clear hget;by_cases h0:code=0
 rotate_left
 · rw[if_pos h0];have t1:(code != 0)=true:=by rw[bne_iff_ne];exact h0
   clear h0;go_enter Tryz.func122,Tryz.ntmps122
   go_wp2_with (first|(go_at_call 35;(refine (HGE.out _ S.out).mono ?_);rintro _ w2 ⟨⟨al,gr,rfl,hI,hGs,hf1,hf2⟩,hs,hg⟩;clear HGE;obtain⟨hone,z2,zS,O1,O2,nb,zw,I0,J0,I,J,R,H,G,S⟩:=zfY S.out G.out hI hGs hf1 hf2 hs hg;clear hI hGs hf1 hf2 hs hg))
   go_ret2
   exact⟨_,rfl,zbe _,S.out,G.out⟩
 rw[if_neg (fun h=>h h0)];subst h0;have her:∀ W (x:Fu) al gr,zaM (x.1.vals al gr).toList=true->Calls Tryz.prog 191 #[.int .i64 id,.agg (x.1.vals al gr)] W fun r w'=>r=.returned (.agg #[.int .i64 1,.int .i64 id,.string (zaT x.1.kind x.1.name),.string ⟨#[]⟩,.string ⟨#[]⟩])∧Below W.heap.size W w':=fun W x al gr h=>zjn id x al gr W h
 have HER:=lh her;clear her;by_cases hk:kind=0∨kind=1
 rotate_left
 · have k1:¬ kind=1:=fun h=>hk (.inr h)
   have k0:¬ kind=0:=fun h=>hk (.inl h)
   rw[if_neg k1];unfold zsM;rw[if_neg hk];have t2:(kind==1)=false:=beq_eq_false_iff_ne.2 k1;have t3:(kind==0)=false:=beq_eq_false_iff_ne.2 k0;clear hk k0 k1;unfold zbf;generalize hk1:zaT y.1.kind y.1.name=k1;have hee:=fun W al gr h=>HER.out W y al gr h
   rw[hk1] at hee;have HE:=lh hee;clear hee hk1 HER;go_enter Tryz.func122,Tryz.ntmps122
   go_wp2_with (first
    | (go_at_call 35;(refine (HGE.out _ S.out).mono ?_);rintro _ w2 ⟨⟨al,gr,rfl,hI,hGs,hf1,hf2⟩,hs,hg⟩;clear HGE;obtain⟨hone,z2,zS,O1,O2,nb,zw,I0,J0,I,J,R,H,G,S⟩:=zfY S.out G.out hI hGs hf1 hf2 hs hg;clear hI hGs hf1 hf2 hs hg)
    | (go_at_call 191;(refine (HE.out _ _ _ hone).mono ?_);rintro _ w6 ⟨rfl,hb⟩;have G:=lh (zbc G.out hb);have S:=lh (S.out.below hb);clear hb)
    | (at_builtin;have BQ:=zab w6 (.cells #[.int .i64 1,.int .i64 id,.string k1,.string ⟨#[]⟩,.string ⟨#[]⟩] 123);have zQ:w.heap.size<=(w6.alloc (.cells #[.int .i64 1,.int .i64 id,.string k1,.string ⟨#[]⟩,.string ⟨#[]⟩] 123)).heap.size:=(zbc G.out BQ).size;refine zca _ rfl (.tmp 74) (.tmp 78) 62 123 _ _ 5 64 rfl Tryz.underlying62 zrc ziy ziz ziA rfl (by decide) w.heap.size (.slice none 0 0) (.slice (some ⟨w6.heap.size,0,none⟩) 1 1) 0 1 (cv []) (cv [(1,id,k1,⟨#[]⟩,⟨#[]⟩)]) rfl (World.ownsRow_nil _ _ _ _) rfl (zfh w6 (1,id,k1,⟨#[]⟩,⟨#[]⟩) _ _ rfl) (zeI _) (by unfold maxLen;omega) (by omega) zQ ?_;intro a8 c8 w8 hown hg8 _;have B8:Below w.heap.size (w6.alloc (.cells #[.int .i64 1,.int .i64 id,.string k1,.string ⟨#[]⟩,.string ⟨#[]⟩] 123)) w8:=za2 hg8 (fun q hq=>by cases hq) zQ;have S8:=lh ((S.out.below BQ).belowB B8 hpl (fun _ b hb=>hso b hb));have G8:=lh (zay (zbc G.out BQ) B8);have OW8:=lh hown;clear hown hg8 B8 BQ zQ))
   go_ret2
   exact⟨.slice a8 (0+1) c8,rfl,zcB (l:=[(1,id,k1,⟨#[]⟩,⟨#[]⟩)]) (by simp) (zbq OW8.out),S8.out,G8.out⟩
 -- the branches that ask for the aliases
 by_cases k1:kind=1
 · rw[if_pos k1];have t2:(kind==1)=true:=beq_iff_eq.2 k1;have t4:(kind==0)=false:=by rw[k1];rfl
   have hgn:=fun W (h:SHs w0 W p sv l fl cd cb) (ho:∀ b,sv.ownBlock=some b->b<W.heap.size)=>zfW p sv l fl cd cb id name w0 W hm hT h ho hl hkz (by omega) (by omega) hcd
   have hgc:=zl0 l fl cd cb id name;generalize ziL l fl cd cb id name=gn at hgn hgc ⊢;obtain⟨⟨nl,nc⟩,cc⟩:=gn;dsimp only at hgc ⊢;have HGN:=lh hgn;clear hgn;by_cases hn:nc=0
   rotate_left
   · rw[if_pos hn];have t1:(nc != 0)=true:=by rw[bne_iff_ne];exact hn
     clear hn hk k1;go_enter Tryz.func122,Tryz.ntmps122
     go_wp2_with (first|(go_at_call 35;(refine (HGE.out _ S.out).mono ?_);rintro _ w2 ⟨⟨al,gr,rfl,hI,hGs,hf1,hf2⟩,hs,hg⟩;clear HGE;obtain⟨hone,z2,zS,O1,O2,nb,zw,I0,J0,I,J,R,H,G,S⟩:=zfY S.out G.out hI hGs hf1 hf2 hs hg;clear hI hGs hf1 hf2 hs hg)|(go_at_call 189;(refine (HGN.out _ S.out (fun b hb=>Nat.lt_of_lt_of_le (hso b hb) G.out.size)).mono ?_);rintro _ w4 ⟨na,ncc,rfl,hs,hg⟩;have R:=za4 R (by rw[zaa];decide) hg nb;have H:=zbV H hg nb;have I:=lh (zbR I.out hg O1);have J:=lh (zbQ J.out hg O2);have G:=lh (zat G.out hg);have S:=lh hs;clear hs hg))
     go_ret2
     exact⟨_,rfl,zbe _,S.out,G.out⟩
   rw[if_neg (fun h=>h hn)];subst hn;by_cases hz:nl=[]
   rotate_left
   · rw[if_pos hz];have t3:decide (0<(nl.length:Int))=true:=decide_eq_true (by cases nl with|nil=>exact absurd rfl hz|cons a t=>rw[List.length_cons];omega);have t5:0<nl.length:=List.length_pos_iff.2 hz;have t6:decide (0<nl.length)=true:=decide_eq_true t5;have t7:¬ nl=[]:=hz;clear hz hk k1;go_enter Tryz.func122,Tryz.ntmps122
     go_wp2_with (first|(go_at_call 35;(refine (HGE.out _ S.out).mono ?_);rintro _ w2 ⟨⟨al,gr,rfl,hI,hGs,hf1,hf2⟩,hs,hg⟩;clear HGE;obtain⟨hone,z2,zS,O1,O2,nb,zw,I0,J0,I,J,R,H,G,S⟩:=zfY S.out G.out hI hGs hf1 hf2 hs hg;clear hI hGs hf1 hf2 hs hg)|(go_at_call 189;(refine (HGN.out _ S.out (fun b hb=>Nat.lt_of_lt_of_le (hso b hb) G.out.size)).mono ?_);rintro _ w4 ⟨na,ncc,rfl,hs,hg⟩;have R:=za4 R (by rw[zaa];decide) hg nb;have H:=zbV H hg nb;have I:=lh (zbR I.out hg O1);have J:=lh (zbQ J.out hg O2);have G:=lh (zat G.out hg);have S:=lh hs;clear hs hg))
     go_ret2
     exact⟨_,rfl,zbe _,S.out,G.out⟩
   rw[if_neg (fun h=>h hz)];subst hz
   (unfold zsM;rw[if_pos hk];have hal:=fun W (h:SHs w0 W p sv l fl cd cc) (ho:∀ b,sv.ownBlock=some b->b<W.heap.size)=>zep p sv l fl cd cc id name w0 W hm hT h ho hl (by omega) (by omega) hcd;have hgo:=zgp l fl cd cc id name;have hle:=zgl l fl cd cc id name;generalize zfR l fl cd cc id name=ga at hal hgo hle ⊢;obtain⟨⟨s,c3⟩,ce⟩:=ga;dsimp only at hgo hle ⊢;have HAL:=lh hal;clear hal)
   by_cases h3:c3=0
   rotate_left
   · rw[if_pos h3];have t1:(c3 != 0)=true:=by rw[bne_iff_ne];exact h3
     clear h3 hk k1;go_enter Tryz.func122,Tryz.ntmps122
     go_wp2_with (first|(go_at_call 35;(refine (HGE.out _ S.out).mono ?_);rintro _ w2 ⟨⟨al,gr,rfl,hI,hGs,hf1,hf2⟩,hs,hg⟩;clear HGE;obtain⟨hone,z2,zS,O1,O2,nb,zw,I0,J0,I,J,R,H,G,S⟩:=zfY S.out G.out hI hGs hf1 hf2 hs hg;clear hI hGs hf1 hf2 hs hg)|(go_at_call 189;(refine (HGN.out _ S.out (fun b hb=>Nat.lt_of_lt_of_le (hso b hb) G.out.size)).mono ?_);rintro _ w4 ⟨na,ncc,rfl,hs,hg⟩;have R:=za4 R (by rw[zaa];decide) hg nb;have H:=zbV H hg nb;have I:=lh (zbR I.out hg O1);have J:=lh (zbQ J.out hg O2);have G:=lh (zat G.out hg);have S:=lh hs;clear hs hg)|(go_at_call 190;(refine (HAL.out _ S.out (fun b hb=>Nat.lt_of_lt_of_le (hso b hb) G.out.size)).mono ?_);rintro _ w5 ⟨hv,rws,rfl,hJ,hs,hg⟩;have zb:=H.lt;obtain⟨va,vc,rfl⟩:=za6 hJ.own;rw[List.length_map] at hJ;have HJL:=lh hJ;have R:=za4 R (by rw[zaa];decide) hg nb;have H:=zbV H hg nb;have I:=lh (zbR I.out hg O1);have J:=lh (zbQ J.out hg O2);have G:=lh (zat G.out hg);have S:=lh hs;clear hJ hs hg))
     go_ret2
     exact⟨_,rfl,zbe _,S.out,G.out⟩
   rw[if_neg (fun h=>h h3)];subst h3;clear hk k1;go_enter Tryz.func122,Tryz.ntmps122
   go_wp2_with (first|(go_at_call 35;(refine (HGE.out _ S.out).mono ?_);rintro _ w2 ⟨⟨al,gr,rfl,hI,hGs,hf1,hf2⟩,hs,hg⟩;clear HGE;obtain⟨hone,z2,zS,O1,O2,nb,zw,I0,J0,I,J,R,H,G,S⟩:=zfY S.out G.out hI hGs hf1 hf2 hs hg;clear hI hGs hf1 hf2 hs hg)|(go_at_call 189;(refine (HGN.out _ S.out (fun b hb=>Nat.lt_of_lt_of_le (hso b hb) G.out.size)).mono ?_);rintro _ w4 ⟨na,ncc,rfl,hs,hg⟩;have R:=za4 R (by rw[zaa];decide) hg nb;have H:=zbV H hg nb;have I:=lh (zbR I.out hg O1);have J:=lh (zbQ J.out hg O2);have G:=lh (zat G.out hg);have S:=lh hs;clear hs hg)|(go_at_call 190;(refine (HAL.out _ S.out (fun b hb=>Nat.lt_of_lt_of_le (hso b hb) G.out.size)).mono ?_);rintro _ w5 ⟨hv,rws,rfl,hJ,hs,hg⟩;have zb:=H.lt;obtain⟨va,vc,rfl⟩:=za6 hJ.own;rw[List.length_map] at hJ;have HJL:=lh hJ;have R:=za4 R (by rw[zaa];decide) hg nb;have H:=zbV H hg nb;have I:=lh (zbR I.out hg O1);have J:=lh (zbQ J.out hg O2);have G:=lh (zat G.out hg);have S:=lh hs;clear hJ hs hg))
   go_loopw [14,63] (fun v i wr=>∃ (k:Nat),k<=s.length∧i=.int .i64 k∧wr.ownsRow w5.heap.size 123 5 v k (cv ((s.take k).map (zbf id)))∧Below w5.heap.size w5 wr) (fun _ i _=>s.length - (intOf i).toNat)
   case atStart=>exact⟨0,Nat.zero_le _,rfl,World.ownsRow_nil _ _ _ _,Below.refl _ _⟩
   case round =>
    obtain⟨k,hk,rfl,hown,hB⟩:=hrel;obtain⟨ra,rc,rfl⟩:=za6 hown;have HO:=lh hown;have HB:=lh hB;have zg:=hB.size;clear hown hB;by_cases hlt:k<s.length
    · obtain⟨va',vc',GG,hve,hES,hlst,-⟩:=(HJL.out.below HB.out).es (by rw[List.length_map];omega);rw[List.length_map] at hve hES hlst;injection hve with v1 v2 v3
      subst v1 v3;clear v2;obtain⟨b,o,rfl,hb,a1,c1,a2,c2',hmid,-,-,-⟩:=hES.2 k hlt
      have hGk:GG k=zfV s[k]:=by
       have e1:(lst GG s.length)[k]?=(s.map zfV)[k]?:=by rw[hlst]
       unfold lst at e1;rw[List.getElem?_map,List.getElem?_range hlt,List.getElem?_map,List.getElem?_eq_getElem hlt] at e1;exact Option.some.inj e1
      rw[hGk] at hmid;have htk:s.take (k+1)=s.take k++[s[k]]:=List.take_succ_eq_append_getElem hlt;generalize s[k]=q at hmid htk;have hmid':mid wr b (o+k*33)=q.1.vals (.slice a1 q.2.1.length c1) (.slice a2 q.2.2.length c2'):=hmid;have hone2:=zau q.1 (.slice a1 q.2.1.length c1) (.slice a2 q.2.2.length c2') rfl rfl;have hz33:(mid wr b (o+k*33)).size=33:=by rw[hmid'];exact zaa _ _ _
      have j1:(0:Int)<=(k:Int):=by omega
      have j2:(k:Int)<(s.length:Int):=by omega
      have hmap:((s.take (k+1)).map (zbf id))=((s.take k).map (zbf id))++[(1,id,zaT q.1.kind q.1.name,⟨#[]⟩,⟨#[]⟩)]:=by rw[htk,List.map_append];rfl
      have he3:=fun W=>HER.out W q (.slice a1 q.2.1.length c1) (.slice a2 q.2.2.length c2') hone2
      generalize zaT q.1.kind q.1.name=k3 at hmap he3;have HE3:=lh he3;have HMP:=lh hmap;clear he3 hmap htk hmid hGk hES hlst
      go_wp2_with (first
       | (go_at_call 191;(refine (HE3.out _).mono ?_);rintro _ w9 ⟨rfl,hb⟩;have B9:=bt (zab wr (.cells (q.1.vals (.slice a1 q.2.1.length c1) (.slice a2 q.2.2.length c2')) 40)) hb;have O9:=lh (zaD HO.out (fun x hx=>B9.block x (zam HO.out x hx).2));have G9:=lh (Below.trans HB.out (B9.mono zg));have z9:=B9.size;clear hb B9)
       | (at_builtin;have B10:=zab w9 (.cells #[.int .i64 1,.int .i64 id,.string k3,.string ⟨#[]⟩,.string ⟨#[]⟩] 123);have OQ:=zaD O9.out (fun x hx=>B10.block x (zam O9.out x hx).2);refine zca _ rfl (.tmp 67) (.tmp 71) 62 123 _ _ 5 64 rfl Tryz.underlying62 zrc ziy ziz ziA rfl (by decide) w5.heap.size (.slice ra k rc) (.slice (some ⟨w9.heap.size,0,none⟩) 1 1) k 1 _ (cv [(1,id,k3,⟨#[]⟩,⟨#[]⟩)]) rfl OQ rfl (zfh w9 (1,id,k3,⟨#[]⟩,⟨#[]⟩) _ _ rfl) (zeI _) (by unfold maxLen;omega) (by omega) (by simp;omega) ?_;intro aX cX wX hown hgX _;have OX:=lh hown;have GX:=lh ((Below.trans G9.out (B10.mono (by omega))).trans (za2 hgX (fun q hq=>(zam OQ q hq).1) (by simp;omega)));clear hown hgX OQ B10))
      go_roundw
      case rel=>exact⟨k+1,by omega,by go_num,by rw[HMP.out,zf5];exact OX.out,GX.out⟩
      case measure=>simp [intOf];omega
    · obtain rfl:k=s.length:=by omega
      rw[List.take_of_length_le (Nat.le_refl _)] at HO;have RE:=zaB HB.out R (by rw[zaa];decide);have SE:=lh (S.out.below HB.out);have GE:=lh (zbc G.out HB.out);have he1:=fun W al gr h=>HER.out W y al gr h
      generalize hk1:zaT y.1.kind y.1.name=k1 at he1;have HE:=lh he1;have HK1:=lh hk1;have zw5:=G.out.size;clear he1 hk1
      go_wp2_with (first
       | (go_at_call 191;(refine (HE.out _ _ _ hone).mono ?_);rintro _ w6 ⟨rfl,hb⟩;have SE:=lh (SE.out.below hb);have GE:=lh (zbc GE.out hb);have O6:=lh (zaD HO.out (fun x hx=>hb.block x (zam HO.out x hx).2));have z6:=hb.size;clear hb)
       | (at_builtin;have BQ:=zab w6 (.cells #[.int .i64 1,.int .i64 id,.string k1,.string ⟨#[]⟩,.string ⟨#[]⟩] 123);have OQ:=zaD O6.out (fun x hx=>BQ.block x (zam O6.out x hx).2);refine zca _ rfl (.tmp 74) (.tmp 78) 62 123 _ _ 5 64 rfl Tryz.underlying62 zrc ziy ziz ziA rfl (by decide) w5.heap.size (.slice ra s.length rc) (.slice (some ⟨w6.heap.size,0,none⟩) 1 1) s.length 1 (cv (s.map (zbf id))) (cv [(1,id,k1,⟨#[]⟩,⟨#[]⟩)]) rfl OQ rfl (zfh w6 (1,id,k1,⟨#[]⟩,⟨#[]⟩) _ _ rfl) (zeI _) (by unfold maxLen;omega) (by omega) (by simp;omega) ?_;intro a8 c8 w8 hown hg8 _;have B8:Below w.heap.size (w6.alloc (.cells #[.int .i64 1,.int .i64 id,.string k1,.string ⟨#[]⟩,.string ⟨#[]⟩] 123)) w8:=za2 hg8 (fun q hq=>Nat.le_trans zw5 (zam OQ q hq).1) (by simp;omega);have S8:=lh ((SE.out.below BQ).belowB B8 hpl (fun _ b hb=>hso b hb));have G8:=lh (zay (zbc GE.out BQ) B8);have OW8:=lh hown;clear hown hg8 B8 BQ OQ))
      go_ret2
      refine⟨.slice a8 (s.length+1) c8,rfl,?_,S8.out,G8.out⟩
      have hll:((s.map (zbf id))++[((1,id,k1,⟨#[]⟩,⟨#[]⟩):Ch)]).length=s.length+1:=by rw[List.length_append,List.length_map];rfl
      have hc:=zcB (w:=w8) (v:=.slice a8 (s.length+1) c8) (l:=(s.map (zbf id))++[((1,id,k1,⟨#[]⟩,⟨#[]⟩):Ch)]) (by rw[hll];omega) (by rw[hll,zf5];exact zbq OW8.out);rw[<-HK1.out] at hc;exact hc
 · rw[if_neg k1];have k0:kind=0:=hk.resolve_right k1;have t2:(kind==1)=false:=beq_eq_false_iff_ne.2 k1;have t4:(kind==0)=true:=beq_iff_eq.2 k0
   (unfold zsM;rw[if_pos hk];have hal:=fun W (h:SHs w0 W p sv l fl cd cb) (ho:∀ b,sv.ownBlock=some b->b<W.heap.size)=>zep p sv l fl cd cb id name w0 W hm hT h ho hl (by omega) (by omega) hcd;have hgo:=zgp l fl cd cb id name;have hle:=zgl l fl cd cb id name;generalize zfR l fl cd cb id name=ga at hal hgo hle ⊢;obtain⟨⟨s,c3⟩,ce⟩:=ga;dsimp only at hgo hle ⊢;have HAL:=lh hal;clear hal)
   by_cases h3:c3=0
   rotate_left;rw[if_pos h3];have t1:(c3 != 0)=true:=by rw[bne_iff_ne];exact h3
   clear h3 hk k1 k0;rotate_right
   rw[if_neg (fun h=>h h3)];subst h3;clear hk k1 k0;rotate_left
   iterate 1
    focus
     go_enter Tryz.func122,Tryz.ntmps122
     go_wp2_with (first
      | (go_at_call 35;(refine (HGE.out _ S.out).mono ?_);rintro _ w2 ⟨⟨al,gr,rfl,hI,hGs,hf1,hf2⟩,hs,hg⟩;clear HGE;obtain⟨hone,z2,zS,O1,O2,nb,zw,I0,J0,I,J,R,H,G,S⟩:=zfY S.out G.out hI hGs hf1 hf2 hs hg;clear hI hGs hf1 hf2 hs hg)
      | (go_at_call 190;(refine (HAL.out _ S.out (fun b hb=>Nat.lt_of_lt_of_le (hso b hb) G.out.size)).mono ?_);rintro _ w5 ⟨hv,rws,rfl,hJ,hs,hg⟩;have zb:=H.lt;obtain⟨va,vc,rfl⟩:=za6 hJ.own;rw[List.length_map] at hJ;have HJL:=lh hJ;have R:=za4 R (by rw[zaa];decide) hg nb;have H:=zbV H hg nb;have I:=lh (zbR I.out hg O1);have J:=lh (zbQ J.out hg O2);have G:=lh (zat G.out hg);have S:=lh hs;clear hJ hs hg))
     go_ret2
     exact⟨_,rfl,zbe _,S.out,G.out⟩
   go_enter Tryz.func122,Tryz.ntmps122
   go_wp2_with (first|(go_at_call 35;(refine (HGE.out _ S.out).mono ?_);rintro _ w2 ⟨⟨al,gr,rfl,hI,hGs,hf1,hf2⟩,hs,hg⟩;clear HGE;obtain⟨hone,z2,zS,O1,O2,nb,zw,I0,J0,I,J,R,H,G,S⟩:=zfY S.out G.out hI hGs hf1 hf2 hs hg;clear hI hGs hf1 hf2 hs hg)|(go_at_call 190;(refine (HAL.out _ S.out (fun b hb=>Nat.lt_of_lt_of_le (hso b hb) G.out.size)).mono ?_);rintro _ w5 ⟨hv,rws,rfl,hJ,hs,hg⟩;have zb:=H.lt;obtain⟨va,vc,rfl⟩:=za6 hJ.own;rw[List.length_map] at hJ;have HJL:=lh hJ;have R:=za4 R (by rw[zaa];decide) hg nb;have H:=zbV H hg nb;have I:=lh (zbR I.out hg O1);have J:=lh (zbQ J.out hg O2);have G:=lh (zat G.out hg);have S:=lh hs;clear hJ hs hg))
   go_loopw [14,63] (fun v i wr=>∃ (k:Nat),k<=s.length∧i=.int .i64 k∧wr.ownsRow w5.heap.size 123 5 v k (cv ((s.take k).map (zbf id)))∧Below w5.heap.size w5 wr) (fun _ i _=>s.length - (intOf i).toNat)
   case atStart=>exact⟨0,Nat.zero_le _,rfl,World.ownsRow_nil _ _ _ _,Below.refl _ _⟩
   case round =>
    obtain⟨k,hk,rfl,hown,hB⟩:=hrel;obtain⟨ra,rc,rfl⟩:=za6 hown;have HO:=lh hown;have HB:=lh hB;have zg:=hB.size;clear hown hB;by_cases hlt:k<s.length
    · obtain⟨va',vc',GG,hve,hES,hlst,-⟩:=(HJL.out.below HB.out).es (by rw[List.length_map];omega);rw[List.length_map] at hve hES hlst;injection hve with v1 v2 v3
      subst v1 v3;clear v2;obtain⟨b,o,rfl,hb,a1,c1,a2,c2',hmid,-,-,-⟩:=hES.2 k hlt
      have hGk:GG k=zfV s[k]:=by
       have e1:(lst GG s.length)[k]?=(s.map zfV)[k]?:=by rw[hlst]
       unfold lst at e1;rw[List.getElem?_map,List.getElem?_range hlt,List.getElem?_map,List.getElem?_eq_getElem hlt] at e1;exact Option.some.inj e1
      rw[hGk] at hmid;have htk:s.take (k+1)=s.take k++[s[k]]:=List.take_succ_eq_append_getElem hlt;generalize s[k]=q at hmid htk;have hmid':mid wr b (o+k*33)=q.1.vals (.slice a1 q.2.1.length c1) (.slice a2 q.2.2.length c2'):=hmid;have hone2:=zau q.1 (.slice a1 q.2.1.length c1) (.slice a2 q.2.2.length c2') rfl rfl;have hz33:(mid wr b (o+k*33)).size=33:=by rw[hmid'];exact zaa _ _ _
      have j1:(0:Int)<=(k:Int):=by omega
      have j2:(k:Int)<(s.length:Int):=by omega
      have hmap:((s.take (k+1)).map (zbf id))=((s.take k).map (zbf id))++[(1,id,zaT q.1.kind q.1.name,⟨#[]⟩,⟨#[]⟩)]:=by rw[htk,List.map_append];rfl
      have he3:=fun W=>HER.out W q (.slice a1 q.2.1.length c1) (.slice a2 q.2.2.length c2') hone2
      generalize zaT q.1.kind q.1.name=k3 at hmap he3;have HE3:=lh he3;have HMP:=lh hmap;clear he3 hmap htk hmid hGk hES hlst
      go_wp2_with (first
       | (go_at_call 191;(refine (HE3.out _).mono ?_);rintro _ w9 ⟨rfl,hb⟩;have B9:=bt (zab wr (.cells (q.1.vals (.slice a1 q.2.1.length c1) (.slice a2 q.2.2.length c2')) 40)) hb;have O9:=lh (zaD HO.out (fun x hx=>B9.block x (zam HO.out x hx).2));have G9:=lh (Below.trans HB.out (B9.mono zg));have z9:=B9.size;clear hb B9)
       | (at_builtin;have B10:=zab w9 (.cells #[.int .i64 1,.int .i64 id,.string k3,.string ⟨#[]⟩,.string ⟨#[]⟩] 123);have OQ:=zaD O9.out (fun x hx=>B10.block x (zam O9.out x hx).2);refine zca _ rfl (.tmp 67) (.tmp 71) 62 123 _ _ 5 64 rfl Tryz.underlying62 zrc ziy ziz ziA rfl (by decide) w5.heap.size (.slice ra k rc) (.slice (some ⟨w9.heap.size,0,none⟩) 1 1) k 1 _ (cv [(1,id,k3,⟨#[]⟩,⟨#[]⟩)]) rfl OQ rfl (zfh w9 (1,id,k3,⟨#[]⟩,⟨#[]⟩) _ _ rfl) (zeI _) (by unfold maxLen;omega) (by omega) (by simp;omega) ?_;intro aX cX wX hown hgX _;have OX:=lh hown;have GX:=lh ((Below.trans G9.out (B10.mono (by omega))).trans (za2 hgX (fun q hq=>(zam OQ q hq).1) (by simp;omega)));clear hown hgX OQ B10))
      go_roundw
      case rel=>exact⟨k+1,by omega,by go_num,by rw[HMP.out,zf5];exact OX.out,GX.out⟩
      case measure=>simp [intOf];omega
    · obtain rfl:k=s.length:=by omega
      rw[List.take_of_length_le (Nat.le_refl _)] at HO;have RE:=zaB HB.out R (by rw[zaa];decide);have SE:=lh (S.out.below HB.out);have GE:=lh (zbc G.out HB.out);have he1:=fun W al gr h=>HER.out W y al gr h
      generalize hk1:zaT y.1.kind y.1.name=k1 at he1;have HE:=lh he1;have HK1:=lh hk1;have zw5:=G.out.size;clear he1 hk1
      go_wp2_with (first
       | (go_at_call 191;(refine (HE.out _ _ _ hone).mono ?_);rintro _ w6 ⟨rfl,hb⟩;have SE:=lh (SE.out.below hb);have GE:=lh (zbc GE.out hb);have O6:=lh (zaD HO.out (fun x hx=>hb.block x (zam HO.out x hx).2));have z6:=hb.size;clear hb)
       | (at_builtin;have BQ:=zab w6 (.cells #[.int .i64 1,.int .i64 id,.string k1,.string ⟨#[]⟩,.string ⟨#[]⟩] 123);have OQ:=zaD O6.out (fun x hx=>BQ.block x (zam O6.out x hx).2);refine zca _ rfl (.tmp 74) (.tmp 78) 62 123 _ _ 5 64 rfl Tryz.underlying62 zrc ziy ziz ziA rfl (by decide) w5.heap.size (.slice ra s.length rc) (.slice (some ⟨w6.heap.size,0,none⟩) 1 1) s.length 1 (cv (s.map (zbf id))) (cv [(1,id,k1,⟨#[]⟩,⟨#[]⟩)]) rfl OQ rfl (zfh w6 (1,id,k1,⟨#[]⟩,⟨#[]⟩) _ _ rfl) (zeI _) (by unfold maxLen;omega) (by omega) (by simp;omega) ?_;intro a8 c8 w8 hown hg8 _;have B8:Below w.heap.size (w6.alloc (.cells #[.int .i64 1,.int .i64 id,.string k1,.string ⟨#[]⟩,.string ⟨#[]⟩] 123)) w8:=za2 hg8 (fun q hq=>Nat.le_trans zw5 (zam OQ q hq).1) (by simp;omega);have S8:=lh ((SE.out.below BQ).belowB B8 hpl (fun _ b hb=>hso b hb));have G8:=lh (zay (zbc GE.out BQ) B8);have OW8:=lh hown;clear hown hg8 B8 BQ OQ))
      go_ret2
      refine⟨.slice a8 (s.length+1) c8,rfl,?_,S8.out,G8.out⟩
      have hll:((s.map (zbf id))++[((1,id,k1,⟨#[]⟩,⟨#[]⟩):Ch)]).length=s.length+1:=by rw[List.length_append,List.length_map];rfl
      have hc:=zcB (w:=w8) (v:=.slice a8 (s.length+1) c8) (l:=(s.map (zbf id))++[((1,id,k1,⟨#[]⟩,⟨#[]⟩):Ch)]) (by rw[hll];omega) (by rw[hll,zf5];exact zbq OW8.out);rw[<-HK1.out] at hc;exact hc
end
section
set_option linter.unusedSimpArgs false
def inF(l:List Rw)(fl cd ca:Int)(name:ByteArray)(D:Int->Int->(List Ch × Int) × Int):(List Ch × Int) × Int :=
 if (zb0 l fl cd ca name).1.2≠0 then (([],(zb0 l fl cd ca name).1.2),(zb0 l fl cd ca name).2) else D (zb0 l fl cd ca name).1.1 (zb0 l fl cd ca name).2
def zp4(l:List Rw)(fl cd ca kind:Int)(name:ByteArray)(D:Int->Int->(List Ch × Int) × Int):(List Ch × Int) × Int :=
 if kind=4 then D 1 ca else inF l fl cd ca name D
def zkM(l:List Rw)(fl cd ca:Int)(x:Fu):(List Ch × Int) × Int :=
 if okX x=true∧x.1.kind≠3 then zp4 l fl cd ca x.1.kind x.1.name (fun id c=>znO l fl cd c id x) else (([],1),ca)
def zkO(l:List Rw)(fl cd ca kind:Int)(name:ByteArray):(List Ch × Int) × Int :=
 if kind<0∨4<kind∨kind=3 then (([],1),ca) else zp4 l fl cd ca kind name (fun id c=>zo9 l fl cd c id kind name)
def zkP(l:List Rw)(fl cd ca:Int)(name tn:ByteArray):(List Ch × Int) × Int :=
 if Ds.name (Ds.bl name)=false∨Ds.name (Ds.bl tn)=false then (([],1),ca)
 else inF l fl cd ca name (fun id c=>inF l fl cd c tn (fun id2 c2=>if id≠id2 then (([],9),c2) else zk7 l fl cd c2 id name tn))
theorem zjW(g:Nat)(hg:g=119∨g=119∨g=121∨g=124∨g=125∨g=128)(cb:Array Value)(p:Nat)(sv:Value)(l:List Rw)(fl cd ca:Int)(name:ByteArray)(D:Int->Int->(List Ch × Int) × Int)(w0 w:World)(hm:MaxL w0)(hT:Tab w0)(hS:SHs w0 w p sv l fl cd ca)(hc0:0<=ca)(hc1:ca<=70000)(hcd:cd≠0∧cd≠6∨fl<=0)(hD:∀ id c W,SHs w0 W p sv l fl cd c->w.grownBy W (some p)->ca<=c->c<=ca+2->Calls Tryz.prog g (#[.int .i64 id]++cb) W fun r w'=>ChR w0 W w' p sv l fl cd (D id c) r) :
  Calls Tryz.prog 123 #[.iface 31 (.pointer (some ⟨p,0,none⟩)),.string name,.func (.func g) #[] cb] w fun r w'=>ChR w0 w w' p sv l fl cd (inF l fl cd ca name D) r:=by
 have hwh:=ze6 p sv l fl cd ca name w0 w hm hT hS hc0 (by omega) hcd;have hwc:=zim l fl cd ca name;unfold inF;generalize zb0 l fl cd ca name=gg at hwh hwc ⊢;obtain⟨⟨id,code⟩,c⟩:=gg;dsimp only at hwh hwc ⊢;have HWH:=lh hwh;clear hwh hS;by_cases h0:code=0
 rotate_left
 · rw[if_pos h0];have t1:(code != 0)=true:=bne_iff_ne.2 h0;clear h0 hD;go_enter Tryz.func123,Tryz.ntmps123
   go_wp2_with (go_at_call 13;(refine HWH.out.mono ?_);rintro _ w2 ⟨rfl,hs,hg2⟩;have S:=lh hs;have G:=lh hg2;clear hs hg2)
   go_ret2
   exact⟨_,rfl,zbe _,S.out,G.out⟩
 rw[if_neg (fun h=>h h0)];subst h0;have HD:=lh (fun W hs hg=>hD id c W hs hg hwc.1 hwc.2);generalize D id c=d at HD ⊢;clear hD;rcases hg with rfl|rfl|rfl|rfl|rfl|rfl
 all_goals
  go_enter Tryz.func123,Tryz.ntmps123
  go_wp2_with (first
   | (go_at_call 13;(refine HWH.out.mono ?_);rintro _ w2 ⟨rfl,hs,hg2⟩;have S:=lh hs;have G:=lh hg2;clear hs hg2)
   | ((first|go_at_call 119|go_at_call 119|go_at_call 121|go_at_call 124|go_at_call 125|go_at_call 128);(refine (HD.out _ S.out G.out).mono ?_);rintro _ w3 ⟨ov,rfl,hch,hs,hg3⟩;have S3:=lh hs;have G3:=lh hg3;have C3:=lh hch;clear hs hg3 hch))
  go_ret2
  exact⟨_,rfl,C3.out,S3.out,zat G.out G3.out⟩
theorem zmH(g:Nat)(hg:g=119∨g=119∨g=121)(cb:Array Value)(p:Nat)(sv:Value)(l:List Rw)(fl cd ca kind:Int)(name:ByteArray)(D:Int->Int->(List Ch × Int) × Int)(w0 w:World)(hm:MaxL w0)(hT:Tab w0)(hS:SHs w0 w p sv l fl cd ca)(hc0:0<=ca)(hc1:ca<=70000)(hcd:cd≠0∧cd≠6∨fl<=0)(hD:∀ id c W,SHs w0 W p sv l fl cd c->w.grownBy W (some p)->ca<=c->c<=ca+2->Calls Tryz.prog g (#[.int .i64 id]++cb) W fun r w'=>ChR w0 W w' p sv l fl cd (D id c) r) :
  Calls Tryz.prog 118 #[.iface 31 (.pointer (some ⟨p,0,none⟩)),.int .i64 kind,.string name,.func (.func g) #[] cb] w fun r w'=>ChR w0 w w' p sv l fl cd (zp4 l fl cd ca kind name D) r:=by
 unfold zp4;by_cases hk:kind=4
 · rw[if_pos hk];have HD:=lh (hD 1 ca w hS (World.grownBy.refl _ _) (Int.le_refl _) (by omega));generalize D 1 ca=d at HD ⊢;have t1:(kind==4)=true:=beq_iff_eq.2 hk;clear hD hS hk;rcases hg with rfl|rfl|rfl
   all_goals
    go_enter Tryz.func118,Tryz.ntmps118
    go_wp2_with ((first|go_at_call 119|go_at_call 119|go_at_call 121);(refine HD.out.mono ?_);rintro _ w3 ⟨ov,rfl,hch,hs,hg3⟩;have S3:=lh hs;have G3:=lh hg3;have C3:=lh hch;clear hs hg3 hch)
    go_ret2
    exact⟨_,rfl,C3.out,S3.out,G3.out⟩
 · rw[if_neg hk];have HIN:=lh (zjW g (by rcases hg with h|h|h;exact .inl h;exact .inr (.inl h);exact .inr (.inr (.inl h))) cb p sv l fl cd ca name D w0 w hm hT hS hc0 hc1 hcd hD);generalize inF l fl cd ca name D=d at HIN ⊢;have t1:(kind==4)=false:=beq_eq_false_iff_ne.2 hk;clear hD hS hk hg;go_enter Tryz.func118,Tryz.ntmps118
   go_wp2_with (go_at_call 123;(refine HIN.out.mono ?_);rintro _ w3 ⟨ov,rfl,hch,hs,hg3⟩;have S3:=lh hs;have G3:=lh hg3;have C3:=lh hch;clear hs hg3 hch)
   go_ret2
   exact⟨_,rfl,C3.out,S3.out,G3.out⟩
end
section
set_option linter.unusedSimpArgs false
attribute [local go_sem ↓] zaV zaW zaz za1 zi8
attribute [local go_sem] zav zap zal zaI zaJ zae zaq zai zaw zao zas zan zaa zaj zaf zaA zax zak zag zar zaG zaC zaE
structure MdB (w0 W:World) (h p:Nat) (x:Fu) (al gr:Value):Prop where
 r:W.cell? ⟨h,0,none⟩=some (.iface 31 (.pointer (some ⟨p,0,none⟩)))
 e:row W (h+1)=x.1.vals al gr
 z:h+2<=W.heap.size
 I:IS W al x.2.1
 G:GS W gr x.2.2
theorem MdB.grown{w0 W W':World}{h p:Nat}{x:Fu}{al gr:Value}(hB:MdB w0 W h p x al gr)(hp:p<h)(hg:W.grownBy W' (some p))(o1:0<x.2.1.length->∀ q,al.ownBlock=some q->q≠p)(o2:0<x.2.2.length->∀ q,gr.ownBlock=some q->q≠p):MdB w0 W' h p x al gr:=by
 have z:=hB.z;exact⟨(World.cell?_of_block (a:=⟨h,0,none⟩) (hg.block h (by omega) (fun e=>by have:=Option.some.inj e;omega))).trans hB.r,za4 hB.e (by rw[zaa];decide) hg (by omega),Nat.le_trans z hg.size,zcN hB.I hg o1,zd0 hB.G hg o2⟩
theorem zsa(p h:Nat)(sv:Value)(l:List Rw)(fl cd ca id:Int)(x:Fu)(al gr:Value)(w0 w:World)(hm:MaxL w0)(hT:Tab w0)(hS:SHs w0 w p sv l fl cd ca)(hc0:0<=ca)(hc1:ca<=80000)(hcd:cd≠0∧cd≠6∨fl<=0)(hsz:x.1.name.size<=1000)(hB:MdB w0 w h p x al gr)(o1:0<x.2.1.length->∀ q,al.ownBlock=some q->q≠p)(o2:0<x.2.2.length->∀ q,gr.ownBlock=some q->q≠p) :
  Calls Tryz.prog 119 #[.int .i64 id,.pointer (some ⟨h,0,none⟩),.pointer (some ⟨h+1,0,none⟩)] w fun r w'=>ChR w0 w w' p sv l fl cd (znO l fl cd ca id x) r:=by
 have hc:=ztD p sv l fl cd ca id x al gr w0 w hm hT hS hc0 hc1 hcd hsz hB.I hB.G o1 o2;generalize znO l fl cd ca id x=g at hc ⊢;have HC:=lh hc;have c0:=hB.r;have c1:=hB.e;clear hc hS hB o1 o2;go_enter Tryz.func119,Tryz.ntmps119
 go_wp2_with (go_at_call 120;(refine HC.out.mono ?_);rintro _ w5 ⟨ov,rfl,hch,hs,hg⟩;have HCH:=lh hch;have HS:=lh hs;have HG:=lh hg;clear hs hg hch)
 go_ret2
 exact⟨_,rfl,HCH.out,HS.out,HG.out⟩
theorem zsd(w:World)(p:Nat)(x:Fu)(al gr:Value)(w0:World)(hI:IS w al x.2.1)(hG:GS w gr x.2.2):MdB w0 ((w.alloc (.cells #[.iface 31 (.pointer (some ⟨p,0,none⟩))] 61)).alloc (.cells (x.1.vals al gr) 40)) w.heap.size p x al gr:=by
 have b:Below w.heap.size w ((w.alloc (.cells #[.iface 31 (.pointer (some ⟨p,0,none⟩))] 61)).alloc (.cells (x.1.vals al gr) 40)):=by exact zbo
 refine⟨by simp [go_sem],?_,by simp,hI.below b,hG.below b⟩
 have h:=zai (w.alloc (.cells #[.iface 31 (.pointer (some ⟨p,0,none⟩))] 61)) (x.1.vals al gr) 40 (0,0);rw[World.size_alloc] at h;exact h
theorem MdB.below{w0 W W':World}{h p:Nat}{x:Fu}{al gr:Value}(hB:MdB w0 W h p x al gr)(hb:Below W.heap.size W W'):MdB w0 W' h p x al gr:=by
 have z:=hB.z;exact⟨(World.cell?_of_block (a:=⟨h,0,none⟩) (hb.block h (by omega))).trans hB.r,zaB hb hB.e (by rw[zaa];decide),Nat.le_trans z hb.size,hB.I.below hb,hB.G.below hb⟩
theorem zmF(p:Nat)(sv:Value)(l:List Rw)(fl cd ca:Int)(x:Fu)(al gr:Value)(w0 w:World)(hm:MaxL w0)(hT:Tab w0)(hS:SHs w0 w p sv l fl cd ca)(hc0:0<=ca)(hc1:ca<=70000)(hcd:cd≠0∧cd≠6∨fl<=0)(hsz:x.1.name.size<=1000)(hI:IS w al x.2.1)(hGr:GS w gr x.2.2)(o1:0<x.2.1.length->∀ q,al.ownBlock=some q->q≠p)(o2:0<x.2.2.length->∀ q,gr.ownBlock=some q->q≠p) :
  Calls Tryz.prog 62 #[.iface 31 (.pointer (some ⟨p,0,none⟩)),.agg (x.1.vals al gr)] w fun r w'=>ChR w0 w w' p sv l fl cd (zkM l fl cd ca x) r:=by
 have a1:=zau x.1 al gr (zaP hI) (zaO hGr);have hpl:=hS.pl;have HS:=lh hS;have HV:=fun W (b0:Below w0.heap.size w0 W) (b:Below w.heap.size w W)=>znA x.1 al gr x.2.1 x.2.2 W (hm.below b0) (hT.below b0) hsz (hI.below b) (hGr.below b)
 have hB0:=zsd w p x al gr w0 hI hGr;have HB1:=lh (show Below w.heap.size w ((w.alloc (.cells #[.iface 31 (.pointer (some ⟨p,0,none⟩))] 61)).alloc (.cells (x.1.vals al gr) 40)) by exact zbo);have HBM:=lh hB0;have c0:=hB0.r;have c1:=hB0.e;have n0:=zah c1 0 _ (zaC _ _ _);have n1:=zah c1 1 _ (zaE _ _ _);have HH:=lh (fun W (hs:SHs w0 W p sv l fl cd ca) (hb:MdB w0 W w.heap.size p x al gr)=>zmH 119 (.inl rfl) #[.pointer (some ⟨w.heap.size,0,none⟩),.pointer (some ⟨w.heap.size+1,0,none⟩)] p sv l fl cd ca x.1.kind x.1.name (fun id c=>znO l fl cd c id x) w0 W hm hT hs hc0 hc1 hcd (fun id c W2 h2 g2 q1 q2=>zsa p w.heap.size sv l fl cd c id x al gr w0 W2 hm hT h2 (by omega) (by omega) hcd hsz (hb.grown hpl g2 o1 o2) o1 o2));unfold zkM;have hV2:∀ W,Below w0.heap.size w0 W->Below w.heap.size w W->Calls Tryz.prog 98 #[.agg (x.1.vals al gr)] W fun r w'=>r=.returned (.bool (okX x))∧Below W.heap.size W w':=HV
 clear HV hS hI hGr o1 o2 hB0;cases hok:okX x
 rw[if_neg (by rintro ⟨h,-⟩;cases h)];rw[hok] at hV2;have HV2:=lh hV2;clear hV2;rotate_left;rw[hok] at hV2;have HV2:=lh hV2;clear hV2;by_cases hk:x.1.kind=3
 rw[if_neg (by rintro ⟨-,h⟩;exact h hk)];have t1:(x.1.kind==3)=true:=beq_iff_eq.2 hk;clear hk;rotate_left;rw[if_pos ⟨rfl,hk⟩];have t1:(x.1.kind==3)=false:=beq_eq_false_iff_ne.2 hk;generalize zp4 l fl cd ca x.1.kind x.1.name (fun id c=>znO l fl cd c id x)=g at HH ⊢;clear hk
 all_goals
  go_enter Tryz.func62,Tryz.ntmps62
  go_wp2_with (first
   | (go_at_call 98;(refine (HV2.out _ (HS.out.below HB1.out).b HB1.out).mono ?_);rintro _ w2 ⟨rfl,hb⟩;have HB2:=lh (HBM.out.below hb);have c0:=HB2.out.r;have c1:=HB2.out.e;have n0:=zah c1 0 _ (zaC _ _ _);have n1:=zah c1 1 _ (zaE _ _ _);have B2:=lh (bt HB1.out hb);clear hb)
   | (go_at_call 118;(refine (HH.out _ (HS.out.below B2.out) HB2.out).mono ?_);rintro _ w3 ⟨ov,rfl,hch,hs,hg3⟩;have S3:=lh hs;have G3:=lh hg3;have C3:=lh hch;clear hs hg3 hch))
  go_ret2
  first|exact⟨_,rfl,C3.out,S3.out,zat (zad _ B2.out) G3.out⟩|exact⟨_,rfl,zbe _,HS.out.below B2.out,zad _ B2.out⟩
structure MrB (W:World) (h p:Nat) (u v:Value):Prop where
 r:W.cell? ⟨h,0,none⟩=some (.iface 31 (.pointer (some ⟨p,0,none⟩)))
 u:W.cell? ⟨h+1,0,none⟩=some u
 v:W.cell? ⟨h+2,0,none⟩=some v
 z:h+3<=W.heap.size
theorem MrB.grown{W W':World}{h p:Nat}{u v:Value}(hB:MrB W h p u v)(hp:p<h)(hg:W.grownBy W' (some p)):MrB W' h p u v:=by
 have z:=hB.z;have e:=fun k (h1:k<W.heap.size) (h2:p<k)=>hg.block k h1 (fun e=>by have:=Option.some.inj e;omega)
 exact⟨(World.cell?_of_block (a:=⟨h,0,none⟩) (e h (by omega) hp)).trans hB.r,(World.cell?_of_block (a:=⟨h+1,0,none⟩) (e (h+1) (by omega) (by omega))).trans hB.u,(World.cell?_of_block (a:=⟨h+2,0,none⟩) (e (h+2) (by omega) (by omega))).trans hB.v,Nat.le_trans z hg.size⟩
theorem MrB.below{W W':World}{h p:Nat}{u v:Value}(hB:MrB W h p u v)(hb:Below W.heap.size W W'):MrB W' h p u v:=by
 have z:=hB.z;exact⟨(World.cell?_of_block (a:=⟨h,0,none⟩) (hb.block h (by omega))).trans hB.r,(World.cell?_of_block (a:=⟨h+1,0,none⟩) (hb.block (h+1) (by omega))).trans hB.u,(World.cell?_of_block (a:=⟨h+2,0,none⟩) (hb.block (h+2) (by omega))).trans hB.v,Nat.le_trans z hb.size⟩
theorem zsb(p h:Nat)(sv:Value)(l:List Rw)(fl cd ca id kind:Int)(name:ByteArray)(w0 w:World)(hm:MaxL w0)(hT:Tab w0)(hS:SHs w0 w p sv l fl cd ca)(hso:∀ b,sv.ownBlock=some b->b<w.heap.size)(hl:l.length<=1000)(hkz:∀ x∈l,x.2.1.size<=1000)(hc0:0<=ca)(hc1:ca<=80000)(hcd:cd≠0∧cd≠6∨fl<=0)(hB:MrB w h p (.int .i64 kind) (.string name)) :
  Calls Tryz.prog 121 #[.int .i64 id,.pointer (some ⟨h,0,none⟩),.pointer (some ⟨h+1,0,none⟩),.pointer (some ⟨h+2,0,none⟩)] w fun r w'=>ChR w0 w w' p sv l fl cd (zo9 l fl cd ca id kind name) r:=by
 have hc:=zlo p sv l fl cd ca id kind name w0 w hm hT hS hso hl hkz hc0 hc1 hcd;generalize zo9 l fl cd ca id kind name=g at hc ⊢;have HC:=lh hc;have c0:=hB.r;have c1:=hB.u;have c2:=hB.v;clear hc hS hB hso hkz;go_enter Tryz.func121,Tryz.ntmps121
 go_wp2_with (go_at_call 122;(refine HC.out.mono ?_);rintro _ w5 ⟨ov,rfl,hch,hs,hg⟩;have HCH:=lh hch;have HS:=lh hs;have HG:=lh hg;clear hs hg hch)
 go_ret2
 exact⟨_,rfl,HCH.out,HS.out,HG.out⟩
theorem zmI(p:Nat)(sv:Value)(l:List Rw)(fl cd ca kind:Int)(name:ByteArray)(w0 w:World)(hm:MaxL w0)(hT:Tab w0)(hS:SHs w0 w p sv l fl cd ca)(hso:∀ b,sv.ownBlock=some b->b<w.heap.size)(hl:l.length<=1000)(hkz:∀ x∈l,x.2.1.size<=1000)(hc0:0<=ca)(hc1:ca<=70000)(hcd:cd≠0∧cd≠6∨fl<=0) :
  Calls Tryz.prog 63 #[.iface 31 (.pointer (some ⟨p,0,none⟩)),.int .i64 kind,.string name] w fun r w'=>ChR w0 w w' p sv l fl cd (zkO l fl cd ca kind name) r:=by
 have hpl:=hS.pl;have HS:=lh hS;have hb1:Below w.heap.size w (((w.alloc (.cells #[.iface 31 (.pointer (some ⟨p,0,none⟩))] 61)).alloc (.cells #[.int .i64 kind] 3)).alloc (.cells #[.string name] 9)):=by exact zbo
 have hB0:MrB (((w.alloc (.cells #[.iface 31 (.pointer (some ⟨p,0,none⟩))] 61)).alloc (.cells #[.int .i64 kind] 3)).alloc (.cells #[.string name] 9)) w.heap.size p (.int .i64 kind) (.string name):=⟨by simp [go_sem],by simp [go_sem],by simp [go_sem],by simp⟩;have HB1:=lh hb1;have HBM:=lh hB0;have HH:=lh (fun W (hs:SHs w0 W p sv l fl cd ca) (hz:w.heap.size<=W.heap.size) (hb:MrB W w.heap.size p (.int .i64 kind) (.string name))=>zmH 121 (.inr (.inr rfl)) #[.pointer (some ⟨w.heap.size,0,none⟩),.pointer (some ⟨w.heap.size+1,0,none⟩),.pointer (some ⟨w.heap.size+2,0,none⟩)] p sv l fl cd ca kind name (fun id c=>zo9 l fl cd c id kind name) w0 W hm hT hs hc0 hc1 hcd (fun id c W2 h2 g2 q1 q2=>zsb p w.heap.size sv l fl cd c id kind name w0 W2 hm hT h2 (fun b e=>by have:=hso b e;have:=g2.size;omega) hl hkz (by omega) (by omega) hcd (hb.grown hpl g2)));unfold zkO;clear hS hso hkz hB0 hb1;by_cases h1:kind<0
 rw[if_pos (.inl h1)];have t1:decide (kind<0)=true:=decide_eq_true h1;clear h1 HH;rotate_left;have t1:decide (kind<0)=false:=decide_eq_false h1;by_cases h2:4<kind
 rw[if_pos (.inr (.inl h2))];have t2:decide (4<kind)=true:=decide_eq_true h2;clear h1 h2 HH;rotate_left;have t2:decide (4<kind)=false:=decide_eq_false h2;by_cases h3:kind=3
 rw[if_pos (.inr (.inr h3))];have t3:(kind==3)=true:=beq_iff_eq.2 h3;clear h1 h2 h3 HH;rotate_left;have t3:(kind==3)=false:=beq_eq_false_iff_ne.2 h3;rw[if_neg (by rintro (h|h|h);exact h1 h;exact h2 h;exact h3 h)];generalize zp4 l fl cd ca kind name (fun id c=>zo9 l fl cd c id kind name)=g at HH ⊢;clear h1 h2 h3
 all_goals
  go_enter Tryz.func63,Tryz.ntmps63
  go_wp2_with (go_at_call 118;(refine (HH.out _ (HS.out.below HB1.out) HB1.out.size HBM.out).mono ?_);rintro _ w3 ⟨ov,rfl,hch,hs,hg3⟩;have S3:=lh hs;have G3:=lh hg3;have C3:=lh hch;clear hs hg3 hch)
  go_ret2
  first|exact⟨_,rfl,C3.out,S3.out,zat (zad _ HB1.out) G3.out⟩|exact⟨_,rfl,zbe _,HS.out.below HB1.out,zad _ HB1.out⟩
theorem zoH(p bi h:Nat)(sv:Value)(l:List Rw)(fl cd ca id id2:Int)(name tn:ByteArray)(w0 w:World)(hm:MaxL w0)(hT:Tab w0)(hS:SHs w0 w p sv l fl cd ca)(hso:∀ b,sv.ownBlock=some b->b<w.heap.size)(hl:l.length<=1000)(hc0:0<=ca)(hc1:ca<=80000)(hcd:cd≠0∧cd≠6∨fl<=0)(hns:name.size<=1000)(hts:tn.size<=1000)(hB:MrB w h p (.string name) (.string tn))(hi:w.cell? ⟨bi,0,none⟩=some (.int .i64 id)) :
  Calls Tryz.prog 125 #[.int .i64 id2,.pointer (some ⟨bi,0,none⟩),.pointer (some ⟨h,0,none⟩),.pointer (some ⟨h+1,0,none⟩),.pointer (some ⟨h+2,0,none⟩)] w fun r w'=>ChR w0 w w' p sv l fl cd (if id≠id2 then (([],9),ca) else zk7 l fl cd ca id name tn) r:=by
 have hc:=zlp p sv l fl cd ca id name tn w0 w hm hT hS hso hl hc0 hc1 hcd hns hts;generalize zk7 l fl cd ca id name tn=g at hc ⊢;have HC:=lh hc;have HS:=lh hS;have c0:=hB.r;have c1:=hB.u;have c2:=hB.v;clear hc hS hB hso;by_cases he:id≠id2
 · rw[if_pos he];have t1:(id != id2)=true:=bne_iff_ne.2 he;clear he;go_enter Tryz.func125,Tryz.ntmps125
   go_wp2_with fail
   go_ret2
   exact⟨_,rfl,zbe _,HS.out,World.grownBy.refl _ _⟩
 · rw[if_neg he];have t1:(id != id2)=false:=by simpa using he
   clear he;go_enter Tryz.func125,Tryz.ntmps125
   go_wp2_with (go_at_call 126;(refine HC.out.mono ?_);rintro _ w5 ⟨ov,rfl,hch,hs,hg⟩;have HCH:=lh hch;have HS2:=lh hs;have HG:=lh hg;clear hs hg hch)
   go_ret2
   exact⟨_,rfl,HCH.out,HS2.out,HG.out⟩
theorem zsc(p h:Nat)(sv:Value)(l:List Rw)(fl cd ca id:Int)(name tn:ByteArray)(w0 w:World)(hm:MaxL w0)(hT:Tab w0)(hS:SHs w0 w p sv l fl cd ca)(hso:∀ b,sv.ownBlock=some b->b<w.heap.size)(hl:l.length<=1000)(hc0:0<=ca)(hc1:ca<=70000)(hcd:cd≠0∧cd≠6∨fl<=0)(hns:name.size<=1000)(hts:tn.size<=1000)(hp:p<h)(hB:MrB w h p (.string name) (.string tn)) :
  Calls Tryz.prog 124 #[.int .i64 id,.pointer (some ⟨h,0,none⟩),.pointer (some ⟨h+2,0,none⟩),.pointer (some ⟨h+1,0,none⟩)] w fun r w'=>ChR w0 w w' p sv l fl cd (inF l fl cd ca tn (fun id2 c2=>if id≠id2 then (([],9),c2) else zk7 l fl cd c2 id name tn)) r:=by
 have hb1:=zab w (.cells #[.int .i64 id] 3);have hB1:=hB.below hb1;have hs1:=hS.below hb1;have hpl:=hs1.pl;have hpw:=hS.pl;have hi:(w.alloc (.cells #[.int .i64 id] 3)).cell? ⟨w.heap.size,0,none⟩=some (.int .i64 id):=by simp [go_sem]
 have HB1:=lh hb1;have hc:=zjW 125 (.inr (.inr (.inr (.inr (.inl rfl))))) #[.pointer (some ⟨w.heap.size,0,none⟩),.pointer (some ⟨h,0,none⟩),.pointer (some ⟨h+1,0,none⟩),.pointer (some ⟨h+2,0,none⟩)] p sv l fl cd ca tn (fun id2 c2=>if id≠id2 then (([],9),c2) else zk7 l fl cd c2 id name tn) w0 _ hm hT hs1 hc0 hc1 hcd (fun id2 c2 W2 h2 g2 q1 q2=>zoH p w.heap.size h sv l fl cd c2 id id2 name tn w0 W2 hm hT h2 (fun b e=>by have:=hso b e;have:=g2.size;simp at this;omega) hl (by omega) (by omega) hcd hns hts (hB1.grown hp g2) ((World.cell?_of_block (a:=⟨w.heap.size,0,none⟩) (g2.block w.heap.size (by simp) (fun e=>by have:=Option.some.inj e;omega))).trans hi));generalize inF l fl cd ca tn (fun id2 c2=>if id≠id2 then (([],9),c2) else zk7 l fl cd c2 id name tn)=g at hc ⊢;have HC:=lh hc;have c0:=hB1.r;have c1:=hB1.u;have c2:=hB1.v;clear hc hS hB hso hB1 hs1 hb1;go_enter Tryz.func124,Tryz.ntmps124
 go_wp2_with (go_at_call 123;(refine HC.out.mono ?_);rintro _ w5 ⟨ov,rfl,hch,hs,hg⟩;have HCH:=lh hch;have HS2:=lh hs;have HG:=lh hg;clear hs hg hch)
 go_ret2
 exact⟨_,rfl,HCH.out,HS2.out,zat (zad _ HB1.out) HG.out⟩
theorem zmJ(p:Nat)(sv:Value)(l:List Rw)(fl cd ca:Int)(name tn:ByteArray)(w0 w:World)(hm:MaxL w0)(hT:Tab w0)(hS:SHs w0 w p sv l fl cd ca)(hso:∀ b,sv.ownBlock=some b->b<w.heap.size)(hl:l.length<=1000)(hc0:0<=ca)(hc1:ca<=60000)(hcd:cd≠0∧cd≠6∨fl<=0)(hns:name.size<=1000)(hts:tn.size<=1000) :
  Calls Tryz.prog 64 #[.iface 31 (.pointer (some ⟨p,0,none⟩)),.string name,.string tn] w fun r w'=>ChR w0 w w' p sv l fl cd (zkP l fl cd ca name tn) r:=by
 have hpl:=hS.pl;have HS:=lh hS;have hb1:Below w.heap.size w (((w.alloc (.cells #[.iface 31 (.pointer (some ⟨p,0,none⟩))] 61)).alloc (.cells #[.string name] 9)).alloc (.cells #[.string tn] 9)):=by exact zbo
 have hB0:MrB (((w.alloc (.cells #[.iface 31 (.pointer (some ⟨p,0,none⟩))] 61)).alloc (.cells #[.string name] 9)).alloc (.cells #[.string tn] 9)) w.heap.size p (.string name) (.string tn):=⟨by simp [go_sem],by simp [go_sem],by simp [go_sem],by simp⟩;have HB1:=lh hb1;have HBM:=lh hB0;have HH:=lh (fun W (hs:SHs w0 W p sv l fl cd ca) (hz:w.heap.size<=W.heap.size) (hb:MrB W w.heap.size p (.string name) (.string tn))=>zjW 124 (.inr (.inr (.inr (.inl rfl)))) #[.pointer (some ⟨w.heap.size,0,none⟩),.pointer (some ⟨w.heap.size+2,0,none⟩),.pointer (some ⟨w.heap.size+1,0,none⟩)] p sv l fl cd ca name (fun id c=>inF l fl cd c tn (fun id2 c2=>if id≠id2 then (([],9),c2) else zk7 l fl cd c2 id name tn)) w0 W hm hT hs hc0 (by omega) hcd (fun id c W2 h2 g2 q1 q2=>zsc p w.heap.size sv l fl cd c id name tn w0 W2 hm hT h2 (fun b e=>by have:=hso b e;have:=g2.size;omega) hl (by omega) (by omega) hcd hns hts hpl (hb.grown hpl g2)));have hv1:=fun W (b:Below w0.heap.size w0 W)=>zbh name W (hm.below b)
 have hv2:=fun W (b:Below w0.heap.size w0 W)=>zbh tn W (hm.below b)
 unfold zkP;clear hS hso hB0 hb1;cases h1:Ds.name (Ds.bl name)
 rw[if_pos (.inl rfl)];rw[h1] at hv1;have HV1:=lh hv1;clear hv1 hv2 HH h1;rotate_left;rw[h1] at hv1;have HV1:=lh hv1;clear hv1 h1;cases h2:Ds.name (Ds.bl tn)
 rw[if_pos (.inr rfl)];rw[h2] at hv2;have HV2:=lh hv2;clear hv2 HH h2;rotate_left;rw[h2] at hv2;have HV2:=lh hv2;clear hv2 h2;rw[if_neg (by rintro (h|h) <;> cases h)];generalize inF l fl cd ca name (fun id c=>inF l fl cd c tn (fun id2 c2=>if id≠id2 then (([],9),c2) else zk7 l fl cd c2 id name tn))=g at HH ⊢
 all_goals
  go_enter Tryz.func64,Tryz.ntmps64
  go_wp2_with (first
   | (go_at_call 34;(with_reducible refine (HV1.out _ (HS.out.below HB1.out).b).mono ?_);rintro _ w2 ⟨rfl,hb⟩;clear HV1;have HB2:=lh (HBM.out.below hb);have c2:=HB2.out.v;have B2:=lh (bt HB1.out hb);clear hb)
   | (go_at_call 34;(with_reducible refine (HV2.out _ (HS.out.below B2.out).b).mono ?_);rintro _ w3 ⟨rfl,hb⟩;have HB3:=lh (HB2.out.below hb);have r3:=HB3.out.r;have u3:=HB3.out.u;have v3:=HB3.out.v;have B3:=lh (bt B2.out hb);clear hb)
   | (go_at_call 123;(refine (HH.out _ (HS.out.below B3.out) B3.out.size HB3.out).mono ?_);rintro _ w4 ⟨ov,rfl,hch,hs,hg3⟩;have S4:=lh hs;have G4:=lh hg3;have C4:=lh hch;clear hs hg3 hch))
  go_ret2
  first|exact⟨_,rfl,C4.out,S4.out,zat (zad _ B3.out) G4.out⟩|exact⟨_,rfl,zbe _,HS.out.below B3.out,zad _ B3.out⟩|exact⟨_,rfl,zbe _,HS.out.below B2.out,zad _ B2.out⟩
end
section
set_option linter.unusedSimpArgs false
def zeC(s:ByteArray):Bool:=Ds.name (Ds.bl s)&&decide ((Lib.countByte s.data.toList 46:Int)<2)
theorem zhN(s:ByteArray)(w:World)(hm:MaxL w):Calls Tryz.prog 127 #[.string s] w fun r w'=>r=.returned (.bool (zeC s))∧Below w.heap.size w w':=by
 have hv:=zbh s w hm;have hc:=fun W=>Tryz.strings_Count_one s 46 W
 unfold zeC;generalize (Lib.countByte s.data.toList 46:Int)=n at hc ⊢;cases hn:Ds.name (Ds.bl s)
 · rw[hn] at hv;have HV:=lh hv;clear hv hc;go_enter Tryz.func127,Tryz.ntmps127
   go_wp2_with (go_at_call 34;(refine HV.out.mono ?_);rintro _ w2 ⟨rfl,hb⟩;have B:=lh hb;clear hb)
   go_ret
   exact⟨rfl,B.out⟩
 · rw[hn] at hv;have HV:=lh hv;have HC:=lh hc;clear hv hc;rw[Bool.true_and];go_enter Tryz.func127,Tryz.ntmps127
   go_wp2_with (first
    | (go_at_call 34;(refine HV.out.mono ?_);rintro _ w2 ⟨rfl,hb⟩;have B:=lh hb;clear hb)
    | (go_at_call 88;(refine (HC.out _).mono ?_);rintro _ _ ⟨rfl,rfl⟩))
   all_goals
    go_ret
    exact⟨by simp_all,B.out⟩
def unN(p:ByteArray)(n:ByteArray):Bool:=Ds.name (Ds.bl n)&&(decide (n=p) || Lib.hasPrefix n.data.toList (p.data.toList++[46]))
def unS(p:ByteArray)(s:Bool)(k _r:ByteArray):Except Int Bool:=.ok (s || unN p (zaZ k))
def unR:Except Int (Bool × Int) × Int->(Bool × Int) × Int
 | (.ok (s,code),c')=>((s,code),c')
 | (.error e,c')=>((false,e),c')
def zhj(l:List Rw)(fl cd id:Int)(p:ByteArray)(L:UInt8)(c:Int):(Bool × Int) × Int:=unR (zbt l id fl cd L (unS p) (l.length+1) c [L - 1,255] false)
def zqG(l:List Rw)(fl cd id:Int)(p:ByteArray):List UInt8->Int->Int × Int
 | [],c=>(0,c)
 | L::Ls,c=>if (zhj l fl cd id p L c).1.2≠0 then ((zhj l fl cd id p L c).1.2,(zhj l fl cd id p L c).2) else if (zhj l fl cd id p L c).1.1=true then (9,(zhj l fl cd id p L c).2) else zqG l fl cd id p Ls (zhj l fl cd id p L c).2
def zii(l:List Rw)(fl cd ca id:Int)(p:ByteArray):Int × Int:=zqG l fl cd id p [68,71,65] ca
theorem zaR{w:World}{b o:Nat}{s:Option Nat}{v:Value}(h:w.cell? ⟨b,o,s⟩=some v):b<w.heap.size:=block_lt_of_cell h
theorem zs4(bp bt:Nat)(p:ByteArray)(s:Bool)(k r:ByteArray)(w:World)(hm:MaxL w)(hk1:1<=k.size)(hk2:k.size<=1000)(hp:p.size<=1000)(cp:w.cell? ⟨bp,0,none⟩=some (.string p))(ct:w.cell? ⟨bt,0,none⟩=some (.bool s))(ft:w.frozen? ⟨bt,0,none⟩=false) :
  Calls Tryz.prog 193 #[.string k,.string r,.pointer (some ⟨bp,0,none⟩),.pointer (some ⟨bt,0,none⟩)] w fun e w'=>e=.returned (.int .i64 0)∧∃ w1,Below w.heap.size w w1∧(w'=w1∧unN p (zaZ k)=false∨w'=w1.setCell ⟨bt,0,none⟩ (.bool true)∧unN p (zaZ k)=true):=by
 have hb:Ds.bl (k.extract 1 k.size)=(Ds.bl k).drop 1:=by
  unfold Ds.bl;rw[ByteArray.data_extract,Array.toList_extract];simp [List.extract]
  exact List.take_of_length_le (by rw[List.length_tail,Array.length_toList];exact Nat.le_refl _)
 have htr:=zeG (k.extract 1 k.size) w (by rw[<-Ds.bl_length,hb,List.length_drop,Ds.bl_length];omega);rw[hb] at htr
 have hnz:(zaZ k).size<=1000:=by
  rw[<-Ds.bl_length];unfold zaZ;rw[Ds.bl_mk];unfold Ek.trim;rw[List.length_take,List.length_drop,Ds.bl_length];omega
 have hnb:Ds.bl (zaZ k)=Ek.trim ((Ds.bl k).drop 1):=Ds.bl_mk _;have hT:Calls Tryz.prog 30 #[.string (k.extract 1 k.size),.string ⟨#[32]⟩] w fun e w'=>e=.returned (.string (zaZ k))∧w'=w:=htr.mono (by rintro _ w' ⟨t,rfl,ht,rfl⟩;exact⟨congrArg (fun t=>Ending.returned (Value.string t)) (Ds.bl_inj (ht.trans hnb.symm)),rfl⟩)
 clear htr hb hnb;have hv:=zbh (zaZ k) w hm;have hpd:(p++⟨#[46]⟩:ByteArray).data.toList=p.data.toList++[46]:=by simp
 have hpf:=fun W=>Tryz.strings_HasPrefix (zaZ k) (p++⟨#[46]⟩) W
 rw[hpd] at hpf;unfold unN;generalize zaZ k=nz at hT hv hpf hnz ⊢;have g1:(0:Int)<=1∧(1:Int)<=(k.size:Int):=by omega
 have g2:(1:Int)<=(k.size:Int):=by omega
 have HT:=lh hT;clear hT;cases h1:Ds.name (Ds.bl nz)
 · rw[h1] at hv;have HV:=lh hv;clear hv hpf;go_enter Tryz.func193,Tryz.ntmps193
   go_wp2_with (first
    | (go_at_call 30;(refine HT.out.mono ?_);rintro _ _ ⟨rfl,rfl⟩)
    | (go_at_call 34;(refine HV.out.mono ?_);rintro _ w2 ⟨rfl,hb⟩;have B:=lh hb;clear hb))
   go_ret
   exact⟨rfl,_,B.out,.inl ⟨rfl,rfl⟩⟩
 rw[h1] at hv;have HV:=lh hv;clear hv;have ht2:=zei nz p;by_cases h2:nz=p
 · rw[decide_eq_true h2] at ht2 ⊢;clear h2 hpf;go_enter Tryz.func193,Tryz.ntmps193
   go_wp2_with (first
    | (go_at_call 30;(refine HT.out.mono ?_);rintro _ _ ⟨rfl,rfl⟩)
    | (go_at_call 34;(refine HV.out.mono ?_);rintro _ w2 ⟨rfl,hb⟩;have cp2:=(hb.cell (p:=⟨bp,0,none⟩) (zaR cp)).trans cp;have ct2:=(hb.cell (p:=⟨bt,0,none⟩) (zaR ct)).trans ct;have ft2:=(hb.frozen (p:=⟨bt,0,none⟩) (zaR ct)).trans ft;have B:=lh hb;clear hb))
   go_ret
   exact⟨rfl,_,B.out,.inr ⟨rfl,rfl⟩⟩
 rw[decide_eq_false h2] at ht2 ⊢;clear h2;generalize Lib.hasPrefix nz.data.toList (p.data.toList++[46])=hp3 at hpf ⊢;have HP:=lh hpf;clear hpf;cases hp3
 · go_enter Tryz.func193,Tryz.ntmps193
   go_wp2_with (first
    | (go_at_call 30;(refine HT.out.mono ?_);rintro _ _ ⟨rfl,rfl⟩)
    | (go_at_call 194;(refine (HP.out _).mono ?_);rintro _ _ ⟨rfl,rfl⟩)
    | (go_at_call 34;(refine HV.out.mono ?_);rintro _ w2 ⟨rfl,hb⟩;have cp2:=(hb.cell (p:=⟨bp,0,none⟩) (zaR cp)).trans cp;have ct2:=(hb.cell (p:=⟨bt,0,none⟩) (zaR ct)).trans ct;have ft2:=(hb.frozen (p:=⟨bt,0,none⟩) (zaR ct)).trans ft;have B:=lh hb;clear hb))
   go_ret
   exact⟨rfl,_,B.out,.inl ⟨rfl,rfl⟩⟩
 · go_enter Tryz.func193,Tryz.ntmps193
   go_wp2_with (first
    | (go_at_call 30;(refine HT.out.mono ?_);rintro _ _ ⟨rfl,rfl⟩)
    | (go_at_call 194;(refine (HP.out _).mono ?_);rintro _ _ ⟨rfl,rfl⟩)
    | (go_at_call 34;(refine HV.out.mono ?_);rintro _ w2 ⟨rfl,hb⟩;have cp2:=(hb.cell (p:=⟨bp,0,none⟩) (zaR cp)).trans cp;have ct2:=(hb.cell (p:=⟨bt,0,none⟩) (zaR ct)).trans ct;have ft2:=(hb.frozen (p:=⟨bt,0,none⟩) (zaR ct)).trans ft;have B:=lh hb;clear hb))
   go_ret
   exact⟨rfl,_,B.out,.inr ⟨rfl,rfl⟩⟩
end
section
set_option linter.unusedSimpArgs false
structure UnJ (w0 wq W:World) (p bp bt:Nat) (pre:ByteArray) (sv:Value) (l:List Rw) (fl cd c:Int) (s:Bool):Prop where
 sh:SHs w0 W p sv l fl cd c
 g:wq.grownBy W (some p)
 cp:W.cell? ⟨bp,0,none⟩=some (.string pre)
 ct:W.cell? ⟨bt,0,none⟩=some (.bool s)
 ft:W.frozen? ⟨bt,0,none⟩=false
 pb:bp≠p
 lt:p<wq.heap.size
 zb:wq.heap.size<=bt
 ne:bp≠bt
 z0:w0.heap.size<=wq.heap.size
 so:∀ b,sv.ownBlock=some b->b<wq.heap.size
theorem UnJ.tick{w0 wq W W':World}{p bp bt:Nat}{pre:ByteArray}{sv:Value}{l:List Rw}{fl cd c c':Int}{s:Bool}(h:UnJ w0 wq W p bp bt pre sv l fl cd c s)(hg:W.grownBy W' (some p))(hs:SHs w0 W' p sv l fl cd c'):UnJ w0 wq W' p bp bt pre sv l fl cd c' s:=by
 have e:∀ k,k≠p->k<W.heap.size->W'.heap[k]?=W.heap[k]?:=fun k h1 h2=>hg.block k h2 (fun e=>h1 (Option.some.inj e))
 have q:=h.lt;have zb:=h.zb;exact⟨hs,zat h.g hg,(World.cell?_of_block (a:=⟨bp,0,none⟩) (e bp h.pb (zaR h.cp))).trans h.cp,(World.cell?_of_block (a:=⟨bt,0,none⟩) (e bt (by omega) (zaR h.ct))).trans h.ct,(World.frozen?_of_block (a:=⟨bt,0,none⟩) (e bt (by omega) (zaR h.ct))).trans h.ft,h.pb,h.lt,h.zb,h.ne,h.z0,h.so⟩
theorem UnJ.below{w0 wq W W':World}{p bp bt:Nat}{pre:ByteArray}{sv:Value}{l:List Rw}{fl cd c:Int}{s:Bool}(h:UnJ w0 wq W p bp bt pre sv l fl cd c s)(hb:Below W.heap.size W W'):UnJ w0 wq W' p bp bt pre sv l fl cd c s :=
 ⟨h.sh.below hb,zay h.g (hb.mono h.g.size),(hb.cell (p:=⟨bp,0,none⟩) (zaR h.cp)).trans h.cp,(hb.cell (p:=⟨bt,0,none⟩) (zaR h.ct)).trans h.ct,(hb.frozen (p:=⟨bt,0,none⟩) (zaR h.ct)).trans h.ft,h.pb,h.lt,h.zb,h.ne,h.z0,h.so⟩
theorem UnJ.set{w0 wq W:World}{p bp bt:Nat}{pre:ByteArray}{sv:Value}{l:List Rw}{fl cd c:Int}{s:Bool}(h:UnJ w0 wq W p bp bt pre sv l fl cd c s):UnJ w0 wq (W.setCell ⟨bt,0,none⟩ (.bool true)) p bp bt pre sv l fl cd c true:=by
 have hg:=zaH W ⟨bt,0,none⟩ (.bool true);have lt:=h.lt;have zb:=h.zb;have z0:=h.z0;have ne:=h.ne;refine⟨h.sh.other hg (by show p≠bt;omega) (by show _<=bt;omega) (fun b hb=>by have:=h.so b hb;show b≠bt;omega),zay h.g (zaU hg (by show _<=bt;omega) h.g.size),?_,World.cell?_setCell_same' _ _ _ (by rw[h.ct];rfl),by rw[World.frozen?_setCell];exact h.ft,h.pb,h.lt,h.zb,h.ne,h.z0,h.so⟩
 rw[World.cell?_setCell_other _ _ _ _ (by intro e;exact ne (congrArg Addr.block e).symm)];exact h.cp
theorem zu6(p bp bt:Nat)(pre:ByteArray)(sv:Value)(l:List Rw)(fl cd ca id:Int)(L:UInt8)(w0 wq w:World)(hm:MaxL w0)(hw:IntKind.u8.wrap ((L.toNat:Int) - 1)=((L - 1).toNat:Int))(h0:UnJ w0 wq w p bp bt pre sv l fl cd ca false)(hl:l.length<=1000)(hkz:∀ x∈l,x.2.1.size<=1000)(hps:pre.size<=1000)(hc0:0<=ca)(hc1:ca<=90000)(hcd:cd≠0∧cd≠6∨fl<=0) :
  Calls Tryz.prog 68 #[.iface 31 (.pointer (some ⟨p,0,none⟩)),.int .i64 id,.int .u8 (L.toNat:Nat),.func (.func 193) #[] #[.pointer (some ⟨bp,0,none⟩),.pointer (some ⟨bt,0,none⟩)]] w fun r w' =>
   r=.returned (.int .i64 (zhj l fl cd id pre L ca).1.2)∧UnJ w0 wq w' p bp bt pre sv l fl cd (zhj l fl cd id pre L ca).2 (zhj l fl cd id pre L ca).1.1:=by
 have hR0:cnt id [L - 1,255] l<l.length+1:=Nat.lt_succ_of_le (cnt_le _ _ _);unfold zhj;generalize hR:zbt l id fl cd L (unS pre) (l.length+1) ca [L - 1,255] false=R;obtain⟨G,hG⟩:∃ G,unR R=G:=⟨_,rfl⟩;rw[hG];have HG:=lh hG;have HR:=lh hR;have HR0:=lh hR0;have H0:=lh h0;have hcv:=zgv (L - 1) 255;clear hR hR0 h0 hG;go_enter Tryz.func68,Tryz.ntmps68
 go_wp2_with fail
 have B0:Below w.heap.size w (w.alloc (.cells #[.int .u8 ((L - 1).toNat:Nat),.int .u8 255] 5)):=(Below.refl _ _).alloc (Nat.le_refl _) _;go_loopw [9] (fun kv wr=>∃ (f:Nat) (c:Int) (k:ByteArray) (s:Bool),kv=.string k∧Hid (zbt l id fl cd L (unS pre) f c (Ds.bl k) s=R)∧Hid (cnt id (Ds.bl k) l<f)∧0<=c∧c+f<=ca+l.length+1∧Hid (UnJ w0 wq wr p bp bt pre sv l fl cd c s)) (fun kv _=>cnt id (Ds.bl (zsX kv)) l)
 case atStart=>exact⟨l.length+1,ca,_,false,rfl,HR,HR0,hc0,by omega,lh (H0.out.below B0)⟩
 case round =>
  obtain⟨f,c,k,s,rfl,HP,HC,hc2,hc3,HJ⟩:=hrel;obtain⟨g,rfl⟩:∃ g,f=g+1:=⟨f - 1,by have:=HC.out;omega⟩;have hnx:=zhb p sv l fl cd c id k w0 wr HJ.out.sh hc2 (by omega);have hmt:=zfu ⟨p,0,none⟩;have hP:=HP.out;unfold zbt at hP;by_cases hf:c+1=fl
  · rw[if_pos hf] at hP;have hcd':cd≠0∧cd≠6:=by rcases hcd with h|h;exact h;omega
    unfold nxV at hnx;rw[if_pos hf] at hnx;have HN:=lh hnx;have HPP:=lh hP;have t1:(cd==6)=false:=by rw[beq_eq_false_iff_ne];exact hcd'.2
    have t2:(cd==0)=false:=by rw[beq_eq_false_iff_ne];exact hcd'.1
    have t3:(cd != 0)=true:=by rw[bne_iff_ne];exact hcd'.1
    clear hnx hP hcd' hf;go_wp2_with (go_at_call 324;(refine HN.out.mono ?_);rintro _ w2 ⟨rfl,s1,s2⟩;have J2:=lh (HJ.out.tick s2 s1);clear s1 s2)
    go_ret
    rw[<-HG.out,<-HPP.out];exact⟨rfl,J2.out⟩
  rw[if_neg hf] at hP;unfold nxV at hnx;rw[if_neg hf] at hnx;clear hf
  cases hx:nx id (Ds.bl k) l with
  | none =>
    rw[hx] at hP hnx;have HN:=lh hnx;have HPP:=lh hP;clear hnx hP hx;go_wp2_with (go_at_call 324;(refine HN.out.mono ?_);rintro _ w2 ⟨rfl,s1,s2⟩;have J2:=lh (HJ.out.tick s2 s1);clear s1 s2)
    go_ret
    rw[<-HG.out,<-HPP.out];exact⟨rfl,J2.out⟩
  | some x =>
    rw[hx] at hP hnx;obtain⟨hmem,-,hx3⟩:=zdI hx;have hcn:=zjt hx;obtain⟨xi,xk,xr⟩:=x;have hks:=hkz _ hmem;clear hmem;simp only at hP hnx hx3 hcn hks
    have hpos:1<=xk.size:=by
     rcases Nat.eq_zero_or_pos xk.size with h|h
     · have:Ds.bl xk=[]:=List.eq_nil_of_length_eq_zero (by rw[Ds.bl_length];exact h);rw[this,zeA] at hx3;cases hx3
     · exact h
    have HN:=lh hnx;have HCM:=lh hcn;have HCN:Hid (cnt id (Ds.bl xk) l<g):=lh (by have:=HC.out;omega);have hb0:xk[0]'hpos=(Ds.bl xk).headD 0:=zgF xk hpos;have g0:(0:Int)<=0∧(0:Int)<(xk.size:Int):=by omega
    clear hnx hx hx3 hcn;generalize (Ds.bl xk).headD 0=q at hP hb0;by_cases h80:L<q
    · rw[if_pos h80] at hP;have HPP:=lh hP;have q1:((L.toNat:Nat):Int)<((q.toNat:Nat):Int):=Int.ofNat_lt.2 (UInt8.lt_iff_toNat_lt.1 h80);have q2:decide (((L.toNat:Nat):Int)<((q.toNat:Nat):Int))=true:=decide_eq_true q1;have q3:L.toNat<q.toNat:=UInt8.lt_iff_toNat_lt.1 h80;have q4:decide (L.toNat<q.toNat)=true:=decide_eq_true q3;clear hP h80;go_wp2_with (go_at_call 324;(refine HN.out.mono ?_);rintro _ w2 ⟨rfl,s1,s2⟩;have J2:=lh (HJ.out.tick s2 s1);clear s1 s2)
      go_ret
      rw[<-HG.out,<-HPP.out];exact⟨rfl,J2.out⟩
    rw[if_neg h80] at hP;by_cases h8:q<L
    · rw[if_pos h8] at hP;have HPP:=lh hP;have q1:¬ ((L.toNat:Nat):Int)<((q.toNat:Nat):Int):=fun h=>h80 (UInt8.lt_iff_toNat_lt.2 (Int.ofNat_lt.1 h))
      have q2:decide (((L.toNat:Nat):Int)<((q.toNat:Nat):Int))=false:=decide_eq_false q1;have q3:¬ L.toNat<q.toNat:=fun h=>h80 (UInt8.lt_iff_toNat_lt.2 h)
      have q4:decide (L.toNat<q.toNat)=false:=decide_eq_false q3;have q5:¬ q.toNat=L.toNat:=by have:=UInt8.lt_iff_toNat_lt.1 h8;omega
      have q6:(((q.toNat:Nat):Int)==((L.toNat:Nat):Int))=false:=by rw[beq_eq_false_iff_ne];omega
      have q7:(q.toNat==L.toNat)=false:=by rw[beq_eq_false_iff_ne];omega
      clear hP h80 h8;go_wp2_with (go_at_call 324;(refine HN.out.mono ?_);rintro _ w2 ⟨rfl,s1,s2⟩;have J2:=lh (HJ.out.tick s2 s1);clear s1 s2)
      go_roundw
      case rel=>exact⟨g,c+1,xk,s,rfl,HPP,HCN,by omega,by omega,J2⟩
      case measure=>exact HCM.out
    rw[if_neg h8] at hP
    obtain rfl:q=L:=by
     refine UInt8.toNat_inj.1 ?_
     have h1:¬ L.toNat<q.toNat:=fun h=>h80 (UInt8.lt_iff_toNat_lt.2 h)
     have h2:¬ q.toNat<L.toNat:=fun h=>h8 (UInt8.lt_iff_toNat_lt.2 h)
     omega
    have q2:decide (((q.toNat:Nat):Int)<((q.toNat:Nat):Int))=false:=decide_eq_false (by omega);have q4:decide (q.toNat<q.toNat)=false:=decide_eq_false (by omega);clear h80 h8;have hP2:zbt l id fl cd q (unS pre) g (c+1) (Ds.bl xk) (s || unN pre (zaZ xk))=R:=hP;have HPP:=lh hP2;clear hP hP2;have HUS:=lh (fun W (hb:Below w0.heap.size w0 W) cp ct ft=>zs4 bp bt pre s xk xr W (hm.below hb) hpos hks hps cp ct ft);generalize unN pre (zaZ xk)=un at HPP HUS
    go_wp2_with (first
     | (go_at_call 324;(refine HN.out.mono ?_);rintro _ w2 ⟨rfl,s1,s2⟩;have J2:=lh (HJ.out.tick s2 s1);clear s1 s2)
     | (go_at_call 193;(refine (HUS.out _ J2.out.sh.b J2.out.cp J2.out.ct J2.out.ft).mono ?_);rintro _ w3 ⟨rfl,w4,hb4,hc4⟩;have J3:=lh (show UnJ w0 wq w3 p bp bt pre sv l fl cd (c+1) (s || un) from by rcases hc4 with ⟨rfl,rfl⟩ | ⟨rfl,rfl⟩;(rw[Bool.or_false];exact J2.out.below hb4);(rw[Bool.or_true];exact (J2.out.below hb4).set));clear hb4 hc4))
    go_roundw
    case rel=>exact⟨g,c+1,xk,s || un,rfl,HPP,HCN,by omega,by omega,J3⟩
    case measure=>exact HCM.out
end
section
set_option linter.unusedSimpArgs false
theorem zsK{σ ρ:Type}{step:σ->ByteArray->ByteArray->Except ρ σ}{l:List Rw}{id fl cd:Int}{L:UInt8} :
  ∀ (f:Nat) (c:Int) (k:List UInt8) (s:σ),c<=(zbt l id fl cd L step f c k s).2∧(zbt l id fl cd L step f c k s).2<=c+f:=fun f c k s=>zc2 f c k s
theorem zs5(l:List Rw)(fl cd id:Int)(p:ByteArray)(L:UInt8)(c:Int):c<=(zhj l fl cd id p L c).2∧(zhj l fl cd id p L c).2<=c+l.length+1:=by
 have h:=zsK (step:=unS p) (l:=l) (id:=id) (fl:=fl) (cd:=cd) (L:=L) (l.length+1) c [L - 1,255] false;unfold zhj
 cases hr:zbt l id fl cd L (unS p) (l.length+1) c [L - 1,255] false with
 | mk a c =>
   rw[hr] at h
   cases a with
   | error e=>unfold unR;dsimp only at h ⊢;omega
   | ok p=>obtain⟨s,e⟩:=p;unfold unR;dsimp only at h ⊢;omega
def zvJ(i:Nat):List UInt8:=[68,71,65].drop i
theorem zr6(i:Nat)(h:i<3):∃ L:UInt8,zvJ i=L::zvJ (i+1)∧IntKind.u8.wrap ((L.toNat:Int) - 1)=((L - 1).toNat:Int)∧#[Value.int .u8 68,.int .u8 71,.int .u8 65][i]?=some (.int .u8 (L.toNat:Nat)):=by
 have:i=0∨i=1∨i=2:=by omega
 rcases this with rfl|rfl|rfl
 · exact⟨68,rfl,by decide,rfl⟩
 · exact⟨71,rfl,by decide,rfl⟩
 · exact⟨65,rfl,by decide,rfl⟩
structure UuJ (w0 w W:World) (p h:Nat) (pre:ByteArray) (sv:Value) (l:List Rw) (fl cd c:Int):Prop where
 sh:SHs w0 W p sv l fl cd c
 g:w.grownBy W (some p)
 cp:W.cell? ⟨h,0,none⟩=some (.string pre)
 kL:W.heap[h+1]?=some (.cells #[.int .u8 68,.int .u8 71,.int .u8 65] 5 (3,4))
 z:h+2<=W.heap.size
theorem zs7{W:World}{h i:Nat}{v:Value}(k:W.heap[h+1]?=some (.cells #[.int .u8 68,.int .u8 71,.int .u8 65] 5 (3,4)))(e:#[Value.int .u8 68,.int .u8 71,.int .u8 65][i]?=some v):W.cell? ⟨h+1,i,none⟩=some v:=by
 unfold World.cell?;rw[k];exact e
theorem UuJ.next{w0 w W W':World}{p h bt:Nat}{pre:ByteArray}{sv:Value}{l:List Rw}{fl cd c c':Int}{s:Bool}(H:UuJ w0 w W p h pre sv l fl cd c)(hp:p<h)(hJ:UnJ w0 W W' p h bt pre sv l fl cd c' s):UuJ w0 w W' p h pre sv l fl cd c':=by
 have z:=H.z;exact⟨hJ.sh,zat H.g hJ.g,hJ.cp,(hJ.g.block (h+1) (by omega) (fun e=>by have:=Option.some.inj e;omega)).trans H.kL,by have:=hJ.g.size;omega⟩
theorem UuJ.start{w0 w W:World}{p h:Nat}{pre:ByteArray}{sv:Value}{l:List Rw}{fl cd c:Int}(H:UuJ w0 w W p h pre sv l fl cd c)(hp:p<h)(hz:w0.heap.size<=h)(hso:∀ b,sv.ownBlock=some b->b<h):UnJ w0 W (W.alloc (.cells #[.bool false] 4)) p h W.heap.size pre sv l fl cd c false:=by
 have b:=zab W (.cells #[.bool false] 4);have z:=H.z;exact⟨H.sh.below b,zad _ b,(World.cell?_of_block (a:=⟨h,0,none⟩) (b.block h (by omega))).trans H.cp,by simp [go_sem],by simp [go_sem],by omega,by omega,Nat.le_refl _,by omega,by omega,fun q hq=>by have:=hso q hq;omega⟩
theorem zhO(p:Nat)(pre:ByteArray)(sv:Value)(l:List Rw)(fl cd ca id:Int)(w0 w:World)(hm:MaxL w0)(hS:SHs w0 w p sv l fl cd ca)(hso:∀ b,sv.ownBlock=some b->b<w.heap.size)(hl:l.length<=1000)(hkz:∀ x∈l,x.2.1.size<=1000)(hps:pre.size<=1000)(hc0:0<=ca)(hc1:ca<=80000)(hcd:cd≠0∧cd≠6∨fl<=0) :
  Calls Tryz.prog 129 #[.iface 31 (.pointer (some ⟨p,0,none⟩)),.int .i64 id,.string pre] w fun r w' =>
   r=.returned (.int .i64 (zii l fl cd ca id pre).1)∧SHs w0 w' p sv l fl cd (zii l fl cd ca id pre).2∧w.grownBy w' (some p):=by
 have hpl:=hS.pl;have hz0:=hS.b.size;obtain⟨g,hg⟩:∃ g,zii l fl cd ca id pre=g:=⟨_,rfl⟩;rw[hg];unfold zii at hg;have kc:=Go.Lib.run_convert_bytes_const (P:=Tryz.prog) (w.alloc (.cells #[.string pre] 9)) 157 5 #[.int .u8 68,.int .u8 71,.int .u8 65] 3 3 Tryz.underlying157 Tryz.underlying5;obtain⟨h,hh⟩:∃ h,w.heap.size=h:=⟨_,rfl⟩;simp only[World.size_alloc] at kc
 rw[hh] at kc hpl hso hz0
 have hJ0:UuJ w0 w ((w.alloc (.cells #[.string pre] 9)).alloc (.cells #[.int .u8 68,.int .u8 71,.int .u8 65] 5 (3,4))) p h pre sv l fl cd ca:=by
  have b:Below w.heap.size w ((w.alloc (.cells #[.string pre] 9)).alloc (.cells #[.int .u8 68,.int .u8 71,.int .u8 65] 5 (3,4))):=by exact zbo
  refine⟨hS.below b,zad _ b,by rw[<-hh];simp [go_sem],?_,by simp;omega⟩
  have:=heap_alloc_new (w.alloc (.cells #[.string pre] 9)) (.cells #[.int .u8 68,.int .u8 71,.int .u8 65] 5 (3,4));rw[World.size_alloc,hh] at this;exact this
 have HJ0:=lh hJ0;have HG:=lh hg;clear hJ0 hS hg;go_enter Tryz.func129,Tryz.ntmps129
 go_wp2_with fail
 go_loopw [14] (fun kv wr=>∃ (i:Nat) (c:Int),kv=.int .i64 (i:Int)∧i<=3∧Hid (zqG l fl cd id pre (zvJ i) c=g)∧0<=c∧c<=ca+i*(l.length+1)∧Hid (UuJ w0 w wr p h pre sv l fl cd c)) (fun kv _=>(3 - intOf kv).toNat)
 case atStart=>exact⟨0,ca,rfl,by omega,HG,hc0,by omega,HJ0⟩
 case round =>
  obtain⟨i,c,rfl,hi,HL,hc2,hc3,HJ⟩:=hrel;by_cases hi3:i<3
  rotate_left
  · obtain rfl:i=3:=by omega
    have hL:=HL.out;have hL2:((0:Int),c)=g:=hL;subst hL2;go_wp2_with fail
    go_ret
    exact⟨rfl,HJ.out.sh,HJ.out.g⟩
  obtain⟨L,hL1,hLw,hLe⟩:=zr6 i hi3;have kL:=zs7 HJ.out.kL hLe;have hq:=zs5 l fl cd id pre L c
  have hcm:c<=90000:=by
   have:(i:Int)*((l.length:Int)+1)<=3*1001:=Int.mul_le_mul (by omega) (by omega) (by omega) (by omega);omega
  have hal:=zu6 p h wr.heap.size pre sv l fl cd c id L w0 wr _ hm hLw (HJ.out.start hpl hz0 hso) hl hkz hps hc2 hcm hcd;have hl2:=HL.out;rw[hL1,zqG] at hl2;have hi4:((i+1:Nat):Int)*((l.length:Int)+1)=(i:Int)*((l.length:Int)+1)+(l.length+1):=by rw[Int.natCast_add,Int.add_mul];omega
  generalize zhj l fl cd id pre L c=Q at hal hq hl2;obtain⟨⟨s,code⟩,c2⟩:=Q;dsimp only at hal hq hl2;have HAL:=lh hal;have HL2:=lh hl2;clear hal hl2 hLw hLe hL1;by_cases h0:code=0
  rotate_left
  · have t1:(code != 0)=true:=bne_iff_ne.2 h0;go_wp2_with (go_at_call 68;(refine HAL.out.mono ?_);rintro _ w3 ⟨rfl,hb⟩;have J3:=lh hb;clear hb)
    go_ret
    have e:=HL2.out;rw[if_pos h0] at e;subst e;exact⟨rfl,J3.out.sh,zat HJ.out.g J3.out.g⟩
  subst h0;cases s
  · go_wp2_with (go_at_call 68;(refine HAL.out.mono ?_);rintro _ w3 ⟨rfl,hb⟩;have J3:=lh hb;have ct:=hb.ct;clear hb)
    go_roundw
    case rel=>exact⟨i+1,c2,rfl,by omega,lh (by have e:=HL2.out;rw[if_neg (fun h=>h rfl),if_neg (by decide)] at e;exact e),by omega,by rw[hi4];omega,lh (HJ.out.next hpl J3.out)⟩
    case measure=>simp [intOf];omega
  · go_wp2_with (go_at_call 68;(refine HAL.out.mono ?_);rintro _ w3 ⟨rfl,hb⟩;have J3:=lh hb;have ct:=hb.ct;clear hb)
    go_ret
    have e:=HL2.out;rw[if_neg (fun h=>h rfl),if_pos trivial] at e;subst e;exact⟨rfl,J3.out.sh,zat HJ.out.g J3.out.g⟩
end
section
set_option linter.unusedSimpArgs false
attribute [local go_sem ↓] zaV zaW zaz za1 zi8
attribute [local go_sem] zav zap zal zaI zaJ zae zaq zai zaw zao zas zan zaa zaj zaf zaA zax zak zag zar zaG zaC zaE
def zf3(pre:ByteArray)(id:Int):Fu:=({ En.zero with kind:=3,name:=pre,cat:=id },[],[])
def zk4(pre:ByteArray)(id:Int):Array Value:=#[.int .i64 3,.string pre,.int .i64 0,.int .i64 0,.int .i64 0,.int .i64 0,.int .i64 0,.int .i64 0,.int .i64 0,.int .i64 0,.int .i64 0,.int .i64 0,.int .i64 0,.int .i64 0,.int .i64 0,.int .i64 0,.bool false,.int .i64 0,.string ⟨#[]⟩,.string ⟨#[]⟩,.int .i64 0,.int .i64 0,.bool false,.slice none 0 0,.int .i64 0,.int .i64 0,.int .i64 0,.bool false,.string ⟨#[]⟩,.string ⟨#[]⟩,.int .i64 id,.int .i64 0,.slice none 0 0]
theorem zre(pre:ByteArray)(id:Int):(zf3 pre id).1.vals (.slice none 0 0) (.slice none 0 0)=zk4 pre id:=by unfold zf3 zk4 En.vals En.zero;rfl
def con1F(l:List Rw)(fl cd ca old:Int)(pre:ByteArray)(id:Int):(List Ch × Int) × Int :=
 if (zii l fl cd ca old pre).1≠0 then (([],(zii l fl cd ca old pre).1),(zii l fl cd ca old pre).2)
 else if okX (zf3 pre id)=true then (([zby 1 (zf3 pre id)],0),(zii l fl cd ca old pre).2) else (([],1),(zii l fl cd ca old pre).2)
def ztp(l:List Rw)(fl cd ca:Int)(pre:ByteArray)(id:Int):(List Ch × Int) × Int :=
 if zeC pre=false∨id<2∨15<id then (([],1),ca)
 else if (zbn l fl cd ca 1 3 pre).1.2=0 then (([],5),(zbn l fl cd ca 1 3 pre).2)
 else if (zbn l fl cd ca 1 3 pre).1.2≠6 then (([],(zbn l fl cd ca 1 3 pre).1.2),(zbn l fl cd ca 1 3 pre).2)
 else inF l fl cd (zbn l fl cd ca 1 3 pre).2 pre (fun old c=>con1F l fl cd c old pre id)
def zts(l:List Rw)(fl cd ca:Int)(pre:ByteArray):(List Ch × Int) × Int :=
 if zeC pre=false then (([],1),ca)
 else if (zbn l fl cd ca 1 3 pre).1.2≠0 then (([],(zbn l fl cd ca 1 3 pre).1.2),(zbn l fl cd ca 1 3 pre).2)
 else if (zii l fl cd (zbn l fl cd ca 1 3 pre).2 (zbn l fl cd ca 1 3 pre).1.1.1.cat pre).1≠0 then (([],(zii l fl cd (zbn l fl cd ca 1 3 pre).2 (zbn l fl cd ca 1 3 pre).1.1.1.cat pre).1),(zii l fl cd (zbn l fl cd ca 1 3 pre).2 (zbn l fl cd ca 1 3 pre).1.1.1.cat pre).2)
 else (([zbf 1 (zbn l fl cd ca 1 3 pre).1.1],0),(zii l fl cd (zbn l fl cd ca 1 3 pre).2 (zbn l fl cd ca 1 3 pre).1.1.1.cat pre).2)
theorem zr8(p h:Nat)(sv:Value)(l:List Rw)(fl cd ca old id:Int)(pre:ByteArray)(w0 w:World)(hm:MaxL w0)(hT:Tab w0)(hS:SHs w0 w p sv l fl cd ca)(hso:∀ b,sv.ownBlock=some b->b<w.heap.size)(hl:l.length<=1000)(hkz:∀ x∈l,x.2.1.size<=1000)(hc0:0<=ca)(hc1:ca<=80000)(hcd:cd≠0∧cd≠6∨fl<=0)(hps:pre.size<=1000)(hph:p<h)(hB:MrB w h p (.string pre) (.int .i64 id)) :
  Calls Tryz.prog 128 #[.int .i64 old,.pointer (some ⟨h,0,none⟩),.pointer (some ⟨h+1,0,none⟩),.pointer (some ⟨h+2,0,none⟩)] w fun r w'=>ChR w0 w w' p sv l fl cd (con1F l fl cd ca old pre id) r:=by
 have c0:=hB.r;have c1:=hB.u;have c2:=hB.v;have hu:=zhO p pre sv l fl cd ca old w0 w hm hS hso hl hkz hps hc0 hc1 hcd;have hzz:=hS.b.size;unfold con1F;generalize zii l fl cd ca old pre=U at hu ⊢;obtain⟨code,cu⟩:=U;dsimp only at hu ⊢;have HU:=lh hu;have HBX:=lh hB;clear hu hS hB;by_cases h0:code=0
 rotate_left
 · rw[if_pos h0];have t1:(code != 0)=true:=bne_iff_ne.2 h0;clear h0;go_enter Tryz.func128,Tryz.ntmps128
   go_wp2_with (go_at_call 129;(refine HU.out.mono ?_);rintro _ w2 ⟨rfl,hs,hg2⟩;have S:=lh hs;have G:=lh hg2;clear hs hg2)
   go_ret2
   exact⟨_,rfl,zbe _,S.out,G.out⟩
 rw[if_neg (fun h=>h h0)];subst h0;have hen:=fun W (b:Below w0.heap.size w0 W)=>zpT (zf3 pre id) (.slice none 0 0) (.slice none 0 0) W (hm.below b) (hT.below b) hps (IS.nil _) (GS.nil _)
 rw[zre] at hen;have hrw:∀ W:World,row (W.alloc (.cells (zk4 pre id) 40)) W.heap.size=zk4 pre id:=fun W=>zai W _ _ (0,0)
 have hcs:(zk4 pre id).size=33:=rfl;have v0:(zk4 pre id)[0]?=some (.int .i64 3):=rfl;have v1:(zk4 pre id)[1]?=some (.string pre):=rfl;have HRW:=lh (fun (W W':World) (hb:Below (W.heap.size+1) (W.alloc (.cells (zk4 pre id) 40)) W')=>zaB (by rw[World.size_alloc];exact hb) (hrw W) (by rw[hcs];decide));have hone:zaM (zk4 pre id).toList=true:=by unfold zk4;simp [go_sem,zaj,zaf,zaA,zax,zak,zar]
 have HK:=lh (fun W=>zd9 3 pre W);clear hrw;cases hok:okX (zf3 pre id)
 · rw[if_neg (by decide)];simp only[hok] at hen
   generalize zcF (zf3 pre id)=rz at hen;unfold zk4 at hen;have HEN:=lh hen;clear hen hok HRW hone v0 v1 hcs;go_enter Tryz.func128,Tryz.ntmps128
   go_wp2_with (first
    | (go_at_call 129;(refine HU.out.mono ?_);rintro _ w2 ⟨rfl,hs,hg2⟩;have c1:=(HBX.out.grown hph hg2).u;have c2:=(HBX.out.grown hph hg2).v;have S:=lh hs;have G:=lh hg2;clear hs hg2)
    | (go_at_call 32;(refine (HEN.out _ (S.out.below (zab _ _)).b).mono ?_);rintro _ w3 ⟨rfl,hb⟩;have B3:=lh (bt (zab w2 _) hb);clear hb))
   go_ret2
   exact⟨_,rfl,zbe _,S.out.below B3.out,zay G.out (B3.out.mono G.out.size)⟩
 rw[if_pos rfl];have hco:=fun W=>ziB W (zby 1 (zf3 pre id))
 unfold zby ch5 at hco;have hkk:zaT (zf3 pre id).1.kind (zf3 pre id).1.name=zaT 3 pre:=rfl;rw[hkk] at hco
 unfold zby;rw[hkk];simp only[hok] at hen
 generalize zcF (zf3 pre id)=rz at hen hco ⊢;generalize zaT 3 pre=kz at HK hco ⊢;have HCO:=lh hco;unfold zk4 at hen;have HEN:=lh hen;clear hen hok hco hone;go_enter Tryz.func128,Tryz.ntmps128
 go_wp2_with (first
  | (go_at_call 129;(refine HU.out.mono ?_);rintro _ w2 ⟨rfl,hs,hg2⟩;have c1:=(HBX.out.grown hph hg2).u;have c2:=(HBX.out.grown hph hg2).v;have S:=lh hs;have G:=lh hg2;clear hs hg2)
  | (go_at_call 32;(refine (HEN.out _ (S.out.below (zab _ _)).b).mono ?_);rintro _ w3 ⟨rfl,hb⟩;have R3:=HRW.out w2 w3 (by rw[World.size_alloc] at hb;exact hb);have n0:=zah R3 0 _ v0;have n1:=zah R3 1 _ v1;have B3:=lh (bt (zab w2 _) hb);clear hb R3)
  | (go_at_call 70;(with_reducible refine (HK.out _).mono ?_);rintro _ w4 ⟨rfl,hb4⟩;have B4:=lh (bt (bt B3.out hb4) (zab w4 (.cells #[.int .i64 0,.int .i64 1,.string kz,.string rz,.string ⟨#[]⟩] 123)));clear hb4))
 go_ret2
 exact⟨_,rfl,HCO.out _,S.out.below B4.out,zay G.out (B4.out.mono G.out.size)⟩
theorem zkL(p:Nat)(sv:Value)(l:List Rw)(fl cd ca id:Int)(pre:ByteArray)(w0 w:World)(hm:MaxL w0)(hT:Tab w0)(hS:SHs w0 w p sv l fl cd ca)(hso:∀ b,sv.ownBlock=some b->b<w.heap.size)(hl:l.length<=1000)(hkz:∀ x∈l,x.2.1.size<=1000)(hc0:0<=ca)(hc1:ca<=60000)(hcd:cd≠0∧cd≠6∨fl<=0)(hps:pre.size<=1000) :
  Calls Tryz.prog 65 #[.iface 31 (.pointer (some ⟨p,0,none⟩)),.string pre,.int .i64 id] w fun r w'=>ChR w0 w w' p sv l fl cd (ztp l fl cd ca pre id) r:=by
 have hpl:=hS.pl;have hcd2:cd≠0∨fl<=0:=hcd.imp (fun h=>h.1) (fun h=>h);have HS:=lh hS;have hb1:Below w.heap.size w (((w.alloc (.cells #[.iface 31 (.pointer (some ⟨p,0,none⟩))] 61)).alloc (.cells #[.string pre] 9)).alloc (.cells #[.int .i64 id] 3)):=by exact zbo
 have hB0:MrB (((w.alloc (.cells #[.iface 31 (.pointer (some ⟨p,0,none⟩))] 61)).alloc (.cells #[.string pre] 9)).alloc (.cells #[.int .i64 id] 3)) w.heap.size p (.string pre) (.int .i64 id):=⟨by simp [go_sem],by simp [go_sem],by simp [go_sem],by simp⟩;have HB1:=lh hb1;have HBM:=lh hB0;have hpf:=fun W (b:Below w0.heap.size w0 W)=>zhN pre W (hm.below b)
 have hget:=fun W (h:SHs w0 W p sv l fl cd ca)=>zdd p sv l fl cd ca 1 3 pre w0 W hm hT h hc0 (by omega) hcd2
 have hca:=zbJ l fl cd ca 1 3 pre;unfold ztp;generalize zeC pre=pf at hpf ⊢;have HPF:=lh hpf;clear hS hB0 hb1 hpf;cases pf
 rw[if_pos (.inl rfl)];clear hget hca;rotate_left;by_cases h1:id<2
 rw[if_pos (.inr (.inl h1))];have t1:decide (id<2)=true:=decide_eq_true h1;clear hget hca h1;rotate_left;have t1:decide (id<2)=false:=decide_eq_false h1;by_cases h2:15<id
 rw[if_pos (.inr (.inr h2))];have t2:decide (15<id)=true:=decide_eq_true h2;clear hget hca h1 h2;rotate_left;have t2:decide (15<id)=false:=decide_eq_false h2;rw[if_neg (by rintro (h|h|h);cases h;exact h1 h;exact h2 h)];generalize zbn l fl cd ca 1 3 pre=gg at hget hca ⊢;obtain⟨⟨y,code⟩,cb⟩:=gg;dsimp only at hca ⊢;have HGE:=lh hget;clear hget h1 h2;by_cases h0:code=0
 subst h0;rw[if_pos rfl];rotate_left;rw[if_neg h0];have t3:(code==0)=false:=beq_eq_false_iff_ne.2 h0;by_cases h6:code≠6
 rw[if_pos h6];have t4:(code != 6)=true:=bne_iff_ne.2 h6;clear h0 h6;rotate_left;rw[if_neg h6];have t4:(code != 6)=false:=by simpa using h6
 have HH:=lh (fun W (hs:SHs w0 W p sv l fl cd cb) (hz:w.heap.size<=W.heap.size) (hb:MrB W w.heap.size p (.string pre) (.int .i64 id))=>zjW 128 (.inr (.inr (.inr (.inr (.inr rfl))))) #[.pointer (some ⟨w.heap.size,0,none⟩),.pointer (some ⟨w.heap.size+1,0,none⟩),.pointer (some ⟨w.heap.size+2,0,none⟩)] p sv l fl cd cb pre (fun old c=>con1F l fl cd c old pre id) w0 W hm hT hs (by omega) (by omega) hcd (fun old c W2 h2 g2 q1 q2=>zr8 p w.heap.size sv l fl cd c old id pre w0 W2 hm hT h2 (fun b e=>by have:=hso b e;have:=g2.size;omega) hl hkz (by omega) (by omega) hcd hps hpl (hb.grown hpl g2)));generalize inF l fl cd cb pre (fun old c=>con1F l fl cd c old pre id)=g at HH ⊢;clear h0 h6
 all_goals
  go_enter Tryz.func65,Tryz.ntmps65
  go_wp2_with (first
   | (go_at_call 127;(refine (HPF.out _ (HS.out.below HB1.out).b).mono ?_);rintro _ w2 ⟨rfl,hb⟩;have HB2:=lh (HBM.out.below hb);have r2:=HB2.out.r;have u2:=HB2.out.u;have v2:=HB2.out.v;have B2:=lh (bt HB1.out hb);clear hb)
   | (go_at_call 35;(refine (HGE.out _ (HS.out.below B2.out)).mono ?_);rintro _ w3 ⟨⟨al2,gr2,rfl,hI,hGs,hf1,hf2⟩,hs3,hg3⟩;have hone:=zau y.1 al2 gr2 (zaP hI) (zaO hGs);have HB3:=lh ((HB2.out.grown hpl hg3).below (zab w3 (.cells (y.1.vals al2 gr2) 40)));have r3:=HB3.out.r;have u3:=HB3.out.u;have S3:=lh (hs3.below (zab w3 (.cells (y.1.vals al2 gr2) 40)));have G3:=lh (zbc (zat (zad _ B2.out) hg3) (zab w3 (.cells (y.1.vals al2 gr2) 40)));clear hI hGs hf1 hf2 hs3 hg3)
   | (go_at_call 123;(refine (HH.out _ S3.out G3.out.size HB3.out).mono ?_);rintro _ w4 ⟨ov,rfl,hch,hs,hg3⟩;have S4:=lh hs;have G4:=lh hg3;have C4:=lh hch;clear hs hg3 hch))
  go_ret2
  first|exact⟨_,rfl,C4.out,S4.out,zat G3.out G4.out⟩|exact⟨_,rfl,zbe _,S3.out,G3.out⟩|exact⟨_,rfl,zbe _,HS.out.below B2.out,zad _ B2.out⟩
theorem zgR(p:Nat)(sv:Value)(l:List Rw)(fl cd ca:Int)(pre:ByteArray)(w0 w:World)(hm:MaxL w0)(hT:Tab w0)(hS:SHs w0 w p sv l fl cd ca)(hso:∀ b,sv.ownBlock=some b->b<w.heap.size)(hl:l.length<=1000)(hkz:∀ x∈l,x.2.1.size<=1000)(hc0:0<=ca)(hc1:ca<=70000)(hcd:cd≠0∧cd≠6∨fl<=0)(hps:pre.size<=1000) :
  Calls Tryz.prog 66 #[.iface 31 (.pointer (some ⟨p,0,none⟩)),.string pre] w fun r w'=>ChR w0 w w' p sv l fl cd (zts l fl cd ca pre) r:=by
 have hpl:=hS.pl;have hcd2:cd≠0∨fl<=0:=hcd.imp (fun h=>h.1) (fun h=>h);have HS:=lh hS;have hpf:=fun W (b:Below w0.heap.size w0 W)=>zhN pre W (hm.below b)
 have hget:=fun W (h:SHs w0 W p sv l fl cd ca)=>zdd p sv l fl cd ca 1 3 pre w0 W hm hT h hc0 (by omega) hcd2
 have hca:=zbJ l fl cd ca 1 3 pre;unfold zts;generalize zeC pre=pf at hpf ⊢;have HPF:=lh hpf;clear hS hpf;cases pf
 · rw[if_pos rfl];clear hget hca;go_enter Tryz.func66,Tryz.ntmps66
   go_wp2_with (go_at_call 127;(refine (HPF.out _ HS.out.b).mono ?_);rintro _ w2 ⟨rfl,hb⟩;have B2:=lh hb;clear hb)
   go_ret2
   exact⟨_,rfl,zbe _,HS.out.below B2.out,zad _ B2.out⟩
 rw[if_neg (by decide)];generalize zbn l fl cd ca 1 3 pre=gg at hget hca ⊢;obtain⟨⟨y,code⟩,cb⟩:=gg;dsimp only at hca ⊢;have HGE:=lh hget;clear hget;by_cases h0:code=0
 rotate_left
 · rw[if_pos h0];have t3:(code != 0)=true:=bne_iff_ne.2 h0;clear h0;go_enter Tryz.func66,Tryz.ntmps66
   go_wp2_with (first
    | (go_at_call 127;(refine (HPF.out _ HS.out.b).mono ?_);rintro _ w2 ⟨rfl,hb⟩;have B2:=lh hb;clear hb)
    | (go_at_call 35;(refine (HGE.out _ (HS.out.below B2.out)).mono ?_);rintro _ w3 ⟨⟨al2,gr2,rfl,hI,hGs,hf1,hf2⟩,hs3,hg3⟩;have hone:=zau y.1 al2 gr2 (zaP hI) (zaO hGs);have S3:=lh (hs3.below (zab w3 (.cells (y.1.vals al2 gr2) 40)));have G3:=lh (zbc (zat (zad _ B2.out) hg3) (zab w3 (.cells (y.1.vals al2 gr2) 40)));clear hI hGs hf1 hf2 hs3 hg3))
   go_ret2
   exact⟨_,rfl,zbe _,S3.out,G3.out⟩
 subst h0;rw[if_neg (fun h=>h rfl)];have hun:=fun W (hs:SHs w0 W p sv l fl cd cb) (hz:w.heap.size<=W.heap.size)=>zhO p pre sv l fl cd cb y.1.cat w0 W hm hs (fun b e=>by have:=hso b e;omega) hl hkz hps (by omega) (by omega) hcd
 have v0:=fun al gr=>zaC y.1 al gr
 have v1:=fun al gr=>zaE y.1 al gr
 have v30:=fun al gr=>zbM y.1 al gr
 have hs33:=fun al gr=>zaa y.1 al gr
 have hVL:=lh v0;have hVL1:=lh v1;have hVL30:=lh v30;have hVS:=lh hs33;clear v0 v1 v30 hs33;generalize zii l fl cd cb y.1.cat pre=U at hun ⊢;obtain⟨uc,cu⟩:=U;dsimp only at hun ⊢;have HUN:=lh hun;clear hun;by_cases h1:uc=0
 rotate_left
 · rw[if_pos h1];have t3:(uc != 0)=true:=bne_iff_ne.2 h1;clear h1;go_enter Tryz.func66,Tryz.ntmps66
   go_wp2_with (first
    | (go_at_call 127;(refine (HPF.out _ HS.out.b).mono ?_);rintro _ w2 ⟨rfl,hb⟩;have B2:=lh hb;clear hb)
    | (go_at_call 35;(refine (HGE.out _ (HS.out.below B2.out)).mono ?_);rintro _ w3 ⟨⟨al2,gr2,rfl,hI,hGs,hf1,hf2⟩,hs3,hg3⟩;have hone:=zau y.1 al2 gr2 (zaP hI) (zaO hGs);have R3:=zai w3 (y.1.vals al2 gr2) 40 (0,0);have n30:=zah R3 30 _ (hVL30.out _ _);have S3:=lh (hs3.below (zab w3 (.cells (y.1.vals al2 gr2) 40)));have G3:=lh (zbc (zat (zad _ B2.out) hg3) (zab w3 (.cells (y.1.vals al2 gr2) 40)));clear hI hGs hf1 hf2 hs3 hg3)
    | (go_at_call 129;(refine (HUN.out _ S3.out G3.out.size).mono ?_);rintro _ w4 ⟨rfl,hs,hg2⟩;have S4:=lh hs;have G4:=lh hg2;clear hs hg2))
   go_ret2
   exact⟨_,rfl,zbe _,S4.out,zat G3.out G4.out⟩
 subst h1;rw[if_neg (fun h=>h rfl)];have hco:=fun W=>ziB W (zbf 1 y)
 unfold zbf ch5 at hco;dsimp only at hco;unfold zbf;have HK:=lh (fun W=>zd9 y.1.kind y.1.name W);generalize zaT y.1.kind y.1.name=kz at HK hco ⊢;have HCO:=lh hco;clear hco;go_enter Tryz.func66,Tryz.ntmps66
 go_wp2_with (first
  | (go_at_call 127;(refine (HPF.out _ HS.out.b).mono ?_);rintro _ w2 ⟨rfl,hb⟩;have B2:=lh hb;clear hb)
  | (go_at_call 35;(refine (HGE.out _ (HS.out.below B2.out)).mono ?_);rintro _ w3 ⟨⟨al2,gr2,rfl,hI,hGs,hf1,hf2⟩,hs3,hg3⟩;have hone:=zau y.1 al2 gr2 (zaP hI) (zaO hGs);have zp:=hs3.pl;have R3:=zai w3 (y.1.vals al2 gr2) 40 (0,0);have n30:=zah R3 30 _ (hVL30.out _ _);have S3:=lh (hs3.below (zab w3 (.cells (y.1.vals al2 gr2) 40)));have G3:=lh (zbc (zat (zad _ B2.out) hg3) (zab w3 (.cells (y.1.vals al2 gr2) 40)));clear hI hGs hf1 hf2 hs3 hg3)
  | (go_at_call 129;(refine (HUN.out _ S3.out G3.out.size).mono ?_);rintro _ w4 ⟨rfl,hs,hg2⟩;have R4:=za4 R3 (by rw[hVS.out];decide) hg2 (by omega);have n0:=zah R4 0 _ (hVL.out _ _);have n1:=zah R4 1 _ (hVL1.out _ _);have S4:=lh hs;have G4:=lh (zat G3.out hg2);clear hs hg2)
  | (go_at_call 70;(with_reducible refine (HK.out _).mono ?_);rintro _ w5 ⟨rfl,hb4⟩;have B5:=lh (bt hb4 (zab w5 (.cells #[.int .i64 1,.int .i64 1,.string kz,.string ⟨#[]⟩,.string ⟨#[]⟩] 123)));clear hb4))
 go_ret2
 exact⟨_,rfl,HCO.out _,S4.out.below B5.out,zay G4.out (B5.out.mono G4.out.size)⟩
end
end Go.Proofs.YtefcmdmfgdcpmaaGreatDoor
