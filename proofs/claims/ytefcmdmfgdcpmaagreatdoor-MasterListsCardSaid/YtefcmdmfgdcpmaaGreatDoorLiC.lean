/- Catalogs. -/
import Derived.Test.YtefcmdmfgdcpmaaGreatDoorMx
import Derived.Shelf.SlSortCmp.InsertionK
import Derived.Test.YtefcmdmfgdcpmaaGreatDoorBd
set_option maxRecDepth 100000
set_option maxHeartbeats 16000000
namespace Go.Proofs.YtefcmdmfgdcpmaaGreatDoor
open Go.RowKit
def Fx{β:Type}(z:β)(fl cd:Int)(g:(β × Int) × Int)(v:β × Int):Prop:=(g.2<fl∧g.1=v)∨(g.2=fl∧g.1=(z,cd))
theorem zg4{σ ρ:Type}{step:σ->ByteArray->ByteArray->Except ρ σ}{l:List Rw}{id fl cd:Int}{L:UInt8} :
  ∀ (f:Nat) (c c0:Int) (k:List UInt8) (s:σ),c<fl->0<=c0->((zbt l id fl cd L step f c k s).2<fl∧(zbt l id fl cd L step f c k s).1=(zbt l id 0 0 L step f c0 k s).1)∨((zbt l id fl cd L step f c k s).2=fl∧∃ s',(zbt l id fl cd L step f c k s).1=.ok (s',cd))
 | 0,c,c0,k,s,h,_=>by rw[zbt,zbt];exact .inl ⟨h,rfl⟩
 | f+1,c,c0,k,s,h,hc=>by
   rw[zbt,zbt,if_neg (show ¬ c0+1=0 by omega)];by_cases hf:c+1=fl
   · rw[if_pos hf];exact .inr ⟨hf,s,rfl⟩
   rw[if_neg hf]
   cases nx id k l with
   | none=>exact .inl ⟨by dsimp only;omega,rfl⟩
   | some x =>
     dsimp only;by_cases h1:L<(Ds.bl x.2.1).headD 0
     · rw[if_pos h1,if_pos h1];exact .inl ⟨by dsimp only;omega,rfl⟩
     rw[if_neg h1,if_neg h1];by_cases h2:(Ds.bl x.2.1).headD 0<L
     · rw[if_pos h2,if_pos h2];exact zg4 f _ _ _ _ (by omega) (by omega)
     rw[if_neg h2,if_neg h2]
     cases step s x.2.1 x.2.2 with
     | ok s2=>exact zg4 f _ _ _ _ (by omega) (by omega)
     | error e=>exact .inl ⟨by dsimp only;omega,rfl⟩
def ze5(pt:ByteArray)(s:List Fu)(k r:ByteArray):Except Int (List Fu) :=
 if Ds.match_ (Ds.bl pt) (Ds.bl (zaZ k))=false then .ok s else if (zaS k r).2≠0 then .error (zaS k r).2 else .ok (s++[(zaS k r).1])
def zez(l:List Rw)(fl cd id:Int)(pt:ByteArray)(L:UInt8)(c:Int)(s:List Fu):(List Fu × Int) × Int :=
 match zbt l id fl cd L (ze5 pt) (l.length+1) c [L - 1,255] s with
 | (.ok (s',code),c')=>(if code≠0 then ([],code) else (s',0),c')
 | (.error e,c')=>(([],e),c')
def zey(l:List Rw)(fl cd id:Int)(pt:ByteArray):List UInt8->Int->List Fu->(List Fu × Int) × Int
 | [],c,s=>((s,0),c)
 | L::Ls,c,s=>if (zez l fl cd id pt L c s).1.2≠0 then (([],(zez l fl cd id pt L c s).1.2),(zez l fl cd id pt L c s).2) else zey l fl cd id pt Ls (zez l fl cd id pt L c s).2 (zez l fl cd id pt L c s).1.1
def zfT(l:List Rw)(fl cd ca id most:Int)(pt:ByteArray):(List Fu × Int) × Int :=
 if Ds.pat (Ds.bl pt)=false∨most<0 then (([],1),ca)
 else if (zey l fl cd id pt [68,71,65] ca []).1.2≠0 then (([],(zey l fl cd id pt [68,71,65] ca []).1.2),(zey l fl cd id pt [68,71,65] ca []).2)
 else if most<((zey l fl cd id pt [68,71,65] ca []).1.1.length:Int) then (([],8),(zey l fl cd id pt [68,71,65] ca []).2)
 else zey l fl cd id pt [68,71,65] ca []
theorem zr5{l:List Rw}{fl cd ca c0 id:Int}{pt:ByteArray}{L:UInt8}{s:List Fu}(hcd:cd≠0)(h:ca<fl)(hc:0<=c0):Fx [] fl cd (zez l fl cd id pt L ca s) (zez l 0 0 id pt L c0 s).1:=by
 unfold zez;have q:=zg4 (step:=ze5 pt) (l:=l) (id:=id) (cd:=cd) (L:=L) (l.length+1) ca c0 [L - 1,255] s h hc;generalize zbt l id fl cd L (ze5 pt) (l.length+1) ca [L - 1,255] s=g at q ⊢;generalize zbt l id 0 0 L (ze5 pt) (l.length+1) c0 [L - 1,255] s=g0 at q ⊢;obtain⟨a,c⟩:=g;obtain⟨a0,c00⟩:=g0;rcases q with ⟨h1,h2⟩|⟨h1,s',h2⟩
 · dsimp only at h1 h2;subst h2
   cases a with
   | error e=>exact .inl ⟨h1,rfl⟩
   | ok p=>exact .inl ⟨h1,rfl⟩
 · dsimp only at h1 h2;subst h2;dsimp only;rw[if_pos hcd];exact .inr ⟨h1,rfl⟩
theorem zgP(l:List Rw)(fl cd ca id:Int)(pt:ByteArray)(L:UInt8)(s:List Fu):ca<=(zez l fl cd id pt L ca s).2∧(zez l fl cd id pt L ca s).2<=ca+l.length+1:=by
 have h:=zc2 (step:=ze5 pt) (l:=l) (id:=id) (fl:=fl) (cd:=cd) (L:=L) (l.length+1) ca [L - 1,255] s;unfold zez
 cases hr:zbt l id fl cd L (ze5 pt) (l.length+1) ca [L - 1,255] s with
 | mk a c =>
   rw[hr] at h
   cases a with
   | error e=>dsimp only at h ⊢;omega
   | ok p=>dsimp only at h ⊢;omega
theorem zmw{l:List Rw}{fl cd id:Int}{pt:ByteArray}(hcd:cd≠0):∀ (Ls:List UInt8) (ca c0:Int) (s:List Fu),ca<fl->0<=c0->Fx [] fl cd (zey l fl cd id pt Ls ca s) (zey l 0 0 id pt Ls c0 s).1
 | [],ca,c0,s,h,_=>.inl ⟨h,rfl⟩
 | L::Ls,ca,c0,s,h,hc=>by
   have q:=zgP l 0 0 c0 id pt L s;unfold zey;rcases zr5 (l:=l) (id:=id) (pt:=pt) (L:=L) (s:=s) hcd h hc with ⟨h1,h2⟩|⟨h1,h2⟩
   rotate_left
   · rw[h2,if_pos hcd];exact .inr ⟨h1,rfl⟩
   rw[h2];by_cases h3:(zez l 0 0 id pt L c0 s).1.2≠0
   · rw[if_pos h3,if_pos h3];exact .inl ⟨h1,rfl⟩
   rw[if_neg h3,if_neg h3];exact zmw hcd Ls _ _ _ h1 (by omega)
theorem zr3{l:List Rw}{fl cd ca c0 id most:Int}{pt:ByteArray}(hcd:cd≠0)(h:ca<fl)(hc:0<=c0):Fx [] fl cd (zfT l fl cd ca id most pt) (zfT l 0 0 c0 id most pt).1:=by
 unfold zfT;by_cases hk:Ds.pat (Ds.bl pt)=false∨most<0
 · rw[if_pos hk,if_pos hk];exact .inl ⟨h,rfl⟩
 rw[if_neg hk,if_neg hk];rcases zmw (l:=l) (id:=id) (pt:=pt) hcd [68,71,65] ca c0 [] h hc with ⟨h1,h2⟩|⟨h1,h2⟩
 rotate_left
 · rw[h2,if_pos hcd];exact .inr ⟨h1,rfl⟩
 rw[h2];by_cases h3:(zey l 0 0 id pt [68,71,65] c0 []).1.2≠0
 · rw[if_pos h3,if_pos h3];exact .inl ⟨h1,rfl⟩
 rw[if_neg h3,if_neg h3];by_cases h4:most<((zey l 0 0 id pt [68,71,65] c0 []).1.1.length:Int)
 · rw[if_pos h4,if_pos h4];exact .inl ⟨h1,rfl⟩
 rw[if_neg h4,if_neg h4];exact .inl ⟨h1,h2⟩
section
variable {α:Type} [Inhabited α] {f:α->Array Value} {n:Nat}
theorem zeK{w:World}{g m:Nat}{os:Array Obj}(enc:α->List Value)(d:Array α):w.grownBy (sortWorldK enc n w g 0 m d os) (some g):=by
 unfold sortWorldK Go.Sort.putRowK;refine⟨rfl,rfl,rfl,by simp,fun k hk hne=>?_⟩
 rw[Go.Sort.heap_grow_old _ _ (by simpa using hk)];have:g≠k:=fun e=>hne (by rw[e])
 simp [Go.Sort.putRow,Go.Sort.mapBlock,Go.Sort.ahead,Array.getElem?_modify,this]
theorem zih{w:World}{g m:Nat}{os:Array Obj}{S:List α}{d:Array α}(hf:∀ t,(f t).size=n)(hH:Go.Sort.HoldsK (fun t=>(f t).toList) n w g 0 S.toArray)(hg:g<w.heap.size)(hd:d.size=S.length)(k:Nat)(hk:k<d.size)(j:Nat)(u:Value)(hu:(f d[k])[j]?=some u):(sortWorldK (fun t=>(f t).toList) n w g 0 m d os).cell? ⟨g,k*n+j,none⟩=some u:=by
 have hj:j<n:=by have:=(Array.getElem?_eq_some_iff.1 hu).1;rwa [hf] at this
 have h:=(holdsK_sortWorldK_c (fun t=>(f t).toList) n w g 0 S.toArray d m os hH hg (by simpa using hd)).cell hk hj;rw[Nat.zero_add] at h;rw[h.1,getElem!_pos d k hk,getElem!_pos _ j (by rw[Array.length_toList,hf];exact hj),Array.getElem_toList];rw[Array.getElem?_eq_getElem (by rw[hf];exact hj)] at hu;exact hu
end
section
abbrev SE:Type:=Ef × (Option Addr × Nat) × (Option Addr × Nat)
instance:Inhabited SE:=⟨⟨⟨En.zero,0,0,[]⟩,(none,0),(none,0)⟩⟩
def SE.val(x:SE):Array Value:=x.1.e.vals (.slice x.2.1.1 x.1.n1 x.2.1.2) (.slice x.2.2.1 x.1.n2 x.2.2.2)
def SE.enc(x:SE):List Value:=(SE.val x).toList
def SE.cf(x y:SE):Int:=Lib.compareBytes x.1.e.name.data.toList y.1.e.name.data.toList
theorem SE.size(x:SE):(SE.enc x).length=33:=by
 unfold SE.enc SE.val;rw[Array.length_toList];exact zaa _ _ _
theorem SE.one(x:SE):∀ v∈SE.enc x,v.oneCell'=true:=all1 (zau _ _ _ rfl rfl)
attribute [local go_sem ↓] zaV zaW zaz za1
attribute [local go_sem] zav zap zal zaI zaJ zae zaq zai zaw zao zas zan zaa zaj zaf zaA zax zak zag zar zaG zaC zaE
theorem zu1(x y:SE)(W:World):Calls Tryz.prog 110 #[.agg (SE.val x),.agg (SE.val y)] W fun e w'=>e=.returned (.int .i64 (SE.cf x y))∧∃ q os',w'=Go.Sort.grow (W.drewN q) os':=by
 have hcon:=fun W'=>Tryz.strings_Compare x.1.e.name y.1.e.name W'
 unfold SE.cf SE.val;generalize Lib.compareBytes x.1.e.name.data.toList y.1.e.name.data.toList=r at hcon ⊢;have h1:=zau x.1.e (.slice x.2.1.1 x.1.n1 x.2.1.2) (.slice x.2.2.1 x.1.n2 x.2.2.2) rfl rfl;have h2:=zau y.1.e (.slice y.2.1.1 y.1.n1 y.2.1.2) (.slice y.2.2.1 y.1.n2 y.2.2.2) rfl rfl;go_enter Tryz.func110,Tryz.ntmps110
 go_wp2_with (go_at_call 60;refine (hcon _).mono ?_;rintro e w' ⟨rfl,rfl⟩)
 go_ret
 exact⟨rfl,0,_,by rw[Go.Sort.alloc_eq_grow,Go.Sort.alloc_eq_grow,Go.Sort.grow_grow];rfl⟩
def Tryz.srt_ren:Go.Shelf.Ren:=⟨fun|20=>168|n=>n,fun|0=>0|3=>3|4=>4|22=>50|24=>40|25=>115|n=>n,fun|n=>n⟩
theorem znm:SlLaysF0.n20 Tryz.prog Tryz.srt_ren:={
 mixed:=by kernel_rfl
 f20:=⟨Tryz.f168.name,by decide,Tryz.func168.trans (congrArg some (by kernel_rfl))⟩
 t0:=Tryz.underlying0
 a0:=Tryz.isAgg0
 z0:=Tryz.sizeOf0
 v0:=Tryz.zeroValue0
 t3:=Tryz.underlying3
 a3:=Tryz.isAgg3
 z3:=Tryz.sizeOf3
 v3:=Tryz.zeroValue3
 t4:=Tryz.underlying4
 a4:=Tryz.isAgg4
 z4:=Tryz.sizeOf4
 v4:=Tryz.zeroValue4
 t22:=Tryz.underlying50
 a22:=Tryz.isAgg50
 z22:=Tryz.sizeOf50
 v22:=Tryz.zeroValue50
 t25:=Tryz.underlying115
 a25:=Tryz.isAgg115
 z25:=Tryz.sizeOf115
 v25:=Tryz.zeroValue115 }
theorem zu2(blk cap n:Nat)(d:Array SE)(w:World)(hn:d.size=n)(hH:Go.Sort.HoldsK SE.enc 33 w blk 0 d)(hblk:blk<w.heap.size)(h19:n<=19) :
  Calls Tryz.prog 168 #[.slice (some ⟨blk,0,none⟩) n cap,.int .i64 0,.int .i64 n,.func (.func 110) #[] #[]] w fun e w' =>
   e=.returned (.tuple #[])∧∃ m os,w'=sortWorldK SE.enc 33 w blk 0 m (Sort.insertionSort (ltOf SE.cf) d 0 n) os:=by
 subst hn;exact AnyQ.insertionSortCmpFunc znm 33 Tryz.isAgg40 Tryz.sizeOf40 SE.enc SE.size SE.one SE.cf 110 #[] blk 0 cap 0 d.size d w (enters_of Tryz.func110 (by kernel_rfl) rfl) (fun _ _ _ _ x y=>zu1 x y _) hH hblk (Nat.zero_le _) (Nat.le_refl _) (by omega)
theorem znr(v f:Value)(w:World):Calls Tryz.prog 168 #[v,.int .i64 0,.int .i64 0,f] w fun r w'=>r=.returned (.tuple #[])∧w'=w:=by
 go_enter Tryz.func168,Tryz.ntmps168
 go_wp2_with fail
 go_loopw [8] (fun i wr=>i=.int .i64 1∧wr=w) (fun _ _=>0)
 case atStart=>exact⟨rfl,rfl⟩
 case round =>
  obtain⟨rfl,rfl⟩:=hrel;go_wp2_with fail
  go_end0
  exact⟨rfl,rfl⟩
theorem zsW(v f:Value)(n:Nat)(h:n<=19)(w:World)(Q:World->Prop)(hi:Calls Tryz.prog 168 #[v,.int .i64 0,.int .i64 n,f] w fun r w'=>r=.returned (.tuple #[])∧Q w') :
  Calls Tryz.prog 111 #[v,.int .i64 n,f] w fun r w'=>r=.returned (.tuple #[])∧Q w':=by
 have HI:=lh hi;have hn:((n:Nat):Int)<=19:=by omega
 have h0:(0:Int)<=(n:Int):=by omega
 clear hi;go_enter Tryz.func111,Tryz.ntmps111
 go_wp2_with fail
 go_loopw [7,8] (fun i j wr=>i=.int .i64 0∧j=.int .i64 20∧wr=w) (fun _ _ _=>0)
 case atStart=>exact⟨rfl,rfl,rfl⟩
 case round =>
  obtain⟨rfl,rfl,rfl⟩:=hrel;go_wp2_with (go_at_call 168;(refine HI.out.mono ?_);rintro _ w2 ⟨rfl,hq⟩;have HQ:=lh hq;clear hq)
  go_loopw [6] (fun i wr2=>i=.int .i64 20∧wr2=w2) (fun _ _=>0)
  case atStart=>exact⟨rfl,rfl⟩
  case round =>
   obtain⟨rfl,rfl⟩:=hrel;go_wp2_with fail
   go_end0
   exact⟨rfl,HQ.out⟩
theorem zns(v f:Value)(a:Option Addr)(n c:Nat)(hv:v=.slice a n c)(h:n<=19)(w:World)(Q:World->Prop)(hi:Calls Tryz.prog 168 #[v,.int .i64 0,.int .i64 n,f] w fun r w'=>r=.returned (.tuple #[])∧Q w') :
  Calls Tryz.prog 58 #[v,f] w fun r w'=>r=.returned (.tuple #[])∧Q w':=by
 subst hv;have HI:=lh (zsW _ f n h w Q hi);clear hi;go_enter Tryz.func58,Tryz.ntmps58
 go_wp2_with (go_at_call 111;(refine HI.out.mono ?_);rintro _ w2 ⟨rfl,hq⟩;have HQ:=lh hq;clear hq)
 go_end0
 exact⟨rfl,HQ.out⟩
end
def mks(Ds:List Nat):List Deferred:=Ds.map fun D=>{ target:=.collected D,args:=#[] }
theorem zhP{F:Fence}{nn:Nat}{P:Program}{fn:Func}{tmps:Array Value}{R:Ending->World->Prop}{lo:Nat}:∀ (Ds:List Nat) (W:World),Ds.Nodup->(∀ D∈Ds,lo<=D∧W.heap[D]?=some (.deferred (some []))) ->
  (∀ W':World,W'.os=W.os->W'.tape=W.tape->W'.output=W.output->W'.heap.size=W.heap.size->(∀ k,k ∉ Ds->W'.heap[k]?=W.heap[k]?)->∃ v,(results fn tmps).run P W'=.ok v W'∧R (.returned v) W') ->
  LeavesInM F nn P fn tmps R (mks Ds) .returning W
 | [],W,_,_,h=>by
   obtain⟨v,h1,h2⟩:=h W rfl rfl rfl rfl (fun _ _=>rfl);exact⟨v,by rw[h1],h2⟩
 | D::Ds,W,hn,hD,h=>by
   have hd:=(hD D (List.mem_cons_self ..)).2;have hnd:=List.nodup_cons.1 hn;refine⟨by simp,.inl ⟨_,_,rfl,run_takeDeferred hd,?_⟩⟩
   refine zhP Ds _ hnd.2 (fun D' h'=>⟨(hD D' (List.mem_cons_of_mem _ h')).1,?_⟩) (fun W' e1 e2 e3 e4 e5=>h W' e1 e2 e3 (by rw[e4];simp) (fun k hk=>?_))
   · rw[World.putObj_heap_other (fun e=>hnd.1 (by rw[<-e];exact h'))];exact (hD D' (List.mem_cons_of_mem _ h')).2
   · rw[e5 k (fun e=>hk (List.mem_cons_of_mem _ e))];exact World.putObj_heap_other (fun e=>hk (by rw[e];exact List.mem_cons_self ..))
structure LiP (w0 w:World) (h O B p:Nat) (sv:Value) (r:Rf) (Ds:List Nat):Prop where
 p:p<h
 h0:w0.heap.size<=h
 hh:w.heap.size=h
 o:h+3<=O
 b:O+2<=B
 D:r.D=B+5
 ds:∀ D∈Ds,O+1<=D∧D<B
 so:∀ b,sv.ownBlock=some b->b<h
structure LiC (w0 w Wp W:World) (h O B p:Nat) (sv:Value) (l:List Rw) (fl cd c id:Int) (L:UInt8) (pt:ByteArray) (r:Rf) (st:LoopState) (pd:Option Code) (Ds:List Nat):Prop where
 sh:SHs w0 W p sv l fl cd c
 g:w.grownBy W (some p)
 ri:RI W (B+3) (B+1) (B+2) (B+4) B p L id
 n:W.cell? ⟨h,0,none⟩=some (.string pt)
 b1:Bx W (h+1)
 b2:Bx W (h+2)
 b3:Bx W O
 up:Rup r st pd W
 mr:∀ D∈Ds,W.heap[D]?=Wp.heap[D]?
 z:B+7<=W.heap.size
theorem LiC.core{w0 w Wp W W':World}{h O B p q:Nat}{sv:Value}{l:List Rw}{fl cd c c' id:Int}{L:UInt8}{pt:ByteArray}{r:Rf}{st st':LoopState}{pd pd':Option Code}{Ds:List Nat}(hA:LiC w0 w Wp W h O B p sv l fl cd c id L pt r st pd Ds)(hP:LiP w0 w h O B p sv r Ds)(hk:∀ k,k<B+7->k≠q->W'.heap[k]?=W.heap[k]?)(hz:W.heap.size<=W'.heap.size)(hq:q≠h∧q ∉ Ds∧∀ i,i<=4->q≠B+i)(hs:SHs w0 W' p sv l fl cd c')(hg:w.grownBy W' (some p))(hup:Rup r st' pd' W')(hb:Bx W' (h+1)∧Bx W' (h+2)∧Bx W' O) :
  LiC w0 w Wp W' h O B p sv l fl cd c' id L pt r st' pd' Ds:=by
 have hB:=hP.b;have hO:=hP.o;have e:∀ i,i<=4->W'.heap[B+i]?=W.heap[B+i]?:=fun i h1=>hk _ (by omega) (fun e=>hq.2.2 i h1 e.symm)
 obtain⟨r1,r2,r3,r4,r5,r6⟩:=hA.ri;have q:=fun i (h1:i<=4)=>World.cell?_of_block (w:=W) (w':=W') (a:=⟨B+i,0,none⟩) (e i h1)
 exact⟨hs,hg,⟨(q 3 (by omega)).trans r1,(q 1 (by omega)).trans r2,(q 2 (by omega)).trans r3,(q 4 (by omega)).trans r4,(q 0 (by omega)).trans r5,(World.frozen?_of_block (a:=⟨B,0,none⟩) (e 0 (by omega))).trans r6⟩,
  (World.cell?_of_block (a:=⟨h,0,none⟩) (hk h (by omega) (fun e=>hq.1 e.symm))).trans hA.n,hb.1,hb.2.1,hb.2.2,hup,fun D hD=>(hk D (by have:=hP.ds D hD;omega) (fun e=>hq.2.1 (by rw[<-e];exact hD))).trans (hA.mr D hD),Nat.le_trans hA.z hz⟩
theorem LiC.tick{w0 w Wp W W':World}{h O B p:Nat}{sv:Value}{l:List Rw}{fl cd c c' id:Int}{L:UInt8}{pt:ByteArray}{r:Rf}{st:LoopState}{pd:Option Code}{Ds:List Nat}(hA:LiC w0 w Wp W h O B p sv l fl cd c id L pt r st pd Ds)(hP:LiP w0 w h O B p sv r Ds)(hg:W.grownBy W' (some p))(hs:SHs w0 W' p sv l fl cd c') :
  LiC w0 w Wp W' h O B p sv l fl cd c' id L pt r st pd Ds:=by
 have hz:=hA.z;have hB:=hP.b;have hO:=hP.o;have hp:=hP.p;have hD:=hP.D;have e:∀ k,k<B+7->k≠p->W'.heap[k]?=W.heap[k]?:=fun k hk hn=>hg.block k (by omega) (fun e=>hn (Option.some.inj e))
 refine hA.core hP (q:=p) e hg.size ⟨by omega,(fun e=>by have:=hP.ds _ e;omega),fun i _=>by omega⟩ hs (zat hA.g hg) ⟨?_,?_⟩ ⟨hA.b1.of (e _ (by omega) (by omega)),hA.b2.of (e _ (by omega) (by omega)),hA.b3.of (e _ (by omega) (by omega))⟩
 · rw[e _ (by omega) (by omega)];exact hA.up.lp
 · rw[e _ (by omega) (by omega)];exact hA.up.dfr
theorem LiC.bel{w0 w Wp W W':World}{h O B p:Nat}{sv:Value}{l:List Rw}{fl cd c id:Int}{L:UInt8}{pt:ByteArray}{r:Rf}{st:LoopState}{pd:Option Code}{Ds:List Nat}(hA:LiC w0 w Wp W h O B p sv l fl cd c id L pt r st pd Ds)(hP:LiP w0 w h O B p sv r Ds)(hb:Below (B+7) W W') :
  LiC w0 w Wp W' h O B p sv l fl cd c id L pt r st pd Ds:=by
 have hB:=hP.b;have hO:=hP.o;have hp:=hP.p;have hD:=hP.D;have hh:=hP.hh;have e:=fun k hk=>hb.block k hk
 refine hA.core hP (q:=B+7) (fun k hk _=>e k hk) hb.size ⟨by omega,(fun e=>by have:=hP.ds _ e;omega),fun i _=>by omega⟩ (hA.sh.belowB hb (by omega) (fun _ b hq=>by have:=hP.so b hq;omega)) (zay hA.g (hb.mono (by omega))) ⟨?_,?_⟩ ⟨hA.b1.of (e _ (by omega)),hA.b2.of (e _ (by omega)),hA.b3.of (e _ (by omega))⟩
 · rw[e _ (by omega)];exact hA.up.lp
 · rw[e _ (by omega)];exact hA.up.dfr
theorem LiC.turn{w0 w Wp W W':World}{h O B p q:Nat}{sv:Value}{l:List Rw}{fl cd c id:Int}{L:UInt8}{pt:ByteArray}{r:Rf}{st st':LoopState}{pd pd':Option Code}{Ds:List Nat}(hA:LiC w0 w Wp W h O B p sv l fl cd c id L pt r st pd Ds)(hP:LiP w0 w h O B p sv r Ds)(hg:W.grownBy W' (some q))(hq:h<=q)(hq2:q≠h∧q ∉ Ds∧∀ i,i<=4->q≠B+i)(hup:Rup r st' pd' W')(hb:Bx W' (h+1)∧Bx W' (h+2)∧Bx W' O) :
  LiC w0 w Wp W' h O B p sv l fl cd c id L pt r st' pd' Ds:=by
 have hz:=hA.z;have hB:=hP.b;have hO:=hP.o;have hp:=hP.p;have h0:=hP.h0;have hh:=hP.hh;exact hA.core hP (q:=q) (fun k hk hn=>hg.block k (by omega) (fun e=>hn (Option.some.inj e))) hg.size hq2 (hA.sh.other hg (by omega) (by omega) (fun b hb=>by have:=hP.so b hb;omega)) (zay hA.g (zaU hg (by omega) (by omega))) hup hb
theorem LiC.put{w0 w Wp W:World}{h O B p:Nat}{sv:Value}{l:List Rw}{fl cd c id:Int}{L:UInt8}{pt:ByteArray}{r:Rf}{st st':LoopState}{pd pd':Option Code}{Ds:List Nat}(hA:LiC w0 w Wp W h O B p sv l fl cd c id L pt r st pd Ds)(hP:LiP w0 w h O B p sv r Ds) :
  LiC w0 w Wp (W.putObj (r.D+1) (r.loop st' pd')) h O B p sv l fl cd c id L pt r st' pd' Ds:=by
 have hz:=hA.z;have hB:=hP.b;have hO:=hP.o;have hD:=hP.D;have hg:=grownBy_putObj' W (r.D+1) (r.loop st' pd');have e:∀ k,k<B+6->(W.putObj (r.D+1) (r.loop st' pd')).heap[k]?=W.heap[k]?:=fun k hk=>hg.block k (by omega) (fun e=>by have:=Option.some.inj e;omega)
 exact hA.turn hP hg (by omega) ⟨by omega,(fun e=>by have:=hP.ds _ e;omega),fun i _=>by omega⟩ hA.up.put ⟨hA.b1.of (e _ (by omega)),hA.b2.of (e _ (by omega)),hA.b3.of (e _ (by omega))⟩
theorem LiC.set{w0 w Wp W:World}{h O B p a:Nat}{sv v:Value}{l:List Rw}{fl cd c id:Int}{L:UInt8}{pt:ByteArray}{r:Rf}{st:LoopState}{pd:Option Code}{Ds:List Nat}(hA:LiC w0 w Wp W h O B p sv l fl cd c id L pt r st pd Ds)(hP:LiP w0 w h O B p sv r Ds)(hi:a=h+1∨a=h+2∨a=O) :
  LiC w0 w Wp (W.setCell ⟨a,0,none⟩ v) h O B p sv l fl cd c id L pt r st pd Ds:=by
 have hz:=hA.z;have hB:=hP.b;have hO:=hP.o;have hD:=hP.D;have hg:=zaH W ⟨a,0,none⟩ v;have e:∀ k,k<W.heap.size->k≠a->(W.setCell ⟨a,0,none⟩ v).heap[k]?=W.heap[k]?:=fun k hk hn=>hg.block k hk (fun e=>hn (Option.some.inj e))
 refine hA.turn hP hg (by show h<=a;omega) ⟨by show a≠h;omega,(fun e=>by have:=hP.ds _ e;have:O+1<=a:=this.1;omega),fun j _=>by show a≠B+j;omega⟩ ⟨?_,?_⟩ ⟨hA.b1.set,hA.b2.set,hA.b3.set⟩
 · rw[e _ (by omega) (by omega)];exact hA.up.lp
 · rw[e _ (by omega) (by omega)];exact hA.up.dfr
theorem LiC.own{w0 w Wp W W':World}{h O B p:Nat}{q:Option Nat}{sv:Value}{l:List Rw}{fl cd c id:Int}{L:UInt8}{pt:ByteArray}{r:Rf}{st:LoopState}{pd:Option Code}{Ds:List Nat}(hA:LiC w0 w Wp W h O B p sv l fl cd c id L pt r st pd Ds)(hP:LiP w0 w h O B p sv r Ds)(hg:W.grownBy W' q)(hq:∀ x,q=some x->O+2<=x∧(x<B∨B+7<=x)∧x ∉ Ds) :
  LiC w0 w Wp W' h O B p sv l fl cd c id L pt r st pd Ds:=by
 have hz:=hA.z;have hB:=hP.b;have hO:=hP.o;have hD:=hP.D
 cases q with
 | none=>exact hA.bel hP ⟨hg.os,hg.tape,hg.output,hg.size,fun k hk=>hg.block k (by omega) (fun e=>by cases e)⟩
 | some x =>
   obtain⟨h1,h2,h3⟩:=hq x rfl;have e:∀ k,k<W.heap.size->k≠x->W'.heap[k]?=W.heap[k]?:=fun k hk hn=>hg.block k hk (fun e=>hn (Option.some.inj e))
   refine hA.turn hP hg (by omega) ⟨by omega,h3,fun j _=>by omega⟩ ⟨?_,?_⟩ ⟨hA.b1.of (e _ (by omega) (by omega)),hA.b2.of (e _ (by omega) (by omega)),hA.b3.of (e _ (by omega) (by omega))⟩
   · rw[e _ (by omega) (by omega)];exact hA.up.lp
   · rw[e _ (by omega) (by omega)];exact hA.up.dfr
def LiO(W:World)(O B:Nat)(Ds:List Nat)(ov:Value)(s:List Fu):Prop :=
 W.cell? ⟨O,0,none⟩=some ov∧(∃ S:List SE,S.map (fun x=>x.1.e)=s.map (fun y=>y.1)∧W.ownsRow (O+2) 40 33 ov s.length (ec (S.map SE.val)))∧∀ q,ov.ownBlock=some q->(q<B∨B+7<=q)∧q ∉ Ds
theorem LiO.keep{W W':World}{O B:Nat}{Ds:List Nat}{ov:Value}{s:List Fu}(hO:LiO W O B Ds ov s)(h1:W'.cell? ⟨O,0,none⟩=W.cell? ⟨O,0,none⟩)(h2:∀ q,ov.ownBlock=some q->W'.heap[q]?=W.heap[q]?):LiO W' O B Ds ov s:=by
 obtain⟨c,⟨S,e,o⟩,n⟩:=hO;exact⟨h1.trans c,⟨S,e,zaD o h2⟩,n⟩
theorem LiO.lt{W:World}{O B:Nat}{Ds:List Nat}{ov:Value}{s:List Fu}(hO:LiO W O B Ds ov s):∀ q,ov.ownBlock=some q->O+2<=q∧q<W.heap.size∧(q<B∨B+7<=q)∧q ∉ Ds:=by
 obtain⟨-,⟨S,-,o⟩,n⟩:=hO;exact fun q hq=>⟨(zam o q hq).1,(zam o q hq).2,n q hq⟩
def LiJ(w0 w Wp:World)(h O B p:Nat)(sv:Value)(l:List Rw)(fl cd id:Int)(L:UInt8)(pt:ByteArray)(r:Rf)(st:LoopState)(Ds:List Nat)(c:Int)(s:List Fu)(W:World):Prop :=
 LiC w0 w Wp W h O B p sv l fl cd c id L pt r st none Ds∧∃ ov,LiO W O B Ds ov s
def LiX(w0 w Wp:World)(h O B p:Nat)(sv:Value)(l:List Rw)(fl cd id:Int)(L:UInt8)(pt:ByteArray)(r:Rf)(st:LoopState)(pd:Option Code)(Ds:List Nat)(c e:Int)(W:World):Prop :=
 LiC w0 w Wp W h O B p sv l fl cd c id L pt r st pd Ds∧W.cell? ⟨h+1,0,none⟩=some (.slice none 0 0)∧W.cell? ⟨h+2,0,none⟩=some (.int .i64 e)
theorem LiJ.put{w0 w Wp W:World}{h O B p:Nat}{sv:Value}{l:List Rw}{fl cd c id:Int}{L:UInt8}{pt:ByteArray}{r:Rf}{st st':LoopState}{Ds:List Nat}{s:List Fu}(hA:LiJ w0 w Wp h O B p sv l fl cd id L pt r st Ds c s W)(hP:LiP w0 w h O B p sv r Ds) :
  LiJ w0 w Wp h O B p sv l fl cd id L pt r st' Ds c s (W.putObj (r.D+1) (r.loop st' none)):=by
 obtain⟨h1,ov,hL⟩:=hA;have hD:=hP.D;have hB:=hP.b;have hO:=hP.o;exact⟨h1.put hP,ov,hL.keep (putc (by omega)) (fun q hq=>World.putObj_heap_other (by have:=hL.lt q hq;omega))⟩
theorem LiX.put{w0 w Wp W:World}{h O B p:Nat}{sv:Value}{l:List Rw}{fl cd c e id:Int}{L:UInt8}{pt:ByteArray}{r:Rf}{st st':LoopState}{pd pd':Option Code}{Ds:List Nat}(hA:LiX w0 w Wp h O B p sv l fl cd id L pt r st pd Ds c e W)(hP:LiP w0 w h O B p sv r Ds) :
  LiX w0 w Wp h O B p sv l fl cd id L pt r st' pd' Ds c e (W.putObj (r.D+1) (r.loop st' pd')):=by
 obtain⟨h1,h2,h3⟩:=hA;have hD:=hP.D;have hB:=hP.b;have hO:=hP.o;exact⟨h1.put hP,(putc (by omega)).trans h2,(putc (by omega)).trans h3⟩
theorem LiJ.tick{w0 w Wp W W':World}{h O B p:Nat}{sv:Value}{l:List Rw}{fl cd c c' id:Int}{L:UInt8}{pt:ByteArray}{r:Rf}{st:LoopState}{Ds:List Nat}{s:List Fu}(hA:LiJ w0 w Wp h O B p sv l fl cd id L pt r st Ds c s W)(hP:LiP w0 w h O B p sv r Ds)(hg:W.grownBy W' (some p))(hs:SHs w0 W' p sv l fl cd c') :
  LiJ w0 w Wp h O B p sv l fl cd id L pt r st Ds c' s W':=by
 obtain⟨h1,ov,hL⟩:=hA;have hp:=hP.p;have hB:=hP.b;have hO:=hP.o;have z:=h1.z;exact⟨h1.tick hP hg hs,ov,hL.keep (World.cell?_of_block (a:=⟨O,0,none⟩) (hg.block O (by omega) (fun e=>by have:=Option.some.inj e;omega))) (fun q hq=>hg.block q (hL.lt q hq).2.1 (fun e=>by have:=Option.some.inj e;have:=(hL.lt q hq).1;omega))⟩
structure LiN (w0 w W:World) (h O p:Nat) (sv:Value) (l:List Rw) (fl cd c id:Int) (pt:ByteArray) (Ds:List Nat) (s:List Fu):Prop where
 sh:SHs w0 W p sv l fl cd c
 g:w.grownBy W (some p)
 n:W.cell? ⟨h,0,none⟩=some (.string pt)
 b1:Bx W (h+1)
 b2:Bx W (h+2)
 b3:Bx W O
 mr:∀ D∈Ds,O+2<=D∧D<W.heap.size∧W.heap[D]?=some (.deferred (some []))
 nd:Ds.Nodup
 z:O+2<=W.heap.size
 lt:W.heap[O+1]?=some (.cells #[.int .u8 68,.int .u8 71,.int .u8 65] 5 (3,4))
 o:∃ ov,W.cell? ⟨O,0,none⟩=some ov∧(∃ S:List SE,S.map (fun x=>x.1.e)=s.map (fun y=>y.1)∧W.ownsRow (O+2) 40 33 ov s.length (ec (S.map SE.val)))∧∀ q,ov.ownBlock=some q->q ∉ Ds
def SeR(w:World)(base:Nat)(hv:Value)(s:List Fu):Prop :=
 ∃ (S:List SE) (a:Option Addr) (c:Nat),hv=.slice a s.length c∧S.length=s.length∧(S.map (fun x=>x.1.e)).Perm (s.map (fun y=>y.1))∧(0<s.length->∃ g,a=some ⟨g,0,none⟩∧base<=g∧g<w.heap.size∧∀ k (hk:k<S.length) j u,(SE.val S[k])[j]?=some u->w.cell? ⟨g,k*33+j,none⟩=some u)
theorem SeR.nil(w:World)(base:Nat):SeR w base (.slice none 0 0) []:=⟨[],none,0,rfl,rfl,.refl _,fun h=>by cases h⟩
theorem SeR.keep{w w':World}{base:Nat}{hv:Value}{s:List Fu}(h:SeR w base hv s)(hs:w.heap.size<=w'.heap.size)(hk:∀ q,hv.ownBlock=some q->base<=q->q<w.heap.size->w'.heap[q]?=w.heap[q]?):SeR w' base hv s:=by
 obtain⟨S,a,c,rfl,h1,h2,h3⟩:=h;refine⟨S,a,c,rfl,h1,h2,fun h0=>?_⟩
 obtain⟨g,rfl,q1,q2,q3⟩:=h3 h0;exact⟨g,rfl,q1,by omega,fun k hk2 j u hu=>(World.cell?_of_block (a:=⟨g,k*33+j,none⟩) (hk g rfl q1 q2)).trans (q3 k hk2 j u hu)⟩
theorem SeR.mono{w:World}{b b':Nat}{hv:Value}{s:List Fu}(h:SeR w b hv s)(hb:b'<=b):SeR w b' hv s:=by
 obtain⟨S,a,c,rfl,h1,h2,h3⟩:=h;refine⟨S,a,c,rfl,h1,h2,fun h0=>?_⟩
 obtain⟨g,rfl,q1,q2,q3⟩:=h3 h0;exact⟨g,rfl,by omega,q2,q3⟩
def LiRx(w0 w w':World)(p:Nat)(sv:Value)(l:List Rw)(fl cd:Int)(g:(List Fu × Int) × Int)(r:Ending):Prop :=
 ∃ hv,r=.returned (.tuple #[hv,.int .i64 g.1.2])∧SeR w' w.heap.size hv g.1.1∧SHs w0 w' p sv l fl cd g.2∧w.grownBy w' (some p)
theorem zjU(pt:ByteArray)(s:List Fu)(k r:ByteArray)(s':List Fu)(h:ze5 pt s k r=.ok s'):s'.length<=s.length+1:=by
 unfold ze5 at h;split at h
 · cases h;omega
 split at h
 · cases h
 · cases h;simp
theorem zg3{σ ρ:Type}{step:σ->ByteArray->ByteArray->Except ρ σ}{l:List Rw}{id fl cd:Int}{L:UInt8}{P:ρ->Prop}(hP:∀ s k r e,step s k r=.error e->P e) :
  ∀ (f:Nat) (c:Int) (k:List UInt8) (s:σ) (e:ρ) (c':Int),zbt l id fl cd L step f c k s=(.error e,c')->P e
 | 0,c,k,s,e,c',h=>by
   rw[zbt] at h;cases h
 | f+1,c,k,s,e,c',h=>by
   rw[zbt] at h;split at h
   · cases h
   split at h
   · cases h
   rename_i x hx;split at h
   · cases h
   split at h
   · exact zg3 hP f _ _ _ _ _ h
   cases hst:step s x.2.1 x.2.2 with
   | ok s2=>rw[hst] at h;exact zg3 hP f _ _ _ _ _ h
   | error e2=>rw[hst] at h;cases h;exact hP _ _ _ _ hst
theorem zoD(pt:ByteArray)(s:List Fu)(k r:ByteArray)(e:Int)(h:ze5 pt s k r=.error e):e≠0:=by
 unfold ze5 at h;split at h
 · cases h
 split at h
 · rename_i h1;cases h;exact h1
 · cases h
def zto(id:Int)(L:UInt8)(k:List UInt8)(l:List Rw):Nat:=l.countP fun x=>(decide (x.1=id)&&ltB k (Ds.bl x.2.1))&&decide ((Ds.bl x.2.1).headD 0=L)
theorem zrh{id:Int}{L:UInt8}{k:List UInt8}{l:List Rw}{x:Rw}(h:nx id k l=some x):zto id L (Ds.bl x.2.1) l<=zto id L k l:=by
 obtain⟨h1,h2,h3⟩:=zdI h;refine List.countP_mono_left (fun y _ hy=>?_)
 simp only[Bool.and_eq_true] at hy ⊢
 exact⟨⟨hy.1.1,zcv h3 hy.1.2⟩,hy.2⟩
theorem zri{id:Int}{L:UInt8}{k:List UInt8}{l:List Rw}{x:Rw}(h:nx id k l=some x)(hL:(Ds.bl x.2.1).headD 0=L):zto id L (Ds.bl x.2.1) l<zto id L k l:=by
 obtain⟨h1,h2,h3⟩:=zdI h;refine zfg _ _ l (fun y _ hy=>?_) ⟨x,h1,?_,?_⟩
 · simp only[Bool.and_eq_true] at hy ⊢
   exact⟨⟨hy.1.1,zcv h3 hy.1.2⟩,hy.2⟩
 · simp only[Bool.and_eq_true,decide_eq_true_eq]
   exact⟨⟨h2,h3⟩,hL⟩
 · rw[zdh,Bool.and_false,Bool.false_and]
theorem zg2{σ ρ:Type}{step:σ->ByteArray->ByteArray->Except ρ σ}{l:List Rw}{id fl cd:Int}{L:UInt8}(len:σ->Nat)(hI:∀ s k r s',step s k r=.ok s'->len s'<=len s+1) :
  ∀ (f:Nat) (c:Int) (k:List UInt8) (s s':σ) (e c':Int),zbt l id fl cd L step f c k s=(.ok (s',e),c')->len s'<=len s+zto id L k l
 | 0,c,k,s,s',e,c',h=>by
   rw[zbt] at h;cases h;omega
 | f+1,c,k,s,s',e,c',h=>by
   rw[zbt] at h;split at h
   · cases h;omega
   split at h
   · cases h;omega
   rename_i x hx;split at h
   · cases h;omega
   rename_i h1;split at h
   · have:=zg2 len hI f _ _ _ _ _ _ h;have:=zrh (L:=L) hx;omega
   rename_i h2
   have hL:(Ds.bl x.2.1).headD 0=L:=by
    refine UInt8.toNat_inj.1 ?_
    have q1:¬ L.toNat<((Ds.bl x.2.1).headD 0).toNat:=fun h=>h1 (UInt8.lt_iff_toNat_lt.2 h)
    have q2:¬ ((Ds.bl x.2.1).headD 0).toNat<L.toNat:=fun h=>h2 (UInt8.lt_iff_toNat_lt.2 h)
    omega
   have hl:=zri hx hL
   cases hst:step s x.2.1 x.2.2 with
   | ok s2 =>
     rw[hst] at h;have h3:=zg2 len hI f _ _ _ _ _ _ h;have h4:=hI _ _ _ _ hst;omega
   | error e=>rw[hst] at h;cases h
def hdL(L:UInt8)(l:List Rw):Nat:=l.countP fun x=>decide ((Ds.bl x.2.1).headD 0=L)
theorem zrg(id:Int)(L:UInt8)(k:List UInt8)(l:List Rw):zto id L k l<=hdL L l :=
 List.countP_mono_left (fun y _ hy=>by simp only[Bool.and_eq_true] at hy;exact hy.2)
theorem zjT(l:List Rw)(fl cd id:Int)(pt:ByteArray)(L:UInt8)(c:Int)(s:List Fu):(zez l fl cd id pt L c s).1.1.length<=s.length+hdL L l:=by
 unfold zez
 cases hr:zbt l id fl cd L (ze5 pt) (l.length+1) c [L - 1,255] s with
 | mk a c2 =>
   cases a with
   | error e=>simp
   | ok q =>
     obtain⟨s2,e2⟩:=q;have:=zg2 List.length (zjU pt) _ _ _ _ _ _ _ hr;have:=zrg id L [L - 1,255] l;dsimp only;split <;> dsimp only[List.length_nil] <;> omega
theorem zvD:∀ (l:List Rw),hdL 68 l+hdL 71 l+hdL 65 l<=l.length
 | []=>by simp [hdL]
 | x::l=>by
   have h:=zvD l;unfold hdL at *;rw[List.countP_cons,List.countP_cons,List.countP_cons,List.length_cons];generalize (Ds.bl x.2.1).headD 0=q;by_cases h1:q=68
   · subst h1;simp only[decide_true,if_true];rw[if_neg (by decide),if_neg (by decide)];omega
   by_cases h2:q=71
   · subst h2;simp only[decide_true,if_true];rw[if_neg (by decide),if_neg (by decide)];omega
   rw[if_neg (by simpa using h1),if_neg (by simpa using h2)];split <;> omega
def ltr(i:Nat):List UInt8:=[68,71,65].drop i
def cap3(l:List Rw):Nat->Nat
 | 0=>0
 | 1=>hdL 68 l
 | 2=>hdL 68 l+hdL 71 l
 | _=>hdL 68 l+hdL 71 l+hdL 65 l
theorem zq8(l:List Rw)(i:Nat):cap3 l i<=l.length:=by
 have:=zvD l;unfold cap3;split <;> omega
theorem ziK:∀ (S:List SE) (j:Nat),j<S.length*33->(ec (S.map SE.val))[j]?=some ((SE.enc S[j / 33]!)[j % 33]!)
 | [],j,h=>by simp at h
 | x::S,j,h=>by
   rw[List.map_cons,ec];have hz:(SE.val x).toList.length=33:=SE.size x;by_cases hj:j<33
   · rw[List.getElem?_append_left (by omega),Nat.div_eq_of_lt hj,Nat.mod_eq_of_lt hj];have:(SE.enc (x::S)[0]!)=(SE.val x).toList:=rfl;rw[this,getElem!_pos _ j (by omega),List.getElem?_eq_getElem (by omega)]
   · rw[List.getElem?_append_right (by omega),hz,ziK S (j - 33) (by rw[List.length_cons] at h;omega)];have e1:j / 33=(j - 33) / 33+1:=by omega
     have e2:j % 33=(j - 33) % 33:=by omega
     rw[e1,e2];rfl
theorem zhH{W:World}{base g cap:Nat}{S:List SE}(h:W.ownsRow base 40 33 (.slice (some ⟨g,0,none⟩) S.length cap) S.length (ec (S.map SE.val)))(_hn:0<S.length):Go.Sort.HoldsK SE.enc 33 W g 0 S.toArray:=by
 rcases h.2 with ⟨h1,h2⟩|⟨g',cap',cur,e,_,hg,hnc,_,hcs,ht⟩
 · cases h1
 cases e
 intro j hj;rw[Go.Sort.size_flatK] at hj;have hj':j<S.length*33:=by simpa using hj
 have hf:=ziK S j hj';rw[Go.Sort.get_flatK SE.enc 33 S.toArray j hj];obtain⟨a,c,e,-,p⟩:=zbq h;cases e
 obtain⟨ad,e,p⟩:=p _hn;cases e
 have q:=p j _ hf;rw[Addr.add_lit] at q;refine⟨?_,by simp [World.frozen?,hg]⟩
 rw[q];simp
theorem znj:IsCmp SE.cf:=znU.comap (fun x:SE=>x.1.e.name.data.toList)
theorem zr1(ov:Value)(S:List SE)(n base:Nat)(W:World)(hn:S.length=n)(h:W.ownsRow base 40 33 ov n (ec (S.map SE.val)))(h19:n<=19) :
  Calls Tryz.prog 58 #[ov,.func (.func 110) #[] #[]] W fun r w'=>r=.returned (.tuple #[])∧W.grownBy w' ov.ownBlock∧∀ s:List Fu,S.map (fun x=>x.1.e)=s.map (fun y=>y.1)->SeR w' base ov s:=by
 subst hn;obtain⟨a,c,rfl⟩:=za6 h;refine zns _ _ a S.length c rfl h19 W (fun w'=>W.grownBy w' (Value.slice a S.length c).ownBlock∧∀ s:List Fu,S.map (fun x=>x.1.e)=s.map (fun y=>y.1)->SeR w' base (.slice a S.length c) s) ?_
 rcases Nat.eq_zero_or_pos S.length with h0|h0
 · rw[h0];refine (znr _ _ W).mono ?_
   rintro r w' ⟨rfl,rfl⟩;refine⟨rfl,World.grownBy.refl _ _,fun s hs=>?_⟩
   have hl:=congrArg List.length hs;rw[List.length_map,List.length_map,h0] at hl;exact⟨S,a,c,by rw[<-hl],by rw[<-hl,h0],by rw[hs],fun h=>by omega⟩
 · obtain⟨g,rfl,-,-⟩:=zbO h h0;have hlt:=(zam h g rfl).2;have hbs:=(zam h g rfl).1;have hH:=zhH h h0;refine (zu2 g c S.length S.toArray W (by simp) hH hlt h19).mono ?_
   rintro r w' ⟨rfl,m,os,rfl⟩;obtain⟨hp,ho⟩:=Go.Sort.insertionSort_holds (lt:=ltOf SE.cf) znj.swo S.toArray 0 S.length (Nat.zero_le _) (by simp);generalize Go.Sort.insertionSort (ltOf SE.cf) S.toArray 0 S.length=d' at hp ho;have hp2:=zj6 (d:=S.toArray) (d':=d') (by simpa using hp);have hz:d'.size=S.length:=by have:=hp.1;simpa using this
   have hgr:=zeK (n:=33) (w:=W) (g:=g) (m:=m) (os:=os) (fun t:SE=>(SE.val t).toList) d';refine⟨rfl,hgr,fun s hs=>?_⟩
   have hl:S.length=s.length:=by have:=congrArg List.length hs;simpa using this
   refine⟨d'.toList,_,c,by rw[hl],by simp [hz,hl],?_,fun _=>⟨g,rfl,hbs,Nat.lt_of_lt_of_le hlt hgr.size,fun k hk j u hu=>?_⟩⟩
   · rw[<-hs];exact hp2.map _
   · exact zih (f:=SE.val) (m:=m) (os:=os) (fun t=>zaa _ _ _) hH hlt hz k (by simpa using hk) j u (by simpa using hu)
theorem zp8{nn:Nat}{fn:Func}{tmps:Array Value}{R:Ending->World->Prop}{W:World}{h:Nat}{Ds:List Nat}{hv:Value}{code:Int}(hr:fn.results=#[.cell 8 50,.cell 9 28])(h8:tmps.getD 8 undef=.pointer (some ⟨h+1,0,none⟩))(h9:tmps.getD 9 undef=.pointer (some ⟨h+2,0,none⟩))(hnd:Ds.Nodup)(hD:∀ D∈Ds,h+3<=D∧W.heap[D]?=some (.deferred (some [])))(c1:W.cell? ⟨h+1,0,none⟩=some hv)(c2:W.cell? ⟨h+2,0,none⟩=some (.int .i64 code))(hR:∀ W':World,W'.os=W.os->W'.tape=W.tape->W'.output=W.output->W'.heap.size=W.heap.size->(∀ k,k ∉ Ds->W'.heap[k]?=W.heap[k]?)->R (.returned (.tuple #[hv,.int .i64 code])) W') :
  LeavesInM Fence.wide nn Tryz.prog fn tmps R (mks Ds) .returning W:=by
 refine zhP (lo:=h+3) Ds W hnd hD (fun W' e1 e2 e3 e4 e5=>⟨.tuple #[hv,.int .i64 code],?_,hR W' e1 e2 e3 e4 e5⟩)
 have q1:=(World.cell?_of_block (w:=W) (w':=W') (a:=⟨h+1,0,none⟩) (e5 (h+1) (fun e=>by have:=(hD _ e).1;omega))).trans c1;have q2:=(World.cell?_of_block (w:=W) (w':=W') (a:=⟨h+2,0,none⟩) (e5 (h+2) (fun e=>by have:=(hD _ e).1;omega))).trans c2;rw[zqm hr,h8,h9];go_simp
theorem zjS{w0 w W W':World}{h p:Nat}{sv:Value}{l:List Rw}{fl cd c:Int}(hs:SHs w0 W p sv l fl cd c)(hg:w.grownBy W (some p))(hp:p<h)(hh:w.heap.size=h)(hso:∀ b,sv.ownBlock=some b->b<h)(h1:W'.os=W.os)(h2:W'.tape=W.tape)(h3:W'.output=W.output)(h4:W.heap.size<=W'.heap.size)(h5:∀ k,k<h->W'.heap[k]?=W.heap[k]?):SHs w0 W' p sv l fl cd c∧w.grownBy W' (some p):=by
 have hb:Below h W W':=⟨h1,h2,h3,h4,h5⟩;exact⟨hs.belowB hb hp (fun _ b hq=>hso b hq),zay hg (by rw[hh];exact hb)⟩
theorem zhK{nn:Nat}{fn:Func}{tmps:Array Value}{w0 w W:World}{h p:Nat}{sv:Value}{l:List Rw}{fl cd c:Int}{Ds:List Nat}{u1 hv:Value}{code:Int}{g:(List Fu × Int) × Int}(hr:fn.results=#[.cell 8 50,.cell 9 28])(h8:tmps.getD 8 undef=.pointer (some ⟨h+1,0,none⟩))(h9:tmps.getD 9 undef=.pointer (some ⟨h+2,0,none⟩))(hs:SHs w0 W p sv l fl cd c)(hg:w.grownBy W (some p))(hp:p<h)(hh:w.heap.size=h)(hso:∀ b,sv.ownBlock=some b->b<h)(hnd:Ds.Nodup)(hD:∀ D∈Ds,h+3<=D∧W.heap[D]?=some (.deferred (some [])))(c1:W.cell? ⟨h+1,0,none⟩=some u1)(b2:Bx W (h+2))(hv1:SeR W w.heap.size hv g.1.1)(hv2:∀ q,hv.ownBlock=some q->h+3<=q∧q ∉ Ds)(hc:g.1.2=code)(hca:g.2=c) :
  LeavesInM Fence.wide nn Tryz.prog fn tmps (fun r w'=>LiRx w0 w w' p sv l fl cd g r) (mks Ds) .returning ((W.setCell ⟨h+1,0,none⟩ hv).setCell ⟨h+2,0,none⟩ (.int .i64 code)):=by
 obtain⟨⟨u2,c2⟩,f2⟩:=b2;subst hc hca;have e5:∀ k,k≠h+1->k≠h+2->((W.setCell ⟨h+1,0,none⟩ hv).setCell ⟨h+2,0,none⟩ (.int .i64 g.1.2)).heap[k]?=W.heap[k]?:=fun k k1 k2=>(heap_setCell_other _ ⟨h+2,0,none⟩ k _ k2).trans (heap_setCell_other _ ⟨h+1,0,none⟩ k hv k1)
 refine zp8 hr h8 h9 hnd (fun D hd=>⟨(hD D hd).1,(e5 D (by have:=(hD D hd).1;omega) (by have:=(hD D hd).1;omega)).trans (hD D hd).2⟩) ((World.cell?_setCell_other _ _ _ _ (by intro e;have:=congrArg Addr.block e;simp at this)).trans (World.cell?_setCell_same' _ _ _ (by rw[c1];rfl))) (World.cell?_setCell_same' _ _ _ (by rw[World.cell?_setCell_other _ _ _ _ (by intro e;have:=congrArg Addr.block e;simp at this),c2];rfl)) ?_
 intro W' e1 e2 e3 e4 e6;have hF:=zjS (W':=W') hs hg hp hh hso e1 e2 e3 (by rw[e4];simp) (fun k hk=>(e6 k (fun e=>by have:=(hD k e).1;omega)).trans (e5 k (by omega) (by omega)));exact⟨hv,rfl,hv1.keep (by rw[e4];simp) (fun q hq _ _=>(e6 q (hv2 q hq).2).trans (e5 q (by have:=(hv2 q hq).1;omega) (by have:=(hv2 q hq).1;omega))),hF.1,hF.2⟩
theorem LiN.sorted{w0 w W W':World}{h O p:Nat}{sv ov:Value}{l:List Rw}{fl cd c id:Int}{pt:ByteArray}{Ds:List Nat}{s:List Fu}(hN:LiN w0 w W h O p sv l fl cd c id pt Ds s)(hp:p<h)(hh:w.heap.size=h)(hso:∀ b,sv.ownBlock=some b->b<h)(ho:h+3<=O)(hov:∀ q,ov.ownBlock=some q->O+2<=q∧q ∉ Ds)(hg:W.grownBy W' ov.ownBlock) :
  SHs w0 W' p sv l fl cd c∧w.grownBy W' (some p)∧Bx W' (h+1)∧Bx W' (h+2)∧W'.cell? ⟨O,0,none⟩=W.cell? ⟨O,0,none⟩∧∀ D∈Ds,h+3<=D∧W'.heap[D]?=some (.deferred (some [])):=by
 have z:=hN.z;have e:∀ k,k<O+2->W'.heap[k]?=W.heap[k]?:=fun k hk=>hg.block k (by omega) (fun e=>by have:=(hov k e.symm).1;omega)
 have hF:=zjS hN.sh hN.g hp hh hso hg.os hg.tape hg.output hg.size (fun k hk=>e k (by omega));refine⟨hF.1,hF.2,hN.b1.of (e _ (by omega)),hN.b2.of (e _ (by omega)),World.cell?_of_block (a:=⟨O,0,none⟩) (e O (by omega)),fun D hD=>?_⟩
 have q:=hN.mr D hD;exact⟨by omega,(hg.block D q.2.1 (fun e=>(hov D e.symm).2 hD)).trans q.2.2⟩
section
set_option linter.unusedSimpArgs false
attribute [local go_sem] Oper.semAt_some
attribute [local go_sem ↓] zaV zaW zaz za1 zp7 zqD zlf
attribute [local go_sem] zav zap zal zaI zaJ zae zaq zai zaw zao zas zan zaa zaj zaf zaA zax zak zag zar zaG zaC zaE
theorem zuj(i:Nat)(h:i<3):∃ L:UInt8,ltr i=L::ltr (i+1)∧(L=68∨L=71∨L=65)∧#[Value.int .u8 68,.int .u8 71,.int .u8 65][i]?=some (.int .u8 (L.toNat:Nat))∧∀ l,cap3 l (i+1)=cap3 l i+hdL L l:=by
 have:i=0∨i=1∨i=2:=by omega
 rcases this with rfl|rfl|rfl
 · exact⟨68,rfl,.inl rfl,rfl,fun l=>(Nat.zero_add _).symm⟩
 · exact⟨71,rfl,.inr (.inl rfl),rfl,fun l=>rfl⟩
 · exact⟨65,rfl,.inr (.inr rfl),rfl,fun l=>rfl⟩
theorem znW(p:Nat)(sv:Value)(l:List Rw)(fl cd ca id most:Int)(pt:ByteArray)(w0 w:World)(hm:MaxL w0)(hT:Tab w0)(hS:SHs w0 w p sv l fl cd ca)(hso:∀ b,sv.ownBlock=some b->b<w.heap.size)(hl:l.length<=19)(hkz:∀ x∈l,x.2.1.size<=1000)(hc0:0<=ca)(hc1:ca<=80000)(hcd:cd≠0∧cd≠6∨fl<=0) :
  Calls Tryz.prog 57 #[.iface 31 (.pointer (some ⟨p,0,none⟩)),.int .i64 id,.string pt,.int .i64 most] w fun r w'=>LiRx w0 w w' p sv l fl cd (zfT l fl cd ca id most pt) r:=by
 have hpl:=hS.pl;have hz0:=hS.b.size;have hsb:=hS.b;obtain⟨g,hg⟩:∃ g,zfT l fl cd ca id most pt=g:=⟨_,rfl⟩;rw[hg];have hvp:=fun W (b:Below w0.heap.size w0 W)=>zeJ pt W (hm.below b)
 have hmt:=fun n W (b:Below w0.heap.size w0 W)=>zjx pt n W (hm.below b)
 unfold zfT at hg;obtain⟨h,hh⟩:∃ h,w.heap.size=h:=⟨_,rfl⟩;have hpl':p<h:=by omega
 have hso':∀ b,sv.ownBlock=some b->b<h:=fun b hb=>by have:=hso b hb;omega
 obtain⟨W0,hW0⟩:∃ W0,((w.alloc (.cells #[.string pt] 9)).alloc (.cells #[.slice none 0 0] 50)).alloc (.cells #[.int .i64 0] 28)=W0:=⟨_,rfl⟩;have hB0:Below w.heap.size w W0:=by rw[<-hW0];exact zbo
 have hsz:W0.heap.size=h+3:=by rw[<-hW0,<-hh];simp
 have k0:W0.cell? ⟨h,0,none⟩=some (.string pt):=by rw[<-hW0,<-hh];simp [go_sem]
 have k1:Bx W0 (h+1):=⟨⟨.slice none 0 0,by rw[<-hW0,<-hh];simp [go_sem]⟩,by rw[<-hW0,<-hh];simp [go_sem]⟩;have k2:Bx W0 (h+2):=⟨⟨.int .i64 0,by rw[<-hW0,<-hh];simp [go_sem]⟩,by rw[<-hW0,<-hh];simp [go_sem]⟩;have S0:=hS.below hB0;have HST:Hid (∀ w1,Below W0.heap.size W0 w1->SHs w0 w1 p sv l fl cd ca∧w.grownBy w1 (some p)∧w1.cell? ⟨h,0,none⟩=some (.string pt)∧Bx w1 (h+1)∧Bx w1 (h+2)∧h+3<=w1.heap.size):=lh (fun w1 hb=>⟨S0.below hb,zad _ (hB0.trans (hb.mono (by omega))),(World.cell?_of_block (a:=⟨h,0,none⟩) (hb.block h (by omega))).trans k0,k1.of (hb.block _ (by omega)),k2.of (hb.block _ (by omega)),by have:=hb.size;omega⟩);have HB0:=lh (S0.b);clear k1 k2 S0 hB0 hS;refine (callsIn_wide (n:=4)).1 ?_
 refine callsIn_of_wp_marks Tryz.func57 rfl trivial ?_ rfl
 simp only[Tryz.ntmps57,List.size_toArray,List.length_cons,List.length_nil,Nat.reduceAdd,Nat.reduceSub,Array.replicate_succ,Array.replicate_zero,List.push_toArray,List.append_toArray,List.nil_append,List.cons_append]
 by_cases hpat:Ds.pat (Ds.bl pt)=false
 · rw[if_pos (.inl hpat)] at hg;subst hg;rw[hpat] at hvp;have HVP:=lh hvp;clear hvp hpat hmt;gi_wp2_with (refine⟨trivial,?_⟩;gi_at_call 17;refine (callsIn_wide.2 (HVP.out _ HB0.out)).mono ?_;rintro _ w1 ⟨rfl,hb⟩;obtain⟨s1,s2,s3,⟨⟨v1,s4⟩,s5⟩,⟨⟨v2,s6⟩,s7⟩,s8⟩:=HST.out w1 hb;have HS1:=lh s1;have HG1:=lh s2;clear s1 s2 s3 hb)
   exact zhK (Ds:=[]) rfl rfl rfl HS1.out HG1.out hpl' hh hso' List.nodup_nil (fun _ h=>by cases h) s4 ⟨⟨_,s6⟩,s7⟩ (SeR.nil _ _) (fun q hq=>by cases hq) rfl rfl
 have hpat:Ds.pat (Ds.bl pt)=true:=by simpa using hpat
 rw[hpat] at hvp;have HVP:=lh hvp;have HMX:=lh hmt;clear hvp hmt;by_cases hmo:most<0
 · rw[if_pos (.inr hmo)] at hg;subst hg;have t1:decide (most<0)=true:=decide_eq_true hmo;clear hpat;gi_wp2_with (refine⟨trivial,?_⟩;gi_at_call 17;refine (callsIn_wide.2 (HVP.out _ HB0.out)).mono ?_;rintro _ w1 ⟨rfl,hb⟩;obtain⟨s1,s2,s3,⟨⟨v1,s4⟩,s5⟩,⟨⟨v2,s6⟩,s7⟩,s8⟩:=HST.out w1 hb;have HS1:=lh s1;have HG1:=lh s2;clear s1 s2 s3 hb)
   exact zhK (Ds:=[]) rfl rfl rfl HS1.out HG1.out hpl' hh hso' List.nodup_nil (fun _ h=>by cases h) s4 ⟨⟨_,s6⟩,s7⟩ (SeR.nil _ _) (fun q hq=>by cases hq) rfl rfl
 rw[if_neg (by rw[hpat];rintro (h|h);cases h;exact hmo h)] at hg;have t1:decide (most<0)=false:=decide_eq_false hmo;clear hpat;gi_wp2_with (refine⟨trivial,?_⟩;gi_at_call 17;refine (callsIn_wide.2 (HVP.out _ HB0.out)).mono ?_;rintro _ w1 ⟨rfl,hb⟩;have HX1:=lh (HST.out w1 hb);have kc:=Go.Lib.run_convert_bytes_const (P:=Tryz.prog) (w1.alloc (.cells #[.slice none 0 0] 50)) 157 5 #[.int .u8 68,.int .u8 71,.int .u8 65] 3 3 Tryz.underlying157 Tryz.underlying5;simp only[World.size_alloc,List.size_toArray,List.length_cons,List.length_nil,Nat.reduceAdd] at kc;clear hb)
 clear HST HB0 HVP;clear kc;have hO3:=HX1.out.2.2.2.2.2;obtain⟨O,hO⟩:∃ O,w1.heap.size=O:=⟨_,rfl⟩;simp only[Nat.add_assoc,Nat.reduceAdd,hO]
 rw[hO] at hO3;generalize hW1:World.alloc _ _=W1;have B1:Below w1.heap.size w1 W1:=by rw[<-hW1];exact zbo
 have kO:Bx W1 O:=⟨⟨.slice none 0 0,by rw[<-hW1,<-hO];simp [go_sem]⟩,by rw[<-hW1,<-hO];simp [go_sem]⟩;have kO2:W1.cell? ⟨O,0,none⟩=some (.slice none 0 0):=by rw[<-hW1,<-hO];simp [go_sem]
 have kL:W1.heap[O+1]?=some (.cells #[.int .u8 68,.int .u8 71,.int .u8 65] 5 (3,4)):=by
  rw[<-hW1,<-hO];have:=heap_alloc_new (w1.alloc (.cells #[.slice none 0 0] 50)) (.cells #[.int .u8 68,.int .u8 71,.int .u8 65] 5 (3,4));simpa using this
 have hz1:W1.heap.size=O+2:=by rw[<-hW1,<-hO];simp
 have HN:Hid (LiN w0 w W1 h O p sv l fl cd ca id pt [] []):=by
  obtain⟨s1,s2,s3,s4,s5,-⟩:=HX1.out;exact lh ⟨s1.below B1,zay s2 (B1.mono s2.size),(World.cell?_of_block (a:=⟨h,0,none⟩) (B1.block h (by omega))).trans s3,s4.of (B1.block _ (by omega)),s5.of (B1.block _ (by omega)),kO,(fun _ h=>by cases h),List.nodup_nil,by omega,kL,_,kO2,⟨[],rfl,World.ownsRow_nil _ _ _ _⟩,fun q hq=>by cases hq⟩
 have hlq:=zq8 l;clear hW1 B1 kO kO2 kL HX1 hO w1;obtain⟨I,hI⟩:∃ I:Act->World->Prop,I=(fun a' w'=>∃ (i:Nat) (Dl:List Nat) (s:List Fu) (c:Int) (u12 u13 u14 u15 u16 u17 u29 u30 u31 u32 u33 u34 u35 u36 u37 u38 u39 u40 u41 u42 u43 u44 u45 u46 u47 u48 u49 u50 u51 u52 u53 u54 u55 u56 u57 u58 u59:Value),(i<=3∧Hid (zey l fl cd id pt (ltr i) c s=zey l fl cd id pt [68,71,65] ca [])∧0<=c∧c<=ca+i*20∧s.length<=cap3 l i∧Hid (LiN w0 w w' h O p sv l fl cd c id pt Dl s))∧a'={ tmps:=#[(.iface 31 (.pointer (some ⟨p,0,none⟩)):Value),(.int .i64 id:Value),(.string pt:Value),(.int .i64 most:Value),undef,undef,(.pointer (some ⟨h,0,none⟩):Value),undef,(.pointer (some ⟨h+1,0,none⟩):Value),(.pointer (some ⟨h+2,0,none⟩):Value),(.pointer (some ⟨O,0,none⟩):Value),undef,u12,u13,u14,u15,u16,u17,(.string pt:Value),(.bool true:Value),(.bool false:Value),(.bool false:Value),(.int .i64 most:Value),(.bool false:Value),(.bool false:Value),(.slice (some ⟨O+1,0,none⟩) 3 3:Value),(.slice (some ⟨O+1,0,none⟩) 3 3:Value),(.int .i64 3:Value),(.int .i64 i:Value),u29,u30,u31,u32,u33,u34,u35,u36,u37,u38,u39,u40,u41,u42,u43,u44,u45,u46,u47,u48,u49,u50,u51,u52,u53,u54,u55,u56,u57,u58,u59,undef,undef,undef,undef,undef,undef,undef],defers:=mks Dl }):=⟨_,rfl⟩;obtain⟨μ,hμ⟩:∃ μ:Act->World->Nat,μ=(fun a' _=>(3 - intOf (a'.tmps.getD 28 undef)).toNat):=⟨_,rfl⟩;have HII:=lh hI;have HMU:=lh hμ;clear hI hμ;refine wpIn_loop I μ ?_ ?_
 · rw[HII.out];exact⟨0,[],[],ca,_,_,_,_,_,_,_,_,_,_,_,_,_,_,_,_,_,_,_,_,_,_,_,_,_,_,_,_,_,_,_,_,_,_,_,_,_,⟨Nat.zero_le _,lh rfl,hc0,by simp,Nat.zero_le _,HN⟩,rfl⟩
 clear HN hz1 W1;intro a' w' hI0;have hI1:=hI0;rw[HII.out] at hI1;obtain⟨i,Dl,s,c,u12,u13,u14,u15,u16,u17,u29,u30,u31,u32,u33,u34,u35,u36,u37,u38,u39,u40,u41,u42,u43,u44,u45,u46,u47,u48,u49,u50,u51,u52,u53,u54,u55,u56,u57,u58,u59,⟨hi,HL,hc2,hc3,hsl,HN⟩,rfl⟩:=hI1;have HM0:Hid (∀ a1 a2 w1 w2,a1.tmps.getD 28 undef=.int .i64 (i:Int)->a2.tmps.getD 28 undef=.int .i64 ((i+1:Nat):Int)->i<3->μ a2 w2<μ a1 w1):=lh (fun a1 a2 w1 w2 e1 e2 h=>by rw[HMU.out];simp only[e1,e2];simp [intOf];omega);clear hI0;have nb1:=HN.out.b1;have nb2:=HN.out.b2;have nz:=HN.out.z;obtain⟨ov,no,⟨S,neS,nown⟩,nq⟩:=HN.out.o;obtain⟨va,vc,rfl⟩:=za6 nown;by_cases hi3:i<3
 rotate_left
 · obtain rfl:i=3:=by omega
   have hl4:zey l fl cd id pt [68,71,65] ca []=((s,0),c):=HL.out.symm;rw[hl4] at hg;dsimp only at hg;rw[if_neg (fun k=>k rfl)] at hg;have hs19:s.length<=19:=by have:=hlq 3;omega
   have hmk:=HN.out.mr;obtain⟨⟨v1,n1⟩,m1⟩:=nb1;obtain⟨⟨v2,n2⟩,m2⟩:=nb2;by_cases hmx:most<(s.length:Int)
   · rw[if_pos hmx] at hg;subst hg;have t2:decide (most<(s.length:Int))=true:=decide_eq_true hmx;clear hmx;gi_wp2
     exact zhK (Ds:=Dl) rfl rfl rfl HN.out.sh HN.out.g hpl' hh hso' HN.out.nd (fun D hd=>by have q:=hmk D hd;exact⟨by omega,q.2.2⟩) n1 HN.out.b2 (SeR.nil _ _) (fun q hq=>by cases hq) rfl rfl
   · rw[if_neg hmx] at hg;subst hg;have t2:decide (most<(s.length:Int))=false:=decide_eq_false hmx;have HSO:=lh (zr1 _ S s.length (O+2) w' (by simpa using congrArg List.length neS) nown hs19);have HQ:=lh (fun (w5:World) hg5=>HN.out.sorted (W':=w5) hpl' hh hso' hO3 (fun q hq=>⟨(zam nown q hq).1,nq q hq⟩) hg5);clear hmx;gi_wp2_with (refine⟨trivial,?_⟩;gi_at_call 58;refine (callsIn_wide.2 HSO.out).mono ?_;rintro _ w5 ⟨rfl,hg5,hse⟩;have HSE:=lh (hse s neS);clear hse;obtain⟨f1,f2,⟨⟨x1,f3⟩,f4⟩,⟨⟨x2,f5⟩,f6⟩,f7,f8⟩:=HQ.out w5 hg5;rw[no] at f7;have HF1:=lh f1;have HF2:=lh f2;have HF8:=lh f8;clear f1 f2 f8 hg5)
     exact zhK (Ds:=Dl) rfl rfl rfl HF1.out HF2.out hpl' hh hso' HN.out.nd HF8.out f3 ⟨⟨_,f5⟩,f6⟩ (HSE.out.mono (by omega)) (fun q hq=>⟨by have:=(zam nown q hq).1;omega,nq q hq⟩) rfl rfl
 obtain⟨L,hLe,hL3,hLa,hcap⟩:=zuj i hi3;have j1:(0:Int)<=(i:Int):=by omega
 have j2:(i:Int)<3:=by omega
 have lc:w'.cell? ⟨O+1,i,none⟩=some (.int .u8 (L.toNat:Nat)):=by
  simp only[World.cell?,HN.out.lt,Option.isSome_none,Bool.false_eq_true,if_false]
  exact hLa
 obtain⟨B,hB⟩:∃ B,w'.heap.size=B:=⟨_,rfl⟩;gi_wp2_with (refine⟨trivial,?_⟩;gi_at_call 108;refine (callsIn_wide.2 (zeq p id L _ _)).mono ?_;rintro _ _ ⟨rfl,rfl⟩)
 simp only[Nat.add_assoc,Nat.reduceAdd,hB]
 generalize hWr:World.alloc _ _=Wr;have hBr:Below w'.heap.size w' Wr:=by rw[<-hWr];exact zbo
 have hszr:Wr.heap.size=B+5:=by rw[<-hWr,<-hB];simp
 have k0:Wr.cell? ⟨B,0,none⟩=some (.int .i64 0):=by rw[<-hWr,<-hB];simp [go_sem]
 have k1:Wr.cell? ⟨B+1,0,none⟩=some (.iface 31 (.pointer (some ⟨p,0,none⟩))):=by rw[<-hWr,<-hB];simp [go_sem]
 have k2:Wr.cell? ⟨B+2,0,none⟩=some (.int .i64 id):=by rw[<-hWr,<-hB];simp [go_sem]
 have k3:Wr.cell? ⟨B+3,0,none⟩=some (.int .u8 (L.toNat:Nat)):=by rw[<-hWr,<-hB];simp [go_sem]
 have k4:Wr.cell? ⟨B+4,0,none⟩=some (.pointer (some ⟨B,0,none⟩)):=by rw[<-hWr,<-hB];simp [go_sem]
 have f0:Wr.frozen? ⟨B,0,none⟩=false:=by rw[<-hWr,<-hB];simp [go_sem]
 clear hWr;refine znc rfl (by omega) (gf:=167) rfl trivial (enters_of Tryz.func167 (by kernel_rfl) rfl) ?_
 intro r W _ e1 e2 e3 e4 hD hW hU;rw[hszr] at hD;have B1:Below Wr.heap.size Wr W:=by rw[hW];exact below2' _ _ _
 have hW2:W.heap.size=B+7:=by rw[hW];simp [hszr]
 clear hW;have bA:Below w'.heap.size w' W:=hBr.trans (B1.mono (by omega));have qc:∀ j,j<=4->W.cell? ⟨B+j,0,none⟩=Wr.cell? ⟨B+j,0,none⟩:=fun j hj=>World.cell?_of_block (a:=⟨B+j,0,none⟩) (B1.block (B+j) (by omega))
 have qf:W.frozen? ⟨B,0,none⟩=Wr.frozen? ⟨B,0,none⟩:=World.frozen?_of_block (a:=⟨B,0,none⟩) (B1.block B (by omega));have hmk:=HN.out.mr
 have hP:LiP w0 w h O B p sv r ((O+1)::Dl):=by
  refine⟨by omega,by omega,hh,hO3,by omega,hD,fun D hd=>?_,fun b hb=>by have:=hso b hb;omega⟩
  rcases List.mem_cons.1 hd with rfl|hd
  · omega
  · have:=hmk D hd;omega
 have hA:LiC w0 w w' W h O B p sv l fl cd c id L pt r .ready none ((O+1)::Dl):=by
  have b0:=fun k (hk:k<O+2)=>bA.block k (by omega)
  refine⟨HN.out.sh.below bA,zay HN.out.g (bA.mono HN.out.g.size),⟨(qc 3 (by omega)).trans k3,(qc 1 (by omega)).trans k1,(qc 2 (by omega)).trans k2,(qc 4 (by omega)).trans k4,(qc 0 (by omega)).trans k0,qf.trans f0⟩,(World.cell?_of_block (a:=⟨h,0,none⟩) (b0 h (by omega))).trans HN.out.n,nb1.of (b0 _ (by omega)),nb2.of (b0 _ (by omega)),HN.out.b3.of (b0 _ (by omega)),hU,fun D hd=>bA.block D ?_,by omega⟩
  have:=hP.ds D hd;omega
 have hLO:LiO W O B ((O+1)::Dl) (.slice va s.length vc) s:=by
  refine⟨(World.cell?_of_block (a:=⟨O,0,none⟩) (bA.block O (by omega))).trans no,⟨S,neS,zaD nown (fun q hq=>bA.block q (zam nown q hq).2)⟩,fun q hq=>⟨.inl (by have:=(zam nown q hq).2;omega),fun hd=>?_⟩⟩
  rcases List.mem_cons.1 hd with e|hd
  · have:=(zam nown q hq).1;omega
  · exact nq q hq hd
 clear B1 qc qf k0 k1 k2 k3 k4 f0 hBr;simp only[List.append_toArray,List.cons_append,List.nil_append]
 have HJT:∀ (c c':Int) (s:List Fu) (W1 W':World),LiJ w0 w w' h O B p sv l fl cd id L pt r .ready ((O+1)::Dl) c s W1->W1.grownBy W' (some p)->SHs w0 W' p sv l fl cd c'->LiJ w0 w w' h O B p sv l fl cd id L pt r .ready ((O+1)::Dl) c' s W':=fun c c' s W1 W' h1 h2 h3=>h1.tick hP h2 h3
 have HP:=lh hP
 have HY:∀ (c:Int) (s1:List Fu) (k rc:ByteArray) (W1:World),LiJ w0 w w' h O B p sv l fl cd id L pt r .ready ((O+1)::Dl) c s1 W1->s1.length<=s.length+l.length->k.size<=1000->1<=k.size->YieldAt Fence.wide 2 Tryz.prog (r.D+1) #[.string k,.string rc] W1 fun e W'=>match ze5 pt s1 k rc with|.ok s'=>e=.returned (.bool true)∧LiJ w0 w w' h O B p sv l fl cd id L pt r .ready ((O+1)::Dl) c s' W'|.error x=>e=.returned (.bool false)∧LiX w0 w w' h O B p sv l fl cd id L pt r .done (some .ret) ((O+1)::Dl) c x W':=by
  have hs0:s.length<=19:=by have:=hlq i;omega
  clear hA hLO hLa lc hcap hLe HL HN nown nq no neS nb1 nb2 hg hmk bA hU hW2 hszr HJT hsl hc3 hc2;generalize (O+1)::Dl=Dx at hP HP ⊢;intro c s k rc W1 hJ1 hlen hk2 hk1;have hb:=hJ1.put (st':=.busy) hP;refine (zg8 (r:=r) (J:=fun W2=>∃ s',ze5 pt s k rc=.ok s'∧LiJ w0 w w' h O B p sv l fl cd id L pt r .busy Dx c s' W2) (Jx:=fun cc W2=>∃ e,ze5 pt s k rc=.error e∧cc=.ret∧LiX w0 w w' h O B p sv l fl cd id L pt r .busy none Dx c e W2) trivial hJ1.1.up (by rw[e2];rfl) ?_).mono ?_
  rotate_left
  · rintro e W' (⟨rfl,w1,hu,⟨s',hs',h1⟩,rfl⟩|⟨rfl,cc,w1,hu,⟨e,he,rfl,h1⟩,rfl⟩)
    · rw[hs'];exact⟨rfl,h1.put hP⟩
    · rw[he];exact⟨rfl,h1.put hP⟩
  change LiJ w0 w w' h O B p sv l fl cd id L pt r .busy Dx c s (r.busy W1) at hb
  simp only[e1,e2,e3,e4]
  gi_wp2
  refine⟨hJ1.1.up,?_⟩
  generalize r.busy W1=Wb at hb ⊢;obtain⟨hAb,ov,hOb⟩:=hb;obtain⟨va,vc,rfl⟩:=za6 hOb.2.1.choose_spec.2;have zb:=hAb.z;have cn:=hAb.n;have hnm:=fun W=>zhp k W hk1 hk2
  have hmx:=HMX.out (zaZ k);have hrd:=fun W (b:Below w0.heap.size w0 W)=>zgr k rc W (hm.below b) (hT.below b)
  have hS:ze5 pt s k rc=if Ds.match_ (Ds.bl pt) (Ds.bl (zaZ k))=false then .ok s else if (zaS k rc).2≠0 then .error (zaS k rc).2 else .ok (s++[(zaS k rc).1]):=rfl
  have hrk:¬ (zaS k rc).2≠0->okX (zaS k rc).1=true:=fun h=>(zea h).1
  generalize Ds.match_ (Ds.bl pt) (Ds.bl (zaZ k))=bm at hmx hS;generalize zaZ k=nz at hnm hmx;generalize zaS k rc=yy at hrd hS hrk;obtain⟨y,code⟩:=yy;dsimp only at hS hrk;have hmo:Tryz.prog.follows .mixedOrders=true:=by kernel_rfl
  have HNM:=lh hnm;have HMT:=lh hmx;have HRD:=lh hrd;have HAB:=lh hAb;have HOB:=lh hOb;clear hnm hmx hrd hJ1 hAb hOb HMX;cases bm
  · rw[if_pos rfl] at hS;have HSS:=lh hS;clear hS hrk;gi_wp2
    gi_region_with_o (first|(refine⟨trivial,?_⟩;gi_at_call 109;refine (CallsIn.inRound _ (callsIn_wide.2 (HNM.out _))).mono ?_;rintro _ _ ⟨rfl,rfl⟩)|(refine⟨trivial,?_⟩;gi_at_call 18;refine (CallsIn.inRound _ (callsIn_wide.2 (HMT.out _ (by first|exact HAB.out.sh.b.drew|exact HAB.out.sh.b)))).mono ?_;rintro _ w3 ⟨rfl,hb⟩;have B3:Below Wb.heap.size Wb w3:=(by first|exact (Below.refl _ _).drew.trans hb|exact hb);have HA3:=lh (HAB.out.bel hP (B3.mono zb));have HO3:=lh (HOB.out.keep (B3.cell (p:=⟨O,0,none⟩) (by show O<Wb.heap.size;have:=hP.b;omega)) (fun q hq=>B3.block q (HOB.out.lt q hq).2.1));clear hb B3))
    all_goals gi_wp2
    all_goals exact⟨HA3.out.up,s,HSS.out,HA3.out,_,HO3.out⟩
  rw[if_neg (by decide)] at hS;by_cases h0:code=0
  rotate_left
  · rw[if_pos h0] at hS;have t1:(code != 0)=true:=bne_iff_ne.2 h0;have HSS:=lh hS;clear h0 hrk hS;gi_wp2
    gi_region_with_o (first|(refine⟨trivial,?_⟩;gi_at_call 109;refine (CallsIn.inRound _ (callsIn_wide.2 (HNM.out _))).mono ?_;rintro _ _ ⟨rfl,rfl⟩)|(refine⟨trivial,?_⟩;gi_at_call 18;refine (CallsIn.inRound _ (callsIn_wide.2 (HMT.out _ (by first|exact HAB.out.sh.b.drew|exact HAB.out.sh.b)))).mono ?_;rintro _ w3 ⟨rfl,hb⟩;have B3:Below Wb.heap.size Wb w3:=(by first|exact (Below.refl _ _).drew.trans hb|exact hb);have HA3:=lh (HAB.out.bel hP (B3.mono zb));have HO3:=lh (HOB.out.keep (B3.cell (p:=⟨O,0,none⟩) (by show O<Wb.heap.size;have:=hP.b;omega)) (fun q hq=>B3.block q (HOB.out.lt q hq).2.1));clear hb B3))
    all_goals gi_wp2_with (refine⟨trivial,?_⟩;gi_at_call 102;refine (CallsIn.inRound _ (callsIn_wide.2 (HRD.out _ HA3.out.sh.b))).mono ?_;rintro _ w4 ⟨⟨al2,gr2,rfl,hI,hGs,hf1,hf2⟩,hb4⟩;have hone:=zau y.1 al2 gr2 (zaP hI) (zaO hGs);have B4:Below w3.heap.size w3 (w4.alloc (.cells (y.1.vals al2 gr2) 40)):=bt hb4 (zab w4 _);have z3:=HA3.out.z;have z4:=hb4.size;have A4:=HA3.out.bel hP (B4.mono z3);have HO4:=lh (HO3.out.keep (B4.cell (p:=⟨O,0,none⟩) (by show O<w3.heap.size;have:=hP.b;omega)) (fun q hq=>B4.block q (HO3.out.lt q hq).2.1));obtain⟨⟨v1,k1⟩,f1⟩:=A4.b1;obtain⟨⟨v2,k2⟩,f2⟩:=A4.b2;obtain⟨-,f3⟩:=A4.b3;have co:=HO4.out.1;have R4:=zai w4 (y.1.vals al2 gr2) 40 (0,0);have HA4:=lh A4;have HI:=lh hI;have HGS:=lh hGs;clear hI hGs hf1 hf2 hb4 A4 B4)
    all_goals
     have A5:=((HA4.out.set hP (v:=.slice none 0 0) (.inl rfl)).set hP (v:=.int .i64 code) (.inr (.inl rfl)));exact⟨A5.up,code,HSS.out,rfl,A5,(World.cell?_setCell_other _ _ _ _ (by intro e;have:=congrArg Addr.block e;simp at this)).trans (World.cell?_setCell_same' _ _ _ (by rw[k1];rfl)),World.cell?_setCell_same' _ _ _ (by rw[World.cell?_setCell_other _ _ _ _ (by intro e;have:=congrArg Addr.block e;simp at this),k2];rfl)⟩
  rw[if_neg (fun k=>k h0)] at hS;subst h0;have hg8:=zqc y (hrk (fun k=>k rfl));have HSS:=lh hS;clear hrk hS;gi_wp2
  gi_region_with_o (first|(refine⟨trivial,?_⟩;gi_at_call 109;refine (CallsIn.inRound _ (callsIn_wide.2 (HNM.out _))).mono ?_;rintro _ _ ⟨rfl,rfl⟩)|(refine⟨trivial,?_⟩;gi_at_call 18;refine (CallsIn.inRound _ (callsIn_wide.2 (HMT.out _ (by first|exact HAB.out.sh.b.drew|exact HAB.out.sh.b)))).mono ?_;rintro _ w3 ⟨rfl,hb⟩;have B3:Below Wb.heap.size Wb w3:=(by first|exact (Below.refl _ _).drew.trans hb|exact hb);have HA3:=lh (HAB.out.bel hP (B3.mono zb));have HO3:=lh (HOB.out.keep (B3.cell (p:=⟨O,0,none⟩) (by show O<Wb.heap.size;have:=hP.b;omega)) (fun q hq=>B3.block q (HOB.out.lt q hq).2.1));clear hb B3))
  all_goals gi_wp2_with (first|(refine⟨trivial,?_⟩;gi_at_call 102;refine (CallsIn.inRound _ (callsIn_wide.2 (HRD.out _ HA3.out.sh.b))).mono ?_;rintro _ w4 ⟨⟨al2,gr2,rfl,hI,hGs,hf1,hf2⟩,hb4⟩;have hone:=zau y.1 al2 gr2 (zaP hI) (zaO hGs);have B4:Below w3.heap.size w3 (w4.alloc (.cells (y.1.vals al2 gr2) 40)):=bt hb4 (zab w4 _);have z3:=HA3.out.z;have z4:=hb4.size;have A4:=HA3.out.bel hP (B4.mono z3);have HO4:=lh (HO3.out.keep (B4.cell (p:=⟨O,0,none⟩) (by show O<w3.heap.size;have:=hP.b;omega)) (fun q hq=>B4.block q (HO3.out.lt q hq).2.1));obtain⟨⟨v1,k1⟩,f1⟩:=A4.b1;obtain⟨⟨v2,k2⟩,f2⟩:=A4.b2;obtain⟨-,f3⟩:=A4.b3;have co:=HO4.out.1;have R4:=zai w4 (y.1.vals al2 gr2) 40 (0,0);have HA4:=lh A4;have HI:=lh hI;have HGS:=lh hGs;clear hI hGs hf1 hf2 hb4 A4 B4)|(gi_at_builtin;have B45:=zab (w4.alloc (.cells (y.1.vals al2 gr2) 40)) (.cells (y.1.vals al2 gr2) 40);have zA:=HA4.out.z;have zB:=hP.b;obtain⟨-,⟨S,heS,hown⟩,hnb⟩:=HO4.out;have hown5:=zaD hown (fun x hx=>B45.block x (zam hown x hx).2);have HA5:=HA4.out.bel hP (B45.mono zA);refine zfN _ rfl (.tmp 52) (.tmp 54) 50 40 _ _ 33 336 rfl Tryz.underlying50 ztS zlE zlF zlG (zaa _ _ _) (by decide) (O+2) (.slice va s.length vc) (.slice (some ⟨w4.heap.size+1,0,none⟩) 1 1) s.length 1 (ec (S.map SE.val)) (y.1.vals al2 gr2).toList rfl hown5 rfl (cs_one (by simp) (zaa _ _ _)) (by decide) (all1 hone) (by unfold maxLen;omega) (by omega) (by simp at zA ⊢;omega) ?_;intro a5 c5 w5 hown6 hg5 hat;have HA6:=lh (HA5.own hP hg5 (fun x hx=>by have q1:=zam hown x hx;have q2:=hnb x hx;exact⟨by omega,q2⟩));have HS6:=lh heS;have HW6:=lh hown6;have HN6:=lh (show ∀ q,(Value.slice a5 (s.length+1) c5).ownBlock=some q->(q<B∨B+7<=q)∧q ∉ Dx from fun q hq=>by rcases hat with e|e <;> rw[e] at hq;exact hnb q hq;have e2:=Option.some.inj hq;simp at zA e2;exact⟨.inr (by omega),fun hD=>by have:=hP.ds q hD;omega⟩);have c6:=HA6.out.b3.1;have f6:=HA6.out.b3.2;obtain⟨v6,c6⟩:=c6;clear hown hown5 hown6 hg5 hat hnb heS B45 HA5 zA zB))
  all_goals
   have A7:=HA6.out.set hP (v:=.slice a5 (s.length+1) c5) (.inr (.inr rfl));obtain⟨ga,gc,e1,-⟩:=HI.out;obtain⟨ga2,gc2,e2,-⟩:=HGS.out;refine⟨A7.up,s++[y],HSS.out,A7,.slice a5 (s.length+1) c5,World.cell?_setCell_same' _ _ _ (by rw[c6];rfl),⟨S++[(zfV y,(ga,gc),(ga2,gc2))],?_,?_⟩,HN6.out⟩
   · rw[List.map_append,List.map_append,HS6.out];rfl
   · have e5:ec ((S++[(zfV y,(ga,gc),(ga2,gc2))]).map SE.val)=ec (S.map SE.val)++(y.1.vals al2 gr2).toList:=by
      rw[List.map_append,zhw,e1,e2];show _++((SE.val (zfV y,(ga,gc),(ga2,gc2))).toList++[])=_
      rw[List.append_nil];rfl
     rw[e5,List.length_append];exact zaD HW6.out (fun x hx=>(zaH w5 ⟨O,0,none⟩ (.slice a5 (s.length+1) c5)).block x (zam HW6.out x hx).2 (fun e=>by have q1:=Option.some.inj e;have q2:=(zam HW6.out x hx).1;simp at q1;omega))
 have HRS:=zi4 (ze5 pt) List.length (zjU pt) (LiJ w0 w w' h O B p sv l fl cd id L pt r .ready ((O+1)::Dl)) (LiX w0 w w' h O B p sv l fl cd id L pt r .done (some .ret) ((O+1)::Dl)) (r.D+1) p (B+3) (B+1) (B+2) (B+4) B sv l fl cd c id L w0 W s 3 2 (fun c s W' hj=>⟨hj.1.ri,hj.1.sh⟩) HJT (fun c s k rc W1 h1 h2 hm1 h3=>(HY c s k rc W1 h1 h2 (by obtain⟨i,hi⟩:=hm1;exact hkz _ hi) h3).mono fun e W' h=>by cases hst:ze5 pt s k rc <;> (rw[hst] at h;exact h)) (by rcases hL3 with rfl|rfl|rfl <;> decide) (by omega) rfl ⟨hA,_,hLO⟩ hc2 (by omega) (by omega) hcd;have hlq2:=zjT l fl cd id pt L c s;have hqc:=zgP l fl cd c id pt L s;have hstp:zey l fl cd id pt (ltr i) c s=if (zez l fl cd id pt L c s).1.2≠0 then (([],(zez l fl cd id pt L c s).1.2),(zez l fl cd id pt L c s).2) else zey l fl cd id pt (ltr (i+1)) (zez l fl cd id pt L c s).2 (zez l fl cd id pt L c s).1.1:=by rw[hLe];rfl
 have hQ:zez l fl cd id pt L c s=match zbt l id fl cd L (ze5 pt) (l.length+1) c [L - 1,255] s with|(.ok (s',code),c')=>(if code≠0 then ([],code) else (s',0),c')|(.error e,c')=>(([],e),c'):=rfl
 have hne:=fun e c' (h:zbt l id fl cd L (ze5 pt) (l.length+1) c [L - 1,255] s=(.error e,c'))=>zg3 (zoD pt) _ _ _ _ _ _ h
 generalize zbt l id fl cd L (ze5 pt) (l.length+1) c [L - 1,255] s=R at HRS hQ hne;generalize zez l fl cd id pt L c s=Q at hlq2 hqc hstp hQ;refine HRS.mono ?_
 clear HRS HJT HY hLa lc;rintro e W2 ⟨⟨v,rfl⟩,hout⟩;refine⟨⟨v,rfl⟩,?_⟩
 unfold zjg at hout;have hgc:∀ (pd:Option Code) (k:Nat),k≠B+6->(r.gone pd W2).heap[k]?=W2.heap[k]?:=fun pd k h2=>World.putObj_heap_other (by omega)
 have hnd:((B+5)::Dl).Nodup:=List.nodup_cons.2 ⟨fun hd=>by have:=hmk _ hd;omega,HN.out.nd⟩;obtain⟨R1,cR⟩:=R
 cases R1 with
 | error e =>
   obtain⟨h1,h2,h3⟩:=hout;have he:=hne e cR rfl;replace hQ:Q=(([],e),cR):=hQ
   rw[hQ,if_pos he,HL.out] at hstp;rw[hstp,if_pos he] at hg;subst hg;refine .inr ⟨.ret,h1.up,?_⟩
   have hK:(r.gone (some .ret) W2).heap[B+5]?=some (.deferred (some [])):=(hgc _ _ (by omega)).trans (hD ▸ h1.up.dfr);have x1:(r.gone (some .ret) W2).cell? ⟨h+1,0,none⟩=some (.slice none 0 0):=(World.cell?_of_block (a:=⟨h+1,0,none⟩) (hgc _ (h+1) (by omega))).trans h2;have x2:(r.gone (some .ret) W2).cell? ⟨h+2,0,none⟩=some (.int .i64 e):=(World.cell?_of_block (a:=⟨h+2,0,none⟩) (hgc _ (h+2) (by omega))).trans h3
   have x3:∀ D∈(B+5)::Dl,h+3<=D∧(r.gone (some .ret) W2).heap[D]?=some (.deferred (some [])):=fun D hd=>by
    rcases List.mem_cons.1 hd with rfl|hd
    · exact⟨by omega,hK⟩
    · have q:=hmk D hd;exact⟨by omega,(hgc _ D (by omega)).trans ((h1.mr D (List.mem_cons_of_mem _ hd)).trans q.2.2)⟩
   gi_wp2
   exact zp8 (Ds:=(B+5)::Dl) rfl rfl rfl hnd x3 x1 x2 (fun W' e1 e2 e3 e4 e5=>⟨.slice none 0 0,rfl,SeR.nil _ _,zjS h1.sh h1.g hpl' hh hso' e1 e2 e3 (by rw[e4];simp [Rf.gone]) (fun k hk=>(e5 k (fun e=>by have:=(x3 k e).1;omega)).trans (hgc _ k (by omega)))⟩)
 | ok sc =>
   obtain⟨s2,code⟩:=sc;obtain⟨w1,⟨hA1,ov2,hO2⟩,hcode⟩:=hout;obtain⟨va2,vc2,rfl⟩:=za6 hO2.2.1.choose_spec.2;have z1:=hA1.z
   have F:(∀ k,k≠B->k≠B+6->(r.gone none W2).heap[k]?=w1.heap[k]?)∧(r.gone none W2).cell? ⟨B,0,none⟩=some (.int .i64 code)∧Rup r .ready none W2∧w1.heap.size<=(r.gone none W2).heap.size∧(r.gone none W2).os=w1.os∧(r.gone none W2).tape=w1.tape∧(r.gone none W2).output=w1.output:=by
    rcases hcode with ⟨rfl,rfl⟩|rfl
    · exact⟨fun k _ h2=>hgc none k h2,(World.cell?_of_block (a:=⟨B,0,none⟩) (hgc none B (by omega))).trans hA1.ri.v,hA1.up,by simp [Rf.gone],rfl,rfl,rfl⟩
    · have hb4:∀ k,k≠B->(w1.setCell ⟨B,0,none⟩ (.int .i64 code)).heap[k]?=w1.heap[k]?:=fun k h1=>heap_setCell_other _ ⟨B,0,none⟩ k _ h1
      refine⟨fun k h1 h2=>(hgc none k h2).trans (hb4 k h1),(World.cell?_of_block (a:=⟨B,0,none⟩) (hgc none B (by omega))).trans (World.cell?_setCell_same' _ _ _ (by rw[hA1.ri.v];rfl)),⟨?_,?_⟩,by simp [Rf.gone],rfl,rfl,rfl⟩
      · rw[hb4 _ (by omega)];exact hA1.up.lp
      · rw[hb4 _ (by omega)];exact hA1.up.dfr
   obtain⟨F1,F2,F3,F4,F5,F6,F7⟩:=F;refine .inl ⟨F3,?_⟩
   simp only[hD]
   have hK:(r.gone none W2).heap[B+5]?=some (.deferred (some [])):=(F1 _ (by omega) (by omega)).trans (hD ▸ hA1.up.dfr)
   have HN3:Hid (LiN w0 w (r.gone none W2) h O p sv l fl cd cR id pt ((B+5)::Dl) s2):=by
    have hF:=zjS (W':=r.gone none W2) hA1.sh hA1.g hpl' hh hso' F5 F6 F7 F4 (fun k hk=>F1 k (by omega) (by omega));refine lh ⟨hF.1,hF.2,(World.cell?_of_block (a:=⟨h,0,none⟩) (F1 h (by omega) (by omega))).trans hA1.n,hA1.b1.of (F1 _ (by omega) (by omega)),hA1.b2.of (F1 _ (by omega) (by omega)),hA1.b3.of (F1 _ (by omega) (by omega)),fun D hd=>?_,hnd,by omega,?_,.slice va2 s2.length vc2,(World.cell?_of_block (a:=⟨O,0,none⟩) (F1 O (by omega) (by omega))).trans hO2.1,?_,?_⟩
    · rcases List.mem_cons.1 hd with rfl|hd
      · exact⟨by omega,by omega,hK⟩
      · have q:=hmk D hd;exact⟨by omega,by omega,(F1 D (by omega) (by omega)).trans ((hA1.mr D (List.mem_cons_of_mem _ hd)).trans q.2.2)⟩
    · exact (F1 _ (by omega) (by omega)).trans ((hA1.mr (O+1) (List.mem_cons_self ..)).trans HN.out.lt)
    · obtain⟨S2,q1,q2⟩:=hO2.2.1;exact⟨S2,q1,zaD q2 (fun q hq=>F1 q (by have:=hO2.lt q hq;omega) (by have:=hO2.lt q hq;omega))⟩
    · intro q hq hd;have q1:=hO2.lt q hq;rcases List.mem_cons.1 hd with e|hd
      · omega
      · exact q1.2.2.2 (List.mem_cons_of_mem _ hd)
   have hos:s2.length<=1000->True:=fun _=>trivial
   clear hcode F1 F3 F4 F5 F6 F7 hA1 hO2 hgc hos;generalize r.gone none W2=W3 at HN3 F2 hK ⊢;obtain⟨⟨v1,n1⟩,m1⟩:=HN3.out.b1;obtain⟨⟨v2,n2⟩,m2⟩:=HN3.out.b2;have hwi:IntKind.i64.wrap ((i:Int)+1)=(i:Int)+1:=by rw[IntKind.wrap_i64];omega
   by_cases hc:code=0
   · subst hc;replace hQ:Q=((s2,0),cR):=hQ
     rw[hQ] at hstp hlq2 hqc;rw[if_neg (fun k=>k rfl)] at hstp;dsimp only at hstp hlq2 hqc;have HLN:=lh (hstp.symm.trans HL.out);clear hQ hstp hg;gi_wp2
     refine⟨?_,HM0.out _ _ _ _ rfl rfl hi3⟩
     rw[HII.out];exact⟨i+1,(B+5)::Dl,s2,cR,_,_,_,_,_,_,_,_,_,_,_,_,_,_,_,_,_,_,_,_,_,_,_,_,_,_,_,_,_,_,_,_,_,_,_,_,_,⟨by omega,HLN,by omega,by omega,by rw[hcap];omega,HN3⟩,rfl⟩
   · have t2:(code != 0)=true:=bne_iff_ne.2 hc;replace hQ:Q=(if code≠0 then (([]:List Fu),code) else (s2,0),cR):=hQ
     rw[if_pos hc] at hQ;rw[hQ,if_pos hc,HL.out] at hstp;rw[hstp,if_pos hc] at hg;subst hg;have hmx:Tryz.prog.follows .mixedOrders=true:=by kernel_rfl
     have hmk3:=HN3.out.mr;clear hQ hstp hc;gi_wp2
     gi_region_with_o (fail)
     all_goals gi_wp2
     all_goals exact zhK (Ds:=(B+5)::Dl) (W:=W3.drew) rfl rfl rfl (HN3.out.sh.below (Below.refl _ _).drew) (zay HN3.out.g (Below.refl _ _).drew) hpl' hh hso' hnd (fun D hd=>by have q:=hmk3 D hd;exact⟨by omega,q.2.2⟩) n1 HN3.out.b2 (SeR.nil _ _) (fun q hq=>by cases hq) rfl rfl
end
end Go.Proofs.YtefcmdmfgdcpmaaGreatDoor
