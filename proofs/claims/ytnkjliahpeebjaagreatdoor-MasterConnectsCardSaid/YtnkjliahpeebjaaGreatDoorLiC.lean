/- Catalogs. -/
import Derived.Test.YtnkjliahpeebjaaGreatDoorMx
import Derived.Shelf.SlSortCmp.InsertionK
set_option maxRecDepth 8000
set_option maxHeartbeats 16000000
open Option renaming some->Z9,none->Z8
open _root_ renaming ByteArray->Z7,List->Z5,if_neg->Z0,if_pos->ZX,UInt8->ZP,decide_eq_true->ZL,decide_eq_false->ZF,Array->ZE,Option->Zy,congrArg->YX
open Go.Proofs.Tryz renaming prog->Z6
open Go renaming Value->Z3,World->Z2,Calls->ZJ,undef->Ze,callsIn_wide->Zc,heap_setCell_other->XO
open Go.World renaming cell?_of_block->Z1,cell?_setCell_other->Zt,frozen?_of_block->Zr,cell?_setCell_same'->Zl,putObj_heap_other->Y8,alloc->Wt
open Bool renaming true->ZZ,false->ZW,and_eq_true->ZT
open Go.RowKit renaming Below->ZV
open Option.some renaming inj->ZR
open List renaming length_cons->ZK,mem_cons->Zw,cons_append->Zm,length_nil->YQ,nil_append->YM,map_append->XL,append_toArray->Xe,length->WR
open Go.CallsIn renaming inRound->YK
namespace Go.Proofs.YtnkjliahpeebjaaGreatDoor
open Go.RowKit
variable(v:Z3)(b i u:Nat)(f:Z3){y:Func}{w Wp:Z2}(a:Zy Addr){k:Z5 ZP}{tmps:ZE Z3}(n:Nat){w0 W W':Z2}{x:Rw}{h z O q B p:Nat}{sv t ov:Z3}{cd d id c e:Int}{L:ZP}{l:Z5 Rw}{s:Z5 Fu}{fl m:Int}{pt:Z7}{Dt:Z5 Nat}{r:Rf}{st st':LoopState}{pd j:Zy Code}
def cq(pt:Z7)(s:Z5 Fu)(k r:Z7):Except Int (Z5 Fu) :=
 if Ds.match_ (Ds.bl pt) (Ds.bl (aN k))=ZW then .ok s else if (bw k r).2≠0 then .error (bw k r).2 else .ok (s++[(bw k r).1])
def du(l:Z5 Rw)(fl cd id:Int)(pt:Z7)(L:ZP)(c:Int)(s:Z5 Fu):(Z5 Fu × Int) × Int :=
 match bS l id fl cd L (cq pt) (l.length+1) c [L - 1,255] s with
 | (.ok (S,d),m)=>(if d≠0 then ([],d) else (S,0),m)
 | (.error e,m)=>(([],e),m)
def ee(l:Z5 Rw)(fl cd id:Int)(pt:Z7):Z5 ZP->Int->Z5 Fu->(Z5 Fu × Int) × Int
 | [],c,s=>((s,0),c)
 | L::g,c,s=>if (du l fl cd id pt L c s).1.2≠0 then (([],(du l fl cd id pt L c s).1.2),(du l fl cd id pt L c s).2) else ee l fl cd id pt g (du l fl cd id pt L c s).2 (du l fl cd id pt L c s).1.1
def eK(l:Z5 Rw)(fl cd C id g:Int)(pt:Z7):(Z5 Fu × Int) × Int :=
 if Ds.pat (Ds.bl pt)=ZW\/g<0 then (([],1),C)
 else if (ee l fl cd id pt [68,71,65] C []).1.2≠0 then (([],(ee l fl cd id pt [68,71,65] C []).1.2),(ee l fl cd id pt [68,71,65] C []).2)
 else if g<((ee l fl cd id pt [68,71,65] C []).1.1.length:Int) then (([],8),(ee l fl cd id pt [68,71,65] C []).2)
 else ee l fl cd id pt [68,71,65] C []
theorem FF(l:Z5 Rw)(fl cd C id:Int)(pt:Z7)(L:ZP)(s:Z5 Fu):C<=(du l fl cd id pt L C s).2/\(du l fl cd id pt L C s).2<=C+l.length+1:=by
 have h:=ja (step:=cq pt) (l:=l) (id:=id) (fl:=fl) (cd:=cd) (L:=L) (l.length+1) C [L - 1,255] s;unfold du
 cases H:bS l id fl cd L (cq pt) (l.length+1) C [L - 1,255] s with
 | mk a c =>
   rw[H] at h
   cases a with
   | error e=>dsimp only at h |-;omega
   | ok p=>dsimp only at h |-;omega
section
abbrev SE:Type:=Ef × (Zy Addr × Nat) × (Zy Addr × Nat)
instance:Inhabited SE:=⟨⟨⟨En.zero,0,0,[]⟩,(Z8,0),(Z8,0)⟩⟩
def SE.val(x:SE):ZE Z3:=x.1.e.vals (.slice x.2.1.1 x.1.n1 x.2.1.2) (.slice x.2.2.1 x.1.n2 x.2.2.2)
def SE.enc(x:SE):Z5 Z3:=(SE.val x).toList
def SE.cf(x y:SE):Int:=Lib.compareBytes x.1.e.name.data.toList y.1.e.name.data.toList
theorem SE.size(x:SE):(SE.enc x).length=33:=by
 unfold SE.enc SE.val;rw[Array.length_toList];exact ah _ _ _
theorem SE.one(x:SE):∀ v∈SE.enc x,v.oneCell'=ZZ:=all1 (ay _ _ _ rfl rfl)
attribute [local go_sem ↓] aZ bf bq cl
attribute [local go_sem] bn aS aH bE bH aK aT ak aI aw az aM ah aQ aL aP aO aR aY aW bD ap aq
theorem KX(x y:SE)(W:Z2):ZJ Z6 94 #[.agg (SE.val x),.agg (SE.val y)] W fun e g=>e=.returned (.int .i64 (SE.cf x y))/\∃ q o,g=Go.Sort.grow (W.drewN q) o:=by
 have H:=fun W'=>Tryz.strings_Compare x.1.e.name y.1.e.name W'
 unfold SE.cf SE.val;generalize Lib.compareBytes x.1.e.name.data.toList y.1.e.name.data.toList=r at H |-;have A:=ay x.1.e (.slice x.2.1.1 x.1.n1 x.2.1.2) (.slice x.2.2.1 x.1.n2 x.2.2.2) rfl rfl;have C:=ay y.1.e (.slice y.2.1.1 y.1.n1 y.2.1.2) (.slice y.2.2.1 y.1.n2 y.2.2.2) rfl rfl;go_enter Tryz.func94,Tryz.ntmps94
 go_wp2_with (go_at_call 54;refine (H _).mono ?_;rintro e g ⟨rfl,rfl⟩)
 go_ret
 exact⟨rfl,0,_,by rw[Go.Sort.alloc_eq_grow,Go.Sort.alloc_eq_grow,Go.Sort.grow_grow];rfl⟩
def Tryz.srt_ren:Go.Shelf.Ren:=⟨fun|20=>252|n=>n,fun|0=>0|3=>3|4=>4|22=>33|24=>29|25=>164|n=>n,fun|n=>n⟩
theorem Mo:SlLaysF0.n20 Z6 Tryz.srt_ren:={
 mixed:=by kernel_rfl
 f20:=⟨Tryz.f252.name,by decide,Tryz.func252.trans (YX Z9 (by kernel_rfl))⟩
 t0:=Tryz.underlying0
 a0:=Tryz.isAgg0
 z0:=Tryz.sizeOf0
 v0:=Tryz.zeroValue0
 t3:=Tryz.underlying3
 a3:=Tryz.isAgg3
 z3:=Tryz.sizeOf3
 v3:=Tryz.zeroValue3
 t4:=Tryz.underlying4
 a4:=Tryz.isAgg4
 z4:=Tryz.sizeOf4
 v4:=Tryz.zeroValue4
 t22:=Tryz.underlying33
 a22:=Tryz.isAgg33
 z22:=Tryz.sizeOf33
 v22:=Tryz.zeroValue33
 t25:=Tryz.underlying164
 a25:=Tryz.isAgg164
 z25:=Tryz.sizeOf164
 v25:=Tryz.zeroValue164 }
theorem K0(d:ZE SE)(w:Z2)(A:d.size=n)(o:Go.Sort.HoldsK SE.enc 33 w b 0 d)(H:b<w.heap.size)(g:n<=19) :
 ZJ Z6 252 #[.slice (Z9 ⟨b,0,Z8⟩) n u,.int .i64 0,.int .i64 n,.func (.func 94) #[] #[]] w fun e D =>
  e=.returned (.tuple #[])/\∃ m C,D=sortWorldK SE.enc 33 w b 0 m (Sort.insertionSort (ltOf SE.cf) d 0 n) C:=by
 subst A;exact AnyQ.insertionSortCmpFunc Mo 33 Tryz.isAgg29 Tryz.sizeOf29 SE.enc SE.size SE.one SE.cf 94 #[] b 0 u 0 d.size d w (enters_of Tryz.func94 (by kernel_rfl) rfl) (fun _ _ _ _ x y=>KX x y _) o H (Nat.zero_le _) (Nat.le_refl _) (by omega)
theorem Mp(w:Z2):ZJ Z6 252 #[v,.int .i64 0,.int .i64 0,f] w fun r g=>r=.returned (.tuple #[])/\g=w:=by
 go_enter Tryz.func252,Tryz.ntmps252
 go_wp2_with fail
 go_loopw [8] (fun i wr=>i=.int .i64 1/\wr=w) (fun _ _=>0)
 case atStart=>exact⟨rfl,rfl⟩
 case round =>
  obtain⟨rfl,rfl⟩:=hrel;go_wp2_with fail
  go_end0
  exact⟨rfl,rfl⟩
theorem Mr(h:n<=19)(w:Z2)(Q:Z2->Prop)(H:ZJ Z6 252 #[v,.int .i64 0,.int .i64 n,f] w fun r g=>r=.returned (.tuple #[])/\Q g) :
 ZJ Z6 193 #[v,.int .i64 n,f] w fun r g=>r=.returned (.tuple #[])/\Q g:=by
 have HI:=lh H;have F:((n:Nat):Int)<=19:=by omega
 have E:(0:Int)<=(n:Int):=by omega
 clear H;go_enter Tryz.func193,Tryz.ntmps193
 go_wp2_with fail
 go_loopw [7,8] (fun i j wr=>i=.int .i64 0/\j=.int .i64 20/\wr=w) (fun _ _ _=>0)
 case atStart=>exact⟨rfl,rfl,rfl⟩
 case round =>
  obtain⟨rfl,rfl,rfl⟩:=hrel;go_wp2_with (go_at_call 252;(refine HI.o.mono ?_);rintro _ D ⟨rfl,A⟩;have C:=lh A;clear A)
  go_loopw [6] (fun i o=>i=.int .i64 20/\o=D) (fun _ _=>0)
  case atStart=>exact⟨rfl,rfl⟩
  case round =>
   obtain⟨rfl,rfl⟩:=hrel;go_wp2_with fail
   go_end0
   exact⟨rfl,C.o⟩
theorem Mq(c:Nat)(t:v=.slice a n c)(h:n<=19)(w:Z2)(Q:Z2->Prop)(H:ZJ Z6 252 #[v,.int .i64 0,.int .i64 n,f] w fun r g=>r=.returned (.tuple #[])/\Q g) :
 ZJ Z6 93 #[v,f] w fun r g=>r=.returned (.tuple #[])/\Q g:=by
 subst t;have HI:=lh (Mr _ f n h w Q H);clear H;go_enter Tryz.func93,Tryz.ntmps93
 go_wp2_with (go_at_call 193;(refine HI.o.mono ?_);rintro _ C ⟨rfl,o⟩;have A:=lh o;clear o)
 go_end0
 exact⟨rfl,A.o⟩
end
def mks(Dt:Z5 Nat):Z5 Deferred:=Dt.map fun D=>{ target:=.collected D,args:=#[] }
theorem ta{F:Fence}{z:Nat}{P:Program}{y:Func}{tmps:ZE Z3}{R:Ending->Z2->Prop}{lo:Nat}:∀ (Dt:Z5 Nat) (W:Z2),Dt.Nodup->(∀ D∈Dt,lo<=D/\W.heap[D]?=Z9 (.deferred (Z9 []))) ->
 (∀ W':Z2,W'.os=W.os->W'.tape=W.tape->W'.output=W.output->W'.heap.size=W.heap.size->(∀ k,k ∉ Dt->W'.heap[k]?=W.heap[k]?)->∃ v,(results y tmps).run P W'=.ok v W'/\R (.returned v) W') ->
 LeavesInM F z P y tmps R (mks Dt) .returning W
 | [],W,_,_,h=>by
   obtain⟨v,N,Q⟩:=h W rfl rfl rfl rfl (fun _ _=>rfl);exact⟨v,by rw[N],Q⟩
 | D::Dt,W,T,o,h=>by
   have S:=(o D (List.mem_cons_self ..)).2;have H:=List.nodup_cons.1 T;refine⟨by simp,.inl ⟨_,_,rfl,run_takeDeferred S,?_⟩⟩
   refine ta Dt _ H.2 (fun A g=>⟨(o A (List.mem_cons_of_mem _ g)).1,?_⟩) (fun W' E G I J K=>h W' E G I (by rw[J];simp) (fun k C=>?_))
   .rw[Y8 (fun e=>H.1 (by rw[<-e];exact g))];exact (o A (List.mem_cons_of_mem _ g)).2
   .rw[K k (fun e=>C (List.mem_cons_of_mem _ e))];exact Y8 (fun e=>C (by rw[e];exact List.mem_cons_self ..))
structure LiP (w0 w:Z2) (h O B p:Nat) (sv:Z3) (r:Rf) (Dt:Z5 Nat):Prop where
 p:p<h
 h0:w0.heap.size<=h
 hh:w.heap.size=h
 o:h+3<=O
 b:O+2<=B
 D:r.D=B+5
 ds:∀ D∈Dt,O+1<=D/\D<B
 so:∀ b,sv.ownBlock=Z9 b->b<h
structure LiC (w0 w Wp W:Z2) (h O B p:Nat) (sv:Z3) (l:Z5 Rw) (fl cd c id:Int) (L:ZP) (pt:Z7) (r:Rf) (st:LoopState) (pd:Zy Code) (Dt:Z5 Nat):Prop where
 sh:SHs w0 W p sv l fl cd c
 g:w.grownBy W (Z9 p)
 ri:RI W (B+3) (B+1) (B+2) (B+4) B p L id
 n:W.cell? ⟨h,0,Z8⟩=Z9 (.string pt)
 b1:Bx W (h+1)
 b2:Bx W (h+2)
 b3:Bx W O
 up:Rup r st pd W
 mr:∀ D∈Dt,W.heap[D]?=Wp.heap[D]?
 z:B+7<=W.heap.size
theorem LiC.core(H:LiC w0 w Wp W h O B p sv l fl cd c id L pt r st pd Dt)(P:LiP w0 w h O B p sv r Dt)(E:∀ k,k<B+7->k≠q->W'.heap[k]?=W.heap[k]?)(K:W.heap.size<=W'.heap.size)(F:q≠h/\q ∉ Dt/\∀ i,i<=4->q≠B+i)(J:SHs w0 W' p sv l fl cd m)(I:w.grownBy W' (Z9 p))(G:Rup r st' j W')(C:Bx W' (h+1)/\Bx W' (h+2)/\Bx W' O) :
 LiC w0 w Wp W' h O B p sv l fl cd m id L pt r st' j Dt:=by
 have V:=P.b;have X:=P.o;have e:∀ i,i<=4->W'.heap[B+i]?=W.heap[B+i]?:=fun i g=>E _ (by omega) (fun e=>F.2.2 i g e.symm)
 obtain⟨R,N,Q,S,T,U⟩:=H.ri;have q:=fun i (g:i<=4)=>Z1 (w:=W) (w':=W') (a:=⟨B+i,0,Z8⟩) (e i g)
 exact⟨J,I,⟨(q 3 (by omega)).trans R,(q 1 (by omega)).trans N,(q 2 (by omega)).trans Q,(q 4 (by omega)).trans S,(q 0 (by omega)).trans T,(Zr (a:=⟨B,0,Z8⟩) (e 0 (by omega))).trans U⟩,
  (Z1 (a:=⟨h,0,Z8⟩) (E h (by omega) (fun e=>F.1 e.symm))).trans H.n,C.1,C.2.1,C.2.2,G,fun D A=>(E D (by have:=P.ds D A;omega) (fun e=>F.2.1 (by rw[<-e];exact A))).trans (H.mr D A),Nat.le_trans H.z K⟩
theorem LiC.tick(H:LiC w0 w Wp W h O B p sv l fl cd c id L pt r st pd Dt)(P:LiP w0 w h O B p sv r Dt)(A:W.grownBy W' (Z9 p))(E:SHs w0 W' p sv l fl cd m) :
 LiC w0 w Wp W' h O B p sv l fl cd m id L pt r st pd Dt:=by
 have N:=H.z;have F:=P.b;have I:=P.o;have K:=P.p;have G:=P.D;have e:∀ k,k<B+7->k≠p->W'.heap[k]?=W.heap[k]?:=fun k J C=>A.block k (by omega) (fun e=>C (ZR e))
 refine H.core P (q:=p) e A.size ⟨by omega,(fun e=>by have:=P.ds _ e;omega),fun i _=>by omega⟩ E (aJ H.g A) ⟨?_,?_⟩ ⟨H.b1.of (e _ (by omega) (by omega)),H.b2.of (e _ (by omega) (by omega)),H.b3.of (e _ (by omega) (by omega))⟩
 .rw[e _ (by omega) (by omega)];exact H.up.lp
 .rw[e _ (by omega) (by omega)];exact H.up.dfr
theorem LiC.bel(H:LiC w0 w Wp W h O B p sv l fl cd c id L pt r st pd Dt)(P:LiP w0 w h O B p sv r Dt)(A:ZV (B+7) W W') :
 LiC w0 w Wp W' h O B p sv l fl cd c id L pt r st pd Dt:=by
 have F:=P.b;have I:=P.o;have K:=P.p;have G:=P.D;have J:=P.hh;have e:=fun k C=>A.block k C
 refine H.core P (q:=B+7) (fun k C _=>e k C) A.size ⟨by omega,(fun e=>by have:=P.ds _ e;omega),fun i _=>by omega⟩ (H.sh.belowB A (by omega) (fun _ b E=>by have:=P.so b E;omega)) (bx H.g (A.mono (by omega))) ⟨?_,?_⟩ ⟨H.b1.of (e _ (by omega)),H.b2.of (e _ (by omega)),H.b3.of (e _ (by omega))⟩
 .rw[e _ (by omega)];exact H.up.lp
 .rw[e _ (by omega)];exact H.up.dfr
theorem LiC.turn(A:LiC w0 w Wp W h O B p sv l fl cd c id L pt r st pd Dt)(H:LiP w0 w h O B p sv r Dt)(C:W.grownBy W' (Z9 q))(R:h<=q)(E:q≠h/\q ∉ Dt/\∀ i,i<=4->q≠B+i)(F:Rup r st' j W')(D:Bx W' (h+1)/\Bx W' (h+2)/\Bx W' O) :
 LiC w0 w Wp W' h O B p sv l fl cd c id L pt r st' j Dt:=by
 have S:=A.z;have J:=H.b;have K:=H.o;have Q:=H.p;have I:=H.h0;have N:=H.hh;exact A.core H (q:=q) (fun k P G=>C.block k (by omega) (fun e=>G (ZR e))) C.size E (A.sh.other C (by omega) (by omega) (fun b D=>by have:=H.so b D;omega)) (bx A.g (gJ C (by omega) (by omega))) F D
theorem LiC.put(H:LiC w0 w Wp W h O B p sv l fl cd c id L pt r st pd Dt)(P:LiP w0 w h O B p sv r Dt) :
 LiC w0 w Wp (W.putObj (r.D+1) (r.loop st' j)) h O B p sv l fl cd c id L pt r st' j Dt:=by
 have G:=H.z;have A:=P.b;have E:=P.o;have C:=P.D;have g:=grownBy_putObj' W (r.D+1) (r.loop st' j);have e:∀ k,k<B+6->(W.putObj (r.D+1) (r.loop st' j)).heap[k]?=W.heap[k]?:=fun k F=>g.block k (by omega) (fun e=>by have:=ZR e;omega)
 exact H.turn P g (by omega) ⟨by omega,(fun e=>by have:=P.ds _ e;omega),fun i _=>by omega⟩ H.up.put ⟨H.b1.of (e _ (by omega)),H.b2.of (e _ (by omega)),H.b3.of (e _ (by omega))⟩
theorem LiC.set{a:Nat}{v:Z3}(H:LiC w0 w Wp W h O B p sv l fl cd c id L pt r st pd Dt)(P:LiP w0 w h O B p sv r Dt)(I:a=h+1\/a=h+2\/a=O) :
 LiC w0 w Wp (W.setCell ⟨a,0,Z8⟩ v) h O B p sv l fl cd c id L pt r st pd Dt:=by
 have J:=H.z;have E:=P.b;have G:=P.o;have F:=P.D;have g:=de W ⟨a,0,Z8⟩ v;have e:∀ k,k<W.heap.size->k≠a->(W.setCell ⟨a,0,Z8⟩ v).heap[k]?=W.heap[k]?:=fun k A C=>g.block k A (fun e=>C (ZR e))
 refine H.turn P g (by show h<=a;omega) ⟨by show a≠h;omega,(fun e=>by have:=P.ds _ e;have:O+1<=a:=this.1;omega),fun j _=>by show a≠B+j;omega⟩ ⟨?_,?_⟩ ⟨H.b1.set,H.b2.set,H.b3.set⟩
 .rw[e _ (by omega) (by omega)];exact H.up.lp
 .rw[e _ (by omega) (by omega)];exact H.up.dfr
theorem LiC.own{q:Zy Nat}(H:LiC w0 w Wp W h O B p sv l fl cd c id L pt r st pd Dt)(P:LiP w0 w h O B p sv r Dt)(g:W.grownBy W' q)(F:∀ x,q=Z9 x->O+2<=x/\(x<B\/B+7<=x)/\x ∉ Dt) :
 LiC w0 w Wp W' h O B p sv l fl cd c id L pt r st pd Dt:=by
 have Q:=H.z;have J:=P.b;have N:=P.o;have K:=P.D
 cases q with
 | none=>exact H.bel P ⟨g.os,g.tape,g.output,g.size,fun k A=>g.block k (by omega) (fun e=>by cases e)⟩
 | some x =>
   obtain⟨G,I,C⟩:=F x rfl;have e:∀ k,k<W.heap.size->k≠x->W'.heap[k]?=W.heap[k]?:=fun k A E=>g.block k A (fun e=>E (ZR e))
   refine H.turn P g (by omega) ⟨by omega,C,fun j _=>by omega⟩ ⟨?_,?_⟩ ⟨H.b1.of (e _ (by omega) (by omega)),H.b2.of (e _ (by omega) (by omega)),H.b3.of (e _ (by omega) (by omega))⟩
   .rw[e _ (by omega) (by omega)];exact H.up.lp
   .rw[e _ (by omega) (by omega)];exact H.up.dfr
def LiO(W:Z2)(O B:Nat)(Dt:Z5 Nat)(ov:Z3)(s:Z5 Fu):Prop :=
 W.cell? ⟨O,0,Z8⟩=Z9 ov/\(∃ S:Z5 SE,S.map (fun x=>x.1.e)=s.map (fun y=>y.1)/\W.ownsRow (O+2) 29 33 ov s.length (ec (S.map SE.val)))/\∀ q,ov.ownBlock=Z9 q->(q<B\/B+7<=q)/\q ∉ Dt
theorem LiO.keep(A:LiO W O B Dt ov s)(H:W'.cell? ⟨O,0,Z8⟩=W.cell? ⟨O,0,Z8⟩)(g:∀ q,ov.ownBlock=Z9 q->W'.heap[q]?=W.heap[q]?):LiO W' O B Dt ov s:=by
 obtain⟨c,⟨S,e,o⟩,n⟩:=A;exact⟨H.trans c,⟨S,e,aV o g⟩,n⟩
theorem LiO.lt(g:LiO W O B Dt ov s):∀ q,ov.ownBlock=Z9 q->O+2<=q/\q<W.heap.size/\(q<B\/B+7<=q)/\q ∉ Dt:=by
 obtain⟨-,⟨S,-,o⟩,n⟩:=g;exact fun q H=>⟨(ax o q H).1,(ax o q H).2,n q H⟩
def LiJ(w0 w Wp:Z2)(h O B p:Nat)(sv:Z3)(l:Z5 Rw)(fl cd id:Int)(L:ZP)(pt:Z7)(r:Rf)(st:LoopState)(Dt:Z5 Nat)(c:Int)(s:Z5 Fu)(W:Z2):Prop :=
 LiC w0 w Wp W h O B p sv l fl cd c id L pt r st Z8 Dt/\∃ ov,LiO W O B Dt ov s
def LiX(w0 w Wp:Z2)(h O B p:Nat)(sv:Z3)(l:Z5 Rw)(fl cd id:Int)(L:ZP)(pt:Z7)(r:Rf)(st:LoopState)(pd:Zy Code)(Dt:Z5 Nat)(c e:Int)(W:Z2):Prop :=
 LiC w0 w Wp W h O B p sv l fl cd c id L pt r st pd Dt/\W.cell? ⟨h+1,0,Z8⟩=Z9 (.slice Z8 0 0)/\W.cell? ⟨h+2,0,Z8⟩=Z9 (.int .i64 e)
theorem LiJ.put(C:LiJ w0 w Wp h O B p sv l fl cd id L pt r st Dt c s W)(H:LiP w0 w h O B p sv r Dt) :
 LiJ w0 w Wp h O B p sv l fl cd id L pt r st' Dt c s (W.putObj (r.D+1) (r.loop st' Z8)):=by
 obtain⟨A,ov,g⟩:=C;have G:=H.D;have F:=H.b;have I:=H.o;exact⟨A.put H,ov,g.keep (putc (by omega)) (fun q E=>Y8 (by have:=g.lt q E;omega))⟩
theorem LiX.put(E:LiX w0 w Wp h O B p sv l fl cd id L pt r st pd Dt c e W)(H:LiP w0 w h O B p sv r Dt) :
 LiX w0 w Wp h O B p sv l fl cd id L pt r st' j Dt c e (W.putObj (r.D+1) (r.loop st' j)):=by
 obtain⟨g,A,C⟩:=E;have G:=H.D;have F:=H.b;have I:=H.o;exact⟨g.put H,(putc (by omega)).trans A,(putc (by omega)).trans C⟩
theorem LiJ.tick(E:LiJ w0 w Wp h O B p sv l fl cd id L pt r st Dt c s W)(H:LiP w0 w h O B p sv r Dt)(A:W.grownBy W' (Z9 p))(F:SHs w0 W' p sv l fl cd m) :
 LiJ w0 w Wp h O B p sv l fl cd id L pt r st Dt m s W':=by
 obtain⟨C,ov,g⟩:=E;have J:=H.p;have G:=H.b;have I:=H.o;have z:=C.z;exact⟨C.tick H A F,ov,g.keep (Z1 (a:=⟨O,0,Z8⟩) (A.block O (by omega) (fun e=>by have:=ZR e;omega))) (fun q D=>A.block q (g.lt q D).2.1 (fun e=>by have:=ZR e;have:=(g.lt q D).1;omega))⟩
structure LiN (w0 w W:Z2) (h O p:Nat) (sv:Z3) (l:Z5 Rw) (fl cd c id:Int) (pt:Z7) (Dt:Z5 Nat) (s:Z5 Fu):Prop where
 sh:SHs w0 W p sv l fl cd c
 g:w.grownBy W (Z9 p)
 n:W.cell? ⟨h,0,Z8⟩=Z9 (.string pt)
 b1:Bx W (h+1)
 b2:Bx W (h+2)
 b3:Bx W O
 mr:∀ D∈Dt,O+2<=D/\D<W.heap.size/\W.heap[D]?=Z9 (.deferred (Z9 []))
 nd:Dt.Nodup
 z:O+2<=W.heap.size
 lt:W.heap[O+1]?=Z9 (.cells #[.int .u8 68,.int .u8 71,.int .u8 65] 5 (3,4))
 o:∃ ov,W.cell? ⟨O,0,Z8⟩=Z9 ov/\(∃ S:Z5 SE,S.map (fun x=>x.1.e)=s.map (fun y=>y.1)/\W.ownsRow (O+2) 29 33 ov s.length (ec (S.map SE.val)))/\∀ q,ov.ownBlock=Z9 q->q ∉ Dt
def lX(w0 w o:Z2)(p:Nat)(sv:Z3)(l:Z5 Rw)(fl cd:Int)(g:(Z5 Fu × Int) × Int)(r:Ending):Prop :=
 ∃ t,r=.returned (.tuple #[t,.int .i64 g.1.2])/\(∃ a c,t=.slice a g.1.1.length c)/\SHs w0 o p sv l fl cd g.2/\w.grownBy o (Z9 p)
theorem uR(pt:Z7)(s:Z5 Fu)(k r:Z7)(S:Z5 Fu)(h:cq pt s k r=.ok S):S.length<=s.length+1:=by
 unfold cq at h;split at h
 .cases h;omega
 split at h
 .cases h
 .cases h;simp
theorem pn{σ ρ:Type}{S:σ->Z7->Z7->Except ρ σ}{l:Z5 Rw}{id fl cd:Int}{L:ZP}{P:ρ->Prop}(g:∀ s k r e,S s k r=.error e->P e) :
 ∀ (f:Nat) (c:Int) (k:Z5 ZP) (s:σ) (e:ρ) (m:Int),bS l id fl cd L S f c k s=(.error e,m)->P e
 | 0,c,k,s,e,m,h=>by
   rw[bS] at h;cases h
 | f+1,c,k,s,e,m,h=>by
   rw[bS] at h;split at h
   .cases h
   split at h
   .cases h
   rename_i x o;split at h
   .cases h
   split at h
   .exact pn g f _ _ _ _ _ h
   cases H:S s x.2.1 x.2.2 with
   | ok A=>rw[H] at h;exact pn g f _ _ _ _ _ h
   | error E=>rw[H] at h;cases h;exact g _ _ _ _ H
theorem DE(pt:Z7)(s:Z5 Fu)(k r:Z7)(e:Int)(h:cq pt s k r=.error e):e≠0:=by
 unfold cq at h;split at h
 .cases h
 split at h
 .rename_i H;cases h;exact H
 .cases h
def kD(id:Int)(L:ZP)(k:Z5 ZP)(l:Z5 Rw):Nat:=l.countP fun x=>(decide (x.1=id)&&bB k (Ds.bl x.2.1))&&decide ((Ds.bl x.2.1).headD 0=L)
theorem Gb(h:nx id k l=Z9 x):kD id L (Ds.bl x.2.1) l<=kD id L k l:=by
 obtain⟨o,A,g⟩:=jP h;refine List.countP_mono_left (fun y _ H=>?_)
 simp only[ZT] at H |-
 exact⟨⟨H.1.1,ir g H.1.2⟩,H.2⟩
theorem Gd(h:nx id k l=Z9 x)(C:(Ds.bl x.2.1).headD 0=L):kD id L (Ds.bl x.2.1) l<kD id L k l:=by
 obtain⟨o,A,g⟩:=jP h;refine oL _ _ l (fun y _ H=>?_) ⟨x,o,?_,?_⟩
 .simp only[ZT] at H |-
  exact⟨⟨H.1.1,ir g H.1.2⟩,H.2⟩
 .simp only[ZT,decide_eq_true_eq]
  exact⟨⟨A,g⟩,C⟩
 .rw[iO,Bool.and_false,Bool.false_and]
theorem p5{σ ρ:Type}{S:σ->Z7->Z7->Except ρ σ}{l:Z5 Rw}{id fl cd:Int}{L:ZP}(g:σ->Nat)(I:∀ s k r o,S s k r=.ok o->g o<=g s+1) :
 ∀ (f:Nat) (c:Int) (k:Z5 ZP) (s o:σ) (e m:Int),bS l id fl cd L S f c k s=(.ok (o,e),m)->g o<=g s+kD id L k l
 | 0,c,k,s,o,e,m,h=>by
   rw[bS] at h;cases h;omega
 | f+1,c,k,s,o,e,m,h=>by
   rw[bS] at h;split at h
   .cases h;omega
   split at h
   .cases h;omega
   rename_i x A;split at h
   .cases h;omega
   rename_i C;split at h
   .have:=p5 g I f _ _ _ _ _ _ h;have:=Gb (L:=L) A;omega
   rename_i D
   have E:(Ds.bl x.2.1).headD 0=L:=by
    refine UInt8.toNat_inj.1 ?_
    have Q:¬ L.toNat<((Ds.bl x.2.1).headD 0).toNat:=fun h=>C (UInt8.lt_iff_toNat_lt.2 h)
    have K:¬ ((Ds.bl x.2.1).headD 0).toNat<L.toNat:=fun h=>D (UInt8.lt_iff_toNat_lt.2 h)
    omega
   have J:=Gd A E
   cases H:S s x.2.1 x.2.2 with
   | ok N =>
     rw[H] at h;have F:=p5 g I f _ _ _ _ _ _ h;have G:=I _ _ _ _ H;omega
   | error e=>rw[H] at h;cases h
def fh(L:ZP)(l:Z5 Rw):Nat:=l.countP fun x=>decide ((Ds.bl x.2.1).headD 0=L)
theorem F9(id:Int)(L:ZP)(k:Z5 ZP)(l:Z5 Rw):kD id L k l<=fh L l :=
 List.countP_mono_left (fun y _ H=>by simp only[ZT] at H;exact H.2)
theorem D7(l:Z5 Rw)(fl cd id:Int)(pt:Z7)(L:ZP)(c:Int)(s:Z5 Fu):(du l fl cd id pt L c s).1.1.length<=s.length+fh L l:=by
 unfold du
 cases H:bS l id fl cd L (cq pt) (l.length+1) c [L - 1,255] s with
 | mk a C =>
   cases a with
   | error e=>simp
   | ok q =>
     obtain⟨S,E⟩:=q;have:=p5 WR (uR pt) _ _ _ _ _ _ _ H;have:=F9 id L [L - 1,255] l;dsimp only;split <;> dsimp only[YQ] <;> omega
theorem kH:∀ (l:Z5 Rw),fh 68 l+fh 71 l+fh 65 l<=l.length
 | []=>by simp [fh]
 | x::l=>by
   have h:=kH l;unfold fh at *;rw[List.countP_cons,List.countP_cons,List.countP_cons,ZK];generalize (Ds.bl x.2.1).headD 0=q;by_cases H:q=68
   .subst H;simp only[decide_true,if_true];rw[Z0 (by decide),Z0 (by decide)];omega
   by_cases g:q=71
   .subst g;simp only[decide_true,if_true];rw[Z0 (by decide),Z0 (by decide)];omega
   rw[Z0 (by simpa using H),Z0 (by simpa using g)];split <;> omega
def ltr(i:Nat):Z5 ZP:=[68,71,65].drop i
def cap3(l:Z5 Rw):Nat->Nat
 | 0=>0
 | 1=>fh 68 l
 | 2=>fh 68 l+fh 71 l
 | _=>fh 68 l+fh 71 l+fh 65 l
theorem F8(l:Z5 Rw)(i:Nat):cap3 l i<=l.length:=by
 have:=kH l;unfold cap3;split <;> omega
theorem wm:∀ (S:Z5 SE) (j:Nat),j<S.length*33->(ec (S.map SE.val))[j]?=Z9 ((SE.enc S[j / 33]!)[j % 33]!)
 | [],j,h=>by simp at h
 | x::S,j,h=>by
   rw[List.map_cons,ec];have o:(SE.val x).toList.length=33:=SE.size x;by_cases H:j<33
   .rw[List.getElem?_append_left (by omega),Nat.div_eq_of_lt H,Nat.mod_eq_of_lt H];have:(SE.enc (x::S)[0]!)=(SE.val x).toList:=rfl;rw[this,getElem!_pos _ j (by omega),List.getElem?_eq_getElem (by omega)]
   .rw[List.getElem?_append_right (by omega),o,wm S (j - 33) (by rw[ZK] at h;omega)];have E:j / 33=(j - 33) / 33+1:=by omega
    have g:j % 33=(j - 33) % 33:=by omega
    rw[E,g];rfl
theorem Bt{o g u:Nat}{S:Z5 SE}(h:W.ownsRow o 29 33 (.slice (Z9 ⟨g,0,Z8⟩) S.length u) S.length (ec (S.map SE.val)))(_hn:0<S.length):Go.Sort.HoldsK SE.enc 33 W g 0 S.toArray:=by
 rcases h.2 with ⟨E,P⟩|⟨N,C,D,e,_,I,J,_,F,Q⟩
 .cases E
 cases e
 intro j H;rw[Go.Sort.size_flatK] at H;have A:j<S.length*33:=by simpa using H
 have G:=wm S j A;rw[Go.Sort.get_flatK SE.enc 33 S.toArray j H];obtain⟨a,c,e,-,p⟩:=dU h;cases e
 obtain⟨K,e,p⟩:=p _hn;cases e
 have q:=p j _ G;rw[Addr.add_lit] at q;refine⟨?_,by simp [World.frozen?,I]⟩
 rw[q];simp
theorem Au{g n:Nat}{A:ZE Obj}(d:ZE SE):w.grownBy (sortWorldK SE.enc 33 w g 0 n d A) (Z9 g):=by
 unfold sortWorldK Go.Sort.putRowK;refine⟨rfl,rfl,rfl,by simp,fun k o H=>?_⟩
 rw[Go.Sort.heap_grow_old _ _ (by simpa using o)];have:g≠k:=fun e=>H (by rw[e])
 simp [Go.Sort.putRow,Go.Sort.mapBlock,Go.Sort.ahead,Array.getElem?_modify,this]
theorem FD(ov:Z3)(S:Z5 SE)(n o:Nat)(W:Z2)(E:S.length=n)(h:W.ownsRow o 29 33 ov n (ec (S.map SE.val)))(H:n<=19) :
 ZJ Z6 93 #[ov,.func (.func 94) #[] #[]] W fun r A=>r=.returned (.tuple #[])/\W.grownBy A ov.ownBlock:=by
 subst E;obtain⟨a,c,rfl⟩:=bX h;refine Mq _ _ a S.length c rfl H W (fun A=>W.grownBy A (Value.slice a S.length c).ownBlock) ?_
 rcases Nat.eq_zero_or_pos S.length with C|C
 .rw[C];refine (Mp _ _ W).mono ?_
  rintro r A ⟨rfl,rfl⟩;exact⟨rfl,World.grownBy.refl _ _⟩
 .obtain⟨g,rfl,-,-⟩:=fa h C;have D:=(ax h g rfl).2;refine (K0 g c S.length S.toArray W (by simp) (Bt h C) D H).mono ?_
  rintro r A ⟨rfl,m,F,rfl⟩;exact⟨rfl,Au _⟩
theorem yQ{R:Ending->Z2->Prop}(P:y.results=#[.cell 8 33,.cell 9 42])(J:tmps.getD 8 Ze=.pointer (Z9 ⟨h+1,0,Z8⟩))(K:tmps.getD 9 Ze=.pointer (Z9 ⟨h+2,0,Z8⟩))(g:Dt.Nodup)(H:∀ D∈Dt,h+3<=D/\W.heap[D]?=Z9 (.deferred (Z9 [])))(C:W.cell? ⟨h+1,0,Z8⟩=Z9 t)(o:W.cell? ⟨h+2,0,Z8⟩=Z9 (.int .i64 d))(N:∀ W':Z2,W'.os=W.os->W'.tape=W.tape->W'.output=W.output->W'.heap.size=W.heap.size->(∀ k,k<h+3->W'.heap[k]?=W.heap[k]?)->R (.returned (.tuple #[t,.int .i64 d])) W') :
 LeavesInM Fence.wide z Z6 y tmps R (mks Dt) .returning W:=by
 refine ta (lo:=h+3) Dt W g H (fun W' A F G I E=>⟨.tuple #[t,.int .i64 d],?_,N W' A F G I (fun k Q=>E k (fun e=>by have:=(H k e).1;omega))⟩)
 have S:=(Z1 (w:=W) (w':=W') (a:=⟨h+1,0,Z8⟩) (E (h+1) (fun e=>by have:=(H _ e).1;omega))).trans C;have T:=(Z1 (w:=W) (w':=W') (a:=⟨h+2,0,Z8⟩) (E (h+2) (fun e=>by have:=(H _ e).1;omega))).trans o;rw[ze P,J,K];go_simp
theorem mU(K:SHs w0 W p sv l fl cd c)(F:w.grownBy W (Z9 p))(I:p<h)(G:w.heap.size=h)(H:∀ b,sv.ownBlock=Z9 b->b<h)(o:W'.os=W.os)(A:W'.tape=W.tape)(C:W'.output=W.output)(D:W.heap.size<=W'.heap.size)(E:∀ k,k<h->W'.heap[k]?=W.heap[k]?):SHs w0 W' p sv l fl cd c/\w.grownBy W' (Z9 p):=by
 have g:ZV h W W':=⟨o,A,C,D,E⟩;exact⟨K.belowB g I (fun _ b J=>H b J),bx F (by rw[G];exact g)⟩
theorem lG{u1:Z3}{g:(Z5 Fu × Int) × Int}(hr:y.results=#[.cell 8 33,.cell 9 42])(U:tmps.getD 8 Ze=.pointer (Z9 ⟨h+1,0,Z8⟩))(V:tmps.getD 9 Ze=.pointer (Z9 ⟨h+2,0,Z8⟩))(hs:SHs w0 W p sv l fl cd c)(Y:w.grownBy W (Z9 p))(hp:p<h)(Z:w.heap.size=h)(E:∀ b,sv.ownBlock=Z9 b->b<h)(C:Dt.Nodup)(H:∀ D∈Dt,h+3<=D/\W.heap[D]?=Z9 (.deferred (Z9 [])))(J:W.cell? ⟨h+1,0,Z8⟩=Z9 u1)(I:Bx W (h+2))(F:∃ a N,t=.slice a g.1.1.length N)(X:g.1.2=d)(A:g.2=c) :
 LeavesInM Fence.wide z Z6 y tmps (fun r w'=>lX w0 w w' p sv l fl cd g r) (mks Dt) .returning ((W.setCell ⟨h+1,0,Z8⟩ t).setCell ⟨h+2,0,Z8⟩ (.int .i64 d)):=by
 obtain⟨⟨u2,K⟩,f2⟩:=I;subst X A;have G:∀ k,k≠h+1->k≠h+2->((W.setCell ⟨h+1,0,Z8⟩ t).setCell ⟨h+2,0,Z8⟩ (.int .i64 g.1.2)).heap[k]?=W.heap[k]?:=fun k k1 k2=>(XO _ ⟨h+2,0,Z8⟩ k _ k2).trans (XO _ ⟨h+1,0,Z8⟩ k t k1)
 refine yQ hr U V C (fun D o=>⟨(H D o).1,(G D (by have:=(H D o).1;omega) (by have:=(H D o).1;omega)).trans (H D o).2⟩) ((Zt _ _ _ _ (by intro e;have:=YX Addr.block e;simp at this)).trans (Zl _ _ _ (by rw[J];rfl))) (Zl _ _ _ (by rw[Zt _ _ _ _ (by intro e;have:=YX Addr.block e;simp at this),K];rfl)) ?_
 intro W' P Q R S T;have hF:=mU (W':=W') hs Y hp Z E P Q R (by rw[S];simp) (fun k hk=>(T k (by omega)).trans (G k (by omega) (by omega)));exact⟨t,rfl,F,hF.1,hF.2⟩
theorem LiN.sorted(H:LiN w0 w W h O p sv l fl cd c id pt Dt s)(I:p<h)(F:w.heap.size=h)(C:∀ b,sv.ownBlock=Z9 b->b<h)(J:h+3<=O)(A:∀ q,ov.ownBlock=Z9 q->O+2<=q/\q ∉ Dt)(o:W.grownBy W' ov.ownBlock) :
 SHs w0 W' p sv l fl cd c/\w.grownBy W' (Z9 p)/\Bx W' (h+1)/\Bx W' (h+2)/\W'.cell? ⟨O,0,Z8⟩=W.cell? ⟨O,0,Z8⟩/\∀ D∈Dt,h+3<=D/\W'.heap[D]?=Z9 (.deferred (Z9 [])):=by
 have z:=H.z;have e:∀ k,k<O+2->W'.heap[k]?=W.heap[k]?:=fun k G=>o.block k (by omega) (fun e=>by have:=(A k e.symm).1;omega)
 have hF:=mU H.sh H.g I F C o.os o.tape o.output o.size (fun k G=>e k (by omega));refine⟨hF.1,hF.2,H.b1.of (e _ (by omega)),H.b2.of (e _ (by omega)),Z1 (a:=⟨O,0,Z8⟩) (e O (by omega)),fun D E=>?_⟩
 have q:=H.mr D E;exact⟨by omega,(o.block D q.2.1 (fun e=>(A D e.symm).2 E)).trans q.2.2⟩
section
set_option linter.unusedSimpArgs false
attribute [local go_sem] Oper.semAt_some
attribute [local go_sem ↓] aZ bf bq cl Gf Ii Dx
attribute [local go_sem] bn aS aH bE bH aK aT ak aI aw az aM ah aQ aL aP aO aR aY aW bD ap aq
theorem I3(h:i<3):∃ L:ZP,ltr i=L::ltr (i+1)/\(L=68\/L=71\/L=65)/\#[Value.int .u8 68,.int .u8 71,.int .u8 65][i]?=Z9 (.int .u8 (L.toNat:Nat))/\∀ l,cap3 l (i+1)=cap3 l i+fh L l:=by
 have:i=0\/i=1\/i=2:=by omega
 rcases this with rfl|rfl|rfl
 .exact⟨68,rfl,.inl rfl,rfl,fun l=>(Nat.zero_add _).symm⟩
 .exact⟨71,rfl,.inr (.inl rfl),rfl,fun l=>rfl⟩
 .exact⟨65,rfl,.inr (.inr rfl),rfl,fun l=>rfl⟩
theorem wc(p:Nat)(sv:Z3)(l:Z5 Rw)(fl cd ca id C:Int)(pt:Z7)(w0 w:Z2)(hm:MaxL w0)(hT:Tab w0)(hS:SHs w0 w p sv l fl cd ca)(g0:∀ b,sv.ownBlock=Z9 b->b<w.heap.size)(hl:l.length<=19)(h4:∀ x∈l,x.2.1.size<=1000)(gq:0<=ca)(hr:ca<=80000)(gs:cd≠0/\cd≠6\/fl<=0) :
 ZJ Z6 36 #[.iface 56 (.pointer (Z9 ⟨p,0,Z8⟩)),.int .i64 id,.string pt,.int .i64 C] w fun r w'=>lX w0 w w' p sv l fl cd (eK l fl cd ca id C pt) r:=by
 have ht:=hS.pl;have j0:=hS.b.size;have hw:=hS.b;obtain⟨g,hg⟩:∃ g,eK l fl cd ca id C pt=g:=⟨_,rfl⟩;rw[hg];have b5:=fun W (b:ZV w0.heap.size w0 W)=>Gu pt W (hm.below b)
 have d3:=fun n W (b:ZV w0.heap.size w0 W)=>tI pt n W (hm.below b)
 unfold eK at hg;obtain⟨h,hh⟩:∃ h,w.heap.size=h:=⟨_,rfl⟩;have U:p<h:=by omega
 have V:∀ b,sv.ownBlock=Z9 b->b<h:=fun b H=>by have:=g0 b H;omega
 obtain⟨W0,af⟩:∃ W0,((w.alloc (.cells #[.string pt] 9)).alloc (.cells #[.slice Z8 0 0] 33)).alloc (.cells #[.int .i64 0] 42)=W0:=⟨_,rfl⟩;have ct:ZV w.heap.size w W0:=by rw[<-af];exact aB
 have hy:W0.heap.size=h+3:=by rw[<-af,<-hh];simp
 have k0:W0.cell? ⟨h,0,Z8⟩=Z9 (.string pt):=by rw[<-af,<-hh];simp [go_sem]
 have k1:Bx W0 (h+1):=⟨⟨.slice Z8 0 0,by rw[<-af,<-hh];simp [go_sem]⟩,by rw[<-af,<-hh];simp [go_sem]⟩;have k2:Bx W0 (h+2):=⟨⟨.int .i64 0,by rw[<-af,<-hh];simp [go_sem]⟩,by rw[<-af,<-hh];simp [go_sem]⟩;have S0:=hS.below ct;have br:Hid (∀ G,ZV W0.heap.size W0 G->SHs w0 G p sv l fl cd ca/\w.grownBy G (Z9 p)/\G.cell? ⟨h,0,Z8⟩=Z9 (.string pt)/\Bx G (h+1)/\Bx G (h+2)/\h+3<=G.heap.size):=lh (fun G H=>⟨S0.below H,bo _ (ct.trans (H.mono (by omega))),(Z1 (a:=⟨h,0,Z8⟩) (H.block h (by omega))).trans k0,k1.of (H.block _ (by omega)),k2.of (H.block _ (by omega)),by have:=H.size;omega⟩);have bk:=lh (S0.b);clear k1 k2 S0 ct hS;refine (Zc (n:=4)).1 ?_
 refine callsIn_of_wp_marks Tryz.func36 rfl trivial ?_ rfl
 simp only[Tryz.ntmps36,List.size_toArray,ZK,YQ,Nat.reduceAdd,Nat.reduceSub,Array.replicate_succ,Array.replicate_zero,List.push_toArray,Xe,YM,Zm]
 by_cases N:Ds.pat (Ds.bl pt)=ZW
 .rw[ZX (.inl N)] at hg;subst hg;rw[N] at b5;have b7:=lh b5;clear b5 N d3;gi_wp2_with (refine⟨trivial,?_⟩;gi_at_call 89;refine (Zc.2 (b7.o _ bk.o)).mono ?_;rintro _ G ⟨rfl,H⟩;obtain⟨s1,s2,s3,⟨⟨v1,s4⟩,s5⟩,⟨⟨v2,s6⟩,s7⟩,s8⟩:=br.o G H;have ch:=lh s1;have c7:=lh s2;clear s1 s2 s3 H)
  exact lG (Dt:=[]) rfl rfl rfl ch.o c7.o U hh V List.nodup_nil (fun _ h=>by cases h) s4 ⟨⟨_,s6⟩,s7⟩ ⟨Z8,0,rfl⟩ rfl rfl
 have N:Ds.pat (Ds.bl pt)=ZZ:=by simpa using N
 rw[N] at b5;have b7:=lh b5;have e0:=lh d3;clear b5 d3;by_cases ba:C<0
 .rw[ZX (.inr ba)] at hg;subst hg;have t1:decide (C<0)=ZZ:=ZL ba;clear N;gi_wp2_with (refine⟨trivial,?_⟩;gi_at_call 89;refine (Zc.2 (b7.o _ bk.o)).mono ?_;rintro _ G ⟨rfl,H⟩;obtain⟨s1,s2,s3,⟨⟨v1,s4⟩,s5⟩,⟨⟨v2,s6⟩,s7⟩,s8⟩:=br.o G H;have ch:=lh s1;have c7:=lh s2;clear s1 s2 s3 H)
  exact lG (Dt:=[]) rfl rfl rfl ch.o c7.o U hh V List.nodup_nil (fun _ h=>by cases h) s4 ⟨⟨_,s6⟩,s7⟩ ⟨Z8,0,rfl⟩ rfl rfl
 rw[Z0 (by rw[N];rintro (h|h);cases h;exact ba h)] at hg;have t1:decide (C<0)=ZW:=ZF ba;clear N;gi_wp2_with (refine⟨trivial,?_⟩;gi_at_call 89;refine (Zc.2 (b7.o _ bk.o)).mono ?_;rintro _ G ⟨rfl,H⟩;have cp:=lh (br.o G H);have kc:=Go.Lib.run_convert_bytes_const (P:=Z6) (G.alloc (.cells #[.slice Z8 0 0] 33)) 156 5 #[.int .u8 68,.int .u8 71,.int .u8 65] 3 3 Tryz.underlying156 Tryz.underlying5;simp only[World.size_alloc,List.size_toArray,ZK,YQ,Nat.reduceAdd] at kc;clear H)
 clear br bk b7;clear kc;have cz:=cp.o.2.2.2.2.2;obtain⟨O,hO⟩:∃ O,G.heap.size=O:=⟨_,rfl⟩;simp only[Nat.add_assoc,Nat.reduceAdd,hO]
 rw[hO] at cz;generalize ag:Wt _ _=W1;have B1:ZV G.heap.size G W1:=by rw[<-ag];exact aB
 have kO:Bx W1 O:=⟨⟨.slice Z8 0 0,by rw[<-ag,<-hO];simp [go_sem]⟩,by rw[<-ag,<-hO];simp [go_sem]⟩;have g1:W1.cell? ⟨O,0,Z8⟩=Z9 (.slice Z8 0 0):=by rw[<-ag,<-hO];simp [go_sem]
 have kL:W1.heap[O+1]?=Z9 (.cells #[.int .u8 68,.int .u8 71,.int .u8 65] 5 (3,4)):=by
  rw[<-ag,<-hO];have:=heap_alloc_new (G.alloc (.cells #[.slice Z8 0 0] 33)) (.cells #[.int .u8 68,.int .u8 71,.int .u8 65] 5 (3,4));simpa using this
 have hf:W1.heap.size=O+2:=by rw[<-ag,<-hO];simp
 have Z:Hid (LiN w0 w W1 h O p sv l fl cd ca id pt [] []):=by
  obtain⟨s1,s2,s3,s4,s5,-⟩:=cp.o;exact lh ⟨s1.below B1,bx s2 (B1.mono s2.size),(Z1 (a:=⟨h,0,Z8⟩) (B1.block h (by omega))).trans s3,s4.of (B1.block _ (by omega)),s5.of (B1.block _ (by omega)),kO,(fun _ h=>by cases h),List.nodup_nil,by omega,kL,_,g1,⟨[],rfl,World.ownsRow_nil _ _ _ _⟩,fun q T=>by cases T⟩
 have es:=F8 l;clear ag B1 kO g1 kL cp hO G;obtain⟨I,hI⟩:∃ I:Act->Z2->Prop,I=(fun a' w'=>∃ (i:Nat) (Dl:Z5 Nat) (s:Z5 Fu) (c:Int) (u12 u13 u14 u15 u16 u17 u29 u30 u31 u32 u33 u34 u35 u36 u37 u38 u39 u40 u41 u42 u43 u44 u45 u46 u47 u48 u49 u50 u51 u52 u53 u54 u55 u56 u57 u58 u59:Z3),(i<=3/\Hid (ee l fl cd id pt (ltr i) c s=ee l fl cd id pt [68,71,65] ca [])/\0<=c/\c<=ca+i*20/\s.length<=cap3 l i/\Hid (LiN w0 w w' h O p sv l fl cd c id pt Dl s))/\a'={ tmps:=#[(.iface 56 (.pointer (Z9 ⟨p,0,Z8⟩)):Z3),(.int .i64 id:Z3),(.string pt:Z3),(.int .i64 C:Z3),Ze,Ze,(.pointer (Z9 ⟨h,0,Z8⟩):Z3),Ze,(.pointer (Z9 ⟨h+1,0,Z8⟩):Z3),(.pointer (Z9 ⟨h+2,0,Z8⟩):Z3),(.pointer (Z9 ⟨O,0,Z8⟩):Z3),Ze,u12,u13,u14,u15,u16,u17,(.string pt:Z3),(.bool ZZ:Z3),(.bool ZW:Z3),(.bool ZW:Z3),(.int .i64 C:Z3),(.bool ZW:Z3),(.bool ZW:Z3),(.slice (Z9 ⟨O+1,0,Z8⟩) 3 3:Z3),(.slice (Z9 ⟨O+1,0,Z8⟩) 3 3:Z3),(.int .i64 3:Z3),(.int .i64 i:Z3),u29,u30,u31,u32,u33,u34,u35,u36,u37,u38,u39,u40,u41,u42,u43,u44,u45,u46,u47,u48,u49,u50,u51,u52,u53,u54,u55,u56,u57,u58,u59,Ze,Ze,Ze,Ze,Ze,Ze,Ze],defers:=mks Dl }):=⟨_,rfl⟩;obtain⟨μ,hμ⟩:∃ μ:Act->Z2->Nat,μ=(fun a' _=>(3 - intOf (a'.tmps.getD 28 Ze)).toNat):=⟨_,rfl⟩;have c8:=lh hI;have gb:=lh hμ;clear hI hμ;refine wpIn_loop I μ ?_ ?_
 .rw[c8.o];exact⟨0,[],[],ca,_,_,_,_,_,_,_,_,_,_,_,_,_,_,_,_,_,_,_,_,_,_,_,_,_,_,_,_,_,_,_,_,_,_,_,_,_,⟨Nat.zero_le _,lh rfl,gq,by simp,Nat.zero_le _,Z⟩,rfl⟩
 clear Z hf W1;intro a' w' e8;have e9:=e8;rw[c8.o] at e9;obtain⟨i,Dl,s,c,u12,u13,u14,u15,u16,u17,u29,u30,u31,u32,u33,u34,u35,u36,u37,u38,u39,u40,u41,u42,u43,u44,u45,u46,u47,u48,u49,u50,u51,u52,u53,u54,u55,u56,u57,u58,u59,⟨hi,HL,em,gr,h9,Z⟩,rfl⟩:=e9;have g8:Hid (∀ a1 a2 G w2,a1.tmps.getD 28 Ze=.int .i64 (i:Int)->a2.tmps.getD 28 Ze=.int .i64 ((i+1:Nat):Int)->i<3->μ a2 w2<μ a1 G):=lh (fun a1 a2 G w2 e1 e2 h=>by rw[gb.o];simp only[e1,e2];simp [intOf];omega);clear e8;have d9:=Z.o.b1;have dl:=Z.o.b2;have nz:=Z.o.z;obtain⟨ov,no,⟨S,dq,X⟩,nq⟩:=Z.o.o;obtain⟨va,vc,rfl⟩:=bX X;by_cases er:i<3
 rotate_left
 .obtain rfl:i=3:=by omega
  have h5:ee l fl cd id pt [68,71,65] ca []=((s,0),c):=HL.o.symm;rw[h5] at hg;dsimp only at hg;rw[Z0 (fun k=>k rfl)] at hg;have ex:s.length<=19:=by have:=es 3;omega
  have ao:=Z.o.mr;obtain⟨⟨v1,n1⟩,m1⟩:=d9;obtain⟨⟨v2,n2⟩,m2⟩:=dl;by_cases Y:C<(s.length:Int)
  .rw[ZX Y] at hg;subst hg;have t2:decide (C<(s.length:Int))=ZZ:=ZL Y;clear Y;gi_wp2
   exact lG (Dt:=Dl) rfl rfl rfl Z.o.sh Z.o.g U hh V Z.o.nd (fun D K=>by have q:=ao D K;exact⟨by omega,q.2.2⟩) n1 Z.o.b2 ⟨Z8,0,rfl⟩ rfl rfl
  .rw[Z0 Y] at hg;subst hg;have t2:decide (C<(s.length:Int))=ZW:=ZF Y;have gl:=lh (FD _ S s.length (O+2) w' (by simpa using YX WR dq) X ex);have HQ:=lh (fun (w5:Z2) al=>Z.o.sorted (W':=w5) U hh V cz (fun q T=>⟨(ax X q T).1,nq q T⟩) al);clear Y;gi_wp2_with (refine⟨trivial,?_⟩;gi_at_call 93;refine (Zc.2 gl.o).mono ?_;rintro _ w5 ⟨rfl,al⟩;obtain⟨f1,f2,⟨⟨x1,f3⟩,f4⟩,⟨⟨x2,f5⟩,f6⟩,f7,f8⟩:=HQ.o w5 al;rw[no] at f7;have g2:=lh f1;have g3:=lh f2;have g4:=lh f8;clear f1 f2 f8 al)
   exact lG (Dt:=Dl) rfl rfl rfl g2.o g3.o U hh V Z.o.nd g4.o f3 ⟨⟨_,f5⟩,f6⟩ ⟨_,_,rfl⟩ rfl rfl
 obtain⟨L,ei,gn,cu,c1⟩:=I3 i er;have j1:(0:Int)<=(i:Int):=by omega
 have j2:(i:Int)<3:=by omega
 have lc:w'.cell? ⟨O+1,i,Z8⟩=Z9 (.int .u8 (L.toNat:Nat)):=by
  simp only[World.cell?,Z.o.lt,Option.isSome_none,Bool.false_eq_true,if_false]
  exact cu
 obtain⟨B,hB⟩:∃ B,w'.heap.size=B:=⟨_,rfl⟩;gi_wp2_with (refine⟨trivial,?_⟩;gi_at_call 90;refine (Zc.2 (od p id L _ _)).mono ?_;rintro _ _ ⟨rfl,rfl⟩)
 simp only[Nat.add_assoc,Nat.reduceAdd,hB]
 generalize a9:Wt _ _=Wr;have e7:ZV w'.heap.size w' Wr:=by rw[<-a9];exact aB
 have be:Wr.heap.size=B+5:=by rw[<-a9,<-hB];simp
 have k0:Wr.cell? ⟨B,0,Z8⟩=Z9 (.int .i64 0):=by rw[<-a9,<-hB];simp [go_sem]
 have k1:Wr.cell? ⟨B+1,0,Z8⟩=Z9 (.iface 56 (.pointer (Z9 ⟨p,0,Z8⟩))):=by rw[<-a9,<-hB];simp [go_sem]
 have k2:Wr.cell? ⟨B+2,0,Z8⟩=Z9 (.int .i64 id):=by rw[<-a9,<-hB];simp [go_sem]
 have k3:Wr.cell? ⟨B+3,0,Z8⟩=Z9 (.int .u8 (L.toNat:Nat)):=by rw[<-a9,<-hB];simp [go_sem]
 have k4:Wr.cell? ⟨B+4,0,Z8⟩=Z9 (.pointer (Z9 ⟨B,0,Z8⟩)):=by rw[<-a9,<-hB];simp [go_sem]
 have f0:Wr.frozen? ⟨B,0,Z8⟩=ZW:=by rw[<-a9,<-hB];simp [go_sem]
 clear a9;refine sd rfl (by omega) (gf:=192) rfl trivial (enters_of Tryz.func192 (by kernel_rfl) rfl) ?_
 intro r W _ e1 e2 e3 e4 hD hW hU;rw[be] at hD;have B1:ZV Wr.heap.size Wr W:=by rw[hW];exact below2' _ _ _
 have go:W.heap.size=B+7:=by rw[hW];simp [be]
 clear hW;have bA:ZV w'.heap.size w' W:=e7.trans (B1.mono (by omega));have qc:∀ j,j<=4->W.cell? ⟨B+j,0,Z8⟩=Wr.cell? ⟨B+j,0,Z8⟩:=fun j hj=>Z1 (a:=⟨B+j,0,Z8⟩) (B1.block (B+j) (by omega))
 have qf:W.frozen? ⟨B,0,Z8⟩=Wr.frozen? ⟨B,0,Z8⟩:=Zr (a:=⟨B,0,Z8⟩) (B1.block B (by omega));have ao:=Z.o.mr
 have hP:LiP w0 w h O B p sv r ((O+1)::Dl):=by
  refine⟨by omega,by omega,hh,cz,by omega,hD,fun D K=>?_,fun b H=>by have:=g0 b H;omega⟩
  rcases Zw.1 K with rfl|K
  .omega
  .have:=ao D K;omega
 have hA:LiC w0 w w' W h O B p sv l fl cd c id L pt r .ready Z8 ((O+1)::Dl):=by
  have b0:=fun k (hk:k<O+2)=>bA.block k (by omega)
  refine⟨Z.o.sh.below bA,bx Z.o.g (bA.mono Z.o.g.size),⟨(qc 3 (by omega)).trans k3,(qc 1 (by omega)).trans k1,(qc 2 (by omega)).trans k2,(qc 4 (by omega)).trans k4,(qc 0 (by omega)).trans k0,qf.trans f0⟩,(Z1 (a:=⟨h,0,Z8⟩) (b0 h (by omega))).trans Z.o.n,d9.of (b0 _ (by omega)),dl.of (b0 _ (by omega)),Z.o.b3.of (b0 _ (by omega)),hU,fun D K=>bA.block D ?_,by omega⟩
  have:=hP.ds D K;omega
 have ea:LiO W O B ((O+1)::Dl) (.slice va s.length vc) s:=by
  refine⟨(Z1 (a:=⟨O,0,Z8⟩) (bA.block O (by omega))).trans no,⟨S,dq,aV X (fun q T=>bA.block q (ax X q T).2)⟩,fun q T=>⟨.inl (by have:=(ax X q T).2;omega),fun K=>?_⟩⟩
  rcases Zw.1 K with e|K
  .have:=(ax X q T).1;omega
  .exact nq q T K
 clear B1 qc qf k0 k1 k2 k3 k4 f0 e7;simp only[Xe,Zm,YM]
 have c9:∀ (c m:Int) (s:Z5 Fu) (W1 W':Z2),LiJ w0 w w' h O B p sv l fl cd id L pt r .ready ((O+1)::Dl) c s W1->W1.grownBy W' (Z9 p)->SHs w0 W' p sv l fl cd m->LiJ w0 w w' h O B p sv l fl cd id L pt r .ready ((O+1)::Dl) m s W':=fun c m s W1 W' h1 h2 h3=>h1.tick hP h2 h3
 have HP:=lh hP
 have HY:∀ (c:Int) (s1:Z5 Fu) (k rc:Z7) (W1:Z2),LiJ w0 w w' h O B p sv l fl cd id L pt r .ready ((O+1)::Dl) c s1 W1->s1.length<=s.length+l.length->k.size<=1000->1<=k.size->YieldAt Fence.wide 2 Z6 (r.D+1) #[.string k,.string rc] W1 fun e W'=>match cq pt s1 k rc with|.ok s'=>e=.returned (.bool ZZ)/\LiJ w0 w w' h O B p sv l fl cd id L pt r .ready ((O+1)::Dl) c s' W'|.error x=>e=.returned (.bool ZW)/\LiX w0 w w' h O B p sv l fl cd id L pt r .done (Z9 .ret) ((O+1)::Dl) c x W':=by
  have hv:s.length<=19:=by have:=es i;omega
  clear hA ea cu lc c1 ei HL Z X nq no dq d9 dl hg ao bA hU go be c9 h9 gr em;generalize (O+1)::Dl=Dx at hP HP |-;intro c s k rc W1 c0 hp gx gw;have H:=c0.put (st':=.busy) hP;refine (pM (r:=r) (J:=fun W2=>∃ s',cq pt s k rc=.ok s'/\LiJ w0 w w' h O B p sv l fl cd id L pt r .busy Dx c s' W2) (Jx:=fun cc W2=>∃ e,cq pt s k rc=.error e/\cc=.ret/\LiX w0 w w' h O B p sv l fl cd id L pt r .busy Z8 Dx c e W2) trivial c0.1.up (by rw[e2];rfl) ?_).mono ?_
  rotate_left
  .rintro e W' (⟨rfl,G,hu,⟨s',h8,h1⟩,rfl⟩|⟨rfl,cc,G,hu,⟨e,he,rfl,h1⟩,rfl⟩)
   .rw[h8];exact⟨rfl,h1.put hP⟩
   .rw[he];exact⟨rfl,h1.put hP⟩
  change LiJ w0 w w' h O B p sv l fl cd id L pt r .busy Dx c s (r.busy W1) at H
  simp only[e1,e2,e3,e4]
  gi_wp2
  refine⟨c0.1.up,?_⟩
  generalize r.busy W1=Wb at H |-;obtain⟨bs,ov,d0⟩:=H;obtain⟨va,vc,rfl⟩:=bX d0.2.1.choose_spec.2;have zb:=bs.z;have cn:=bs.n;have d6:=fun W=>ti k W gw gx
  have Y:=e0.o (aN k);have d8:=fun W (b:ZV w0.heap.size w0 W)=>tl k rc W (hm.below b) (hT.below b)
  have hS:cq pt s k rc=if Ds.match_ (Ds.bl pt) (Ds.bl (aN k))=ZW then .ok s else if (bw k rc).2≠0 then .error (bw k rc).2 else .ok (s++[(bw k rc).1]):=rfl
  have b4:¬ (bw k rc).2≠0->aA (bw k rc).1=ZZ:=fun h=>(lw h).1
  generalize Ds.match_ (Ds.bl pt) (Ds.bl (aN k))=bm at Y hS;generalize aN k=nz at d6 Y;generalize bw k rc=yy at d8 hS b4;obtain⟨y,d⟩:=yy;dsimp only at hS b4;have ba:Tryz.prog.follows .mixedOrders=ZZ:=by kernel_rfl
  have ce:=lh d6;have cb:=lh Y;have e6:=lh d8;have a8:=lh bs;have av:=lh d0;clear d6 Y d8 c0 bs d0 e0;cases bm
  .rw[ZX rfl] at hS;have b6:=lh hS;clear hS b4;gi_wp2
   gi_region_with_o (first|(refine⟨trivial,?_⟩;gi_at_call 91;refine (YK _ (Zc.2 (ce.o _))).mono ?_;rintro _ _ ⟨rfl,rfl⟩)|(refine⟨trivial,?_⟩;gi_at_call 37;refine (YK _ (Zc.2 (cb.o _ (by first|exact a8.o.sh.b.drew|exact a8.o.sh.b)))).mono ?_;rintro _ w3 ⟨rfl,H⟩;have B3:ZV Wb.heap.size Wb w3:=(by first|exact (Below.refl _ _).drew.trans H|exact H);have a6:=lh (a8.o.bel hP (B3.mono zb));have ab:=lh (av.o.keep (B3.cell (p:=⟨O,0,Z8⟩) (by show O<Wb.heap.size;have:=hP.b;omega)) (fun q T=>B3.block q (av.o.lt q T).2.1));clear H B3))
   all_goals gi_wp2
   all_goals exact⟨a6.o.up,s,b6.o,a6.o,_,ab.o⟩
  rw[Z0 (by decide)] at hS;by_cases h0:d=0
  rotate_left
  .rw[ZX h0] at hS;have t1:(d != 0)=ZZ:=bne_iff_ne.2 h0;have b6:=lh hS;clear h0 b4 hS;gi_wp2
   gi_region_with_o (first|(refine⟨trivial,?_⟩;gi_at_call 91;refine (YK _ (Zc.2 (ce.o _))).mono ?_;rintro _ _ ⟨rfl,rfl⟩)|(refine⟨trivial,?_⟩;gi_at_call 37;refine (YK _ (Zc.2 (cb.o _ (by first|exact a8.o.sh.b.drew|exact a8.o.sh.b)))).mono ?_;rintro _ w3 ⟨rfl,H⟩;have B3:ZV Wb.heap.size Wb w3:=(by first|exact (Below.refl _ _).drew.trans H|exact H);have a6:=lh (a8.o.bel hP (B3.mono zb));have ab:=lh (av.o.keep (B3.cell (p:=⟨O,0,Z8⟩) (by show O<Wb.heap.size;have:=hP.b;omega)) (fun q T=>B3.block q (av.o.lt q T).2.1));clear H B3))
   all_goals gi_wp2_with (refine⟨trivial,?_⟩;gi_at_call 92;refine (YK _ (Zc.2 (e6.o _ a6.o.sh.b))).mono ?_;rintro _ w4 ⟨⟨a0,a3,rfl,hI,ac,d1,d2⟩,a4⟩;have c2:=ay y.1 a0 a3 (aD hI) (aE ac);have B4:ZV w3.heap.size w3 (w4.alloc (.cells (y.1.vals a0 a3) 29)):=bt a4 (aj w4 _);have z3:=a6.o.z;have z4:=a4.size;have A4:=a6.o.bel hP (B4.mono z3);have bp:=lh (ab.o.keep (B4.cell (p:=⟨O,0,Z8⟩) (by show O<w3.heap.size;have:=hP.b;omega)) (fun q T=>B4.block q (ab.o.lt q T).2.1));obtain⟨⟨v1,k1⟩,f1⟩:=A4.b1;obtain⟨⟨v2,k2⟩,f2⟩:=A4.b2;obtain⟨-,f3⟩:=A4.b3;have co:=bp.o.1;have R4:=ak w4 (y.1.vals a0 a3) 29 (0,0);have bi:=lh A4;have HI:=lh hI;have dw:=lh ac;clear hI ac d1 d2 a4 A4 B4)
   all_goals
    have A5:=((bi.o.set hP (v:=.slice Z8 0 0) (.inl rfl)).set hP (v:=.int .i64 d) (.inr (.inl rfl)));exact⟨A5.up,d,b6.o,rfl,A5,(Zt _ _ _ _ (by intro e;have:=YX Addr.block e;simp at this)).trans (Zl _ _ _ (by rw[k1];rfl)),Zl _ _ _ (by rw[Zt _ _ _ _ (by intro e;have:=YX Addr.block e;simp at this),k2];rfl)⟩
  rw[Z0 (fun k=>k h0)] at hS;subst h0;have hs:=wg y (b4 (fun k=>k rfl));have b6:=lh hS;clear b4 hS;gi_wp2
  gi_region_with_o (first|(refine⟨trivial,?_⟩;gi_at_call 91;refine (YK _ (Zc.2 (ce.o _))).mono ?_;rintro _ _ ⟨rfl,rfl⟩)|(refine⟨trivial,?_⟩;gi_at_call 37;refine (YK _ (Zc.2 (cb.o _ (by first|exact a8.o.sh.b.drew|exact a8.o.sh.b)))).mono ?_;rintro _ w3 ⟨rfl,H⟩;have B3:ZV Wb.heap.size Wb w3:=(by first|exact (Below.refl _ _).drew.trans H|exact H);have a6:=lh (a8.o.bel hP (B3.mono zb));have ab:=lh (av.o.keep (B3.cell (p:=⟨O,0,Z8⟩) (by show O<Wb.heap.size;have:=hP.b;omega)) (fun q T=>B3.block q (av.o.lt q T).2.1));clear H B3))
  all_goals gi_wp2_with (first|(refine⟨trivial,?_⟩;gi_at_call 92;refine (YK _ (Zc.2 (e6.o _ a6.o.sh.b))).mono ?_;rintro _ w4 ⟨⟨a0,a3,rfl,hI,ac,d1,d2⟩,a4⟩;have c2:=ay y.1 a0 a3 (aD hI) (aE ac);have B4:ZV w3.heap.size w3 (w4.alloc (.cells (y.1.vals a0 a3) 29)):=bt a4 (aj w4 _);have z3:=a6.o.z;have z4:=a4.size;have A4:=a6.o.bel hP (B4.mono z3);have bp:=lh (ab.o.keep (B4.cell (p:=⟨O,0,Z8⟩) (by show O<w3.heap.size;have:=hP.b;omega)) (fun q T=>B4.block q (ab.o.lt q T).2.1));obtain⟨⟨v1,k1⟩,f1⟩:=A4.b1;obtain⟨⟨v2,k2⟩,f2⟩:=A4.b2;obtain⟨-,f3⟩:=A4.b3;have co:=bp.o.1;have R4:=ak w4 (y.1.vals a0 a3) 29 (0,0);have bi:=lh A4;have HI:=lh hI;have dw:=lh ac;clear hI ac d1 d2 a4 A4 B4)|(gi_at_builtin;have c3:=aj (w4.alloc (.cells (y.1.vals a0 a3) 29)) (.cells (y.1.vals a0 a3) 29);have zA:=bi.o.z;have zB:=hP.b;obtain⟨-,⟨S,en,ar⟩,d4⟩:=bp.o;have bc:=aV ar (fun x hx=>c3.block x (ax ar x hx).2);have dt:=bi.o.bel hP (c3.mono zA);refine oC _ rfl (.tmp 52) (.tmp 54) 33 29 _ _ 33 336 rfl Tryz.underlying33 kI xf xh xj (ah _ _ _) (by decide) (O+2) (.slice va s.length vc) (.slice (Z9 ⟨w4.heap.size+1,0,Z8⟩) 1 1) s.length 1 (ec (S.map SE.val)) (y.1.vals a0 a3).toList rfl bc rfl (vE (by simp) (ah _ _ _)) (by decide) (all1 c2) (by unfold maxLen;omega) (by omega) (by simp at zA |-;omega) ?_;intro a5 c5 w5 bd al el;have c4:=lh (dt.own hP al (fun x hx=>by have q1:=ax ar x hx;have q2:=d4 x hx;exact⟨by omega,q2⟩));have gg:=lh en;have ck:=lh bd;have gd:=lh (show ∀ q,(Value.slice a5 (s.length+1) c5).ownBlock=Z9 q->(q<B\/B+7<=q)/\q ∉ Dx from fun q T=>by rcases el with e|e <;> rw[e] at T;exact d4 q T;have e2:=ZR T;simp at zA e2;exact⟨.inr (by omega),fun hD=>by have:=hP.ds q hD;omega⟩);have c6:=c4.o.b3.1;have f6:=c4.o.b3.2;obtain⟨v6,c6⟩:=c6;clear ar bc bd al el d4 en c3 dt zA zB))
  all_goals
   have A7:=c4.o.set hP (v:=.slice a5 (s.length+1) c5) (.inr (.inr rfl));obtain⟨ga,gc,e1,-⟩:=HI.o;obtain⟨cr,cs,e2,-⟩:=dw.o;refine⟨A7.up,s++[y],b6.o,A7,.slice a5 (s.length+1) c5,Zl _ _ _ (by rw[c6];rfl),⟨S++[(cY y,(ga,gc),(cr,cs))],?_,?_⟩,gd.o⟩
   .rw[XL,XL,gg.o];rfl
   .have e5:ec ((S++[(cY y,(ga,gc),(cr,cs))]).map SE.val)=ec (S.map SE.val)++(y.1.vals a0 a3).toList:=by
     rw[XL,pX,e1,e2];show _++((SE.val (cY y,(ga,gc),(cr,cs))).toList++[])=_
     rw[List.append_nil];rfl
    rw[e5,List.length_append];exact aV ck.o (fun x hx=>(de w5 ⟨O,0,Z8⟩ (.slice a5 (s.length+1) c5)).block x (ax ck.o x hx).2 (fun e=>by have q1:=ZR e;have q2:=(ax ck.o x hx).1;simp at q1;omega))
 have cg:=p6 (cq pt) WR (uR pt) (LiJ w0 w w' h O B p sv l fl cd id L pt r .ready ((O+1)::Dl)) (LiX w0 w w' h O B p sv l fl cd id L pt r .done (Z9 .ret) ((O+1)::Dl)) (r.D+1) p (B+3) (B+1) (B+2) (B+4) B sv l fl cd c id L w0 W s 3 2 (fun c s W' hj=>⟨hj.1.ri,hj.1.sh⟩) c9 (fun c s k rc W1 h1 h2 h6 h3=>(HY c s k rc W1 h1 h2 (by obtain⟨i,hi⟩:=h6;exact h4 _ hi) h3).mono fun e W' h=>by cases ha:cq pt s k rc <;> (rw[ha] at h;exact h)) (by rcases gn with rfl|rfl|rfl <;> decide) (by omega) rfl ⟨hA,_,ea⟩ em (by omega) (by omega) gs;have b9:=D7 l fl cd id pt L c s;have d7:=FF l fl cd c id pt L s;have A:ee l fl cd id pt (ltr i) c s=if (du l fl cd id pt L c s).1.2≠0 then (([],(du l fl cd id pt L c s).1.2),(du l fl cd id pt L c s).2) else ee l fl cd id pt (ltr (i+1)) (du l fl cd id pt L c s).2 (du l fl cd id pt L c s).1.1:=by rw[ei];rfl
 have hQ:du l fl cd id pt L c s=match bS l id fl cd L (cq pt) (l.length+1) c [L - 1,255] s with|(.ok (s',d),m)=>(if d≠0 then ([],d) else (s',0),m)|(.error e,m)=>(([],e),m):=rfl
 have ev:=fun e m (h:bS l id fl cd L (cq pt) (l.length+1) c [L - 1,255] s=(.error e,m))=>pn (DE pt) _ _ _ _ _ _ h
 generalize bS l id fl cd L (cq pt) (l.length+1) c [L - 1,255] s=R at cg hQ ev;generalize du l fl cd id pt L c s=Q at b9 d7 A hQ;refine cg.mono ?_
 clear cg c9 HY cu lc;rintro e W2 ⟨⟨v,rfl⟩,bb⟩;refine⟨⟨v,rfl⟩,?_⟩
 unfold mF at bb;have a7:∀ (pd:Zy Code) (k:Nat),k≠B+6->(r.gone pd W2).heap[k]?=W2.heap[k]?:=fun pd k h2=>Y8 (by omega)
 have d5:((B+5)::Dl).Nodup:=List.nodup_cons.2 ⟨fun K=>by have:=ao _ K;omega,Z.o.nd⟩;obtain⟨R1,cR⟩:=R
 cases R1 with
 | error e =>
   obtain⟨h1,h2,h3⟩:=bb;have he:=ev e cR rfl;replace hQ:Q=(([],e),cR):=hQ
   rw[hQ,ZX he,HL.o] at A;rw[A,ZX he] at hg;subst hg;refine .inr ⟨.ret,h1.up,?_⟩
   have hK:(r.gone (Z9 .ret) W2).heap[B+5]?=Z9 (.deferred (Z9 [])):=(a7 _ _ (by omega)).trans (hD ▸ h1.up.dfr);have x1:(r.gone (Z9 .ret) W2).cell? ⟨h+1,0,Z8⟩=Z9 (.slice Z8 0 0):=(Z1 (a:=⟨h+1,0,Z8⟩) (a7 _ (h+1) (by omega))).trans h2;have x2:(r.gone (Z9 .ret) W2).cell? ⟨h+2,0,Z8⟩=Z9 (.int .i64 e):=(Z1 (a:=⟨h+2,0,Z8⟩) (a7 _ (h+2) (by omega))).trans h3
   have x3:∀ D∈(B+5)::Dl,h+3<=D/\(r.gone (Z9 .ret) W2).heap[D]?=Z9 (.deferred (Z9 [])):=fun D K=>by
    rcases Zw.1 K with rfl|K
    .exact⟨by omega,hK⟩
    .have q:=ao D K;exact⟨by omega,(a7 _ D (by omega)).trans ((h1.mr D (List.mem_cons_of_mem _ K)).trans q.2.2)⟩
   gi_wp2
   exact yQ (Dt:=(B+5)::Dl) rfl rfl rfl d5 x3 x1 x2 (fun W' e1 e2 e3 e4 e5=>⟨.slice Z8 0 0,rfl,⟨Z8,0,rfl⟩,mU h1.sh h1.g U hh V e1 e2 e3 (by rw[e4];simp [Rf.gone]) (fun k hk=>(e5 k (by omega)).trans (a7 _ k (by omega)))⟩)
 | ok sc =>
   obtain⟨s2,d⟩:=sc;obtain⟨G,⟨E,j3,ad⟩,b8⟩:=bb;obtain⟨hn,ho,rfl⟩:=bX ad.2.1.choose_spec.2;have z1:=E.z
   have F:(∀ k,k≠B->k≠B+6->(r.gone Z8 W2).heap[k]?=G.heap[k]?)/\(r.gone Z8 W2).cell? ⟨B,0,Z8⟩=Z9 (.int .i64 d)/\Rup r .ready Z8 W2/\G.heap.size<=(r.gone Z8 W2).heap.size/\(r.gone Z8 W2).os=G.os/\(r.gone Z8 W2).tape=G.tape/\(r.gone Z8 W2).output=G.output:=by
    rcases b8 with ⟨rfl,rfl⟩|rfl
    .exact⟨fun k _ h2=>a7 Z8 k h2,(Z1 (a:=⟨B,0,Z8⟩) (a7 Z8 B (by omega))).trans E.ri.v,E.up,by simp [Rf.gone],rfl,rfl,rfl⟩
    .have a4:∀ k,k≠B->(G.setCell ⟨B,0,Z8⟩ (.int .i64 d)).heap[k]?=G.heap[k]?:=fun k h1=>XO _ ⟨B,0,Z8⟩ k _ h1
     refine⟨fun k h1 h2=>(a7 Z8 k h2).trans (a4 k h1),(Z1 (a:=⟨B,0,Z8⟩) (a7 Z8 B (by omega))).trans (Zl _ _ _ (by rw[E.ri.v];rfl)),⟨?_,?_⟩,by simp [Rf.gone],rfl,rfl,rfl⟩
     .rw[a4 _ (by omega)];exact E.up.lp
     .rw[a4 _ (by omega)];exact E.up.dfr
   obtain⟨F1,F2,F3,F4,F5,F6,F7⟩:=F;refine .inl ⟨F3,?_⟩
   simp only[hD]
   have hK:(r.gone Z8 W2).heap[B+5]?=Z9 (.deferred (Z9 [])):=(F1 _ (by omega) (by omega)).trans (hD ▸ E.up.dfr)
   have aa:Hid (LiN w0 w (r.gone Z8 W2) h O p sv l fl cd cR id pt ((B+5)::Dl) s2):=by
    have hF:=mU (W':=r.gone Z8 W2) E.sh E.g U hh V F5 F6 F7 F4 (fun k hk=>F1 k (by omega) (by omega));refine lh ⟨hF.1,hF.2,(Z1 (a:=⟨h,0,Z8⟩) (F1 h (by omega) (by omega))).trans E.n,E.b1.of (F1 _ (by omega) (by omega)),E.b2.of (F1 _ (by omega) (by omega)),E.b3.of (F1 _ (by omega) (by omega)),fun D K=>?_,d5,by omega,?_,.slice hn s2.length ho,(Z1 (a:=⟨O,0,Z8⟩) (F1 O (by omega) (by omega))).trans ad.1,?_,?_⟩
    .rcases Zw.1 K with rfl|K
     .exact⟨by omega,by omega,hK⟩
     .have q:=ao D K;exact⟨by omega,by omega,(F1 D (by omega) (by omega)).trans ((E.mr D (List.mem_cons_of_mem _ K)).trans q.2.2)⟩
    .exact (F1 _ (by omega) (by omega)).trans ((E.mr (O+1) (List.mem_cons_self ..)).trans Z.o.lt)
    .obtain⟨S2,q1,q2⟩:=ad.2.1;exact⟨S2,q1,aV q2 (fun q T=>F1 q (by have:=ad.lt q T;omega) (by have:=ad.lt q T;omega))⟩
    .intro q T K;have q1:=ad.lt q T;rcases Zw.1 K with e|K
     .omega
     .exact q1.2.2.2 (List.mem_cons_of_mem _ K)
   have h7:s2.length<=1000->True:=fun _=>trivial
   clear b8 F1 F3 F4 F5 F6 F7 E ad a7 h7;generalize r.gone Z8 W2=W3 at aa F2 hK |-;obtain⟨⟨v1,n1⟩,m1⟩:=aa.o.b1;obtain⟨⟨v2,n2⟩,m2⟩:=aa.o.b2;have hz:IntKind.i64.wrap ((i:Int)+1)=(i:Int)+1:=by rw[IntKind.wrap_i64];omega
   by_cases hc:d=0
   .subst hc;replace hQ:Q=((s2,0),cR):=hQ
    rw[hQ] at A b9 d7;rw[Z0 (fun k=>k rfl)] at A;dsimp only at A b9 d7;have g6:=lh (A.symm.trans HL.o);clear hQ A hg;gi_wp2
    refine⟨?_,g8.o _ _ _ _ rfl rfl er⟩
    rw[c8.o];exact⟨i+1,(B+5)::Dl,s2,cR,_,_,_,_,_,_,_,_,_,_,_,_,_,_,_,_,_,_,_,_,_,_,_,_,_,_,_,_,_,_,_,_,_,_,_,_,_,⟨by omega,g6,by omega,by omega,by rw[c1];omega,aa⟩,rfl⟩
   .have t2:(d != 0)=ZZ:=bne_iff_ne.2 hc;replace hQ:Q=(if d≠0 then (([]:Z5 Fu),d) else (s2,0),cR):=hQ
    rw[ZX hc] at hQ;rw[hQ,ZX hc,HL.o] at A;rw[A,ZX hc] at hg;subst hg;have Y:Tryz.prog.follows .mixedOrders=ZZ:=by kernel_rfl
    have eu:=aa.o.mr;clear hQ A hc;gi_wp2
    gi_region_with_o (fail)
    all_goals gi_wp2
    all_goals exact lG (Dt:=(B+5)::Dl) (W:=W3.drew) rfl rfl rfl (aa.o.sh.below (Below.refl _ _).drew) (bx aa.o.g (Below.refl _ _).drew) U hh V d5 (fun D K=>by have q:=eu D K;exact⟨by omega,q.2.2⟩) n1 aa.o.b2 ⟨Z8,0,rfl⟩ rfl rfl
end
end Go.Proofs.YtnkjliahpeebjaaGreatDoor
