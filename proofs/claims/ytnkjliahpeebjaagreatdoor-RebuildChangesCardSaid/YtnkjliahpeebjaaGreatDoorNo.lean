/- Catalogs. -/
import Derived.Test.YtnkjliahpeebjaaGreatDoorNx
set_option maxRecDepth 8000
set_option maxHeartbeats 16000000
open Option renaming some->Z9,none->Z7
open Go.Proofs.Tryz renaming prog->Z8,underlying53->Wq
open _root_ renaming ByteArray->Z6,List->Z1,if_neg->ZS,if_pos->ZP,Array->Zy,Option->Zp,Bool->Zj,bne_iff_ne->YQ
open Go.RowKit renaming Below->Z4,intOf->Zq
open Go renaming Value->Z2,World->ZY,Calls->ZH,below_setRow->ZA,heap_alloc_new->Zs,TypeId->Y2,run_underlying->Yk,MapEntry->WW
open Bool renaming true->ZX,false->ZW,and_eq_true->ZQ
open Nat renaming le_refl->ZV,le_trans->ZC,lt_or_ge->YG,zero_add->Yw,zero_lt_succ->Xp
open Go.RowKit.Below renaming refl->ZR
open List renaming length_append->ZO,length_cons->Zw,cons_append->Zg
open Option.some renaming inj->ZN
open Array renaming getElem?_eq_some_iff->Zf,getElem?_eq_none->Y9
open Go.World renaming setRow->YO,ownsRow_nil->Wl
open Go.MapKept renaming run_getObj_map->Yz
open Go.Instr renaming lookup->Yv,mapUpdate->X7,findAsking->XY
open Go.Result renaming andThen->Yp
open Go.Addr renaming add_lit->Yl,add->Wj
namespace Go.Proofs.YtnkjliahpeebjaaGreatDoor
open Go.RowKit
variable(n m:Nat){b cs:Z1 Ch}(d gr:Z2)(s:Z6)(w:ZY){w0 wr W w':ZY}{c:Ch}{l:Z1 Rw}{ei es g es':Zy WW}{k j p q:Nat}{fl e cd:Int}{r t:Nat}{y:Fu}{sv ov i:Z2}{out out':Z1 Ch}
section
open Go.Maps Go.WideMaps
open Go.ChangeMaps (setBlock)
variable {P:Program} {f:Zy Oper} {rest:Z1 Oper} {o:Oper} {a:Act} {Q:Exit->Act->ZY->Prop}
theorem Jp(F:o.guard=Z7)(m x v:Operand)(t k e:Y2)(B:o.op=Op.mapUpdate t m x v)(J:P.underlying t=Z9 (.map k e))(b:Nat)(es:Zy WW)(C:Nat)(key V:Z2)(I:a.eval m=.map (Z9 b))(u:w.heap[b]?=Z9 (.map es C))(N:a.eval x=key)(L:a.eval v=V)(D:(Instr.checkKey ZW 10000 k key).run P w=.ok () w)(E:(Instr.findKey k key es.toList).run P w=.ok Z7 w)(K:∀ w',w'.heap[b]?=Z9 (.map (es.push ⟨key,V,C⟩) (C+1))->w.grownBy w' (Z9 b)->wpList P f Q rest (a.put o.dst undef) w'):wpList P f Q (o::rest) a w:=by
 refine wpList_plain F fun O z=>?_
 have H:(X7 t (.map (Z9 b)) key V).run P w=.ok () (setBlock w b (.map (es.push ⟨key,V,C⟩) (C+1))):=by
  simp [X7,Yk J,Yz u,D,E,MapKept.run_setObj_map _ u,Yp,setBlock]
 unfold Oper.wp;simp [execOp,B,I,N,L,H,Yp]
 refine z _ _ (K _ ?_ ⟨rfl,rfl,rfl,by simp [setBlock],fun i R A=>?_⟩)
 .have G:b<w.heap.size:=by
   rcases YG b w.heap.size with h|h
   .exact h
   .rw[Y9 h] at u;cases u
  simp [setBlock,G]
 .have:¬ b=i:=fun e=>A (by rw[e])
  simp [setBlock,this]
theorem Jh(t k e:Y2)(x:P.underlying t=Z9 (.map k e))(b:Nat)(es:Zy WW)(C:Nat)(key:Z2)(c:Zj)(h:w.heap[b]?=Z9 (.map es C))(H:(Instr.checkKey es.isEmpty 10000 k key).run P w=.ok () w)(i:Nat)(v:Z2)(u:(Instr.findKey k key es.toList).run P w=.ok (Z9 (i,v)) w) :
 (Yv t (.map (Z9 b)) key c).run P w=.ok (if c then .tuple #[v,.bool ZX] else v) w:=by
 simp [Yv,Yk x,Yz h,H,u,Yp]
theorem Lm(t k e:Y2)(v:P.underlying t=Z9 (.map k e))(b:Nat)(es:Zy WW)(C:Nat)(key z:Z2)(c:Zj)(h:w.heap[b]?=Z9 (.map es C))(H:(Instr.checkKey es.isEmpty 10000 k key).run P w=.ok () w)(x:(zeroValue e).run P w=.ok z w)(u:(Instr.findKey k key es.toList).run P w=.ok Z7 w) :
 (Yv t (.map (Z9 b)) key c).run P w=.ok (if c then .tuple #[z,.bool ZW] else z) w:=by
 simp [Yv,Yk v,Yz h,H,u,x,Yp]
theorem wS(u:o.guard=Z7)(m x:Operand)(t:Y2)(c:Zj)(H:o.op=Op.lookup t m x c)(R mv key:Z2)(v:a.eval m=mv)(A:a.eval x=key)(z:(Yv t mv key c).run P w=.ok R w)(K:wpList P f Q rest (a.put o.dst R) w):wpList P f Q (o::rest) a w:=by
 refine wpList_plain u fun B h=>?_
 unfold Oper.wp;simp [execOp,H,v,A,z,Yp]
 exact h _ _ K
def vol1:Z6:=⟨#[86,49]⟩
def vol2:Z6:=⟨#[86,50]⟩
def qg(v:Z6):Z2:=.agg #[.int .i64 130,.string v]
def mp1:Zy WW:=#[⟨qg vol1,.bool ZX,0⟩]
def mp2:Zy WW:=#[⟨qg vol1,.bool ZX,0⟩,⟨qg vol2,.bool ZX,1⟩]
def zp(cs:Zy Z2):Zy WW:=#[⟨.int .i64 130,.agg cs,0⟩]
theorem Kn(x:Zj)(w:ZY):(Instr.checkKey x 10000 107 (qg vol1)).run Z8 w=.ok () w:=by cases x <;> kernel_rfl
theorem Me(x:Zj)(w:ZY):(Instr.checkKey x 10000 107 (qg vol2)).run Z8 w=.ok () w:=by cases x <;> kernel_rfl
theorem Mf:(Instr.findKey 107 (qg vol1) []).run Z8 w=.ok Z7 w:=by kernel_rfl
theorem LQ:(Instr.findKey 107 (qg vol2) mp1.toList).run Z8 w=.ok Z7 w:=by kernel_rfl
theorem LR:(Instr.findKey 107 (qg vol1) mp2.toList).run Z8 w=.ok (Z9 (0,.bool ZX)) w:=by kernel_rfl
theorem IY(x:Zj)(w:ZY):(Instr.checkKey x 10000 3 (.int .i64 130)).run Z8 w=.ok () w:=by cases x <;> kernel_rfl
theorem JW:(Instr.findKey 3 (.int .i64 130) []).run Z8 w=.ok Z7 w:=by kernel_rfl
theorem JX(cs:Zy Z2)(w:ZY):(Instr.findKey 3 (.int .i64 130) (zp cs).toList).run Z8 w=.ok (Z9 (0,.agg cs)) w:=by kernel_rfl
end
section
set_option linter.unusedSimpArgs false
theorem LW(v f:Z2)(w:ZY):ZH Z8 201 #[v,.int .i64 0,.int .i64 1,f] w fun r w'=>r=.returned (.tuple #[])/\w=w':=by
 go_enter Tryz.func201,Tryz.ntmps201
 go_wp2_with fail
 go_loopw [8] (fun i wr=>i=.int .i64 1/\wr=w) (fun _ _=>0)
 case atStart=>exact⟨rfl,rfl⟩
 case round =>
  obtain⟨rfl,rfl⟩:=hrel;go_wp2_with fail
  go_end0
  exact⟨rfl,rfl⟩
theorem Lo(v f:Z2)(w:ZY):ZH Z8 118 #[v,.int .i64 1,f] w fun r w'=>r=.returned (.tuple #[])/\w=w':=by
 have H:=fun W=>LW v f W
 have HI:=lh H;clear H;go_enter Tryz.func118,Tryz.ntmps118
 go_wp2_with fail
 go_loopw [7,8] (fun i j wr=>i=.int .i64 0/\j=.int .i64 20/\wr=w) (fun _ _ _=>0)
 case atStart=>exact⟨rfl,rfl,rfl⟩
 case round =>
  obtain⟨rfl,rfl,rfl⟩:=hrel;go_wp2_with (go_at_call 201;(with_reducible refine (HI.o _).mono ?_);rintro _ u ⟨rfl,rfl⟩)
  go_loopw [6] (fun i h=>i=.int .i64 20/\h=wr) (fun _ _=>0)
  case atStart=>exact⟨rfl,rfl⟩
  case round =>
   obtain⟨rfl,rfl⟩:=hrel;go_wp2_with fail
   go_end0
   exact⟨rfl,rfl⟩
theorem LX(a:Zp Addr)(c:Nat)(f:Z2)(w:ZY):ZH Z8 50 #[.slice a 1 c,f] w fun r w'=>r=.returned (.tuple #[])/\w=w':=by
 have HI:=lh (fun W=>Lo (.slice a 1 c) f W);go_enter Tryz.func50,Tryz.ntmps50
 go_wp2_with (go_at_call 118;(with_reducible refine (HI.o _).mono ?_);rintro _ h ⟨rfl,rfl⟩)
 go_end0
 exact⟨rfl,rfl⟩
theorem I1:Tryz.prog.info? 41=Z9 ((Tryz.prog.info? 41).getD default):=by kernel_rfl
theorem L0:((Tryz.prog.info? 41).getD default).zero=Z9 (.agg #[.int .i64 0,.int .i64 0,.string ⟨#[]⟩,.string ⟨#[]⟩]):=by kernel_rfl
theorem L4:((Tryz.prog.info? 41).getD default).size=4:=by kernel_rfl
theorem L6:((Tryz.prog.info? 41).getD default).bytes=48:=by kernel_rfl
def e37:En:={ En.zero with kind:=0,name:=⟨#[80,65,89,46,77,65,83,84,69,82]⟩,d0:=130,vol:=vol1 }
def cu:Fu:=(e37,[],[])
def v37:Zy Z2:=e37.vals (.slice Z7 0 0) (.slice Z7 0 0)
theorem LS:v37[0]?=Z9 (.int .i64 0):=ap e37 _ _
theorem Kp:v37[1]?=Z9 (.string ⟨#[80,65,89,46,77,65,83,84,69,82]⟩):=aq e37 _ _
theorem Kf:v37[18]?=Z9 (.string vol1):=pS e37 _ _
theorem Fe:v37.extract 2 23=e37.dat:=fp e37 _ _
theorem Kh:e37.dat[0]?=Z9 (.int .i64 130):=qH e37
theorem JY:e37.dat[16]?=Z9 (.string vol1):=mW e37
theorem De:bh e37.dat.toList=ZX:=gO e37
theorem CU:v37.size=33:=ah e37 _ _
theorem Fv:bh (En.zero.vals (.slice Z7 0 0) (.slice Z7 0 0)).toList=ZX:=ay _ _ _ rfl rfl
theorem Ff:bh v37.toList=ZX:=ay e37 _ _ rfl rfl
structure CMW (w wr:ZY) (es ei:Zy WW) (k j:Nat):Prop where
 bel:Z4 w.heap.size w wr
 m1:wr.heap[w.heap.size]?=Z9 (.map es k)
 m2:wr.heap[w.heap.size+1]?=Z9 (.map ei j)
theorem CMW.lt{w:ZY}(h:CMW w wr es ei k j):w.heap.size+1<wr.heap.size:=by
 rcases YG (w.heap.size+1) wr.heap.size with q|q
 .exact q
 .have:=h.m2;rw[Y9 q] at this;cases this
theorem CMW.below{w:ZY}(h:CMW w wr es ei k j)(H:Z4 wr.heap.size wr W):CMW w W es ei k j :=
 ⟨bt h.bel H,(H.block _ (by have:=h.lt;omega)).trans h.m1,(H.block _ h.lt).trans h.m2⟩
theorem CMW.put1{w:ZY}(h:CMW w wr es ei k j)(u:W.heap[w.heap.size]?=Z9 (.map es' t))(H:wr.grownBy W (Z9 w.heap.size)):CMW w W es' ei t j :=
 ⟨h.bel.trans (gJ H (ZV _) h.bel.size),u,(H.block _ h.lt (by intro e;have:=ZN e;omega)).trans h.m2⟩
theorem CMW.put2{w:ZY}(h:CMW w wr es ei k j)(u:W.heap[w.heap.size+1]?=Z9 (.map g r))(H:wr.grownBy W (Z9 (w.heap.size+1))):CMW w W es g k r :=
 ⟨h.bel.trans (gJ H (by omega) h.bel.size),(H.block _ (by have:=h.lt;omega) (by intro e;have:=ZN e;omega)).trans h.m1,u⟩
theorem CMW.grown{w:ZY}{p:Zp Nat}(h:CMW w wr es ei k j)(H:wr.grownBy W p)(u:∀ q,p=Z9 q->w.heap.size+1<q):CMW w W es ei k j :=
 ⟨h.bel.trans ⟨H.os,H.tape,H.output,H.size,fun i v=>H.block i (by have:=h.lt;omega) (fun e=>by have:=u i e.symm;omega)⟩,(H.block _ (by have:=h.lt;omega) (fun e=>by have:=u _ e.symm;omega)).trans h.m1,(H.block _ h.lt (fun e=>by have:=u _ e.symm;omega)).trans h.m2⟩
theorem Lq:(zeroValue 29).run Z8 w=.ok (.agg (En.zero.vals (.slice Z7 0 0) (.slice Z7 0 0))) w:=by
 show _=Result.ok (Value.agg (zcells 0 ⟨#[]⟩)) w
 rw[<-eh];kernel_rfl
theorem CMW.start:CMW w ((w.alloc (.map #[] 0)).alloc (.map #[] 0)) #[] #[] 0 0:=by
 refine⟨by exact aB,?_,?_⟩
 .exact (((ZR _ _).alloc (ZV _) (.map #[] 0):Z4 (w.alloc (.map #[] 0)).heap.size (w.alloc (.map #[] 0)) _).block _ (by simp)).trans (Zs w _)
 .have:=Zs (w.alloc (.map #[] 0)) (.map #[] 0);simpa using this
theorem Lr{w:ZY}{p:Zp Nat}{g:Nat}(h:w.grownBy w' p)(u:g<w.heap.size)(H:Z9 g≠p):row w' g=row w g:=by unfold row;rw[h.block g u H]
theorem CMW.drew{w:ZY}(h:CMW w wr es ei k j):CMW w wr.drew es ei k j:=h.below (Below.drew (ZR _ _))
attribute [local go_sem ↓] aZ bq fb fe kF
attribute [local go_sem ↓ high] bf
attribute [local go_sem] da gQ FJ run_makeMap bn aS aH bE bH fx aK aT ak aI aw az aM ah fp bW aQ aL aP aO aR aY aW bD CU Ff Fe De Fv
def DFo(w wr:ZY)(o:Z2):Prop:=∃ g c,o=.slice (Z9 ⟨g,0,Z7⟩) 1 c/\(∀ j v,(#[.int .i64 3,.int .i64 130,.string vol2,.string ⟨#[80,65,89,46,77,65,83,84,69,82]⟩]:Zy Z2)[j]?=Z9 v->wr.cell? ⟨g,j,Z7⟩=Z9 v)/\Z4 w.heap.size w wr
theorem BQ(wr:ZY)(s v:Z6):∀ W,Z4 (((wr.alloc (.cells #[.int .i64 130,.string v,.string s] 39)).alloc (.cells v37 29)).alloc (.cells #[.int .i64 0,.int .i64 130,.string v,.string ⟨#[80,65,89,46,77,65,83,84,69,82]⟩] 41)).heap.size (((wr.alloc (.cells #[.int .i64 130,.string v,.string s] 39)).alloc (.cells v37 29)).alloc (.cells #[.int .i64 0,.int .i64 130,.string v,.string ⟨#[80,65,89,46,77,65,83,84,69,82]⟩] 41)) W ->
 row W wr.heap.size=#[.int .i64 130,.string v,.string s]/\row W (wr.heap.size+1)=v37/\row W (wr.heap.size+1+1)=#[.int .i64 0,.int .i64 130,.string v,.string ⟨#[80,65,89,46,77,65,83,84,69,82]⟩]/\Held W (wr.heap.size+1+1) 4:=fun W b=>by
 have H:=am ((show Z4 ((wr.alloc (.cells #[.int .i64 130,.string v,.string s] 39)).alloc (.cells v37 29)).heap.size _ _ by exact aB).trans (b.mono (by simp))) (aI wr #[.int .i64 130,.string v,.string s] 39 (0,0) (.cells v37 29)) (Xp 2);have u:=am ((show Z4 ((wr.alloc (.cells #[.int .i64 130,.string v,.string s] 39)).alloc (.cells v37 29)).heap.size _ _ by exact aB).trans (b.mono (by simp))) (aw wr v37 29 (0,0) (.cells #[.int .i64 130,.string v,.string s] 39)) (by rw[CU];decide);have k:=Held.new ((wr.alloc (.cells #[.int .i64 130,.string v,.string s] 39)).alloc (.cells v37 29)) #[.int .i64 0,.int .i64 130,.string v,.string ⟨#[80,65,89,46,77,65,83,84,69,82]⟩] 41 4 rfl (by decide);have h:=am b (ak ((wr.alloc (.cells #[.int .i64 130,.string v,.string s] 39)).alloc (.cells v37 29)) #[.int .i64 0,.int .i64 130,.string v,.string ⟨#[80,65,89,46,77,65,83,84,69,82]⟩] 41 (0,0)) (Xp 3);have e:((wr.alloc (.cells #[.int .i64 130,.string v,.string s] 39)).alloc (.cells v37 29)).heap.size=wr.heap.size+1+1:=by simp
 rw[e] at h k;exact⟨H,u,h,k.below b⟩
theorem sm37(h:IS w d [])(H:GS w gr []):ZH Z8 14 #[.agg (e37.vals d gr),.agg v37] w fun r w'=>r=.returned (.bool ZX)/\Z4 w.heap.size w w':=by
 have:=lD e37 e37 d gr (.slice Z7 0 0) (.slice Z7 0 0) [] [] [] [] w h (IS.nil w) H (GS.nil w);rw[(dV e37 e37 [] [] [] []).2 ⟨rfl,rfl,rfl⟩] at this;exact this
theorem Le{X:ZY}{a b c d:Z2}{t:Y2}(h:X.heap.size=q):CS (X.alloc (.cells #[a,b,c,d] t)) 4 (.slice (Z9 ⟨q,0,Z7⟩) 1 1) 1 [a,b,c,d]:=by
 subst h;refine⟨_,_,rfl,rfl,fun _=>⟨_,rfl,fun j u H=>?_⟩⟩
 rw[Yl,Yw,cell_of_row _ X.heap.size j _ t (0,0) (Zs X _)];simpa using H
theorem DFo.of{w u:ZY}{a:Zp Addr}{c:Nat}(h:u.ownsRow w.heap.size 41 4 (.slice a 1 c) 1 [.int .i64 3,.int .i64 130,.string vol2,.string ⟨#[80,65,89,46,77,65,83,84,69,82]⟩])(z:Z4 w.heap.size w u):DFo w u (.slice a 1 c):=by
 obtain⟨B,F,e,-,p⟩:=dU h;rcases h.2 with ⟨H,-⟩|⟨g,C,x,H,-⟩
 .cases H
 .cases H
  cases e
  obtain⟨D,E,q⟩:=p (by decide);cases E
  refine⟨g,_,rfl,fun j v A=>?_,z⟩
  have:=q j v (by simpa using A);rwa [Yl,Yw] at this
attribute [local go_sem] cG eU eV fE
theorem Lf(a6:m<w.heap.size)(h1:mid w n 0=v37)(h2:row w m=#[.int .i64 130,.string vol1,.string s,.int .i64 130,.string vol2,.string s])(hp:∀ W,Z4 w.heap.size w W->ZH Z8 13 #[.string s] W fun r w'=>∃ d gr A G,r=.returned (.tuple #[.agg (e37.vals d gr),.agg (En.zero.vals A G),.int .i64 0])/\IS w' d []/\GS w' gr []/\one A=ZX/\one G=ZX/\Z4 W.heap.size W w') :
 ZH Z8 15 #[.slice (Z9 ⟨n,0,Z7⟩) 1 1,.slice (Z9 ⟨m,0,Z7⟩) 2 2] w fun r w'=>∃ g c,r=.returned (.slice (Z9 ⟨g,0,Z7⟩) 1 c)/\(∀ j v,(#[.int .i64 3,.int .i64 130,.string vol2,.string ⟨#[80,65,89,46,77,65,83,84,69,82]⟩]:Zy Z2)[j]?=Z9 v->w'.cell? ⟨g,j,Z7⟩=Z9 v)/\Z4 w.heap.size w w':=by
 have HP:=lh hp;have L:=lh (fun (W:ZY) (B:Z4 w.heap.size w W) (j:Nat) v (h:(row w m)[j]?=Z9 v)=>(B.cell (p:=⟨m,j,Z7⟩) a6).trans (ae rfl j v h));rw[h2] at L;have HM:=lh (fun (W:ZY) (B:Z4 w.heap.size w W)=>Ah B h1 (by rw[CU];decide));have HS:=lh (CMW.start w);clear hp h1 h2;go_enter Tryz.func15,Tryz.ntmps15
 go_wp2_with fail
 go_loopw [27] (fun i wr=>(i=.int .i64 0/\CMW w wr #[] #[] 0 0)\/(i=.int .i64 1/\CMW w wr mp1 #[] 1 0)\/(i=.int .i64 2/\CMW w wr mp2 #[] 2 0)) (fun i _=>2 - (Zq i).toNat)
 case atStart=>exact .inl ⟨rfl,HS.o⟩
 case round =>
  rcases hrel with ⟨rfl,H⟩|⟨rfl,H⟩|⟨rfl,H⟩
  .have p0:=L.o wr H.bel 0 _ rfl;have p1:=L.o wr H.bel 1 _ rfl;have p2:=L.o wr H.bel 2 _ rfl;have C:=lh H;clear H;go_wp2_with (at_mapUpdate;refine Jp _ rfl _ _ _ 104 107 4 rfl Tryz.underlying104 w.heap.size #[] 0 (qg vol1) (.bool ZX) rfl (C.o.below ((ZR _ _).alloc (ZV _) _)).m1 rfl rfl (Kn _ _) (Mf _) ?_;intro w5 J I;have N:=lh ((C.o.below ((ZR _ _).alloc (ZV _) _)).put1 J I);clear J I)
   go_roundw
   case rel=>exact .inr (.inl ⟨rfl,N.o⟩)
   case measure=>simp [Zq]
  .have p0:=L.o wr H.bel 3 _ rfl;have p1:=L.o wr H.bel 4 _ rfl;have p2:=L.o wr H.bel 5 _ rfl;have C:=lh H;clear H;go_wp2_with (at_mapUpdate;refine Jp _ rfl _ _ _ 104 107 4 rfl Tryz.underlying104 w.heap.size mp1 1 (qg vol2) (.bool ZX) rfl (C.o.below ((ZR _ _).alloc (ZV _) _)).m1 rfl rfl (Me _ _) (LQ _) ?_;intro w5 J I;have N:=lh ((C.o.below ((ZR _ _).alloc (ZV _) _)).put1 J I);clear J I)
   go_roundw
   case rel=>exact .inr (.inr ⟨rfl,N.o⟩)
   case measure=>simp [Zq]
  .have C:=lh H;clear H;go_wp2_with fail
   clear HS;go_loopw [9,40] (fun o i wr=>(o=.slice Z7 0 0/\i=.int .i64 0/\CMW w wr mp2 #[] 2 0)\/(o=.slice Z7 0 0/\i=.int .i64 1/\CMW w wr mp2 (zp v37) 2 1)) (fun _ i _=>1 - (Zq i).toNat)
   case atStart=>exact .inl ⟨rfl,rfl,C.o⟩
   case round =>
    clear C;rcases hrel with ⟨rfl,rfl,H⟩|⟨rfl,rfl,H⟩
    .have M0:=HM.o wr H.bel;have R0:=ak wr v37 29 (0,0);have N0:=ae R0 0 _ LS;have a3:=H;have RD:=aw wr e37.dat 25 (0,0) (.cells v37 29);have D0:=ae RD 0 _ Kh;have a8:=ae RD 16 _ JY;have a1:row (((wr.alloc (.cells v37 29)).alloc (.cells e37.dat 25)).alloc (.cells (En.zero.vals (.slice Z7 0 0) (.slice Z7 0 0)) 29)) (wr.heap.size+1)=e37.dat:=am (show Z4 ((wr.alloc (.cells v37 29)).alloc (.cells e37.dat 25)).heap.size _ _ by exact aB) RD (by rw[bW];decide);have zc:=a3.lt;have R3:row (((wr.alloc (.cells v37 29)).alloc (.cells e37.dat 25)).alloc (.cells (En.zero.vals (.slice Z7 0 0) (.slice Z7 0 0)) 29)) wr.heap.size=v37:=am (show Z4 (wr.alloc (.cells v37 29)).heap.size _ _ by exact aB) R0 (by rw[CU];decide);have C:=lh H;clear H
     go_wp2_with first|at_lookup;refine wS _ rfl _ _ 105 ZX rfl (.tuple #[.agg (En.zero.vals (.slice Z7 0 0) (.slice Z7 0 0)),.bool ZW]) _ _ rfl rfl (Lm _ 105 3 29 Tryz.underlying105 (w.heap.size+1) #[] 0 _ _ ZX (C.o.below (by exact aB)).m2 (IY _ _) (Lq _) (JW _)) ?_|at_mapUpdate;refine Jp _ rfl _ _ _ 105 3 29 rfl Tryz.underlying105 (w.heap.size+1) #[] 0 (.int .i64 130) (.agg v37) rfl (C.o.below (by exact aB)).m2 rfl rfl (IY _ _) (JW _) ?_;intro w5 J I;have R:row w5 (wr.heap.size+1)=e37.dat:=(Lr I (by simp) (by intro e;have:=ZN e;omega)).trans a1;have a9:=ae R 0 _ Kh;have a7:=ae R 16 _ JY;have N:=lh ((C.o.below (by exact aB)).put2 J I);clear J I R|at_lookup;refine wS _ rfl _ _ 104 ZW rfl (.bool ZX) _ _ rfl rfl (Jh _ 104 107 4 Tryz.underlying104 w.heap.size mp2 2 _ ZW N.o.m1 (Kn _ _) 0 (.bool ZX) (LR _)) ?_
     go_roundw
     case rel=>exact .inr ⟨rfl,rfl,N.o⟩
     case measure=>simp [Zq]
    .have C:=lh H;clear H;go_wp2_with fail
     go_loopw [9,83] (fun o i wr=>(o=.slice Z7 0 0/\i=.int .i64 0/\CMW w wr mp2 (zp v37) 2 1)\/(o=.slice Z7 0 0/\i=.int .i64 1/\CMW w wr mp2 (zp v37) 2 1)\/(i=.int .i64 2/\DFo w wr o)) (fun _ i _=>2 - (Zq i).toNat)
     case atStart=>exact .inl ⟨rfl,rfl,C.o⟩
     case round =>
      clear C;rcases hrel with ⟨rfl,rfl,H⟩|⟨rfl,rfl,H⟩|⟨rfl,hD⟩
      .have p0:=L.o wr H.bel 0 _ rfl;have p1:=L.o wr H.bel 1 _ rfl;have p2:=L.o wr H.bel 2 _ rfl;have N1:=ae (aw wr v37 29 (0,0) (.cells #[.int .i64 130,.string vol1,.string s] 39)) 1 _ Kp;have hl:=BQ wr s vol1;have C:=lh H;clear H
       go_upto_region 25 with (first
        | (at_lookup;refine wS _ rfl _ _ 105 ZX rfl (.tuple #[.agg v37,.bool ZX]) _ _ rfl rfl (Jh _ 105 3 29 Tryz.underlying105 (w.heap.size+1) (zp v37) 1 _ ZX (C.o.below (by exact aB)).m2 (IY _ _) 0 (.agg v37) (JX _ _)) ?_)
        | (go_at_call 13;(refine (HP.o _ (bt C.o.bel (by exact aB))).mono ?_);rintro _ V ⟨d,gr,A,G,rfl,S,O,z,D,x⟩;have a0:=ay e37 d gr (aD S) (aE O);have U:=ay En.zero A G z D;have Y:=lh x;have HI:=lh S;have HG:=lh O;clear S O z D x))
       generalize T:YO (YO _ _ _) _ _=E;have F:Z4 V.heap.size V E:=by rw[<-T];exact ZA (ZA (by exact aB) (ZV _) _) (by omega) _
       have X5:row E V.heap.size=e37.vals d gr:=by rw[<-T,cT _ _ _ _ (by omega),eT _ _ _ (eU _ _ _)]
       clear T;obtain⟨L5,V5,X,K5⟩:=hl E (bt Y.o F);have l1:=ae L5 1 _ rfl;have a2:=ae V5 18 _ Kf;have BC:=lh (bt ((ZR wr.heap.size wr):Z4 wr.heap.size wr wr) (show Z4 wr.heap.size wr E from (show Z4 wr.heap.size wr _ by exact aB).trans ((bt Y.o F).mono (by simp;omega))));have IX:=lh (HI.o.below F);have GX:=lh (HG.o.below F);clear hl;go_wp2_with (go_at_call 14;(refine (sm37 d gr _ IX.o GX.o).mono ?_);rintro _ w6 ⟨rfl,x⟩;have N:=lh (C.o.below (bt BC.o x));clear x)
       go_roundw
       case rel=>exact .inr (.inl ⟨rfl,rfl,N.o⟩)
       case measure=>simp [Zq]
      .have p0:=L.o wr H.bel 3 _ rfl;have p1:=L.o wr H.bel 4 _ rfl;have p2:=L.o wr H.bel 5 _ rfl;have N1:=ae (aw wr v37 29 (0,0) (.cells #[.int .i64 130,.string vol2,.string s] 39)) 1 _ Kp;have hl:=BQ wr s vol2;have C:=lh H;clear H
       go_upto_region 25 with (first
        | (at_lookup;refine wS _ rfl _ _ 105 ZX rfl (.tuple #[.agg v37,.bool ZX]) _ _ rfl rfl (Jh _ 105 3 29 Tryz.underlying105 (w.heap.size+1) (zp v37) 1 _ ZX (C.o.below (by exact aB)).m2 (IY _ _) 0 (.agg v37) (JX _ _)) ?_)
        | (go_at_call 13;(refine (HP.o _ (bt C.o.bel (by exact aB))).mono ?_);rintro _ V ⟨d,gr,A,G,rfl,S,O,z,D,x⟩;have a0:=ay e37 d gr (aD S) (aE O);have U:=ay En.zero A G z D;have Y:=lh x;have HI:=lh S;have HG:=lh O;clear S O z D x))
       generalize T:YO (YO _ _ _) _ _=E;have F:Z4 V.heap.size V E:=by rw[<-T];exact ZA (ZA (by exact aB) (ZV _) _) (by omega) _
       have X5:row E V.heap.size=e37.vals d gr:=by rw[<-T,cT _ _ _ _ (by omega),eT _ _ _ (eU _ _ _)]
       clear T;obtain⟨L5,V5,X,K5⟩:=hl E (bt Y.o F);have l1:=ae L5 1 _ rfl;have a2:=ae V5 18 _ Kf;have BC:=lh (bt ((ZR wr.heap.size wr):Z4 wr.heap.size wr wr) (show Z4 wr.heap.size wr E from (show Z4 wr.heap.size wr _ by exact aB).trans ((bt Y.o F).mono (by simp;omega))));have IX:=lh (HI.o.below F);have GX:=lh (HG.o.below F);clear hl;have qv:(vol1.toList != vol2.toList)=ZX:=by kernel_rfl
       have qw:(vol1.toList==vol2.toList)=ZW:=by kernel_rfl
       have f0:=K5.2.2 0;have c0:=ae X 0 _ rfl;have c1:=ae X 1 _ rfl;have c2:=ae X 2 _ rfl;have c3:=ae X 3 _ rfl;have zz:=C.o.bel.size;have z5:=BC.o.size;go_wp2_with (at_builtin;refine dQ _ rfl (.tmp 130) (.tmp 132) 46 41 _ _ 4 48 rfl Tryz.underlying46 I1 L0 L4 L6 rfl (by decide) w.heap.size (.slice Z7 0 0) (.slice (Z9 ⟨E.heap.size,0,Z7⟩) 1 1) 0 1 [] [.int .i64 3,.int .i64 130,.string vol2,.string ⟨#[80,65,89,46,77,65,83,84,69,82]⟩] rfl (Wl _ _ _ 4) rfl (Le (by simp)) (fun u hu=>by simp at hu;rcases hu with rfl|rfl|rfl|rfl <;> rfl) (by unfold maxLen;omega) (by omega) (by simp;omega) ?_;intro a5 c5 w6 K hg a4;have N:=lh (DFo.of K ((C.o.bel.trans (((BC.o.setCell (by simp;omega) _).alloc (by simp;omega) _).mono zz)).grown hg (by simp;omega) (fun q hq=>by cases hq)));clear K hg a4)
       go_roundw
       case rel=>exact .inr (.inr ⟨rfl,N.o⟩)
       case measure=>simp [Zq]
      .obtain⟨g,c,rfl,Z,x⟩:=hD;have HX:=lh (And.intro Z x);clear Z x;go_wp2_with (go_at_call 50;(refine (LX _ _ _ _).mono ?_);rintro _ w6 ⟨rfl,rfl⟩)
       go_ret
       exact⟨g,c,rfl,HX.o.1,HX.o.2⟩
end
section
open Go.ChangeMaps (setBlock)
abbrev PK:=Int × Z6
def pk(k:PK):Z2:=.agg #[.int .i64 k.1,.string k.2]
def pents:Z1 (PK × Z2)->Nat->Z1 WW
 | [],_=>[]
 | x::r,i=>⟨pk x.1,x.2,i⟩::pents r (i+1)
def pent(es:Z1 (PK × Z2)):Zy WW:=(pents es 0).toArray
theorem Je:∀ (es:Z1 (PK × Z2)) (i:Nat),(pents es i).length=es.length
 | [],_=>rfl
 | _::r,i=>by rw[pents,Zw,Je r (i+1),Zw]
theorem Jy(x:PK × Z2):∀ (es:Z1 (PK × Z2)) (i:Nat),pents (es++[x]) i=pents es i++[⟨pk x.1,x.2,i+es.length⟩]
 | [],i=>rfl
 | a::r,i=>by rw[Zg,pents,pents,Jy x r (i+1),Zw,Zg,Nat.add_assoc,Nat.add_comm 1]
def mget(k:PK):Z1 (PK × Z2)->Zp Z2
 | []=>Z7
 | x::r=>if k=x.1 then Z9 x.2 else mget k r
def mset(k:PK)(v:Z2):Z1 (PK × Z2)->Z1 (PK × Z2)
 | []=>[]
 | x::r=>if k=x.1 then (x.1,v)::r else x::mset k v r
def mput(k:PK)(v:Z2)(es:Z1 (PK × Z2)):Z1 (PK × Z2):=if mget k es=Z7 then es++[(k,v)] else mset k v es
theorem rU(k j:PK)(v:Z2):∀ es,mget j (es++[(k,v)])=match mget j es with|some u=>Z9 u|none=>if j=k then Z9 v else Z7
 | []=>rfl
 | x::r=>by
   rw[Zg,mget,mget,rU k j v r];by_cases h:j=x.1
   .rw[ZP h,ZP h]
   .rw[ZS h,ZS h]
theorem tQ(k j:PK)(v:Z2):∀ es,mget j (mset k v es)=if j=k then (if mget k es=Z7 then Z7 else Z9 v) else mget j es
 | []=>by simp [mset,mget]
 | x::r=>by
   unfold mset;by_cases h:k=x.1
   .rw[ZP h,mget,mget,mget];subst h;by_cases H:j=x.1
    .rw[ZP H,ZP H,ZP rfl];simp
    .rw[ZS H,ZS H,ZS H]
   .rw[ZS h,mget,mget,mget,ZS h,tQ k j v r];by_cases H:j=k
    .subst H;rw[ZS h,ZP rfl,ZP rfl]
    .rw[ZS H,ZS H]
theorem Bv(k j:PK)(v:Z2)(es:Z1 (PK × Z2)):mget j (mput k v es)=if j=k then Z9 v else mget j es:=by
 unfold mput;by_cases h:mget k es=Z7
 .rw[ZP h,rU];by_cases H:j=k
  .subst H;simp [h]
  .rw[ZS H,ZS H];cases mget j es <;> rfl
 .rw[ZS h,tQ,ZS h]
theorem L7(a b:PK)(w:ZY):(Op.equal 133 (pk a) (pk b)).run Z8 w=.ok (decide (a=b)) w:=by
 obtain⟨v,A⟩:=a;obtain⟨n,m⟩:=b;show (Op.equalIn (9999+1) 133 (.agg #[.int .i64 v,.string A]) (.agg #[.int .i64 n,.string m])).run Z8 w=_
 rw[run_equalIn_struct w 9999 133 _ _ (by simp [Program.fieldsOf,Tryz.underlying133]) (by kernel_rfl)];simp [Program.fieldsOf,Tryz.underlying133,Op.eqFields,go_sem]
 have e:(A.toList=m.toList)=(A=m):=propext ⟨fun h=>by
  have u:=Lib.toList_data A;have H:=Lib.toList_data m;exact Ds.bl_inj (u.symm.trans (h.trans H)),fun h=>by rw[h]⟩
 by_cases u:v=n
 .subst u;by_cases H:A=m
  .subst H;simp
  .have:¬ A.toList=m.toList:=fun h=>H (e ▸ h)
   simp [H,this]
 .simp [u]
theorem Jk(k:PK)(w:ZY):∀ (es:Z1 (PK × Z2)) (i j:Nat),
 (mget k es=Z7->(XY 133 (pk k) (pents es i) j).run Z8 w=.ok Z7 w)/\(∀ v,mget k es=Z9 v->∃ n,(XY 133 (pk k) (pents es i) j).run Z8 w=.ok (Z9 (j+n,v)) w/\n<es.length/\(pents es i)[n]?=Z9 ⟨pk k,v,i+n⟩/\∀ u,(pents es i).modify n (fun e=>⟨pk k,u,e.born⟩)=pents (mset k u es) i)
 | [],i,j=>⟨fun _=>by simp [pents,XY],fun v h=>by simp [mget] at h⟩
 | x::r,i,j=>by
   have I:=Jk k w r (i+1) (j+1);have z:=L7 k x.1 w;by_cases h:k=x.1
   .rw[decide_eq_true h] at z;refine⟨fun H=>?_,fun v H=>⟨0,?_,by simp,?_,fun u=>?_⟩⟩
    .rw[mget,ZP h] at H;cases H
    .rw[mget,ZP h] at H;cases H;simp [pents,XY,z]
    .rw[mget,ZP h] at H;cases H;simp [pents,h]
    .rw[mset,ZP h];simp [pents,h]
   .rw[decide_eq_false h] at z;refine⟨fun H=>?_,fun v H=>?_⟩
    .rw[mget,ZS h] at H;have:=I.1 H;simp [pents,XY,z,this]
    .rw[mget,ZS h] at H;obtain⟨n,C,D,A,B⟩:=I.2 v H;refine⟨n+1,?_,by simp;omega,?_,fun u=>?_⟩
     .simp [pents,XY,z,C];omega
     .simp [pents,A];omega
     .rw[mset,ZS h,pents,pents,<-B u];simp
theorem Kg(k:PK)(b:Zj)(w:ZY):(Instr.checkKey b 10000 133 (pk k)).run Z8 w=.ok () w:=by
 obtain⟨k1,K⟩:=k;cases b <;> kernel_rfl
theorem JV(k:PK)(es:Z1 WW)(w:ZY):(Instr.findKey 133 (pk k) es).run Z8 w=(XY 133 (pk k) es).run Z8 w :=
 run_findKey_eq w (by rw[Tryz.underlying133]) _ _
def IP(o:Zp Z2):Z2:=match o with|some v=>.tuple #[v,.bool ZX]|none=>.tuple #[.agg (zlit 0 ⟨#[]⟩),.bool ZW]
theorem L9(m n:Nat)(es:Z1 (PK × Z2))(k:PK)(u:w.heap[m]?=Z9 (.map (pent es) n)) :
 (Yv 130 (.map (Z9 m)) (pk k) ZX).run Z8 w=.ok (IP (mget k es)) w:=by
 have h:=fun b=>Kg k b w
 have z:=JV k (pents es 0) w;have A:=Jk k w es 0 0;have B:(zeroValue 29).run Z8 w=.ok (.agg (zlit 0 ⟨#[]⟩)) w:=by kernel_rfl
 cases x:mget k es with
 | some v =>
   obtain⟨j,H,-⟩:=A.2 v x;simp [Yv,Yk Tryz.underlying130,Yz u,h,pent,z,H,Yp,IP]
 | none =>
   have H:=A.1 x;simp [Yv,Yk Tryz.underlying130,Yz u,h,pent,z,H,B,Yp,IP]
theorem Md(k:PK):Instr.sameBits (9999+1) (pk k) (pk k)=ZX:=by
 obtain⟨k1,K⟩:=k;unfold pk;unfold Instr.sameBits;simp [Instr.sameBits,MapKept.bytes_beq]
theorem kts(k:PK)(w:ZY):(Instr.keyThatStays (pk k) (pk k)).run Z8 w=.ok (pk k) w:=by
 unfold Instr.keyThatStays;rw[show Instr.sameBits 10000 (pk k) (pk k)=ZX from Md k];rfl
theorem Mb(m:Nat)(es:Z1 (PK × Z2))(k:PK)(v:Z2)(x:w.heap[m]?=Z9 (.map (pent es) es.length)) :
 (X7 130 (.map (Z9 m)) (pk k) v).run Z8 w=.ok () (setBlock w m (.map (pent (mput k v es)) (mput k v es).length)):=by
 have h:=Kg k ZW w;have D:=JV k (pents es 0) w;have E:=Jk k w es 0 0
 cases z:mget k es with
 | none =>
   have A:=E.1 z;have e:mput k v es=es++[(k,v)]:=ZP z;rw[e];simp [X7,Yk Tryz.underlying130,Yz x,h,pent,D,A,MapKept.run_setObj_map _ x,Yp,setBlock,Jy]
 | some u =>
   obtain⟨n,A,G,B,F⟩:=E.2 u z;have e:mput k v es=mset k v es:=ZS (by rw[z];simp)
   have H:(mset k v es).length=es.length:=by
    have:=congrArg List.length (F v);rw[List.length_modify,Je,Je] at this;exact this.symm
   rw[e,H];have C:=kts k;simp [X7,Yk Tryz.underlying130,Yz x,h,pent,D,A,B,C,MapKept.run_setObj_map _ x,Yp,setBlock,<-F v]
variable {P:Program} {f:Zy Oper} {rest:Z1 Oper} {o:Oper} {a:Act} {Q:Exit->Act->ZY->Prop}
theorem LY(w':ZY)(u:o.guard=Z7)(m x v:Operand)(t:Y2)(H:o.op=Op.mapUpdate t m x v)(mv key V:Z2)(z:a.eval m=mv)(C:a.eval x=key)(B:a.eval v=V)(A:(X7 t mv key V).run P w=.ok () w')(K:wpList P f Q rest (a.put o.dst undef) w'):wpList P f Q (o::rest) a w:=by
 refine wpList_plain u fun D h=>?_
 unfold Oper.wp;simp [execOp,H,z,C,B,A,Yp]
 exact h _ _ K
end
def qO(c:Ch)(id:Int)(N:Z6):Zp Fu:=match nI c with
 | some y=>if y.1.kind=1/\c.2.1=id/\y.1.name=N then Z9 y else Z7
 | none=>Z7
def nG(id:Int)(N:Z6)(o:Zp Fu)(c:Ch):Zp Fu:=match qO c id N with
 | some y=>Z9 y
 | none=>o
def lW(b:Z1 Ch)(id:Int)(N:Z6):Zp Fu:=b.foldl (nG id N) Z7
theorem tR(b:Z1 Ch)(c:Ch)(id:Int)(N:Z6):lW (b++[c]) id N=nG id N (lW b id N) c:=by
 unfold lW;rw[List.foldl_append];rfl
theorem Er(c:Ch)(y:Fu)(h:nI c=Z9 y):aA y=ZX:=by
 unfold nI at h;split at h
 .cases H:cF (Ds.bl c.2.2.2.1) with
  | none=>rw[H] at h;cases h
  | some z =>
    rw[H] at h;dsimp only at h;split at h
    .cases h;exact (mb _ _ H).1
    .cases h
 .cases h
def qt(l:Z1 Rw)(b:Z1 Ch)(c:Ch)(y:Fu):Z6 × Int:=match lW b c.2.1 (dK y.1.name) with
 | some g=>cR y g
 | none=>ci l c.2.1 y
def ch(l:Z1 Rw):Z1 Ch->Z1 Ch->Z1 Ch->Z1 Ch × Int
 | _,[],out=>(out,0)
 | b,c::cs,out=>match nI c with
   | none=>ch l (b++[c]) cs out
   | some y=>if y.1.kind≠0 then ch l (b++[c]) cs out else match qt l b c y with
     | (s,e)=>if e≠0 then ([],e) else ch l (b++[c]) cs (out++[(7,y.1.d0,⟨#[]⟩,s,y.1.vol)])
theorem JT(x g:Fu)(h:bv x g=ZX):cR x g=((cR x g).1,0):=by
 unfold cR;rw[ZP h]
theorem KF(x g:Fu)(A:aA x=ZX)(z:x.1.kind=0)(v:Ds.gen (Ds.bl x.1.name)=ZX)(h:aA g=ZX)(H:g.1.kind=1)(u:Ds.bl g.1.name=Ds.splG (Ds.bl x.1.name)):bv x g=ZX:=by
 unfold bv uc;rw[A,z,ZP v,h,H,u];simp
theorem LB(x:Fu)(u:aA x=ZX)(H:x.1.kind=0)(h:Ds.gen (Ds.bl x.1.name)=ZW):bv x bL=ZX:=by
 unfold bv uc;rw[u,H,ZS (by rw[h];simp),show IO bL=ZX from JI];rfl
theorem Ki:Ds.bl (dK s)=Ds.splG (Ds.bl s):=Ds.bl_mk _
theorem KO(s:Z1 UInt8)(h:Ds.gen s=ZX):Ds.group (Ds.splG s)=ZX:=by
 unfold Ds.splG;rw[ZP h];unfold Ds.gen at h;rw[ZQ] at h;exact h.1
theorem Kx(l:Z1 Rw)(id:Int)(N:Z6)(g:Fu)(F:Ds.group (Ds.bl N)=ZX)(h:bz l id 1 N=(g,0)):aA g=ZX/\g.1.kind=1/\Ds.bl g.1.name=Ds.bl N:=by
 obtain⟨G,J,-⟩:=(Ds.group_parts _).1 F;have D:(Ds.bl N).length<=31:=by omega
 have z:=Ek.name_no32 _ G;have u:=iU 1 N;rw[Ek.key_yes 1 _ (by omega) D] at u;unfold bz aG at h;split at h
 .cases h
 rw[ZS (by decide)] at h;split at h
 .cases h
 .rename_i s I;have H:bw (aC 1 N) s=(g,0):=h;unfold bw at H
  cases v:cF (Ds.bl s) with
  | none=>rw[v] at H;cases H
  | some y =>
    rw[v] at H;dsimp only at H;split at H
    .rename_i A;cases H
     have x:=(mb _ _ v).1;obtain⟨k1,K⟩:=Ao g x;rw[k1,u] at A;injection A with E B
     have C:g.1.kind=1:=Ek.letter_inj _ _ (lu _ x) (by omega) E;refine⟨x,C,?_⟩
     rw[<-K,B,Ek.trim_pad _ z]
    .cases H
theorem Jc(h:nI c=Z7):ch l b (c::cs) out=ch l (b++[c]) cs out:=by
 rw[ch,h]
theorem IR(h:nI c=Z9 y)(H:y.1.kind≠0):ch l b (c::cs) out=ch l (b++[c]) cs out:=by
 rw[ch,h];exact ZP H
theorem Jw{s:Z6}(h:nI c=Z9 y)(u:y.1.kind=0)(v:qt l b c y=(s,e))(H:e≠0):ch l b (c::cs) out=([],e):=by
 rw[ch,h];dsimp only;rw[ZS (fun h=>h u),v];exact ZP H
theorem Jd{s:Z6}(h:nI c=Z9 y)(H:y.1.kind=0)(u:qt l b c y=(s,0)):ch l b (c::cs) out=ch l (b++[c]) cs (out++[(7,y.1.d0,⟨#[]⟩,s,y.1.vol)]):=by
 rw[ch,h];dsimp only;rw[ZS (fun h=>h H),u];rfl
def ch5(c:Ch):Zy Z2:=#[.int .i64 c.1,.int .i64 c.2.1,.string c.2.2.1,.string c.2.2.2.1,.string c.2.2.2.2]
def cv:Z1 Ch->Z1 Z2
 | []=>[]
 | c::l=>(ch5 c).toList++cv l
theorem vF:∀ l,(cv l).length=l.length*5
 | []=>rfl
 | c::l=>by rw[cv,ZO,vF l,Zw];show 5+_=_;omega
theorem fC:∀ (l:Z1 Ch),∀ u∈cv l,u.oneCell'=ZX
 | [],u,h=>by cases h
 | c::r,u,h=>by
   rw[cv,List.mem_append] at h;rcases h with h|h
   .simp only[ch5,List.mem_cons,List.not_mem_nil,or_false] at h
    rcases h with rfl|rfl|rfl|rfl|rfl <;> rfl
   .exact fC r u h
theorem gP:∀ (l m:Z1 Ch),cv (l++m)=cv l++cv m
 | [],m=>rfl
 | x::r,m=>by rw[Zg,cv,cv,gP r m,List.append_assoc]
theorem p7:∀ (l:Z1 Ch) (k:Nat) (h:k<l.length),∀ i v,(ch5 l[k])[i]?=Z9 v->(cv l)[k*5+i]?=Z9 v
 | x::r,0,_,i,v,H=>by
   have u:i<5:=(Zf.1 H).1;rw[cv,Nat.zero_mul,Yw,List.getElem?_append_left (by show i<5;exact u)];simpa using H
 | x::r,k+1,h,i,v,H=>by
   have:=p7 r k (by simpa using h) i v H;rw[cv,List.getElem?_append_right (by show 5<=_;omega),<-this];congr 1
   show _ - 5=_
   omega
def ChS(w:ZY)(v:Z2)(l:Z1 Ch):Prop :=
 ∃ a c,v=.slice a l.length c/\l.length<=1000000/\(0<l.length->∃ b o,a=Z9 ⟨b,o,Z7⟩/\b<w.heap.size/\∀ k (h:k<l.length) i u,(ch5 l[k])[i]?=Z9 u->w.cell? ⟨b,o+k*5+i,Z7⟩=Z9 u)
theorem ChS.below{w:ZY}{v:Z2}{l:Z1 Ch}(h:ChS w v l)(x:Z4 w.heap.size w w'):ChS w' v l:=by
 obtain⟨a,c,A,B,C⟩:=h;refine⟨a,c,A,B,fun z=>?_⟩
 obtain⟨b,o,ha,H,D⟩:=C z;exact⟨b,o,ha,Nat.lt_of_lt_of_le H x.size,fun k E i u F=>(x.cell (p:=⟨b,o+k*5+i,Z7⟩) H).trans (D k E i u F)⟩
theorem jp{w:ZY}{v:Z2}{l:Z1 Ch}(C:l.length<=1000000)(h:CS w 5 v l.length (cv l)):ChS w v l:=by
 obtain⟨a,c,rfl,D,z⟩:=h;refine⟨a,c,rfl,C,fun H=>?_⟩
 obtain⟨⟨b,o,s⟩,rfl,p⟩:=z H;have x:=p 0 _ (p7 l 0 H 0 _ rfl)
 obtain rfl:s=Z7:=by
  have:=World.cell?_spot x;simpa [Wj] using this
 refine⟨b,o,rfl,block_lt_of_cell (by simpa [Wj] using x:w.cell? ⟨b,o,Z7⟩=_),fun k A i u B=>?_⟩
 have r:=p _ _ (p7 l k A i u B);rw[Yl] at r;rw[Nat.add_assoc];exact r
theorem gA:Tryz.prog.info? 67=Z9 ((Tryz.prog.info? 67).getD default):=by kernel_rfl
theorem fZ:((Tryz.prog.info? 67).getD default).zero=Z9 (.agg #[.int .i64 0,.int .i64 0,.string ⟨#[]⟩,.string ⟨#[]⟩,.string ⟨#[]⟩]):=by kernel_rfl
theorem ge:((Tryz.prog.info? 67).getD default).size=5:=by kernel_rfl
theorem gi:((Tryz.prog.info? 67).getD default).bytes=64:=by kernel_rfl
theorem iE(W:ZY)(x:Ch)(t:Y2)(k:Nat)(H:k=W.heap.size):CS (W.alloc (.cells (ch5 x) t)) 5 (.slice (Z9 ⟨k,0,Z7⟩) 1 1) 1 (cv [x]):=by
 subst H;refine⟨_,_,rfl,rfl,fun _=>⟨_,rfl,fun j u h=>?_⟩⟩
 rw[Yl,Yw,cell_of_row _ W.heap.size j _ t (0,0) (Zs W _)];have:cv [x]=(ch5 x).toList:=List.append_nil _;rw[this] at h;simpa using h
section
open Go.ChangeMaps (setBlock)
set_option linter.unusedSimpArgs false
theorem Ll(W:ZY)(a:Zp Addr)(c:Nat):IS W (.slice a 0 c) []:=⟨a,c,rfl,by simp,fun h=>by simp at h⟩
theorem Lk(W:ZY)(a:Zp Addr)(c:Nat):GS W (.slice a 0 c) []:=⟨a,c,rfl,by simp,fun h=>by simp at h⟩
theorem KD(l:Z1 Rw)(fl cd C id:Int)(x:Fu):C<=(eu l fl cd C id x).2/\(eu l fl cd C id x).2<=C+1:=by
 unfold eu;split
 .have h:=dS l fl cd C id 1 (dK x.1.name);generalize aG l fl cd C id 1 (dK x.1.name)=g at h;obtain⟨⟨y,c⟩,u⟩:=g;dsimp only at h |-;split <;> exact h
 .exact⟨Int.le_refl _,by show C<=C+1;omega⟩
theorem Jt(y:Fu)(h:aA y=ZX)(H:y.1.kind=1):y.2.1=[]/\y.2.2=[]:=by
 obtain⟨e,l,g⟩:=y;dsimp only at H |-;unfold aA at h;dsimp only at h;rw[ZS (by omega),ZP H] at h;unfold fm at h;simp only[ZQ] at h
 obtain⟨-,u,v⟩:=(dV _ _ _ _ _ _).1 h.2;exact⟨u.symm,v.symm⟩
def GV(o:Zp Z2)(g:Zp Fu):Prop:=match o,g with
 | none,none=>True
 | some v,some y=>aA y=ZX/\y.1.kind=1/\∃ A C h u,v=.agg (y.1.vals (.slice A 0 C) (.slice h 0 u))
 | _,_=>False
def GM(es:Z1 (PK × Z2))(b:Z1 Ch):Prop:=∀ id N,GV (mget (id,N) es) (lW b id N)
theorem GM.start:GM [] []:=fun _ _=>trivial
theorem GM.same{es:Z1 (PK × Z2)}(h:GM es b)(c:Ch)(H:∀ id N,qO c id N=Z7):GM es (b++[c]):=fun id N=>by
 rw[tR];unfold nG;rw[H];exact h id N
theorem GM.put{es:Z1 (PK × Z2)}(h:GM es b)(c:Ch)(y:Fu)(x:nI c=Z9 y)(H:y.1.kind=1)(A:Zp Addr)(C:Nat)(u:Zp Addr)(v:Nat):GM (mput (c.2.1,y.1.name) (.agg (y.1.vals (.slice A 0 C) (.slice u 0 v))) es) (b++[c]):=fun id N=>by
 rw[tR,Bv];unfold nG qO;rw[x];dsimp only;by_cases e:(id,N)=(c.2.1,y.1.name)
 .rw[ZP e];injection e with E z
  rw[ZP ⟨H,E.symm,z.symm⟩];exact⟨Er c y x,H,A,C,u,v,rfl⟩
 .rw[ZS e,ZS (fun q=>e (by rw[q.2.1,q.2.2]))];exact h id N
theorem Ly(h:nI c=Z7)(id:Int)(N:Z6):qO c id N=Z7:=by unfold qO;rw[h]
theorem Ju(h:nI c=Z9 y)(H:y.1.kind≠1)(id:Int)(N:Z6):qO c id N=Z7:=by
 unfold qO;rw[h];exact ZS (fun q=>H q.1)
structure NSt (w0 w wr:ZY) (p:Nat) (sv:Z2) (l:Z1 Rw) (fl cd c:Int) (es:Z1 (PK × Z2)) (ov:Z2) (out:Z1 Ch):Prop where
 own:wr.ownsRow (w.heap.size+1) 67 5 ov out.length (cv out)
 sh:SHs w0 wr p sv l fl cd c
 g:w.grownBy wr (Z9 p)
 m:wr.heap[w.heap.size]?=Z9 (.map (pent es) es.length)
theorem NSt.below{w:ZY}{c:Int}{es:Z1 (PK × Z2)}(h:NSt w0 w wr p sv l fl cd c es ov out)(H:Z4 wr.heap.size wr w'):NSt w0 w w' p sv l fl cd c es ov out :=
 ⟨aV h.own (fun x u=>H.block x (ax h.own x u).2),h.sh.below H,bx h.g (H.mono h.g.size),(H.block _ (Zf.1 h.m).1).trans h.m⟩
theorem NSt.tick{w:ZY}{c C:Int}{es:Z1 (PK × Z2)}(h:NSt w0 w wr p sv l fl cd c es ov out)(z:p<w.heap.size)(H:wr.grownBy w' (Z9 p))(v:SHs w0 w' p sv l fl cd C):NSt w0 w w' p sv l fl cd C es ov out :=
 ⟨aV h.own (fun x u=>H.block x (ax h.own x u).2 (fun e=>by have:=ZN e;have:=(ax h.own x u).1;omega)),v,aJ h.g H,(H.block _ (Zf.1 h.m).1 (fun e=>by have:=ZN e;omega)).trans h.m⟩
theorem NSt.upd{w:ZY}{c C:Int}{es es':Z1 (PK × Z2)}(h:NSt w0 w wr p sv l fl cd c es ov out)(S:SHs w0 w p sv l fl cd C):NSt w0 w (setBlock wr w.heap.size (.map (pent es') es'.length)) p sv l fl cd c es' ov out:=by
 have u:=(Zf.1 h.m).1;have H:Z4 w.heap.size wr (setBlock wr w.heap.size (.map (pent es') es'.length)):=qU (ZR _ _) (ZV _) _;exact⟨aV h.own (fun x z=>kP _ _ _ _ (by have:=(ax h.own x z).1;omega)),h.sh.belowB H S.pl (fun v b H=>jw S.r v b H),bx h.g H,nZ _ _ _ u⟩
theorem NSt.app{w:ZY}{c C:Int}{es:Z1 (PK × Z2)}(h:NSt w0 w wr p sv l fl cd c es ov out)(S:SHs w0 w p sv l fl cd C)(x:w'.ownsRow (w.heap.size+1) 67 5 i out'.length (cv out'))(u:wr.grownBy w' ov.ownBlock):NSt w0 w w' p sv l fl cd c es i out':=by
 have H:Z4 w.heap.size wr w':=fy u (fun q z=>by have A:=(ax h.own q z).1;omega) h.g.size;exact⟨x,h.sh.belowB H S.pl (fun v b H=>jw S.r v b H),bx h.g H,(u.block _ (Zf.1 h.m).1 (fun e=>by have:=(ax h.own _ e.symm).1;omega)).trans h.m⟩
attribute [local go_sem ↓] aZ bf bq cl
attribute [local go_sem] bn aS aH bE bH aK aT ak aI aw az aM ah aQ aL aP aO aR aY aW bD ap aq
theorem LI(p:Nat)(sv:Z2)(l:Z1 Rw)(fl cd ca:Int)(v:Z2)(cs:Z1 Ch)(w0 w:ZY)(hm:MaxL w0)(hT:Tab w0)(hS:SHs w0 w p sv l fl cd ca)(hf:fl<=0)(cq:0<=ca)(d1:ca<=1000)(d2:cs.length<=1000)(hC:ChS w0 v cs) :
 ZH Z8 27 #[.iface 56 (.pointer (Z9 ⟨p,0,Z7⟩)),v] w fun r w'=>∃ ov,r=.returned (.tuple #[ov,.int .i64 (ch l [] cs []).2])/\w'.ownsRow (w.heap.size+1) 67 5 ov (ch l [] cs []).1.length (cv (ch l [] cs []).1)/\w.grownBy w' (Z9 p):=by
 have HS:=lh hS;have ce:=hS.pl;obtain⟨R,hR⟩:∃ R,ch l [] cs []=R:=⟨_,rfl⟩;rw[hR];have HR:=lh hR;have d3:=run_makeMap (P:=Z8) 130 w;obtain⟨d5,d6,rfl,hz,a3⟩:=hC;have HC:=lh a3;have a0:=lh (fun k id key ct cw W (b:Z4 w0.heap.size w0 W)=>LV k id key ct cw W (hm.below b) (hT.below b));have c6:=lh (fun s W hs (b:Z4 w0.heap.size w0 W)=>Ja s W hs (hm.below b));have be:=lh (fun x g d gr cm cp W hx hg i1 i2 i3 i4 (b:Z4 w0.heap.size w0 W)=>Jb x g d gr cm cp W (hm.below b) (hT.below b) hx hg i1 i2 i3 i4);have cg:=lh (fun c id x d gr W h h0 h1 hx i1 i2 o1 o2=>Kj p sv l fl cd c id x d gr w0 W hm hT h h0 h1 (Or.inr hf) hx i1 i2 o1 o2);clear hR a3 hm hT hS;go_enter Tryz.func27,Tryz.ntmps27
 go_wp2_with fail
 go_loopw [7,21] (fun ov i wr=>∃ (k:Nat) (c:Int) (es:Z1 (PK × Z2)) (out:Z1 Ch),k<=cs.length/\i=.int .i64 k/\0<=c/\c<=ca+k/\out.length<=k/\Hid (ch l (cs.take k) (cs.drop k) out=R)/\Hid (GM es (cs.take k))/\NSt w0 w wr p sv l fl cd c es ov out) (fun _ i _=>cs.length - (Zq i).toNat)
 case atStart =>
  exact⟨0,ca,[],[],Nat.zero_le _,rfl,cq,by omega,by simp,HR,lh GM.start,⟨Wl _ _ _ _,HS.o.below (aj _ _),bo _ (aj _ _),Zs w _⟩⟩
 case round =>
  obtain⟨k,c,es,out,hk,rfl,h0,h1,ho,HH,HG,hN⟩:=hrel;obtain⟨va,vc,rfl⟩:=bX hN.own;have HN:=lh hN;have d4:=hN.g.size;clear hN;by_cases c0:k<cs.length
  rotate_left
  .obtain rfl:k=cs.length:=by omega
   have b0:=HH.o;rw[List.drop_length] at b0;have b0:(out,0)=R:=b0;subst b0;go_wp2_with fail
   go_ret2
   exact⟨_,rfl,HN.o.own,HN.o.g⟩
  obtain⟨b,o,rfl,hb,a3⟩:=HC.o (by omega);have hd:cs.drop k=cs[k]::cs.drop (k+1):=List.drop_eq_getElem_cons c0;have ht:cs.take (k+1)=cs.take k++[cs[k]]:=List.take_succ_eq_append_getElem c0;have ao:=fun i u hu=>(HN.o.sh.b.cell (p:=⟨b,o+k*5+i,Z7⟩) hb).trans (a3 k c0 i u hu)
  have H:=HH.o;rw[hd] at H;generalize cs[k]=ck at H ht ao;obtain⟨N,C,O,S,T⟩:=ck;have p0:wr.cell? ⟨b,o+k*5,Z7⟩=Z9 (.int .i64 N):=ao 0 _ rfl;have p1:wr.cell? ⟨b,o+k*5+1,Z7⟩=Z9 (.int .i64 C):=ao 1 _ rfl;have p2:wr.cell? ⟨b,o+k*5+2,Z7⟩=Z9 (.string O):=ao 2 _ rfl;have p3:wr.cell? ⟨b,o+k*5+3,Z7⟩=Z9 (.string S):=ao 3 _ rfl;have p4:wr.cell? ⟨b,o+k*5+4,Z7⟩=Z9 (.string T):=ao 4 _ rfl;clear ao a3 hd HH;have i1:(0:Int)<=(k:Int):=by omega
  have i2:(k:Int)<(cs.length:Int):=by omega
  cases Z:nI (N,C,O,S,T) with
  | none =>
    rw[Jc Z,<-ht] at H;have a8:=lh H;have ac:Hid (GM es (cs.take (k+1))):=lh (by rw[ht];exact HG.o.same _ (Ly Z));clear H ht;go_wp2_with (go_at_call 70;(refine (a0.o N C O S T _ (HN.o.sh.below (aj _ _)).b).mono ?_);rintro _ D ⟨x,d,gr,bb,rfl,X,B,z,hc,E,F⟩;obtain rfl:bb=ZW:=(by rcases hc with ⟨h,-⟩|⟨-,h⟩;exact absurd (h.symm.trans Z) (by simp);exact h);have a6:=ay x.1 d gr (aD X) (aE B);have N2:=lh (((HN.o.below (aj wr (.cells #[.int .i64 N,.int .i64 C,.string O,.string S,.string T] 67))).below z).below (aj D (.cells (x.1.vals d gr) 29)));have V:=ak D (x.1.vals d gr) 29 (0,0);have M0:=ae V 0 _ (ap _ _ _);have M1:=ae V 1 _ (aq _ _ _);have C2:=am (aj D (.cells (x.1.vals d gr) 29)) (am z (ak wr #[.int .i64 N,.int .i64 C,.string O,.string S,.string T] 67 (0,0)) (by show 0<5;omega)) (by show 0<5;omega);have K1:=ae C2 1 _ rfl;have z2:wr.heap.size+1<=D.heap.size:=(by have:=z.size;simpa using this);have HI:=lh X;have a7:=lh B;have aa:=lh E;have ab:=lh F;clear X B z hc E F)
    go_roundw
    case rel=>exact⟨k+1,c,es,out,by omega,by go_num,by omega,by omega,by omega,a8,ac,N2.o⟩
    case measure=>simp [Zq];omega
  | some y =>
    have cc:=Er _ y Z;by_cases ad:y.1.kind=1
    .rw[IR Z (by omega),<-ht] at H;have a8:=lh H;obtain⟨bp,br⟩:=Jt y cc ad;have t1:(y.1.kind==1)=ZX:=by rw[ad];rfl
     have t2:(y.1.kind != 0)=ZX:=by rw[ad];rfl
     have c4:=lh (fun I K J L=>HG.o.put _ y Z ad I K J L);rw[<-ht] at c4;clear H ht;go_wp2_with (first|(go_at_call 70;(refine (a0.o N C O S T _ (HN.o.sh.below (aj _ _)).b).mono ?_);rintro _ D ⟨x,d,gr,bb,rfl,X,B,z,hc,E,F⟩;obtain⟨rfl,rfl⟩:x=y/\bb=ZX:=(by rcases hc with ⟨h,h2⟩|⟨h,-⟩;exact⟨ZN (h.symm.trans Z),h2⟩;exact absurd (h.symm.trans Z) (by simp));rw[bp] at X;rw[br] at B;obtain⟨I,K,rfl,-,-⟩:=X;obtain⟨J,L,rfl,-,-⟩:=B;have a6:=ay x.1 (.slice I 0 K) (.slice J 0 L) (rfl) (rfl);have N2:=lh (((HN.o.below (aj wr (.cells #[.int .i64 N,.int .i64 C,.string O,.string S,.string T] 67))).below z).below (aj D (.cells (x.1.vals (.slice I 0 K) (.slice J 0 L)) 29)));have V:=ak D (x.1.vals (.slice I 0 K) (.slice J 0 L)) 29 (0,0);have M0:=ae V 0 _ (ap _ _ _);have M1:=ae V 1 _ (aq _ _ _);have C2:=am (aj D (.cells (x.1.vals (.slice I 0 K) (.slice J 0 L)) 29)) (am z (ak wr #[.int .i64 N,.int .i64 C,.string O,.string S,.string T] 67 (0,0)) (by show 0<5;omega)) (by show 0<5;omega);have K1:=ae C2 1 _ rfl;have z2:wr.heap.size+1<=D.heap.size:=(by have:=z.size;simpa using this);have aa:=lh E;have ab:=lh F;clear z hc E F)|(at_mapUpdate;refine LY _ _ rfl _ _ _ 130 rfl (.map (Z9 w.heap.size)) (pk (C,x.1.name)) (.agg (x.1.vals (.slice I 0 K) (.slice J 0 L))) rfl rfl rfl (Mb _ w.heap.size es (C,x.1.name) _ N2.o.m) ?_;have N5:=lh (N2.o.upd (es':=mput (C,x.1.name) (.agg (x.1.vals (.slice I 0 K) (.slice J 0 L))) es) HS.o);have R5:row (setBlock (D.alloc (.cells (x.1.vals (.slice I 0 K) (.slice J 0 L)) 29)) w.heap.size (.map (pent (mput (C,x.1.name) (.agg (x.1.vals (.slice I 0 K) (.slice J 0 L))) es)) (mput (C,x.1.name) (.agg (x.1.vals (.slice I 0 K) (.slice J 0 L))) es).length)) D.heap.size=x.1.vals (.slice I 0 K) (.slice J 0 L):=(by unfold row at V |-;rw[kP _ _ _ _ (by omega)];exact V);have M5:=ae R5 0 _ (ap _ _ _)))
     have ac:=lh (c4.o I K J L);go_roundw
     case rel=>exact⟨k+1,c,_,out,by omega,by go_num,by omega,by omega,by omega,a8,ac,N5.o⟩
     case measure=>simp [Zq];omega
    by_cases Y:y.1.kind=0
    rotate_left
    .rw[IR Z Y,<-ht] at H;have a8:=lh H;have t1:(y.1.kind==1)=ZW:=by rw[beq_eq_false_iff_ne];exact ad
     have t2:(y.1.kind != 0)=ZX:=by rw[YQ];exact Y
     have ac:Hid (GM es (cs.take (k+1))):=lh (by rw[ht];exact HG.o.same _ (Ju Z ad));clear H ht;go_wp2_with (go_at_call 70;(refine (a0.o N C O S T _ (HN.o.sh.below (aj _ _)).b).mono ?_);rintro _ D ⟨x,d,gr,bb,rfl,X,B,z,hc,E,F⟩;obtain⟨rfl,rfl⟩:x=y/\bb=ZX:=(by rcases hc with ⟨h,h2⟩|⟨h,-⟩;exact⟨ZN (h.symm.trans Z),h2⟩;exact absurd (h.symm.trans Z) (by simp));have a6:=ay x.1 d gr (aD X) (aE B);have N2:=lh (((HN.o.below (aj wr (.cells #[.int .i64 N,.int .i64 C,.string O,.string S,.string T] 67))).below z).below (aj D (.cells (x.1.vals d gr) 29)));have V:=ak D (x.1.vals d gr) 29 (0,0);have M0:=ae V 0 _ (ap _ _ _);have M1:=ae V 1 _ (aq _ _ _);have C2:=am (aj D (.cells (x.1.vals d gr) 29)) (am z (ak wr #[.int .i64 N,.int .i64 C,.string O,.string S,.string T] 67 (0,0)) (by show 0<5;omega)) (by show 0<5;omega);have K1:=ae C2 1 _ rfl;have z2:wr.heap.size+1<=D.heap.size:=(by have:=z.size;simpa using this);have HI:=lh X;have a7:=lh B;have aa:=lh E;have ab:=lh F;clear X B z hc E F)
     go_roundw
     case rel=>exact⟨k+1,c,es,out,by omega,by go_num,by omega,by omega,by omega,a8,ac,N2.o⟩
     case measure=>simp [Zq];omega
    have t1:(y.1.kind==1)=ZW:=by rw[Y];rfl
    have t2:(y.1.kind != 0)=ZW:=by rw[Y];rfl
    have ac:Hid (GM es (cs.take (k+1))):=lh (by rw[ht];exact HG.o.same _ (Ju Z ad));have c3:y.1.name.size<=60:=by have:=(iR y cc).1;rw[Ds.bl_length] at this;omega
    have bs:=fun W b=>c6.o y.1.name W (ZC c3 (by decide)) b
    have a4:=HG.o C (dK y.1.name);have G:qt l (cs.take k) (N,C,O,S,T) y=match lW (cs.take k) C (dK y.1.name) with|some g=>cR y g|none=>ci l C y:=rfl
    unfold dK at a4 G;generalize (⟨(Ds.splG (Ds.bl y.1.name)).toArray⟩:Z6)=sg at bs a4 G;have b7:=lh bs;clear bs ad;have b1:=fun W h=>L9 W w.heap.size es.length es (C,sg) h
    cases hn:lW (cs.take k) C sg with
    | some g =>
      rw[hn] at a4 G
      cases av:mget (C,sg) es with
      | none=>rw[av] at a4;exact a4.elim
      | some gv =>
        rw[av] at a4 b1;obtain⟨c8,cn,I,K,J,L,rfl⟩:=a4;obtain⟨bp,br⟩:=Jt g c8 cn;have cr:g.1.name.size<=1000:=by have:=(iR g c8).1;rw[Ds.bl_length] at this;omega
        have b2:=lh (show ∀ W,W.heap[w.heap.size]?=Z9 (.map (pent es) es.length)->(Yv 130 (.map (Z9 w.heap.size)) (pk (C,sg)) ZX).run Z8 W=.ok (.tuple #[.agg (g.1.vals (.slice I 0 K) (.slice J 0 L)),.bool ZX]) W from b1);have cz:=ay g.1 (.slice I 0 K) (.slice J 0 L) rfl rfl;have b8:=lh (fun d gr W i1 i2 b=>be.o y g d gr (.slice I 0 K) (.slice J 0 L) W (ZC c3 (by decide)) cr i1 i2 (by rw[bp];exact Ll _ _ _) (by rw[br];exact Lk _ _ _) b);replace G:qt l (cs.take k) (N,C,O,S,T) y=cR y g:=G
        clear b1 av hn;generalize cR y g=nc at b8 G;obtain⟨ns,nc⟩:=nc;dsimp only at G b8;by_cases a9:nc=0
        .subst a9;rw[Jd Z Y G,<-ht] at H;have a8:=lh H;clear H ht Y;go_wp2_with (first|(go_at_call 70;(refine (a0.o N C O S T _ (HN.o.sh.below (aj _ _)).b).mono ?_);rintro _ D ⟨x,d,gr,bb,rfl,X,B,z,hc,E,F⟩;obtain⟨rfl,rfl⟩:x=y/\bb=ZX:=(by rcases hc with ⟨h,h2⟩|⟨h,-⟩;exact⟨ZN (h.symm.trans Z),h2⟩;exact absurd (h.symm.trans Z) (by simp));have a6:=ay x.1 d gr (aD X) (aE B);have N2:=lh (((HN.o.below (aj wr (.cells #[.int .i64 N,.int .i64 C,.string O,.string S,.string T] 67))).below z).below (aj D (.cells (x.1.vals d gr) 29)));have V:=ak D (x.1.vals d gr) 29 (0,0);have M0:=ae V 0 _ (ap _ _ _);have M1:=ae V 1 _ (aq _ _ _);have C2:=am (aj D (.cells (x.1.vals d gr) 29)) (am z (ak wr #[.int .i64 N,.int .i64 C,.string O,.string S,.string T] 67 (0,0)) (by show 0<5;omega)) (by show 0<5;omega);have K1:=ae C2 1 _ rfl;have z2:wr.heap.size+1<=D.heap.size:=(by have:=z.size;simpa using this);have HI:=lh X;have a7:=lh B;have aa:=lh E;have ab:=lh F;clear X B z hc E F)|(go_at_call 71;(refine (b7.o _ N2.o.sh.b).mono ?_);rintro _ U ⟨rfl,A⟩;have N3:=lh (N2.o.below A);have R3:=am A V (by rw[ah];decide);have C3:=am A C2 (by show 0<5;omega);have K3:=ae C3 1 _ rfl;have z3:D.heap.size+1<=U.heap.size:=(by have:=A.size;simpa using this);have B3:=lh (bt (aj D (.cells (x.1.vals d gr) 29)) A);clear A)|(at_lookup;refine wS _ rfl _ _ 130 ZX rfl (.tuple #[.agg (g.1.vals (.slice I 0 K) (.slice J 0 L)),.bool ZX]) (.map (Z9 w.heap.size)) (pk (C,sg)) rfl rfl (b2.o U N3.o.m) ?_;have N4:=lh (N3.o.below (aj U (.cells (g.1.vals (.slice I 0 K) (.slice J 0 L)) 29)));have R4:=am (aj U (.cells (g.1.vals (.slice I 0 K) (.slice J 0 L)) 29)) R3 (by rw[ah];decide);have C4:=am (aj U (.cells (g.1.vals (.slice I 0 K) (.slice J 0 L)) 29)) C3 (by show 0<5;omega);have K4:=ae C4 1 _ rfl;have RG:=ak U (g.1.vals (.slice I 0 K) (.slice J 0 L)) 29 (0,0))|(go_at_call 44;(refine (b8.o d gr _ (HI.o.below (bt B3.o (aj _ _))) (a7.o.below (bt B3.o (aj _ _))) N4.o.sh.b).mono ?_);rintro _ w5 ⟨rfl,al⟩;have N5:=lh (N4.o.below al);have R5:=am al R4 (by rw[ah];decide);have M2:=ae R5 2 _ (vU _ _ _);have bk:=ae R5 18 _ (pS _ _ _);clear al)|(at_builtin;refine dQ _ rfl (.tmp 83) (.tmp 92) 53 67 _ _ 5 64 rfl Wq gA fZ ge gi rfl (by decide) (w.heap.size+1) (.slice va out.length vc) (.slice (Z9 ⟨w5.heap.size,0,Z7⟩) 1 1) out.length 1 (cv out) (cv [(7,x.1.d0,⟨#[]⟩,ns,x.1.vol)]) rfl (N5.o.below (aj w5 (.cells (ch5 (7,x.1.d0,⟨#[]⟩,ns,x.1.vol)) 67))).own rfl (iE w5 (7,x.1.d0,⟨#[]⟩,ns,x.1.vol) _ _ rfl) (fC _) (by unfold maxLen;omega) (by omega) (by have:=N5.o.g.size;have:=(Zf.1 N5.o.m).1;simp;omega) ?_;intro a5 c5 w6 af b4 b3;have bi:=lh af;have bc:=lh b4;clear af b4 b3))
         go_roundw
         case rel=>exact⟨k+1,c,es,_,by omega,by go_num,by omega,by omega,by simp;omega,a8,ac,((N5.o.below (aj _ _)).app HS.o (out':=out++[(7,x.1.d0,⟨#[]⟩,ns,x.1.vol)]) (by rw[ZO,gP];exact bi.o) bc.o)⟩
         case measure=>simp [Zq];omega
        .rw[Jw Z Y G a9] at H;subst H;have t3:(nc != 0)=ZX:=by rw[YQ];exact a9
         clear ht Y a9;go_wp2_with (first|(go_at_call 70;(refine (a0.o N C O S T _ (HN.o.sh.below (aj _ _)).b).mono ?_);rintro _ D ⟨x,d,gr,bb,rfl,X,B,z,hc,E,F⟩;obtain⟨rfl,rfl⟩:x=y/\bb=ZX:=(by rcases hc with ⟨h,h2⟩|⟨h,-⟩;exact⟨ZN (h.symm.trans Z),h2⟩;exact absurd (h.symm.trans Z) (by simp));have a6:=ay x.1 d gr (aD X) (aE B);have N2:=lh (((HN.o.below (aj wr (.cells #[.int .i64 N,.int .i64 C,.string O,.string S,.string T] 67))).below z).below (aj D (.cells (x.1.vals d gr) 29)));have V:=ak D (x.1.vals d gr) 29 (0,0);have M0:=ae V 0 _ (ap _ _ _);have M1:=ae V 1 _ (aq _ _ _);have C2:=am (aj D (.cells (x.1.vals d gr) 29)) (am z (ak wr #[.int .i64 N,.int .i64 C,.string O,.string S,.string T] 67 (0,0)) (by show 0<5;omega)) (by show 0<5;omega);have K1:=ae C2 1 _ rfl;have z2:wr.heap.size+1<=D.heap.size:=(by have:=z.size;simpa using this);have HI:=lh X;have a7:=lh B;have aa:=lh E;have ab:=lh F;clear X B z hc E F)|(go_at_call 71;(refine (b7.o _ N2.o.sh.b).mono ?_);rintro _ U ⟨rfl,A⟩;have N3:=lh (N2.o.below A);have R3:=am A V (by rw[ah];decide);have C3:=am A C2 (by show 0<5;omega);have K3:=ae C3 1 _ rfl;have z3:D.heap.size+1<=U.heap.size:=(by have:=A.size;simpa using this);have B3:=lh (bt (aj D (.cells (x.1.vals d gr) 29)) A);clear A)|(at_lookup;refine wS _ rfl _ _ 130 ZX rfl (.tuple #[.agg (g.1.vals (.slice I 0 K) (.slice J 0 L)),.bool ZX]) (.map (Z9 w.heap.size)) (pk (C,sg)) rfl rfl (b2.o U N3.o.m) ?_;have N4:=lh (N3.o.below (aj U (.cells (g.1.vals (.slice I 0 K) (.slice J 0 L)) 29)));have R4:=am (aj U (.cells (g.1.vals (.slice I 0 K) (.slice J 0 L)) 29)) R3 (by rw[ah];decide);have C4:=am (aj U (.cells (g.1.vals (.slice I 0 K) (.slice J 0 L)) 29)) C3 (by show 0<5;omega);have K4:=ae C4 1 _ rfl;have RG:=ak U (g.1.vals (.slice I 0 K) (.slice J 0 L)) 29 (0,0))|(go_at_call 44;(refine (b8.o d gr _ (HI.o.below (bt B3.o (aj _ _))) (a7.o.below (bt B3.o (aj _ _))) N4.o.sh.b).mono ?_);rintro _ w5 ⟨rfl,al⟩;have N5:=lh (N4.o.below al);have R5:=am al R4 (by rw[ah];decide);have M2:=ae R5 2 _ (vU _ _ _);have bk:=ae R5 18 _ (pS _ _ _);clear al))
         go_ret2
         exact⟨.slice Z7 0 0,rfl,Wl _ _ _ _,N5.o.g⟩
    | none =>
      rw[hn] at a4 G
      cases av:mget (C,sg) es with
      | some gv=>rw[av] at a4;exact a4.elim
      | none =>
        rw[av] at b1;have b5:=b1;unfold IP zlit at b5;have b2:=lh b5;have ba:=Jv l fl cd c C y hf h0;have c9:=KD l fl cd c C y;have b9:=fun d gr W h i1 i2 o1 o2=>cg.o c C y d gr W h h0 (by omega) c3 i1 i2 o1 o2
        generalize eu l fl cd c C y=nf at ba c9 b9;obtain⟨⟨ns,nc⟩,cb⟩:=nf;dsimp only at ba c9 b9;replace G:qt l (cs.take k) (N,C,O,S,T) y=(ns,nc):=(show qt l (cs.take k) (N,C,O,S,T) y=ci l C y from G).trans ba.symm
        have c7:=lh b9;clear b1 b5 av hn b9 ba;by_cases a9:nc=0
        .subst a9;rw[Jd Z Y G,<-ht] at H;have a8:=lh H;clear H ht Y;go_wp2_with (first|(go_at_call 70;(refine (a0.o N C O S T _ (HN.o.sh.below (aj _ _)).b).mono ?_);rintro _ D ⟨x,d,gr,bb,rfl,X,B,z,hc,E,F⟩;obtain⟨rfl,rfl⟩:x=y/\bb=ZX:=(by rcases hc with ⟨h,h2⟩|⟨h,-⟩;exact⟨ZN (h.symm.trans Z),h2⟩;exact absurd (h.symm.trans Z) (by simp));have a6:=ay x.1 d gr (aD X) (aE B);have N2:=lh (((HN.o.below (aj wr (.cells #[.int .i64 N,.int .i64 C,.string O,.string S,.string T] 67))).below z).below (aj D (.cells (x.1.vals d gr) 29)));have V:=ak D (x.1.vals d gr) 29 (0,0);have M0:=ae V 0 _ (ap _ _ _);have M1:=ae V 1 _ (aq _ _ _);have C2:=am (aj D (.cells (x.1.vals d gr) 29)) (am z (ak wr #[.int .i64 N,.int .i64 C,.string O,.string S,.string T] 67 (0,0)) (by show 0<5;omega)) (by show 0<5;omega);have K1:=ae C2 1 _ rfl;have z2:wr.heap.size+1<=D.heap.size:=(by have:=z.size;simpa using this);have HI:=lh X;have a7:=lh B;have aa:=lh E;have ab:=lh F;clear X B z hc E F)|(go_at_call 71;(refine (b7.o _ N2.o.sh.b).mono ?_);rintro _ U ⟨rfl,A⟩;have N3:=lh (N2.o.below A);have R3:=am A V (by rw[ah];decide);have C3:=am A C2 (by show 0<5;omega);have K3:=ae C3 1 _ rfl;have z3:D.heap.size+1<=U.heap.size:=(by have:=A.size;simpa using this);have B3:=lh (bt (aj D (.cells (x.1.vals d gr) 29)) A);clear A)|(at_lookup;refine wS _ rfl _ _ 130 ZX rfl (.tuple #[.agg #[.int .i64 0,.string ⟨#[]⟩,.int .i64 0,.int .i64 0,.int .i64 0,.int .i64 0,.int .i64 0,.int .i64 0,.int .i64 0,.int .i64 0,.int .i64 0,.int .i64 0,.int .i64 0,.int .i64 0,.int .i64 0,.int .i64 0,.bool ZW,.int .i64 0,.string ⟨#[]⟩,.string ⟨#[]⟩,.int .i64 0,.int .i64 0,.bool ZW,.slice Z7 0 0,.int .i64 0,.int .i64 0,.int .i64 0,.bool ZW,.string ⟨#[]⟩,.string ⟨#[]⟩,.int .i64 0,.int .i64 0,.slice Z7 0 0],.bool ZW]) (.map (Z9 w.heap.size)) (pk (C,sg)) rfl rfl (b2.o U N3.o.m) ?_;have N4:=lh (N3.o.below (aj U (.cells #[.int .i64 0,.string ⟨#[]⟩,.int .i64 0,.int .i64 0,.int .i64 0,.int .i64 0,.int .i64 0,.int .i64 0,.int .i64 0,.int .i64 0,.int .i64 0,.int .i64 0,.int .i64 0,.int .i64 0,.int .i64 0,.int .i64 0,.bool ZW,.int .i64 0,.string ⟨#[]⟩,.string ⟨#[]⟩,.int .i64 0,.int .i64 0,.bool ZW,.slice Z7 0 0,.int .i64 0,.int .i64 0,.int .i64 0,.bool ZW,.string ⟨#[]⟩,.string ⟨#[]⟩,.int .i64 0,.int .i64 0,.slice Z7 0 0] 29)));have R4:=am (aj U (.cells #[.int .i64 0,.string ⟨#[]⟩,.int .i64 0,.int .i64 0,.int .i64 0,.int .i64 0,.int .i64 0,.int .i64 0,.int .i64 0,.int .i64 0,.int .i64 0,.int .i64 0,.int .i64 0,.int .i64 0,.int .i64 0,.int .i64 0,.bool ZW,.int .i64 0,.string ⟨#[]⟩,.string ⟨#[]⟩,.int .i64 0,.int .i64 0,.bool ZW,.slice Z7 0 0,.int .i64 0,.int .i64 0,.int .i64 0,.bool ZW,.string ⟨#[]⟩,.string ⟨#[]⟩,.int .i64 0,.int .i64 0,.slice Z7 0 0] 29)) R3 (by rw[ah];decide);have C4:=am (aj U (.cells #[.int .i64 0,.string ⟨#[]⟩,.int .i64 0,.int .i64 0,.int .i64 0,.int .i64 0,.int .i64 0,.int .i64 0,.int .i64 0,.int .i64 0,.int .i64 0,.int .i64 0,.int .i64 0,.int .i64 0,.int .i64 0,.int .i64 0,.bool ZW,.int .i64 0,.string ⟨#[]⟩,.string ⟨#[]⟩,.int .i64 0,.int .i64 0,.bool ZW,.slice Z7 0 0,.int .i64 0,.int .i64 0,.int .i64 0,.bool ZW,.string ⟨#[]⟩,.string ⟨#[]⟩,.int .i64 0,.int .i64 0,.slice Z7 0 0] 29)) C3 (by show 0<5;omega);have K4:=ae C4 1 _ rfl;have RG:=ak U #[.int .i64 0,.string ⟨#[]⟩,.int .i64 0,.int .i64 0,.int .i64 0,.int .i64 0,.int .i64 0,.int .i64 0,.int .i64 0,.int .i64 0,.int .i64 0,.int .i64 0,.int .i64 0,.int .i64 0,.int .i64 0,.int .i64 0,.bool ZW,.int .i64 0,.string ⟨#[]⟩,.string ⟨#[]⟩,.int .i64 0,.int .i64 0,.bool ZW,.slice Z7 0 0,.int .i64 0,.int .i64 0,.int .i64 0,.bool ZW,.string ⟨#[]⟩,.string ⟨#[]⟩,.int .i64 0,.int .i64 0,.slice Z7 0 0] 29 (0,0))|(go_at_call 72;(refine (c7.o d gr _ N4.o.sh (HI.o.below (bt B3.o (aj _ _))) (a7.o.below (bt B3.o (aj _ _))) (fun q hq=>by have:=aa.o q hq;simp at this;omega) (fun q hq=>by have:=ab.o q hq;simp at this;omega)).mono ?_);rintro _ w5 ⟨rfl,b6,ar⟩;have N5:=lh (N4.o.tick ce ar b6);have R5:=dP R4 (by rw[ah];decide) ar (by omega);have M2:=ae R5 2 _ (vU _ _ _);have bk:=ae R5 18 _ (pS _ _ _);clear b6 ar)|(at_builtin;refine dQ _ rfl (.tmp 83) (.tmp 92) 53 67 _ _ 5 64 rfl Wq gA fZ ge gi rfl (by decide) (w.heap.size+1) (.slice va out.length vc) (.slice (Z9 ⟨w5.heap.size,0,Z7⟩) 1 1) out.length 1 (cv out) (cv [(7,x.1.d0,⟨#[]⟩,ns,x.1.vol)]) rfl (N5.o.below (aj w5 (.cells (ch5 (7,x.1.d0,⟨#[]⟩,ns,x.1.vol)) 67))).own rfl (iE w5 (7,x.1.d0,⟨#[]⟩,ns,x.1.vol) _ _ rfl) (fC _) (by unfold maxLen;omega) (by omega) (by have:=N5.o.g.size;have:=(Zf.1 N5.o.m).1;simp;omega) ?_;intro a5 c5 w6 af b4 b3;have bi:=lh af;have bc:=lh b4;clear af b4 b3))
         go_roundw
         case rel=>exact⟨k+1,cb,es,_,by omega,by go_num,by omega,by omega,by simp;omega,a8,ac,((N5.o.below (aj _ _)).app HS.o (out':=out++[(7,x.1.d0,⟨#[]⟩,ns,x.1.vol)]) (by rw[ZO,gP];exact bi.o) bc.o)⟩
         case measure=>simp [Zq];omega
        .rw[Jw Z Y G a9] at H;subst H;have t3:(nc != 0)=ZX:=by rw[YQ];exact a9
         clear ht Y a9;go_wp2_with (first|(go_at_call 70;(refine (a0.o N C O S T _ (HN.o.sh.below (aj _ _)).b).mono ?_);rintro _ D ⟨x,d,gr,bb,rfl,X,B,z,hc,E,F⟩;obtain⟨rfl,rfl⟩:x=y/\bb=ZX:=(by rcases hc with ⟨h,h2⟩|⟨h,-⟩;exact⟨ZN (h.symm.trans Z),h2⟩;exact absurd (h.symm.trans Z) (by simp));have a6:=ay x.1 d gr (aD X) (aE B);have N2:=lh (((HN.o.below (aj wr (.cells #[.int .i64 N,.int .i64 C,.string O,.string S,.string T] 67))).below z).below (aj D (.cells (x.1.vals d gr) 29)));have V:=ak D (x.1.vals d gr) 29 (0,0);have M0:=ae V 0 _ (ap _ _ _);have M1:=ae V 1 _ (aq _ _ _);have C2:=am (aj D (.cells (x.1.vals d gr) 29)) (am z (ak wr #[.int .i64 N,.int .i64 C,.string O,.string S,.string T] 67 (0,0)) (by show 0<5;omega)) (by show 0<5;omega);have K1:=ae C2 1 _ rfl;have z2:wr.heap.size+1<=D.heap.size:=(by have:=z.size;simpa using this);have HI:=lh X;have a7:=lh B;have aa:=lh E;have ab:=lh F;clear X B z hc E F)|(go_at_call 71;(refine (b7.o _ N2.o.sh.b).mono ?_);rintro _ U ⟨rfl,A⟩;have N3:=lh (N2.o.below A);have R3:=am A V (by rw[ah];decide);have C3:=am A C2 (by show 0<5;omega);have K3:=ae C3 1 _ rfl;have z3:D.heap.size+1<=U.heap.size:=(by have:=A.size;simpa using this);have B3:=lh (bt (aj D (.cells (x.1.vals d gr) 29)) A);clear A)|(at_lookup;refine wS _ rfl _ _ 130 ZX rfl (.tuple #[.agg #[.int .i64 0,.string ⟨#[]⟩,.int .i64 0,.int .i64 0,.int .i64 0,.int .i64 0,.int .i64 0,.int .i64 0,.int .i64 0,.int .i64 0,.int .i64 0,.int .i64 0,.int .i64 0,.int .i64 0,.int .i64 0,.int .i64 0,.bool ZW,.int .i64 0,.string ⟨#[]⟩,.string ⟨#[]⟩,.int .i64 0,.int .i64 0,.bool ZW,.slice Z7 0 0,.int .i64 0,.int .i64 0,.int .i64 0,.bool ZW,.string ⟨#[]⟩,.string ⟨#[]⟩,.int .i64 0,.int .i64 0,.slice Z7 0 0],.bool ZW]) (.map (Z9 w.heap.size)) (pk (C,sg)) rfl rfl (b2.o U N3.o.m) ?_;have N4:=lh (N3.o.below (aj U (.cells #[.int .i64 0,.string ⟨#[]⟩,.int .i64 0,.int .i64 0,.int .i64 0,.int .i64 0,.int .i64 0,.int .i64 0,.int .i64 0,.int .i64 0,.int .i64 0,.int .i64 0,.int .i64 0,.int .i64 0,.int .i64 0,.int .i64 0,.bool ZW,.int .i64 0,.string ⟨#[]⟩,.string ⟨#[]⟩,.int .i64 0,.int .i64 0,.bool ZW,.slice Z7 0 0,.int .i64 0,.int .i64 0,.int .i64 0,.bool ZW,.string ⟨#[]⟩,.string ⟨#[]⟩,.int .i64 0,.int .i64 0,.slice Z7 0 0] 29)));have R4:=am (aj U (.cells #[.int .i64 0,.string ⟨#[]⟩,.int .i64 0,.int .i64 0,.int .i64 0,.int .i64 0,.int .i64 0,.int .i64 0,.int .i64 0,.int .i64 0,.int .i64 0,.int .i64 0,.int .i64 0,.int .i64 0,.int .i64 0,.int .i64 0,.bool ZW,.int .i64 0,.string ⟨#[]⟩,.string ⟨#[]⟩,.int .i64 0,.int .i64 0,.bool ZW,.slice Z7 0 0,.int .i64 0,.int .i64 0,.int .i64 0,.bool ZW,.string ⟨#[]⟩,.string ⟨#[]⟩,.int .i64 0,.int .i64 0,.slice Z7 0 0] 29)) R3 (by rw[ah];decide);have C4:=am (aj U (.cells #[.int .i64 0,.string ⟨#[]⟩,.int .i64 0,.int .i64 0,.int .i64 0,.int .i64 0,.int .i64 0,.int .i64 0,.int .i64 0,.int .i64 0,.int .i64 0,.int .i64 0,.int .i64 0,.int .i64 0,.int .i64 0,.int .i64 0,.bool ZW,.int .i64 0,.string ⟨#[]⟩,.string ⟨#[]⟩,.int .i64 0,.int .i64 0,.bool ZW,.slice Z7 0 0,.int .i64 0,.int .i64 0,.int .i64 0,.bool ZW,.string ⟨#[]⟩,.string ⟨#[]⟩,.int .i64 0,.int .i64 0,.slice Z7 0 0] 29)) C3 (by show 0<5;omega);have K4:=ae C4 1 _ rfl;have RG:=ak U #[.int .i64 0,.string ⟨#[]⟩,.int .i64 0,.int .i64 0,.int .i64 0,.int .i64 0,.int .i64 0,.int .i64 0,.int .i64 0,.int .i64 0,.int .i64 0,.int .i64 0,.int .i64 0,.int .i64 0,.int .i64 0,.int .i64 0,.bool ZW,.int .i64 0,.string ⟨#[]⟩,.string ⟨#[]⟩,.int .i64 0,.int .i64 0,.bool ZW,.slice Z7 0 0,.int .i64 0,.int .i64 0,.int .i64 0,.bool ZW,.string ⟨#[]⟩,.string ⟨#[]⟩,.int .i64 0,.int .i64 0,.slice Z7 0 0] 29 (0,0))|(go_at_call 72;(refine (c7.o d gr _ N4.o.sh (HI.o.below (bt B3.o (aj _ _))) (a7.o.below (bt B3.o (aj _ _))) (fun q hq=>by have:=aa.o q hq;simp at this;omega) (fun q hq=>by have:=ab.o q hq;simp at this;omega)).mono ?_);rintro _ w5 ⟨rfl,b6,ar⟩;have N5:=lh (N4.o.tick ce ar b6);have R5:=dP R4 (by rw[ah];decide) ar (by omega);have M2:=ae R5 2 _ (vU _ _ _);have bk:=ae R5 18 _ (pS _ _ _);clear b6 ar))
         go_ret2
         exact⟨.slice Z7 0 0,rfl,Wl _ _ _ _,N5.o.g⟩
end
section
set_option linter.unusedSimpArgs false
structure RNs (w wr:ZY) (ov:Z2) (out:Z1 Ch):Prop where
 own:wr.ownsRow w.heap.size 67 5 ov out.length (cv out)
 b:Z4 w.heap.size w wr
theorem RNs.below{w:ZY}(h:RNs w wr ov out)(H:Z4 wr.heap.size wr w'):RNs w w' ov out :=
 ⟨aV h.own (fun x u=>H.block x (ax h.own x u).2),bt h.b H⟩
theorem RNs.belowB{B:Nat}{w:ZY}(h:RNs w wr ov out)(H:Z4 B wr w')(u:w.heap.size<=B)(v:∀ q,ov.ownBlock=Z9 q->q<B):RNs w w' ov out :=
 ⟨aV h.own (fun x z=>H.block x (v x z)),h.b.trans (H.mono u)⟩
theorem RNs.app{w:ZY}(h:RNs w wr ov out)(u:w'.ownsRow w.heap.size 67 5 i out'.length (cv out'))(H:wr.grownBy w' ov.ownBlock):RNs w w' i out' :=
 ⟨u,h.b.trans (fy H (fun q v=>(ax h.own q v).1) h.b.size)⟩
attribute [local go_sem ↓] aZ bf bq cl
attribute [local go_sem] bn aS aH bE bH aK aT ak aI aw az aM ah aQ aL aP aO aR aY aW bD ap aq
end
def nE(w:ZY)(b o:Nat)(c:Ch):Prop:=∀ i u,(ch5 c)[i]?=Z9 u->w.cell? ⟨b,o+i,Z7⟩=Z9 u
end Go.Proofs.YtnkjliahpeebjaaGreatDoor
