/- Contract of the reference of chapter 35: Changes at two equal lists. -/
import Derived.Test.YtnojclchnhmggaaGreatDoorSaC
import Derived.Maps.OwnSet
import Derived.Maps.OwnOps
import Derived.MapKept
import Derived.Test.YtnojclchnhmggaaGreatDoorNx
import Derived.Test.YtnojclchnhmggaaGreatDoorAcA
import Derived.Test.YtnojclchnhmggaaGreatDoorRh
import Derived.Test.YtnojclchnhmggaaGreatDoorRuC
import Derived.ChangeMaps5
import Derived.WideKeyRuns
import Derived.Test.YtnojclchnhmggaaGreatDoorSh
import Derived.Deep.QuietTactic
import Derived.BigQuiet
namespace Go.Proofs.YtnojclchnhmggaaGreatDoor
open Go.RowKit
set_option maxRecDepth 8000
set_option maxHeartbeats 16000000
section
open Go.Maps Go.WideMaps
open Go.ChangeMaps (setBlock)
variable {P:Program} {ops:Array Oper} {rest:List Oper} {o:Oper} {a:Act} {Q:Exit->Act->World->Prop}
theorem wp_mu (w:World) (hg:o.guard=none) (m x v:Operand) (t k e:TypeId) (hop:o.op=Op.mapUpdate t m x v) (ht:P.underlying t=some (.map k e)) (b:Nat) (es:Array MapEntry) (clock:Nat) (key val:Value)
  (hm:a.eval m=.map (some b)) (hb:w.heap[b]?=some (.map es clock)) (hx:a.eval x=key) (hv:a.eval v=val)
  (hc:(Instr.checkKey false 10000 k key).run P w=.ok () w) (hf:(Instr.findKey k key es.toList).run P w=.ok none w)
  (hK:∀ w',w'.heap[b]?=some (.map (es.push ⟨key,val,clock⟩) (clock+1))->w.grownBy w' (some b)->wpList P ops Q rest (a.put o.dst undef) w'):wpList P ops Q (o::rest) a w:=by
 refine wpList_plain hg fun K' hK'=>?_
 have hrun:(Instr.mapUpdate t (.map (some b)) key val).run P w=.ok () (setBlock w b (.map (es.push ⟨key,val,clock⟩) (clock+1))):=by
  simp [Instr.mapUpdate,run_underlying ht,MapKept.run_getObj_map hb,hc,hf,MapKept.run_setObj_map _ hb,Result.andThen,setBlock]
 unfold Oper.wp
 simp [execOp,hop,hm,hx,hv,hrun,Result.andThen]
 refine hK' _ _ (hK _ ?_ ⟨rfl,rfl,rfl,by simp [setBlock],fun i hi hne=>?_⟩)
 · have hl:b<w.heap.size:=by
    rcases Nat.lt_or_ge b w.heap.size with h | h
    · exact h
    · rw[Array.getElem?_eq_none h] at hb;cases hb
   simp [setBlock,hl]
 · have:¬ b=i:=fun e=>hne (by rw[e])
   simp [setBlock,this]
theorem lk_hit (w:World) (t k e:TypeId) (ht:P.underlying t=some (.map k e)) (b:Nat) (es:Array MapEntry) (clock:Nat) (key:Value) (c:Bool) (hb:w.heap[b]?=some (.map es clock)) (hc:(Instr.checkKey es.isEmpty 10000 k key).run P w=.ok () w) (i:Nat) (v:Value) (hf:(Instr.findKey k key es.toList).run P w=.ok (some (i,v)) w) :
  (Instr.lookup t (.map (some b)) key c).run P w=.ok (if c then .tuple #[v,.bool true] else v) w:=by
 simp [Instr.lookup,run_underlying ht,MapKept.run_getObj_map hb,hc,hf,Result.andThen]
theorem lk_miss (w:World) (t k e:TypeId) (ht:P.underlying t=some (.map k e)) (b:Nat) (es:Array MapEntry) (clock:Nat) (key z:Value) (c:Bool) (hb:w.heap[b]?=some (.map es clock)) (hc:(Instr.checkKey es.isEmpty 10000 k key).run P w=.ok () w) (hz:(zeroValue e).run P w=.ok z w) (hf:(Instr.findKey k key es.toList).run P w=.ok none w) :
  (Instr.lookup t (.map (some b)) key c).run P w=.ok (if c then .tuple #[z,.bool false] else z) w:=by
 simp [Instr.lookup,run_underlying ht,MapKept.run_getObj_map hb,hc,hf,hz,Result.andThen]
theorem wp_lk (w:World) (hg:o.guard=none) (m x:Operand) (t:TypeId) (c:Bool) (hop:o.op=Op.lookup t m x c) (R mv key:Value) (hm:a.eval m=mv) (hx:a.eval x=key) (hr:(Instr.lookup t mv key c).run P w=.ok R w)
  (hK:wpList P ops Q rest (a.put o.dst R) w):wpList P ops Q (o::rest) a w:=by
 refine wpList_plain hg fun K' hK'=>?_
 unfold Oper.wp
 simp [execOp,hop,hm,hx,hr,Result.andThen]
 exact hK' _ _ hK
def vol1:ByteArray:=⟨#[86,49]⟩
def vol2:ByteArray:=⟨#[86,50]⟩
def spK (v:ByteArray):Value:=.agg #[.int .i64 130,.string v]
def mp1:Array MapEntry:=#[⟨spK vol1,.bool true,0⟩]
def mp2:Array MapEntry:=#[⟨spK vol1,.bool true,0⟩,⟨spK vol2,.bool true,1⟩]
def mpE (cs:Array Value):Array MapEntry:=#[⟨.int .i64 130,.agg cs,0⟩]
theorem sp_c1 (x:Bool) (w:World):(Instr.checkKey x 10000 143 (spK vol1)).run Tryz.prog w=.ok () w:=by cases x <;> kernel_rfl
theorem sp_c2 (x:Bool) (w:World):(Instr.checkKey x 10000 143 (spK vol2)).run Tryz.prog w=.ok () w:=by cases x <;> kernel_rfl
theorem sp_f0 (w:World):(Instr.findKey 143 (spK vol1) []).run Tryz.prog w=.ok none w:=by kernel_rfl
theorem sp_f1 (w:World):(Instr.findKey 143 (spK vol2) mp1.toList).run Tryz.prog w=.ok none w:=by kernel_rfl
theorem sp_f2 (w:World):(Instr.findKey 143 (spK vol1) mp2.toList).run Tryz.prog w=.ok (some (0,.bool true)) w:=by kernel_rfl
theorem id_c (x:Bool) (w:World):(Instr.checkKey x 10000 3 (.int .i64 130)).run Tryz.prog w=.ok () w:=by cases x <;> kernel_rfl
theorem id_f0 (w:World):(Instr.findKey 3 (.int .i64 130) []).run Tryz.prog w=.ok none w:=by kernel_rfl
theorem id_f1 (cs:Array Value) (w:World):(Instr.findKey 3 (.int .i64 130) (mpE cs).toList).run Tryz.prog w=.ok (some (0,.agg cs)) w:=by kernel_rfl
end
section
set_option linter.unusedSimpArgs false
theorem so_ins (v f:Value) (w:World):Calls Tryz.prog 247 #[v,.int .i64 0,.int .i64 1,f] w fun r w'=>r=.returned (.tuple #[])∧w=w':=by
 go_enter Tryz.func247,Tryz.ntmps247
 go_wp2_with fail
 go_loopw [8] (fun i wr=>i=.int .i64 1∧wr=w) (fun _ _=>0)
 case atStart=>exact⟨rfl,rfl⟩
 case round =>
  obtain⟨rfl,rfl⟩:=hrel
  go_wp2_with fail
  go_end0
  exact⟨rfl,rfl⟩
theorem so_stab (v f:Value) (w:World):Calls Tryz.prog 163 #[v,.int .i64 1,f] w fun r w'=>r=.returned (.tuple #[])∧w=w':=by
 have hi:=fun W=>so_ins v f W
 have HI:=Lib.hid hi
 clear hi
 go_enter Tryz.func163,Tryz.ntmps163
 go_wp2_with fail
 go_loopw [7,8] (fun i j wr=>i=.int .i64 0∧j=.int .i64 20∧wr=w) (fun _ _ _=>0)
 case atStart=>exact⟨rfl,rfl,rfl⟩
 case round =>
  obtain⟨rfl,rfl,rfl⟩:=hrel
  go_wp2_with (go_at_call 247;(with_reducible refine (HI.out _).mono ?_);rintro _ w2 ⟨rfl,rfl⟩)
  go_loopw [6] (fun i wr2=>i=.int .i64 20∧wr2=wr) (fun _ _=>0)
  case atStart=>exact⟨rfl,rfl⟩
  case round =>
   obtain⟨rfl,rfl⟩:=hrel
   go_wp2_with fail
   go_end0
   exact⟨rfl,rfl⟩
theorem so_one (a:Option Addr) (c:Nat) (f:Value) (w:World):Calls Tryz.prog 76 #[.slice a 1 c,f] w fun r w'=>r=.returned (.tuple #[])∧w=w':=by
 have HI:=Lib.hid (fun W=>so_stab (.slice a 1 c) f W)
 go_enter Tryz.func76,Tryz.ntmps76
 go_wp2_with (go_at_call 163;(with_reducible refine (HI.out _).mono ?_);rintro _ w2 ⟨rfl,rfl⟩)
 go_end0
 exact⟨rfl,rfl⟩
theorem df_i:Tryz.prog.info? 98=some ((Tryz.prog.info? 98).getD default):=by kernel_rfl
theorem df_i0:((Tryz.prog.info? 98).getD default).zero=some (.agg #[.int .i64 0,.int .i64 0,.string ⟨#[]⟩,.string ⟨#[]⟩]):=by kernel_rfl
theorem df_i1:((Tryz.prog.info? 98).getD default).size=4:=by kernel_rfl
theorem df_i2:((Tryz.prog.info? 98).getD default).bytes=48:=by kernel_rfl
def e37:En:={ En.zero with kind:=0,name:=⟨#[80,65,89,46,77,65,83,84,69,82]⟩,d0:=130,vol:=vol1 }
def x37:Fu:=(e37,[],[])
def v37:Array Value:=e37.vals (.slice none 0 0) (.slice none 0 0)
theorem v37_0:v37[0]?=some (.int .i64 0):=vals_0 e37 _ _
theorem v37_1:v37[1]?=some (.string ⟨#[80,65,89,46,77,65,83,84,69,82]⟩):=vals_1 e37 _ _
theorem v37_18:v37[18]?=some (.string vol1):=vals_18 e37 _ _
theorem v37_dat:v37.extract 2 23=e37.dat:=vals_dat e37 _ _
theorem d37_0:e37.dat[0]?=some (.int .i64 130):=dat_0 e37
theorem d37_16:e37.dat[16]?=some (.string vol1):=dat_16 e37
theorem d37_one:allOne e37.dat.toList=true:=dat_one e37
theorem v37_size:v37.size=33:=vals_size e37 _ _
theorem z37_one:allOne (En.zero.vals (.slice none 0 0) (.slice none 0 0)).toList=true:=vals_one _ _ _ rfl rfl
theorem v37_one:allOne v37.toList=true:=vals_one e37 _ _ rfl rfl
structure CMW (w wr:World) (es ei:Array MapEntry) (k j:Nat):Prop where
 bel:Below w.heap.size w wr
 m1:wr.heap[w.heap.size]?=some (.map es k)
 m2:wr.heap[w.heap.size+1]?=some (.map ei j)
theorem CMW.lt {w wr:World} {es ei:Array MapEntry} {k j:Nat} (h:CMW w wr es ei k j):w.heap.size+1<wr.heap.size:=by
 rcases Nat.lt_or_ge (w.heap.size+1) wr.heap.size with q | q
 · exact q
 · have:=h.m2;rw[Array.getElem?_eq_none q] at this;cases this
theorem CMW.below {w wr W:World} {es ei:Array MapEntry} {k j:Nat} (h:CMW w wr es ei k j) (hb:Below wr.heap.size wr W):CMW w W es ei k j :=
 ⟨bt h.bel hb,(hb.block _ (by have:=h.lt;omega)).trans h.m1,(hb.block _ h.lt).trans h.m2⟩
theorem CMW.put1 {w wr W:World} {es ei es':Array MapEntry} {k j k':Nat} (h:CMW w wr es ei k j) (h1:W.heap[w.heap.size]?=some (.map es' k')) (hg:wr.grownBy W (some w.heap.size)):CMW w W es' ei k' j :=
 ⟨h.bel.trans (grown_below hg (Nat.le_refl _) h.bel.size),h1,(hg.block _ h.lt (by intro e;have:=Option.some.inj e;omega)).trans h.m2⟩
theorem CMW.put2 {w wr W:World} {es ei ei':Array MapEntry} {k j j':Nat} (h:CMW w wr es ei k j) (h1:W.heap[w.heap.size+1]?=some (.map ei' j')) (hg:wr.grownBy W (some (w.heap.size+1))):CMW w W es ei' k j' :=
 ⟨h.bel.trans (grown_below hg (by omega) h.bel.size),(hg.block _ (by have:=h.lt;omega) (by intro e;have:=Option.some.inj e;omega)).trans h.m1,h1⟩
theorem CMW.grown {w wr W:World} {es ei:Array MapEntry} {k j:Nat} {p:Option Nat} (h:CMW w wr es ei k j) (hg:wr.grownBy W p) (hp:∀ q,p=some q->w.heap.size+1<q):CMW w W es ei k j :=
 ⟨h.bel.trans ⟨hg.os,hg.tape,hg.output,hg.size,fun i hi=>hg.block i (by have:=h.lt;omega) (fun e=>by have:=hp i e.symm;omega)⟩,(hg.block _ (by have:=h.lt;omega) (fun e=>by have:=hp _ e.symm;omega)).trans h.m1,(hg.block _ h.lt (fun e=>by have:=hp _ e.symm;omega)).trans h.m2⟩
theorem zero_en (w:World):(zeroValue 28).run Tryz.prog w=.ok (.agg (En.zero.vals (.slice none 0 0) (.slice none 0 0))) w:=by
 show _=Result.ok (Value.agg (zcells 0 ⟨#[]⟩)) w
 rw[<-zlit_eq]
 kernel_rfl
theorem CMW.start (w:World):CMW w ((w.alloc (.map #[] 0)).alloc (.map #[] 0)) #[] #[] 0 0:=by
 refine⟨by exact belA,?_,?_⟩
 · exact (((Below.refl _ _).alloc (Nat.le_refl _) (.map #[] 0):Below (w.alloc (.map #[] 0)).heap.size (w.alloc (.map #[] 0)) _).block _ (by simp)).trans (heap_alloc_new w _)
 · have:=heap_alloc_new (w.alloc (.map #[] 0)) (.map #[] 0)
   simpa using this
theorem row_grown {w w':World} {p:Option Nat} {g:Nat} (h:w.grownBy w' p) (hl:g<w.heap.size) (hne:some g≠p):row w' g=row w g:=by unfold row;rw[h.block g hl hne]
theorem CMW.drew {w wr:World} {es ei:Array MapEntry} {k j:Nat} (h:CMW w wr es ei k j):CMW w wr.drew es ei k j:=h.below (Below.drew (Below.refl _ _))
attribute [local go_sem ↓] ldEnt stEntRow ldEntM ldDat stDat
attribute [local go_sem ↓ high] stEnt
attribute [local go_sem] held_a held_n row_a33 run_makeMap Held_drew isHead_mk headOf_mk offOf_mk isPtr_mk isDat_mk cellsOfV_mk isAggV_mk row_new row_new2 row_new2' row_drew row_drewN vals_size vals_dat dat_size allOne_nil allOne_cons one_int one_bool one_string one_pointer one_slice one_func v37_size v37_one v37_dat d37_one z37_one
def DFo (w wr:World) (o:Value):Prop:=∃ g c,o=.slice (some ⟨g,0,none⟩) 1 c∧(∀ j v,(#[.int .i64 3,.int .i64 130,.string vol2,.string ⟨#[80,65,89,46,77,65,83,84,69,82]⟩]:Array Value)[j]?=some v->wr.cell? ⟨g,j,none⟩=some v)∧Below w.heap.size w wr
theorem cm_l (wr:World) (s v:ByteArray):∀ W,Below (((wr.alloc (.cells #[.int .i64 130,.string v,.string s] 95)).alloc (.cells v37 28)).alloc (.cells #[.int .i64 0,.int .i64 130,.string v,.string ⟨#[80,65,89,46,77,65,83,84,69,82]⟩] 98)).heap.size (((wr.alloc (.cells #[.int .i64 130,.string v,.string s] 95)).alloc (.cells v37 28)).alloc (.cells #[.int .i64 0,.int .i64 130,.string v,.string ⟨#[80,65,89,46,77,65,83,84,69,82]⟩] 98)) W ->
  row W wr.heap.size=#[.int .i64 130,.string v,.string s]∧row W (wr.heap.size+1)=v37∧row W (wr.heap.size+1+1)=#[.int .i64 0,.int .i64 130,.string v,.string ⟨#[80,65,89,46,77,65,83,84,69,82]⟩]∧Held W (wr.heap.size+1+1) 4:=fun W b=>by
 have h1:=row_below ((show Below ((wr.alloc (.cells #[.int .i64 130,.string v,.string s] 95)).alloc (.cells v37 28)).heap.size _ _ by exact belA).trans (b.mono (by simp))) (row_new2 wr #[.int .i64 130,.string v,.string s] 95 (0,0) (.cells v37 28)) (Nat.zero_lt_succ 2)
 have h2:=row_below ((show Below ((wr.alloc (.cells #[.int .i64 130,.string v,.string s] 95)).alloc (.cells v37 28)).heap.size _ _ by exact belA).trans (b.mono (by simp))) (row_new2' wr v37 28 (0,0) (.cells #[.int .i64 130,.string v,.string s] 95)) (by rw[v37_size];decide)
 have k:=Held.new ((wr.alloc (.cells #[.int .i64 130,.string v,.string s] 95)).alloc (.cells v37 28)) #[.int .i64 0,.int .i64 130,.string v,.string ⟨#[80,65,89,46,77,65,83,84,69,82]⟩] 98 4 rfl (by decide)
 have h3:=row_below b (row_new ((wr.alloc (.cells #[.int .i64 130,.string v,.string s] 95)).alloc (.cells v37 28)) #[.int .i64 0,.int .i64 130,.string v,.string ⟨#[80,65,89,46,77,65,83,84,69,82]⟩] 98 (0,0)) (Nat.zero_lt_succ 3)
 have e:((wr.alloc (.cells #[.int .i64 130,.string v,.string s] 95)).alloc (.cells v37 28)).heap.size=wr.heap.size+1+1:=by simp
 rw[e] at h3 k
 exact⟨h1,h2,h3,k.below b⟩
theorem sm37 (al gr:Value) (w:World) (h1:IS w al []) (h2:GS w gr []):Calls Tryz.prog 53 #[.agg (e37.vals al gr),.agg v37] w fun r w'=>r=.returned (.bool true)∧Below w.heap.size w w':=by
 have:=en_same e37 e37 al gr (.slice none 0 0) (.slice none 0 0) [] [] [] [] w h1 (IS.nil w) h2 (GS.nil w)
 rw[(sameE_eq e37 e37 [] [] [] []).2 ⟨rfl,rfl,rfl⟩] at this
 exact this
theorem cs_four {X:World} {a b c d:Value} {t:TypeId} {q:Nat} (hq:X.heap.size=q):CS (X.alloc (.cells #[a,b,c,d] t)) 4 (.slice (some ⟨q,0,none⟩) 1 1) 1 [a,b,c,d]:=by
 subst hq
 refine⟨_,_,rfl,rfl,fun _=>⟨_,rfl,fun j u hu=>?_⟩⟩
 rw[Addr.add_lit,Nat.zero_add,cell_of_row _ X.heap.size j _ t (0,0) (heap_alloc_new X _)]
 simpa using hu
theorem DFo.of {w w6:World} {a:Option Addr} {c:Nat} (hown:w6.ownsRow w.heap.size 98 4 (.slice a 1 c) 1 [.int .i64 3,.int .i64 130,.string vol2,.string ⟨#[80,65,89,46,77,65,83,84,69,82]⟩]) (hb:Below w.heap.size w w6):DFo w w6 (.slice a 1 c):=by
 obtain⟨a',c',e,-,p⟩:=own_cells hown
 rcases hown.2 with ⟨h1,-⟩ | ⟨g,cap,cur,h1,-⟩
 · cases h1
 · cases h1
   cases e
   obtain⟨ad,e2,q⟩:=p (by decide)
   cases e2
   refine⟨g,_,rfl,fun j v hv=>?_,hb⟩
   have:=q j v (by simpa using hv)
   rwa [Addr.add_lit,Nat.zero_add] at this
attribute [local go_sem] hz_n hz_a hz_b held_v
theorem cw_comp (b1 b2:Nat) (s:ByteArray) (w:World) (hb2:b2<w.heap.size) (h1:mid w b1 0=v37) (h2:row w b2=#[.int .i64 130,.string vol1,.string s,.int .i64 130,.string vol2,.string s])
  (hp:∀ W,Below w.heap.size w W->Calls Tryz.prog 52 #[.string s] W fun r w'=>∃ al gr al2 gr2,r=.returned (.tuple #[.agg (e37.vals al gr),.agg (En.zero.vals al2 gr2),.int .i64 0])∧IS w' al []∧GS w' gr []∧one al2=true∧one gr2=true∧Below W.heap.size W w') :
  Calls Tryz.prog 29 #[.slice (some ⟨b1,0,none⟩) 1 1,.slice (some ⟨b2,0,none⟩) 2 2] w fun r w'=>∃ g c,r=.returned (.slice (some ⟨g,0,none⟩) 1 c)∧(∀ j v,(#[.int .i64 3,.int .i64 130,.string vol2,.string ⟨#[80,65,89,46,77,65,83,84,69,82]⟩]:Array Value)[j]?=some v->w'.cell? ⟨g,j,none⟩=some v)∧Below w.heap.size w w':=by
 have HP:=Lib.hid hp
 have HL:=Lib.hid (fun (W:World) (B:Below w.heap.size w W) (j:Nat) v (h:(row w b2)[j]?=some v)=>(B.cell (p:=⟨b2,j,none⟩) hb2).trans (cell_row rfl j v h))
 rw[h2] at HL
 have HM:=Lib.hid (fun (W:World) (B:Below w.heap.size w W)=>mid_below B h1 (by rw[v37_size];decide))
 have HS:=Lib.hid (CMW.start w)
 clear hp h1 h2
 go_enter Tryz.func29,Tryz.ntmps29
 go_wp2_with fail
 go_loopw [27] (fun i wr=>(i=.int .i64 0∧CMW w wr #[] #[] 0 0)∨(i=.int .i64 1∧CMW w wr mp1 #[] 1 0)∨(i=.int .i64 2∧CMW w wr mp2 #[] 2 0)) (fun i _=>2 - (intOf i).toNat)
 case atStart=>exact .inl ⟨rfl,HS.out⟩
 case round =>
  rcases hrel with ⟨rfl,hC⟩ | ⟨rfl,hC⟩ | ⟨rfl,hC⟩
  · have p0:=HL.out wr hC.bel 0 _ rfl
    have p1:=HL.out wr hC.bel 1 _ rfl
    have p2:=HL.out wr hC.bel 2 _ rfl
    have HC:=Lib.hid hC
    clear hC
    go_wp2_with (at_mapUpdate;refine wp_mu _ rfl _ _ _ 140 143 4 rfl Tryz.underlying140 w.heap.size #[] 0 (spK vol1) (.bool true) rfl (HC.out.below ((Below.refl _ _).alloc (Nat.le_refl _) _)).m1 rfl rfl (sp_c1 _ _) (sp_f0 _) ?_;intro w5 g1 g2;have NX:=Lib.hid ((HC.out.below ((Below.refl _ _).alloc (Nat.le_refl _) _)).put1 g1 g2);clear g1 g2)
    go_roundw
    case rel=>exact .inr (.inl ⟨rfl,NX.out⟩)
    case measure=>simp [intOf]
  · have p0:=HL.out wr hC.bel 3 _ rfl
    have p1:=HL.out wr hC.bel 4 _ rfl
    have p2:=HL.out wr hC.bel 5 _ rfl
    have HC:=Lib.hid hC
    clear hC
    go_wp2_with (at_mapUpdate;refine wp_mu _ rfl _ _ _ 140 143 4 rfl Tryz.underlying140 w.heap.size mp1 1 (spK vol2) (.bool true) rfl (HC.out.below ((Below.refl _ _).alloc (Nat.le_refl _) _)).m1 rfl rfl (sp_c2 _ _) (sp_f1 _) ?_;intro w5 g1 g2;have NX:=Lib.hid ((HC.out.below ((Below.refl _ _).alloc (Nat.le_refl _) _)).put1 g1 g2);clear g1 g2)
    go_roundw
    case rel=>exact .inr (.inr ⟨rfl,NX.out⟩)
    case measure=>simp [intOf]
  · have HC:=Lib.hid hC
    clear hC
    go_wp2_with fail
    clear HS
    go_loopw [9,40] (fun o i wr=>(o=.slice none 0 0∧i=.int .i64 0∧CMW w wr mp2 #[] 2 0)∨(o=.slice none 0 0∧i=.int .i64 1∧CMW w wr mp2 (mpE v37) 2 1)) (fun _ i _=>1 - (intOf i).toNat)
    case atStart=>exact .inl ⟨rfl,rfl,HC.out⟩
    case round =>
     clear HC
     rcases hrel with ⟨rfl,rfl,hC⟩ | ⟨rfl,rfl,hC⟩
     · have M0:=HM.out wr hC.bel
       have R0:=row_new wr v37 28 (0,0)
       have N0:=cell_row R0 0 _ v37_0
       have hC0:=hC
       have RD:=row_new2' wr e37.dat 24 (0,0) (.cells v37 28)
       have D0:=cell_row RD 0 _ d37_0
       have D16:=cell_row RD 16 _ d37_16
       have RD3:row (((wr.alloc (.cells v37 28)).alloc (.cells e37.dat 24)).alloc (.cells (En.zero.vals (.slice none 0 0) (.slice none 0 0)) 28)) (wr.heap.size+1)=e37.dat:=row_below (show Below ((wr.alloc (.cells v37 28)).alloc (.cells e37.dat 24)).heap.size _ _ by exact belA) RD (by rw[dat_size];decide)
       have zc:=hC0.lt
       have R3:row (((wr.alloc (.cells v37 28)).alloc (.cells e37.dat 24)).alloc (.cells (En.zero.vals (.slice none 0 0) (.slice none 0 0)) 28)) wr.heap.size=v37:=row_below (show Below (wr.alloc (.cells v37 28)).heap.size _ _ by exact belA) R0 (by rw[v37_size];decide)
       have HC:=Lib.hid hC
       clear hC
       go_wp2_with (first
        | (at_lookup;refine wp_lk _ rfl _ _ 141 true rfl (.tuple #[.agg (En.zero.vals (.slice none 0 0) (.slice none 0 0)),.bool false]) _ _ rfl rfl (lk_miss _ 141 3 28 Tryz.underlying141 (w.heap.size+1) #[] 0 _ _ true (HC.out.below (by exact belA)).m2 (id_c _ _) (zero_en _) (id_f0 _)) ?_)
        | (at_mapUpdate;refine wp_mu _ rfl _ _ _ 141 3 28 rfl Tryz.underlying141 (w.heap.size+1) #[] 0 (.int .i64 130) (.agg v37) rfl (HC.out.below (by exact belA)).m2 rfl rfl (id_c _ _) (id_f0 _) ?_;intro w5 g1 g2;have RD5:row w5 (wr.heap.size+1)=e37.dat:=(row_grown g2 (by simp) (by intro e;have:=Option.some.inj e;omega)).trans RD3;have D50:=cell_row RD5 0 _ d37_0;have D516:=cell_row RD5 16 _ d37_16;have NX:=Lib.hid ((HC.out.below (by exact belA)).put2 g1 g2);clear g1 g2 RD5)
        | (at_lookup;refine wp_lk _ rfl _ _ 140 false rfl (.bool true) _ _ rfl rfl (lk_hit _ 140 143 4 Tryz.underlying140 w.heap.size mp2 2 _ false NX.out.m1 (sp_c1 _ _) 0 (.bool true) (sp_f2 _)) ?_))
       go_roundw
       case rel=>exact .inr ⟨rfl,rfl,NX.out⟩
       case measure=>simp [intOf]
     · have HC:=Lib.hid hC
       clear hC
       go_wp2_with fail
       go_loopw [9,83] (fun o i wr=>(o=.slice none 0 0∧i=.int .i64 0∧CMW w wr mp2 (mpE v37) 2 1)∨(o=.slice none 0 0∧i=.int .i64 1∧CMW w wr mp2 (mpE v37) 2 1)∨(i=.int .i64 2∧DFo w wr o)) (fun _ i _=>2 - (intOf i).toNat)
       case atStart=>exact .inl ⟨rfl,rfl,HC.out⟩
       case round =>
        clear HC
        rcases hrel with ⟨rfl,rfl,hC⟩ | ⟨rfl,rfl,hC⟩ | ⟨rfl,hD⟩
        · have p0:=HL.out wr hC.bel 0 _ rfl
          have p1:=HL.out wr hC.bel 1 _ rfl
          have p2:=HL.out wr hC.bel 2 _ rfl
          have N1:=cell_row (row_new2' wr v37 28 (0,0) (.cells #[.int .i64 130,.string vol1,.string s] 95)) 1 _ v37_1
          have hl:=cm_l wr s vol1
          have HC:=Lib.hid hC
          clear hC
          go_upto_region 25 with (first
           | (at_lookup;refine wp_lk _ rfl _ _ 141 true rfl (.tuple #[.agg v37,.bool true]) _ _ rfl rfl (lk_hit _ 141 3 28 Tryz.underlying141 (w.heap.size+1) (mpE v37) 1 _ true (HC.out.below (by exact belA)).m2 (id_c _ _) 0 (.agg v37) (id_f1 _ _)) ?_)
           | (go_at_call 52;(refine (HP.out _ (bt HC.out.bel (by exact belA))).mono ?_);rintro _ w4 ⟨al,gr,al2,gr2,rfl,hI,hG,ho1,ho2,hb⟩;have hone:=vals_one e37 al gr (is_one hI) (gs_one hG);have hone2:=vals_one En.zero al2 gr2 ho1 ho2;have HB:=Lib.hid hb;have HI:=Lib.hid hI;have HG:=Lib.hid hG;clear hI hG ho1 ho2 hb))
          generalize hW:World.setRow (World.setRow _ _ _) _ _=W5
          have B5:Below w4.heap.size w4 W5:=by rw[<-hW];exact below_setRow (below_setRow (by exact belA) (Nat.le_refl _) _) (by omega) _
          have X5:row W5 w4.heap.size=e37.vals al gr:=by rw[<-hW,row_set_ne _ _ _ _ (by omega),row_p _ _ _ (hz_a _ _ _)]
          clear hW
          obtain⟨L5,V5,D5,K5⟩:=hl W5 (bt HB.out B5)
          have l1:=cell_row L5 1 _ rfl
          have d18:=cell_row V5 18 _ v37_18
          have BC:=Lib.hid (bt ((Below.refl wr.heap.size wr):Below wr.heap.size wr wr) (show Below wr.heap.size wr W5 from (show Below wr.heap.size wr _ by exact belA).trans ((bt HB.out B5).mono (by simp;omega))))
          have IX:=Lib.hid (HI.out.below B5)
          have GX:=Lib.hid (HG.out.below B5)
          clear hl
          go_wp2_with (go_at_call 53;(refine (sm37 al gr _ IX.out GX.out).mono ?_);rintro _ w6 ⟨rfl,hb⟩;have NX:=Lib.hid (HC.out.below (bt BC.out hb));clear hb)
          go_roundw
          case rel=>exact .inr (.inl ⟨rfl,rfl,NX.out⟩)
          case measure=>simp [intOf]
        · have p0:=HL.out wr hC.bel 3 _ rfl
          have p1:=HL.out wr hC.bel 4 _ rfl
          have p2:=HL.out wr hC.bel 5 _ rfl
          have N1:=cell_row (row_new2' wr v37 28 (0,0) (.cells #[.int .i64 130,.string vol2,.string s] 95)) 1 _ v37_1
          have hl:=cm_l wr s vol2
          have HC:=Lib.hid hC
          clear hC
          go_upto_region 25 with (first
           | (at_lookup;refine wp_lk _ rfl _ _ 141 true rfl (.tuple #[.agg v37,.bool true]) _ _ rfl rfl (lk_hit _ 141 3 28 Tryz.underlying141 (w.heap.size+1) (mpE v37) 1 _ true (HC.out.below (by exact belA)).m2 (id_c _ _) 0 (.agg v37) (id_f1 _ _)) ?_)
           | (go_at_call 52;(refine (HP.out _ (bt HC.out.bel (by exact belA))).mono ?_);rintro _ w4 ⟨al,gr,al2,gr2,rfl,hI,hG,ho1,ho2,hb⟩;have hone:=vals_one e37 al gr (is_one hI) (gs_one hG);have hone2:=vals_one En.zero al2 gr2 ho1 ho2;have HB:=Lib.hid hb;have HI:=Lib.hid hI;have HG:=Lib.hid hG;clear hI hG ho1 ho2 hb))
          generalize hW:World.setRow (World.setRow _ _ _) _ _=W5
          have B5:Below w4.heap.size w4 W5:=by rw[<-hW];exact below_setRow (below_setRow (by exact belA) (Nat.le_refl _) _) (by omega) _
          have X5:row W5 w4.heap.size=e37.vals al gr:=by rw[<-hW,row_set_ne _ _ _ _ (by omega),row_p _ _ _ (hz_a _ _ _)]
          clear hW
          obtain⟨L5,V5,D5,K5⟩:=hl W5 (bt HB.out B5)
          have l1:=cell_row L5 1 _ rfl
          have d18:=cell_row V5 18 _ v37_18
          have BC:=Lib.hid (bt ((Below.refl wr.heap.size wr):Below wr.heap.size wr wr) (show Below wr.heap.size wr W5 from (show Below wr.heap.size wr _ by exact belA).trans ((bt HB.out B5).mono (by simp;omega))))
          have IX:=Lib.hid (HI.out.below B5)
          have GX:=Lib.hid (HG.out.below B5)
          clear hl
          have qv:(vol1.toList != vol2.toList)=true:=by kernel_rfl
          have qw:(vol1.toList==vol2.toList)=false:=by kernel_rfl
          have f0:=K5.2.2 0
          have c0:=cell_row D5 0 _ rfl
          have c1:=cell_row D5 1 _ rfl
          have c2:=cell_row D5 2 _ rfl
          have c3:=cell_row D5 3 _ rfl
          have zz:=HC.out.bel.size
          have z5:=BC.out.size
          go_wp2_with (at_builtin;refine wp_appX _ rfl (.tmp 130) (.tmp 132) 64 98 _ _ 4 48 rfl Tryz.underlying64 df_i df_i0 df_i1 df_i2 rfl (by decide) w.heap.size (.slice none 0 0) (.slice (some ⟨W5.heap.size,0,none⟩) 1 1) 0 1 [] [.int .i64 3,.int .i64 130,.string vol2,.string ⟨#[80,65,89,46,77,65,83,84,69,82]⟩] rfl (World.ownsRow_nil _ _ _ 4) rfl (cs_four (by simp)) (fun u hu=>by simp at hu;rcases hu with rfl | rfl | rfl | rfl <;> rfl) (by unfold maxLen;omega) (by omega) (by simp;omega) ?_;intro a5 c5 w6 hown hg hat;have NX:=Lib.hid (DFo.of hown ((HC.out.bel.trans (((BC.out.setCell (by simp;omega) _).alloc (by simp;omega) _).mono zz)).grown hg (by simp;omega) (fun q hq=>by cases hq)));clear hown hg hat)
          go_roundw
          case rel=>exact .inr (.inr ⟨rfl,NX.out⟩)
          case measure=>simp [intOf]
        · obtain⟨g,c,rfl,hcs,hb⟩:=hD
          have HX:=Lib.hid (And.intro hcs hb)
          clear hcs hb
          go_wp2_with (go_at_call 76;(refine (so_one _ _ _ _).mono ?_);rintro _ w6 ⟨rfl,rfl⟩)
          go_ret
          exact⟨g,c,rfl,HX.out.1,HX.out.2⟩
end
section
open Go.ChangeMaps (setBlock)
abbrev PK:=Int × ByteArray
def pk (k:PK):Value:=.agg #[.int .i64 k.1,.string k.2]
def pents:List (PK × Value)->Nat->List MapEntry
 | [],_=>[]
 | x::r,i=>⟨pk x.1,x.2,i⟩::pents r (i+1)
def pent (es:List (PK × Value)):Array MapEntry:=(pents es 0).toArray
def mget (k:PK):List (PK × Value)->Option Value
 | []=>none
 | x::r=>if k=x.1 then some x.2 else mget k r
def mset (k:PK) (v:Value):List (PK × Value)->List (PK × Value)
 | []=>[]
 | x::r=>if k=x.1 then (x.1,v)::r else x::mset k v r
def mput (k:PK) (v:Value) (es:List (PK × Value)):List (PK × Value):=if mget k es=none then es++[(k,v)] else mset k v es
theorem mget_snoc (k j:PK) (v:Value):∀ es,mget j (es++[(k,v)])=match mget j es with | some u=>some u | none=>if j=k then some v else none
 | []=>rfl
 | x::r=>by
   rw[List.cons_append,mget,mget,mget_snoc k j v r]
   by_cases h:j=x.1
   · rw[if_pos h,if_pos h]
   · rw[if_neg h,if_neg h]
theorem mget_set (k j:PK) (v:Value):∀ es,mget j (mset k v es)=if j=k then (if mget k es=none then none else some v) else mget j es
 | []=>by simp [mset,mget]
 | x::r=>by
   unfold mset
   by_cases h:k=x.1
   · rw[if_pos h,mget,mget,mget]
     subst h
     by_cases hj:j=x.1
     · rw[if_pos hj,if_pos hj,if_pos rfl];simp
     · rw[if_neg hj,if_neg hj,if_neg hj]
   · rw[if_neg h,mget,mget,mget,if_neg h,mget_set k j v r]
     by_cases hj:j=k
     · subst hj;rw[if_neg h,if_pos rfl,if_pos rfl]
     · rw[if_neg hj,if_neg hj]
theorem mget_put (k j:PK) (v:Value) (es:List (PK × Value)):mget j (mput k v es)=if j=k then some v else mget j es:=by
 unfold mput
 by_cases h:mget k es=none
 · rw[if_pos h,mget_snoc]
   by_cases hj:j=k
   · subst hj;simp [h]
   · rw[if_neg hj,if_neg hj];cases mget j es <;> rfl
 · rw[if_neg h,mget_set,if_neg h]
theorem sb_pk (k:PK):Instr.sameBits (9999+1) (pk k) (pk k)=true:=by
 obtain⟨k1,k2⟩:=k
 unfold pk
 unfold Instr.sameBits
 simp [Instr.sameBits,MapKept.bytes_beq]
theorem kts (k:PK) (w:World):(Instr.keyThatStays (pk k) (pk k)).run Tryz.prog w=.ok (pk k) w:=by
 unfold Instr.keyThatStays
 rw[show Instr.sameBits 10000 (pk k) (pk k)=true from sb_pk k]
 rfl
variable {P:Program} {ops:Array Oper} {rest:List Oper} {o:Oper} {a:Act} {Q:Exit->Act->World->Prop}
end
section
def grpOf (c:Ch) (id:Int) (nm:ByteArray):Option Fu:=match putF c with
 | some y=>if y.1.kind=1∧c.2.1=id∧y.1.name=nm then some y else none
 | none=>none
def grpS (id:Int) (nm:ByteArray) (o:Option Fu) (c:Ch):Option Fu:=match grpOf c id nm with
 | some y=>some y
 | none=>o
def ntG (done:List Ch) (id:Int) (nm:ByteArray):Option Fu:=done.foldl (grpS id nm) none
theorem ntG_snoc (done:List Ch) (c:Ch) (id:Int) (nm:ByteArray):ntG (done++[c]) id nm=grpS id nm (ntG done id nm) c:=by
 unfold ntG;rw[List.foldl_append];rfl
theorem putF_ok (c:Ch) (y:Fu) (h:putF c=some y):okX y=true:=by
 unfold putF at h
 split at h
 · cases hd:decX (Ds.bl c.2.2.2.1) with
   | none=>rw[hd] at h;cases h
   | some z =>
     rw[hd] at h
     dsimp only at h
     split at h
     · cases h;exact (decX_sound _ _ hd).1
     · cases h
 · cases h
end
section
def ch5 (c:Ch):Array Value:=#[.int .i64 c.1,.int .i64 c.2.1,.string c.2.2.1,.string c.2.2.2.1,.string c.2.2.2.2]
def cv:List Ch->List Value
 | []=>[]
 | c::l=>(ch5 c).toList++cv l
def ChS (w:World) (v:Value) (l:List Ch):Prop :=
 ∃ a c,v=.slice a l.length c∧l.length<=1000000∧(0<l.length->∃ b o,a=some ⟨b,o,none⟩∧b<w.heap.size∧∀ k (h:k<l.length) i u,(ch5 l[k])[i]?=some u->w.cell? ⟨b,o+k*5+i,none⟩=some u)
theorem ChS.below {w w':World} {v:Value} {l:List Ch} (h:ChS w v l) (hb:Below w.heap.size w w'):ChS w' v l:=by
 obtain⟨a,c,h1,h2,h3⟩:=h
 refine⟨a,c,h1,h2,fun h0=>?_⟩
 obtain⟨b,o,ha,hlt,hc⟩:=h3 h0
 exact⟨b,o,ha,Nat.lt_of_lt_of_le hlt hb.size,fun k hk i u hu=>(hb.cell (p:=⟨b,o+k*5+i,none⟩) hlt).trans (hc k hk i u hu)⟩
end
section
open Go.ChangeMaps (setBlock)
set_option linter.unusedSimpArgs false
def GV (o:Option Value) (g:Option Fu):Prop:=match o,g with
 | none,none=>True
 | some v,some y=>okX y=true∧y.1.kind=1∧∃ a1 c1 a2 c2,v=.agg (y.1.vals (.slice a1 0 c1) (.slice a2 0 c2))
 | _,_=>False
def GM (es:List (PK × Value)) (done:List Ch):Prop:=∀ id nm,GV (mget (id,nm) es) (ntG done id nm)
theorem GM.start:GM [] []:=fun _ _=>trivial
theorem GM.same {es:List (PK × Value)} {done:List Ch} (h:GM es done) (c:Ch) (hc:∀ id nm,grpOf c id nm=none):GM es (done++[c]):=fun id nm=>by
 rw[ntG_snoc];unfold grpS;rw[hc];exact h id nm
theorem GM.put {es:List (PK × Value)} {done:List Ch} (h:GM es done) (c:Ch) (y:Fu) (hp:putF c=some y) (hk:y.1.kind=1) (a1:Option Addr) (c1:Nat) (a2:Option Addr) (c2:Nat):GM (mput (c.2.1,y.1.name) (.agg (y.1.vals (.slice a1 0 c1) (.slice a2 0 c2))) es) (done++[c]):=fun id nm=>by
 rw[ntG_snoc,mget_put]
 unfold grpS grpOf
 rw[hp]
 dsimp only
 by_cases e:(id,nm)=(c.2.1,y.1.name)
 · rw[if_pos e]
   injection e with e1 e2
   rw[if_pos ⟨hk,e1.symm,e2.symm⟩]
   exact⟨putF_ok c y hp,hk,a1,c1,a2,c2,rfl⟩
 · rw[if_neg e,if_neg (fun q=>e (by rw[q.2.1,q.2.2]))]
   exact h id nm
structure NSt (w0 w wr:World) (p:Nat) (sv:Value) (l:List Rw) (fl cd c:Int) (es:List (PK × Value)) (ov:Value) (out:List Ch):Prop where
 own:wr.ownsRow (w.heap.size+1) 53 5 ov out.length (cv out)
 sh:SHs w0 wr p sv l fl cd c
 g:w.grownBy wr (some p)
 m:wr.heap[w.heap.size]?=some (.map (pent es) es.length)
theorem NSt.below {w0 w wr w':World} {p:Nat} {sv:Value} {l:List Rw} {fl cd c:Int} {es:List (PK × Value)} {ov:Value} {out:List Ch} (h:NSt w0 w wr p sv l fl cd c es ov out) (hb:Below wr.heap.size wr w'):NSt w0 w w' p sv l fl cd c es ov out :=
 ⟨own_keep h.own (fun x hx=>hb.block x (own_base h.own x hx).2),h.sh.below hb,grown_bel h.g (hb.mono h.g.size),(hb.block _ (Array.getElem?_eq_some_iff.1 h.m).1).trans h.m⟩
theorem NSt.upd {w0 w wr:World} {p:Nat} {sv:Value} {l:List Rw} {fl cd c ca:Int} {es es':List (PK × Value)} {ov:Value} {out:List Ch} (h:NSt w0 w wr p sv l fl cd c es ov out) (hS:SHs w0 w p sv l fl cd ca):NSt w0 w (setBlock wr w.heap.size (.map (pent es') es'.length)) p sv l fl cd c es' ov out:=by
 have hlt:=(Array.getElem?_eq_some_iff.1 h.m).1
 have hb:Below w.heap.size wr (setBlock wr w.heap.size (.map (pent es') es'.length)):=setBlock_below (Below.refl _ _) (Nat.le_refl _) _
 exact⟨own_keep h.own (fun x hx=>setBlock_other _ _ _ _ (by have:=(own_base h.own x hx).1;omega)),h.sh.belowB hb hS.pl (fun hl b hb=>rws_own_lt hS.r hl b hb),grown_bel h.g hb,setBlock_heap _ _ _ hlt⟩
theorem NSt.app {w0 w wr w':World} {p:Nat} {sv:Value} {l:List Rw} {fl cd c ca:Int} {es:List (PK × Value)} {ov ov':Value} {out out':List Ch} (h:NSt w0 w wr p sv l fl cd c es ov out) (hS:SHs w0 w p sv l fl cd ca) (ho:w'.ownsRow (w.heap.size+1) 53 5 ov' out'.length (cv out')) (hg:wr.grownBy w' ov.ownBlock):NSt w0 w w' p sv l fl cd c es ov' out':=by
 have hb:Below w.heap.size wr w':=grown_keep hg (fun q hq=>by have h2:=(own_base h.own q hq).1;omega) h.g.size
 exact⟨ho,h.sh.belowB hb hS.pl (fun hl b hb=>rws_own_lt hS.r hl b hb),grown_bel h.g hb,(hg.block _ (Array.getElem?_eq_some_iff.1 h.m).1 (fun e=>by have:=(own_base h.own _ e.symm).1;omega)).trans h.m⟩
attribute [local go_sem ↓] ldEnt stEnt stEntRow bldEnt
attribute [local go_sem] Held_drew isHead_mk headOf_mk offOf_mk isPtr_mk cellsOfV_mk isAggV_mk row_new row_new2 row_new2' row_drew row_drewN vals_size allOne_nil allOne_cons one_int one_bool one_string one_pointer one_slice one_func vals_0 vals_1
end
section
set_option linter.unusedSimpArgs false
structure RNs (w wr:World) (ov:Value) (out:List Ch):Prop where
 own:wr.ownsRow w.heap.size 53 5 ov out.length (cv out)
 b:Below w.heap.size w wr
theorem RNs.below {w wr w':World} {ov:Value} {out:List Ch} (h:RNs w wr ov out) (hb:Below wr.heap.size wr w'):RNs w w' ov out :=
 ⟨own_keep h.own (fun x hx=>hb.block x (own_base h.own x hx).2),bt h.b hb⟩
theorem RNs.belowB {B:Nat} {w wr w':World} {ov:Value} {out:List Ch} (h:RNs w wr ov out) (hb:Below B wr w') (hB:w.heap.size<=B) (ho:∀ q,ov.ownBlock=some q->q<B):RNs w w' ov out :=
 ⟨own_keep h.own (fun x hx=>hb.block x (ho x hx)),h.b.trans (hb.mono hB)⟩
theorem RNs.app {w wr w':World} {ov ov':Value} {out out':List Ch} (h:RNs w wr ov out) (ho:w'.ownsRow w.heap.size 53 5 ov' out'.length (cv out')) (hg:wr.grownBy w' ov.ownBlock):RNs w w' ov' out' :=
 ⟨ho,h.b.trans (grown_keep hg (fun q hq=>(own_base h.own q hq).1) h.b.size)⟩
attribute [local go_sem ↓] ldEnt stEnt stEntRow bldEnt
attribute [local go_sem] Held_drew isHead_mk headOf_mk offOf_mk isPtr_mk cellsOfV_mk isAggV_mk row_new row_new2 row_new2' row_drew row_drewN vals_size allOne_nil allOne_cons one_int one_bool one_string one_pointer one_slice one_func vals_0 vals_1
end
section
end
end Go.Proofs.YtnojclchnhmggaaGreatDoor
