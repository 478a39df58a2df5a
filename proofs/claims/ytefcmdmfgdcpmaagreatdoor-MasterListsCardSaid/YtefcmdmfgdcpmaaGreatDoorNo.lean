/- Catalogs. -/
import Derived.Test.YtefcmdmfgdcpmaaGreatDoorNx
set_option maxRecDepth 8000
set_option maxHeartbeats 16000000
namespace Go.Proofs.YtefcmdmfgdcpmaaGreatDoor
open Go.RowKit
section
open Go.Maps Go.WideMaps
open Go.ChangeMaps (setBlock)
variable {P:Program} {ops:Array Oper} {rest:List Oper} {o:Oper} {a:Act} {Q:Exit->Act->World->Prop}
def vol1:ByteArray:=⟨#[86,49]⟩
end
section
set_option linter.unusedSimpArgs false
def e37:En:={ En.zero with kind:=0,name:=⟨#[80,65,89,46,77,65,83,84,69,82]⟩,d0:=130,vol:=vol1 }
def v37:Array Value:=e37.vals (.slice none 0 0) (.slice none 0 0)
theorem zs8:v37.extract 2 23=e37.dat:=zbU e37 _ _
theorem zrm:zaM e37.dat.toList=true:=ziE e37
theorem zpp:v37.size=33:=zaa e37 _ _
theorem ztn:zaM (En.zero.vals (.slice none 0 0) (.slice none 0 0)).toList=true:=zau _ _ _ rfl rfl
theorem zs9:zaM v37.toList=true:=zau e37 _ _ rfl rfl
structure CMW (w wr:World) (es ei:Array MapEntry) (k j:Nat):Prop where
 bel:Below w.heap.size w wr
 m1:wr.heap[w.heap.size]?=some (.map es k)
 m2:wr.heap[w.heap.size+1]?=some (.map ei j)
theorem CMW.lt{w wr:World}{es ei:Array MapEntry}{k j:Nat}(h:CMW w wr es ei k j):w.heap.size+1<wr.heap.size:=by
 rcases Nat.lt_or_ge (w.heap.size+1) wr.heap.size with q|q
 · exact q
 · have:=h.m2;rw[Array.getElem?_eq_none q] at this;cases this
theorem CMW.below{w wr W:World}{es ei:Array MapEntry}{k j:Nat}(h:CMW w wr es ei k j)(hb:Below wr.heap.size wr W):CMW w W es ei k j :=
 ⟨bt h.bel hb,(hb.block _ (by have:=h.lt;omega)).trans h.m1,(hb.block _ h.lt).trans h.m2⟩
theorem CMW.grown{w wr W:World}{es ei:Array MapEntry}{k j:Nat}{p:Option Nat}(h:CMW w wr es ei k j)(hg:wr.grownBy W p)(hp:∀ q,p=some q->w.heap.size+1<q):CMW w W es ei k j :=
 ⟨h.bel.trans ⟨hg.os,hg.tape,hg.output,hg.size,fun i hi=>hg.block i (by have:=h.lt;omega) (fun e=>by have:=hp i e.symm;omega)⟩,(hg.block _ (by have:=h.lt;omega) (fun e=>by have:=hp _ e.symm;omega)).trans h.m1,(hg.block _ h.lt (fun e=>by have:=hp _ e.symm;omega)).trans h.m2⟩
theorem CMW.start(w:World):CMW w ((w.alloc (.map #[] 0)).alloc (.map #[] 0)) #[] #[] 0 0:=by
 refine⟨by exact zbo,?_,?_⟩
 · exact (((Below.refl _ _).alloc (Nat.le_refl _) (.map #[] 0):Below (w.alloc (.map #[] 0)).heap.size (w.alloc (.map #[] 0)) _).block _ (by simp)).trans (heap_alloc_new w _)
 · have:=heap_alloc_new (w.alloc (.map #[] 0)) (.map #[] 0);simpa using this
theorem CMW.drew{w wr:World}{es ei:Array MapEntry}{k j:Nat}(h:CMW w wr es ei k j):CMW w wr.drew es ei k j:=h.below (Below.drew (Below.refl _ _))
attribute [local go_sem ↓] zaV zaz zcu zew zkZ
attribute [local go_sem ↓ high] zaW
attribute [local go_sem] zci zhG zsO run_makeMap zav zap zal zaI zaJ zbG zae zaq zai zaw zao zas zan zaa zbU zb1 zaj zaf zaA zax zak zag zar zaG zpp zs9 zs8 zrm ztn
attribute [local go_sem] zmc hz_a hz_b zt4
end
section
open Go.ChangeMaps (setBlock)
abbrev PK:=Int × ByteArray
def pk(k:PK):Value:=.agg #[.int .i64 k.1,.string k.2]
def pents:List (PK × Value)->Nat->List MapEntry
 | [],_=>[]
 | x::r,i=>⟨pk x.1,x.2,i⟩::pents r (i+1)
def pent(es:List (PK × Value)):Array MapEntry:=(pents es 0).toArray
def mget(k:PK):List (PK × Value)->Option Value
 | []=>none
 | x::r=>if k=x.1 then some x.2 else mget k r
def mset(k:PK)(v:Value):List (PK × Value)->List (PK × Value)
 | []=>[]
 | x::r=>if k=x.1 then (x.1,v)::r else x::mset k v r
def mput(k:PK)(v:Value)(es:List (PK × Value)):List (PK × Value):=if mget k es=none then es++[(k,v)] else mset k v es
theorem zhR(k j:PK)(v:Value):∀ es,mget j (es++[(k,v)])=match mget j es with|some u=>some u|none=>if j=k then some v else none
 | []=>rfl
 | x::r=>by
   rw[List.cons_append,mget,mget,zhR k j v r];by_cases h:j=x.1
   · rw[if_pos h,if_pos h]
   · rw[if_neg h,if_neg h]
theorem zjX(k j:PK)(v:Value):∀ es,mget j (mset k v es)=if j=k then (if mget k es=none then none else some v) else mget j es
 | []=>by simp [mset,mget]
 | x::r=>by
   unfold mset;by_cases h:k=x.1
   · rw[if_pos h,mget,mget,mget];subst h;by_cases hj:j=x.1
     · rw[if_pos hj,if_pos hj,if_pos rfl];simp
     · rw[if_neg hj,if_neg hj,if_neg hj]
   · rw[if_neg h,mget,mget,mget,if_neg h,zjX k j v r];by_cases hj:j=k
     · subst hj;rw[if_neg h,if_pos rfl,if_pos rfl]
     · rw[if_neg hj,if_neg hj]
theorem zoK(k j:PK)(v:Value)(es:List (PK × Value)):mget j (mput k v es)=if j=k then some v else mget j es:=by
 unfold mput;by_cases h:mget k es=none
 · rw[if_pos h,zhR];by_cases hj:j=k
   · subst hj;simp [h]
   · rw[if_neg hj,if_neg hj];cases mget j es <;> rfl
 · rw[if_neg h,zjX,if_neg h]
theorem zvY(k:PK):Instr.sameBits (9999+1) (pk k) (pk k)=true:=by
 obtain⟨k1,k2⟩:=k;unfold pk;unfold Instr.sameBits;simp [Instr.sameBits,MapKept.bytes_beq]
theorem kts(k:PK)(w:World):(Instr.keyThatStays (pk k) (pk k)).run Tryz.prog w=.ok (pk k) w:=by
 unfold Instr.keyThatStays;rw[show Instr.sameBits 10000 (pk k) (pk k)=true from zvY k];rfl
variable {P:Program} {ops:Array Oper} {rest:List Oper} {o:Oper} {a:Act} {Q:Exit->Act->World->Prop}
end
def zrH(c:Ch)(id:Int)(nm:ByteArray):Option Fu:=match znH c with
 | some y=>if y.1.kind=1∧c.2.1=id∧y.1.name=nm then some y else none
 | none=>none
def zvi(id:Int)(nm:ByteArray)(o:Option Fu)(c:Ch):Option Fu:=match zrH c id nm with
 | some y=>some y
 | none=>o
def ntG(done:List Ch)(id:Int)(nm:ByteArray):Option Fu:=done.foldl (zvi id nm) none
theorem zj1(done:List Ch)(c:Ch)(id:Int)(nm:ByteArray):ntG (done++[c]) id nm=zvi id nm (ntG done id nm) c:=by
 unfold ntG;rw[List.foldl_append];rfl
theorem zsz(c:Ch)(y:Fu)(h:znH c=some y):okX y=true:=by
 unfold znH at h;split at h
 · cases hd:zc6 (Ds.bl c.2.2.2.1) with
   | none=>rw[hd] at h;cases h
   | some z =>
     rw[hd] at h;dsimp only at h;split at h
     · cases h;exact (zcI _ _ hd).1
     · cases h
 · cases h
def ntX(l:List Rw)(done:List Ch)(c:Ch)(y:Fu):ByteArray × Int:=match ntG done c.2.1 (zeV y.1.name) with
 | some g=>zsl y g
 | none=>zmR l c.2.1 y
def zc7(l:List Rw):List Ch->List Ch->List Ch->List Ch × Int
 | _,[],out=>(out,0)
 | done,c::cs,out=>match znH c with
   | none=>zc7 l (done++[c]) cs out
   | some y=>if y.1.kind≠0 then zc7 l (done++[c]) cs out else match ntX l done c y with
     | (s,code)=>if code≠0 then ([],code) else zc7 l (done++[c]) cs (out++[(7,y.1.d0,⟨#[]⟩,s,y.1.vol)])
theorem zsU(s:ByteArray):Ds.bl (zeV s)=Ds.splG (Ds.bl s):=Ds.bl_mk _
theorem zl1(s:List UInt8)(h:Ds.gen s=true):Ds.group (Ds.splG s)=true:=by
 unfold Ds.splG;rw[if_pos h];unfold Ds.gen at h;rw[Bool.and_eq_true] at h;exact h.1
theorem ziW{l:List Rw}{done cs out:List Ch}{c:Ch}(h:znH c=none):zc7 l done (c::cs) out=zc7 l (done++[c]) cs out:=by
 rw[zc7,h]
theorem ziV{l:List Rw}{done cs out:List Ch}{c:Ch}{y:Fu}(h:znH c=some y)(hk:y.1.kind≠0):zc7 l done (c::cs) out=zc7 l (done++[c]) cs out:=by
 rw[zc7,h];exact if_pos hk
def ch5(c:Ch):Array Value:=#[.int .i64 c.1,.int .i64 c.2.1,.string c.2.2.1,.string c.2.2.2.1,.string c.2.2.2.2]
def cv:List Ch->List Value
 | []=>[]
 | c::l=>(ch5 c).toList++cv l
theorem zpJ:∀ l,(cv l).length=l.length*5
 | []=>rfl
 | c::l=>by rw[cv,List.length_append,zpJ l,List.length_cons];show 5+_=_;omega
theorem zeI:∀ (l:List Ch),∀ u∈cv l,u.oneCell'=true
 | [],u,h=>by cases h
 | c::r,u,h=>by
   rw[cv,List.mem_append] at h;rcases h with h|h
   · simp only[ch5,List.mem_cons,List.not_mem_nil,or_false] at h
     rcases h with rfl|rfl|rfl|rfl|rfl <;> rfl
   · exact zeI r u h
theorem zf5:∀ (l m:List Ch),cv (l++m)=cv l++cv m
 | [],m=>rfl
 | x::r,m=>by rw[List.cons_append,cv,cv,zf5 r m,List.append_assoc]
theorem zlv:∀ (l:List Ch) (k:Nat) (h:k<l.length),∀ i v,(ch5 l[k])[i]?=some v->(cv l)[k*5+i]?=some v
 | x::r,0,_,i,v,hv=>by
   have hi:i<5:=(Array.getElem?_eq_some_iff.1 hv).1;rw[cv,Nat.zero_mul,Nat.zero_add,List.getElem?_append_left (by show i<5;exact hi)];simpa using hv
 | x::r,k+1,h,i,v,hv=>by
   have:=zlv r k (by simpa using h) i v hv;rw[cv,List.getElem?_append_right (by show 5<=_;omega),<-this];congr 1
   show _ - 5=_
   omega
def ChS(w:World)(v:Value)(l:List Ch):Prop :=
 ∃ a c,v=.slice a l.length c∧l.length<=1000000∧(0<l.length->∃ b o,a=some ⟨b,o,none⟩∧b<w.heap.size∧∀ k (h:k<l.length) i u,(ch5 l[k])[i]?=some u->w.cell? ⟨b,o+k*5+i,none⟩=some u)
theorem ChS.below{w w':World}{v:Value}{l:List Ch}(h:ChS w v l)(hb:Below w.heap.size w w'):ChS w' v l:=by
 obtain⟨a,c,h1,h2,h3⟩:=h;refine⟨a,c,h1,h2,fun h0=>?_⟩
 obtain⟨b,o,ha,hlt,hc⟩:=h3 h0;exact⟨b,o,ha,Nat.lt_of_lt_of_le hlt hb.size,fun k hk i u hu=>(hb.cell (p:=⟨b,o+k*5+i,none⟩) hlt).trans (hc k hk i u hu)⟩
theorem zcB{w:World}{v:Value}{l:List Ch}(hz:l.length<=1000000)(h:CS w 5 v l.length (cv l)):ChS w v l:=by
 obtain⟨a,c,rfl,hl,hc⟩:=h;refine⟨a,c,rfl,hz,fun h0=>?_⟩
 obtain⟨⟨b,o,s⟩,rfl,p⟩:=hc h0;have p0:=p 0 _ (zlv l 0 h0 0 _ rfl)
 obtain rfl:s=none:=by
  have:=World.cell?_spot p0;simpa [Addr.add] using this
 refine⟨b,o,rfl,block_lt_of_cell (by simpa [Addr.add] using p0:w.cell? ⟨b,o,none⟩=_),fun k hk i u hu=>?_⟩
 have r:=p _ _ (zlv l k hk i u hu);rw[Addr.add_lit] at r;rw[Nat.add_assoc];exact r
theorem zrc:Tryz.prog.info? 123=some ((Tryz.prog.info? 123).getD default):=by kernel_rfl
theorem ziy:((Tryz.prog.info? 123).getD default).zero=some (.agg #[.int .i64 0,.int .i64 0,.string ⟨#[]⟩,.string ⟨#[]⟩,.string ⟨#[]⟩]):=by kernel_rfl
theorem ziz:((Tryz.prog.info? 123).getD default).size=5:=by kernel_rfl
theorem ziA:((Tryz.prog.info? 123).getD default).bytes=64:=by kernel_rfl
theorem zfh(W:World)(x:Ch)(t:TypeId)(k:Nat)(hk:k=W.heap.size):CS (W.alloc (.cells (ch5 x) t)) 5 (.slice (some ⟨k,0,none⟩) 1 1) 1 (cv [x]):=by
 subst hk;refine⟨_,_,rfl,rfl,fun _=>⟨_,rfl,fun j u hu=>?_⟩⟩
 rw[Addr.add_lit,Nat.zero_add,cell_of_row _ W.heap.size j _ t (0,0) (heap_alloc_new W _)];have:cv [x]=(ch5 x).toList:=List.append_nil _;rw[this] at hu;simpa using hu
section
open Go.ChangeMaps (setBlock)
set_option linter.unusedSimpArgs false
def GV(o:Option Value)(g:Option Fu):Prop:=match o,g with
 | none,none=>True
 | some v,some y=>okX y=true∧y.1.kind=1∧∃ a1 c1 a2 c2,v=.agg (y.1.vals (.slice a1 0 c1) (.slice a2 0 c2))
 | _,_=>False
def GM(es:List (PK × Value))(done:List Ch):Prop:=∀ id nm,GV (mget (id,nm) es) (ntG done id nm)
theorem GM.start:GM [] []:=fun _ _=>trivial
theorem GM.same{es:List (PK × Value)}{done:List Ch}(h:GM es done)(c:Ch)(hc:∀ id nm,zrH c id nm=none):GM es (done++[c]):=fun id nm=>by
 rw[zj1];unfold zvi;rw[hc];exact h id nm
theorem GM.put{es:List (PK × Value)}{done:List Ch}(h:GM es done)(c:Ch)(y:Fu)(hp:znH c=some y)(hk:y.1.kind=1)(a1:Option Addr)(c1:Nat)(a2:Option Addr)(c2:Nat):GM (mput (c.2.1,y.1.name) (.agg (y.1.vals (.slice a1 0 c1) (.slice a2 0 c2))) es) (done++[c]):=fun id nm=>by
 rw[zj1,zoK];unfold zvi zrH;rw[hp];dsimp only;by_cases e:(id,nm)=(c.2.1,y.1.name)
 · rw[if_pos e];injection e with e1 e2
   rw[if_pos ⟨hk,e1.symm,e2.symm⟩];exact⟨zsz c y hp,hk,a1,c1,a2,c2,rfl⟩
 · rw[if_neg e,if_neg (fun q=>e (by rw[q.2.1,q.2.2]))];exact h id nm
structure NSt (w0 w wr:World) (p:Nat) (sv:Value) (l:List Rw) (fl cd c:Int) (es:List (PK × Value)) (ov:Value) (out:List Ch):Prop where
 own:wr.ownsRow (w.heap.size+1) 123 5 ov out.length (cv out)
 sh:SHs w0 wr p sv l fl cd c
 g:w.grownBy wr (some p)
 m:wr.heap[w.heap.size]?=some (.map (pent es) es.length)
theorem NSt.below{w0 w wr w':World}{p:Nat}{sv:Value}{l:List Rw}{fl cd c:Int}{es:List (PK × Value)}{ov:Value}{out:List Ch}(h:NSt w0 w wr p sv l fl cd c es ov out)(hb:Below wr.heap.size wr w'):NSt w0 w w' p sv l fl cd c es ov out :=
 ⟨zaD h.own (fun x hx=>hb.block x (zam h.own x hx).2),h.sh.below hb,zay h.g (hb.mono h.g.size),(hb.block _ (Array.getElem?_eq_some_iff.1 h.m).1).trans h.m⟩
theorem NSt.tick{w0 w wr w':World}{p:Nat}{sv:Value}{l:List Rw}{fl cd c c':Int}{es:List (PK × Value)}{ov:Value}{out:List Ch}(h:NSt w0 w wr p sv l fl cd c es ov out)(hp:p<w.heap.size)(hg:wr.grownBy w' (some p))(hs:SHs w0 w' p sv l fl cd c'):NSt w0 w w' p sv l fl cd c' es ov out :=
 ⟨zaD h.own (fun x hx=>hg.block x (zam h.own x hx).2 (fun e=>by have:=Option.some.inj e;have:=(zam h.own x hx).1;omega)),hs,zat h.g hg,(hg.block _ (Array.getElem?_eq_some_iff.1 h.m).1 (fun e=>by have:=Option.some.inj e;omega)).trans h.m⟩
theorem NSt.upd{w0 w wr:World}{p:Nat}{sv:Value}{l:List Rw}{fl cd c ca:Int}{es es':List (PK × Value)}{ov:Value}{out:List Ch}(h:NSt w0 w wr p sv l fl cd c es ov out)(hS:SHs w0 w p sv l fl cd ca):NSt w0 w (setBlock wr w.heap.size (.map (pent es') es'.length)) p sv l fl cd c es' ov out:=by
 have hlt:=(Array.getElem?_eq_some_iff.1 h.m).1;have hb:Below w.heap.size wr (setBlock wr w.heap.size (.map (pent es') es'.length)):=zdC (Below.refl _ _) (Nat.le_refl _) _;exact⟨zaD h.own (fun x hx=>zbx _ _ _ _ (by have:=(zam h.own x hx).1;omega)),h.sh.belowB hb hS.pl (fun hl b hb=>zbZ hS.r hl b hb),zay h.g hb,zcp _ _ _ hlt⟩
theorem NSt.app{w0 w wr w':World}{p:Nat}{sv:Value}{l:List Rw}{fl cd c ca:Int}{es:List (PK × Value)}{ov ov':Value}{out out':List Ch}(h:NSt w0 w wr p sv l fl cd c es ov out)(hS:SHs w0 w p sv l fl cd ca)(ho:w'.ownsRow (w.heap.size+1) 123 5 ov' out'.length (cv out'))(hg:wr.grownBy w' ov.ownBlock):NSt w0 w w' p sv l fl cd c es ov' out':=by
 have hb:Below w.heap.size wr w':=za2 hg (fun q hq=>by have h2:=(zam h.own q hq).1;omega) h.g.size;exact⟨ho,h.sh.belowB hb hS.pl (fun hl b hb=>zbZ hS.r hl b hb),zay h.g hb,(hg.block _ (Array.getElem?_eq_some_iff.1 h.m).1 (fun e=>by have:=(zam h.own _ e.symm).1;omega)).trans h.m⟩
attribute [local go_sem ↓] zaV zaW zaz za1
attribute [local go_sem] zav zap zal zaI zaJ zae zaq zai zaw zao zas zan zaa zaj zaf zaA zax zak zag zar zaG zaC zaE
end
section
set_option linter.unusedSimpArgs false
structure RNs (w wr:World) (ov:Value) (out:List Ch):Prop where
 own:wr.ownsRow w.heap.size 123 5 ov out.length (cv out)
 b:Below w.heap.size w wr
theorem RNs.below{w wr w':World}{ov:Value}{out:List Ch}(h:RNs w wr ov out)(hb:Below wr.heap.size wr w'):RNs w w' ov out :=
 ⟨zaD h.own (fun x hx=>hb.block x (zam h.own x hx).2),bt h.b hb⟩
theorem RNs.belowB{B:Nat}{w wr w':World}{ov:Value}{out:List Ch}(h:RNs w wr ov out)(hb:Below B wr w')(hB:w.heap.size<=B)(ho:∀ q,ov.ownBlock=some q->q<B):RNs w w' ov out :=
 ⟨zaD h.own (fun x hx=>hb.block x (ho x hx)),h.b.trans (hb.mono hB)⟩
theorem RNs.app{w wr w':World}{ov ov':Value}{out out':List Ch}(h:RNs w wr ov out)(ho:w'.ownsRow w.heap.size 123 5 ov' out'.length (cv out'))(hg:wr.grownBy w' ov.ownBlock):RNs w w' ov' out' :=
 ⟨ho,h.b.trans (za2 hg (fun q hq=>(zam h.own q hq).1) h.b.size)⟩
attribute [local go_sem ↓] zaV zaW zaz za1
attribute [local go_sem] zav zap zal zaI zaJ zae zaq zai zaw zao zas zan zaa zaj zaf zaA zax zak zag zar zaG zaC zaE
end
end Go.Proofs.YtefcmdmfgdcpmaaGreatDoor
