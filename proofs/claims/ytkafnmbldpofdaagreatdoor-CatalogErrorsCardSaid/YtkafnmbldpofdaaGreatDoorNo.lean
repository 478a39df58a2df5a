/- Contract of the reference of chapter 35: Changes at two equal lists. -/
import Derived.Test.YtkafnmbldpofdaaGreatDoorNx
namespace Go.Proofs.YtkafnmbldpofdaaGreatDoor
open Go.RowKit
set_option maxRecDepth 8000
set_option maxHeartbeats 16000000
section
open Go.Maps Go.WideMaps
open Go.ChangeMaps (setBlock)
variable {P:Program} {ops:Array Oper} {rest:List Oper} {o:Oper} {a:Act} {Q:Exit->Act->World->Prop}
def vol1:ByteArray:=⟨#[86,49]⟩
def vol2:ByteArray:=⟨#[86,50]⟩
end
section
set_option linter.unusedSimpArgs false
def e37:En:={ En.zero with kind:=0,name:=⟨#[80,65,89,46,77,65,83,84,69,82]⟩,d0:=130,vol:=vol1 }
def v37:Array Value:=e37.vals (.slice none 0 0) (.slice none 0 0)
theorem zqS:v37.extract 2 23=e37.dat:=zbD e37 _ _
theorem zre:zaV e37.dat.toList=true:=zct e37
theorem znR:v37.size=33:=zab e37 _ _
theorem zpv:zaV (En.zero.vals (.slice none 0 0) (.slice none 0 0)).toList=true:=zav _ _ _ rfl rfl
theorem zqk:zaV v37.toList=true:=zav e37 _ _ rfl rfl
structure CMW (w wr:World) (es ei:Array MapEntry) (k j:Nat):Prop where
 bel:Below w.heap.size w wr
 m1:wr.heap[w.heap.size]?=some (.map es k)
 m2:wr.heap[w.heap.size+1]?=some (.map ei j)
theorem CMW.lt{w wr:World}{es ei:Array MapEntry}{k j:Nat}(h:CMW w wr es ei k j):w.heap.size+1<wr.heap.size:=by
 rcases Nat.lt_or_ge (w.heap.size+1) wr.heap.size with q|q
 · exact q
 · have:=h.m2;rw[Array.getElem?_eq_none q] at this;cases this
theorem CMW.below{w wr W:World}{es ei:Array MapEntry}{k j:Nat}(h:CMW w wr es ei k j)(hb:Below wr.heap.size wr W):CMW w W es ei k j :=
 ⟨bt h.bel hb,(hb.block _ (by have:=h.lt;omega)).trans h.m1,(hb.block _ h.lt).trans h.m2⟩
theorem CMW.grown{w wr W:World}{es ei:Array MapEntry}{k j:Nat}{p:Option Nat}(h:CMW w wr es ei k j)(hg:wr.grownBy W p)(hp:∀ q,p=some q->w.heap.size+1<q):CMW w W es ei k j :=
 ⟨h.bel.trans ⟨hg.os,hg.tape,hg.output,hg.size,fun i hi=>hg.block i (by have:=h.lt;omega) (fun e=>by have:=hp i e.symm;omega)⟩,(hg.block _ (by have:=h.lt;omega) (fun e=>by have:=hp _ e.symm;omega)).trans h.m1,(hg.block _ h.lt (fun e=>by have:=hp _ e.symm;omega)).trans h.m2⟩
theorem CMW.start(w:World):CMW w ((w.alloc (.map #[] 0)).alloc (.map #[] 0)) #[] #[] 0 0:=by
 refine⟨by exact za4,?_,?_⟩
 · exact (((Below.refl _ _).alloc (Nat.le_refl _) (.map #[] 0):Below (w.alloc (.map #[] 0)).heap.size (w.alloc (.map #[] 0)) _).block _ (by simp)).trans (heap_alloc_new w _)
 · have:=heap_alloc_new (w.alloc (.map #[] 0)) (.map #[] 0)
   simpa using this
theorem CMW.drew{w wr:World}{es ei:Array MapEntry}{k j:Nat}(h:CMW w wr es ei k j):CMW w wr.drew es ei k j:=h.below (Below.drew (Below.refl _ _))
attribute [local go_sem ↓] zaX zaD zdf zdW zjz
attribute [local go_sem ↓ high] za0
attribute [local go_sem] zca zhp zrm run_makeMap zaA zas zan zaM zaO zbF zah zat zai zau zaf zak zaq zab zbD zaQ zap zaj zaE zaC zao zam zax zaL znR zqk zqS zre zpv
def DFo(w wr:World)(o:Value):Prop:=∃ g c,o=.slice (some ⟨g,0,none⟩) 1 c∧(∀ j v,(#[.int .i64 3,.int .i64 130,.string vol2,.string ⟨#[80,65,89,46,77,65,83,84,69,82]⟩]:Array Value)[j]?=some v->wr.cell? ⟨g,j,none⟩=some v)∧Below w.heap.size w wr
theorem DFo.of{w w6:World}{a:Option Addr}{c:Nat}(hown:w6.ownsRow w.heap.size 138 4 (.slice a 1 c) 1 [.int .i64 3,.int .i64 130,.string vol2,.string ⟨#[80,65,89,46,77,65,83,84,69,82]⟩])(hb:Below w.heap.size w w6):DFo w w6 (.slice a 1 c):=by
 obtain⟨a',c',e,-,p⟩:=zbq hown
 rcases hown.2 with ⟨h1,-⟩|⟨g,cap,cur,h1,-⟩
 · cases h1
 · cases h1
   cases e
   obtain⟨ad,e2,q⟩:=p (by decide)
   cases e2
   refine⟨g,_,rfl,fun j v hv=>?_,hb⟩
   have:=q j v (by simpa using hv)
   rwa [Addr.add_lit,Nat.zero_add] at this
attribute [local go_sem] zeu zh1 zhP zcQ
end
section
open Go.ChangeMaps (setBlock)
abbrev PK:=Int × ByteArray
def pk(k:PK):Value:=.agg #[.int .i64 k.1,.string k.2]
def pents:List (PK × Value)->Nat->List MapEntry
 | [],_=>[]
 | x::r,i=>⟨pk x.1,x.2,i⟩::pents r (i+1)
def pent(es:List (PK × Value)):Array MapEntry:=(pents es 0).toArray
def mget(k:PK):List (PK × Value)->Option Value
 | []=>none
 | x::r=>if k=x.1 then some x.2 else mget k r
def mset(k:PK)(v:Value):List (PK × Value)->List (PK × Value)
 | []=>[]
 | x::r=>if k=x.1 then (x.1,v)::r else x::mset k v r
def mput(k:PK)(v:Value)(es:List (PK × Value)):List (PK × Value):=if mget k es=none then es++[(k,v)] else mset k v es
theorem zgZ(k j:PK)(v:Value):∀ es,mget j (es++[(k,v)])=match mget j es with|some u=>some u|none=>if j=k then some v else none
 | []=>rfl
 | x::r=>by
   rw[List.cons_append,mget,mget,zgZ k j v r]
   by_cases h:j=x.1
   · rw[if_pos h,if_pos h]
   · rw[if_neg h,if_neg h]
theorem ziI(k j:PK)(v:Value):∀ es,mget j (mset k v es)=if j=k then (if mget k es=none then none else some v) else mget j es
 | []=>by simp [mset,mget]
 | x::r=>by
   unfold mset
   by_cases h:k=x.1
   · rw[if_pos h,mget,mget,mget]
     subst h
     by_cases hj:j=x.1
     · rw[if_pos hj,if_pos hj,if_pos rfl];simp
     · rw[if_neg hj,if_neg hj,if_neg hj]
   · rw[if_neg h,mget,mget,mget,if_neg h,ziI k j v r]
     by_cases hj:j=k
     · subst hj;rw[if_neg h,if_pos rfl,if_pos rfl]
     · rw[if_neg hj,if_neg hj]
theorem znj(k j:PK)(v:Value)(es:List (PK × Value)):mget j (mput k v es)=if j=k then some v else mget j es:=by
 unfold mput
 by_cases h:mget k es=none
 · rw[if_pos h,zgZ]
   by_cases hj:j=k
   · subst hj;simp [h]
   · rw[if_neg hj,if_neg hj];cases mget j es <;> rfl
 · rw[if_neg h,ziI,if_neg h]
variable {P:Program} {ops:Array Oper} {rest:List Oper} {o:Oper} {a:Act} {Q:Exit->Act->World->Prop}
end
section
def zq8(c:Ch)(id:Int)(nm:ByteArray):Option Fu:=match ztb c with
 | some y=>if y.1.kind=1∧c.2.1=id∧y.1.name=nm then some y else none
 | none=>none
def zth(id:Int)(nm:ByteArray)(o:Option Fu)(c:Ch):Option Fu:=match zq8 c id nm with
 | some y=>some y
 | none=>o
def ntG(done:List Ch)(id:Int)(nm:ByteArray):Option Fu:=done.foldl (zth id nm) none
theorem ziv(done:List Ch)(c:Ch)(id:Int)(nm:ByteArray):ntG (done++[c]) id nm=zth id nm (ntG done id nm) c:=by
 unfold ntG;rw[List.foldl_append];rfl
theorem zqs(c:Ch)(y:Fu)(h:ztb c=some y):okX y=true:=by
 unfold ztb at h
 split at h
 · cases hd:zc6 (Ds.bl c.2.2.2.1) with
   | none=>rw[hd] at h;cases h
   | some z =>
     rw[hd] at h
     dsimp only at h
     split at h
     · cases h;exact (zdi _ _ hd).1
     · cases h
 · cases h
end
section
def ch5(c:Ch):Array Value:=#[.int .i64 c.1,.int .i64 c.2.1,.string c.2.2.1,.string c.2.2.2.1,.string c.2.2.2.2]
def cv:List Ch->List Value
 | []=>[]
 | c::l=>(ch5 c).toList++cv l
theorem znZ:∀ l,(cv l).length=l.length*5
 | []=>rfl
 | c::l=>by rw[cv,List.length_append,znZ l,List.length_cons];show 5+_=_;omega
theorem zeD:∀ (l:List Ch),∀ u∈cv l,u.oneCell'=true
 | [],u,h=>by cases h
 | c::r,u,h=>by
   rw[cv,List.mem_append] at h
   rcases h with h|h
   · simp only[ch5,List.mem_cons,List.not_mem_nil,or_false] at h
     rcases h with rfl|rfl|rfl|rfl|rfl <;> rfl
   · exact zeD r u h
theorem zfQ:∀ (l m:List Ch),cv (l++m)=cv l++cv m
 | [],m=>rfl
 | x::r,m=>by rw[List.cons_append,cv,cv,zfQ r m,List.append_assoc]
theorem zkb:∀ (l:List Ch) (k:Nat) (h:k<l.length),∀ i v,(ch5 l[k])[i]?=some v->(cv l)[k*5+i]?=some v
 | x::r,0,_,i,v,hv=>by
   have hi:i<5:=(Array.getElem?_eq_some_iff.1 hv).1
   rw[cv,Nat.zero_mul,Nat.zero_add,List.getElem?_append_left (by show i<5;exact hi)]
   simpa using hv
 | x::r,k+1,h,i,v,hv=>by
   have:=zkb r k (by simpa using h) i v hv
   rw[cv,List.getElem?_append_right (by show 5<=_;omega),<-this]
   congr 1
   show _ - 5=_
   omega
def ChS(w:World)(v:Value)(l:List Ch):Prop :=
 ∃ a c,v=.slice a l.length c∧l.length<=1000000∧(0<l.length->∃ b o,a=some ⟨b,o,none⟩∧b<w.heap.size∧∀ k (h:k<l.length) i u,(ch5 l[k])[i]?=some u->w.cell? ⟨b,o+k*5+i,none⟩=some u)
theorem ChS.below{w w':World}{v:Value}{l:List Ch}(h:ChS w v l)(hb:Below w.heap.size w w'):ChS w' v l:=by
 obtain⟨a,c,h1,h2,h3⟩:=h
 refine⟨a,c,h1,h2,fun h0=>?_⟩
 obtain⟨b,o,ha,hlt,hc⟩:=h3 h0
 exact⟨b,o,ha,Nat.lt_of_lt_of_le hlt hb.size,fun k hk i u hu=>(hb.cell (p:=⟨b,o+k*5+i,none⟩) hlt).trans (hc k hk i u hu)⟩
theorem zcy{w:World}{v:Value}{l:List Ch}(hz:l.length<=1000000)(h:CS w 5 v l.length (cv l)):ChS w v l:=by
 obtain⟨a,c,rfl,hl,hc⟩:=h
 refine⟨a,c,rfl,hz,fun h0=>?_⟩
 obtain⟨⟨b,o,s⟩,rfl,p⟩:=hc h0
 have p0:=p 0 _ (zkb l 0 h0 0 _ rfl)
 obtain rfl:s=none:=by
  have:=World.cell?_spot p0
  simpa [Addr.add] using this
 refine⟨b,o,rfl,block_lt_of_cell (by simpa [Addr.add] using p0:w.cell? ⟨b,o,none⟩=_),fun k hk i u hu=>?_⟩
 have r:=p _ _ (zkb l k hk i u hu)
 rw[Addr.add_lit] at r
 rw[Nat.add_assoc]
 exact r
theorem zqx:Tryz.prog.info? 74=some ((Tryz.prog.info? 74).getD default):=by kernel_rfl
theorem zh7:((Tryz.prog.info? 74).getD default).zero=some (.agg #[.int .i64 0,.int .i64 0,.string ⟨#[]⟩,.string ⟨#[]⟩,.string ⟨#[]⟩]):=by kernel_rfl
theorem zh5:((Tryz.prog.info? 74).getD default).size=5:=by kernel_rfl
theorem zhX:((Tryz.prog.info? 74).getD default).bytes=64:=by kernel_rfl
theorem zft(W:World)(x:Ch)(t:TypeId)(k:Nat)(hk:k=W.heap.size):CS (W.alloc (.cells (ch5 x) t)) 5 (.slice (some ⟨k,0,none⟩) 1 1) 1 (cv [x]):=by
 subst hk
 refine⟨_,_,rfl,rfl,fun _=>⟨_,rfl,fun j u hu=>?_⟩⟩
 rw[Addr.add_lit,Nat.zero_add,cell_of_row _ W.heap.size j _ t (0,0) (heap_alloc_new W _)]
 have:cv [x]=(ch5 x).toList:=List.append_nil _
 rw[this] at hu
 simpa using hu
end
section
open Go.ChangeMaps (setBlock)
set_option linter.unusedSimpArgs false
def GV(o:Option Value)(g:Option Fu):Prop:=match o,g with
 | none,none=>True
 | some v,some y=>okX y=true∧y.1.kind=1∧∃ a1 c1 a2 c2,v=.agg (y.1.vals (.slice a1 0 c1) (.slice a2 0 c2))
 | _,_=>False
def GM(es:List (PK × Value))(done:List Ch):Prop:=∀ id nm,GV (mget (id,nm) es) (ntG done id nm)
theorem GM.start:GM [] []:=fun _ _=>trivial
theorem GM.same{es:List (PK × Value)}{done:List Ch}(h:GM es done)(c:Ch)(hc:∀ id nm,zq8 c id nm=none):GM es (done++[c]):=fun id nm=>by
 rw[ziv];unfold zth;rw[hc];exact h id nm
theorem GM.put{es:List (PK × Value)}{done:List Ch}(h:GM es done)(c:Ch)(y:Fu)(hp:ztb c=some y)(hk:y.1.kind=1)(a1:Option Addr)(c1:Nat)(a2:Option Addr)(c2:Nat):GM (mput (c.2.1,y.1.name) (.agg (y.1.vals (.slice a1 0 c1) (.slice a2 0 c2))) es) (done++[c]):=fun id nm=>by
 rw[ziv,znj]
 unfold zth zq8
 rw[hp]
 dsimp only
 by_cases e:(id,nm)=(c.2.1,y.1.name)
 · rw[if_pos e]
   injection e with e1 e2
   rw[if_pos ⟨hk,e1.symm,e2.symm⟩]
   exact⟨zqs c y hp,hk,a1,c1,a2,c2,rfl⟩
 · rw[if_neg e,if_neg (fun q=>e (by rw[q.2.1,q.2.2]))]
   exact h id nm
structure NSt (w0 w wr:World) (p:Nat) (sv:Value) (l:List Rw) (fl cd c:Int) (es:List (PK × Value)) (ov:Value) (out:List Ch):Prop where
 own:wr.ownsRow (w.heap.size+1) 74 5 ov out.length (cv out)
 sh:SHs w0 wr p sv l fl cd c
 g:w.grownBy wr (some p)
 m:wr.heap[w.heap.size]?=some (.map (pent es) es.length)
theorem NSt.below{w0 w wr w':World}{p:Nat}{sv:Value}{l:List Rw}{fl cd c:Int}{es:List (PK × Value)}{ov:Value}{out:List Ch}(h:NSt w0 w wr p sv l fl cd c es ov out)(hb:Below wr.heap.size wr w'):NSt w0 w w' p sv l fl cd c es ov out :=
 ⟨zaF h.own (fun x hx=>hb.block x (zar h.own x hx).2),h.sh.below hb,zaG h.g (hb.mono h.g.size),(hb.block _ (Array.getElem?_eq_some_iff.1 h.m).1).trans h.m⟩
theorem NSt.tick{w0 w wr w':World}{p:Nat}{sv:Value}{l:List Rw}{fl cd c c':Int}{es:List (PK × Value)}{ov:Value}{out:List Ch}(h:NSt w0 w wr p sv l fl cd c es ov out)(hp:p<w.heap.size)(hg:wr.grownBy w' (some p))(hs:SHs w0 w' p sv l fl cd c'):NSt w0 w w' p sv l fl cd c' es ov out :=
 ⟨zaF h.own (fun x hx=>hg.block x (zar h.own x hx).2 (fun e=>by have:=Option.some.inj e;have:=(zar h.own x hx).1;omega)),hs,zaI h.g hg,(hg.block _ (Array.getElem?_eq_some_iff.1 h.m).1 (fun e=>by have:=Option.some.inj e;omega)).trans h.m⟩
theorem NSt.upd{w0 w wr:World}{p:Nat}{sv:Value}{l:List Rw}{fl cd c ca:Int}{es es':List (PK × Value)}{ov:Value}{out:List Ch}(h:NSt w0 w wr p sv l fl cd c es ov out)(hS:SHs w0 w p sv l fl cd ca):NSt w0 w (setBlock wr w.heap.size (.map (pent es') es'.length)) p sv l fl cd c es' ov out:=by
 have hlt:=(Array.getElem?_eq_some_iff.1 h.m).1
 have hb:Below w.heap.size wr (setBlock wr w.heap.size (.map (pent es') es'.length)):=zdw (Below.refl _ _) (Nat.le_refl _) _
 exact⟨zaF h.own (fun x hx=>zbQ _ _ _ _ (by have:=(zar h.own x hx).1;omega)),h.sh.belowB hb hS.pl (fun hl b hb=>zez hS.r hl b hb),zaG h.g hb,zcW _ _ _ hlt⟩
attribute [local go_sem ↓] zaX za0 zaD zbg
attribute [local go_sem] zaA zas zan zaM zaO zah zat zai zau zaf zak zaq zab zap zaj zaE zaC zao zam zax zaL zay zaz
end
section
set_option linter.unusedSimpArgs false
structure RNs (w wr:World) (ov:Value) (out:List Ch):Prop where
 own:wr.ownsRow w.heap.size 74 5 ov out.length (cv out)
 b:Below w.heap.size w wr
theorem RNs.below{w wr w':World}{ov:Value}{out:List Ch}(h:RNs w wr ov out)(hb:Below wr.heap.size wr w'):RNs w w' ov out :=
 ⟨zaF h.own (fun x hx=>hb.block x (zar h.own x hx).2),bt h.b hb⟩
theorem RNs.belowB{B:Nat}{w wr w':World}{ov:Value}{out:List Ch}(h:RNs w wr ov out)(hb:Below B wr w')(hB:w.heap.size<=B)(ho:∀ q,ov.ownBlock=some q->q<B):RNs w w' ov out :=
 ⟨zaF h.own (fun x hx=>hb.block x (ho x hx)),h.b.trans (hb.mono hB)⟩
attribute [local go_sem ↓] zaX za0 zaD zbg
attribute [local go_sem] zaA zas zan zaM zaO zah zat zai zau zaf zak zaq zab zap zaj zaE zaC zao zam zax zaL zay zaz
end
section
theorem ztZ(c:Ch)(w:World):(binOp .neq 74 (.agg (ch5 c)) (.agg (ch5 c))).run Tryz.prog w=.ok (.bool false) w:=by
 rw[run_neq_struct,run_equalIn_struct w 9999 74 _ _ (by simp [Program.fieldsOf,Tryz.underlying74]) (by kernel_rfl)]
 unfold ch5
 simp [Program.fieldsOf,Tryz.underlying74,Op.eqFields,go_sem]
theorem zt2(ev:Operand->Value)(w:World)(dst x y t pos af gd)(c:Ch)(hx:ev x=.agg (ch5 c))(hy:ev y=.agg (ch5 c)) :
  (execOp ev ⟨dst,.binOp .neq 74 x y 74,t,pos,af,gd⟩).run Tryz.prog w=.ok (.value (.bool false)) w:=by
 unfold execOp
 simp only[hx,hy,Sem.run_bind,ztZ,Sem.run_pure]
 simp [eqGuard,go_sem]
theorem zt0(ev:Operand->Value)(w:World)(dst x t pos af gd)(b o:Nat)(c:Ch)(hx:ev x=.pointer (some ⟨b,o,none⟩))(hc:∀ i u,(ch5 c)[i]?=some u->w.cell? ⟨b,o+i,none⟩=some u) :
  (execOp ev ⟨dst,.load 74 x,t,pos,af,gd⟩).run Tryz.prog w=.ok (.value (.agg (ch5 c))) w:=by
 unfold execOp
 have hr:=run_loadAt_mid (P:=Tryz.prog) w b o 74 (ch5 c).toList _ (fun j v hv=>by rw[Array.getElem?_toList] at hv;exact hc j v hv) Tryz.underlying74 rfl (by kernel_rfl)
 simp only[hx,Sem.run_bind,hr,Result.andThen_ok,Sem.run_pure,Array.toArray_toList]
def zt1(w:World)(b o:Nat)(c:Ch):Prop:=∀ i u,(ch5 c)[i]?=some u->w.cell? ⟨b,o+i,none⟩=some u
theorem rchanges(v1 v2:Value)(l:List Ch)(w:World)(h1:ChS w v1 l)(h2:ChS w v2 l) :
  Calls Tryz.prog 28 #[v1,v2] w fun r w'=>r=.returned (.bool true)∧Below w.heap.size w w':=by
 obtain⟨a1,c1,rfl,hz,hc1⟩:=h1
 obtain⟨a2,c2,rfl,-,hc2⟩:=h2
 have H1:=lh hc1
 have H2:=lh hc2
 clear hc1 hc2
 go_enter Tryz.func28,Tryz.ntmps28
 go_wp2_with fail
 go_loopw [5] (fun i wr=>∃ k:Nat,k<=l.length∧i=.int .i64 k∧∃ q,wr=w.drewN q) (fun i _=>l.length - (intOf i).toNat)
 case atStart=>exact⟨0,Nat.zero_le _,rfl,0,rfl⟩
 case round =>
  obtain⟨k,hk,rfl,q,rfl⟩:=hrel
  by_cases hlt:k<l.length
  · obtain⟨b,o,rfl,hb,hcell⟩:=H1.out (by omega)
    obtain⟨b',o',rfl,hb',hcell'⟩:=H2.out (by omega)
    have q1:=hcell k hlt
    have q2:=hcell' k hlt
    generalize l[k]=ck at q1 q2
    have Q1:zt1 (w.drewN q) b (o+k*5) ck:=q1
    have Q2:zt1 (w.drewN q) b' (o'+k*5) ck:=q2
    have j1:(0:Int)<=(k:Int):=by omega
    have j2:(k:Int)<(l.length:Int):=by omega
    clear q1 q2 hcell hcell'
    go_upto_region 6 with fail
    refine wp_region_held_drew (S:=fun w'=>zt1 w' b (o+k*5) ck∧zt1 w' b' (o'+k*5) ck) (by kernel_rfl) ?_ (fun hHeld=>?_)
    · exact⟨Q1,Q2⟩
    (refine rgy (i:=0) (some 17) ?_;(try simp only[Act.put,pz]))
    (refine rgy (i:=1) (some 18) ?_;(try simp only[Act.put,pz]))
    (refine rgy (i:=2) (some 19) ?_;(try simp only[Act.put,pz]))
    refine znX (i:=3) (some 20) (v:=.agg (ch5 ck)) rfl rfl (by kernel_rfl) (by kernel_rfl) (by kernel_rfl) (fun _ _ _ h=>h) (by kernel_rfl) (fun w' hS=>?_) (by assumption) ?_
    · exact zt0 _ w' _ _ _ _ _ _ b (o+k*5) ck rfl hS.1
    try simp only[Act.put,List.setIfInBounds_toArray,List.set_cons_zero,List.set_cons_succ]
    (refine rgy (i:=4) (some 21) ?_;(try simp only[Act.put,pz]))
    (refine rgy (i:=5) (some 22) ?_;(try simp only[Act.put,pz]))
    (refine rgy (i:=6) (some 23) ?_;(try simp only[Act.put,pz]))
    refine znX (i:=7) (some 24) (v:=.agg (ch5 ck)) rfl rfl (by kernel_rfl) (by kernel_rfl) (by kernel_rfl) (fun _ _ _ h=>h) (by kernel_rfl) (fun w' hS=>?_) (by assumption) ?_
    · exact zt0 _ w' _ _ _ _ _ _ b' (o'+k*5) ck rfl hS.2
    try simp only[Act.put,List.setIfInBounds_toArray,List.set_cons_zero,List.set_cons_succ]
    refine znX (i:=8) (some 25) (v:=.bool false) rfl rfl (by kernel_rfl) (by kernel_rfl) (by kernel_rfl) (fun _ _ _ h=>h) (by kernel_rfl) (fun w' hS=>?_) (by assumption) ?_
    · exact zt2 _ w' _ _ _ _ _ _ _ ck rfl rfl
    try simp only[Act.put,List.setIfInBounds_toArray,List.set_cons_zero,List.set_cons_succ]
    refine wpAnyH_done (by kernel_rfl) ?_ _
    go_wp2_with fail
    go_roundw
    case rel=>exact⟨k+1,by omega,by go_num,q+1,rfl⟩
    case measure=>simp [intOf];omega
  · obtain rfl:k=l.length:=by omega
    go_wp2_with fail
    go_ret
    exact⟨rfl,below_drewN (Below.refl _ _) _⟩
end
end Go.Proofs.YtkafnmbldpofdaaGreatDoor
