/- Catalogs. -/
import Derived.Test.YtefcmdmfgdcpmaaGreatDoorNo
set_option maxRecDepth 8000
set_option maxHeartbeats 8000000
section
namespace Go.Proofs.YtefcmdmfgdcpmaaGreatDoor
section
variable {α κ:Type} [DecidableEq κ]
def tput(k:α->κ)(bet:α->α->Bool):List α->α->List α
 | [],x=>[x]
 | y::r,x=>if k y=k x then (if bet x y then x::r else y::r) else y::tput k bet r x
end
/-! insertion, from the end -/
section
variable {α:Type} (lt:α->α->Bool)
end
/-! orders given by a comparison -/
structure IsCmp {α:Type} (c:α->α->Int):Prop where
 neg:∀ a b,c b a=- c a b
 trans:∀ a b d,c a b<=0->c b d<=0->c a d<=0
namespace IsCmp
variable {α β:Type} {c c':α->α->Int}
theorem comap(h:IsCmp c)(f:β->α):IsCmp (fun a b=>c (f a) (f b)):=⟨fun _ _=>h.neg _ _,fun _ _ _=>h.trans _ _ _⟩
theorem lt_le(h:IsCmp c){a b d:α}(h1:c a b<0)(h2:c b d<=0):c a d<0:=by
 have h3:=h.trans a b d (by omega) h2;rcases Int.lt_or_le (c a d) 0 with q|q
 · exact q
 · have e1:=h.neg a d;have e2:=h.neg a b;have:=h.trans b d a h2 (by omega);omega
theorem ntr(h:IsCmp c)(x y z:α)(h1:decide (c x y<0)=false)(h2:decide (c y z<0)=false):decide (c x z<0)=false:=by
 rw[decide_eq_false_iff_not] at h1 h2 ⊢;have e1:=h.neg x y;have e2:=h.neg y z;have e3:=h.neg x z;have:=h.trans z y x (by omega) (by omega);omega
theorem zero(h:IsCmp c){x y:α}(h1:decide (c x y<0)=false)(h2:decide (c y x<0)=false):c x y=0:=by
 rw[decide_eq_false_iff_not] at h1 h2;have e1:=h.neg x y;omega
theorem swo(h:IsCmp c):Go.Sort.SWO (fun x y=>decide (c x y<0)):=by
 refine⟨fun x=>?_,fun x y z h1 h2=>?_,fun x y z h1 h2=>h.ntr x y z h1 h2⟩
 · rw[decide_eq_false_iff_not];have e1:=h.neg x x;omega
 · rw[decide_eq_true_eq] at h1 h2 ⊢;exact h.lt_le h1 (by omega)
end IsCmp
theorem zj6{α:Type}[Inhabited α]{d d':Array α}(h:Go.Sort.PermIn 0 d.size d d'):d'.toList.Perm d.toList:=by
 obtain⟨h1,-,h3⟩:=h;have e:d'.extract 0 d.size=d':=by rw[<-h1];exact Array.extract_size ..
 rw[e] at h3;simpa using h3
theorem zkY{α:Type}[Inhabited α]{lt:α->α->Bool}{n:Nat}{d:Array α}(hn:d.size=n)(h:Go.Sort.SortedIn lt 0 n d):d.toList.Pairwise (fun a b=>lt b a=false):=by
 rw[List.pairwise_iff_getElem];intro i j hi hj hij;have:=h i j (Nat.zero_le _) hij (by simpa [hn] using hj);rw[Array.length_toList] at hi hj;rw[getElem!_pos d i hi,getElem!_pos d j hj] at this;simpa using this
end Go.Proofs.YtefcmdmfgdcpmaaGreatDoor
end
namespace Go.Proofs.YtefcmdmfgdcpmaaGreatDoor
abbrev Tl:=Fu × Int
theorem znU:IsCmp Lib.compareBytes:=⟨Ds.cmp_neg,Ds.cmp_trans⟩
section
open Go.RowKit
open Go.ChangeMaps (setBlock)
section
variable {K:Type} [DecidableEq K]
def gents(pk:K->Value):List (K × Value)->Nat->List MapEntry
 | [],_=>[]
 | x::r,i=>⟨pk x.1,x.2,i⟩::gents pk r (i+1)
def gent(pk:K->Value)(es:List (K × Value)):Array MapEntry:=(gents pk es 0).toArray
def gget(k:K):List (K × Value)->Option Value
 | []=>none
 | x::r=>if k=x.1 then some x.2 else gget k r
def midx(k:K):List (K × Value)->Nat->Option (Nat × Value)
 | [],_=>none
 | x::r,i=>if k=x.1 then some (i,x.2) else midx k r (i+1)
def gput(k:K)(v:Value)(es:List (K × Value)):List (K × Value):=tput Prod.fst (fun _ _=>true) es (k,v)
variable (pk:K->Value)
theorem zdZ{K:Type}(pk:K->Value):∀ (es:List (K × Value)) (i:Nat),(gents pk es i).length=es.length
 | [],_=>rfl
 | _::r,i=>by rw[gents,List.length_cons,zdZ pk r (i+1),List.length_cons]
theorem zf8{K:Type}(pk:K->Value)(x:K × Value):∀ (es:List (K × Value)) (i:Nat),gents pk (es++[x]) i=gents pk es i++[⟨pk x.1,x.2,i+es.length⟩]
 | [],i=>rfl
 | a::r,i=>by rw[List.cons_append,gents,gents,zf8 pk x r (i+1),List.length_cons,List.cons_append,Nat.add_assoc,Nat.add_comm 1]
variable {pk}
theorem zfv(k:K):∀ (es:List (K × Value)) (i:Nat),gget k es=none->midx k es i=none
 | [],_,_=>rfl
 | x::r,i,h=>by
   rw[gget] at h;split at h
   · cases h
   · rename_i e;rw[midx,if_neg e];exact zfv k r (i+1) h
theorem zfp(k:K)(v:Value):∀ (es:List (K × Value)),gget k es=none->gput k v es=es++[(k,v)]
 | [],_=>rfl
 | x::r,h=>by
   rw[gget] at h;split at h
   · cases h
   · rename_i e;have:=zfp k v r h;unfold gput at this ⊢;rw[tput,if_neg (fun q=>e q.symm),this];rfl
theorem zfw(k:K):∀ (es:List (K × Value)) (i j:Nat) (v:Value),gget k es=some v->∃ n,midx k es i=some (i+n,v)∧n<es.length∧(gents pk es j)[n]?=some ⟨pk k,v,j+n⟩∧∀ u,(gents pk es j).modify n (fun e=>⟨pk k,u,e.born⟩)=gents pk (gput k u es) j
 | [],_,_,_,h=>by cases h
 | x::r,i,j,v,h=>by
   rw[gget] at h;by_cases e:k=x.1
   · rw[if_pos e] at h;cases h
     refine⟨0,by rw[midx,if_pos e];rfl,by simp,by simp [gents,e],fun u=>?_⟩
     unfold gput;rw[tput,if_pos e.symm];simp [gents]
   · rw[if_neg e] at h;obtain⟨n,h1,h2,h3,h4⟩:=zfw k r (i+1) (j+1) v h;refine⟨n+1,by rw[midx,if_neg e,h1,Nat.add_assoc,Nat.add_comm 1],by simp;omega,by rw[gents,List.getElem?_cons_succ,h3,Nat.add_assoc,Nat.add_comm 1],fun u=>?_⟩
     have:=h4 u;unfold gput at this ⊢;rw[tput,if_neg (fun q=>e q.symm),gents,gents,<-this];simp
variable {P:Program} (pk)
structure MK (P:Program) (t kt et:TypeId) (z:Value):Prop where
 hu:P.underlying t=some (.map kt et)
 ck:∀ b k w,(Instr.checkKey b 10000 kt (pk k)).run P w=.ok () w
 fk:∀ k es w,(Instr.findKey kt (pk k) (gents pk es 0)).run P w=.ok (midx k es 0) w
 sb:∀ k,Instr.sameBits 10000 (pk k) (pk k)=true
 zv:∀ w,(zeroValue et).run P w=.ok z w
variable {pk} {t kt et:TypeId} {z:Value}
def zvC(z:Value)(c:Bool)(o:Option Value):Value:=match o with
 | some v=>if c then .tuple #[v,.bool true] else v
 | none=>if c then .tuple #[z,.bool false] else z
theorem MK.lk(M:MK pk P t kt et z)(w:World)(m n:Nat)(es:List (K × Value))(k:K)(c:Bool)(hb:w.heap[m]?=some (.map (gent pk es) n)) :
  (Instr.lookup t (.map (some m)) (pk k) c).run P w=.ok (zvC z c (gget k es)) w:=by
 have hck:=fun b=>M.ck b k w
 have hf:=M.fk k es w;have hz:=M.zv w
 cases hc:gget k es with
 | some v =>
   obtain⟨n,h1,-⟩:=zfw (pk:=pk) k es 0 0 v hc;rw[h1] at hf;simp [Instr.lookup,run_underlying M.hu,MapKept.run_getObj_map hb,hck,gent,hf,Result.andThen,zvC]
 | none =>
   rw[zfv k es 0 hc] at hf;simp [Instr.lookup,run_underlying M.hu,MapKept.run_getObj_map hb,hck,gent,hf,hz,Result.andThen,zvC]
theorem MK.kts(M:MK pk P t kt et z)(k:K)(w:World):(Instr.keyThatStays (pk k) (pk k)).run P w=.ok (pk k) w:=by
 unfold Instr.keyThatStays;rw[M.sb k];rfl
theorem MK.mu(M:MK pk P t kt et z)(w:World)(m:Nat)(es:List (K × Value))(k:K)(v:Value)(hb:w.heap[m]?=some (.map (gent pk es) es.length)) :
  (Instr.mapUpdate t (.map (some m)) (pk k) v).run P w=.ok () (setBlock w m (.map (gent pk (gput k v es)) (gput k v es).length)):=by
 have hck:=M.ck false k w;have hf:=M.fk k es w
 cases hc:gget k es with
 | none =>
   rw[zfv k es 0 hc] at hf;rw[zfp k v es hc];simp [Instr.mapUpdate,run_underlying M.hu,MapKept.run_getObj_map hb,hck,gent,hf,MapKept.run_setObj_map _ hb,Result.andThen,setBlock,zf8]
 | some u =>
   obtain⟨n,h1,hl,hat,hm⟩:=zfw (pk:=pk) k es 0 0 u hc;rw[h1] at hf
   have hlen:(gput k v es).length=es.length:=by
    have:=congrArg List.length (hm v);rw[List.length_modify,zdZ,zdZ] at this;exact this.symm
   rw[hlen];have hkk:=M.kts k;simp [Instr.mapUpdate,run_underlying M.hu,MapKept.run_getObj_map hb,hck,gent,hf,hat,hkk,MapKept.run_setObj_map _ hb,Result.andThen,setBlock,<-hm v]
theorem MK.wmu(M:MK pk P t kt et z){ops:Array Oper}{rest:List Oper}{o:Oper}{a:Act}{Q:Exit->Act->World->Prop}(w:World)(hg:o.guard=none)(m x v:Operand)(hop:o.op=Op.mapUpdate t m x v)(b:Nat)(es:List (K × Value))(k:K)(val:Value)(hm:a.eval m=.map (some b))(hx:a.eval x=pk k)(hv:a.eval v=val)(hb:w.heap[b]?=some (.map (gent pk es) es.length))(hK:∀ w',w'.heap[b]?=some (.map (gent pk (gput k val es)) (gput k val es).length)->w.grownBy w' (some b)->w'.heap.size=w.heap.size->wpList P ops Q rest (a.put o.dst undef) w'):wpList P ops Q (o::rest) a w:=by
 refine wpList_plain hg fun K' hK'=>?_
 have hr:=M.mu w b es k val hb;unfold Oper.wp;simp [execOp,hop,hm,hx,hv,hr,Result.andThen]
 refine hK' _ _ (hK _ (zcp w b _ (Array.getElem?_eq_some_iff.1 hb).1) ⟨rfl,rfl,rfl,by simp [setBlock],fun i _ hi=>zbx w b i _ (fun e=>hi (by rw[e]))⟩ (by simp [setBlock]))
/-! a range over such a map -/
def GRg(pk:K->Value)(es:List (K × Value))(w:World)(m r:Nat)(vis:List Nat):Prop :=
 w.heap[m]?=some (.map (gent pk es) es.length)∧(∃ c,w.heap[r]?=some (.mapIter (some m) es.length vis.toArray c)∧es.length<=c)∧vis.Nodup∧(∀ i∈vis,i<es.length)∧m≠r
theorem GRg.ml{K:Type}{pk:K->Value}{es:List (K × Value)}{w:World}{m r:Nat}{vis:List Nat}(h:GRg pk es w m r vis):m<w.heap.size:=(Array.getElem?_eq_some_iff.1 h.1).1
theorem GRg.rl{K:Type}{pk:K->Value}{es:List (K × Value)}{w:World}{m r:Nat}{vis:List Nat}(h:GRg pk es w m r vis):r<w.heap.size:=by
 obtain⟨c,h1,-⟩:=h.2.1;exact (Array.getElem?_eq_some_iff.1 h1).1
theorem GRg.keep{K:Type}{pk:K->Value}{es:List (K × Value)}{w w':World}{m r:Nat}{vis:List Nat}(h:GRg pk es w m r vis)(h1:w'.heap[m]?=w.heap[m]?)(h2:w'.heap[r]?=w.heap[r]?):GRg pk es w' m r vis:=by
 obtain⟨a,⟨c,b,d⟩,e,f,g⟩:=h;exact⟨h1.trans a,⟨c,h2.trans b,d⟩,e,f,g⟩
theorem GRg.below{K:Type}{pk:K->Value}{es:List (K × Value)}{w w':World}{m r:Nat}{vis:List Nat}(h:GRg pk es w m r vis)(hb:Below w.heap.size w w'):GRg pk es w' m r vis:=h.keep (hb.block _ h.ml) (hb.block _ h.rl)
section
variable {ops:Array Oper} {rest:List Oper} {o:Oper} {a:Act} {Q:Exit->Act->World->Prop}
end
end
/-! the kinds of keys: texts, numbers -/
theorem ztT{K:Type}[DecidableEq K]{pk:K->Value}{P:Program}{kt:TypeId}{kd:TypeDesc}(hk:P.underlying kt=some kd)(hs:∀ a b,Instr.sameNow kd (pk a) (pk b)=some (decide (a=b)))(k:K)(es:List (K × Value))(w:World):(Instr.findKey kt (pk k) (gents pk es 0)).run P w=.ok (midx k es 0) w:=by
 have hf:∀ (es:List (K × Value)) (i j:Nat),Instr.findNow kd (pk k) (gents pk es j) i=some (midx k es i):=by
  intro es
  induction es with
  | nil=>intro i j;rfl
  | cons x r ih =>
    intro i j;rw[gents,Instr.findNow,hs k x.1,midx];by_cases e:k=x.1
    · rw[decide_eq_true e,if_pos e]
    · rw[decide_eq_false e,if_neg e];exact ih (i+1) (j+1)
 have:=hf es 0 0;simp [Instr.findKey,run_underlying hk,this]
end
section
open Go.RowKit
abbrev TE:=Tl × (Option Addr × Nat) × (Option Addr × Nat)
instance:Inhabited TE:=⟨(((En.zero,[],[]),0),(none,0),(none,0))⟩
def TE.al(t:TE):Value:=.slice t.2.1.1 t.1.1.2.1.length t.2.1.2
def TE.gr(t:TE):Value:=.slice t.2.2.1 t.1.1.2.2.length t.2.2.2
def TE.en(t:TE):Array Value:=t.1.1.1.vals t.al t.gr
def TE.cs(t:TE):Array Value:=t.1.1.1.vals t.al t.gr++#[.int .i64 t.1.2]
theorem TE.en_size(t:TE):t.en.size=33:=zaa _ _ _
def RdT(w:World)(t:TE):Prop:=IS w t.al t.1.1.2.1∧GS w t.gr t.1.1.2.2
def FarT(ob:Option Nat)(t:TE):Prop:=(t.1.1.2.1≠[]->∀ y,t.al.ownBlock=some y->ob≠some y)∧(t.1.1.2.2≠[]->∀ y,t.gr.ownBlock=some y->ob≠some y)
theorem zjQ{w w':World}{v:Value}{l:List Int}(h:IS w v l)(hs:w.heap.size<=w'.heap.size)(hk:l≠[]->∀ y,v.ownBlock=some y->y<w.heap.size->w'.heap[y]?=w.heap[y]?):IS w' v l:=by
 obtain⟨a,c,rfl,h2,h3⟩:=h;refine⟨a,c,rfl,h2,fun h0=>?_⟩
 obtain⟨bb,o,rfl,hlt,hc⟩:=h3 h0;exact⟨bb,o,rfl,Nat.lt_of_lt_of_le hlt hs,fun k hk'=>(World.cell?_of_block (a:=⟨bb,o+k,none⟩) (hk (List.length_pos_iff.1 h0) bb rfl hlt)).trans (hc k hk')⟩
theorem zjL{w w':World}{v:Value}{l:List Gr}(h:GS w v l)(hs:w.heap.size<=w'.heap.size)(hk:l≠[]->∀ y,v.ownBlock=some y->y<w.heap.size->w'.heap[y]?=w.heap[y]?):GS w' v l:=by
 obtain⟨a,c,rfl,h2,h3⟩:=h;refine⟨a,c,rfl,h2,fun h0=>?_⟩
 obtain⟨bb,o,rfl,hlt,hc⟩:=h3 h0;have q:=fun i=>World.cell?_of_block (w:=w) (w':=w') (a:=⟨bb,i,none⟩) (hk (List.length_pos_iff.1 h0) bb rfl hlt)
 exact⟨bb,o,rfl,Nat.lt_of_lt_of_le hlt hs,fun k hk'=>⟨(q _).trans (hc k hk').1,(q _).trans (hc k hk').2.1,(q _).trans (hc k hk').2.2⟩⟩
theorem zt9{w:World}{v:Value}{l:List Int}(h:IS w v l)(h0:l≠[]){y:Nat}(hy:v.ownBlock=some y):y<w.heap.size:=by
 obtain⟨a,c,rfl,h2,h3⟩:=h;obtain⟨bb,o,rfl,hlt,hc⟩:=h3 (List.length_pos_iff.2 h0);cases hy;exact hlt
theorem zt0{w:World}{v:Value}{l:List Gr}(h:GS w v l)(h0:l≠[]){y:Nat}(hy:v.ownBlock=some y):y<w.heap.size:=by
 obtain⟨a,c,rfl,h2,h3⟩:=h;obtain⟨bb,o,rfl,hlt,hc⟩:=h3 (List.length_pos_iff.2 h0);cases hy;exact hlt
theorem RdT.keep{w w':World}{t:TE}{ob:Option Nat}(h:RdT w t)(hf:FarT ob t)(hs:w.heap.size<=w'.heap.size)(hk:∀ y,y<w.heap.size->ob≠some y->w'.heap[y]?=w.heap[y]?):RdT w' t :=
 ⟨zjQ h.1 hs (fun h0 y hy hl=>hk y hl (hf.1 h0 y hy)),zjL h.2 hs (fun h0 y hy hl=>hk y hl (hf.2 h0 y hy))⟩
theorem RdT.below{w w':World}{t:TE}(h:RdT w t)(hb:Below w.heap.size w w'):RdT w' t:=⟨h.1.below hb,h.2.below hb⟩
theorem RdT.far{w:World}{t:TE}(h:RdT w t){b:Nat}(hb:w.heap.size<=b):FarT (some b) t :=
 ⟨fun h0 y hy e=>by have:=zt9 h.1 h0 hy;have:=Option.some.inj e;omega,fun h0 y hy e=>by have:=zt0 h.2 h0 hy;have:=Option.some.inj e;omega⟩
theorem FarT.none(t:TE):FarT none t:=⟨fun _ _ _ e=>(by cases e),fun _ _ _ e=>(by cases e)⟩
theorem TE.one(t:TE):zaM t.en.toList=true:=zau _ _ _ rfl rfl
theorem zkq(a b:List Value)(h1:zaM a=true)(h2:zaM b=true):zaM (a++b)=true:=by
 induction a with
 | nil=>exact h2
 | cons x r ih=>rw[List.cons_append,zaf,Bool.and_eq_true];rw[zaf,Bool.and_eq_true] at h1;exact⟨h1.1,ih h1.2⟩
theorem TE.cs_one(t:TE):zaM t.cs.toList=true:=by
 unfold TE.cs;rw[Array.toList_append];exact zkq _ _ t.one rfl
def tcs{α:Type}(f:α->Array Value)(ts:List α):List Value:=ts.flatMap (fun t=>(f t).toList)
section
variable {α:Type} (f:α->Array Value)
theorem zsZ(a b:List α):tcs f (a++b)=tcs f a++tcs f b:=by unfold tcs;rw[List.flatMap_append]
theorem zs0(t:α):tcs f [t]=(f t).toList:=by simp [tcs]
theorem zkm(t:α)(r:List α):tcs f (t::r)=(f t).toList++tcs f r:=by unfold tcs;rw[List.flatMap_cons]
theorem zqE(n:Nat)(hf:∀ t,(f t).size=n):∀ (ts:List α) (k:Nat) (h:k<ts.length) (j:Nat),j<n->(tcs f ts)[k*n+j]?=(f ts[k])[j]?
 | [],k,h,_,_=>by simp at h
 | t::r,0,h,j,hj=>by
   rw[zkm,List.getElem?_append_left (by rw[Array.length_toList,hf];omega)];simp
 | t::r,k+1,h,j,hj=>by
   have:=zqE n hf r k (by simpa using h) j hj;rw[zkm,List.getElem?_append_right (by rw[Array.length_toList,hf,Nat.succ_mul];omega),Array.length_toList,hf,Nat.succ_mul,show k*n+n+j - n=k*n+j by omega,this];rfl
end
section
variable {w:World} {base m g c k n:Nat} {T:TypeId} {xs:List Value}
end
theorem zqf{α:Type}{f:α->Array Value}{n:Nat}(hf:∀ t,(f t).size=n){w:World}{base:Nat}{T:TypeId}{v:Value}{ts:List α}(h:w.ownsRow base T n v ts.length (tcs f ts)):∃ a c,v=.slice a ts.length c∧(0<ts.length->∃ g,a=some ⟨g,0,none⟩∧base<=g∧g<w.heap.size∧∀ k (hk:k<ts.length) j u,(f ts[k])[j]?=some u->w.cell? ⟨g,k*n+j,none⟩=some u):=by
 have hb:=zam h;obtain⟨a,c,rfl,hl,hc⟩:=zbq h;refine⟨a,c,rfl,fun h0=>?_⟩
 obtain⟨ad,rfl,hcell⟩:=hc h0
 obtain⟨g,hg⟩:∃ g,ad=⟨g,0,none⟩:=by
  rcases h.2 with ⟨h1,-⟩|⟨g,cap,cur,h1,-⟩
  · cases h1
  · cases h1;exact⟨g,rfl⟩
 subst hg;refine⟨g,rfl,(hb g rfl).1,(hb g rfl).2,fun k hk j u hu=>?_⟩
 have hj:j<n:=by have:=(Array.getElem?_eq_some_iff.1 hu).1;rwa [hf] at this
 have:=hcell (k*n+j) u (by rw[zqE f n hf ts k hk j hj];exact hu);rwa [Addr.add_lit,Nat.zero_add] at this
structure TJE (f:TE->Array Value) (n:Nat) (T:TypeId) (base:Nat) (w:World) (v:Value) (ts:List TE):Prop where
 own:w.ownsRow base T n v ts.length (tcs f ts)
 rd:∀ t∈ts,RdT w t∧FarT v.ownBlock t
variable {f:TE->Array Value} {n:Nat} {T:TypeId} {base:Nat}
theorem TJE.start(w:World):TJE f n T base w (.slice none 0 0) []:=⟨World.ownsRow_nil w _ _ n,fun _ h=>by cases h⟩
theorem TJE.keep{w w':World}{v:Value}{ts:List TE}(h:TJE f n T base w v ts)(hs:w.heap.size<=w'.heap.size)(hk:∀ y,y<w.heap.size->(base<=y∨∃ t∈ts,(t.1.1.2.1≠[]∧t.al.ownBlock=some y)∨(t.1.1.2.2≠[]∧t.gr.ownBlock=some y))->w'.heap[y]?=w.heap[y]?):TJE f n T base w' v ts :=
 ⟨zaD h.own (fun x hx=>hk x (zam h.own x hx).2 (.inl (zam h.own x hx).1)),fun t ht=>⟨⟨zjQ (h.rd t ht).1.1 hs (fun h0 y hy hl=>hk y hl (.inr ⟨t,ht,.inl ⟨h0,hy⟩⟩)),zjL (h.rd t ht).1.2 hs (fun h0 y hy hl=>hk y hl (.inr ⟨t,ht,.inr ⟨h0,hy⟩⟩))⟩,(h.rd t ht).2⟩⟩
theorem TJE.below{w w':World}{v:Value}{ts:List TE}(h:TJE f n T base w v ts)(hb:Below w.heap.size w w'):TJE f n T base w' v ts:=h.keep hb.size (fun y hy _=>hb.block y hy)
theorem TJE.snoc{w w':World}{v v':Value}{ts:List TE}{t:TE}(h:TJE f n T base w v ts)(hown:w'.ownsRow base T n v' (ts.length+1) (tcs f ts++(f t).toList))(hg:w.grownBy w' v.ownBlock)(hat:v'.ownBlock=v.ownBlock∨v'.ownBlock=some w.heap.size)(ht:RdT w t)(hf:FarT v.ownBlock t):TJE f n T base w' v' (ts++[t]):=by
 refine⟨?_,fun u hu=>?_⟩
 · rw[List.length_append,zsZ,zs0];exact hown
 · have hq:RdT w u∧FarT v.ownBlock u:=by
    rcases List.mem_append.1 hu with hu|hu
    · exact h.rd u hu
    · rw[List.mem_singleton] at hu;rw[hu];exact⟨ht,hf⟩
   refine⟨hq.1.keep hq.2 hg.size (fun y hy hne=>hg.block y hy (fun e=>hne e.symm)),?_⟩
   rcases hat with e|e
   · rw[e];exact hq.2
   · rw[e];exact hq.1.far (Nat.le_refl _)
def EL(w:World)(v:Value)(l:List Fu):Prop:=∃ a c,v=.slice a l.length c∧l.length<=1000000∧∀ k (h:k<l.length),∃ b o al gr,a=some ⟨b,o,none⟩∧b<w.heap.size∧mid w b (o+k*33)=l[k].1.vals al gr∧IS w al l[k].2.1∧GS w gr l[k].2.2
theorem EL.below{w w':World}{v:Value}{l:List Fu}(h:EL w v l)(hb:Below w.heap.size w w'):EL w' v l:=by
 obtain⟨a,c,h1,h2,h3⟩:=h;refine⟨a,c,h1,h2,fun k hk=>?_⟩
 obtain⟨b,o,al,gr,q1,q2,q3,q4,q5⟩:=h3 k hk;exact⟨b,o,al,gr,q1,Nat.lt_of_lt_of_le q2 hb.size,zhS hb q3 (by rw[zaa];decide),q4.below hb,q5.below hb⟩
theorem TJE.el{w:World}{v:Value}{ts:List TE}(h:TJE TE.en 33 T base w v ts)(hk:ts.length<=1000000):EL w v (ts.map (fun t=>t.1.1)):=by
 obtain⟨a,c,rfl,hc⟩:=zqf TE.en_size h.own;refine⟨a,c,by rw[List.length_map],by rw[List.length_map];exact hk,fun k hk=>?_⟩
 have hk':k<ts.length:=by simpa using hk
 obtain⟨g,rfl,-,hlt,hcell⟩:=hc (by omega);refine⟨g,0,ts[k].al,ts[k].gr,rfl,hlt,?_,?_,?_⟩
 · rw[List.getElem_map,Nat.zero_add];exact zjY (zaa _ _ _) (fun i u hu=>hcell k hk' i u hu)
 · rw[List.getElem_map];exact (h.rd _ (List.getElem_mem hk')).1.1
 · rw[List.getElem_map];exact (h.rd _ (List.getElem_mem hk')).1.2
end
end Go.Proofs.YtefcmdmfgdcpmaaGreatDoor
