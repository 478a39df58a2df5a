/- The range over a map of entries; the list that it fills. -/
import Derived.Test.YtnojclchnhmggaaGreatDoorBg
import Derived.Test.YtnojclchnhmggaaGreatDoorAw7
namespace Go.Proofs.YtnojclchnhmggaaGreatDoor
open Go.RowKit
set_option maxRecDepth 8000
set_option maxHeartbeats 16000000
section
def HiT (b:Nat) (t:TE):Prop:=(∀ y,t.al.ownBlock=some y->b<=y)∧(∀ y,t.gr.ownBlock=some y->b<=y)
theorem HiT.far {b m:Nat} {t:TE} (h:HiT b t) (hm:m<b):FarT (some m) t:=⟨fun _ y hy e=>by have:=h.1 y hy;have:=Option.some.inj e;omega,fun _ y hy e=>by have:=h.2 y hy;have:=Option.some.inj e;omega⟩
theorem HiT.mono {b c:Nat} {t:TE} (h:HiT b t) (hc:c<=b):HiT c t:=⟨fun y hy=>Nat.le_trans hc (h.1 y hy),fun y hy=>Nat.le_trans hc (h.2 y hy)⟩
def parC (s:List UInt8):Fu × Fu × Int:=match parseX s with
 | some p=>(p.1,p.2,0)
 | none=>(zFu,zFu,11)
def ParT (id:Int) (w w':World) (s:List UInt8) (r:Ending):Prop:=∃ (t u:TE) (code:Int),r=.returned (.tuple #[.agg t.en,.agg u.en,.int .i64 code])∧RdT w' t∧RdT w' u∧HiT w.heap.size t∧HiT w.heap.size u∧Below w.heap.size w w'∧t.1.2=id∧u.1.2=id∧parC s=(t.1.1,u.1.1,code)
theorem ParRo.te {w w':World} {s:List UInt8} {r:Ending} (h:ParRo w w' s r) (id:Int):ParT id w w' s r:=by
 obtain⟨x,g,al,gr,al2,gr2,code,rfl,i1,i2,i3,i4,hb,hc,o1,o2,o3,o4⟩:=h
 obtain⟨a1,c1,rfl,-⟩:=_root_.id i1
 obtain⟨a2,c2,rfl,-⟩:=_root_.id i2
 obtain⟨a3,c3,rfl,-⟩:=_root_.id i3
 obtain⟨a4,c4,rfl,-⟩:=_root_.id i4
 refine⟨((x,id),(a1,c1),(a2,c2)),((g,id),(a3,c3),(a4,c4)),code,rfl,⟨i1,i2⟩,⟨i3,i4⟩,⟨o1,o2⟩,⟨o3,o4⟩,hb,rfl,rfl,?_⟩
 unfold parC
 rcases hc with ⟨h1,rfl⟩ | ⟨h1,rfl,rfl,rfl⟩ <;> rw[h1]
theorem tell_p0 {x:Lb} (h:parseX (Ds.bl x.2.2)=none):tellX x=none:=by unfold tellX;rw[h]
theorem tell_pn {x:Lb} {p:Fu × Fu} (h:parseX (Ds.bl x.2.2)=some p) (hn:¬ (p.1.1.d0=x.1∧p.1.1.vol=x.2.1)):tellX x=none:=by unfold tellX;rw[h];exact if_neg hn
theorem tell_py {x:Lb} {p:Fu × Fu} (h:parseX (Ds.bl x.2.2)=some p) (hn:p.1.1.d0=x.1∧p.1.1.vol=x.2.1):tellX x=some p:=by unfold tellX;rw[h];exact if_pos hn
theorem te_id {u:TE} {i:Int} (h:u.1.2=i):(u.1.1,i)=u.1:=by rw[<-h]
theorem TE.cs_eq (t:TE):t.en++#[.int .i64 t.1.2]=t.cs:=rfl
theorem held_en (w:World) (t:TE) (g p:Nat) (h:Held w g 33):Held (w.setRow p t.en) g 33:=h.set _ (fun _=>t.en_size)
end
section
theorem GRg.seen {K:Type} [DecidableEq K] {pk:K->Value} {es:List (K × Value)} {w:World} {m r:Nat} {vis:List Nat} (h:GRg pk es w m r vis):w.iterSeen r=vis.toArray:=by
 obtain⟨c,h1,-⟩:=h.2.1
 unfold World.iterSeen
 rw[h1]
theorem GRg.grown {K:Type} [DecidableEq K] {pk:K->Value} {es:List (K × Value)} {w w':World} {m r:Nat} {vis:List Nat} {ob:Option Nat} (h:GRg pk es w m r vis) (hg:w.grownBy w' ob) (h1:ob≠some m) (h2:ob≠some r):GRg pk es w' m r vis :=
 h.keep (hg.block _ h.ml (fun e=>h1 e.symm)) (hg.block _ h.rl (fun e=>h2 e.symm))
def lftE (ts:List TE) (w:World) (r:Nat):Nat:=(leftOf (gent sK (entV ts)) (w.iterSeen r)).size
theorem lft_le (ts:List TE) (w:World) (r:Nat):lftE ts w r<=ts.length:=by
 unfold lftE leftOf
 refine Nat.le_trans Array.size_filter_le ?_
 simp [gent,gents_len,entV_len]
theorem entV_at (ts:List TE) (i:Nat) (hi:i<(entV ts).length):∃ t,ts[i]?=some t∧t∈ts∧(entV ts)[i]=(t.1.1.1.name,.agg t.cs)∧∀ vis,visL ts (vis++[i])=visL ts vis++[t]:=by
 have hi':i<ts.length:=by rw[entV_len] at hi;exact hi
 exact⟨ts[i],List.getElem?_eq_getElem hi',List.getElem_mem hi',by simp [entV],fun vis=>visL_snoc hi'⟩
theorem wnextE {P:Program} {ops:Array Oper} {rest:List Oper} {o:Oper} {a:Act} {Q:Exit->Act->World->Prop} (w:World) (hg:o.guard=none) (it:Operand) (hop:o.op=Op.next it false) (m r:Nat) (ts:List TE) (vis:List Nat) (hit:a.eval it=.pointer (some ⟨r,0,none⟩)) (h:GRg sK (entV ts) w m r vis)
  (hDone:Hid ((visL ts vis).Perm ts)->wpList P ops Q rest (a.put o.dst (.tuple #[.bool false])) w)
  (hMore:∀ (t:TE) (i:Nat) (w':World),Hid (t∈ts∧visL ts (vis++[i])=visL ts vis++[t]∧w.grownBy w' (some r)∧w'.heap.size=w.heap.size∧GRg sK (entV ts) w' m r (vis++[i])∧∀ w2,GRg sK (entV ts) w2 m r (vis++[i])->lftE ts w2 r<lftE ts w r) ->
    (Instr.entry (.pointer (some ⟨r,0,none⟩))).run P w'=.ok (.tuple #[.string t.1.1.1.name,.agg t.cs]) w' ->
    wpList P ops Q rest (a.put o.dst (.tuple #[.bool true,.string t.1.1.1.name,.agg t.cs])) w') :
  wpList P ops Q (o::rest) a w:=by
 refine wnext sK w hg it hop m r (entV ts) vis hit h (fun hd=>hDone (Lib.hid ?_)) (fun i hi w' hw hen=>?_)
 · obtain⟨h1,h2,h3⟩:=hd.out
   rw[entV_len] at h2 h3
   exact visL_all h1 h2 h3
 · obtain⟨t,ht,hm,he,hv⟩:=entV_at ts i hi
   rw[he] at hen ⊢
   obtain⟨h1,h2,h3,h4⟩:=hw.out
   refine hMore t i w' (Lib.hid ⟨hm,hv vis,h2,h3,h4,fun w2 h5=>?_⟩) hen
   unfold lftE
   rw[h5.seen,h.seen]
   have hl:=left_shrinks (gent sK (entV ts)) vis.toArray ⟨sK t.1.1.1.name,.agg t.cs,i⟩ ?_
   · simpa using hl
   · have e1:(gent sK (entV ts)).toList[i]?=some ⟨sK t.1.1.1.name,.agg t.cs,i⟩:=by
      have:=gents_get sK (entV ts) 0 i
      rw[List.getElem?_eq_getElem hi,he] at this
      simpa [gent] using this
     have e2:=List.mem_of_getElem? e1
     unfold leftOf
     simp only[Array.toList_filter,List.mem_filter]
     exact⟨e2,by simpa using h1⟩
structure OU (W1 W:World) (v:Value) (d:List TE):Prop where
 b:Below W1.heap.size W1 W
 own:W.ownsRow W1.heap.size 28 33 v d.length (tcs TE.en d)
theorem OU.start (W1:World):OU W1 W1 (.slice none 0 0) []:=⟨Below.refl _ _,World.ownsRow_nil W1 _ _ 33⟩
structure RU (W1 W:World) (m r:Nat) (xs:List TE) (v:Value) (vis:List Nat) (d:List TE):Prop where
 o:OU W1 W v d
 g:GRg sK (entV xs) W m r vis
 n:v.ownBlock≠some r
 hm:m<W1.heap.size
 hr:W1.heap.size<=r
theorem OU.range {W1 W w2:World} {v:Value} {d xs:List TE} {m:Nat} (h:OU W1 W v d) (hm:m<W1.heap.size) (hg:GRg sK (entV xs) w2 m W.heap.size []) (hb:Below W.heap.size W w2):RU W1 w2 m W.heap.size xs v [] d :=
 ⟨⟨bt h.b hb,own_keep h.own (fun x hx=>hb.block x (own_base h.own x hx).2)⟩,hg,fun e=>by have:=(own_base h.own _ e).2;omega,hm,h.b.size⟩
theorem RU.below {W1 W w2:World} {m r:Nat} {xs:List TE} {v:Value} {vis:List Nat} {d:List TE} (h:RU W1 W m r xs v vis d) (hb:Below W.heap.size W w2):RU W1 w2 m r xs v vis d :=
 ⟨⟨bt h.o.b hb,own_keep h.o.own (fun x hx=>hb.block x (own_base h.o.own x hx).2)⟩,h.g.below hb,h.n,h.hm,h.hr⟩
theorem RU.next {W1 W w2:World} {m r:Nat} {xs:List TE} {v:Value} {vis vis':List Nat} {d:List TE} (h:RU W1 W m r xs v vis d) (hg:W.grownBy w2 (some r)) (hG:GRg sK (entV xs) w2 m r vis'):RU W1 w2 m r xs v vis' d :=
 ⟨⟨h.o.b.grown hg h.o.b.size (fun q hq=>by cases hq;exact h.hr),own_keep h.o.own (fun x hx=>hg.block x (own_base h.o.own x hx).2 (fun e=>h.n (hx.trans e)))⟩,hG,h.n,h.hm,h.hr⟩
theorem RU.app {W1 W w2:World} {m r:Nat} {xs:List TE} {v v':Value} {vis:List Nat} {d:List TE} {t:TE} (h:RU W1 W m r xs v vis d) (hown:w2.ownsRow W1.heap.size 28 33 v' (d.length+1) (tcs TE.en d++t.en.toList)) (hg:W.grownBy w2 v.ownBlock) (hat:v'.ownBlock=v.ownBlock∨v'.ownBlock=some W.heap.size):RU W1 w2 m r xs v' vis (d++[t]):=by
 refine⟨⟨h.o.b.grown hg h.o.b.size (fun q hq=>(own_base h.o.own q hq).1),?_⟩,h.g.grown hg (fun e=>by have:=(own_base h.o.own _ e).1;have:=h.hm;omega) h.n,?_,h.hm,h.hr⟩
 · rw[List.length_append,tcs_app,tcs_one];exact hown
 · rcases hat with e | e
   · rw[e];exact h.n
   · rw[e];intro q;have:=Option.some.inj q;have:=h.g.rl;omega
theorem mid_told (W:World) (t:TE) (T:TypeId):mid (W.alloc (.cells t.cs T)) W.heap.size 0=t.en:=by
 refine mid_of t.en_size fun i v hv=>?_
 rw[Nat.zero_add]
 refine cell_row (row_new W t.cs T (0,0)) i v ?_
 unfold TE.cs
 rw[Array.getElem?_append_left (by rw[vals_size];have:=(Array.getElem?_eq_some_iff.1 hv).1;rw[t.en_size] at this;omega)]
 exact hv
theorem cs_33 {X:World} {cs:Array Value} {t:TypeId} {q:Nat} (hq:X.heap.size=q) (hz:cs.size=33):CS (X.alloc (.cells cs t)) 33 (.slice (some ⟨q,0,none⟩) 1 1) 1 cs.toList:=by
 subst hq
 refine⟨_,_,rfl,by simp [hz],fun _=>⟨_,rfl,fun j u hu=>?_⟩⟩
 rw[Addr.add_lit,Nat.zero_add,cell_of_row _ X.heap.size j cs t (0,0) (heap_alloc_new X _)]
 simpa using hu
def selE (ts us:List TE):Nat->List TE
 | 0=>[]
 | 1=>ts
 | _=>ts++us
theorem OU.tje {W1 W:World} {v:Value} {d:List TE} (h:OU W1 W v d) (hd:∀ t∈d,RdT W1 t):TJE TE.en 33 28 W1.heap.size W v d :=
 ⟨h.own,fun t ht=>⟨(hd t ht).below h.b,(show FarT v.ownBlock t from by
  cases hq:v.ownBlock with
  | none=>exact FarT.none t
  | some q=>exact (hd t ht).far (own_base h.own q hq).1)⟩⟩
end
end Go.Proofs.YtnojclchnhmggaaGreatDoor
