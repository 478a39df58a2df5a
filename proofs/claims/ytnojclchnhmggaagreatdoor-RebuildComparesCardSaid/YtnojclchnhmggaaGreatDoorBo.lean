/- Contract of package rebuild: Compare. -/
import Derived.Test.YtnojclchnhmggaaGreatDoorBg
import Derived.Test.YtnojclchnhmggaaGreatDoorAw7
import Derived.Test.YtnojclchnhmggaaGreatDoorBi1
import Derived.Test.YtnojclchnhmggaaGreatDoorBn
import Derived.Test.YtnojclchnhmggaaGreatDoorSaC
import Derived.Test.YtnojclchnhmggaaGreatDoorVaE
import Derived.Test.YtnojclchnhmggaaGreatDoorNo
namespace Go.Proofs.YtnojclchnhmggaaGreatDoor
open Go.RowKit
set_option maxRecDepth 8000
set_option maxHeartbeats 16000000
section
def pS (k:Int × ByteArray):Value:=.agg #[.int .i64 k.1,.string k.2]
def pI (k:Int):Value:=.int .i64 k
theorem eq_spot (a b:Int × ByteArray) (w:World):(Op.equal 143 (pS a) (pS b)).run Tryz.prog w=.ok (decide (a=b)) w:=by
 obtain⟨a0,a1⟩:=a
 obtain⟨b0,b1⟩:=b
 have h1:=tl_beq a1 b1
 unfold pS Op.equal
 rw[show Op.maxDepth=9998+1+1 from rfl]
 rw[run_equalIn_agg w (9998+1) 143 _ _ (by kernel_rfl) (by kernel_rfl)]
 obtain ⟨f, g, hf, f1, f2, f3, g1, g2, g3⟩ : ∃ f g : Field, (Tryz.prog.fieldsOf 143).toList = [f, g] ∧ f.type = 3 ∧ f.offset = 0 ∧ (f.name != "_") = true ∧ g.type = 9 ∧ g.offset = 1 ∧ (g.name != "_") = true :=
  ⟨(Tryz.prog.fieldsOf 143).toList[0]!,(Tryz.prog.fieldsOf 143).toList[1]!,by kernel_rfl,by kernel_rfl,by kernel_rfl,by kernel_rfl,by kernel_rfl,by kernel_rfl,by kernel_rfl⟩
 have f4 : f.name ≠ "_" := bne_iff_ne.1 f3
 have g4 : g.name ≠ "_" := bne_iff_ne.1 g3
 rw[hf]
 clear hf f3 g3
 obtain⟨fn,ft,fo,_,_,_,_⟩:=f
 obtain⟨gn,gt,go,_,_,_,_⟩:=g
 dsimp only at f1 f2 f4 g1 g2 g4
 subst f1 f2 g1 g2
 simp only[Op.eqFields,if_pos f4,if_pos g4]
 go_simp
 by_cases e0:a0=b0 <;> by_cases e1:a1=b1 <;> simp [e0,e1]
theorem mk_i:MK pI Tryz.prog 141 3 28 (.agg (TE.en default)) where
 hu:=Tryz.underlying141
 ck b k w:=by cases b <;> kernel_rfl
 fk k es w:=fk_now (pk:=pI) Tryz.underlying3 (fun a b=>by unfold pI;simp only[Instr.sameNow];congr 1) k es w
 sb k:=by unfold pI;unfold Instr.sameBits;simp
 zv w:=by
  show _=Result.ok (Value.agg (zcells 0 ⟨#[]⟩)) w
  rw[<-zlit_eq]
  kernel_rfl
theorem mk_spot:MK pS Tryz.prog 140 143 4 (.bool false) where
 hu:=Tryz.underlying140
 ck b k w:=by cases b <;> kernel_rfl
 fk k es w:=fk_ask (pk:=pS) (by kernel_rfl) eq_spot k es w
 sb k:=by unfold pS;unfold Instr.sameBits;simp [Instr.sameBits,MapKept.bytes_beq]
 zv w:=by kernel_rfl
end
section
theorem gget_put {K:Type} [DecidableEq K] (k k':K) (v:Value):∀ es:List (K × Value),gget k (gput k' v es)=if k=k' then some v else gget k es
 | []=>rfl
 | x::r=>by
   have ih:=gget_put k k' v r
   unfold gput at *
   rw[tput]
   by_cases e:x.1=k'
   · rw[if_pos e]
     show gget k ((k',v)::r)=_
     rw[gget,gget]
     by_cases h:k=k'
     · rw[if_pos h,if_pos h]
     · rw[if_neg h,if_neg h,if_neg (fun q=>h (q.trans e))]
   · rw[if_neg e,gget,gget]
     by_cases h:k=x.1
     · rw[if_pos h,if_pos h,if_neg (fun q=>e (h.symm.trans q))]
     · rw[if_neg h,if_neg h];exact ih
def spots (L:List Lb):List ((Int × ByteArray) × Value):=L.foldl (fun es x=>gput (x.1,x.2.1) (.bool true) es) []
theorem spots_snoc {L:List Lb} {k:Nat} (h:k<L.length):spots (L.take (k+1))=gput (L[k].1,L[k].2.1) (.bool true) (spots (L.take k)):=by
 unfold spots
 rw[List.take_succ_eq_append_getElem h,List.foldl_append,List.foldl_cons,List.foldl_nil]
theorem spots_fold (id:Int) (vol:ByteArray) (L:List Lb):∀ es:List ((Int × ByteArray) × Value),gget (id,vol) (L.foldl (fun es x=>gput (x.1,x.2.1) (.bool true) es) es)=if lab L id vol=true then some (.bool true) else gget (id,vol) es:=by
 induction L with
 | nil=>intro es;rfl
 | cons x r ih =>
   intro es
   rw[List.foldl_cons,ih,gget_put]
   have hl:lab (x::r) id vol=(decide (x.1=id∧x.2.1=vol) || lab r id vol):=by unfold lab;rw[List.any_cons]
   rw[hl]
   by_cases h:x.1=id∧x.2.1=vol
   · rw[decide_eq_true h,Bool.true_or,if_pos rfl,if_pos (Prod.ext h.1.symm h.2.symm)]
     split <;> rfl
   · rw[decide_eq_false h,Bool.false_or,if_neg (fun q:(id,vol)=(x.1,x.2.1)=>h ⟨(congrArg Prod.fst q).symm,(congrArg Prod.snd q).symm⟩)]
theorem spots_at (L:List Lb) (id:Int) (vol:ByteArray):glkV (.bool false) false (gget (id,vol) (spots L))=.bool (lab L id vol):=by
 unfold spots
 rw[spots_fold]
 cases lab L id vol <;> rfl
theorem TE.en_dat (t:TE):t.en.extract 2 23=t.1.1.1.dat:=vals_dat _ _ _
def entI (ts:List TE):List (Int × Value):=ts.map (fun t=>(t.1.1.1.d0,.agg t.en))
theorem entI_get (k:Int):∀ ts:List TE,gget k (entI ts)=(ts.find? (fun t=>decide (k=t.1.1.1.d0))).map (fun t=>.agg t.en)
 | []=>rfl
 | t::r=>by
   unfold entI at *
   rw[List.map_cons,gget,List.find?_cons]
   by_cases e:k=t.1.1.1.d0
   · rw[if_pos e,decide_eq_true e];rfl
   · rw[if_neg e,decide_eq_false e];exact entI_get k r
theorem entI_new (ts:List TE) (t:TE) (h:gget t.1.1.1.d0 (entI ts)=none):gput t.1.1.1.d0 (.agg t.en) (entI ts)=entI (ts++[t]):=by
 rw[gput_none _ _ _ h]
 unfold entI
 rw[List.map_append];rfl
def FstI (ts:List TE) (E:List Fu):Prop:=∀ id,(ts.find? (fun t=>decide (id=t.1.1.1.d0))).map (fun t=>t.1.1)=fstE E id
theorem FstI.nil:FstI [] []:=fun _=>rfl
theorem fst_snoc (E:List Fu) (e:Fu) (id:Int):fstE (E++[e]) id=match fstE E id with
  | some x=>some x
  | none=>if e.1.kind=0∧e.1.d0=id then some e else none:=by
 unfold fstE
 rw[List.find?_append,List.find?_cons]
 cases List.find? (fun e=>decide (e.1.kind=0∧e.1.d0=id)) E with
 | some x=>rfl
 | none =>
   by_cases h:e.1.kind=0∧e.1.d0=id
   · rw[decide_eq_true h,if_pos h];rfl
   · rw[decide_eq_false h,if_neg h];rfl
theorem FstI.skip {ts:List TE} {E:List Fu} {e:Fu} (h:FstI ts E) (hk:e.1.kind≠0∨(fstE E e.1.d0).isSome=true):FstI ts (E++[e]):=fun id=>by
 rw[h id,fst_snoc]
 cases hq:fstE E id with
 | some x=>rfl
 | none =>
   dsimp only
   rw[if_neg]
   rintro ⟨h1,h2⟩
   rcases hk with hk | hk
   · exact hk h1
   · rw[h2,hq] at hk;cases hk
theorem FstI.put {ts:List TE} {E:List Fu} {t:TE} (h:FstI ts E) (hk:t.1.1.1.kind=0) (_:fstE E t.1.1.1.d0=none):FstI (ts++[t]) (E++[t.1.1]):=fun id=>by
 have h2:=h id
 rw[fst_snoc,List.find?_append,List.find?_cons]
 rw[<-h2]
 cases hq:List.find? (fun t=>decide (id=t.1.1.1.d0)) ts with
 | some x=>rfl
 | none =>
   by_cases e:id=t.1.1.1.d0
   · rw[decide_eq_true e,if_pos ⟨hk,e.symm⟩];rfl
   · rw[decide_eq_false e,if_neg (fun q=>e q.2.symm)];rfl
theorem FstI.at {ts:List TE} {E:List Fu} (h:FstI ts E) (_:Value) (id:Int):(fstE E id=none∧gget id (entI ts)=none)∨∃ t∈ts,fstE E id=some t.1.1∧gget id (entI ts)=some (.agg t.en):=by
 have h1:=h id
 have h2:=entI_get id ts
 cases hq:List.find? (fun t=>decide (id=t.1.1.1.d0)) ts with
 | none=>rw[hq] at h1 h2;exact .inl ⟨h1.symm,h2⟩
 | some t=>rw[hq] at h1 h2;exact .inr ⟨t,List.mem_of_find?_eq_some hq,h1.symm,h2⟩
theorem dif1_snoc {E:List Fu} {k:Nat} (L:List Lb) (h:k<E.length):(E.take (k+1)).flatMap (dif1 L)=(E.take k).flatMap (dif1 L)++dif1 L E[k]:=by
 rw[List.take_succ_eq_append_getElem h,List.flatMap_append,List.flatMap_cons,List.flatMap_nil,List.append_nil]
theorem dif2_snoc {L:List Lb} {k:Nat} (E:List Fu) (h:k<L.length):(L.take (k+1)).flatMap (dif2 E)=(L.take k).flatMap (dif2 E)++dif2 E L[k]:=by
 rw[List.take_succ_eq_append_getElem h,List.flatMap_append,List.flatMap_cons,List.flatMap_nil,List.append_nil]
end
section
open Go.ChangeMaps (setBlock)
set_option linter.unusedSimpArgs false
structure CM (w wr:World) (es:List ((Int × ByteArray) × Value)) (ts:List TE):Prop where
 b:Below w.heap.size w wr
 m0:wr.heap[w.heap.size]?=some (.map (gent pS es) es.length)
 m1:wr.heap[w.heap.size+1]?=some (.map (gent pI (entI ts)) (entI ts).length)
 rd:∀ t∈ts,RdT w t
theorem CM.lt {w wr:World} {es:List ((Int × ByteArray) × Value)} {ts:List TE} (h:CM w wr es ts):w.heap.size+1<wr.heap.size:=(Array.getElem?_eq_some_iff.1 h.m1).1
theorem CM.below {w wr w':World} {es:List ((Int × ByteArray) × Value)} {ts:List TE} (h:CM w wr es ts) (hb:Below wr.heap.size wr w'):CM w w' es ts :=
 ⟨bt h.b hb,(hb.block _ (by have:=h.lt;omega)).trans h.m0,(hb.block _ h.lt).trans h.m1,h.rd⟩
theorem CM.grown {w wr w':World} {es:List ((Int × ByteArray) × Value)} {ts:List TE} {ob:Option Nat} (h:CM w wr es ts) (hg:wr.grownBy w' ob) (hb:∀ q,ob=some q->w.heap.size+2<=q):CM w w' es ts :=
 ⟨h.b.grown hg h.b.size (fun q hq=>by have:=hb q hq;omega),(hg.block _ (by have:=h.lt;omega) (fun e=>by have:=hb _ e.symm;omega)).trans h.m0,(hg.block _ h.lt (fun e=>by have:=hb _ e.symm;omega)).trans h.m1,
  h.rd⟩
theorem CM.start (w:World):CM w ((w.alloc (.map #[] 0)).alloc (.map #[] 0)) [] []:=by
 refine⟨by exact belA,?_,?_,(fun _ h=>by cases h)⟩
 · exact (((Below.refl _ _).alloc (Nat.le_refl _) (.map #[] 0):Below (w.alloc (.map #[] 0)).heap.size (w.alloc (.map #[] 0)) _).block _ (by simp)).trans (heap_alloc_new w _)
 · have:=heap_alloc_new (w.alloc (.map #[] 0)) (.map #[] 0)
   rw[show (w.alloc (.map #[] 0)).heap.size=w.heap.size+1 by simp] at this
   exact this
theorem CM.put0 {w wr w':World} {es es':List ((Int × ByteArray) × Value)} (h:CM w wr es []) (h0:w'.heap[w.heap.size]?=some (.map (gent pS es') es'.length)) (hg:wr.grownBy w' (some w.heap.size)):CM w w' es' [] :=
 ⟨h.b.trans (grown_below hg (Nat.le_refl _) h.b.size),h0,(hg.block _ h.lt (by intro e;have:=Option.some.inj e;omega)).trans h.m1,fun _ h=>by cases h⟩
theorem CM.put1 {w wr w':World} {es:List ((Int × ByteArray) × Value)} {ts ts':List TE} (h:CM w wr es ts) (h1:w'.heap[w.heap.size+1]?=some (.map (gent pI (entI ts')) (entI ts').length)) (hg:wr.grownBy w' (some (w.heap.size+1))) (hsub:∀ t∈ts',RdT w t):CM w w' es ts' :=
 ⟨h.b.trans (grown_below hg (by omega) h.b.size),(hg.block _ (by have:=h.lt;omega) (by intro e;have:=Option.some.inj e;omega)).trans h.m0,h1,hsub⟩
theorem cm_lG (wr:World) (q0:Int) (q1 q2:ByteArray) (te:TE):∀ W,Below (((wr.alloc (.cells #[.int .i64 q0,.string q1,.string q2] 95)).alloc (.cells te.en 28)).alloc (.cells #[.int .i64 0,.int .i64 q0,.string q1,.string te.1.1.1.name] 98)).heap.size (((wr.alloc (.cells #[.int .i64 q0,.string q1,.string q2] 95)).alloc (.cells te.en 28)).alloc (.cells #[.int .i64 0,.int .i64 q0,.string q1,.string te.1.1.1.name] 98)) W ->
  row W wr.heap.size=#[.int .i64 q0,.string q1,.string q2]∧row W (wr.heap.size+1)=te.en∧row W (wr.heap.size+1+1)=#[.int .i64 0,.int .i64 q0,.string q1,.string te.1.1.1.name]∧Held W (wr.heap.size+1+1) 4:=fun W b=>by
 have h1:=row_below ((show Below ((wr.alloc (.cells #[.int .i64 q0,.string q1,.string q2] 95)).alloc (.cells te.en 28)).heap.size _ _ by exact belA).trans (b.mono (by simp))) (row_new2 wr #[.int .i64 q0,.string q1,.string q2] 95 (0,0) (.cells te.en 28)) (Nat.zero_lt_succ 2)
 have h2:=row_below ((show Below ((wr.alloc (.cells #[.int .i64 q0,.string q1,.string q2] 95)).alloc (.cells te.en 28)).heap.size _ _ by exact belA).trans (b.mono (by simp))) (row_new2' wr te.en 28 (0,0) (.cells #[.int .i64 q0,.string q1,.string q2] 95)) (by rw[te.en_size];decide)
 have k:=Held.new ((wr.alloc (.cells #[.int .i64 q0,.string q1,.string q2] 95)).alloc (.cells te.en 28)) #[.int .i64 0,.int .i64 q0,.string q1,.string te.1.1.1.name] 98 4 rfl (by decide)
 have h3:=row_below b (row_new ((wr.alloc (.cells #[.int .i64 q0,.string q1,.string q2] 95)).alloc (.cells te.en 28)) #[.int .i64 0,.int .i64 q0,.string q1,.string te.1.1.1.name] 98 (0,0)) (Nat.zero_lt_succ 3)
 have e:((wr.alloc (.cells #[.int .i64 q0,.string q1,.string q2] 95)).alloc (.cells te.en 28)).heap.size=wr.heap.size+1+1:=by simp
 rw[e] at h3 k
 exact⟨h1,h2,h3,k.below b⟩
attribute [local go_sem ↓] ldEnt stEntRow ldEntM bldEnt ldDat stDat
attribute [local go_sem ↓ high] stEnt
attribute [local go_sem] hz_n hz_a hz_b held_en held_a held_n run_makeMap Held_drew isHead_mk headOf_mk offOf_mk isPtr_mk cellsOfV_mk isAggV_mk row_new row_new2 row_new2' row_drew row_drewN vals_size allOne_nil allOne_cons one_int one_bool one_string one_pointer one_slice one_func TE.en_size TE.one isDat_mk vals_dat TE.en_dat dat_size dat_one
theorem re_compare (v u:Value) (E:List Fu) (L:List Lb) (w:World) (hm:MaxL w) (hT:Tab w) (hE:EL w v E) (hS:RwS w u L) (hn:E.length+L.length<=20) (hsz:∀ x∈L,x.2.2.size<=1000) :
  Calls Tryz.prog 29 #[v,u] w fun r w'=>∃ v',r=.returned v'∧DF w' v' (diffR E L)∧Below w.heap.size w w':=by
 have hE':=hE
 obtain⟨a1,c1,rfl,-,-⟩:=hE'
 obtain⟨va,vc,rfl,hz,hcell⟩:=hS
 have HE:=Lib.hid hE
 have HC:=Lib.hid hcell
 have HP:=Lib.hid (fun (id:Int) (s:ByteArray) (hs:s.size<=1000) W (b:Below w.heap.size w W)=>(re_parse_o s W hs (hm.below b) (hT.below b)).mono (fun _ _ h=>h.te id))
 have HSZ:=Lib.hid hsz
 have HS0:=Lib.hid (CM.start w)
 clear hcell hm hT hsz hE
 go_enter Tryz.func29,Tryz.ntmps29
 go_wp2_with fail
 go_loopw [27] (fun i wr=>∃ k:Nat,k<=L.length∧i=.int .i64 k∧CM w wr (spots (L.take k)) []) (fun i _=>L.length - (intOf i).toNat)
 case atStart=>exact⟨0,Nat.zero_le _,rfl,HS0.out⟩
 case round =>
  clear HS0
  obtain⟨k,hk,rfl,hM⟩:=hrel
  have HM:=Lib.hid hM
  have zr:=hM.lt
  by_cases hlt:k<L.length
  · obtain⟨b,o,rfl,hb,hcell⟩:=HC.out (by omega)
    obtain⟨p0,p1,p2⟩:=hcell k hlt
    have p0:=(hM.b.cell (p:=⟨b,o+k*3,none⟩) hb).trans p0
    have p1:=(hM.b.cell (p:=⟨b,o+k*3+1,none⟩) hb).trans p1
    have p2:=(hM.b.cell (p:=⟨b,o+k*3+2,none⟩) hb).trans p2
    have hF:=spots_snoc hlt
    generalize L[k]=x at p0 p1 p2 hF
    obtain⟨q0,q1,q2⟩:=x
    dsimp only at p0 p1 p2 hF
    have HF:=Lib.hid hF
    have i1:(0:Int)<=(k:Int):=by omega
    have i2:(k:Int)<(L.length:Int):=by omega
    have HM2:=Lib.hid (HM.out.below (below_al' wr (.cells #[.int .i64 q0,.string q1,.string q2] 95)))
    have N0:=cell_row (row_new wr #[.int .i64 q0,.string q1,.string q2] 95 (0,0)) 0 _ rfl
    have N1:=cell_row (row_new wr #[.int .i64 q0,.string q1,.string q2] 95 (0,0)) 1 _ rfl
    clear hF hcell hM HM
    go_wp2_with (first
     | (at_mapUpdate;refine mk_spot.wmu _ rfl _ _ _ rfl w.heap.size (spots (L.take k)) (q0,q1) (.bool true) rfl rfl rfl HM2.out.m0 ?_;intro w5 h5 g5 s5;have M5:=Lib.hid (HM2.out.put0 h5 g5);clear h5 g5 s5))
    go_roundw
    case rel=>exact⟨k+1,by omega,by go_num,by rw[HF.out];exact M5.out⟩
    case measure=>simp [intOf];omega
  · obtain rfl:k=L.length:=by omega
    have HM1:Hid (CM w wr (spots L) []):=Lib.hid (by have:=HM.out;rwa [List.take_length] at this)
    clear HM hM
    go_wp2_with fail
    go_loopw [9,40] (fun v i wr=>∃ (k:Nat) (ts:List TE) (d:List Df),k<=E.length∧i=.int .i64 k∧Hid (FstI ts (E.take k))∧Hid ((E.take k).flatMap (dif1 L)=d)∧Hid (CM w wr (spots L) ts)∧Hid (wr.ownsRow (w.heap.size+2) 98 4 v d.length (tcs dc d))∧d.length<=k) (fun _ i _=>E.length - (intOf i).toNat)
    case atStart=>exact⟨0,[],[],Nat.zero_le _,rfl,Lib.hid FstI.nil,Lib.hid rfl,HM1,Lib.hid (World.ownsRow_nil wr _ _ 4),Nat.le_refl _⟩
    case round =>
     clear HM1
     obtain⟨k,ts,d,hk,rfl,HFS,HD,HM,HO,hdl⟩:=hrel
     have zr:=HM.out.lt
     by_cases hlt:k<E.length
     · obtain⟨_,_,e,-,q0⟩:=HE.out
       injection e with e1 e2 e3
       subst e1 e3
       obtain⟨b,o,al,gr,rfl,hb,hmid,hI,hG⟩:=q0 k hlt
       have HFn:=Lib.hid (List.take_succ_eq_append_getElem hlt)
       have HDn:=Lib.hid (dif1_snoc L hlt)
       obtain⟨x1,y1,rfl,-⟩:=id hI
       obtain⟨x2,y2,rfl,-⟩:=id hG
       obtain⟨t,ht,hten⟩:∃ t:TE,t.1.1=E[k]∧t.en=E[k].1.vals (.slice x1 E[k].2.1.length y1) (.slice x2 E[k].2.2.length y2)∧RdT w t:=⟨((E[k],0),(x1,y1),(x2,y2)),rfl,rfl,hI,hG⟩
       rw[<-hten.1] at hmid
       rw[<-ht] at HFn HDn
       have HRT:=Lib.hid hten.2
       have m0:mid wr b (o+k*33)=t.en:=mid_below HM.out.b hmid (by rw[t.en_size];decide)
       have m1:(mid wr b (o+k*33)).size=33:=by rw[m0];exact t.en_size
       have i1:(0:Int)<=(k:Int):=by omega
       have i2:(k:Int)<(E.length:Int):=by omega
       clear ht hten hI hG hmid q0 e2
       have R0:=row_new wr t.en 28 (0,0)
       have c0:=cell_row R0 0 (.int .i64 t.1.1.1.kind) (vals_0 _ _ _)
       have HM2:=Lib.hid (HM.out.below (below_al' wr (.cells t.en 28)))
       by_cases hk0:t.1.1.1.kind=0
       rotate_left
       · have t0:(t.1.1.1.kind != 0)=true:=bne_iff_ne.2 hk0
         have HF2:Hid (FstI ts (E.take (k+1))):=Lib.hid (by rw[HFn.out];exact HFS.out.skip (.inl hk0))
         have HD2:Hid ((E.take (k+1)).flatMap (dif1 L)=d):=Lib.hid (by rw[HDn.out,HD.out];unfold dif1;rw[if_neg (fun q=>hk0 q.1),List.append_nil])
         clear hk0
         go_wp2_with fail
         go_roundw
         case rel=>exact⟨k+1,ts,d,by omega,by go_num,HF2,HD2,HM2,Lib.hid (own_keep HO.out (fun x hx=>(below_al' wr _).block x (own_base HO.out x hx).2)),by omega⟩
         case measure=>simp [intOf];omega
       have t0:(t.1.1.1.kind != 0)=false:=by rw[hk0];rfl
       have hdm:∀ W:World,row W (wr.heap.size+1)=t.1.1.1.dat->W.cell? ⟨wr.heap.size+1,0,none⟩=some (.int .i64 t.1.1.1.d0)∧W.cell? ⟨wr.heap.size+1,16,none⟩=some (.string t.1.1.1.vol):=fun W h=>⟨cell_row h 0 _ (dat_0 _),cell_row h 16 _ (dat_16 _)⟩
       have HDM:=Lib.hid hdm
       have HLB:=Lib.hid (spots_at L t.1.1.1.d0 t.1.1.1.vol)
       have HDL:Hid (dif1 L t.1.1=if lab L t.1.1.1.d0 t.1.1.1.vol=true then [] else [(0,t.1.1.1.d0,t.1.1.1.vol,t.1.1.1.name)]):=Lib.hid (by
        unfold dif1
        cases lab L t.1.1.1.d0 t.1.1.1.vol
        · rw[if_pos ⟨hk0,rfl⟩];rfl
        · rw[if_neg (fun q=>by cases q.2)];rfl)
       generalize lab L t.1.1.1.d0 t.1.1.1.vol=lb at HLB HDL
       have hat:=HFS.out.at (.agg (TE.en default)) t.1.1.1.d0
       have HK0:=Lib.hid hk0
       clear hdm hk0
       go_upto_region 13 with fail
       generalize hW:World.alloc (World.alloc wr _) _=W3
       obtain⟨B3,R3,D3⟩:Below wr.heap.size wr W3∧row W3 wr.heap.size=t.en∧row W3 (wr.heap.size+1)=t.1.1.1.dat:=by
        rw[<-hW]
        exact⟨by exact belA,row_new2 wr t.en 28 (0,0) _,row_new2' wr _ 24 (0,0) _⟩
       obtain⟨d0,d16⟩:=HDM.out W3 D3
       have n1:=cell_row R3 1 (.string t.1.1.1.name) (vals_1 _ _ _)
       have HM3:=Lib.hid (HM.out.below B3)
       have HO3:=Lib.hid (own_keep HO.out (fun x hx=>B3.block x (own_base HO.out x hx).2))
       have z3:w.heap.size+2<=W3.heap.size∧wr.heap.size+1<W3.heap.size:=by rw[<-hW];simp;omega
       obtain⟨z4,z5⟩:=z3
       have z6:wr.heap.size<W3.heap.size:=by omega
       clear hW c0 R0 m0 m1 HM HO HM2
       rcases hat with ⟨hf0,hg0⟩ | ⟨t2,ht2,hf0,hg0⟩
       · have hR:glkV (.agg (TE.en default)) true (gget t.1.1.1.d0 (entI ts))=.tuple #[.agg (TE.en default),.bool false]:=by rw[hg0];rfl
         have HF2:Hid (FstI (ts++[t]) (E.take (k+1))):=Lib.hid (by rw[HFn.out];exact HFS.out.put HK0.out hf0)
         have hpt:(entI ts)=entI ts:=rfl
         have HPUT:=Lib.hid (entI_new ts t hg0)
         have HSUB:Hid (∀ u∈ts++[t],RdT w u):=Lib.hid (fun u hu=>by
          rcases List.mem_append.1 hu with h | h
          · exact HM3.out.rd u h
          · rw[List.mem_singleton] at h;rw[h];exact HRT.out)
         have R3b:row (W3.alloc (.cells (TE.en default) 28)) wr.heap.size=t.en:=row_below (below_al' W3 _) R3 (by rw[t.en_size];decide)
         clear hf0 hg0 hpt
         cases lb
         · have HD2:Hid ((E.take (k+1)).flatMap (dif1 L)=d++[(0,t.1.1.1.d0,t.1.1.1.vol,t.1.1.1.name)]):=Lib.hid (by rw[HDn.out,HD.out,HDL.out];rfl)
           go_wp2_with (first
            | (at_lookup;refine mk_i.wlk _ rfl _ _ true rfl (w.heap.size+1) _ (entI ts) t.1.1.1.d0 rfl rfl HM3.out.m1 _ hR ?_)
            | (at_mapUpdate;refine mk_i.wmu _ rfl _ _ _ rfl (w.heap.size+1) (entI ts) t.1.1.1.d0 (.agg t.en) rfl rfl rfl (HM3.out.below (by exact belA)).m1 ?_;intro w4 h4 g4 s4;rw[HPUT.out] at h4;have zz4:=g4.size;rw[show (World.alloc W3 (.cells (TE.en default) 28)).heap.size=W3.heap.size+1 by simp] at zz4;have HM4:=Lib.hid ((HM3.out.below (below_al' W3 _)).put1 h4 g4 HSUB.out);have HO4:=Lib.hid (own_keep HO3.out (fun x hx=>(g4.block x (by have:=(own_base HO3.out x hx).2;simp;omega) (by intro e;have:=(own_base HO3.out x hx).1;have:=Option.some.inj e;omega)).trans ((below_al' W3 _).block x (own_base HO3.out x hx).2)));have R4:=(row_grown g4 (by simp;omega) (by intro e;have:=Option.some.inj e;omega)).trans (row_below (below_al' W3 _) R3 (by rw[t.en_size];decide));have D4:=(row_grown g4 (by simp;omega) (by intro e;have:=Option.some.inj e;omega)).trans (row_below (below_al' W3 _) D3 (by rw[dat_size];decide));obtain⟨dd0,dd16⟩:=HDM.out w4 D4;have nn1:=cell_row R4 1 (.string t.1.1.1.name) (vals_1 _ _ _);have z7:wr.heap.size<w4.heap.size:=(by omega);have z8:wr.heap.size+1<w4.heap.size:=(by omega);clear h4 g4 s4)
            | (at_lookup;refine mk_spot.wlk _ rfl _ _ false rfl w.heap.size _ (spots L) (t.1.1.1.d0,t.1.1.1.vol) rfl rfl HM4.out.m0 _ HLB.out ?_)
            | (at_builtin;refine wp_appX _ rfl (.tmp 70) (.tmp 78) 64 98 _ _ 4 48 rfl Tryz.underlying64 df_i df_i0 df_i1 df_i2 rfl (by decide) (w.heap.size+2) u9 (.slice (some ⟨w4.heap.size,0,none⟩) 1 1) d.length 1 (tcs dc d) (dc (0,t.1.1.1.d0,t.1.1.1.vol,t.1.1.1.name)).toList rfl (own_keep HO4.out (fun x hx=>(show Below w4.heap.size w4 _ by exact belA).block x (own_base HO4.out x hx).2)) rfl (cs_four (by simp)) (all1 (dc_one _)) (by unfold maxLen;omega) (by omega) (by simp;omega) ?_;intro a5 c5 w5 hown hg5 hat5;have O5:=Lib.hid hown;have G5:=Lib.hid hg5;clear hown hg5 hat5))
           go_roundw
           case rel=>exact⟨k+1,_,_,by omega,by go_num,HF2,HD2,Lib.hid ((HM4.out.below (by exact belA)).grown G5.out (fun q hq=>(own_base HO4.out q hq).1)),Lib.hid (by rw[List.length_append,tcs_app,tcs_one];exact O5.out),by simp;omega⟩
           case measure=>simp [intOf];omega
         · have HD2:Hid ((E.take (k+1)).flatMap (dif1 L)=d):=Lib.hid (by rw[HDn.out,HD.out,HDL.out,if_pos rfl,List.append_nil])
           go_wp2_with (first
            | (at_lookup;refine mk_i.wlk _ rfl _ _ true rfl (w.heap.size+1) _ (entI ts) t.1.1.1.d0 rfl rfl HM3.out.m1 _ hR ?_)
            | (at_mapUpdate;refine mk_i.wmu _ rfl _ _ _ rfl (w.heap.size+1) (entI ts) t.1.1.1.d0 (.agg t.en) rfl rfl rfl (HM3.out.below (by exact belA)).m1 ?_;intro w4 h4 g4 s4;rw[HPUT.out] at h4;have zz4:=g4.size;rw[show (World.alloc W3 (.cells (TE.en default) 28)).heap.size=W3.heap.size+1 by simp] at zz4;have HM4:=Lib.hid ((HM3.out.below (below_al' W3 _)).put1 h4 g4 HSUB.out);have HO4:=Lib.hid (own_keep HO3.out (fun x hx=>(g4.block x (by have:=(own_base HO3.out x hx).2;simp;omega) (by intro e;have:=(own_base HO3.out x hx).1;have:=Option.some.inj e;omega)).trans ((below_al' W3 _).block x (own_base HO3.out x hx).2)));have R4:=(row_grown g4 (by simp;omega) (by intro e;have:=Option.some.inj e;omega)).trans (row_below (below_al' W3 _) R3 (by rw[t.en_size];decide));have D4:=(row_grown g4 (by simp;omega) (by intro e;have:=Option.some.inj e;omega)).trans (row_below (below_al' W3 _) D3 (by rw[dat_size];decide));obtain⟨dd0,dd16⟩:=HDM.out w4 D4;have nn1:=cell_row R4 1 (.string t.1.1.1.name) (vals_1 _ _ _);have z7:wr.heap.size<w4.heap.size:=(by omega);have z8:wr.heap.size+1<w4.heap.size:=(by omega);clear h4 g4 s4)
            | (at_lookup;refine mk_spot.wlk _ rfl _ _ false rfl w.heap.size _ (spots L) (t.1.1.1.d0,t.1.1.1.vol) rfl rfl HM4.out.m0 _ HLB.out ?_))
           go_roundw
           case rel=>exact⟨k+1,_,d,by omega,by go_num,HF2,HD2,HM4,HO4,by omega⟩
           case measure=>simp [intOf];omega
       · have hR:glkV (.agg (TE.en default)) true (gget t.1.1.1.d0 (entI ts))=.tuple #[.agg t2.en,.bool true]:=by rw[hg0];rfl
         have HF2:Hid (FstI ts (E.take (k+1))):=Lib.hid (by rw[HFn.out];exact HFS.out.skip (.inr (by rw[hf0];rfl)))
         clear hf0 hg0 ht2
         cases lb
         · have HD2:Hid ((E.take (k+1)).flatMap (dif1 L)=d++[(0,t.1.1.1.d0,t.1.1.1.vol,t.1.1.1.name)]):=Lib.hid (by rw[HDn.out,HD.out,HDL.out];rfl)
           go_wp2_with (first
            | (at_lookup;refine mk_i.wlk _ rfl _ _ true rfl (w.heap.size+1) _ (entI ts) t.1.1.1.d0 rfl rfl HM3.out.m1 _ hR ?_)
            | (at_lookup;refine mk_spot.wlk _ rfl _ _ false rfl w.heap.size _ (spots L) (t.1.1.1.d0,t.1.1.1.vol) rfl rfl (HM3.out.below (by exact belA)).m0 _ HLB.out ?_)
            | (at_builtin;refine wp_appX _ rfl (.tmp 70) (.tmp 78) 64 98 _ _ 4 48 rfl Tryz.underlying64 df_i df_i0 df_i1 df_i2 rfl (by decide) (w.heap.size+2) u9 (.slice (some ⟨W3.heap.size+1,0,none⟩) 1 1) d.length 1 (tcs dc d) (dc (0,t.1.1.1.d0,t.1.1.1.vol,t.1.1.1.name)).toList rfl (own_keep HO3.out (fun x hx=>(show Below W3.heap.size W3 _ by exact belA).block x (own_base HO3.out x hx).2)) rfl (cs_four (by simp)) (all1 (dc_one _)) (by unfold maxLen;omega) (by omega) (by simp;omega) ?_;intro a5 c5 w5 hown hg5 hat5;have O5:=Lib.hid hown;have G5:=Lib.hid hg5;clear hown hg5 hat5))
           go_roundw
           case rel=>exact⟨k+1,ts,_,by omega,by go_num,HF2,HD2,Lib.hid ((HM3.out.below (by exact belA)).grown G5.out (fun q hq=>(own_base HO3.out q hq).1)),Lib.hid (by rw[List.length_append,tcs_app,tcs_one];exact O5.out),by simp;omega⟩
           case measure=>simp [intOf];omega
         · have HD2:Hid ((E.take (k+1)).flatMap (dif1 L)=d):=Lib.hid (by rw[HDn.out,HD.out,HDL.out,if_pos rfl,List.append_nil])
           go_wp2_with (first
            | (at_lookup;refine mk_i.wlk _ rfl _ _ true rfl (w.heap.size+1) _ (entI ts) t.1.1.1.d0 rfl rfl HM3.out.m1 _ hR ?_)
            | (at_lookup;refine mk_spot.wlk _ rfl _ _ false rfl w.heap.size _ (spots L) (t.1.1.1.d0,t.1.1.1.vol) rfl rfl (HM3.out.below (by exact belA)).m0 _ HLB.out ?_))
           go_roundw
           case rel=>exact⟨k+1,ts,d,by omega,by go_num,HF2,HD2,Lib.hid (HM3.out.below (by exact belA)),Lib.hid (own_keep HO3.out (fun x hx=>(show Below W3.heap.size W3 _ by exact belA).block x (own_base HO3.out x hx).2)),by omega⟩
           case measure=>simp [intOf];omega
     · obtain rfl:k=E.length:=by omega
       have hFS:FstI ts E:=by have:=HFS.out;rwa [List.take_length] at this
       have hD0:E.flatMap (dif1 L)=d:=by have:=HD.out;rwa [List.take_length] at this
       have HFE:=Lib.hid hFS
       have HD0:=Lib.hid hD0
       clear hFS hD0 HFS HD HE
       go_wp2_with fail
       go_loopw [9,83] (fun v i wr=>∃ (k:Nat) (d:List Df),k<=L.length∧i=.int .i64 k∧Hid (E.flatMap (dif1 L)++(L.take k).flatMap (dif2 E)=d)∧Hid (CM w wr (spots L) ts)∧Hid (wr.ownsRow (w.heap.size+2) 98 4 v d.length (tcs dc d))∧d.length<=E.length+k) (fun _ i _=>L.length - (intOf i).toNat)
       case atStart=>exact⟨0,d,Nat.zero_le _,rfl,Lib.hid (by rw[HD0.out];simp),HM,HO,hdl⟩
       case round =>
        clear HM HO HD0
        obtain⟨k,d,hk,rfl,HD,HM,HO,hdl⟩:=hrel
        have zr:=HM.out.lt
        by_cases hlt:k<L.length
        · obtain⟨b,o,rfl,hb,hcell⟩:=HC.out (by omega)
          obtain⟨p0,p1,p2⟩:=hcell k hlt
          have p0:=(HM.out.b.cell (p:=⟨b,o+k*3,none⟩) hb).trans p0
          have p1:=(HM.out.b.cell (p:=⟨b,o+k*3+1,none⟩) hb).trans p1
          have p2:=(HM.out.b.cell (p:=⟨b,o+k*3+2,none⟩) hb).trans p2
          have hD:=dif2_snoc E hlt
          have hs:=HSZ.out _ (List.getElem_mem hlt)
          generalize L[k]=x at p0 p1 p2 hD hs
          obtain⟨q0,q1,q2⟩:=x
          dsimp only at p0 p1 p2 hD hs
          have HDn:=Lib.hid hD
          have HPP:=Lib.hid (HP.out 0 q2 hs)
          have i1:(0:Int)<=(k:Int):=by omega
          have i2:(k:Int)<(L.length:Int):=by omega
          have N:=row_new wr #[.int .i64 q0,.string q1,.string q2] 95 (0,0)
          have n0:=cell_row N 0 _ rfl
          have n1:=cell_row N 1 _ rfl
          have n2:=cell_row N 2 _ rfl
          have HM2:=Lib.hid (HM.out.below (below_al' wr (.cells #[.int .i64 q0,.string q1,.string q2] 95)))
          have hat:=HFE.out.at (.agg (TE.en default)) q0
          clear hD hs hcell
          obtain⟨sn,te,hR,hq⟩:∃ (sn:Bool) (te:TE),glkV (.agg (TE.en default)) true (gget q0 (entI ts))=.tuple #[.agg te.en,.bool sn]∧Hid ((sn=false∧te=default∧fstE E q0=none)∨(sn=true∧te∈ts∧fstE E q0=some te.1.1)):=by
           rcases hat with ⟨h1,h2⟩ | ⟨t2,h0,h1,h2⟩
           · exact⟨false,default,by rw[h2];rfl,Lib.hid (.inl ⟨rfl,rfl,h1⟩)⟩
           · exact⟨true,t2,by rw[h2];rfl,Lib.hid (.inr ⟨rfl,h0,h1⟩)⟩
          clear hat
          have hl:=cm_lG wr q0 q1 q2 te
          have te1:=cell_row (row_new2' wr te.en 28 (0,0) (.cells #[.int .i64 q0,.string q1,.string q2] 95)) 1 (.string te.1.1.1.name) (vals_1 _ _ _)
          go_upto_region 25 with (first
           | (at_lookup;refine mk_i.wlk _ rfl _ _ true rfl (w.heap.size+1) _ (entI ts) q0 rfl rfl HM2.out.m1 _ hR ?_)
           | (go_at_call 52;(refine (HPP.out _ (bt HM.out.b (by exact belA))).mono ?_);rintro _ w4 ⟨t,u,code,rfl,hR1,hR2,hH1,hH2,hb4,hi1,hi2,hc⟩;have HB:=Lib.hid hb4;have T4:=Lib.hid hR1;have HCC:=Lib.hid hc;clear hR1 hR2 hH1 hH2 hb4 hi1 hi2 hc))
          generalize hW:World.setRow (World.setRow _ _ _) _ _=W5
          have B5:Below w4.heap.size w4 W5:=by rw[<-hW];exact below_setRow (below_setRow (by exact belA) (Nat.le_refl _) _) (by omega) _
          have X5:row W5 w4.heap.size=t.en:=by rw[<-hW,row_set_ne _ _ _ _ (by omega),row_p _ _ _ (hz_a _ _ _)]
          clear hW
          obtain⟨L5,V5,D5,K5⟩:=hl W5 (bt HB.out B5)
          have l1:=cell_row L5 1 _ rfl
          have v18:=cell_row V5 18 (.string te.1.1.1.vol) (vals_18 _ _ _)
          have BC:=Lib.hid (show Below wr.heap.size wr W5 from (show Below wr.heap.size wr _ by exact belA).trans ((bt HB.out B5).mono (by simp;omega)))
          have T5:=Lib.hid (T4.out.below B5)
          have f0:=K5.2.2 0
          have cc0:=cell_row D5 0 _ rfl
          have cc1:=cell_row D5 1 _ rfl
          have cc2:=cell_row D5 2 _ rfl
          have cc3:=cell_row D5 3 _ rfl
          have z5:=BC.out.size
          clear hl T4 te1 N n0 n1 n2 p0 p1 p2
          rcases hq.out with ⟨rfl,htd,hf⟩ | ⟨rfl,hmem,hf⟩
          · have HD2:Hid (E.flatMap (dif1 L)++(L.take (k+1)).flatMap (dif2 E)=d++[(1,q0,q1,te.1.1.1.name)]):=Lib.hid (by
             rw[HDn.out,<-List.append_assoc,HD.out]
             unfold dif2
             dsimp only
             rw[hf,htd];rfl)
            clear hf htd
            go_wp2_with (at_builtin;refine wp_appX _ rfl (.tmp 130) (.tmp 132) 64 98 _ _ 4 48 rfl Tryz.underlying64 df_i df_i0 df_i1 df_i2 rfl (by decide) (w.heap.size+2) u9 (.slice (some ⟨W5.heap.size,0,none⟩) 1 1) d.length 1 (tcs dc d) (dc (1,q0,q1,te.1.1.1.name)).toList rfl (own_keep HO.out (fun x hx=>((BC.out.setCell (by simp;omega) _).alloc (by simp;omega) _).block x (own_base HO.out x hx).2)) rfl (cs_four (by simp)) (all1 (dc_one _)) (by unfold maxLen;omega) (by omega) (by simp;omega) ?_;intro a5 c5 w6 hown hg5 hat5;have O6:=Lib.hid hown;have M6:=Lib.hid ((HM.out.below ((BC.out.setCell (by simp;omega) _).alloc (by simp;omega) _)).grown hg5 (fun q hq=>(own_base HO.out q hq).1));clear hown hg5 hat5)
            go_roundw
            case rel=>exact⟨k+1,_,by omega,by go_num,HD2,M6,Lib.hid (by rw[List.length_append,tcs_app,tcs_one];exact O6.out),by simp;omega⟩
            case measure=>simp [intOf];omega
          · have hte:=HM.out.rd te hmem
            have tv:=tl_beq te.1.1.1.vol q1
            have HTE:=Lib.hid (hte.below (bt HM.out.b BC.out))
            clear hte hmem
            by_cases hv:te.1.1.1.vol=q1
            rotate_left
            · have HD2:Hid (E.flatMap (dif1 L)++(L.take (k+1)).flatMap (dif2 E)=d++[(3,q0,q1,te.1.1.1.name)]):=Lib.hid (by
               rw[HDn.out,<-List.append_assoc,HD.out]
               unfold dif2
               dsimp only
               rw[hf]
               dsimp only
               rw[if_neg hv])
              rw[decide_eq_false hv] at tv
              clear hf hv
              go_wp2_with (at_builtin;refine wp_appX _ rfl (.tmp 130) (.tmp 132) 64 98 _ _ 4 48 rfl Tryz.underlying64 df_i df_i0 df_i1 df_i2 rfl (by decide) (w.heap.size+2) u9 (.slice (some ⟨W5.heap.size,0,none⟩) 1 1) d.length 1 (tcs dc d) (dc (3,q0,q1,te.1.1.1.name)).toList rfl (own_keep HO.out (fun x hx=>((BC.out.setCell (by simp;omega) _).alloc (by simp;omega) _).block x (own_base HO.out x hx).2)) rfl (cs_four (by simp)) (all1 (dc_one _)) (by unfold maxLen;omega) (by omega) (by simp;omega) ?_;intro a5 c5 w6 hown hg5 hat5;have O6:=Lib.hid hown;have M6:=Lib.hid ((HM.out.below ((BC.out.setCell (by simp;omega) _).alloc (by simp;omega) _)).grown hg5 (fun q hq=>(own_base HO.out q hq).1));clear hown hg5 hat5)
              go_roundw
              case rel=>exact⟨k+1,_,by omega,by go_num,HD2,M6,Lib.hid (by rw[List.length_append,tcs_app,tcs_one];exact O6.out),by simp;omega⟩
              case measure=>simp [intOf];omega
            rw[decide_eq_true hv] at tv
            have hcc:=HCC.out
            unfold parC at hcc
            have HSM:=Lib.hid (en_same t.1.1.1 te.1.1.1 t.al t.gr te.al te.gr t.1.1.2.1 te.1.1.2.1 t.1.1.2.2 te.1.1.2.2 W5 T5.out.1 HTE.out.1 T5.out.2 HTE.out.2)
            cases hp:parseX (Ds.bl q2) with
            | none =>
              rw[hp] at hcc
              injection hcc with g1 hcc
              injection hcc with g2 g3
              subst g3
              have hno:noteIs (Ds.bl q2) te.1.1=false:=by unfold noteIs;rw[hp]
              have HD2:Hid (E.flatMap (dif1 L)++(L.take (k+1)).flatMap (dif2 E)=d++[(2,q0,q1,te.1.1.1.name)]):=Lib.hid (by
               rw[HDn.out,<-List.append_assoc,HD.out]
               unfold dif2
               dsimp only
               rw[hf]
               dsimp only
               rw[if_pos hv,if_neg (by rw[hno];decide)])
              clear hf hv hno g1 g2 hp
              go_wp2_with (at_builtin;refine wp_appX _ rfl (.tmp 130) (.tmp 132) 64 98 _ _ 4 48 rfl Tryz.underlying64 df_i df_i0 df_i1 df_i2 rfl (by decide) (w.heap.size+2) u9 (.slice (some ⟨W5.heap.size,0,none⟩) 1 1) d.length 1 (tcs dc d) (dc (2,q0,q1,te.1.1.1.name)).toList rfl (own_keep HO.out (fun x hx=>((BC.out.setCell (by simp;omega) _).alloc (by simp;omega) _).block x (own_base HO.out x hx).2)) rfl (cs_four (by simp)) (all1 (dc_one _)) (by unfold maxLen;omega) (by omega) (by simp;omega) ?_;intro a5 c5 w6 hown hg5 hat5;have O6:=Lib.hid hown;have M6:=Lib.hid ((HM.out.below ((BC.out.setCell (by simp;omega) _).alloc (by simp;omega) _)).grown hg5 (fun q hq=>(own_base HO.out q hq).1));clear hown hg5 hat5)
              go_roundw
              case rel=>exact⟨k+1,_,by omega,by go_num,HD2,M6,Lib.hid (by rw[List.length_append,tcs_app,tcs_one];exact O6.out),by simp;omega⟩
              case measure=>simp [intOf];omega
            | some p =>
              rw[hp] at hcc
              injection hcc with g1 hcc
              injection hcc with g2 g3
              subst g3
              have hno:noteIs (Ds.bl q2) te.1.1=sameE t.1.1.1 te.1.1.1 t.1.1.2.1 te.1.1.2.1 t.1.1.2.2 te.1.1.2.2:=by
               unfold noteIs
               rw[hp,<-g1]
              generalize sameE t.1.1.1 te.1.1.1 t.1.1.2.1 te.1.1.2.1 t.1.1.2.2 te.1.1.2.2=sb at hno HSM
              cases sb
              · have HD2:Hid (E.flatMap (dif1 L)++(L.take (k+1)).flatMap (dif2 E)=d++[(2,q0,q1,te.1.1.1.name)]):=Lib.hid (by
                 rw[HDn.out,<-List.append_assoc,HD.out]
                 unfold dif2
                 dsimp only
                 rw[hf]
                 dsimp only
                 rw[if_pos hv,if_neg (by rw[hno];decide)])
                clear hf hv hno g1 g2 hp
                go_wp2_with (first
                 | (go_at_call 53;(refine HSM.out.mono ?_);rintro _ w7 ⟨rfl,hb7⟩;have D7:=row_below hb7 D5 (Nat.zero_lt_succ 3);have f7:=(K5.below hb7).2.2 0;have ee0:=cell_row D7 0 _ rfl;have ee1:=cell_row D7 1 _ rfl;have ee2:=cell_row D7 2 _ rfl;have ee3:=cell_row D7 3 _ rfl;have z7:=hb7.size;have BC7:=Lib.hid (bt BC.out hb7);clear hb7)
                 | (at_builtin;refine wp_appX _ rfl (.tmp 130) (.tmp 132) 64 98 _ _ 4 48 rfl Tryz.underlying64 df_i df_i0 df_i1 df_i2 rfl (by decide) (w.heap.size+2) u9 (.slice (some ⟨w7.heap.size,0,none⟩) 1 1) d.length 1 (tcs dc d) (dc (2,q0,q1,te.1.1.1.name)).toList rfl (own_keep HO.out (fun x hx=>((BC7.out.setCell (by simp;omega) _).alloc (by simp;omega) _).block x (own_base HO.out x hx).2)) rfl (cs_four (by simp)) (all1 (dc_one _)) (by unfold maxLen;omega) (by omega) (by simp;omega) ?_;intro a5 c5 w6 hown hg5 hat5;have O6:=Lib.hid hown;have M6:=Lib.hid ((HM.out.below ((BC7.out.setCell (by simp;omega) _).alloc (by simp;omega) _)).grown hg5 (fun q hq=>(own_base HO.out q hq).1));clear hown hg5 hat5))
                go_roundw
                case rel=>exact⟨k+1,_,by omega,by go_num,HD2,M6,Lib.hid (by rw[List.length_append,tcs_app,tcs_one];exact O6.out),by simp;omega⟩
                case measure=>simp [intOf];omega
              · have HD2:Hid (E.flatMap (dif1 L)++(L.take (k+1)).flatMap (dif2 E)=d):=Lib.hid (by
                 rw[HDn.out,<-List.append_assoc,HD.out]
                 unfold dif2
                 dsimp only
                 rw[hf]
                 dsimp only
                 rw[if_pos hv,if_pos hno,List.append_nil])
                clear hf hv hno g1 g2 hp
                go_wp2_with (first
                 | (go_at_call 53;(refine HSM.out.mono ?_);rintro _ w7 ⟨rfl,hb7⟩;have BC7:=Lib.hid (bt BC.out hb7);clear hb7))
                go_roundw
                case rel=>exact⟨k+1,d,by omega,by go_num,HD2,Lib.hid (HM.out.below BC7.out),Lib.hid (own_keep HO.out (fun x hx=>BC7.out.block x (own_base HO.out x hx).2)),by omega⟩
                case measure=>simp [intOf];omega
        · obtain rfl:k=L.length:=by omega
          have hD:difs E L=d:=by have:=HD.out;rwa [List.take_length] at this
          have HDD:=Lib.hid hD
          clear hD HD HC HP HSZ HFE
          go_wp2_with fail
          go_wp2_with (go_at_call 76;(refine (ss_list HO.out (by omega)).mono ?_);rintro _ w5 ⟨rfl,hrest⟩;have HEN:=Lib.hid hrest;clear hrest)
          go_ret
          obtain⟨d',hp,hs,hDF,hgr⟩:=HEN.out
          have e:=diff_uni E L d' (by rw[HDD.out];exact hp) hs
          rw[e] at hDF
          exact⟨_,rfl,hDF,HM.out.b.grown hgr HM.out.b.size (fun q hq=>by have:=(own_base HO.out q hq).1;omega)⟩
end
end Go.Proofs.YtnojclchnhmggaaGreatDoor
