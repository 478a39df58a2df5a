/- Several texts in one: Sh ShA Rw. -/
import Derived.Test.YtdfdjfnfmibpjaaGreatDoorAcA
import Derived.Test.YtdfdjfnfmibpjaaGreatDoorEc
import Derived.Test.YtdfdjfnfmibpjaaGreatDoorDsH
section
/- Records of catalogs in plain words: the next key; the rows of entries; rows that are distinct. No program in sight. -/
namespace Go.Proofs.YtdfdjfnfmibpjaaGreatDoor
set_option maxHeartbeats 1600000
set_option maxRecDepth 8000
abbrev Rw:=Int × ByteArray × ByteArray
def ltB (a b:List UInt8):Bool:=decide (Lib.compareBytes a b<0)
def nxq (id:Int) (k:List UInt8) (o:Option Rw) (x:Rw):Bool:=decide (x.1=id)&&(ltB k (Ds.bl x.2.1)&&(match o with | none=>true | some y=>ltB (Ds.bl x.2.1) (Ds.bl y.2.1)))
def nxs (id:Int) (k:List UInt8) (o:Option Rw) (x:Rw):Option Rw:=if nxq id k o x=true then some x else o
def nx (id:Int) (k:List UInt8) (l:List Rw):Option Rw:=l.foldl (nxs id k) none
theorem nx_snoc (id:Int) (k:List UInt8) (l:List Rw) (x:Rw):nx id k (l++[x])=nxs id k (nx id k l) x:=by
 unfold nx;rw[List.foldl_append];rfl
theorem nx_keep {id:Int} {k:List UInt8} {l:List Rw} {x:Rw} (h:nxq id k (nx id k l) x=false):nx id k (l++[x])=nx id k l:=by
 rw[nx_snoc];unfold nxs;rw[if_neg (by rw[h];simp)]
theorem nx_take {id:Int} {k:List UInt8} {l:List Rw} {x:Rw} (h:nxq id k (nx id k l) x=true):nx id k (l++[x])=some x:=by
 rw[nx_snoc];unfold nxs;rw[if_pos h]
def NI (id:Int) (key:List UInt8) (l:List Rw) (k:Nat) (j:Int):Prop:=(nx id key (l.take k)=none∧j=-1)∨∃ (i:Nat) (h:i<l.length),j=i∧i<k∧nx id key (l.take k)=some l[i]
theorem NI.keep {id:Int} {key:List UInt8} {l:List Rw} {k:Nat} {j:Int} (h:NI id key l k j) (hk:k<l.length) (hq:nxq id key (nx id key (l.take k)) l[k]=false):NI id key l (k+1) j:=by
 have e:nx id key (l.take (k+1))=nx id key (l.take k):=by rw[List.take_succ_eq_append_getElem hk];exact nx_keep hq
 unfold NI;rw[e]
 rcases h with h | ⟨i,h1,h2,h3,h4⟩
 · exact Or.inl h
 · exact Or.inr ⟨i,h1,h2,by omega,h4⟩
theorem NI.take {id:Int} {key:List UInt8} {l:List Rw} {k:Nat} (hk:k<l.length) (hq:nxq id key (nx id key (l.take k)) l[k]=true):NI id key l (k+1) (k:Int):=by
 refine Or.inr ⟨k,hk,rfl,by omega,?_⟩
 rw[List.take_succ_eq_append_getElem hk];exact nx_take hq
def cnt (id:Int) (k:List UInt8) (l:List Rw):Nat:=l.countP fun x=>decide (x.1=id)&&ltB k (Ds.bl x.2.1)
theorem cnt_le (id:Int) (k:List UInt8) (l:List Rw):cnt id k l≤l.length:=List.countP_le_length
end Go.Proofs.YtdfdjfnfmibpjaaGreatDoor
end
section
/- Contracts of the reference's shelf: failed, Next. -/
namespace Go.Proofs.YtdfdjfnfmibpjaaGreatDoor
open Go.RowKit
set_option maxHeartbeats 4000000
set_option maxRecDepth 8000
def RwS (w:World) (v:Value) (l:List Rw):Prop :=
 ∃ a c,v=.slice a l.length c∧l.length≤1000000∧(0<l.length→∃ b o,a=some ⟨b,o,none⟩∧b<w.heap.size∧∀ k (h:k<l.length),w.cell? ⟨b,o+k*3,none⟩=some (.int .i64 l[k].1)∧w.cell? ⟨b,o+k*3+1,none⟩=some (.string l[k].2.1)∧w.cell? ⟨b,o+k*3+2,none⟩=some (.string l[k].2.2))
theorem RwS.keep {w w':World} {v:Value} {l:List Rw} (h:RwS w v l) (hs:w.heap.size≤w'.heap.size) (hk:∀ b,v.ownBlock=some b→b<w.heap.size→w'.heap[b]?=w.heap[b]?):RwS w' v l:=by
 obtain⟨a,c,h1,h2,h3⟩:=h
 refine⟨a,c,h1,h2,fun h0=>?_⟩
 obtain⟨b,o,ha,hlt,hc⟩:=h3 h0
 subst ha
 have q:=fun i=>World.cell?_of_block (w:=w) (w':=w') (a:=⟨b,i,none⟩) (hk b (by rw[h1];rfl) hlt)
 exact⟨b,o,rfl,Nat.lt_of_lt_of_le hlt hs,fun k hk=>⟨(q _).trans (hc k hk).1,(q _).trans (hc k hk).2.1,(q _).trans (hc k hk).2.2⟩⟩
theorem RwS.below {w w':World} {v:Value} {l:List Rw} (h:RwS w v l) (hb:Below w.heap.size w w'):RwS w' v l:=h.keep hb.size (fun b _ hl=>hb.block b hl)
theorem RwS.nil (w:World):RwS w (.slice none 0 0) []:=⟨none,0,rfl,by decide,fun h=>by simp at h⟩
def SHf (w:World) (p:Nat) (sv:Value) (fl cd ca:Int):Prop:=row w p=#[sv,.int .i64 fl,.int .i64 cd,.int .i64 ca]∧∀ o,w.frozen? ⟨p,o,none⟩=false
theorem dN2 (w:World) (q n:Nat):(w.drewN q).drewN n=w.drewN (q+n):=by simp [World.drewN,Nat.add_assoc]
theorem sh_failed (p:Nat) (sv:Value) (fl cd ca:Int) (w:World) (h:SHf w p sv fl cd ca) (h0:0≤ca) (h1:ca<1000000000) :
  Calls Tryz.prog 315 #[.pointer (some ⟨p,0,none⟩)] w fun r w'=>r=.returned (.bool (decide (ca+1=fl)))∧∃ q,w'=(w.setCell ⟨p,3,none⟩ (.int .i64 (ca+1))).drewN q:=by
 obtain⟨hr,hf⟩:=h
 have c1:=cell_row hr 1 _ rfl
 have c3:=cell_row hr 3 _ rfl
 have f3:=hf 3
 have hp:=block_lt_of_cell c3
 have hw:IntKind.i64.wrap (ca+1)=ca+1:=IntWalk.i64_in _ ⟨by omega,by omega⟩
 have d1:(w.setCell ⟨p,3,none⟩ (.int .i64 (ca+1))).cell? ⟨p,1,none⟩=some (.int .i64 fl):=by
  rw[World.cell?_setCell_other _ _ _ _ (by intro h;cases h)];exact c1
 have d3:(w.setCell ⟨p,3,none⟩ (.int .i64 (ca+1))).cell? ⟨p,3,none⟩=some (.int .i64 (ca+1)):=World.cell?_setCell_same' _ _ _ (by rw[c3];rfl)
 have E:=Lib.hid (show (ca+1==fl)=decide (ca+1=fl) by rw[Bool.eq_iff_iff,beq_iff_eq,decide_eq_true_eq])
 clear hr hf
 go_enter Tryz.func315,Tryz.ntmps315
 go_wp2_with fail
 generalize hW:w.setCell ⟨p,3,none⟩ (.int .i64 (ca+1))=W at d1 d3 ⊢
 have HW:=Lib.hid hW
 clear hW
 go_quiet (fail)
 go_wp2_with fail
 go_ret
 exact⟨ret_bool E.out,_,(congrArg (fun z=>World.drewN z _) HW.out).symm⟩
end Go.Proofs.YtdfdjfnfmibpjaaGreatDoor
end
section
/- Contracts of the reference of chapter 34: Rows. -/
namespace Go.Proofs.YtdfdjfnfmibpjaaGreatDoor
open Go.RowKit
set_option maxHeartbeats 4000000
set_option maxRecDepth 8000
def rv:List Rw→List Value
 | []=>[]
 | x::r=>[.int .i64 x.1,.string x.2.1,.string x.2.2]++rv r
theorem rv_len:∀ l:List Rw,(rv l).length=l.length*3
 | []=>rfl
 | x::r=>by rw[rv,List.length_append,rv_len r,List.length_cons,List.length_cons,List.length_cons,List.length_cons,List.length_nil];omega
theorem rv_one:∀ (l:List Rw),∀ u∈rv l,u.oneCell'=true
 | [],u,h=>by cases h
 | x::r,u,h=>by
   rw[rv,List.mem_append] at h
   rcases h with h | h
   · simp only[List.mem_cons,List.not_mem_nil,or_false] at h
     rcases h with rfl | rfl | rfl <;> rfl
   · exact rv_one r u h
theorem rv_app:∀ (l m:List Rw),rv (l++m)=rv l++rv m
 | [],m=>rfl
 | x::r,m=>by rw[List.cons_append,rv,rv,rv_app r m,List.append_assoc]
theorem rv_get:∀ (l:List Rw) (k:Nat) (h:k<l.length),(rv l)[k*3]?=some (.int .i64 l[k].1)∧(rv l)[k*3+1]?=some (.string l[k].2.1)∧(rv l)[k*3+2]?=some (.string l[k].2.2)
 | x::r,0,_=>⟨rfl,rfl,rfl⟩
 | x::r,k+1,h=>by
   have:=rv_get r k (by simpa using h)
   have e:(k+1)*3=k*3+3:=by omega
   rw[e,rv]
   simpa using this
theorem rv_all (l:List Rw) (P:Nat→Value→Prop) (h:∀ k (h:k<l.length),P (k*3) (.int .i64 l[k].1)∧P (k*3+1) (.string l[k].2.1)∧P (k*3+2) (.string l[k].2.2)):∀ j u,(rv l)[j]?=some u→P j u:=by
 intro j u hu
 have hj:=(List.getElem?_eq_some_iff.1 hu).1
 rw[rv_len] at hj
 have hk:j / 3<l.length:=by omega
 obtain⟨p0,p1,p2⟩:=h (j / 3) hk
 obtain⟨q0,q1,q2⟩:=rv_get l (j / 3) hk
 rcases (by omega:j=j / 3*3∨j=j / 3*3+1∨j=j / 3*3+2) with e | e | e
 · rw[← e] at p0 q0;rw[q0] at hu;cases hu;exact p0
 · rw[← e] at p1 q1;rw[q1] at hu;cases hu;exact p1
 · rw[← e] at p2 q2;rw[q2] at hu;cases hu;exact p2
theorem RwS.cells {w:World} {v:Value} {l:List Rw} (h:RwS w v l):CS w 3 v l.length (rv l):=by
 obtain⟨a,c,rfl,-,hc⟩:=h
 refine⟨a,c,rfl,rv_len l,fun h0=>?_⟩
 obtain⟨b,o,rfl,-,p⟩:=hc h0
 refine⟨_,rfl,rv_all l (fun j u=>w.cell? ((⟨b,o,none⟩:Addr).add j)=some u) fun k hk=>?_⟩
 rw[Addr.add_lit,Addr.add_lit,Addr.add_lit]
 exact p k hk
theorem rws_of_cells {w:World} {v:Value} {l:List Rw} (hz:l.length≤1000000) (h:CS w 3 v l.length (rv l)):RwS w v l:=by
 obtain⟨a,c,rfl,hl,hc⟩:=h
 refine⟨a,c,rfl,hz,fun h0=>?_⟩
 obtain⟨⟨b,o,s⟩,rfl,p⟩:=hc h0
 have p0:=p 0 _ (rv_get l 0 h0).1
 obtain rfl:s=none:=by
  have:=World.cell?_spot p0
  simpa [Addr.add] using this
 refine⟨b,o,rfl,block_lt_of_cell (by simpa [Addr.add] using p0:w.cell? ⟨b,o,none⟩=_),fun k hk=>?_⟩
 obtain⟨q0,q1,q2⟩:=rv_get l k hk
 have r0:=p _ _ q0
 have r1:=p _ _ q1
 have r2:=p _ _ q2
 rw[Addr.add_lit] at r0 r1 r2
 exact⟨r0,r1,r2⟩
theorem below_al' (w:World) (o:Obj):Below w.heap.size w (w.alloc o):=(Below.refl _ _).alloc (Nat.le_refl _) o
theorem rw_i:Tryz.prog.info? 113=some ((Tryz.prog.info? 113).getD default):=by kernel_rfl
theorem rw_i0:((Tryz.prog.info? 113).getD default).zero=some (.agg #[.int .i64 0,.string ⟨#[]⟩,.string ⟨#[]⟩]):=by kernel_rfl
theorem rw_i1:((Tryz.prog.info? 113).getD default).size=3:=by kernel_rfl
theorem rw_i2:((Tryz.prog.info? 113).getD default).bytes=40:=by kernel_rfl
theorem cs_row1 (W:World) (x:Rw) (t:TypeId) (k:Nat) (hk:k=W.heap.size):CS (W.alloc (.cells #[.int .i64 x.1,.string x.2.1,.string x.2.2] t)) 3 (.slice (some ⟨k,0,none⟩) 1 1) 1 (rv [x]):=by
 subst hk
 refine⟨_,_,rfl,rfl,fun _=>⟨_,rfl,fun j u hu=>?_⟩⟩
 rw[Addr.add_lit,Nat.zero_add,cell_of_row _ W.heap.size j _ t (0,0) (heap_alloc_new W _)]
 have:rv [x]=(#[Value.int .i64 x.1,Value.string x.2.1,Value.string x.2.2]:Array Value).toList:=rfl
 rw[this] at hu
 simpa using hu
attribute [local go_sem ↓] ldEntM
attribute [local go_sem] headOf_mk offOf_mk isPtr_mk row_drew row_drewN
end Go.Proofs.YtdfdjfnfmibpjaaGreatDoor
end
