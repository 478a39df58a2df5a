/- Contract of the reference of chapter 37: Entries. -/
import Derived.Test.YtnojclchnhmggaaGreatDoorBg
import Derived.Test.YtnojclchnhmggaaGreatDoorSrt
import Derived.Test.YtnojclchnhmggaaGreatDoorBn
import Derived.Test.YtnojclchnhmggaaGreatDoorBi1
import Derived.StillTailTactics
namespace Go.Proofs.YtnojclchnhmggaaGreatDoor
open Go.RowKit
set_option maxRecDepth 8000
set_option maxHeartbeats 16000000
section
set_option linter.unusedSimpArgs false
section
variable {α κ:Type} [DecidableEq κ] (k:α->κ) (bet:α->α->Bool) (x:α)
theorem tput_at:∀ (l:List α) (i:Nat) (h:i<l.length),(∀ j (hj:j<i),k (l[j]'(by omega))≠k x)->k l[i]=k x->tput k bet l x=if bet x l[i]=true then l.set i x else l
 | [],i,h,_,_=>by simp at h
 | y::r,0,_,_,he=>by
   rw[tput,if_pos (by simpa using he)]
   simp
 | y::r,i+1,h,hn,he=>by
   have h0:=hn 0 (by omega)
   rw[tput,if_neg (by simpa using h0),tput_at r i (by simpa using h) (fun j hj=>by have:=hn (j+1) (by omega);simpa using this) (by simpa using he)]
   simp only[List.getElem_cons_succ,List.set_cons_succ]
   split <;> rfl
theorem tput_end:∀ (l:List α),(∀ j (hj:j<l.length),k l[j]≠k x)->tput k bet l x=l++[x]
 | [],_=>rfl
 | y::r,hn=>by
   have h0:=hn 0 (by simp)
   rw[tput,if_neg (by simpa using h0),tput_end r (fun j hj=>by have:=hn (j+1) (by simpa using hj);simpa using this)]
   rfl
end
theorem own_set {α:Type} {f:α->Array Value} {n:Nat} (hn:0<n) (hf:∀ t,(f t).size=n) {w:World} {base g c:Nat} {T:TypeId} {ts:List α} (h:w.ownsRow base T n (.slice (some ⟨g,0,none⟩) ts.length c) ts.length (tcs f ts)) (k:Nat) (hk:k<ts.length) (t:α) :
  (w.setCells g (k*n) (f t).toList).ownsRow base T n (.slice (some ⟨g,0,none⟩) ts.length c) ts.length (tcs f (ts.set k t))∧w.grownBy (w.setCells g (k*n) (f t).toList) (some g):=by
 have hl:(tcs f (ts.set k t)).length=ts.length*n:=by rw[tcs_len f n hf,List.length_set]
 rcases h.2 with ⟨h1,-⟩ | ⟨g',cap,cur,e,hb,hg,hnc,hcm,hcs,ht⟩
 · cases h1
 cases e
 have hkn:k*n+n<=ts.length*n:=by rw[<-Nat.succ_mul];exact Nat.mul_le_mul_right n hk
 have hcn:ts.length*n<=c*n:=Nat.mul_le_mul_right n hnc
 have hne:(f t).toList≠[]:=by intro e;have:=congrArg List.length e;rw[Array.length_toList,hf] at this;simp at this;omega
 have hlt:(f t).toList.length=n:=by rw[Array.length_toList,hf]
 rw[setCells_over g T (f t).toList (k*n) w cur hg hne]
 refine⟨⟨hl,.inr ⟨g,c,over cur (k*n) (f t).toList,rfl,hb,?_,hnc,hcm,by rw[over_size];exact hcs,?_⟩⟩,⟨rfl,rfl,rfl,by simp,fun i _ hne=>setRow_block _ _ _ _ (fun e=>hne (by rw[e]))⟩⟩
 · unfold World.setRow
   simp [Array.getElem?_modify,hg]
 · refine List.ext_getElem? fun j=>?_
   by_cases hj:j<ts.length*n
   · rw[List.getElem?_take,if_pos hj,Array.getElem?_toList,over_get _ _ _ _ (by omega) (by rw[hlt];omega),hlt]
     have q1:j / n<ts.length:=Nat.div_lt_of_lt_mul (by rw[Nat.mul_comm];exact hj)
     have q2:j % n<n:=Nat.mod_lt _ hn
     have q3:j / n*n+j % n=j:=Nat.div_add_mod' j n
     have hr:=tcs_at f n hf (ts.set k t) (j / n) (by rw[List.length_set];exact q1) (j % n) q2
     have ho:=tcs_at f n hf ts (j / n) q1 (j % n) q2
     rw[q3] at hr ho
     rw[hr,List.getElem_set]
     by_cases hq:k=j / n
     · rw[if_pos hq,if_pos ⟨by rw[hq];omega,by rw[hq];omega⟩,Array.getElem?_toList]
       congr 1
       rw[hq];omega
     · rw[if_neg hq,if_neg (fun hh=>hq (by
        have h1:k<=j / n:=(Nat.le_div_iff_mul_le hn).2 hh.1
        have h2:j / n<k+1:=(Nat.div_lt_iff_lt_mul hn).2 (by rw[Nat.succ_mul];exact hh.2)
        omega)),<-ho,<-ht,List.getElem?_take,if_pos hj,Array.getElem?_toList]
   · rw[List.getElem?_eq_none (by rw[List.length_take];exact Nat.le_trans (Nat.min_le_left _ _) (by omega)),List.getElem?_eq_none (by omega)]
theorem own_there {α:Type} {f:α->Array Value} {n:Nat} (_:∀ t,(f t).size=n) {w:World} {base g c:Nat} {T:TypeId} {ts:List α} (h:w.ownsRow base T n (.slice (some ⟨g,0,none⟩) ts.length c) ts.length (tcs f ts)) (k:Nat) (hk:k<ts.length):w.there g (k*n) n:=by
 rcases h.2 with ⟨h1,-⟩ | ⟨g',cap,cur,e,hb,hg,hnc,hcm,hcs,ht⟩
 · cases h1
 cases e
 have hkn:k*n+n<=ts.length*n:=by rw[<-Nat.succ_mul];exact Nat.mul_le_mul_right n hk
 have hcn:ts.length*n<=c*n:=Nat.mul_le_mul_right n hnc
 intro j hj
 have hlt:k*n+j<cur.size:=by omega
 exact⟨by simp [World.cell?,hg,hlt],by simp [World.frozen?,hg]⟩
theorem ldTR (ev:Operand->Value) (w:World) (dst x t pos af gd) (h1:isHead (ev x)=true) (h2:(row w (headOf (ev x))).size=34) :
  (execOp ev ⟨dst,.load 139 x,t,pos,af,gd⟩).run Tryz.prog w=.ok (.value (.agg (row w (headOf (ev x))))) w :=
 exec_load_row ev w _ 33 _ Tryz.underlying139 rfl (by kernel_rfl) dst x t pos af gd h1 h2
def Th34 (w:World) (b o:Nat):Prop:=w.there b o 34
theorem stTR (ev:Operand->Value) (w:World) (dst x y t' pos af gd) (h1:isPtr (ev x)=true) (h2:Th34 w (headOf (ev x)) (offOf (ev x))) (h3:isAggV (ev y)=true) (h4:(cellsOfV (ev y)).size=34) (h5:allOne (cellsOfV (ev y)).toList=true) :
  (execOp ev ⟨dst,.store 139 x y,t',pos,af,gd⟩).run Tryz.prog w=.ok .skip (w.setCells (headOf (ev x)) (offOf (ev x)) (cellsOfV (ev y)).toList):=by
 obtain⟨cs,hc⟩:∃ cs,ev y=.agg cs:=by
  unfold isAggV at h3
  split at h3
  · rename_i g h;exact⟨g,h⟩
  · cases h3
 obtain⟨b,o,hb⟩:∃ b o,ev x=.pointer (some ⟨b,o,none⟩):=by
  unfold isPtr at h1
  split at h1
  · rename_i b o h;exact⟨b,o,h⟩
  · cases h1
 rw[hc,cellsOfV_mk] at h4 h5 ⊢
 rw[hb] at h2 ⊢
 have h5:cs.all (·.oneCell')=true:=by rw[<-Array.all_toList];exact allOne_all _ h5
 have hi:(Tryz.prog.info? 139).map (·.size)=some cs.size:=by rw[h4];kernel_rfl
 have ht:w.there b o cs.size:=by rw[h4];exact h2
 have hs:=run_storeVar_mid (P:=Tryz.prog) w b o 139 cs ht hi h5
 unfold execOp
 simp only[hb,hc,Instr.storeAt,Instr.sureAddr,Sem.run_bind,Sem.run_pure,Result.andThen_ok,hs]
 rfl
theorem bldTR (ev:Operand->Value) (w:World) (dst x t pos af gd) (h3:isAggV (ev x)=true) (h4:(cellsOfV (ev x)).size=34) :
  (execOp ev ⟨dst,.buildSlice 136 1 #[(0,x)],t,pos,af,gd⟩).run Tryz.prog w=.ok (.value (.slice (some ⟨w.heap.size,0,none⟩) 1 1)) (w.alloc (.cells (cellsOfV (ev x)) 139)):=by
 obtain⟨cs,hc⟩:∃ cs,ev x=.agg cs:=by
  unfold isAggV at h3
  split at h3
  · rename_i g h;exact⟨g,h⟩
  · cases h3
 rw[hc,cellsOfV_mk] at h4 ⊢
 go_simp
 have hsz:cs.zipIdx.size=34:=by simp [h4]
 rw[<-hsz,<-Array.foldl_toList,Array.toList_zipIdx,foldl_over,over_all _ cs (by rw[h4];rfl)]
theorem bldTK (ev:Operand->Value) (w:World) (dst x y t pos af gd) (h3:isAggV (ev x)=true) (h4:(cellsOfV (ev x)).size=33) (h5:isIntW (ev y)=true) :
  (execOp ev ⟨dst,.build 139 #[(0,x),(1,y)],t,pos,af,gd⟩).run Tryz.prog w=.ok (.value (.agg (cellsOfV (ev x)++#[ev y]))) w:=by
 obtain⟨cs,hc⟩:∃ cs,ev x=.agg cs:=by
  unfold isAggV at h3
  split at h3
  · rename_i g h;exact⟨g,h⟩
  · cases h3
 obtain⟨k,n,hn⟩:∃ k n,ev y=.int k n:=by
  unfold isIntW at h5
  split at h5
  · rename_i k n h;exact⟨k,n,h⟩
  · cases h5
 rw[hc,cellsOfV_mk] at h4 ⊢
 rw[hn]
 go_simp
 have hb:=fun zs hz=>bld34 zs cs (.int k n) hz h4
 rw[(hb _ rfl).2,(hb _ rfl).1]
 rfl
theorem tr_i:Tryz.prog.info? 139=some ((Tryz.prog.info? 139).getD default):=by kernel_rfl
theorem tr_i0:((Tryz.prog.info? 139).getD default).zero=some (.agg (TE.cs default)):=by
 show _=some (Value.agg (zcells 0 ⟨#[]⟩++#[.int .i64 0]))
 rw[<-zlit_eq]
 kernel_rfl
theorem tr_i1:((Tryz.prog.info? 139).getD default).size=34:=by kernel_rfl
theorem tr_i2:((Tryz.prog.info? 139).getD default).bytes=344:=by kernel_rfl
theorem cs_tr {X:World} {cs:Array Value} {t:TypeId} {q:Nat} (hq:X.heap.size=q) (hz:cs.size=34):CS (X.alloc (.cells cs t)) 34 (.slice (some ⟨q,0,none⟩) 1 1) 1 cs.toList:=by
 subst hq
 refine⟨_,_,rfl,by simp [hz],fun _=>⟨_,rfl,fun j u hu=>?_⟩⟩
 rw[Addr.add_lit,Nat.zero_add,cell_of_row _ X.heap.size j cs t (0,0) (heap_alloc_new X _)]
 simpa using hu
abbrev tkE (t:TE):Int × ByteArray:=tKey t.1
abbrev bgE (a b:TE):Bool:=betG a.1 b.1
attribute [local go_sem ↓] ldTR stTR bldTR
attribute [local go_sem] isHead_mk headOf_mk offOf_mk isPtr_mk cellsOfV_mk isAggV_mk row_new row_new2 row_new2' row_drew row_drewN allOne_nil allOne_cons one_int one_bool one_string one_pointer one_slice one_func TE.cs_size TE.cs_one isIntW_mk
theorem r37_add (ts:List TE) (t:TE) (g c base:Nat) (w:World) (hJ:TJE TE.cs 34 139 base w (.slice (some ⟨g,0,none⟩) ts.length c) ts) (hr:RdT w t) (hf:FarT (some g) t) (hn:ts.length<=1000) (hbs:base<=w.heap.size) :
  Calls Tryz.prog 74 #[.slice (some ⟨g,0,none⟩) ts.length c,.agg t.cs] w fun r w'=>∃ g' c',r=.returned (.slice (some ⟨g',0,none⟩) (tput tkE bgE ts t).length c')∧TJE TE.cs 34 139 base w' (.slice (some ⟨g',0,none⟩) (tput tkE bgE ts t).length c') (tput tkE bgE ts t)∧w.grownBy w' (some g)∧(g'=g∨w.heap.size<=g'):=by
 have hcl:∀ (k:Nat) (h:k<ts.length) (j:Nat) (u:Value),ts[k].cs[j]?=some u->w.cell? ⟨g,k*34+j,none⟩=some u:=fun k h j u hu=>by
  obtain⟨a,c',e,hp⟩:=own_at TE.cs_size hJ.own
  injection e with e1 e2 e3
  obtain⟨g',e4,-,-,hq⟩:=hp (by omega)
  rw[e4] at e1
  cases e1
  exact hq k h j u hu
 have hgl:=(own_base hJ.own g rfl).2
 have HCL:=Lib.hid hcl
 have HJ:=Lib.hid hJ
 have HR:=Lib.hid (And.intro hr hf)
 have HAT:=Lib.hid (tput_at tkE bgE t ts)
 have HEN:=Lib.hid (tput_end tkE bgE t ts)
 have R1:=row_new w t.cs 139 (0,0)
 have B1:Below w.heap.size w (w.alloc (.cells t.cs 139)):=below_al' _ _
 clear hJ hr hf hcl
 generalize hts:tput tkE bgE ts t=ts' at HAT HEN ⊢
 clear hts
 go_enter Tryz.func74,Tryz.ntmps74
 go_wp2_with fail
 generalize w.alloc _=W1 at R1 B1 ⊢
 have HB1:=Lib.hid B1
 clear B1
 go_loopw [5] (fun i wr=>∃ (k:Nat),k<=ts.length∧i=.int .i64 k∧Hid (∀ j (hj:j<k) (hl:j<ts.length),tkE ts[j]≠tkE t)∧Hid (Below W1.heap.size W1 wr)) (fun i _=>ts.length - (intOf i).toNat)
 case atStart=>exact⟨0,Nat.zero_le _,rfl,Lib.hid (fun j hj=>absurd hj (by omega)),Lib.hid (Below.refl _ _)⟩
 case round =>
  obtain⟨k,hk,rfl,HN,HB⟩:=hrel
  have R2:=row_below HB.out R1 (by rw[TE.cs_size];decide)
  have HBw:Hid (Below w.heap.size w wr):=Lib.hid (bt HB1.out HB.out)
  have i1:(0:Int)<=(k:Int):=by omega
  by_cases hlt:k<ts.length
  · have hc2:=fun j u hu=>(HBw.out.cell (p:=⟨g,k*34+j,none⟩) hgl).trans (HCL.out k hlt j u hu)
    have hat:=HAT.out k hlt
    generalize hy:ts[k]=y at hc2 hat
    have p0:wr.cell? ⟨g,k*34,none⟩=some (.int .i64 y.1.1.1.kind):=hc2 0 _ y.cs_0
    have p1:=hc2 1 _ y.cs_1
    have p26:=hc2 26 _ y.cs_26
    have p33:=hc2 33 _ y.cs_33
    have q0:=cell_row R2 0 _ t.cs_0
    have q1:=cell_row R2 1 _ t.cs_1
    have q26:=cell_row R2 26 _ t.cs_26
    have q33:=cell_row R2 33 _ t.cs_33
    have i2:(k:Int)<(ts.length:Int):=by omega
    have tn:=tl_beq y.1.1.1.name t.1.1.1.name
    clear hc2
    by_cases h1:y.1.1.1.kind=t.1.1.1.kind∧y.1.1.1.name=t.1.1.1.name
    rotate_left
    · have HN2:Hid (∀ j (hj:j<k+1) (hl:j<ts.length),tkE ts[j]≠tkE t):=Lib.hid (fun j hj hl=>by
       rcases Nat.lt_or_ge j k with q | q
       · exact HN.out j q hl
       · obtain rfl:j=k:=by omega
         rw[hy]
         exact fun e=>h1 ⟨(Prod.mk.inj e).1,(Prod.mk.inj e).2⟩)
      clear hat HN hy
      by_cases h2:y.1.1.1.kind=t.1.1.1.kind
      · have t1:(y.1.1.1.kind != t.1.1.1.kind)=false:=by rw[h2];simp
        rw[decide_eq_false (fun q=>h1 ⟨h2,q⟩)] at tn
        clear h1 h2
        go_wp2_with fail
        go_quiet (fail)
        go_wp2_with fail
        go_roundw
        case rel=>exact⟨k+1,by omega,by go_num,HN2,Lib.hid (HB.out.trans (bdr _ _ _))⟩
        case measure=>simp [intOf];omega
      · have t1:(y.1.1.1.kind != t.1.1.1.kind)=true:=bne_iff_ne.2 h2
        clear h1 h2
        go_wp2_with fail
        go_quiet (fail)
        go_wp2_with fail
        go_roundw
        case rel=>exact⟨k+1,by omega,by go_num,HN2,Lib.hid (HB.out.trans (bdr _ _ _))⟩
        case measure=>simp [intOf];omega
    obtain⟨h1,h2⟩:=h1
    have hkey:tkE y=tkE t:=Prod.ext h1 h2
    have hres:=hat (fun j hj=>HN.out j hj (by omega)) hkey
    have t1:(y.1.1.1.kind != t.1.1.1.kind)=false:=by rw[h1];simp
    rw[decide_eq_true h2] at tn
    have hbt:bgE t y=(decide (y.1.1.1.last<t.1.1.1.last) || (decide (t.1.1.1.last=y.1.1.1.last)&&decide (y.1.2<t.1.2))):=rfl
    generalize bgE t y=bb at hres hbt
    clear hat h1 h2 hkey HN hy
    have hgoal:∀ W2:World,Below w.heap.size w W2->(bb=true->(∃ g' c',(Value.slice (some ⟨g,0,none⟩) ts.length c)=(.slice (some ⟨g',0,none⟩) ts'.length c')∧TJE TE.cs 34 139 base (W2.setCells g (k*34) t.cs.toList) (.slice (some ⟨g',0,none⟩) ts'.length c') ts'∧w.grownBy (W2.setCells g (k*34) t.cs.toList) (some g)∧(g'=g∨w.heap.size<=g')))∧(bb=false->(∃ g' c',(Value.slice (some ⟨g,0,none⟩) ts.length c)=(.slice (some ⟨g',0,none⟩) ts'.length c')∧TJE TE.cs 34 139 base W2 (.slice (some ⟨g',0,none⟩) ts'.length c') ts'∧w.grownBy W2 (some g)∧(g'=g∨w.heap.size<=g'))):=fun W2 b2=>by
     have hJ2:=HJ.out.below b2
     refine⟨fun e=>?_,fun e=>?_⟩
     · rw[if_pos e] at hres
       subst hres
       obtain⟨o1,o2⟩:=own_set (by decide) TE.cs_size hJ2.own k hlt t
       refine⟨g,c,by rw[List.length_set],⟨by rw[List.length_set];exact o1,fun u hu=>?_⟩,(grown_of_below _ b2).trans o2,.inl rfl⟩
       have hq:RdT W2 u∧FarT (some g) u:=by
        rcases List.mem_or_eq_of_mem_set hu with q | q
        · exact hJ2.rd u q
        · rw[q];exact⟨HR.out.1.below b2,HR.out.2⟩
       exact⟨hq.1.keep hq.2 o2.size (fun y hy hne=>o2.block y hy (fun e=>hne e.symm)),hq.2⟩
     · rw[if_neg (by rw[e];simp)] at hres
       subst hres
       exact⟨g,c,rfl,hJ2,grown_of_below _ b2,.inl rfl⟩
    have HG:=Lib.hid hgoal
    have HTH:=Lib.hid (fun (W2:World) (b2:Below w.heap.size w W2)=>(show Th34 W2 g (k*34) from own_there TE.cs_size (HJ.out.below b2).own k hlt))
    clear hgoal hres HAT HEN HJ HR HCL
    by_cases hA:y.1.1.1.last<t.1.1.1.last
    · rw[decide_eq_true hA,Bool.true_or] at hbt
      subst hbt
      have dA:decide (y.1.1.1.last<t.1.1.1.last)=true:=decide_eq_true hA
      go_wp2_with fail
      go_quiet (fail)
      go_wp2_with fail
      go_quiet (fail)
      generalize hW2:World.drewN (World.drewN wr _) _=W2
      have B2:Below w.heap.size w W2:=by rw[<-hW2];exact (HBw.out.trans (bdr _ _ _)).trans (bdr _ _ _)
      have R3:row W2 w.heap.size=t.cs:=by rw[<-hW2];exact R2
      have th:=HTH.out W2 B2
      have HG2:=Lib.hid ((HG.out W2 B2).1 trivial)
      clear hW2 p0 p1 p26 p33 q0 q1 q26 q33 R2 R1 HTH HG B2
      go_wp2_with fail
      go_ret
      obtain⟨g',c',e,hT,hg⟩:=HG2.out
      exact⟨g',c',congrArg Ending.returned e,hT,hg⟩
    have dA:decide (y.1.1.1.last<t.1.1.1.last)=false:=decide_eq_false hA
    rw[dA,Bool.false_or] at hbt
    by_cases hE:t.1.1.1.last=y.1.1.1.last
    rotate_left
    · rw[decide_eq_false hE,Bool.false_and] at hbt
      subst hbt
      have dE:(t.1.1.1.last==y.1.1.1.last)=false:=beq_eq_false_iff_ne.2 hE
      clear hE hA
      go_wp2_with fail
      go_quiet (fail)
      go_wp2_with fail
      go_quiet (fail)
      generalize hW2:World.drewN (World.drewN wr _) _=W2
      have B2:Below w.heap.size w W2:=by rw[<-hW2];exact (HBw.out.trans (bdr _ _ _)).trans (bdr _ _ _)
      have HG2:=Lib.hid ((HG.out W2 B2).2 trivial)
      clear hW2 p0 p1 p26 p33 q0 q1 q26 q33 R2 R1 HTH HG B2
      go_wp2_with fail
      go_ret
      obtain⟨g',c',e,hT,hg⟩:=HG2.out
      exact⟨g',c',congrArg Ending.returned e,hT,hg⟩
    have dE:(t.1.1.1.last==y.1.1.1.last)=true:=by rw[hE];simp
    rw[decide_eq_true hE,Bool.true_and] at hbt
    clear hE hA
    by_cases hI:y.1.2<t.1.2
    · rw[decide_eq_true hI] at hbt
      subst hbt
      have dI:decide (y.1.2<t.1.2)=true:=decide_eq_true hI
      go_wp2_with fail
      go_quiet (fail)
      go_wp2_with fail
      go_quiet (fail)
      generalize hW2:World.drewN (World.drewN wr _) _=W2
      have B2:Below w.heap.size w W2:=by rw[<-hW2];exact (HBw.out.trans (bdr _ _ _)).trans (bdr _ _ _)
      have R3:row W2 w.heap.size=t.cs:=by rw[<-hW2];exact R2
      have th:=HTH.out W2 B2
      have HG2:=Lib.hid ((HG.out W2 B2).1 trivial)
      clear hW2 p0 p1 p26 p33 q0 q1 q26 q33 R2 R1 HTH HG B2
      go_wp2_with fail
      go_ret
      obtain⟨g',c',e,hT,hg⟩:=HG2.out
      exact⟨g',c',congrArg Ending.returned e,hT,hg⟩
    · rw[decide_eq_false hI] at hbt
      subst hbt
      have dI:decide (y.1.2<t.1.2)=false:=decide_eq_false hI
      go_wp2_with fail
      go_quiet (fail)
      go_wp2_with fail
      go_quiet (fail)
      generalize hW2:World.drewN (World.drewN wr _) _=W2
      have B2:Below w.heap.size w W2:=by rw[<-hW2];exact (HBw.out.trans (bdr _ _ _)).trans (bdr _ _ _)
      have HG2:=Lib.hid ((HG.out W2 B2).2 trivial)
      clear hW2 p0 p1 p26 p33 q0 q1 q26 q33 R2 R1 HTH HG B2
      go_wp2_with fail
      go_ret
      obtain⟨g',c',e,hT,hg⟩:=HG2.out
      exact⟨g',c',congrArg Ending.returned e,hT,hg⟩
  · obtain rfl:k=ts.length:=by omega
    have hres:=HEN.out (fun j hj=>HN.out j hj hj)
    subst hres
    have t3:decide ((ts.length:Int)<(ts.length:Int))=false:=by simp
    have hl1:(ts++[t]).length=ts.length+1:=by simp
    have B2:=Lib.hid (bt HBw.out (below_al' wr (.cells t.cs 139)))
    have HJ2:=Lib.hid (HJ.out.below B2.out)
    clear HN HAT HEN
    go_wp2_with (at_builtin;refine wp_appX _ rfl (.tmp 71) (.tmp 73) 136 139 _ _ 34 344 rfl Tryz.underlying136 tr_i tr_i0 tr_i1 tr_i2 (TE.cs_size _) (by decide) base (.slice (some ⟨g,0,none⟩) ts.length c) (.slice (some ⟨wr.heap.size,0,none⟩) 1 1) ts.length 1 (tcs TE.cs ts) t.cs.toList rfl HJ2.out.own rfl (cs_tr rfl (TE.cs_size _)) (all1 t.cs_one) (by unfold maxLen;omega) (by omega) (Nat.le_trans hbs B2.out.size) ?_;intro a5 c5 w5 hown hg hat;have HOWN:=Lib.hid hown;have HGR:=Lib.hid hg;have HAT:=Lib.hid hat;clear hown hg hat)
    go_ret
    obtain⟨g',rfl,-,-⟩:=own_someR HOWN.out (by omega)
    refine⟨g',c5,by rw[hl1];rfl,?_,(grown_of_below _ B2.out).trans HGR.out,HAT.out.imp (fun e=>Option.some.inj e) (fun e=>by have e2:g'=_:=Option.some.inj e;rw[e2];exact B2.out.size)⟩
    rw[hl1]
    have:=HJ2.out.snoc HOWN.out HGR.out HAT.out (HR.out.1.below B2.out) HR.out.2
    exact this
end
section
def ltT (a b:TE):Bool:=ltK a.1.1 b.1.1
theorem insL_lenG {α:Type} (lt:α->α->Bool) (l:List α) (x:α):(insL lt l x).length=l.length+1:=by
 have:=(insL_perm lt l x).length_eq
 rw[this,List.length_cons]
theorem insK_stepG {α:Type} (lt:α->α->Bool) (x y:α) (l:List α) (k:Nat) (h:k<l.length) (hy:l[k]=y):insK lt x l (k+1)=if lt x y=true then insK lt x l k else k+1:=by
 rw[insK,List.getElem?_eq_getElem h,hy]
theorem insK_map {α β:Type} (f:α->β) (lt:β->β->Bool) (x:α) (l:List α):∀ k,k<=l.length->insK (fun a b=>lt (f a) (f b)) x l k=insK lt (f x) (l.map f) k
 | 0,_=>rfl
 | k+1,h=>by
   rw[insK_stepG (fun a b=>lt (f a) (f b)) x l[k] l k h rfl,insK_stepG lt (f x) (f l[k]) (l.map f) k (by rw[List.length_map];omega) (by simp),insK_map f lt x l k (by omega)]
theorem insL_map {α β:Type} (f:α->β) (lt:β->β->Bool) (x:α) (l:List α):(insL (fun a b=>lt (f a) (f b)) l x).map f=insL lt (l.map f) (f x):=by
 unfold insL
 rw[insK_map f lt x l l.length (Nat.le_refl _),List.length_map]
 simp
theorem srtL_map {α β:Type} (f:α->β) (lt:β->β->Bool) (l:List α):∀ a:List α,(l.foldl (insL (fun a b=>lt (f a) (f b))) a).map f=(l.map f).foldl (insL lt) (a.map f):=by
 induction l with
 | nil=>intro a;rfl
 | cons x r ih=>intro a;rw[List.foldl_cons,ih,List.map_cons,List.foldl_cons,insL_map f lt x a]
theorem key_less (x y:Fu):Op.bytesLess (keyZ x.1.kind x.1.name).toList (keyZ y.1.kind y.1.name).toList=ltK x y:=by
 rw[lessB]
 unfold ltK cmpK cmpB
 have h1:(keyZ x.1.kind x.1.name).data.toList=keyX x:=by first | rfl | exact keyZ_bl _ _
 have h2:(keyZ y.1.kind y.1.name).data.toList=keyX y:=by first | rfl | exact keyZ_bl _ _
 rw[h1,h2]
theorem key_gtr (x y:Fu):(!Op.bytesLess (keyZ y.1.kind y.1.name).toList (keyZ x.1.kind x.1.name).toList&&!((keyZ y.1.kind y.1.name).toList==(keyZ x.1.kind x.1.name).toList))=ltK x y:=by
 rw[key_less,tl_beq]
 unfold ltK
 have hn:=cmpK_is.neg x y
 have h1:keyX x=(keyZ x.1.kind x.1.name).data.toList:=by first | rfl | exact (keyZ_bl _ _).symm
 have h2:keyX y=(keyZ y.1.kind y.1.name).data.toList:=by first | rfl | exact (keyZ_bl _ _).symm
 by_cases h:keyZ y.1.kind y.1.name=keyZ x.1.kind x.1.name
 · have h0:cmpK x y=0:=(Ds.cmp_zero _ _).2 (by rw[h1,h2,h])
   have h3:cmpK y x=0:=(Ds.cmp_zero _ _).2 (by rw[h1,h2,h])
   rw[decide_eq_true h,h0,h3]
   rfl
 · have h0:cmpK x y≠0:=fun q=>h (Ds.bl_inj (by
    have:=(Ds.cmp_zero _ _).1 q
    rw[h1,h2] at this
    exact this.symm))
   rw[decide_eq_false h]
   rcases Int.lt_trichotomy (cmpK x y) 0 with c | c | c
   · rw[decide_eq_true c,decide_eq_false (by omega)];rfl
   · exact absurd c h0
   · rw[decide_eq_false (show ¬ cmpK x y<0 by omega),decide_eq_true (show cmpK y x<0 by omega)];rfl
theorem srtT_snoc (ts:List TE) (n:Nat) (h:n<ts.length) (d:List TE) (hd:(ts.take n).foldl (insL ltT) []=d):(ts.take (n+1)).foldl (insL ltT) []=insL ltT d ts[n]:=by
 rw[List.take_succ_eq_append_getElem h,List.foldl_append,hd,List.foldl_cons,List.foldl_nil]
theorem srt_end (L:List Lb) (ts d:List TE) (h:L.foldl stR []=ts.map Prod.fst) (hd:ts.foldl (insL ltT) []=d):d.map (fun t=>t.1.1)=entsR L:=by
 unfold entsR srtL allR
 rw[h,<-hd,List.map_map]
 exact srtL_map (fun t:TE=>t.1.1) ltK ts []
theorem ins_perm (ts:List TE):∀ a:List TE,(ts.foldl (insL ltT) a).Perm (ts++a):=by
 induction ts with
 | nil=>intro a;exact .refl _
 | cons x r ih=>intro a;rw[List.foldl_cons];exact (ih _).trans (((insL_perm ltT a x).append_left r).trans (List.perm_middle.trans (.refl _)))
theorem step_bldE {ops:Array Oper} {o:Oper} {a:Act} {K:Act->World->Prop} {Q:Exit->Act->World->Prop} {E:Prop} (w:World) (hgd:o.guard=none) (x:Operand) (ho:o.op=.buildSlice 48 1 #[(0,x)]) (cs:Array Value) (hx:a.eval x=.agg cs) (hz:cs.size=33)
  (h:K (a.put o.dst (.slice (some ⟨w.heap.size,0,none⟩) 1 1)) (w.alloc (.cells cs 28))) :
  if Region.wanted o (yielded ops a.tmps)=true then Oper.wp Tryz.prog o a w K Q else E:=by
 have hw:Region.wanted o (yielded ops a.tmps)=true:=by simp [Region.wanted,hgd]
 rw[if_pos hw]
 obtain⟨dst,op,t,pos,af,gd⟩:=o
 dsimp only at ho h hgd
 subst ho
 have hr:=bldEnt a.eval w dst x t pos af gd (by rw[hx];rfl) (by rw[hx];exact hz)
 rw[hx,cellsOfV_mk] at hr
 unfold Oper.wp
 rw[hr]
 exact h
theorem r37_key (k:Int) (s:ByteArray) (w:World):Calls Tryz.prog 75 #[.int .i64 k,.string s] w fun r w'=>r=.returned (.string (keyZ k s))∧w'=w:=by
 refine (rkey k s w).mono ?_
 rintro _ w' ⟨t,rfl,ht,rfl⟩
 exact⟨ret_str (Ds.bl_inj (ht.trans (keyZ_bl k s).symm)),rfl⟩
end
section
set_option linter.unusedSimpArgs false
theorem stR_no {l:List Tl} {x:Lb} (h:tellX x=none):stR l x=l:=by unfold stR;rw[h]
theorem stR_yes {l:List Tl} {x:Lb} {p:Fu × Fu} (h:tellX x=some p):stR l x=if p.2.1.kind=1 then tput tKey betG (tput tKey betG l (p.1,x.1)) (p.2,x.1) else tput tKey betG l (p.1,x.1):=by unfold stR;rw[h]
theorem take_foldR {L:List Lb} {k:Nat} (h:k<L.length) (st:List Tl) (hst:(L.take k).foldl stR []=st):(L.take (k+1)).foldl stR []=stR st L[k]:=by
 rw[List.take_succ_eq_append_getElem h,List.foldl_append,hst,List.foldl_cons,List.foldl_nil]
theorem fst_add (ts:List TE) (t:TE):(tput tkE bgE ts t).map Prod.fst=tput tKey betG (ts.map Prod.fst) t.1:=tput_map Prod.fst tKey betG t ts
theorem stR_y2 {ts:List TE} {t u:TE} {x:Lb} {F:List Tl} (hF:F=stR (ts.map Prod.fst) x) (h:tellX x=some (t.1.1,u.1.1)) (e1:(t.1.1,x.1)=t.1) (e2:(u.1.1,x.1)=u.1) :
  F=if u.1.1.1.kind=1 then (tput tkE bgE (tput tkE bgE ts t) u).map Prod.fst else (tput tkE bgE ts t).map Prod.fst:=by
 rw[hF,stR_yes h,fst_add,fst_add,<-e1,<-e2]
structure AJ (w wr:World) (g c:Nat) (ts:List TE):Prop where
 b:Below w.heap.size w wr
 j:TJE TE.cs 34 139 w.heap.size wr (.slice (some ⟨g,0,none⟩) ts.length c) ts
theorem AJ.lt {w wr:World} {g c:Nat} {ts:List TE} (h:AJ w wr g c ts):w.heap.size<=g∧g<wr.heap.size:=own_base h.j.own g rfl
theorem AJ.below {w wr w':World} {g c:Nat} {ts:List TE} (h:AJ w wr g c ts) (hb:Below wr.heap.size wr w'):AJ w w' g c ts:=⟨bt h.b hb,h.j.below hb⟩
theorem AJ.next {w wr w':World} {g c g' c':Nat} {ts ts':List TE} (h:AJ w wr g c ts) (hj:TJE TE.cs 34 139 w.heap.size w' (.slice (some ⟨g',0,none⟩) ts'.length c') ts') (hg:wr.grownBy w' (some g)):AJ w w' g' c' ts' :=
 ⟨h.b.trans (grown_below hg h.lt.1 h.b.size),hj⟩
theorem tput_len2 (ts:List TE) (t:TE):(tput tkE bgE ts t).length<=ts.length+1:=tput_len _ _ _ _
attribute [local go_sem ↓] ldEnt stEntRow ldEntM ldTR bldTK bldEnt
attribute [local go_sem ↓ high] stEnt
attribute [local go_sem] TE.cs_eq hz_n hz_a hz_b held_en held_a held_n Held_drew isHead_mk headOf_mk offOf_mk isPtr_mk cellsOfV_mk isAggV_mk row_new row_new2 row_new2' row_drew row_drewN vals_size allOne_nil allOne_cons one_int one_bool one_string one_pointer one_slice one_func TE.cs_size TE.cs_one TE.en_size TE.one isIntW_mk
theorem r37_ents (v:Value) (L:List Lb) (w:World) (hS:RwS w v L) (hn:L.length<=100) (hsz:∀ x∈L,x.2.2.size<=1000) :
  Calls Tryz.prog 27 #[v] w fun r w'=>∃ v',r=.returned v'∧EL w' v' (entsR L)∧Below w.heap.size w w':=by
 obtain⟨va,vc,rfl,hz,hcell⟩:=hS
 have HC:=Lib.hid hcell
 have HP:=Lib.hid (fun (id:Int) (s:ByteArray) (hs:s.size<=1000) W=>(rn_parse_o s W hs).mono (fun _ _ h=>h.te id))
 have HSZ:=Lib.hid hsz
 have HS0:Hid (AJ w (w.alloc (.cells #[] 139)) w.heap.size 0 []):=Lib.hid ⟨below_al' _ _,⟨own_zeroR rfl (Nat.le_refl _),fun _ h=>by cases h⟩⟩
 have HAD:=Lib.hid (fun ts t g c base W hJ hr hf hn hbs=>r37_add ts t g c base W hJ hr hf hn hbs)
 clear hcell hsz
 go_enter Tryz.func27,Tryz.ntmps27
 go_wp2_with fail
 go_loopw [3,4] (fun v i wr=>∃ (k g c:Nat) (ts:List TE),k<=L.length∧i=.int .i64 k∧v=.slice (some ⟨g,0,none⟩) ts.length c∧ts.length<=2*k∧Hid ((L.take k).foldl stR []=ts.map Prod.fst)∧AJ w wr g c ts) (fun _ i _=>L.length - (intOf i).toNat)
 case atStart=>exact⟨0,w.heap.size,0,[],Nat.zero_le _,rfl,rfl,Nat.zero_le _,Lib.hid rfl,HS0.out⟩
 case round =>
  clear HS0
  obtain⟨k,g,c,ts,hk,rfl,rfl,hlen,HF,hM⟩:=hrel
  have HM:=Lib.hid hM
  have zr:=hM.lt
  have zw:=hM.b.size
  have i1:(0:Int)<=(k:Int):=by omega
  by_cases hlt:k<L.length
  · obtain⟨b,o,rfl,hb,hcell⟩:=HC.out (by omega)
    obtain⟨p0,p1,p2⟩:=hcell k hlt
    have HL:=Lib.hid (fun W (B:Below w.heap.size w W)=>And.intro ((B.cell (p:=⟨b,o+k*3,none⟩) hb).trans p0) ((B.cell (p:=⟨b,o+k*3+1,none⟩) hb).trans p1))
    have p2:=(hM.b.cell (p:=⟨b,o+k*3+2,none⟩) hb).trans p2
    have hF:=take_foldR hlt _ HF.out
    have hs:=HSZ.out _ (List.getElem_mem hlt)
    generalize L[k]=x at p0 p1 p2 hF hs HL
    obtain⟨q0,q1,q2⟩:=x
    dsimp only at p0 p1 p2 hF hs HL
    have HF1:=Lib.hid hF
    have HPP:=Lib.hid (HP.out q0 q2 hs)
    have i2:(k:Int)<(L.length:Int):=by omega
    clear hF hs hcell hM HF p0 p1
    go_upto_region 6 with (go_at_call 73;(refine (HPP.out _).mono ?_);rintro _ w4 ⟨t,u,code,rfl,hR1,hR2,hH1,hH2,hb4,hi1,hi2,hc⟩;have z4:=hb4.size;have T4:=Lib.hid (And.intro hR1 (And.intro hH1 hi1));have U4:=Lib.hid (And.intro hR2 (And.intro hH2 hi2));have HCC:=Lib.hid hc;have M4:=Lib.hid (HM.out.below hb4);clear hR1 hR2 hH1 hH2 hb4 hi1 hi2 hc)
    generalize hW:World.setRow (World.setRow _ _ _) _ _=W5
    obtain⟨B5,X5,Y5⟩:Below w4.heap.size w4 W5∧row W5 w4.heap.size=t.en∧row W5 (w4.heap.size+1)=u.en:=by rw[<-hW];exact two_new w4 _ _ _ _ _ t.en_size u.en_size rfl rfl
    clear hW p2
    have z5:w4.heap.size+1<W5.heap.size:=by
     rcases Nat.lt_or_ge (w4.heap.size+1) W5.heap.size with h | h
     · exact h
     · have e:=Y5;unfold row at e;rw[Array.getElem?_eq_none h] at e;exact absurd (congrArg Array.size e) (by rw[u.en_size];decide)
    have M5:=Lib.hid (M4.out.below B5)
    obtain⟨n0,n1⟩:=HL.out W5 M5.out.b
    have x2:=cell_row X5 2 (.int .i64 t.1.1.1.d0) (vals_2 _ _ _)
    have x18:=cell_row X5 18 (.string t.1.1.1.vol) (vals_18 _ _ _)
    have T5:=Lib.hid (And.intro (T4.out.1.below B5) T4.out.2.1)
    have U5:=Lib.hid (And.intro (U4.out.1.below B5) U4.out.2.1)
    have hi1:=T4.out.2.2
    have hi2:=U4.out.2.2
    have hF:=HF1.out
    have hcc:=HCC.out
    clear T4 U4 HCC HF1 M4 HM
    unfold parC at hcc
    cases hp:parseX (Ds.bl q2) with
    | none =>
      rw[hp] at hcc
      injection hcc with e1 hcc
      injection hcc with e2 e3
      subst e3
      have HF2:=Lib.hid (hF.trans (stR_no (tell_p0 hp)))
      clear hF e1 e2 hi1 hi2 hp
      go_quiet (fail)
      go_wp2_with fail
      go_roundw
      case rel=>exact⟨k+1,g,c,ts,by omega,by go_num,rfl,by omega,HF2,M5.out.below (bdr _ _ _)⟩
      case measure=>simp [intOf];omega
    | some p =>
      have hok:=par_ok hp
      rw[hp] at hcc
      injection hcc with e1 hcc
      injection hcc with e2 e3
      subst e3
      obtain⟨pa,pb⟩:=p
      dsimp only at e1 e2 hok
      subst e1 e2
      subst hi1
      have hcu:u.en++#[Value.int .i64 t.1.2]=u.cs:=by rw[<-hi2];rfl
      have hue:=te_id hi2
      have tv:=tl_beq t.1.1.1.vol q1
      have HPA:=Lib.hid hp
      clear hp hi2
      by_cases hd:t.1.1.1.d0=t.1.2
      rotate_left
      · have HF2:=Lib.hid (hF.trans (stR_no (tell_pn HPA.out (fun q=>hd q.1))))
        have t1:(t.1.1.1.d0 != t.1.2)=true:=bne_iff_ne.2 hd
        clear hF hd hok hcu hue HPA
        go_quiet (fail)
        go_wp2_with fail
        go_roundw
        case rel=>exact⟨k+1,g,c,ts,by omega,by go_num,rfl,by omega,HF2,M5.out.below (bdr _ _ _)⟩
        case measure=>simp [intOf];omega
      have t1:(t.1.1.1.d0 != t.1.2)=false:=by rw[hd];simp
      by_cases hv:t.1.1.1.vol=q1
      rotate_left
      · have HF2:=Lib.hid (hF.trans (stR_no (tell_pn HPA.out (fun q=>hv q.2))))
        rw[decide_eq_false hv] at tv
        clear hF hd hv hok hcu hue HPA
        go_quiet (fail)
        go_wp2_with fail
        go_roundw
        case rel=>exact⟨k+1,g,c,ts,by omega,by go_num,rfl,by omega,HF2,M5.out.below (bdr _ _ _)⟩
        case measure=>simp [intOf];omega
      rw[decide_eq_true hv] at tv
      have HF2:Hid ((L.take (k+1)).foldl stR []=if u.1.1.1.kind=1 then (tput tkE bgE (tput tkE bgE ts t) u).map Prod.fst else (tput tkE bgE ts t).map Prod.fst):=Lib.hid (stR_y2 hF (tell_py HPA.out ⟨hd,hv⟩) (Prod.ext rfl rfl) hue)
      clear hue HPA hd hv hF
      go_quiet (fail)
      go_upto_region 7 with fail
      have hl1:=tput_len2 ts t
      have hl2:=tput_len2 (tput tkE bgE ts t) u
      by_cases hk1:u.1.1.1.kind=1
      · have hnm:u.1.1.1.name.toList.isEmpty=false:=by
         rcases hok.2.2 with q | ⟨q,-⟩
         · rw[q] at hk1;exact absurd hk1 (by decide)
         · have:=name_pos u.1.1 q hk1
           cases hq:u.1.1.1.name.toList.isEmpty
           · rfl
           · exact absurd (by have h2:=Lib.toList_data u.1.1.1.name;rw[List.isEmpty_iff.1 hq] at h2;exact h2.symm) this
        have HF3:Hid ((L.take (k+1)).foldl stR []=(tput tkE bgE (tput tkE bgE ts t) u).map Prod.fst):=Lib.hid (by rw[HF2.out,if_pos hk1])
        clear HF2 hk1 hok
        refine wp_region_still_tail 8 (by kernel_rfl) (by kernel_rfl) ?_
        simp only[List.take_succ_cons,List.take_zero,List.drop_succ_cons,List.drop_zero]
        change wpStill _ _ (W5.drewN nq).drew (fun a'=>wpList _ _ _ _ a' (W5.drewN nq).drew) _ _
        obtain⟨w6,hw6⟩:∃ w6:World,(W5.drewN nq).drew=w6:=⟨_,rfl⟩
        rw[hw6]
        have B6:Below W5.heap.size W5 w6:=by rw[<-hw6];exact (bdr _ _ _).trans (Below.drew (Below.refl _ _))
        clear hw6
        have X6:=row_below B6 X5 (by rw[t.en_size];decide)
        have Y6:=row_below B6 Y5 (by rw[u.en_size];decide)
        have M6:=Lib.hid (M5.out.below B6)
        have n6:=(HL.out w6 M6.out.b).1
        have T6:=Lib.hid (And.intro (T5.out.1.below B6) T5.out.2)
        have U6:=Lib.hid (And.intro (U5.out.1.below B6) U5.out.2)
        have z6:=B6.size
        have gz:g<w4.heap.size:=by omega
        repeat still_step
        try refine wpStill_nil ?_
        go_upto_region 9 with (go_at_call 74;(refine (HAD.out ts t g c w.heap.size w6 M6.out.j T6.out.1 (T6.out.2.far zr.2) (by omega) M6.out.b.size).mono ?_);rintro _ w7 ⟨g',c',rfl,hJ,hg,hgl⟩;have M7:=Lib.hid (M6.out.next hJ hg);have Y7:=(row_grown hg (by omega) (by intro e;have:=Option.some.inj e;omega)).trans Y6;have y1:=cell_row Y7 1 (.string u.1.1.1.name) (vals_1 _ _ _);have z7:=hg.size;have n7:=(HL.out w7 M7.out.b).1;have U7:=Lib.hid (And.intro (RdT.keep U6.out.1 (U6.out.2.far zr.2) hg.size (fun y hy hne=>hg.block y hy (fun e=>hne e.symm))) (show FarT (some g') u from (hgl.elim (fun e=>(by rw[e];exact U6.out.2.far zr.2)) (fun e=>U6.out.1.far e))));clear hJ hg hgl)
        trace_state
        refine wp_region_still_tail 8 (by kernel_rfl) (by kernel_rfl) ?_
        simp only[List.take_succ_cons,List.take_zero,List.drop_succ_cons,List.drop_zero]
        change wpStill _ _ w7.drew (fun a'=>wpList _ _ _ _ a' w7.drew) _ _
        obtain⟨w8,hw8⟩:∃ w8:World,w7.drew=w8:=⟨_,rfl⟩
        rw[hw8]
        have B8:Below w7.heap.size w7 w8:=by rw[<-hw8];exact Below.drew (Below.refl _ _)
        clear hw8
        have Y8:=row_below B8 Y7 (by rw[u.en_size];decide)
        have M8:=Lib.hid (M7.out.below B8)
        have n8:=(HL.out w8 M8.out.b).1
        have U8:=Lib.hid (And.intro (U7.out.1.below B8) U7.out.2)
        repeat still_step
        try refine wpStill_nil ?_
        go_wp2_with (go_at_call 74;(refine (HAD.out (tput tkE bgE ts t) u g' c' w.heap.size w8 M8.out.j U8.out.1 U8.out.2 (by omega) M8.out.b.size).mono ?_);rintro _ w9 ⟨g2,c2,rfl,hJ,hg,hgl⟩;have M9:=Lib.hid (M8.out.next hJ hg);clear hJ hg hgl)
        go_roundw
        case rel=>exact⟨k+1,g2,c2,_,by omega,by go_num,rfl,by omega,HF3,M9.out⟩
        case measure=>simp [intOf];omega
      · have hnm:u.1.1.1.name.toList.isEmpty=true:=by
         rcases hok.2.2 with q | ⟨-,q⟩
         · rw[q,Lib.toList_data];rfl
         · exact absurd q hk1
        have HF3:Hid ((L.take (k+1)).foldl stR []=(tput tkE bgE ts t).map Prod.fst):=Lib.hid (by rw[HF2.out,if_neg hk1])
        clear HF2 hk1 hok
        refine wp_region_still_tail 8 (by kernel_rfl) (by kernel_rfl) ?_
        simp only[List.take_succ_cons,List.take_zero,List.drop_succ_cons,List.drop_zero]
        change wpStill _ _ (W5.drewN nq).drew (fun a'=>wpList _ _ _ _ a' (W5.drewN nq).drew) _ _
        obtain⟨w6,hw6⟩:∃ w6:World,(W5.drewN nq).drew=w6:=⟨_,rfl⟩
        rw[hw6]
        have B6:Below W5.heap.size W5 w6:=by rw[<-hw6];exact (bdr _ _ _).trans (Below.drew (Below.refl _ _))
        clear hw6
        have X6:=row_below B6 X5 (by rw[t.en_size];decide)
        have Y6:=row_below B6 Y5 (by rw[u.en_size];decide)
        have M6:=Lib.hid (M5.out.below B6)
        have n6:=(HL.out w6 M6.out.b).1
        have T6:=Lib.hid (And.intro (T5.out.1.below B6) T5.out.2)
        have U6:=Lib.hid (And.intro (U5.out.1.below B6) U5.out.2)
        have z6:=B6.size
        have gz:g<w4.heap.size:=by omega
        repeat still_step
        try refine wpStill_nil ?_
        go_wp2_with (go_at_call 74;(refine (HAD.out ts t g c w.heap.size w6 M6.out.j T6.out.1 (T6.out.2.far zr.2) (by omega) M6.out.b.size).mono ?_);rintro _ w7 ⟨g',c',rfl,hJ,hg,hgl⟩;have M7:=Lib.hid (M6.out.next hJ hg);have Y7:=(row_grown hg (by omega) (by intro e;have:=Option.some.inj e;omega)).trans Y6;have y1:=cell_row Y7 1 (.string u.1.1.1.name) (vals_1 _ _ _);have z7:=hg.size;have n7:=(HL.out w7 M7.out.b).1;have U7:=Lib.hid (And.intro (RdT.keep U6.out.1 (U6.out.2.far zr.2) hg.size (fun y hy hne=>hg.block y hy (fun e=>hne e.symm))) (show FarT (some g') u from (hgl.elim (fun e=>(by rw[e];exact U6.out.2.far zr.2)) (fun e=>U6.out.1.far e))));clear hJ hg hgl)
        go_roundw
        case rel=>exact⟨k+1,g',c',_,by omega,by go_num,rfl,by omega,HF3,M7.out⟩
        case measure=>simp [intOf];omega
  · obtain rfl:k=L.length:=by omega
    have HFO:Hid (L.foldl stR []=ts.map Prod.fst):=Lib.hid (by have:=HF.out;rw[List.take_length] at this;exact this)
    clear HF HC HP HSZ HAD hM
    go_wp2_with fail
    rename World=>W0
    obtain⟨gt,hgt⟩:∃ x,x=g:=⟨_,rfl⟩
    subst hgt
    have zg:=HM.out.lt.2
    have htc:∀ (n:Nat) (h:n<ts.length) (j:Nat) (u:Value),ts[n].cs[j]?=some u->W0.cell? ⟨gt,n*34+j,none⟩=some u:=fun k h j u hu=>by
     obtain⟨a,c',e,hp⟩:=own_at TE.cs_size HM.out.j.own
     injection e with e1 e2 e3
     obtain⟨g',e4,-,-,hq⟩:=hp (by omega)
     rw[e4] at e1
     cases e1
     exact hq k h j u hu
    have HTC:=Lib.hid htc
    have HS0:Hid (OU W0 (W0.alloc (.cells #[] 28)) (.slice (some ⟨W0.heap.size,0,none⟩) 0 0) []):=Lib.hid ⟨below_al' _ _,own_zeroR rfl (Nat.le_refl _)⟩
    have HM0:=HM
    clear htc HM
    go_loopw [8,9] (fun v i wr=>∃ (n g c:Nat) (l:List TE),n<=ts.length∧i=.int .i64 n∧v=.slice (some ⟨g,0,none⟩) l.length c∧Hid ((ts.take n).foldl (insL ltT) []=l)∧OU W0 wr (.slice (some ⟨g,0,none⟩) l.length c) l) (fun _ i _=>ts.length - (intOf i).toNat)
    case atStart=>exact⟨0,W0.heap.size,0,[],Nat.zero_le _,rfl,rfl,Lib.hid rfl,HS0.out⟩
    case round =>
     clear HS0
     rename World=>W
     obtain⟨n,g,c,l,hnn,rfl,rfl,HD,hO⟩:=hrel
     have HO0:=Lib.hid hO
     have hll:l.length=n:=by
      have h1:=(ins_perm (ts.take n) []).length_eq
      rw[HD.out] at h1
      simp at h1
      omega
     have hl200:l.length<=200:=by omega
     have HLL:=Lib.hid hll
     clear hll
     have j1:(0:Int)<=(n:Int):=by omega
     by_cases hlt:n<ts.length
     · have hcap:=own_capR hO.own
       have hgl:=(own_base hO.own g rfl).2
       have hzz:=hO.b.size
       have hcl:∀ (k:Nat) (h:k<l.length) (j:Nat) (u:Value),l[k].en[j]?=some u->W.cell? ⟨g,k*33+j,none⟩=some u:=fun k h j u hu=>by
        obtain⟨a,c',e,hp⟩:=own_at TE.en_size hO.own
        injection e with e1 e2 e3
        obtain⟨g',e4,-,-,hq⟩:=hp (by omega)
        rw[e4] at e1
        cases e1
        exact hq k h j u hu
       have HCL:=Lib.hid hcl
       have tc:=fun j u hu=>(HO0.out.b.cell (p:=⟨gt,n*34+j,none⟩) zg).trans (HTC.out n hlt j u hu)
       have HNX:Hid ((ts.take (n+1)).foldl (insL ltT) []=insL ltT l ts[n]):=Lib.hid (srtT_snoc ts n hlt l HD.out)
       generalize ts[n]=t at tc HNX
       have hfin:=fun k (h:k<=l.length) (e:insK ltT t l l.length=k)=>(show []++(tcs TE.en l).take (k*33)++t.en.toList++(tcs TE.en l).drop (k*33)=tcs TE.en (insL ltT l t) by
        unfold insL
        rw[e,tcs_app,tcs_cons,tcs_take TE.en 33 TE.en_size l k h,tcs_drop TE.en 33 TE.en_size l k]
        simp)
       have HF0:=Lib.hid hfin
       have q0:W.cell? ⟨gt,n*34,none⟩=some (.int .i64 t.1.1.1.kind):=tc 0 _ t.cs_0
       have q1:W.cell? ⟨gt,n*34+1,none⟩=some (.string t.1.1.1.name):=tc 1 _ t.cs_1
       have m0:mid W gt (n*34)=t.en:=mid_of t.en_size (fun i v hv=>tc i v (by unfold TE.cs;rw[Array.getElem?_append_left (by rw[vals_size];have:=(Array.getElem?_eq_some_iff.1 hv).1;rw[t.en_size] at this;omega)];exact hv))
       have HM01:Hid (∀ V:World,Below W.heap.size W V->mid V gt (n*34)=t.en∧(mid V gt (n*34)).size=33):=Lib.hid (fun V hV=>by
        have h:=mid_below hV m0 (by rw[t.en_size];decide)
        exact⟨h,by rw[h];exact t.en_size⟩)
       have HX:=Lib.hid (r37_key t.1.1.1.kind t.1.1.1.name)
       have j2:(n:Int)<(ts.length:Int):=by omega
       clear hO hcl tc hfin m0 HD
       go_wp2_with fail
       have HQ:=Lib.hid (And.intro q0 q1)
       clear q0 q1
       go_loopw [10] (fun j wr=>∃ (k:Nat),k<=l.length∧j=.int .i64 k∧Hid (insK ltT t l l.length=insK ltT t l k)∧Hid (Below W.heap.size W wr)) (fun j _=>(intOf j).toNat)
       case atStart=>exact⟨l.length,Nat.le_refl _,rfl,Lib.hid rfl,Lib.hid (Below.refl _ _)⟩
       case round =>
        obtain⟨k,hk,rfl,HE,HB⟩:=hrel
        rcases Nat.eq_zero_or_pos k with hk0 | hpos
        have HK:Hid (insK ltT t l l.length=k):=Lib.hid (HE.out.trans (by rw[hk0];rfl))
        have i0:¬ ((0:Int)<(k:Int)):=by omega
        have i00:decide ((0:Int)<(k:Int))=false:=decide_eq_false i0
        clear HE hk0
        go_upto_region 15 with fail
        refine wp_region_held_drew (S:=fun w'=>Below wr.heap.size wr w') (by kernel_rfl) ?_ (fun hHeld=>?_)
        · exact Below.drew (Below.refl _ _)
        (refine rgy (i:=0) (some 82) ?_;(try simp only[Act.put,pz]))
        refine rg_y (i:=1) (some 83) (v:=.bool false) rfl rfl (by kernel_rfl) (by kernel_rfl) (by kernel_rfl) (fun _ _ _ h=>h) (by kernel_rfl) (fun w hSw=>?_) (by assumption) ?_
        · go_simp
          first | omega | (rw[i00];done) | (simp;omega)
        (try simp only[Act.put,List.setIfInBounds_toArray,List.set_cons_zero,List.set_cons_succ])
        (refine rgy (i:=2) (some 84) ?_;(try simp only[Act.put,pz]))
        (refine rgs (i:=3) (some 85) ?_;(try simp only[Act.put,pz]))
        (refine rgs (i:=4) (some 86) ?_;(try simp only[Act.put,pz]))
        (refine rgs (i:=5) (some 87) ?_;(try simp only[Act.put,pz]))
        (refine rgs (i:=6) (some 88) ?_;(try simp only[Act.put,pz]))
        (refine rgs (i:=7) (some 89) ?_;(try simp only[Act.put,pz]))
        (refine rgs (i:=8) (some 90) ?_;(try simp only[Act.put,pz]))
        (refine rgs (i:=9) (some 91) ?_;(try simp only[Act.put,pz]))
        (refine rgs (i:=10) (some 92) ?_;(try simp only[Act.put,pz]))
        (refine rgs (i:=11) (some 93) ?_;(try simp only[Act.put,pz]))
        (refine rgs (i:=12) (some 94) ?_;(try simp only[Act.put,pz]))
        (refine rgs (i:=13) (some 95) ?_;(try simp only[Act.put,pz]))
        (refine rgs (i:=14) (some 96) ?_;(try simp only[Act.put,pz]))
        (refine rgs (i:=16) (some 98) ?_;(try simp only[Act.put,pz]))
        (refine rgs (i:=17) (some 99) ?_;(try simp only[Act.put,pz]))
        (refine rgs (i:=18) (some 100) ?_;(try simp only[Act.put,pz]))
        (refine rgs (i:=19) (some 101) ?_;(try simp only[Act.put,pz]))
        (refine rgs (i:=20) (some 102) ?_;(try simp only[Act.put,pz]))
        (refine rgs (i:=21) (some 103) ?_;(try simp only[Act.put,pz]))
        (refine rgs (i:=22) (some 104) ?_;(try simp only[Act.put,pz]))
        (refine rgs (i:=23) (some 105) ?_;(try simp only[Act.put,pz]))
        (refine rgs (i:=24) (some 106) ?_;(try simp only[Act.put,pz]))
        (refine rgs (i:=25) (some 107) ?_;(try simp only[Act.put,pz]))
        (refine rgs (i:=26) (some 108) ?_;(try simp only[Act.put,pz]))
        (refine rgs (i:=27) (some 109) ?_;(try simp only[Act.put,pz]))
        (refine rg_n (i:=15) (some 97) rfl rfl (by kernel_rfl) (by kernel_rfl) (by assumption) ?_;(try simp only[Act.put,pz]))
        (refine rg_n (i:=28) (some 110) rfl rfl (by kernel_rfl) (by kernel_rfl) (by assumption) ?_;(try simp only[Act.put,pz]))
        (refine rgs (i:=29) (some 111) ?_;(try simp only[Act.put,pz]))
        (refine rgy (i:=30) (some 112) ?_;(try simp only[Act.put,pz]))
        refine wpAnyH_done (by kernel_rfl) ?_ _
        go_upto_region 17 with fail
        have HBW:Hid (Below W.heap.size W wr.drew):=Lib.hid HB.out.drew
        clear hHeld HB
        generalize World.drew wr=W2 at HBW ⊢
        have M01:∀ V:World,Below W2.heap.size W2 V->mid V gt (n*34)=t.en∧(mid V gt (n*34)).size=33:=fun V hV=>HM01.out V (bt HBW.out hV)
        obtain⟨M0,M1⟩:=M01 W2 (Below.refl _ _)
        have HFin:=Lib.hid (HF0.out k hk HK.out)
        have hkl:=hk
        have HO2:Hid (W2.ownsRow W0.heap.size 28 33 (.slice (some ⟨g,0,none⟩) l.length c) l.length (tcs TE.en l)):=Lib.hid (own_keep HO0.out.own (fun x hx=>HBW.out.block x (own_base HO0.out.own x hx).2))
        have zB:=HBW.out.size
        have z2:g<W2.heap.size:=Nat.lt_of_lt_of_le hgl zB
        have z3:gt<W2.heap.size:=by omega
        clear HF0 HK HCL HTC HM01 HM0 HFO HX
        rotate_left
        obtain⟨kk,hkk⟩:∃ kk,k=kk+1:=⟨k - 1,by omega⟩
        have hkl:kk<l.length:=by omega
        have hc2:=fun j u hu=>(HB.out.cell (p:=⟨g,kk*33+j,none⟩) hgl).trans (HCL.out kk hkl j u hu)
        have hs:=insK_stepG ltT t l[kk] l kk hkl rfl
        generalize l[kk]=y at hc2 hs
        have HY:=Lib.hid (r37_key y.1.1.1.kind y.1.1.1.name)
        have tv:=key_gtr t.1.1 y.1.1
        have e0:wr.cell? ⟨g,kk*33,none⟩=some (.int .i64 y.1.1.1.kind):=hc2 0 (.int .i64 y.1.1.1.kind) (vals_0 _ _ _)
        have e1:wr.cell? ⟨g,kk*33+1,none⟩=some (.string y.1.1.1.name):=hc2 1 (.string y.1.1.1.name) (vals_1 _ _ _)
        have q0:=(HB.out.cell (p:=⟨gt,n*34,none⟩) (show gt<W.heap.size by omega)).trans HQ.out.1
        have q1:=(HB.out.cell (p:=⟨gt,n*34+1,none⟩) (show gt<W.heap.size by omega)).trans HQ.out.2
        rw[show ltK t.1.1 y.1.1=ltT t y from rfl] at tv
        generalize ltT t y=bb at hs tv
        have HS:=Lib.hid (HE.out.trans (show insK ltT t l k=if bb=true then insK ltT t l kk else kk+1 by rw[hkk];exact hs))
        have wk:IntKind.i64.wrap ((k:Int) - 1)=kk:=by rw[show (k:Int) - 1=kk by omega];exact IntWalk.i64_in _ ⟨by omega,by omega⟩
        have i0:(0:Int)<(k:Int):=by omega
        have i1:(0:Int)<=(kk:Int):=by omega
        have i2:(kk:Int)<(l.length:Int):=by omega
        have HKK:=Lib.hid hkk
        clear hc2 hs HE hkk
        go_upto_region 15 with fail
        have hbb:bb=true∨bb=false:=by cases bb <;> simp
        rcases hbb with rfl | rfl
        · (go_region_held3 (fun w'=>w'.cell? ⟨gt,n*34,none⟩=some (.int .i64 t.1.1.1.kind)∧w'.cell? ⟨gt,n*34+1,none⟩=some (.string t.1.1.1.name)∧w'.cell? ⟨g,kk*33,none⟩=some (.int .i64 y.1.1.1.kind)∧w'.cell? ⟨g,kk*33+1,none⟩=some (.string y.1.1.1.name)∧Hid (Below W.heap.size W w')) (first | exact⟨q0,q1,e0,e1,Lib.hid HB.out.drew⟩ | exact⟨q0,q1,e0,e1,HB⟩ | assumption) (first
            | (go_at_call 75;(with_reducible refine (HX.out _).mono ?_);rintro _ w3 ⟨rfl,rfl⟩)
            | (go_at_call 75;(with_reducible refine (HY.out _).mono ?_);rintro _ w3 ⟨rfl,rfl⟩)))
          all_goals
           rename_i hq
           have HQQ:=Lib.hid hq
           clear hq
           go_wp2_with fail
           go_roundw
           case rel=>exact⟨kk,by omega,by go_num,Lib.hid (HS.out.trans (if_pos trivial)),HQQ.out.2.2.2.2⟩
           case measure=>have:=HKK.out;simp [intOf];omega
        focus (
         (go_region_held3 (fun w'=>w'.cell? ⟨gt,n*34,none⟩=some (.int .i64 t.1.1.1.kind)∧w'.cell? ⟨gt,n*34+1,none⟩=some (.string t.1.1.1.name)∧w'.cell? ⟨g,kk*33,none⟩=some (.int .i64 y.1.1.1.kind)∧w'.cell? ⟨g,kk*33+1,none⟩=some (.string y.1.1.1.name)∧Hid (Below W.heap.size W w')) (first | exact⟨q0,q1,e0,e1,Lib.hid HB.out.drew⟩ | exact⟨q0,q1,e0,e1,HB⟩ | assumption) (first
           | (go_at_call 75;(with_reducible refine (HX.out _).mono ?_);rintro _ w3 ⟨rfl,rfl⟩)
           | (go_at_call 75;(with_reducible refine (HY.out _).mono ?_);rintro _ w3 ⟨rfl,rfl⟩)))
         all_goals (
          rename_i hq
          have HBW:=hq.2.2.2.2
          have HK:Hid (insK ltT t l l.length=k):=Lib.hid (HS.out.trans ((if_neg (by simp)).trans HKK.out.symm))
          clear hq q0 q1 e0 e1 HB HS wk i0 i1 i2 HKK hkl tv HY
          go_upto_region 17 with fail
          generalize World.drew wr=W2 at HBW ⊢
          have M01:∀ V:World,Below W2.heap.size W2 V->mid V gt (n*34)=t.en∧(mid V gt (n*34)).size=33:=fun V hV=>HM01.out V (bt HBW.out hV)
          obtain⟨M0,M1⟩:=M01 W2 (Below.refl _ _)
          have HFin:=Lib.hid (HF0.out k hk HK.out)
          have hkl:=hk
          have HO2:Hid (W2.ownsRow W0.heap.size 28 33 (.slice (some ⟨g,0,none⟩) l.length c) l.length (tcs TE.en l)):=Lib.hid (own_keep HO0.out.own (fun x hx=>HBW.out.block x (own_base HO0.out.own x hx).2))
          have zB:=HBW.out.size
          have z2:g<W2.heap.size:=Nat.lt_of_lt_of_le hgl zB
          have z3:gt<W2.heap.size:=by omega
          clear HF0 HK HCL HTC HM01 HM0 HFO HX))
        all_goals
         refine wp_region_held_drew (S:=fun w'=>Below W2.heap.size W2 w'∧mid w' gt (n*34)=t.en∧(mid w' gt (n*34)).size=33) (by kernel_rfl) ?_ (fun hHeld=>?_)
         · exact⟨Below.drew (Below.refl _ _),M0,M1⟩
         (refine rgy (i:=1) (some 116) ?_;(try simp only[Act.put,pz]))
         (refine rgy (i:=2) (some 117) ?_;(try simp only[Act.put,pz]))
         refine rg_y (i:=3) (some 118) (v:=.slice (some ⟨g,0,none⟩) k c) rfl rfl (by kernel_rfl) (by kernel_rfl) (by kernel_rfl) (fun _ _ _ h=>h) (by kernel_rfl) (fun w hSw=>?_) (by assumption) ?_
         · have sl:=slK_hi (P:=Tryz.prog) Tryz.underlying48 Tryz.sizeOf28 (w:=w) (g:=g) hkl hcap.1
           go_simp
         (try simp only[Act.put,List.setIfInBounds_toArray,List.set_cons_zero,List.set_cons_succ])
         (refine rgy (i:=5) (some 120) ?_;(try simp only[Act.put,pz]))
         (refine rgy (i:=6) (some 121) ?_;(try simp only[Act.put,pz]))
         (refine rgy (i:=7) (some 122) ?_;(try simp only[Act.put,pz]))
         (refine rgy (i:=8) (some 123) ?_;(try simp only[Act.put,pz]))
         refine rg_y (i:=9) (some 124) (v:=.agg t.en) rfl rfl (by kernel_rfl) (by kernel_rfl) (by kernel_rfl) (fun _ _ _ h=>h) (by kernel_rfl) (fun w hSw=>?_) (by assumption) ?_
         · obtain⟨-,e,z⟩:=hSw
           refine Eq.trans (ldEntM _ w _ _ _ _ _ _ ?_ ?_) ?_
           · rfl
           · exact z
           · exact congrArg (fun q=>Result.ok (Next.value (.agg q)) w) e
         (try simp only[Act.put,List.setIfInBounds_toArray,List.set_cons_zero,List.set_cons_succ])
         (refine rgy (i:=12) (some 127) ?_;(try simp only[Act.put,pz]))
         (refine rgy (i:=13) (some 128) ?_;(try simp only[Act.put,pz]))
         refine rg_y (i:=14) (some 129) (v:=.slice (some ⟨g,offK 33 c k,none⟩) (l.length - k) (c - k)) rfl rfl (by kernel_rfl) (by kernel_rfl) (by kernel_rfl) (fun _ _ _ h=>h) (by kernel_rfl) (fun w hSw=>?_) (by assumption) ?_
         · have sl:=slK_lo (P:=Tryz.prog) Tryz.underlying48 Tryz.sizeOf28 (w:=w) (g:=g) (c:=c) hkl
           go_simp
         (try simp only[Act.put,List.setIfInBounds_toArray,List.set_cons_zero,List.set_cons_succ])
         refine wpAnyH_ready (rs:=[0,10]) (by kernel_rfl) (by simp) ?_
         refine AllReadyH.cons (o:=_) rfl (fun K hK=>?_) (AllReadyH.cons (o:=_) rfl (fun K hK=>?_) AllReadyH.nil)
         · go_simp
           have hbA:Below W2.heap.size W2 (W2.drew.alloc (.cells #[] 28)):=(Below.drew (Below.refl _ _)).alloc (by simp) _
           refine hK.out _ _ ⟨hbA,M01 _ hbA⟩ (fun hHeld=>?_)
           (clear hK K;(try simp only[Act.put,pz]))
           refine wpAnyH_ready (rs:=[4,10]) (by kernel_rfl) (by simp) ?_
           refine AllReadyH.cons (o:=_) rfl (fun K hK=>?_) (AllReadyH.cons (o:=_) rfl (fun K hK=>?_) AllReadyH.nil)
           · refine step_appX _ rfl (.tmp 115) (.tmp 118) 48 28 _ _ 33 336 (by rfl) Tryz.underlying48 en_i en_i0 en_i1 en_i2 (vals_size _ _ _) (by decide) W2.heap.size (Value.slice (some ⟨W2.heap.size,0,none⟩) 0 0) (Value.slice (some ⟨g,0,none⟩) k c) 0 k [] ((tcs TE.en l).take (k*33)) (by simp [Act.eval]) (own_zeroR (w:=W2.drew) rfl (Nat.le_refl _)) (by simp [Act.eval]) ((headK HO2.out hkl).below hbA) (fun u hu=>tcs_ones TE.en TE.one l u (List.mem_of_mem_take hu)) (by unfold maxLen;omega) (by omega) (by first | (simp;done) | (simp;omega)) ?_
             intro a5 c5 w5 hown5 hg5 _
             have hb5:Below W2.heap.size W2 w5:=hbA.grown hg5 (by first | (simp;done) | (simp;omega)) (fun q hq=>by have h2:W2.heap.size=q:=(by simpa [Value.ownBlock] using hq);omega)
             refine hK.out _ _ ⟨hb5,M01 _ hb5⟩ (fun hHeld=>?_)
             (clear hK K;(try simp only[Act.put,pz]))
             refine rgb (i:=10) (by kernel_rfl) rfl (fun K hK=>?_)
             refine step_bldE _ rfl (.tmp 124) (by rfl) t.en (by simp [Act.eval]) t.en_size ?_
             have hb6:Below W2.heap.size W2 (w5.alloc (.cells t.en 28)):=hb5.alloc hb5.size _
             refine hK.out _ _ ⟨hb6,M01 _ hb6⟩ (fun hHeld=>?_)
             (clear hK K;(try simp only[Act.put,pz]))
             have own6:(w5.alloc (.cells t.en 28)).ownsRow _ _ _ _ _ _:=own_keep hown5 (fun x hx=>(below_al' w5 _).block x (own_base hown5 x hx).2)
             have csx:=cs_33 (X:=w5) (t:=28) rfl t.en_size
             refine rgb (i:=11) (by kernel_rfl) rfl (fun K hK=>?_)
             refine step_appX _ rfl (.tmp 119) (.tmp 125) 48 28 _ _ 33 336 (by rfl) Tryz.underlying48 en_i en_i0 en_i1 en_i2 (vals_size _ _ _) (by decide) W2.heap.size (Value.slice a5 (0+k) c5) (Value.slice (some ⟨w5.heap.size,0,none⟩) 1 1) (0+k) 1 _ (t.en.toList) (by simp [Act.eval]) own6 (by simp [Act.eval]) (csx) (all1 t.one) (by unfold maxLen;omega) (by omega) hb6.size ?_
             intro a7 c7 w7 hown7 hg7 _
             have hb7:Below W2.heap.size W2 w7:=hb6.grown hg7 hb6.size (fun q hq=>(own_base own6 q hq).1)
             refine hK.out _ _ ⟨hb7,M01 _ hb7⟩ (fun hHeld=>?_)
             (clear hK K;(try simp only[Act.put,pz]))
             refine rgb (i:=15) (by kernel_rfl) rfl (fun K hK=>?_)
             refine step_appX _ rfl (.tmp 126) (.tmp 129) 48 28 _ _ 33 336 (by rfl) Tryz.underlying48 en_i en_i0 en_i1 en_i2 (vals_size _ _ _) (by decide) W2.heap.size (Value.slice a7 (0+k+1) c7) (Value.slice (some ⟨g,offK 33 c k,none⟩) (l.length - k) (c - k)) (0+k+1) (l.length - k) _ ((tcs TE.en l).drop (k*33)) (by simp [Act.eval]) hown7 (by simp [Act.eval]) ((tailK HO2.out hcap.1).below hb7) (fun u hu=>tcs_ones TE.en TE.one l u (List.mem_of_mem_drop hu)) (by unfold maxLen;omega) (by omega) hb7.size ?_
             intro a8 c8 w8 hown8 hg8 _
             have hb8:Below W2.heap.size W2 w8:=hb7.grown hg8 hb7.size (fun q hq=>(own_base hown7 q hq).1)
             rw[HFin.out] at hown8
             generalize hLL:0+k+1+(l.length - k)=LL at hown8 ⊢
             obtain rfl:LL=(insL ltT l t).length:=by rw[insL_lenG];omega
             obtain⟨g8,rfl,-,-⟩:=own_someR hown8 (by rw[insL_lenG];omega)
             refine hK.out _ _ ⟨hb8,M01 _ hb8⟩ (fun hHeld=>?_)
             (clear hK K;(try simp only[Act.put,pz]))
             (refine rgy (i:=16) (some 8) ?_;(try simp only[Act.put,pz]))
             refine wpAnyH_done (by kernel_rfl) ?_ _
             have HN8:=Lib.hid hown8
             have HB8:=Lib.hid hb8
             clear hown7 hown8 hg7 hg8 hHeld hb7 hb8 M0 M1 M01
             go_wp2_with fail
             go_roundw
             case rel=>exact⟨n+1,g8,c8,insL ltT l t,by omega,by go_num,rfl,HNX.out,⟨bt HO0.out.b (HBW.out.trans (HB8.out.mono zB)),own_le HN8.out (Nat.le_trans HO0.out.b.size zB)⟩⟩
             case measure=>simp [intOf];omega
           · refine step_bldE _ rfl (.tmp 124) (by rfl) t.en (by simp [Act.eval]) t.en_size ?_
             have hbB:Below W2.heap.size W2 ((W2.drew.alloc (.cells #[] 28)).alloc (.cells t.en 28)):=hbA.alloc (by simp) _
             refine hK.out _ _ ⟨hbB,M01 _ hbB⟩ (fun hHeld=>?_)
             (clear hK K;(try simp only[Act.put,pz]))
             refine rgb (i:=4) (by kernel_rfl) rfl (fun K hK=>?_)
             refine step_appX _ rfl (.tmp 115) (.tmp 118) 48 28 _ _ 33 336 (by rfl) Tryz.underlying48 en_i en_i0 en_i1 en_i2 (vals_size _ _ _) (by decide) W2.heap.size (Value.slice (some ⟨W2.heap.size,0,none⟩) 0 0) (Value.slice (some ⟨g,0,none⟩) k c) 0 k [] ((tcs TE.en l).take (k*33)) (by simp [Act.eval]) (own_keep (own_zeroR (w:=W2.drew) rfl (Nat.le_refl _)) (fun x hx=>(below_al' (W2.drew.alloc (.cells #[] 28)) _).block x (by have hx2:W2.heap.size=x:=(by simpa [Value.ownBlock] using hx);simp [<-hx2]))) (by simp [Act.eval]) ((headK HO2.out hkl).below hbB) (fun u hu=>tcs_ones TE.en TE.one l u (List.mem_of_mem_take hu)) (by unfold maxLen;omega) (by omega) (by first | (simp;done) | (simp;omega)) ?_
             intro a5 c5 w5 hown5 hg5 _
             have hb5:Below W2.heap.size W2 w5:=hbB.grown hg5 (by first | (simp;done) | (simp;omega)) (fun q hq=>by have h2:W2.heap.size=q:=(by simpa [Value.ownBlock] using hq);omega)
             have csx:=(cs_33 (X:=W2.drew.alloc (.cells #[] 28)) (t:=28) (q:=W2.heap.size+1) (by simp) t.en_size).grown hg5 (by intro e;have e2:W2.heap.size+1=W2.heap.size:=Option.some.inj e;omega) (by first | (simp;done) | (simp;omega))
             refine hK.out _ _ ⟨hb5,M01 _ hb5⟩ (fun hHeld=>?_)
             (clear hK K;(try simp only[Act.put,pz]))
             refine rgb (i:=11) (by kernel_rfl) rfl (fun K hK=>?_)
             refine step_appX _ rfl (.tmp 119) (.tmp 125) 48 28 _ _ 33 336 (by rfl) Tryz.underlying48 en_i en_i0 en_i1 en_i2 (vals_size _ _ _) (by decide) W2.heap.size (Value.slice a5 (0+k) c5) (Value.slice (some ⟨W2.heap.size+1,0,none⟩) 1 1) (0+k) 1 _ (t.en.toList) (by simp [Act.eval]) hown5 (by simp [Act.eval]) (csx) (all1 t.one) (by unfold maxLen;omega) (by omega) hb5.size ?_
             intro a7 c7 w7 hown7 hg7 _
             have hb7:Below W2.heap.size W2 w7:=hb5.grown hg7 hb5.size (fun q hq=>(own_base hown5 q hq).1)
             refine hK.out _ _ ⟨hb7,M01 _ hb7⟩ (fun hHeld=>?_)
             (clear hK K;(try simp only[Act.put,pz]))
             refine rgb (i:=15) (by kernel_rfl) rfl (fun K hK=>?_)
             refine step_appX _ rfl (.tmp 126) (.tmp 129) 48 28 _ _ 33 336 (by rfl) Tryz.underlying48 en_i en_i0 en_i1 en_i2 (vals_size _ _ _) (by decide) W2.heap.size (Value.slice a7 (0+k+1) c7) (Value.slice (some ⟨g,offK 33 c k,none⟩) (l.length - k) (c - k)) (0+k+1) (l.length - k) _ ((tcs TE.en l).drop (k*33)) (by simp [Act.eval]) hown7 (by simp [Act.eval]) ((tailK HO2.out hcap.1).below hb7) (fun u hu=>tcs_ones TE.en TE.one l u (List.mem_of_mem_drop hu)) (by unfold maxLen;omega) (by omega) hb7.size ?_
             intro a8 c8 w8 hown8 hg8 _
             have hb8:Below W2.heap.size W2 w8:=hb7.grown hg8 hb7.size (fun q hq=>(own_base hown7 q hq).1)
             rw[HFin.out] at hown8
             generalize hLL:0+k+1+(l.length - k)=LL at hown8 ⊢
             obtain rfl:LL=(insL ltT l t).length:=by rw[insL_lenG];omega
             obtain⟨g8,rfl,-,-⟩:=own_someR hown8 (by rw[insL_lenG];omega)
             refine hK.out _ _ ⟨hb8,M01 _ hb8⟩ (fun hHeld=>?_)
             (clear hK K;(try simp only[Act.put,pz]))
             (refine rgy (i:=16) (some 8) ?_;(try simp only[Act.put,pz]))
             refine wpAnyH_done (by kernel_rfl) ?_ _
             have HN8:=Lib.hid hown8
             have HB8:=Lib.hid hb8
             clear hown7 hown8 hg7 hg8 hHeld hb7 hb8 M0 M1 M01
             go_wp2_with fail
             go_roundw
             case rel=>exact⟨n+1,g8,c8,insL ltT l t,by omega,by go_num,rfl,HNX.out,⟨bt HO0.out.b (HBW.out.trans (HB8.out.mono zB)),own_le HN8.out (Nat.le_trans HO0.out.b.size zB)⟩⟩
             case measure=>simp [intOf];omega
         · refine step_bldE _ rfl (.tmp 124) (by rfl) t.en (by simp [Act.eval]) t.en_size ?_
           have hbC:Below W2.heap.size W2 (W2.drew.alloc (.cells t.en 28)):=(Below.drew (Below.refl _ _)).alloc (by simp) _
           refine hK.out _ _ ⟨hbC,M01 _ hbC⟩ (fun hHeld=>?_)
           (clear hK K;(try simp only[Act.put,pz]))
           refine rgb (i:=0) (by kernel_rfl) rfl (fun K hK=>?_)
           go_simp
           have hbB:Below W2.heap.size W2 ((W2.drew.alloc (.cells t.en 28)).alloc (.cells #[] 28)):=hbC.alloc (by simp) _
           refine hK.out _ _ ⟨hbB,M01 _ hbB⟩ (fun hHeld=>?_)
           (clear hK K;(try simp only[Act.put,pz]))
           refine rgb (i:=4) (by kernel_rfl) rfl (fun K hK=>?_)
           refine step_appX _ rfl (.tmp 115) (.tmp 118) 48 28 _ _ 33 336 (by rfl) Tryz.underlying48 en_i en_i0 en_i1 en_i2 (vals_size _ _ _) (by decide) W2.heap.size (Value.slice (some ⟨W2.heap.size+1,0,none⟩) 0 0) (Value.slice (some ⟨g,0,none⟩) k c) 0 k [] ((tcs TE.en l).take (k*33)) (by simp [Act.eval]) (own_zeroR (w:=W2.drew.alloc (.cells t.en 28)) (by simp) (by omega)) (by simp [Act.eval]) ((headK HO2.out hkl).below hbB) (fun u hu=>tcs_ones TE.en TE.one l u (List.mem_of_mem_take hu)) (by unfold maxLen;omega) (by omega) (by first | (simp;done) | (simp;omega)) ?_
           intro a5 c5 w5 hown5 hg5 _
           have hb5:Below W2.heap.size W2 w5:=hbB.grown hg5 (by first | (simp;done) | (simp;omega)) (fun q hq=>by have h2:W2.heap.size+1=q:=(by simpa [Value.ownBlock] using hq);omega)
           have csx:=((cs_33 (X:=W2.drew) (t:=28) (q:=W2.heap.size) rfl t.en_size).below (below_al' _ (.cells #[] 28))).grown hg5 (by intro e;have e2:W2.heap.size=W2.heap.size+1:=Option.some.inj e;omega) (by first | (simp;done) | (simp;omega))
           refine hK.out _ _ ⟨hb5,M01 _ hb5⟩ (fun hHeld=>?_)
           (clear hK K;(try simp only[Act.put,pz]))
           refine rgb (i:=11) (by kernel_rfl) rfl (fun K hK=>?_)
           refine step_appX _ rfl (.tmp 119) (.tmp 125) 48 28 _ _ 33 336 (by rfl) Tryz.underlying48 en_i en_i0 en_i1 en_i2 (vals_size _ _ _) (by decide) W2.heap.size (Value.slice a5 (0+k) c5) (Value.slice (some ⟨W2.heap.size,0,none⟩) 1 1) (0+k) 1 _ (t.en.toList) (by simp [Act.eval]) hown5 (by simp [Act.eval]) (csx) (all1 t.one) (by unfold maxLen;omega) (by omega) hb5.size ?_
           intro a7 c7 w7 hown7 hg7 _
           have hb7:Below W2.heap.size W2 w7:=hb5.grown hg7 hb5.size (fun q hq=>(own_base hown5 q hq).1)
           refine hK.out _ _ ⟨hb7,M01 _ hb7⟩ (fun hHeld=>?_)
           (clear hK K;(try simp only[Act.put,pz]))
           refine rgb (i:=15) (by kernel_rfl) rfl (fun K hK=>?_)
           refine step_appX _ rfl (.tmp 126) (.tmp 129) 48 28 _ _ 33 336 (by rfl) Tryz.underlying48 en_i en_i0 en_i1 en_i2 (vals_size _ _ _) (by decide) W2.heap.size (Value.slice a7 (0+k+1) c7) (Value.slice (some ⟨g,offK 33 c k,none⟩) (l.length - k) (c - k)) (0+k+1) (l.length - k) _ ((tcs TE.en l).drop (k*33)) (by simp [Act.eval]) hown7 (by simp [Act.eval]) ((tailK HO2.out hcap.1).below hb7) (fun u hu=>tcs_ones TE.en TE.one l u (List.mem_of_mem_drop hu)) (by unfold maxLen;omega) (by omega) hb7.size ?_
           intro a8 c8 w8 hown8 hg8 _
           have hb8:Below W2.heap.size W2 w8:=hb7.grown hg8 hb7.size (fun q hq=>(own_base hown7 q hq).1)
           rw[HFin.out] at hown8
           generalize hLL:0+k+1+(l.length - k)=LL at hown8 ⊢
           obtain rfl:LL=(insL ltT l t).length:=by rw[insL_lenG];omega
           obtain⟨g8,rfl,-,-⟩:=own_someR hown8 (by rw[insL_lenG];omega)
           refine hK.out _ _ ⟨hb8,M01 _ hb8⟩ (fun hHeld=>?_)
           (clear hK K;(try simp only[Act.put,pz]))
           (refine rgy (i:=16) (some 8) ?_;(try simp only[Act.put,pz]))
           refine wpAnyH_done (by kernel_rfl) ?_ _
           have HN8:=Lib.hid hown8
           have HB8:=Lib.hid hb8
           clear hown7 hown8 hg7 hg8 hHeld hb7 hb8 M0 M1 M01
           go_wp2_with fail
           go_roundw
           case rel=>exact⟨n+1,g8,c8,insL ltT l t,by omega,by go_num,rfl,HNX.out,⟨bt HO0.out.b (HBW.out.trans (HB8.out.mono zB)),own_le HN8.out (Nat.le_trans HO0.out.b.size zB)⟩⟩
           case measure=>simp [intOf];omega
     · obtain rfl:n=ts.length:=by omega
       have hd:=HD.out
       rw[List.take_length] at hd
       have hpm:=ins_perm ts []
       rw[hd,List.append_nil] at hpm
       have e:=srt_end L ts l HFO.out hd
       have hEL:=(HO0.out.tje (fun t ht=>(HM0.out.j.rd t (hpm.subset ht)).1)).el (by omega)
       rw[e] at hEL
       have HEN:=Lib.hid (And.intro hEL (bt HM0.out.b HO0.out.b))
       clear hd hpm e hEL HD HFO HM0 hO
       go_wp2_with fail
       go_ret
       exact⟨_,rfl,HEN.out.1,HEN.out.2⟩
end
end Go.Proofs.YtnojclchnhmggaaGreatDoor
