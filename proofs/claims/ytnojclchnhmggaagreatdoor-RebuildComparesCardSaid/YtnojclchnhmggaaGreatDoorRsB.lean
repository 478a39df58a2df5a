/- Contracts of the references: dasdref33.qualifier, owner; dasdref33.Valid at a group. -/
import Derived.Test.YtnojclchnhmggaaGreatDoorVaG
import Derived.Test.YtnojclchnhmggaaGreatDoorEn
import Derived.Test.YtnojclchnhmggaaGreatDoorGeA
import Derived.Laws.ResultCell
import Derived.Test.YtnojclchnhmggaaGreatDoorRsA
import Derived.Test.YtnojclchnhmggaaGreatDoorDsR
import Derived.Deep.RegionHeld3
import Derived.Deep.DeepCutAuto
namespace Go.Proofs.YtnojclchnhmggaaGreatDoor
open Go.RowKit
set_option maxRecDepth 8000
set_option maxHeartbeats 800000
section
theorem res_row1 {P:Program} {fn:Func} {p:Tmp} {ty:TypeId} {d:TypeDesc} {n:Nat} (h:fn.results=#[.cell p ty]) (hu:P.underlying ty=some d) (hd:(match d with | .struct _ | .array _ _=>true | _=>false)=true) (hi:(P.info? ty).map (·.size)=some (n+1))
  (tmps:Array Value) (w:World) (g:Nat) (hp:tmps.getD p undef=.pointer (some ⟨g,0,none⟩)) (hz:(row w g).size=n+1) :
  (results fn tmps).run P w=.ok (.agg (row w g)) w:=by
 have hl:=run_loadVar_block w g n ty d hu hd hi hz
 have hp':tmps[p]?.getD undef=.pointer (some ⟨g,0,none⟩):=by simpa using hp
 simp only[results,h]
 simp [hp',asAddr,hl]
attribute [local go_sem ↓] ldEnt stEnt stEntRow
attribute [local go_sem] Held_drew isHead_mk headOf_mk cellsOfV_mk isAggV_mk row_new row_new2 row_new2' row_drew row_drewN vals_size allOne_nil allOne_cons one_int one_bool one_string one_pointer one_slice vals_0 vals_1 vals_25 vals_26 vals_27 vals_28 vals_29 vals_30 vals_31 vals_32
theorem held3b (w:World) (c:Array Value):∀ (z x:Array Value) (t t1 t2:TypeId),z.size=33->Held ((((w.alloc (.cells c t)).alloc (.cells z t1)).alloc (.cells x t2)).drew) (w.heap.size+1) 33:=fun z x t t1 t2 hz=>by
 have h:=EB.new (w.alloc (.cells c t)) z t1
 rw[show (w.alloc (.cells c t)).heap.size=w.heap.size+1 by simp] at h
 exact held_of (h.of_block (heap_alloc_old _ _ h.2.2) (by simp)) hz (by decide)
theorem row3c' (w:World) (c:Array Value):∀ (z x:Array Value) (t t1 t2:TypeId),row ((((w.alloc (.cells c t)).alloc (.cells z t1)).alloc (.cells x t2)).drew) (w.heap.size+1+1)=x:=fun z x t t1 t2=>by
 have h:=row_new ((w.alloc (.cells c t)).alloc (.cells z t1)) x t2 (0,0)
 rw[row_drew];simpa using h
theorem used1 (e:En) (al gr:Value) (w:World) (hk:e.kind=1) :
  Calls Tryz.prog 108 #[.agg (e.vals al gr)] w fun r w'=>r=.returned (.agg ((onlyG e).vals (.slice none 0 0) (.slice none 0 0)))∧Below w.heap.size w w':=by
 have k0:(e.kind==0)=false:=by rw[hk];rfl
 have k1:(e.kind==1)=true:=by rw[hk];rfl
 clear hk
 have HH:=held3b w (e.vals al gr)
 have R3:=row3c' w (e.vals al gr)
 go_enter Tryz.func108,Tryz.ntmps108
 go_wp2_with fail
 go_region
 all_goals
  go_wp2_with fail
  refine bodyPost_ret (res_row1 (n:=32) rfl Tryz.underlying28 rfl (by kernel_rfl) _ _ (w.heap.size+1) rfl (by rw[row_setRow (HH _ _ _ _ _ rfl)];rfl)) rfl ?_
  rw[row_setRow (HH _ _ _ _ _ rfl)]
  exact⟨by unfold onlyG En.vals;rfl,below_setRow (by exact belA) (show w.heap.size<=w.heap.size+1 by omega) _⟩
end
section
theorem rs_nsize (s:ByteArray) (h:Ds.name (Ds.bl s)=true):s.size<=31:=by
 unfold Ds.name at h
 simp only[Bool.and_eq_true,decide_eq_true_eq,Ds.bl_length] at h
 omega
theorem rqual (s:ByteArray) (w:World) :
  Calls Tryz.prog 200 #[.string s] w fun e w'=>e=.returned (.bool (Vp.word (Ds.bl s)))∧Below w.heap.size w w':=by
 have hv:=rds_Valid s w
 have hs:=rs_nsize s
 unfold Vp.word
 cases hn:Ds.name (Ds.bl s)
 · rw[hn] at hv
   clear hn hs
   go_enter Tryz.func200,Tryz.ntmps200
   go_wp2_with ((with_reducible refine hv.mono ?_);rintro _ w1 ⟨rfl,B⟩)
   go_ret
   exact⟨rfl,B⟩
 · rw[hn] at hv
   have hs:=hs hn
   clear hn
   go_enter Tryz.func200,Tryz.ntmps200
   go_wp2_with (first | ((with_reducible refine hv.mono ?_);rintro _ w1 ⟨rfl,B⟩) | (go_at_call 115;(with_reducible refine (rds_parts s _ (by omega)).mono ?_);rintro _ w2 ⟨qs,q,g,cap,hp,hql,-,-,rfl,-,-,-,b2⟩;have HP:=Lib.hid hp;clear hp))
   go_ret
   refine⟨ret_bool ?_,bt B b2⟩
   have:=congrArg List.length HP.out
   simp only[List.length_map,List.length_append,List.length_singleton] at this
   rw[<-this,Bool.true_and,Bool.eq_iff_iff,decide_eq_true_eq,beq_iff_eq]
   omega
theorem rowner (s:ByteArray) (w:World) :
  Calls Tryz.prog 114 #[.string s] w fun e w'=>e=.returned (.bool (Vp.own (Ds.bl s)))∧Below w.heap.size w w':=by
 have hq:=rqual s w
 unfold Vp.own
 by_cases h0:s.size=0
 · have e0:s.toList.isEmpty=true:=isEmpty_nil _ h0
   have e1:(Ds.bl s).isEmpty=true:=by rw[List.isEmpty_iff_length_eq_zero,Ds.bl_length];exact h0
   rw[e1]
   clear h0 e1
   go_enter Tryz.func114,Tryz.ntmps114
   go_wp2_with fail
   go_ret
   exact⟨rfl,Below.refl _ _⟩
 · have e0:s.toList.isEmpty=false:=isEmpty_of _ (by omega)
   have e1:(Ds.bl s).isEmpty=false:=by rw[Bool.eq_false_iff,Ne,List.isEmpty_iff_length_eq_zero,Ds.bl_length];exact h0
   rw[e1]
   clear h0 e1
   go_enter Tryz.func114,Tryz.ntmps114
   go_wp2_with ((with_reducible refine hq.mono ?_);rintro _ w1 ⟨rfl,B⟩)
   go_ret
   exact⟨rfl,B⟩
theorem bqc {α:Type} [BEq α] [LawfulBEq α] (a b:α):(a==b)=(b==a):=by
 rw[Bool.eq_iff_iff,beq_iff_eq,beq_iff_eq];exact eq_comm
theorem dcc {α:Type} [DecidableEq α] (a b:α):decide (a=b)=decide (b=a):=by
 rw[Bool.eq_iff_iff,decide_eq_true_eq,decide_eq_true_eq];exact eq_comm
theorem datEq_comm (e f:En):datEq e f=datEq f e:=by
 unfold datEq
 rw[bqc e.d0,bqc e.d1,bqc e.d2,bqc e.d3,bqc e.d4,bqc e.d5,bqc e.d6,bqc e.d7,bqc e.d8,bqc e.d9,bqc e.d10,bqc e.d11,bqc e.d12,bqc e.d13,bqc e.uq,bqc e.cls,bqc e.vol.toList,bqc e.own.toList,bqc e.cr,bqc e.ex,bqc e.ar]
theorem sameE_comm (e f:En) (l1 l2:List Int) (g1 g2:List Gr):sameE e f l1 l2 g1 g2=sameE f e l2 l1 g2 g1:=by
 unfold sameE
 rw[datEq_comm e f,bqc e.kind,bqc e.name.toList,dcc l1,bqc e.used,bqc e.lim,bqc e.last,bqc e.em,bqc e.owner.toList,bqc e.target.toList,bqc e.cat,bqc e.lev,dcc g1]
theorem keep1 {w w1 w2:World} {g:Nat} {cs:Array Value} (hb:Below w1.heap.size w1 w2) (s:row w1 g=cs∧Below w.heap.size w w1) (h0:0<cs.size) :
  row w2 g=cs∧Below w.heap.size w w2:=⟨row_below hb s.1 h0,bt s.2 hb⟩
def grpR (e:En):Bool:=Ds.group (Ds.bl e.name)&&decide (1<=e.lim)&&decide (e.lim<=63)&&decide (0<=e.last)&&decide (e.last<=9999)&&Vp.own (Ds.bl e.owner)
theorem okG_ref (e:En) (l2:List Int) (g2:List Gr):okG e l2 g2=(sameE e (onlyG e) l2 [] g2 []&&grpR e):=by
 unfold okG grpR Vp.grp
 rw[sameE_comm e (onlyG e)]
 have e1:∀ lo hi n:Int,Vp.rng lo hi [n]=(decide (lo<=n)&&decide (n<=hi)):=fun lo hi n=>by simp [Vp.rng]
 rw[e1,e1]
 simp only[Bool.and_assoc]
 generalize sameE (onlyG e) e [] l2 [] g2=x
 cases x <;> simp
attribute [local go_sem ↓] ldEnt stEnt stEntRow
attribute [local go_sem] Held_drew isHead_mk headOf_mk cellsOfV_mk isAggV_mk row_new row_new2 row_new2' row_drew row_drewN vals_size allOne_nil allOne_cons one_int one_bool one_string one_pointer one_slice vals_0 vals_1 vals_25 vals_26 vals_27 vals_28
theorem rvalid1b (e:En) (al gr:Value) (b:Bool) (w:World) (hk:e.kind=1) (hsz:e.name.size<=60)
  (hs:∀ W,Below w.heap.size w W->Calls Tryz.prog 63 #[.agg (e.vals al gr),.agg ((onlyG e).vals (.slice none 0 0) (.slice none 0 0))] W fun r w'=>r=.returned (.bool b)∧Below W.heap.size W w') :
  Calls Tryz.prog 48 #[.agg (e.vals al gr)] w fun r w'=>r=.returned (.bool (b&&grpR e))∧Below w.heap.size w w':=by
 have hu:=fun W=>used1 e al gr W hk
 have k0:(e.kind==0)=false:=by rw[hk];rfl
 have k1:(e.kind==1)=true:=by rw[hk];rfl
 have HU:=Lib.hid hu
 clear hk hu
 have B0:∀ t,Below w.heap.size w (w.alloc (.cells (e.vals al gr) t)).drew:=fun t=>by exact belA
 have R0:∀ t,row (w.alloc (.cells (e.vals al gr) t)).drew w.heap.size=e.vals al gr:=fun t=>by rw[row_drew];exact row_new w _ t _
 cases b
 · have HS:=Lib.hid hs
   clear hs
   go_enter Tryz.func48,Tryz.ntmps48
   go_wp2_with fail
   go_region_held3 (fun w'=>row w' w.heap.size=e.vals al gr∧Below w.heap.size w w') (first | exact⟨R0 _,B0 _⟩ | exact keep1 hb (by assumption) (by simp [vals_size])) (first | (go_at_call 108;(with_reducible refine (HU.out _).mono ?_);rintro e w2 ⟨rfl,hb⟩) | (go_at_call 63;(with_reducible refine (HS.out _ (by assumption:row _ _=_∧Below _ _ _).2).mono ?_);rintro e w3 ⟨rfl,hb⟩))
   all_goals
    go_wp2_with fail
    go_ret
    exact⟨rfl,(by assumption:row _ _=_∧Below _ _ _).2⟩
 · have HS:=Lib.hid hs
   clear hs
   unfold grpR
   have hg:=fun W=>rds_group e.name W
   have ho:=fun W=>rowner e.owner W
   generalize Ds.group (Ds.bl e.name)=c0 at hg ⊢
   generalize Vp.own (Ds.bl e.owner)=c5 at ho ⊢
   have HG:=Lib.hid hg
   have HO:=Lib.hid ho
   clear hg ho
   go_enter Tryz.func48,Tryz.ntmps48
   go_wp2_with fail
   go_region_held3 (fun w'=>row w' w.heap.size=e.vals al gr∧Below w.heap.size w w') (first | exact⟨R0 _,B0 _⟩ | exact keep1 hb (by assumption) (by simp [vals_size])) (first | (go_at_call 108;(with_reducible refine (HU.out _).mono ?_);rintro e w2 ⟨rfl,hb⟩) | (go_at_call 63;(with_reducible refine (HS.out _ (by assumption:row _ _=_∧Below _ _ _).2).mono ?_);rintro e w3 ⟨rfl,hb⟩))
   all_goals
    obtain⟨R,B⟩:=(by assumption:row _ _=_∧Below _ _ _)
    have n0:=cell_row R 0 _ (vals_0 e al gr)
    have n1:=cell_row R 1 _ (vals_1 e al gr)
    go_upto_region 9 with (first
     | (go_at_call 98;(with_reducible refine (rds_Valid e.name _).mono ?_);rintro _ w5 ⟨rfl,hb⟩;have R:=row_below hb R (by simp [vals_size]);have n0:=cell_row R 0 _ (vals_0 e al gr);have n1:=cell_row R 1 _ (vals_1 e al gr);have B:=bt B hb;clear hb)
     | (go_at_call 109;(with_reducible refine (rds_split e.name _ hsz).mono ?_);rintro _ w6 ⟨rfl,hb⟩;have R:=row_below hb R (by simp [vals_size]);have n0:=cell_row R 0 _ (vals_0 e al gr);have n1:=cell_row R 1 _ (vals_1 e al gr);have B:=bt B hb;clear hb))
    have v5:=cell_row R 25 _ (vals_25 e al gr)
    have v6:=cell_row R 26 _ (vals_26 e al gr)
    have v8:=cell_row R 28 _ (vals_28 e al gr)
    cases c0
    · go_wp2_with (first | (go_at_call 113;(with_reducible refine (HG.out _).mono ?_);rintro _ w7 ⟨rfl,hb⟩;have R:=row_below hb R (by simp [vals_size]);have v5:=cell_row R 25 _ (vals_25 e al gr);have v6:=cell_row R 26 _ (vals_26 e al gr);have v8:=cell_row R 28 _ (vals_28 e al gr);have B:=bt B hb;clear hb))
      go_ret
      exact⟨rfl,B⟩
    by_cases p1:1<=e.lim
    rotate_left
    · have d1:decide (1<=e.lim)=false:=decide_eq_false p1
      go_wp2_with (first | (go_at_call 113;(with_reducible refine (HG.out _).mono ?_);rintro _ w7 ⟨rfl,hb⟩;have R:=row_below hb R (by simp [vals_size]);have v5:=cell_row R 25 _ (vals_25 e al gr);have v6:=cell_row R 26 _ (vals_26 e al gr);have v8:=cell_row R 28 _ (vals_28 e al gr);have B:=bt B hb;clear hb))
      go_ret
      exact⟨ret_bool (by rw[d1];simp),B⟩
    by_cases p2:e.lim<=63
    rotate_left
    · have d2:decide (e.lim<=63)=false:=decide_eq_false p2
      go_wp2_with (first | (go_at_call 113;(with_reducible refine (HG.out _).mono ?_);rintro _ w7 ⟨rfl,hb⟩;have R:=row_below hb R (by simp [vals_size]);have v5:=cell_row R 25 _ (vals_25 e al gr);have v6:=cell_row R 26 _ (vals_26 e al gr);have v8:=cell_row R 28 _ (vals_28 e al gr);have B:=bt B hb;clear hb))
      go_ret
      exact⟨ret_bool (by rw[d2];simp),B⟩
    by_cases p3:0<=e.last
    rotate_left
    · have d3:decide (0<=e.last)=false:=decide_eq_false p3
      go_wp2_with (first | (go_at_call 113;(with_reducible refine (HG.out _).mono ?_);rintro _ w7 ⟨rfl,hb⟩;have R:=row_below hb R (by simp [vals_size]);have v5:=cell_row R 25 _ (vals_25 e al gr);have v6:=cell_row R 26 _ (vals_26 e al gr);have v8:=cell_row R 28 _ (vals_28 e al gr);have B:=bt B hb;clear hb))
      go_ret
      exact⟨ret_bool (by rw[d3];simp),B⟩
    by_cases p4:e.last<=9999
    rotate_left
    · have d4:decide (e.last<=9999)=false:=decide_eq_false p4
      go_wp2_with (first | (go_at_call 113;(with_reducible refine (HG.out _).mono ?_);rintro _ w7 ⟨rfl,hb⟩;have R:=row_below hb R (by simp [vals_size]);have v5:=cell_row R 25 _ (vals_25 e al gr);have v6:=cell_row R 26 _ (vals_26 e al gr);have v8:=cell_row R 28 _ (vals_28 e al gr);have B:=bt B hb;clear hb))
      go_ret
      exact⟨ret_bool (by rw[d4];simp),B⟩
    · go_wp2_with (first | (go_at_call 113;(with_reducible refine (HG.out _).mono ?_);rintro _ w7 ⟨rfl,hb⟩;have R:=row_below hb R (by simp [vals_size]);have v5:=cell_row R 25 _ (vals_25 e al gr);have v6:=cell_row R 26 _ (vals_26 e al gr);have v8:=cell_row R 28 _ (vals_28 e al gr);have B:=bt B hb;clear hb) | (go_at_call 114;(with_reducible refine (HO.out _).mono ?_);rintro _ w8 ⟨rfl,hb⟩;have B:=bt B hb;clear hb))
      go_ret
      exact⟨ret_bool (by rw[decide_eq_true p1,decide_eq_true p2,decide_eq_true p3,decide_eq_true p4];simp),B⟩
theorem rvalid1 (e:En) (al gr:Value) (l2:List Int) (g2:List Gr) (w:World) (hk:e.kind=1) (h1:IS w al l2) (h2:GS w gr g2) (hsz:e.name.size<=60) :
  Calls Tryz.prog 48 #[.agg (e.vals al gr)] w fun r w'=>r=.returned (.bool (okG e l2 g2))∧Below w.heap.size w w':=by
 rw[okG_ref]
 exact rvalid1b e al gr _ w hk hsz fun W b=>rsame e (onlyG e) al gr _ _ l2 [] g2 [] W (h1.below b) (IS.nil W) (h2.below b) (GS.nil W)
end
end Go.Proofs.YtnojclchnhmggaaGreatDoor
