/- The reference of chapter 37: Few, Differences, less, insert. -/
import Derived.Shelf.SlSortCmp.WholeK
import Derived.Test.YtnojclchnhmggaaGreatDoorBd
import Derived.Test.YtnojclchnhmggaaGreatDoorChA
import Derived.StillTailTactics
import Derived.Test.YtnojclchnhmggaaGreatDoorBg
import Derived.Test.YtnojclchnhmggaaGreatDoorSrt
namespace Go.Proofs.YtnojclchnhmggaaGreatDoor
open Go.RowKit
set_option maxHeartbeats 16000000
section
set_option maxRecDepth 100000
set_option linter.unusedSimpArgs false
def Ex (w w':World):Prop:=∃ q os,w'=Go.Sort.grow (w.drewN q) os
theorem Ex.refl (w:World):Ex w w:=⟨0,#[],by show w={ w with heap:=w.heap++#[],drawn:=w.drawn+0 };simp⟩
theorem Ex.alloc {w w1:World} (h:Ex w w1) (o:Obj):Ex w (w1.alloc o):=by
 obtain⟨q,os,rfl⟩:=h
 exact⟨q,os++#[o],by rw[Go.Sort.alloc_eq_grow,Go.Sort.grow_grow]⟩
theorem Ex.drewN {w w1:World} (h:Ex w w1) (n:Nat):Ex w (w1.drewN n):=by
 obtain⟨q,os,rfl⟩:=h
 exact⟨q+n,os,by show ({ heap:=_,tape:=_,drawn:=w.drawn+q+n,os:=_,output:=_ }:World)={ heap:=_,tape:=_,drawn:=w.drawn+(q+n),os:=_,output:=_ };rw[Nat.add_assoc];rfl⟩
theorem Ex.drew {w w1:World} (h:Ex w w1):Ex w w1.drew:=h.drewN 1
theorem Ex.trans {a b c:World} (h:Ex a b) (k:Ex b c):Ex a c:=by
 obtain⟨q,os,rfl⟩:=k
 obtain⟨q',os',e⟩:=h.drewN q
 exact⟨q',os'++os,by rw[e,Go.Sort.grow_grow]⟩
theorem Ex.below {w w1:World} (h:Ex w w1):Below w.heap.size w w1:=by
 obtain⟨q,os,rfl⟩:=h
 exact⟨rfl,rfl,rfl,by show w.heap.size<=(w.heap++os).size;simp,fun k hk=>by show (w.heap++os)[k]?=w.heap[k]?;rw[Array.getElem?_append_left hk]⟩
theorem sp_ext:∀ c:Fin 32,Ds.bl ((⟨(List.replicate 128 (32:UInt8)).toArray⟩:ByteArray).extract 0 c.1)=List.replicate c.1 32:=by decide +kernel
theorem rep_sp (c:Nat) (h2:2<=c) (h:c<=31) (w:World):Calls Tryz.prog 158 #[.string ⟨#[32]⟩,.int .i64 (c:Int)] w fun r w'=>∃ t,r=.returned (.string t)∧Ds.bl t=List.replicate c 32∧w'=w:=by
 have hMul:=Tryz.bits_Mul 1 c (by decide) (by omega) w
 rw[Nat.one_mul,Nat.div_eq_of_lt (by omega),Nat.mod_eq_of_lt (by omega)] at hMul
 have HM:=Lib.hid hMul
 have t0:((c:Int)==0)=false:=by rw[beq_eq_false_iff_ne];omega
 have t1:((c:Int)==1)=false:=by rw[beq_eq_false_iff_ne];omega
 have wu:IntKind.u64.wrap (c:Int)=c:=by simp [IntKind.wrap,IntKind.bits,IntKind.signed];omega
 have wi:IntKind.i64.wrap (c:Int)=c:=IntWalk.i64_in _ ⟨by omega,by omega⟩
 have g1:(c:Int)<=128:=by omega
 have g2:¬ (9223372036854775807:Int)<c:=by omega
 have g0:(0:Int)<=(c:Int):=by omega
 clear hMul
 go_enter Tryz.func158,Tryz.ntmps158
 go_wp2_with (first
  | (go_at_call 237;(refine HM.out.mono ?_);rintro _ w1 ⟨rfl,rfl⟩)
  | (go_at_call 183;(refine (Tryz.strings_HasPrefix _ _ _).mono ?_);rintro e w1 ⟨he,rfl⟩;have he2:=he.trans (show _=Ending.returned (.bool true) from by kernel_rfl);clear he;subst he2))
 go_ret
 exact⟨_,rfl,sp_ext ⟨c,by omega⟩,rfl⟩
theorem rep_ex (s:ByteArray) (hs:s.size<=31) (W:World):Calls Tryz.prog 158 #[.string ⟨#[32]⟩,.int .i64 (31 - (s.size:Int))] W fun e w'=>∃ t,e=.returned (.string t)∧Ds.bl t=List.replicate (31 - s.size) 32∧t.size<=31∧w'=W:=by
 have fin:∀ t:ByteArray,Ds.bl t=List.replicate (31 - s.size) 32->t.size<=31:=fun t ht=>by rw[<-Ds.bl_length,ht,List.length_replicate];omega
 rw[show 31 - (s.size:Int)=((31 - s.size:Nat):Int) by omega]
 generalize 31 - s.size=c at fin ⊢
 rcases (by omega:c=0∨c=1∨2<=c) with rfl | rfl | h2
 · exact (Tryz.strings_Repeat_zero ⟨#[32]⟩ W).mono fun _ _ ⟨a,b⟩=>⟨_,a,rfl,fin _ rfl,b⟩
 · exact (Tryz.strings_Repeat_one ⟨#[32]⟩ W).mono fun _ _ ⟨a,b⟩=>⟨_,a,rfl,fin _ rfl,b⟩
 · by_cases h31:c<=31
   · exact (rep_sp c h2 h31 W).mono fun _ _ ⟨t,a,b,d⟩=>⟨t,a,b,fin t b,d⟩
   · exact absurd (fin ⟨(List.replicate c 32).toArray⟩ (by rw[Ds.bl_mk])) (by show ¬ (List.replicate c (32:UInt8)).toArray.size<=31;simp;omega)
theorem key_ex (k:Int) (s:ByteArray) (w:World):Calls Tryz.prog 72 #[.int .i64 k,.string s] w fun r w'=>r=.returned (.string (keyZ k s))∧Ex w w':=by
 by_cases hk:0<=k∧k<=4
 · obtain⟨A,K,B,hf⟩:=form_at k hk
   have hl:=lk_at (w.alloc (.map fe5 5)) w.heap.size k _ _ (heap_alloc_new w _) hf
   unfold formV at hl
   by_cases h31:s.size<=31
   · have D:=Lib.hid (Ek.key_yes k (Ds.bl s) hk (by rw[Ds.bl_length];exact h31))
     have HR:=Lib.hid (rep_ex s h31)
     clear hf hk
     generalize hc:Ek.letter k=c at hl D
     clear hc
     have hcv:=conv_at c
     have l1:¬ 9223372036854775807<1+s.size:=by omega
     have hw31:IntKind.i64.wrap (31 - (s.size:Int))=31 - (s.size:Int):=IntWalk.i64_in _ ⟨by omega,by omega⟩
     go_enter Tryz.func72,Tryz.ntmps72
     go_wp2_with (go_at_call 58;(with_reducible refine (fo_forms _).mono ?_);rintro _ w1 ⟨rfl,rfl⟩)
     go_region_law (first | (go_simp;go_at_call 158;(with_reducible refine (HR.out _).mono ?_);rintro _ w2 ⟨t,rfl,ht,hz,rfl⟩;have HT:=Lib.hid ht;have l2:¬ 9223372036854775807<1+s.size+t.size:=(by omega);clear ht))
     all_goals
      go_wp2
      go_ret
      refine⟨?_,by (repeat (first | exact Ex.refl _ | (refine Ex.alloc ?_ _) | (refine Ex.drew ?_) | (refine Ex.drewN ?_ _)))⟩
      refine ret_str (Ds.bl_inj ?_)
      rw[keyZ_bl,D.out]
      unfold Ek.pad
      rw[Ds.bl_length,<-HT.out]
      simp [Ds.bl]
   · have D:=Lib.hid (show Ek.key k (Ds.bl s)=[] by unfold Ek.key;rw[if_neg (by rw[Ds.bl_length];omega)])
     clear hf hk
     generalize hc:Ek.letter k=c at hl
     clear hc
     go_enter Tryz.func72,Tryz.ntmps72
     go_wp2_with (go_at_call 58;(with_reducible refine (fo_forms _).mono ?_);rintro _ w1 ⟨rfl,rfl⟩)
     go_ret
     exact⟨ret_str (Ds.bl_inj (by rw[keyZ_bl,D.out];rfl)),by (repeat (first | exact Ex.refl _ | (refine Ex.alloc ?_ _) | (refine Ex.drew ?_) | (refine Ex.drewN ?_ _)))⟩
 · have hf:=form_no k hk
   have hl:=lk_none (w.alloc (.map fe5 5)) w.heap.size k _ (heap_alloc_new w _) hf form_zero
   have D:=Lib.hid (show Ek.key k (Ds.bl s)=[] by unfold Ek.key Ek.isKind;rw[if_neg (by simp;omega)])
   clear hf hk
   go_enter Tryz.func72,Tryz.ntmps72
   go_wp2_with (go_at_call 58;(with_reducible refine (fo_forms _).mono ?_);rintro _ w1 ⟨rfl,rfl⟩)
   go_ret
   exact⟨ret_str (Ds.bl_inj (by rw[keyZ_bl,D.out];rfl)),by (repeat (first | exact Ex.refl _ | (refine Ex.alloc ?_ _) | (refine Ex.drew ?_) | (refine Ex.drewN ?_ _)))⟩
theorem TE.en_one (t:TE):∀ v∈t.en.toList,v.oneCell'=true:=all1 t.one
def TE.cf (x y:TE):Int:=cmpK x.1.1 y.1.1
theorem cf_is:IsCmp TE.cf:=cmpK_is.comap (fun t:TE=>t.1.1)
attribute [local go_sem] isHead_mk headOf_mk offOf_mk isPtr_mk cellsOfV_mk isAggV_mk row_new row_new2 row_new2' row_drew row_drewN allOne_nil allOne_cons one_int one_bool one_string one_pointer one_slice one_func
theorem re_cmp (x y:TE) (w:World):Calls Tryz.prog 70 #[.agg x.en,.agg y.en] w fun e w'=>e=.returned (.int .i64 (TE.cf x y))∧Ex w w':=by
 have R0:=row_new2 w x.en 28 (0,0) (.cells y.en 28)
 have R1:=row_new2' w y.en 28 (0,0) (.cells x.en 28)
 have c0:=cell_row R0 0 (.int .i64 x.1.1.1.kind) (vals_0 _ _ _)
 have c1:=cell_row R0 1 (.string x.1.1.1.name) (vals_1 _ _ _)
 have d0:=cell_row R1 0 (.int .i64 y.1.1.1.kind) (vals_0 _ _ _)
 have d1:=cell_row R1 1 (.string y.1.1.1.name) (vals_1 _ _ _)
 have HX:=Lib.hid (key_ex x.1.1.1.kind x.1.1.1.name)
 have HY:=Lib.hid (key_ex y.1.1.1.kind y.1.1.1.name)
 have hS:Ex w ((w.alloc (.cells x.en 28)).alloc (.cells y.en 28)):=((Ex.refl w).alloc _).alloc _
 have s0:((w.alloc (.cells x.en 28)).alloc (.cells y.en 28)).heap.size=w.heap.size+1+1:=by simp
 clear R0 R1
 go_enter Tryz.func70,Tryz.ntmps70
 go_upto_region 1 with fail
 generalize ((w.alloc _).alloc _)=W0 at c0 c1 d0 d1 hS s0 ⊢
 have hk:∀ W1 W2,Ex W1 W2->(W1.cell? ⟨w.heap.size,0,none⟩=some (.int .i64 x.1.1.1.kind)∧W1.cell? ⟨w.heap.size,1,none⟩=some (.string x.1.1.1.name)∧W1.cell? ⟨w.heap.size+1,0,none⟩=some (.int .i64 y.1.1.1.kind)∧W1.cell? ⟨w.heap.size+1,1,none⟩=some (.string y.1.1.1.name)∧Hid (Ex w W1))->(W2.cell? ⟨w.heap.size,0,none⟩=some (.int .i64 x.1.1.1.kind)∧W2.cell? ⟨w.heap.size,1,none⟩=some (.string x.1.1.1.name)∧W2.cell? ⟨w.heap.size+1,0,none⟩=some (.int .i64 y.1.1.1.kind)∧W2.cell? ⟨w.heap.size+1,1,none⟩=some (.string y.1.1.1.name)∧Hid (Ex w W2)):=fun W1 W2 e ⟨a,b,c,d,f⟩=>⟨below_cell e.below a,below_cell e.below b,below_cell e.below c,below_cell e.below d,Lib.hid (f.out.trans e)⟩
 go_region_held3 (fun w'=>w'.cell? ⟨w.heap.size,0,none⟩=some (.int .i64 x.1.1.1.kind)∧w'.cell? ⟨w.heap.size,1,none⟩=some (.string x.1.1.1.name)∧w'.cell? ⟨w.heap.size+1,0,none⟩=some (.int .i64 y.1.1.1.kind)∧w'.cell? ⟨w.heap.size+1,1,none⟩=some (.string y.1.1.1.name)∧Hid (Ex w w')) (first | exact⟨c0,c1,d0,d1,Lib.hid hS.drew⟩ | exact⟨c0,c1,d0,d1,Lib.hid hS⟩ | assumption | exact hk _ _ hE (by assumption)) (first
  | (go_at_call 72;(with_reducible refine (HX.out _).mono ?_);rintro _ w3 ⟨rfl,hE⟩)
  | (go_at_call 72;(with_reducible refine (HY.out _).mono ?_);rintro _ w3 ⟨rfl,hE⟩)
  | (go_at_call 71;(with_reducible refine (Tryz.strings_Compare _ _ _).mono ?_);rintro _ w3 ⟨rfl,rfl⟩))
 all_goals
  go_wp2_with fail
  go_ret
  rename_i hq
  exact⟨rfl,hq.2.2.2.2.out⟩
def Tryz.sf_ren:Go.Shelf.Ren:=⟨fun | 6=>69 | 14=>155 | 15=>156 | 20=>226 | 21=>227 | 22=>228 | 23=>229 | 24=>230 | 25=>231 | 26=>232 | 27=>233 | 28=>234 | 29=>235 | 46=>274 | 47=>275 | 48=>276 | 49=>277 | 50=>278 | 57=>304 | n=>n,fun | 0=>0 | 3=>3 | 4=>4 | 5=>5 | 9=>9 | 22=>48 | 24=>28 | 25=>135 | 39=>202 | 45=>258 | 46=>259 | 50=>263 | 53=>266 | 55=>238 | 66=>305 | 70=>183 | 76=>327 | 77=>328 | n=>n,fun n=>n⟩
theorem sf_lay:SlLaysF0.n6 Tryz.prog Tryz.sf_ren:={
 mixed:=by kernel_rfl
 f6:=⟨Tryz.f69.name,by decide,Tryz.func69.trans (congrArg some (by kernel_rfl))⟩
 f14:=⟨Tryz.f155.name,by decide,Tryz.func155.trans (congrArg some (by kernel_rfl))⟩
 f15:=Tryz.func156.trans (congrArg some (by kernel_rfl))
 f20:=⟨Tryz.f226.name,by decide,Tryz.func226.trans (congrArg some (by kernel_rfl))⟩
 f21:=⟨Tryz.f227.name,by decide,Tryz.func227.trans (congrArg some (by kernel_rfl))⟩
 f22:=⟨Tryz.f228.name,by decide,Tryz.func228.trans (congrArg some (by kernel_rfl))⟩
 f23:=⟨Tryz.f229.name,by decide,Tryz.func229.trans (congrArg some (by kernel_rfl))⟩
 f24:=⟨Tryz.f230.name,by decide,Tryz.func230.trans (congrArg some (by kernel_rfl))⟩
 f25:=⟨Tryz.f231.name,by decide,Tryz.func231.trans (congrArg some (by kernel_rfl))⟩
 f26:=⟨Tryz.f232.name,by decide,Tryz.func232.trans (congrArg some (by kernel_rfl))⟩
 f27:=⟨Tryz.f233.name,by decide,Tryz.func233.trans (congrArg some (by kernel_rfl))⟩
 f28:=Tryz.func234.trans (congrArg some (by kernel_rfl))
 f29:=Tryz.func235.trans (congrArg some (by kernel_rfl))
 f46:=⟨Tryz.f274.name,by decide,Tryz.func274.trans (congrArg some (by kernel_rfl))⟩
 f47:=Tryz.func275.trans (congrArg some (by kernel_rfl))
 f48:=Tryz.func276.trans (congrArg some (by kernel_rfl))
 f49:=⟨Tryz.f277.name,by decide,Tryz.func277.trans (congrArg some (by kernel_rfl))⟩
 f50:=⟨Tryz.f278.name,by decide,Tryz.func278.trans (congrArg some (by kernel_rfl))⟩
 f57:=⟨Tryz.f304.name,by decide,Tryz.func304.trans (congrArg some (by kernel_rfl))⟩
 t0:=Tryz.underlying0
 a0:=Tryz.isAgg0
 z0:=Tryz.sizeOf0
 v0:=Tryz.zeroValue0
 t3:=Tryz.underlying3
 a3:=Tryz.isAgg3
 z3:=Tryz.sizeOf3
 v3:=Tryz.zeroValue3
 t4:=Tryz.underlying4
 a4:=Tryz.isAgg4
 z4:=Tryz.sizeOf4
 v4:=Tryz.zeroValue4
 t5:=Tryz.underlying5
 a5:=Tryz.isAgg5
 z5:=Tryz.sizeOf5
 v5:=Tryz.zeroValue5
 t9:=Tryz.underlying9
 a9:=Tryz.isAgg9
 z9:=Tryz.sizeOf9
 v9:=Tryz.zeroValue9
 t22:=Tryz.underlying48
 a22:=Tryz.isAgg48
 z22:=Tryz.sizeOf48
 v22:=Tryz.zeroValue48
 t25:=Tryz.underlying135
 a25:=Tryz.isAgg135
 z25:=Tryz.sizeOf135
 v25:=Tryz.zeroValue135
 t39:=Tryz.underlying202
 a39:=Tryz.isAgg202
 z39:=Tryz.sizeOf202
 v39:=Tryz.zeroValue202
 t45:=Tryz.underlying258
 a45:=Tryz.isAgg258
 z45:=Tryz.sizeOf258
 v45:=Tryz.zeroValue258
 t46:=Tryz.underlying259
 a46:=Tryz.isAgg259
 z46:=Tryz.sizeOf259
 v46:=Tryz.zeroValue259
 t50:=Tryz.underlying263
 a50:=Tryz.isAgg263
 z50:=Tryz.sizeOf263
 v50:=Tryz.zeroValue263
 t53:=Tryz.underlying266
 a53:=Tryz.isAgg266
 z53:=Tryz.sizeOf266
 v53:=Tryz.zeroValue266
 t55:=Tryz.underlying238
 a55:=Tryz.isAgg238
 z55:=Tryz.sizeOf238
 v55:=Tryz.zeroValue238
 t66:=Tryz.underlying305
 a66:=Tryz.isAgg305
 z66:=Tryz.sizeOf305
 v66:=Tryz.zeroValue305
 t70:=Tryz.underlying183
 a70:=Tryz.isAgg183
 z70:=Tryz.sizeOf183
 v70:=Tryz.zeroValue183
 t76:=Tryz.underlying327
 a76:=Tryz.isAgg327
 z76:=Tryz.sizeOf327
 v76:=Tryz.zeroValue327
 t77:=Tryz.underlying328
 a77:=Tryz.isAgg328
 z77:=Tryz.sizeOf328
 v77:=Tryz.zeroValue328 }
section
variable {α:Type} [Inhabited α] {f:α->Array Value} {n:Nat}
theorem flat_tcs (hn:0<n) (hf:∀ t,(f t).size=n) (S:List α) (j:Nat) (hj:j<S.length*n):(tcs f S)[j]?=some ((f S[j / n]!).toList[j % n]!):=by
 have h1:j / n<S.length:=Nat.div_lt_of_lt_mul (by rw[Nat.mul_comm];exact hj)
 have h2:j % n<n:=Nat.mod_lt _ hn
 have:=tcs_at f n hf S (j / n) h1 (j % n) h2
 rw[Nat.div_add_mod'] at this
 rw[this,getElem!_pos S _ h1,getElem!_pos _ _ (by rw[Array.length_toList,hf];exact h2),Array.getElem?_eq_getElem (by rw[hf];exact h2),Array.getElem_toList]
 rfl
theorem holds_tcs (hn:0<n) (hf:∀ t,(f t).size=n) {W:World} {base g cap:Nat} {T:TypeId} {S:List α} (h:W.ownsRow base T n (.slice (some ⟨g,0,none⟩) S.length cap) S.length (tcs f S)) (h0:0<S.length):Go.Sort.HoldsK (fun t=>(f t).toList) n W g 0 S.toArray:=by
 rcases h.2 with ⟨h1,h2⟩ | ⟨g',cap',cur,e,_,hg,hnc,_,hcs,ht⟩
 · cases h1
 cases e
 intro j hj
 rw[Go.Sort.size_flatK] at hj
 have hj':j<S.length*n:=by simpa using hj
 have hf2:=flat_tcs hn hf S j hj'
 rw[Go.Sort.get_flatK _ n S.toArray j hj]
 obtain⟨a,c,e,-,p⟩:=own_cells h
 cases e
 obtain⟨ad,e,p⟩:=p h0
 cases e
 have q:=p j _ hf2
 rw[Addr.add_lit] at q
 refine⟨?_,by simp [World.frozen?,hg]⟩
 rw[q]
 simp
theorem grownBy_srtK {w:World} {g m:Nat} {os:Array Obj} (enc:α->List Value) (d:Array α):w.grownBy (sortWorldK enc n w g 0 m d os) (some g):=by
 unfold sortWorldK Go.Sort.putRowK
 refine⟨rfl,rfl,rfl,by simp,fun k hk hne=>?_⟩
 rw[Go.Sort.heap_grow_old _ _ (by simpa using hk)]
 have:g≠k:=fun e=>hne (by rw[e])
 simp [Go.Sort.putRow,Go.Sort.mapBlock,Go.Sort.ahead,Array.getElem?_modify,this]
theorem srt_cells {w:World} {g m:Nat} {os:Array Obj} {S:List α} {d:Array α} (hf:∀ t,(f t).size=n) (hH:Go.Sort.HoldsK (fun t=>(f t).toList) n w g 0 S.toArray) (hg:g<w.heap.size) (hd:d.size=S.length) (k:Nat) (hk:k<d.size) (j:Nat) (u:Value) (hu:(f d[k])[j]?=some u):(sortWorldK (fun t=>(f t).toList) n w g 0 m d os).cell? ⟨g,k*n+j,none⟩=some u:=by
 have hj:j<n:=by have:=(Array.getElem?_eq_some_iff.1 hu).1;rwa [hf] at this
 have h:=(holdsK_sortWorldK_c (fun t=>(f t).toList) n w g 0 S.toArray d m os hH hg (by simpa using hd)).cell hk hj
 rw[Nat.zero_add] at h
 rw[h.1,getElem!_pos d k hk,getElem!_pos _ j (by rw[Array.length_toList,hf];exact hj),Array.getElem_toList]
 rw[Array.getElem?_eq_getElem (by rw[hf];exact hj)] at hu
 exact hu
end
theorem re_sort (blk cap:Nat) (d:Array TE) (w:World) (hH:Go.Sort.HoldsK (fun t:TE=>t.en.toList) 33 w blk 0 d) (hblk:blk<w.heap.size) (hsz:d.size<4611686018427387904) :
  Calls Tryz.prog 69 #[.slice (some ⟨blk,0,none⟩) d.size cap,.func (.func 70) #[] #[]] w fun e w' =>
   e=.returned (.tuple #[])∧∃ d' n os,Go.Sort.PermIn 0 d.size d d'∧Go.Sort.SortedIn (ltOf TE.cf) 0 d.size d'∧w'=sortWorldK (fun t:TE=>t.en.toList) 33 w blk 0 n d' os :=
 AnyQ.slices_SortFunc sf_lay 33 Tryz.isAgg28 Tryz.sizeOf28 (fun t:TE=>t.en.toList) (fun t=>by rw[Array.length_toList];exact t.en_size) TE.en_one TE.cf cf_is.swo 70 #[] blk 0 cap d w (enters_of Tryz.func70 (by kernel_rfl) rfl) (fun _ _ _ _ x y=>re_cmp x y _) hH hblk hsz
theorem re_ins0 (v f:Value) (w:World):Calls Tryz.prog 226 #[v,.int .i64 0,.int .i64 0,f] w fun r w'=>r=.returned (.tuple #[])∧w'=w:=by
 go_enter Tryz.func226,Tryz.ntmps226
 go_wp2_with fail
 go_loopw [8] (fun i wr=>i=.int .i64 1∧wr=w) (fun _ _=>0)
 case atStart=>exact⟨rfl,rfl⟩
 case round =>
  obtain⟨rfl,rfl⟩:=hrel
  go_wp2_with fail
  go_end0
  exact⟨rfl,rfl⟩
theorem re_pdq0 (v f:Value) (u:Int) (w:World):Calls Tryz.prog 155 #[v,.int .i64 0,.int .i64 0,.int .i64 u,f] w fun r w'=>r=.returned (.tuple #[])∧w'=w:=by
 have HI:=Lib.hid (fun W=>re_ins0 v f W)
 go_enter Tryz.func155,Tryz.ntmps155
 go_wp2_with fail
 go_loopw [1,2,3,10,11] (fun a b _ _ _ wr=>a=.int .i64 0∧b=.int .i64 0∧wr=w) (fun _ _ _ _ _ _=>0)
 case atStart=>exact⟨rfl,rfl,rfl⟩
 case round =>
  obtain⟨rfl,rfl,rfl⟩:=hrel
  go_wp2_with (go_at_call 226;(with_reducible refine (HI.out _).mono ?_);rintro _ w2 ⟨rfl,rfl⟩)
  refine bodyPost_ret (results_none rfl _ _ _) rfl ?_
  exact⟨rfl,rfl⟩
theorem re_sort0 (a:Option Addr) (c:Nat) (f:Value) (w:World):Calls Tryz.prog 69 #[.slice a 0 c,f] w fun r w'=>r=.returned (.tuple #[])∧w'=w:=by
 have HP:=Lib.hid (fun u W=>re_pdq0 (.slice a 0 c) f u W)
 have hl:=Tryz.bits_Len 0 w (by decide) (by decide)
 have HL:=Lib.hid hl
 clear hl
 go_enter Tryz.func69,Tryz.ntmps69
 go_wp2_with (first
  | (go_at_call 156;(refine HL.out.mono ?_);rintro _ w2 ⟨rfl,rfl⟩)
  | (go_at_call 155;(refine (HP.out _ _).mono ?_);rintro _ w2 ⟨rfl,rfl⟩))
 go_end0
 exact⟨rfl,rfl⟩
theorem re_sortT {base:Nat} {w:World} {v:Value} {d:List TE} (h:TJE TE.en 33 28 base w v d) (hl:d.length<=1000) :
  Calls Tryz.prog 69 #[v,.func (.func 70) #[] #[]] w fun r w'=>r=.returned (.tuple #[])∧∃ d':List TE,d'.Perm d∧d'.Pairwise (fun a b=>decide (TE.cf b a<0)=false)∧EL w' v (d'.map (fun t=>t.1.1))∧w.grownBy w' v.ownBlock:=by
 obtain⟨a,c,rfl,hc⟩:=own_at TE.en_size h.own
 rcases Nat.eq_zero_or_pos d.length with h0 | h0
 · obtain rfl:=List.eq_nil_of_length_eq_zero h0
   refine (re_sort0 a c _ w).mono ?_
   rintro r w' ⟨rfl,rfl⟩
   exact⟨rfl,[],.refl _,.nil,h.el (by simp),World.grownBy.refl _ _⟩
 · obtain⟨g,rfl,-,hg,-⟩:=hc h0
   have hH:=holds_tcs (by decide) TE.en_size h.own h0
   have hs:=re_sort g c d.toArray w hH hg (by simp;omega)
   rw[show d.toArray.size=d.length by simp] at hs
   refine hs.mono ?_
   rintro r w' ⟨rfl,d',n,os,hp,ho,rfl⟩
   have hp2:=perm_arr (d:=d.toArray) (d':=d') (by simpa using hp)
   have hz:d'.size=d.length:=by have:=hp.1;simpa using this
   have hgr:=grownBy_srtK (n:=33) (w:=w) (g:=g) (m:=n) (os:=os) (fun t:TE=>t.en.toList) d'
   refine⟨rfl,d'.toList,hp2,sorted_arr hz ho,?_,hgr⟩
   have hlen:(d'.toList.map (fun t:TE=>t.1.1)).length=d.length:=by simp [hz]
   refine⟨some ⟨g,0,none⟩,c,by rw[hlen],by rw[hlen];omega,fun k hk=>?_⟩
   have hk':k<d'.size:=by rw[hlen] at hk;omega
   have hcell:=srt_cells (m:=n) (os:=os) TE.en_size hH hg hz k hk'
   have hmem:d'[k]∈d:=hp2.subset (by simp)
   obtain⟨hr,hf⟩:=h.rd _ hmem
   have hr':=hr.keep hf hgr.size (fun y hy hne=>hgr.block y hy (fun e=>hne e.symm))
   refine⟨g,0,d'[k].al,d'[k].gr,rfl,Nat.lt_of_lt_of_le hg hgr.size,?_,?_,?_⟩
   · rw[Nat.zero_add]
     refine (mid_of (vals_size _ _ _) (fun i u hu=>hcell i u hu)).trans ?_
     simp
   · simpa using hr'.1
   · simpa using hr'.2
end
section
set_option maxRecDepth 8000
set_option linter.unusedSimpArgs false
def dc (d:Df):Array Value:=#[.int .i64 d.1,.int .i64 d.2.1,.string d.2.2.1,.string d.2.2.2]
theorem dc_size (d:Df):(dc d).size=4:=rfl
theorem dc_one (d:Df):allOne (dc d).toList=true:=rfl
instance:Inhabited Df:=⟨(0,0,⟨#[]⟩,⟨#[]⟩)⟩
theorem or_four (a b:Df):orL [cmpI a.2.1 b.2.1,cmpB a.2.2.1 b.2.2.1,cmpI a.1 b.1,cmpB a.2.2.2 b.2.2.2]=cmpD a b:=by
 unfold orL orL orL orL orL cmpD
 split
 · split
   · split
     · split
       · rename_i h;exact h.symm
       · rfl
     · rfl
   · rfl
 · rfl
attribute [local go_sem] isHead_mk headOf_mk offOf_mk isPtr_mk cellsOfV_mk isAggV_mk row_new row_new2 row_new2' row_drew row_drewN allOne_nil allOne_cons one_int one_bool one_string one_pointer one_slice one_func
def Tryz.ss_ren:Go.Shelf.Ren:=⟨fun | 20=>247 | n=>n,fun | 0=>0 | 3=>3 | 4=>4 | 22=>64 | 24=>98 | 25=>145 | n=>n,fun | n=>n⟩
theorem ss_lay:SlLaysF0.n20 Tryz.prog Tryz.ss_ren:={
 mixed:=by kernel_rfl
 f20:=⟨Tryz.f247.name,by decide,Tryz.func247.trans (congrArg some (by kernel_rfl))⟩
 t0:=Tryz.underlying0
 a0:=Tryz.isAgg0
 z0:=Tryz.sizeOf0
 v0:=Tryz.zeroValue0
 t3:=Tryz.underlying3
 a3:=Tryz.isAgg3
 z3:=Tryz.sizeOf3
 v3:=Tryz.zeroValue3
 t4:=Tryz.underlying4
 a4:=Tryz.isAgg4
 z4:=Tryz.sizeOf4
 v4:=Tryz.zeroValue4
 t22:=Tryz.underlying64
 a22:=Tryz.isAgg64
 z22:=Tryz.sizeOf64
 v22:=Tryz.zeroValue64
 t25:=Tryz.underlying145
 a25:=Tryz.isAgg145
 z25:=Tryz.sizeOf145
 v25:=Tryz.zeroValue145 }
theorem ss_cmp (x y:Df) (w:World):Calls Tryz.prog 77 #[.agg (dc x),.agg (dc y)] w fun e w'=>e=.returned (.int .i64 (cmpD x y))∧Ex w w':=by
 have HO:=Lib.hid (or_four x y)
 have R0:=row_new2 w (dc x) 98 (0,0) (.cells (dc y) 98)
 have R1:=row_new2' w (dc y) 98 (0,0) (.cells (dc x) 98)
 have hS:Ex w ((w.alloc (.cells (dc x) 98)).alloc (.cells (dc y) 98)):=((Ex.refl w).alloc _).alloc _
 generalize cmpD x y=R at HO
 obtain⟨x0,x1,x2,x3⟩:=x
 obtain⟨y0,y1,y2,y3⟩:=y
 dsimp only at HO
 have c0:=cell_row R0 0 (.int .i64 x0) rfl
 have c1:=cell_row R0 1 (.int .i64 x1) rfl
 have c2:=cell_row R0 2 (.string x2) rfl
 have c3:=cell_row R0 3 (.string x3) rfl
 have d0:=cell_row R1 0 (.int .i64 y0) rfl
 have d1:=cell_row R1 1 (.int .i64 y1) rfl
 have d2:=cell_row R1 2 (.string y2) rfl
 have d3:=cell_row R1 3 (.string y3) rfl
 clear R0 R1
 unfold dc at c0 c1 c2 c3 d0 d1 d2 d3 hS ⊢
 dsimp only at c0 c1 c2 c3 d0 d1 d2 d3 hS ⊢
 go_enter Tryz.func77,Tryz.ntmps77
 go_upto_region 1 with fail
 generalize ((w.alloc _).alloc _)=W0 at c0 c1 c2 c3 d0 d1 d2 d3 hS ⊢
 have hk:∀ W1 W2,Ex W1 W2->(W1.cell? ⟨w.heap.size,0,none⟩=some (.int .i64 x0)∧W1.cell? ⟨w.heap.size,1,none⟩=some (.int .i64 x1)∧W1.cell? ⟨w.heap.size,2,none⟩=some (.string x2)∧W1.cell? ⟨w.heap.size,3,none⟩=some (.string x3)∧W1.cell? ⟨w.heap.size+1,0,none⟩=some (.int .i64 y0)∧W1.cell? ⟨w.heap.size+1,1,none⟩=some (.int .i64 y1)∧W1.cell? ⟨w.heap.size+1,2,none⟩=some (.string y2)∧W1.cell? ⟨w.heap.size+1,3,none⟩=some (.string y3)∧Hid (Ex w W1))->(W2.cell? ⟨w.heap.size,0,none⟩=some (.int .i64 x0)∧W2.cell? ⟨w.heap.size,1,none⟩=some (.int .i64 x1)∧W2.cell? ⟨w.heap.size,2,none⟩=some (.string x2)∧W2.cell? ⟨w.heap.size,3,none⟩=some (.string x3)∧W2.cell? ⟨w.heap.size+1,0,none⟩=some (.int .i64 y0)∧W2.cell? ⟨w.heap.size+1,1,none⟩=some (.int .i64 y1)∧W2.cell? ⟨w.heap.size+1,2,none⟩=some (.string y2)∧W2.cell? ⟨w.heap.size+1,3,none⟩=some (.string y3)∧Hid (Ex w W2)):=fun W1 W2 e ⟨a,b,c,d,a',b',c',d',f⟩=>⟨below_cell e.below a,below_cell e.below b,below_cell e.below c,below_cell e.below d,below_cell e.below a',below_cell e.below b',below_cell e.below c',below_cell e.below d',Lib.hid (f.out.trans e)⟩
 go_region_held3 (fun w'=>w'.cell? ⟨w.heap.size,0,none⟩=some (.int .i64 x0)∧w'.cell? ⟨w.heap.size,1,none⟩=some (.int .i64 x1)∧w'.cell? ⟨w.heap.size,2,none⟩=some (.string x2)∧w'.cell? ⟨w.heap.size,3,none⟩=some (.string x3)∧w'.cell? ⟨w.heap.size+1,0,none⟩=some (.int .i64 y0)∧w'.cell? ⟨w.heap.size+1,1,none⟩=some (.int .i64 y1)∧w'.cell? ⟨w.heap.size+1,2,none⟩=some (.string y2)∧w'.cell? ⟨w.heap.size+1,3,none⟩=some (.string y3)∧Hid (Ex w w')) (first | exact⟨c0,c1,c2,c3,d0,d1,d2,d3,Lib.hid hS.drew⟩ | exact⟨c0,c1,c2,c3,d0,d1,d2,d3,Lib.hid hS⟩ | assumption | exact hk _ _ ((Ex.refl _).alloc _) (by assumption)) (first
  | (go_at_call 68;(with_reducible refine (cmp_int _ _ _).mono ?_);rintro _ w3 ⟨rfl,rfl⟩)
  | (go_at_call 71;(with_reducible refine (Tryz.strings_Compare _ _ _).mono ?_);rintro _ w3 ⟨rfl,rfl⟩)
  | (go_at_call 67;(with_reducible refine (cmp_or _ [cmpI x1 y1,Lib.compareBytes x2.data.toList y2.data.toList,cmpI x0 y0,Lib.compareBytes x3.data.toList y3.data.toList] _ (is_new4 _ _ _ _ _ _)).mono ?_);rintro _ w3 ⟨rfl,rfl⟩))
 all_goals
  go_wp2_with fail
  go_ret
  rename_i hq
  exact⟨congrArg (fun b=>Ending.returned (.int .i64 b)) HO.out,hq.2.2.2.2.2.2.2.2.out⟩
theorem ss_ins (blk cap n:Nat) (d:Array Df) (w:World) (hn:d.size=n) (hH:Go.Sort.HoldsK (fun t:Df=>(dc t).toList) 4 w blk 0 d) (hblk:blk<w.heap.size) (h20:n<=20) :
  Calls Tryz.prog 247 #[.slice (some ⟨blk,0,none⟩) n cap,.int .i64 0,.int .i64 n,.func (.func 77) #[] #[]] w fun e w' =>
   e=.returned (.tuple #[])∧∃ m os,w'=sortWorldK (fun t:Df=>(dc t).toList) 4 w blk 0 m (Sort.insertionSort (ltOf cmpD) d 0 n) os:=by
 subst hn
 exact AnyQ.insertionSortCmpFunc ss_lay 4 Tryz.isAgg98 Tryz.sizeOf98 (fun t:Df=>(dc t).toList) (fun _=>rfl) (fun t=>all1 (dc_one t)) cmpD 77 #[] blk 0 cap 0 d.size d w (enters_of Tryz.func77 (by kernel_rfl) rfl) (fun _ _ _ _ x y=>ss_cmp x y _) hH hblk (Nat.zero_le _) (Nat.le_refl _) (by omega)
theorem ss_ins0 (v f:Value) (k:Nat) (hk:k=0∨k=20) (w:World):Calls Tryz.prog 247 #[v,.int .i64 (k:Int),.int .i64 (k:Int),f] w fun r w'=>r=.returned (.tuple #[])∧w'=w:=by
 rcases hk with rfl | rfl
 · go_enter Tryz.func247,Tryz.ntmps247
   go_wp2_with fail
   go_loopw [8] (fun i wr=>i=.int .i64 1∧wr=w) (fun _ _=>0)
   case atStart=>exact⟨rfl,rfl⟩
   case round =>
    obtain⟨rfl,rfl⟩:=hrel
    go_wp2_with fail
    go_end0
    exact⟨rfl,rfl⟩
 · go_enter Tryz.func247,Tryz.ntmps247
   go_wp2_with fail
   go_loopw [8] (fun i wr=>i=.int .i64 21∧wr=w) (fun _ _=>0)
   case atStart=>exact⟨rfl,rfl⟩
   case round =>
    obtain⟨rfl,rfl⟩:=hrel
    go_wp2_with fail
    go_end0
    exact⟨rfl,rfl⟩
theorem ss_stab (v f:Value) (n:Nat) (h:n<=20) (w:World) (Q:World->Prop) (hi:Calls Tryz.prog 247 #[v,.int .i64 0,.int .i64 n,f] w fun r w'=>r=.returned (.tuple #[])∧Q w') :
  Calls Tryz.prog 163 #[v,.int .i64 n,f] w fun r w'=>r=.returned (.tuple #[])∧Q w':=by
 have HI:=Lib.hid hi
 have H0:=Lib.hid (fun W=>ss_ins0 v f 20 (Or.inr rfl) W)
 clear hi
 rcases (by omega:n=20∨n<=19) with rfl | h19
 · have HI:=Lib.hid (show Calls Tryz.prog 247 #[v,.int .i64 0,.int .i64 20,f] w fun r w'=>r=.returned (.tuple #[])∧Q w' from HI.out)
   have H0:=Lib.hid (show ∀ W,Calls Tryz.prog 247 #[v,.int .i64 20,.int .i64 20,f] W fun r w'=>r=.returned (.tuple #[])∧w'=W from H0.out)
   show Calls Tryz.prog 163 #[v,.int .i64 20,f] w _
   go_enter Tryz.func163,Tryz.ntmps163
   go_wp2_with fail
   go_loopw [7,8] (fun i j wr=>(i=.int .i64 0∧j=.int .i64 20∧wr=w)∨(i=.int .i64 20∧j=.int .i64 40∧Hid (Q wr))) (fun i _ _=>20 - (intOf i).toNat)
   case atStart=>exact .inl ⟨rfl,rfl,rfl⟩
   case round =>
    rcases hrel with ⟨rfl,rfl,rfl⟩ | ⟨rfl,rfl,HQ⟩
    · go_wp2_with (go_at_call 247;(refine HI.out.mono ?_);rintro _ w2 ⟨rfl,hq⟩;have HQ:=Lib.hid hq;clear hq)
      go_roundw
      case rel=>exact .inr ⟨rfl,rfl,HQ⟩
      case measure=>simp [intOf]
    · go_wp2_with (go_at_call 247;(with_reducible refine (H0.out _).mono ?_);rintro _ w2 ⟨rfl,rfl⟩)
      go_loopw [6] (fun i wr2=>i=.int .i64 20∧wr2=w2) (fun _ _=>0)
      case atStart=>exact⟨rfl,rfl⟩
      case round =>
       obtain⟨rfl,rfl⟩:=hrel
       go_wp2_with fail
       go_end0
       exact⟨rfl,HQ.out⟩
 · have hn:((n:Nat):Int)<=19:=by omega
   have h0:(0:Int)<=(n:Int):=by omega
   clear H0
   go_enter Tryz.func163,Tryz.ntmps163
   go_wp2_with fail
   go_loopw [7,8] (fun i j wr=>i=.int .i64 0∧j=.int .i64 20∧wr=w) (fun _ _ _=>0)
   case atStart=>exact⟨rfl,rfl,rfl⟩
   case round =>
    obtain⟨rfl,rfl,rfl⟩:=hrel
    go_wp2_with (go_at_call 247;(refine HI.out.mono ?_);rintro _ w2 ⟨rfl,hq⟩;have HQ:=Lib.hid hq;clear hq)
    go_loopw [6] (fun i wr2=>i=.int .i64 20∧wr2=w2) (fun _ _=>0)
    case atStart=>exact⟨rfl,rfl⟩
    case round =>
     obtain⟨rfl,rfl⟩:=hrel
     go_wp2_with fail
     go_end0
     exact⟨rfl,HQ.out⟩
theorem ss_sort (v f:Value) (a:Option Addr) (n c:Nat) (hv:v=.slice a n c) (h:n<=20) (w:World) (Q:World->Prop) (hi:Calls Tryz.prog 247 #[v,.int .i64 0,.int .i64 n,f] w fun r w'=>r=.returned (.tuple #[])∧Q w') :
  Calls Tryz.prog 76 #[v,f] w fun r w'=>r=.returned (.tuple #[])∧Q w':=by
 subst hv
 have HI:=Lib.hid (ss_stab _ f n h w Q hi)
 clear hi
 go_enter Tryz.func76,Tryz.ntmps76
 go_wp2_with (go_at_call 163;(refine HI.out.mono ?_);rintro _ w2 ⟨rfl,hq⟩;have HQ:=Lib.hid hq;clear hq)
 go_end0
 exact⟨rfl,HQ.out⟩
def DF (w:World) (v:Value) (l:List Df):Prop:=∃ a c,v=.slice a l.length c∧(0<l.length->∃ g o,a=some ⟨g,o,none⟩∧g<w.heap.size∧∀ k (hk:k<l.length) j u,(dc l[k])[j]?=some u->w.cell? ⟨g,o+k*4+j,none⟩=some u)
theorem DF.below {w w':World} {v:Value} {l:List Df} (h:DF w v l) (hb:Below w.heap.size w w'):DF w' v l:=by
 obtain⟨a,c,h1,h2⟩:=h
 refine⟨a,c,h1,fun h0=>?_⟩
 obtain⟨g,o,q1,q2,q3⟩:=h2 h0
 exact⟨g,o,q1,Nat.lt_of_lt_of_le q2 hb.size,fun k hk j u hu=>(hb.cell (p:=⟨g,o+k*4+j,none⟩) q2).trans (q3 k hk j u hu)⟩
theorem DF.own {w:World} {base:Nat} {T:TypeId} {v:Value} {l:List Df} (h:w.ownsRow base T 4 v l.length (tcs dc l)):DF w v l:=by
 obtain⟨a,c,h1,h2⟩:=own_at dc_size h
 refine⟨a,c,h1,fun h0=>?_⟩
 obtain⟨g,q1,-,q2,q3⟩:=h2 h0
 exact⟨g,0,q1,q2,fun k hk j u hu=>by rw[Nat.zero_add];exact q3 k hk j u hu⟩
theorem ss_list {base:Nat} {w:World} {v:Value} {l:List Df} (h:w.ownsRow base 98 4 v l.length (tcs dc l)) (hl:l.length<=20) :
  Calls Tryz.prog 76 #[v,.func (.func 77) #[] #[]] w fun r w'=>r=.returned (.tuple #[])∧∃ d,d.Perm l∧d.Pairwise (fun a b=>ltD b a=false)∧DF w' v d∧w.grownBy w' v.ownBlock:=by
 obtain⟨a,c,rfl,hc⟩:=own_at dc_size h
 refine ss_sort _ _ a l.length c rfl hl w _ ?_
 rcases Nat.eq_zero_or_pos l.length with h0 | h0
 · obtain rfl:=List.eq_nil_of_length_eq_zero h0
   refine (ss_ins0 _ _ 0 (Or.inl rfl) w).mono ?_
   rintro r w' ⟨rfl,rfl⟩
   exact⟨rfl,[],.refl _,.nil,DF.own h,World.grownBy.refl _ _⟩
 · obtain⟨g,rfl,-,hg,-⟩:=hc h0
   have hH:=holds_tcs (by decide) dc_size h h0
   refine (ss_ins g c l.length l.toArray w (by simp) hH hg hl).mono ?_
   rintro r w' ⟨rfl,m,os,rfl⟩
   obtain⟨hp,ho⟩:=Go.Sort.insertionSort_holds (lt:=ltOf cmpD) cmpD_is.swo l.toArray 0 l.length (Nat.zero_le _) (by simp)
   generalize Go.Sort.insertionSort (ltOf cmpD) l.toArray 0 l.length=d' at hp ho
   have hp2:=perm_arr (d:=l.toArray) (d':=d') (by simpa using hp)
   have hz:d'.size=l.length:=by have:=hp.1;simpa using this
   have hgr:=grownBy_srtK (n:=4) (w:=w) (g:=g) (m:=m) (os:=os) (fun t:Df=>(dc t).toList) d'
   refine⟨rfl,d'.toList,hp2,sorted_arr hz ho,⟨some ⟨g,0,none⟩,c,by simp [hz],fun _=>⟨g,0,rfl,Nat.lt_of_lt_of_le hg hgr.size,fun k hk j u hu=>?_⟩⟩,hgr⟩
   rw[Nat.zero_add]
   exact srt_cells (m:=m) (os:=os) dc_size hH hg hz k (by simpa using hk) j u (by simpa using hu)
end
section
set_option maxRecDepth 8000
set_option linter.unusedSimpArgs false
def fewL (F:Nat->Rw) (n:Nat) (m:Int):Prop:=(n:Int)<=m∧∀ k,k<n->(F k).2.2.size<=500∧(F k).2.1.size<=40
def FewLR (F:Nat->Rw) (n:Nat) (m:Int) (w w':World) (r:Ending):Prop:=∃ b:Bool,r=.returned (.bool b)∧(b=true->fewL F n m)∧w'=w
theorem FewLR.no {F:Nat->Rw} {n:Nat} {m:Int} {w:World}:FewLR F n m w w (.returned (.bool false)):=⟨false,rfl,(fun h=>by cases h),rfl⟩
theorem rfew37 (a:Option Addr) (n c:Nat) (F:Nat->Rw) (m:Int) (w:World) (hL:RwL w a n F) :
  Calls Tryz.prog 24 #[.slice a n c,.int .i64 m] w fun r w'=>FewLR F n m w w' r:=by
 have HL:=Lib.hid hL
 have hn63:=hL.1
 clear hL
 go_enter Tryz.func24,Tryz.ntmps24
 go_wp2_with fail
 go_loopw [5] (fun i wr=>∃ k:Nat,k<=n∧i=.int .i64 k∧(∀ j,j<k->(F j).2.2.size<=500∧(F j).2.1.size<=40)∧wr=w) (fun i _=>n - (intOf i).toNat)
 case atStart=>exact⟨0,Nat.zero_le _,rfl,(fun j hj=>absurd hj (by omega)),rfl⟩
 case round =>
  obtain⟨k,hk,rfl,hok,rfl⟩:=hrel
  have HOK:=Lib.hid hok
  clear hok
  by_cases hlt:k<n
  · obtain⟨b,o,rfl,hb,h1,h2,h3⟩:=HL.out.2 k hlt
    by_cases s0:(F k).2.2.size<=500
    rotate_left
    · have f6:decide (500<((F k).2.2.size:Int))=true:=by rw[decide_eq_true_eq];omega
      go_wp2_with fail
      go_ret
      exact FewLR.no
    have f6:decide (500<((F k).2.2.size:Int))=false:=by rw[decide_eq_false_iff_not];omega
    by_cases s1:(F k).2.1.size<=40
    rotate_left
    · have f7:decide (40<((F k).2.1.size:Int))=true:=by rw[decide_eq_true_eq];omega
      go_wp2_with fail
      go_ret
      exact FewLR.no
    have f7:decide (40<((F k).2.1.size:Int))=false:=by rw[decide_eq_false_iff_not];omega
    have HS:Hid ((F k).2.2.size<=500∧(F k).2.1.size<=40):=Lib.hid ⟨s0,s1⟩
    clear s0 s1
    go_wp2_with fail
    go_roundw
    case rel =>
     refine⟨k+1,by omega,by go_num,fun j hj=>?_,trivial⟩
     rcases Nat.lt_or_ge j k with h | h
     · exact HOK.out j h
     · obtain rfl:j=k:=by omega
       exact HS.out
    case measure=>simp [intOf];omega
  · obtain rfl:k=n:=by omega
    by_cases s0:(k:Int)<=m
    rotate_left
    · have f6:decide ((k:Int)<=m)=false:=by rw[decide_eq_false_iff_not];omega
      go_wp2_with fail
      go_ret
      exact FewLR.no
    have f6:decide ((k:Int)<=m)=true:=by rw[decide_eq_true_eq];omega
    have HS:Hid ((k:Int)<=m):=Lib.hid s0
    clear s0
    go_wp2_with fail
    go_ret
    exact⟨_,rfl,fun _=>⟨HS.out,HOK.out⟩,rfl⟩
theorem ltD_1 {a b:Df} (h:a.2.1≠b.2.1):ltD a b=decide (a.2.1<b.2.1):=by
 unfold ltD cmpD
 rw[if_neg (fun q=>h (cmpI_zero q))]
 unfold cmpI
 split
 · rename_i q;rw[decide_eq_true q];rfl
 · split
   · rename_i q _;rw[decide_eq_false q];rfl
   · omega
theorem cmpI_self (a:Int):cmpI a a=0:=by unfold cmpI;rw[if_neg (by omega),if_neg (by omega)]
theorem cmpB_self (a:ByteArray):cmpB a a=0:=(Ds.cmp_zero _ _).2 rfl
theorem lessB (a b:ByteArray):Op.bytesLess a.toList b.toList=decide (cmpB a b<0):=less_bl a b
theorem ltD_2 {a b:Df} (h:a.2.1=b.2.1) (h2:a.2.2.1≠b.2.2.1):ltD a b=decide (cmpB a.2.2.1 b.2.2.1<0):=by
 unfold ltD cmpD
 rw[h,cmpI_self,if_pos rfl,if_neg (fun q=>h2 (cmpB_zero q))]
theorem ltD_3 {a b:Df} (h:a.2.1=b.2.1) (h2:a.2.2.1=b.2.2.1) (h3:a.1≠b.1):ltD a b=decide (a.1<b.1):=by
 unfold ltD cmpD
 rw[h,h2,cmpI_self,cmpB_self,if_pos rfl,if_pos rfl,if_neg (fun q=>h3 (cmpI_zero q))]
 unfold cmpI
 split
 · rename_i q;rw[decide_eq_true q];rfl
 · split
   · rename_i q _;rw[decide_eq_false q];rfl
   · omega
theorem ltD_4 {a b:Df} (h:a.2.1=b.2.1) (h2:a.2.2.1=b.2.2.1) (h3:a.1=b.1):ltD a b=decide (cmpB a.2.2.2 b.2.2.2<0):=by
 unfold ltD cmpD
 rw[h,h2,h3,cmpI_self,cmpB_self,cmpI_self,if_pos rfl,if_pos rfl,if_pos rfl]
attribute [local go_sem] isHead_mk headOf_mk offOf_mk isPtr_mk cellsOfV_mk isAggV_mk row_new row_new2 row_new2' row_drew row_drewN allOne_nil allOne_cons one_int one_bool one_string one_pointer one_slice one_func
theorem r37_less (a b:Df) (w:World):Calls Tryz.prog 164 #[.agg (dc a),.agg (dc b)] w fun r w'=>r=.returned (.bool (ltD a b))∧Below w.heap.size w w':=by
 have l1:=@ltD_1 a b
 have l2:=@ltD_2 a b
 have l3:=@ltD_3 a b
 have l4:=@ltD_4 a b
 generalize ltD a b=R at l1 l2 l3 l4
 obtain⟨a0,a1,a2,a3⟩:=a
 obtain⟨b0,b1,b2,b3⟩:=b
 dsimp only at l1 l2 l3 l4
 have s2:=lessB a2 b2
 have s3:=lessB a3 b3
 have q2:=tl_beq a2 b2
 unfold dc
 dsimp only
 by_cases h1:a1=b1
 rotate_left
 · rw[l1 h1]
   have t1:(a1 != b1)=true:=bne_iff_ne.2 h1
   clear l1 l2 l3 l4 h1 s2 s3 q2
   go_enter Tryz.func164,Tryz.ntmps164
   go_wp2_with fail
   go_ret
   exact⟨rfl,by exact belA⟩
 subst h1
 by_cases h2:a2=b2
 rotate_left
 · rw[l2 rfl h2]
   rw[decide_eq_false h2] at q2
   clear l1 l2 l3 l4 h2 s3
   go_enter Tryz.func164,Tryz.ntmps164
   go_wp2_with fail
   go_ret
   exact⟨rfl,by exact belA⟩
 subst h2
 by_cases h3:a0=b0
 rotate_left
 · rw[l3 rfl rfl h3]
   have t1:(a0 != b0)=true:=bne_iff_ne.2 h3
   clear l1 l2 l3 l4 h3 s2 s3 q2
   go_enter Tryz.func164,Tryz.ntmps164
   go_wp2_with fail
   go_ret
   exact⟨rfl,by exact belA⟩
 subst h3
 rw[l4 rfl rfl rfl]
 clear l1 l2 l3 l4 s2 q2
 go_enter Tryz.func164,Tryz.ntmps164
 go_wp2_with fail
 go_ret
 exact⟨rfl,by exact belA⟩
theorem insL_len (l:List Df) (x:Df):(insL ltD l x).length=l.length+1:=by
 have:=(insL_perm ltD l x).length_eq
 rw[this,List.length_cons]
theorem insK_step (x y:Df) (l:List Df) (k:Nat) (h:k<l.length) (hy:l[k]=y):insK ltD x l (k+1)=if ltD x y=true then insK ltD x l k else k+1:=by
 rw[insK,List.getElem?_eq_getElem h,hy]
theorem getD_set (l:List Value) (i:Nat) (x:Value) (h:i<l.length):((l.set i x).toArray).getD i undef=x:=by
 simp [Array.getD,h]
theorem cs_df (W:World) (x:Df) (t:TypeId) (k:Nat) (hk:k=W.heap.size):CS (W.alloc (.cells #[.int .i64 x.1,.int .i64 x.2.1,.string x.2.2.1,.string x.2.2.2] t)) 4 (.slice (some ⟨k,0,none⟩) 1 1) 1 (dc x).toList:=by
 subst hk
 refine⟨_,_,rfl,rfl,fun _=>⟨_,rfl,fun j u hu=>?_⟩⟩
 rw[Addr.add_lit,Nat.zero_add,cell_of_row _ W.heap.size j _ t (0,0) (heap_alloc_new W _)]
 simpa [dc] using hu
theorem r37_insert (l:List Df) (x:Df) (g c base:Nat) (w:World) (hn:l.length<=1000) (hO:w.ownsRow base 98 4 (.slice (some ⟨g,0,none⟩) l.length c) l.length (tcs dc l)) :
  Calls Tryz.prog 78 #[.slice (some ⟨g,0,none⟩) l.length c,.agg (dc x)] w fun r w'=>∃ g' c',r=.returned (.slice (some ⟨g',0,none⟩) (insL ltD l x).length c')∧w'.ownsRow w.heap.size 98 4 (.slice (some ⟨g',0,none⟩) (insL ltD l x).length c') (insL ltD l x).length (tcs dc (insL ltD l x))∧Below w.heap.size w w':=by
 have hcap:=own_capR hO
 have hgl:=(own_base hO g rfl).2
 have HO:=Lib.hid hO
 have hcl:∀ (k:Nat) (h:k<l.length) (j:Nat) (u:Value),(dc l[k])[j]?=some u->w.cell? ⟨g,k*4+j,none⟩=some u:=fun k h j u hu=>by
  obtain⟨a,c',e,hp⟩:=own_at dc_size hO
  injection e with e1 e2 e3
  obtain⟨g',e4,-,-,hq⟩:=hp (by omega)
  rw[e4] at e1
  cases e1
  exact hq k h j u hu
 have HCL:=Lib.hid hcl
 have HLS:=Lib.hid (fun y W=>r37_less x y W)
 have hfin:=fun k (h:k<=l.length) (e:insK ltD x l l.length=k)=>(show []++(tcs dc l).take (k*4)++(dc x).toList++(tcs dc l).drop (k*4)=tcs dc (insL ltD l x) by
  unfold insL
  rw[e,tcs_app,tcs_cons,tcs_take dc 4 dc_size l k h,tcs_drop dc 4 dc_size l k]
  simp)
 have HF0:=Lib.hid hfin
 have hst:=insK_step x
 have HST:=Lib.hid hst
 obtain⟨x0,x1,x2,x3⟩:=x
 have R1:=row_new w #[.int .i64 x0,.int .i64 x1,.string x2,.string x3] 98 (0,0)
 have N0:=cell_row R1 0 _ rfl
 have N1:=cell_row R1 1 _ rfl
 have N2:=cell_row R1 2 _ rfl
 have N3:=cell_row R1 3 _ rfl
 have B1:Below w.heap.size w (w.alloc (.cells #[.int .i64 x0,.int .i64 x1,.string x2,.string x3] 98)):=below_al' _ _
 clear hO hcl hfin hst R1
 show Calls Tryz.prog 78 #[.slice (some ⟨g,0,none⟩) l.length c,.agg #[.int .i64 x0,.int .i64 x1,.string x2,.string x3]] w _
 go_enter Tryz.func78,Tryz.ntmps78
 go_wp2_with fail
 generalize w.alloc _=W1 at N0 N1 N2 N3 B1 ⊢
 have HB1:=Lib.hid B1
 clear B1
 go_loopw [5] (fun j wr=>∃ (k:Nat),k<=l.length∧j=.int .i64 k∧Hid (insK ltD (x0,x1,x2,x3) l l.length=insK ltD (x0,x1,x2,x3) l k)∧Hid (Below W1.heap.size W1 wr)) (fun j _=>(intOf j).toNat)
 case atStart=>exact⟨l.length,Nat.le_refl _,rfl,Lib.hid rfl,Lib.hid (Below.refl _ _)⟩
 case round =>
  obtain⟨k,hk,rfl,HE,HB⟩:=hrel
  have M0:=below_cell HB.out N0
  have M1:=below_cell HB.out N1
  have M2:=below_cell HB.out N2
  have M3:=below_cell HB.out N3
  have HBw:Hid (Below w.heap.size w wr):=Lib.hid (bt HB1.out HB.out)
  have P:∀ (W2:World),Hid (insK ltD (x0,x1,x2,x3) l l.length=k)->Hid (Below W1.heap.size W1 W2)->W2.cell? ⟨w.heap.size,0,none⟩=some (.int .i64 x0)∧W2.cell? ⟨w.heap.size,1,none⟩=some (.int .i64 x1)∧W2.cell? ⟨w.heap.size,2,none⟩=some (.string x2)∧W2.cell? ⟨w.heap.size,3,none⟩=some (.string x3)∧Hid (Below w.heap.size w W2):=fun W2 _ h=>⟨below_cell h.out N0,below_cell h.out N1,below_cell h.out N2,below_cell h.out N3,Lib.hid (bt HB1.out h.out)⟩
  rcases Nat.eq_zero_or_pos k with hk0 | hpos
  have HK:Hid (insK ltD (x0,x1,x2,x3) l l.length=k):=Lib.hid (HE.out.trans (by rw[hk0];rfl))
  have i0:¬ ((0:Int)<(k:Int)):=by omega
  have i00:decide ((0:Int)<(k:Int))=false:=decide_eq_false i0
  clear HE hk0
  go_upto_region 2 with fail
  refine wp_region_held_drew (S:=fun w'=>Below wr.heap.size wr w') (by kernel_rfl) ?_ (fun hHeld=>?_)
  · exact Below.drew (Below.refl _ _)
  (refine rgy (i:=0) (some 8) ?_;(try simp only[Act.put,pz]))
  refine rg_y (i:=1) (some 9) (v:=.bool false) rfl rfl (by kernel_rfl) (by kernel_rfl) (by kernel_rfl) (fun _ _ _ h=>h) (by kernel_rfl) (fun w hSw=>?_) (by assumption) ?_
  · go_simp
    first | omega | (rw[i00];done) | (simp;omega)
  (try simp only[Act.put,List.setIfInBounds_toArray,List.set_cons_zero,List.set_cons_succ])
  (refine rgy (i:=2) (some 10) ?_;(try simp only[Act.put,pz]))
  (refine rgs (i:=3) (some 11) ?_;(try simp only[Act.put,pz]))
  (refine rgs (i:=4) (some 12) ?_;(try simp only[Act.put,pz]))
  (refine rgs (i:=5) (some 13) ?_;(try simp only[Act.put,pz]))
  (refine rgs (i:=6) (some 14) ?_;(try simp only[Act.put,pz]))
  (refine rgs (i:=7) (some 15) ?_;(try simp only[Act.put,pz]))
  (refine rgs (i:=8) (some 16) ?_;(try simp only[Act.put,pz]))
  (refine rg_n (i:=9) (some 17) rfl rfl (by kernel_rfl) (by kernel_rfl) (by assumption) ?_;(try simp only[Act.put,pz]))
  (refine rgy (i:=10) (some 18) ?_;(try simp only[Act.put,pz]))
  refine wpAnyH_done (by kernel_rfl) ?_ _
  go_upto_region 4 with fail
  have HBy:Hid (Below W1.heap.size W1 wr.drew):=Lib.hid HB.out.drew
  clear hHeld M0 M1 M2 M3 HB HBw
  generalize World.drew wr=W2 at HBy ⊢
  obtain⟨M0,M1,M2,M3,HBz⟩:=P W2 HK HBy
  clear P HBy
  have HFin:=Lib.hid (HF0.out k hk HK.out)
  have hkl:=hk
  have HO2:Hid (W2.ownsRow base 98 4 (.slice (some ⟨g,0,none⟩) l.length c) l.length (tcs dc l)):=Lib.hid (own_keep HO.out (fun x hx=>HBz.out.block x (own_base HO.out x hx).2))
  have HB2:=HBz
  have zB:=HBz.out.size
  have z2:g<W2.heap.size:=Nat.lt_of_lt_of_le hgl zB
  clear HF0 HO HK HCL HLS HST N0 N1 N2 N3 HB1
  rotate_left
  obtain⟨kk,hkk⟩:∃ kk,k=kk+1:=⟨k - 1,by omega⟩
  have hkl:kk<l.length:=by omega
  have hc2:=fun j u hu=>(HBw.out.cell (p:=⟨g,kk*4+j,none⟩) hgl).trans (HCL.out kk hkl j u hu)
  have hs:=HST.out l[kk] l kk hkl rfl
  generalize l[kk]=y at hc2 hs
  obtain⟨y0,y1,y2,y3⟩:=y
  have HLE:=Lib.hid (show ∀ W,Calls Tryz.prog 164 #[.agg #[.int .i64 x0,.int .i64 x1,.string x2,.string x3],.agg #[.int .i64 y0,.int .i64 y1,.string y2,.string y3]] W fun r w'=>r=.returned (.bool (ltD (x0,x1,x2,x3) (y0,y1,y2,y3)))∧Below W.heap.size W w' from HLS.out (y0,y1,y2,y3))
  have e0:=hc2 0 (.int .i64 y0) rfl
  have e1:=hc2 1 (.int .i64 y1) rfl
  have e2:=hc2 2 (.string y2) rfl
  have e3:=hc2 3 (.string y3) rfl
  generalize ltD (x0,x1,x2,x3) (y0,y1,y2,y3)=bb at hs HLE
  have HS:=Lib.hid (HE.out.trans (show insK ltD (x0,x1,x2,x3) l k=if bb=true then insK ltD (x0,x1,x2,x3) l kk else kk+1 by rw[hkk];exact hs))
  have wk:IntKind.i64.wrap ((k:Int) - 1)=kk:=by rw[show (k:Int) - 1=kk by omega];exact IntWalk.i64_in _ ⟨by omega,by omega⟩
  have i0:(0:Int)<(k:Int):=by omega
  have i1:(0:Int)<=(kk:Int):=by omega
  have i2:(kk:Int)<(l.length:Int):=by omega
  have HKK:=Lib.hid hkk
  have hkp:∀ V1 V2:World,Below V1.heap.size V1 V2->(V1.cell? ⟨w.heap.size,0,none⟩=some (.int .i64 x0)∧V1.cell? ⟨w.heap.size,1,none⟩=some (.int .i64 x1)∧V1.cell? ⟨w.heap.size,2,none⟩=some (.string x2)∧V1.cell? ⟨w.heap.size,3,none⟩=some (.string x3)∧V1.cell? ⟨g,kk*4,none⟩=some (.int .i64 y0)∧V1.cell? ⟨g,kk*4+1,none⟩=some (.int .i64 y1)∧V1.cell? ⟨g,kk*4+2,none⟩=some (.string y2)∧V1.cell? ⟨g,kk*4+3,none⟩=some (.string y3)∧Hid (Below W1.heap.size W1 V1))->(V2.cell? ⟨w.heap.size,0,none⟩=some (.int .i64 x0)∧V2.cell? ⟨w.heap.size,1,none⟩=some (.int .i64 x1)∧V2.cell? ⟨w.heap.size,2,none⟩=some (.string x2)∧V2.cell? ⟨w.heap.size,3,none⟩=some (.string x3)∧V2.cell? ⟨g,kk*4,none⟩=some (.int .i64 y0)∧V2.cell? ⟨g,kk*4+1,none⟩=some (.int .i64 y1)∧V2.cell? ⟨g,kk*4+2,none⟩=some (.string y2)∧V2.cell? ⟨g,kk*4+3,none⟩=some (.string y3)∧Hid (Below W1.heap.size W1 V2)):=fun V1 V2 e ⟨a,b,c,d,a',b',c',d',f⟩=>⟨below_cell e a,below_cell e b,below_cell e c,below_cell e d,below_cell e a',below_cell e b',below_cell e c',below_cell e d',Lib.hid (bt f.out e)⟩
  clear hc2 hs HE hkk
  go_upto_region 2 with fail
  have hbb:bb=true∨bb=false:=by cases bb <;> simp
  rcases hbb with rfl | rfl
  focus (go_region_held3 (fun w'=>w'.cell? ⟨w.heap.size,0,none⟩=some (.int .i64 x0)∧w'.cell? ⟨w.heap.size,1,none⟩=some (.int .i64 x1)∧w'.cell? ⟨w.heap.size,2,none⟩=some (.string x2)∧w'.cell? ⟨w.heap.size,3,none⟩=some (.string x3)∧w'.cell? ⟨g,kk*4,none⟩=some (.int .i64 y0)∧w'.cell? ⟨g,kk*4+1,none⟩=some (.int .i64 y1)∧w'.cell? ⟨g,kk*4+2,none⟩=some (.string y2)∧w'.cell? ⟨g,kk*4+3,none⟩=some (.string y3)∧Hid (Below W1.heap.size W1 w')) (first | exact⟨M0,M1,M2,M3,e0,e1,e2,e3,Lib.hid HB.out.drew⟩ | exact⟨M0,M1,M2,M3,e0,e1,e2,e3,HB⟩ | assumption | exact hkp _ _ hb3 (by assumption)) (first
   | (go_at_call 164;(with_reducible refine (HLE.out _).mono ?_);rintro _ w3 ⟨rfl,hb3⟩)))
  rename_i hq
  have HQ:=Lib.hid hq
  clear hq
  go_wp2_with fail
  go_roundw
  case rel=>exact⟨kk,by omega,by go_num,Lib.hid (HS.out.trans (if_pos trivial)),HQ.out.2.2.2.2.2.2.2.2⟩
  case measure=>have:=HKK.out;simp [intOf];omega
  focus (go_region_held3 (fun w'=>w'.cell? ⟨w.heap.size,0,none⟩=some (.int .i64 x0)∧w'.cell? ⟨w.heap.size,1,none⟩=some (.int .i64 x1)∧w'.cell? ⟨w.heap.size,2,none⟩=some (.string x2)∧w'.cell? ⟨w.heap.size,3,none⟩=some (.string x3)∧w'.cell? ⟨g,kk*4,none⟩=some (.int .i64 y0)∧w'.cell? ⟨g,kk*4+1,none⟩=some (.int .i64 y1)∧w'.cell? ⟨g,kk*4+2,none⟩=some (.string y2)∧w'.cell? ⟨g,kk*4+3,none⟩=some (.string y3)∧Hid (Below W1.heap.size W1 w')) (first | exact⟨M0,M1,M2,M3,e0,e1,e2,e3,Lib.hid HB.out.drew⟩ | exact⟨M0,M1,M2,M3,e0,e1,e2,e3,HB⟩ | assumption | exact hkp _ _ hb3 (by assumption)) (first
   | (go_at_call 164;(with_reducible refine (HLE.out _).mono ?_);rintro _ w3 ⟨rfl,hb3⟩)))
  rename_i hq
  have HBy:=hq.2.2.2.2.2.2.2.2
  have HK:Hid (insK ltD (x0,x1,x2,x3) l l.length=k):=Lib.hid (HS.out.trans ((if_neg (by simp)).trans HKK.out.symm))
  clear hq hb3 hkp M0 M1 M2 M3 e0 e1 e2 e3 HB HBw HS HLE wk i0 i1 i2 HKK hkl
  go_upto_region 4 with fail
  generalize w3=W2 at HBy ⊢
  obtain⟨M0,M1,M2,M3,HBz⟩:=P W2 HK HBy
  clear P HBy
  have HFin:=Lib.hid (HF0.out k hk HK.out)
  have hkl:=hk
  have HO2:Hid (W2.ownsRow base 98 4 (.slice (some ⟨g,0,none⟩) l.length c) l.length (tcs dc l)):=Lib.hid (own_keep HO.out (fun x hx=>HBz.out.block x (own_base HO.out x hx).2))
  have HB2:=HBz
  have zB:=HBz.out.size
  have z2:g<W2.heap.size:=Nat.lt_of_lt_of_le hgl zB
  clear HF0 HO HK HCL HLS HST N0 N1 N2 N3 HB1
  all_goals
   refine wp_region_held_drew (S:=fun w'=>Below W2.heap.size W2 w'∧w'.cell? ⟨w.heap.size,0,none⟩=some (.int .i64 x0)∧w'.cell? ⟨w.heap.size,1,none⟩=some (.int .i64 x1)∧w'.cell? ⟨w.heap.size,2,none⟩=some (.string x2)∧w'.cell? ⟨w.heap.size,3,none⟩=some (.string x3)) (by kernel_rfl) ?_ (fun hHeld=>?_)
   · exact⟨Below.drew (Below.refl _ _),M0,M1,M2,M3⟩
   (refine rgy (i:=1) (some 22) ?_;(try simp only[Act.put,pz]))
   (refine rgy (i:=2) (some 23) ?_;(try simp only[Act.put,pz]))
   refine rg_y (i:=3) (some 24) (v:=.slice (some ⟨g,0,none⟩) k c) rfl rfl (by kernel_rfl) (by kernel_rfl) (by kernel_rfl) (fun _ _ _ h=>h) (by kernel_rfl) (fun w hSw=>?_) (by assumption) ?_
   · have sl:=slK_hi (P:=Tryz.prog) Tryz.underlying64 Tryz.sizeOf98 (w:=w) (g:=g) hkl hcap.1
     go_simp
   (try simp only[Act.put,List.setIfInBounds_toArray,List.set_cons_zero,List.set_cons_succ])
   (refine rgy (i:=5) (some 26) ?_;(try simp only[Act.put,pz]))
   (refine rgy (i:=8) (some 29) ?_;(try simp only[Act.put,pz]))
   (refine rgy (i:=9) (some 30) ?_;(try simp only[Act.put,pz]))
   refine rg_y (i:=10) (some 31) (v:=.slice (some ⟨g,offK 4 c k,none⟩) (l.length - k) (c - k)) rfl rfl (by kernel_rfl) (by kernel_rfl) (by kernel_rfl) (fun _ _ _ h=>h) (by kernel_rfl) (fun w hSw=>?_) (by assumption) ?_
   · have sl:=slK_lo (P:=Tryz.prog) Tryz.underlying64 Tryz.sizeOf98 (w:=w) (g:=g) (c:=c) hkl
     go_simp
   (try simp only[Act.put,List.setIfInBounds_toArray,List.set_cons_zero,List.set_cons_succ])
   refine wpAnyH_ready (rs:=[0,6]) (by kernel_rfl) (by simp) ?_
   refine AllReadyH.cons (o:=_) rfl (fun K hK=>?_) (AllReadyH.cons (o:=_) rfl (fun K hK=>?_) AllReadyH.nil)
   · go_simp
     have hbA:Below W2.heap.size W2 (W2.drew.alloc (.cells #[] 98)):=(Below.drew (Below.refl _ _)).alloc (by simp) _
     refine hK.out _ _ ⟨hbA,below_cell hbA M0,below_cell hbA M1,below_cell hbA M2,below_cell hbA M3⟩ (fun hHeld=>?_)
     (clear hK K;(try simp only[Act.put,pz]))
     refine wpAnyH_ready (rs:=[4,6]) (by kernel_rfl) (by simp) ?_
     refine AllReadyH.cons (o:=_) rfl (fun K hK=>?_) (AllReadyH.cons (o:=_) rfl (fun K hK=>?_) AllReadyH.nil)
     · refine step_appX _ rfl (.tmp 21) (.tmp 24) 64 98 _ _ 4 48 (by rfl) Tryz.underlying64 df_i df_i0 df_i1 df_i2 rfl (by decide) W2.heap.size (Value.slice (some ⟨W2.heap.size,0,none⟩) 0 0) (Value.slice (some ⟨g,0,none⟩) k c) 0 k [] ((tcs dc l).take (k*4)) (by simp [Act.eval]) (own_zeroR (w:=W2.drew) rfl (Nat.le_refl _)) (by simp [Act.eval]) ((headK HO2.out hkl).below hbA) (fun u hu=>tcs_ones dc dc_one l u (List.mem_of_mem_take hu)) (by unfold maxLen;omega) (by omega) (by first | (simp;done) | (simp;omega)) ?_
       intro a5 c5 w5 hown5 hg5 _
       have hb5:Below W2.heap.size W2 w5:=hbA.grown hg5 (by first | (simp;done) | (simp;omega)) (fun q hq=>by have h2:W2.heap.size=q:=(by simpa [Value.ownBlock] using hq);omega)
       refine hK.out _ _ ⟨hb5,below_cell hb5 M0,below_cell hb5 M1,below_cell hb5 M2,below_cell hb5 M3⟩ (fun hHeld=>?_)
       (clear hK K;(try simp only[Act.put,pz]))
       refine rgb (i:=6) (by kernel_rfl) rfl (fun K hK=>?_)
       go_simp
       have hb6:Below W2.heap.size W2 (w5.alloc (.cells #[.int .i64 x0,.int .i64 x1,.string x2,.string x3] 98)):=hb5.alloc hb5.size _
       refine hK.out _ _ ⟨hb6,below_cell hb6 M0,below_cell hb6 M1,below_cell hb6 M2,below_cell hb6 M3⟩ (fun hHeld=>?_)
       (clear hK K;(try simp only[Act.put,pz]))
       have own6:(w5.alloc (.cells #[.int .i64 x0,.int .i64 x1,.string x2,.string x3] 98)).ownsRow _ _ _ _ _ _:=own_keep hown5 (fun x hx=>(below_al' w5 _).block x (own_base hown5 x hx).2)
       have csx:=cs_df w5 (x0,x1,x2,x3) 98 _ rfl
       refine rgb (i:=7) (by kernel_rfl) rfl (fun K hK=>?_)
       refine step_appX _ rfl (.tmp 25) (.tmp 27) 64 98 _ _ 4 48 (by rfl) Tryz.underlying64 df_i df_i0 df_i1 df_i2 rfl (by decide) W2.heap.size (Value.slice a5 (0+k) c5) (Value.slice (some ⟨w5.heap.size,0,none⟩) 1 1) (0+k) 1 _ ((dc (x0,x1,x2,x3)).toList) (by simp [Act.eval]) own6 (by simp [Act.eval]) (csx) (all1 (dc_one (x0,x1,x2,x3))) (by unfold maxLen;omega) (by omega) hb6.size ?_
       intro a7 c7 w7 hown7 hg7 _
       have hb7:Below W2.heap.size W2 w7:=hb6.grown hg7 hb6.size (fun q hq=>(own_base own6 q hq).1)
       refine hK.out _ _ ⟨hb7,below_cell hb7 M0,below_cell hb7 M1,below_cell hb7 M2,below_cell hb7 M3⟩ (fun hHeld=>?_)
       (clear hK K;(try simp only[Act.put,pz]))
       refine rgb (i:=11) (by kernel_rfl) rfl (fun K hK=>?_)
       refine step_appX _ rfl (.tmp 28) (.tmp 31) 64 98 _ _ 4 48 (by rfl) Tryz.underlying64 df_i df_i0 df_i1 df_i2 rfl (by decide) W2.heap.size (Value.slice a7 (0+k+1) c7) (Value.slice (some ⟨g,offK 4 c k,none⟩) (l.length - k) (c - k)) (0+k+1) (l.length - k) _ ((tcs dc l).drop (k*4)) (by simp [Act.eval]) hown7 (by simp [Act.eval]) ((tailK HO2.out hcap.1).below hb7) (fun u hu=>tcs_ones dc dc_one l u (List.mem_of_mem_drop hu)) (by unfold maxLen;omega) (by omega) hb7.size ?_
       intro a8 c8 w8 hown8 hg8 _
       have hb8:Below W2.heap.size W2 w8:=hb7.grown hg8 hb7.size (fun q hq=>(own_base hown7 q hq).1)
       rw[HFin.out] at hown8
       generalize hLL:0+k+1+(l.length - k)=L at hown8 ⊢
       obtain rfl:L=(insL ltD l (x0,x1,x2,x3)).length:=by rw[insL_len];omega
       obtain⟨g8,rfl,-,-⟩:=own_someR hown8 (by rw[insL_len];omega)
       refine hK.out _ _ ⟨hb8,below_cell hb8 M0,below_cell hb8 M1,below_cell hb8 M2,below_cell hb8 M3⟩ (fun hHeld=>?_)
       (clear hK K;(try simp only[Act.put,pz]))
       (refine rgy (i:=12) (some 4) ?_;(try simp only[Act.put,pz]))
       refine wpAnyH_done (by kernel_rfl) ?_ _
       have HN8:=Lib.hid hown8
       have HB8:=Lib.hid hb8
       clear hown7 hown8 hg7 hg8 hHeld hb7 hb8
       go_wp2_with fail
       go_ret
       first | exact⟨g8,c8,rfl,own_le HN8.out zB,HB2.out.trans (HB8.out.mono zB)⟩ | exact⟨g8,c8,congrArg Ending.returned (getD_set _ 4 _ (by simp)),own_le HN8.out zB,HB2.out.trans (HB8.out.mono zB)⟩
     · go_simp
       have hbB:Below W2.heap.size W2 ((W2.drew.alloc (.cells #[] 98)).alloc (.cells #[.int .i64 x0,.int .i64 x1,.string x2,.string x3] 98)):=hbA.alloc (by simp) _
       refine hK.out _ _ ⟨hbB,below_cell hbB M0,below_cell hbB M1,below_cell hbB M2,below_cell hbB M3⟩ (fun hHeld=>?_)
       (clear hK K;(try simp only[Act.put,pz]))
       refine rgb (i:=4) (by kernel_rfl) rfl (fun K hK=>?_)
       refine step_appX _ rfl (.tmp 21) (.tmp 24) 64 98 _ _ 4 48 (by rfl) Tryz.underlying64 df_i df_i0 df_i1 df_i2 rfl (by decide) W2.heap.size (Value.slice (some ⟨W2.heap.size,0,none⟩) 0 0) (Value.slice (some ⟨g,0,none⟩) k c) 0 k [] ((tcs dc l).take (k*4)) (by simp [Act.eval]) (own_keep (own_zeroR (w:=W2.drew) rfl (Nat.le_refl _)) (fun x hx=>(below_al' (W2.drew.alloc (.cells #[] 98)) _).block x (by have hx2:W2.heap.size=x:=(by simpa [Value.ownBlock] using hx);simp [<-hx2]))) (by simp [Act.eval]) ((headK HO2.out hkl).below hbB) (fun u hu=>tcs_ones dc dc_one l u (List.mem_of_mem_take hu)) (by unfold maxLen;omega) (by omega) (by first | (simp;done) | (simp;omega)) ?_
       intro a5 c5 w5 hown5 hg5 _
       have hb5:Below W2.heap.size W2 w5:=hbB.grown hg5 (by first | (simp;done) | (simp;omega)) (fun q hq=>by have h2:W2.heap.size=q:=(by simpa [Value.ownBlock] using hq);omega)
       have csx:=(cs_df (W2.drew.alloc (.cells #[] 98)) (x0,x1,x2,x3) 98 (W2.heap.size+1) (by simp)).grown hg5 (by intro e;have e2:W2.heap.size+1=W2.heap.size:=Option.some.inj e;omega) (by first | (simp;done) | (simp;omega))
       refine hK.out _ _ ⟨hb5,below_cell hb5 M0,below_cell hb5 M1,below_cell hb5 M2,below_cell hb5 M3⟩ (fun hHeld=>?_)
       (clear hK K;(try simp only[Act.put,pz]))
       refine rgb (i:=7) (by kernel_rfl) rfl (fun K hK=>?_)
       refine step_appX _ rfl (.tmp 25) (.tmp 27) 64 98 _ _ 4 48 (by rfl) Tryz.underlying64 df_i df_i0 df_i1 df_i2 rfl (by decide) W2.heap.size (Value.slice a5 (0+k) c5) (Value.slice (some ⟨W2.heap.size+1,0,none⟩) 1 1) (0+k) 1 _ ((dc (x0,x1,x2,x3)).toList) (by simp [Act.eval]) hown5 (by simp [Act.eval]) (csx) (all1 (dc_one (x0,x1,x2,x3))) (by unfold maxLen;omega) (by omega) hb5.size ?_
       intro a7 c7 w7 hown7 hg7 _
       have hb7:Below W2.heap.size W2 w7:=hb5.grown hg7 hb5.size (fun q hq=>(own_base hown5 q hq).1)
       refine hK.out _ _ ⟨hb7,below_cell hb7 M0,below_cell hb7 M1,below_cell hb7 M2,below_cell hb7 M3⟩ (fun hHeld=>?_)
       (clear hK K;(try simp only[Act.put,pz]))
       refine rgb (i:=11) (by kernel_rfl) rfl (fun K hK=>?_)
       refine step_appX _ rfl (.tmp 28) (.tmp 31) 64 98 _ _ 4 48 (by rfl) Tryz.underlying64 df_i df_i0 df_i1 df_i2 rfl (by decide) W2.heap.size (Value.slice a7 (0+k+1) c7) (Value.slice (some ⟨g,offK 4 c k,none⟩) (l.length - k) (c - k)) (0+k+1) (l.length - k) _ ((tcs dc l).drop (k*4)) (by simp [Act.eval]) hown7 (by simp [Act.eval]) ((tailK HO2.out hcap.1).below hb7) (fun u hu=>tcs_ones dc dc_one l u (List.mem_of_mem_drop hu)) (by unfold maxLen;omega) (by omega) hb7.size ?_
       intro a8 c8 w8 hown8 hg8 _
       have hb8:Below W2.heap.size W2 w8:=hb7.grown hg8 hb7.size (fun q hq=>(own_base hown7 q hq).1)
       rw[HFin.out] at hown8
       generalize hLL:0+k+1+(l.length - k)=L at hown8 ⊢
       obtain rfl:L=(insL ltD l (x0,x1,x2,x3)).length:=by rw[insL_len];omega
       obtain⟨g8,rfl,-,-⟩:=own_someR hown8 (by rw[insL_len];omega)
       refine hK.out _ _ ⟨hb8,below_cell hb8 M0,below_cell hb8 M1,below_cell hb8 M2,below_cell hb8 M3⟩ (fun hHeld=>?_)
       (clear hK K;(try simp only[Act.put,pz]))
       (refine rgy (i:=12) (some 4) ?_;(try simp only[Act.put,pz]))
       refine wpAnyH_done (by kernel_rfl) ?_ _
       have HN8:=Lib.hid hown8
       have HB8:=Lib.hid hb8
       clear hown7 hown8 hg7 hg8 hHeld hb7 hb8
       go_wp2_with fail
       go_ret
       first | exact⟨g8,c8,rfl,own_le HN8.out zB,HB2.out.trans (HB8.out.mono zB)⟩ | exact⟨g8,c8,congrArg Ending.returned (getD_set _ 4 _ (by simp)),own_le HN8.out zB,HB2.out.trans (HB8.out.mono zB)⟩
   · go_simp
     have hbC:Below W2.heap.size W2 (W2.drew.alloc (.cells #[.int .i64 x0,.int .i64 x1,.string x2,.string x3] 98)):=(Below.drew (Below.refl _ _)).alloc (by simp) _
     refine hK.out _ _ ⟨hbC,below_cell hbC M0,below_cell hbC M1,below_cell hbC M2,below_cell hbC M3⟩ (fun hHeld=>?_)
     (clear hK K;(try simp only[Act.put,pz]))
     refine rgb (i:=0) (by kernel_rfl) rfl (fun K hK=>?_)
     go_simp
     have hbB:Below W2.heap.size W2 ((W2.drew.alloc (.cells #[.int .i64 x0,.int .i64 x1,.string x2,.string x3] 98)).alloc (.cells #[] 98)):=hbC.alloc (by simp) _
     refine hK.out _ _ ⟨hbB,below_cell hbB M0,below_cell hbB M1,below_cell hbB M2,below_cell hbB M3⟩ (fun hHeld=>?_)
     (clear hK K;(try simp only[Act.put,pz]))
     refine rgb (i:=4) (by kernel_rfl) rfl (fun K hK=>?_)
     refine step_appX _ rfl (.tmp 21) (.tmp 24) 64 98 _ _ 4 48 (by rfl) Tryz.underlying64 df_i df_i0 df_i1 df_i2 rfl (by decide) W2.heap.size (Value.slice (some ⟨W2.heap.size+1,0,none⟩) 0 0) (Value.slice (some ⟨g,0,none⟩) k c) 0 k [] ((tcs dc l).take (k*4)) (by simp [Act.eval]) (own_zeroR (w:=W2.drew.alloc (.cells #[.int .i64 x0,.int .i64 x1,.string x2,.string x3] 98)) (by simp) (by omega)) (by simp [Act.eval]) ((headK HO2.out hkl).below hbB) (fun u hu=>tcs_ones dc dc_one l u (List.mem_of_mem_take hu)) (by unfold maxLen;omega) (by omega) (by first | (simp;done) | (simp;omega)) ?_
     intro a5 c5 w5 hown5 hg5 _
     have hb5:Below W2.heap.size W2 w5:=hbB.grown hg5 (by first | (simp;done) | (simp;omega)) (fun q hq=>by have h2:W2.heap.size+1=q:=(by simpa [Value.ownBlock] using hq);omega)
     have csx:=((cs_df W2.drew (x0,x1,x2,x3) 98 W2.heap.size rfl).below (below_al' _ (.cells #[] 98))).grown hg5 (by intro e;have e2:W2.heap.size=W2.heap.size+1:=Option.some.inj e;omega) (by first | (simp;done) | (simp;omega))
     refine hK.out _ _ ⟨hb5,below_cell hb5 M0,below_cell hb5 M1,below_cell hb5 M2,below_cell hb5 M3⟩ (fun hHeld=>?_)
     (clear hK K;(try simp only[Act.put,pz]))
     refine rgb (i:=7) (by kernel_rfl) rfl (fun K hK=>?_)
     refine step_appX _ rfl (.tmp 25) (.tmp 27) 64 98 _ _ 4 48 (by rfl) Tryz.underlying64 df_i df_i0 df_i1 df_i2 rfl (by decide) W2.heap.size (Value.slice a5 (0+k) c5) (Value.slice (some ⟨W2.heap.size,0,none⟩) 1 1) (0+k) 1 _ ((dc (x0,x1,x2,x3)).toList) (by simp [Act.eval]) hown5 (by simp [Act.eval]) (csx) (all1 (dc_one (x0,x1,x2,x3))) (by unfold maxLen;omega) (by omega) hb5.size ?_
     intro a7 c7 w7 hown7 hg7 _
     have hb7:Below W2.heap.size W2 w7:=hb5.grown hg7 hb5.size (fun q hq=>(own_base hown5 q hq).1)
     refine hK.out _ _ ⟨hb7,below_cell hb7 M0,below_cell hb7 M1,below_cell hb7 M2,below_cell hb7 M3⟩ (fun hHeld=>?_)
     (clear hK K;(try simp only[Act.put,pz]))
     refine rgb (i:=11) (by kernel_rfl) rfl (fun K hK=>?_)
     refine step_appX _ rfl (.tmp 28) (.tmp 31) 64 98 _ _ 4 48 (by rfl) Tryz.underlying64 df_i df_i0 df_i1 df_i2 rfl (by decide) W2.heap.size (Value.slice a7 (0+k+1) c7) (Value.slice (some ⟨g,offK 4 c k,none⟩) (l.length - k) (c - k)) (0+k+1) (l.length - k) _ ((tcs dc l).drop (k*4)) (by simp [Act.eval]) hown7 (by simp [Act.eval]) ((tailK HO2.out hcap.1).below hb7) (fun u hu=>tcs_ones dc dc_one l u (List.mem_of_mem_drop hu)) (by unfold maxLen;omega) (by omega) hb7.size ?_
     intro a8 c8 w8 hown8 hg8 _
     have hb8:Below W2.heap.size W2 w8:=hb7.grown hg8 hb7.size (fun q hq=>(own_base hown7 q hq).1)
     rw[HFin.out] at hown8
     generalize hLL:0+k+1+(l.length - k)=L at hown8 ⊢
     obtain rfl:L=(insL ltD l (x0,x1,x2,x3)).length:=by rw[insL_len];omega
     obtain⟨g8,rfl,-,-⟩:=own_someR hown8 (by rw[insL_len];omega)
     refine hK.out _ _ ⟨hb8,below_cell hb8 M0,below_cell hb8 M1,below_cell hb8 M2,below_cell hb8 M3⟩ (fun hHeld=>?_)
     (clear hK K;(try simp only[Act.put,pz]))
     (refine rgy (i:=12) (some 4) ?_;(try simp only[Act.put,pz]))
     refine wpAnyH_done (by kernel_rfl) ?_ _
     have HN8:=Lib.hid hown8
     have HB8:=Lib.hid hb8
     clear hown7 hown8 hg7 hg8 hHeld hb7 hb8
     go_wp2_with fail
     go_ret
     first | exact⟨g8,c8,rfl,own_le HN8.out zB,HB2.out.trans (HB8.out.mono zB)⟩ | exact⟨g8,c8,congrArg Ending.returned (getD_set _ 4 _ (by simp)),own_le HN8.out zB,HB2.out.trans (HB8.out.mono zB)⟩
end
end Go.Proofs.YtnojclchnhmggaaGreatDoor
