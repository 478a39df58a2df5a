/- Contracts of package entry: the fields of a data set, read. Printed by wip/mkfoe.py. -/
import Derived.Test.YtnojclchnhmggaaGreatDoorCoA
import Derived.Test.YtnojclchnhmggaaGreatDoorEn
import Derived.Test.YtnojclchnhmggaaGreatDoorKit
import Derived.Carry
import Derived.MapKept
import Derived.Test.YtnojclchnhmggaaGreatDoorChecked
import Derived.Test.YtnojclchnhmggaaGreatDoorSaC
import Derived.Laws.OwnMore
import Derived.OwnWalk
namespace Go.Proofs.YtnojclchnhmggaaGreatDoor
open Go.RowKit
set_option maxHeartbeats 1600000
section
set_option maxRecDepth 4000
theorem encs2_len (a b:Nat) (h1:a<9223372036854775808) (h2:b<9223372036854775808):(encs [a,b]).length<=18:=by
 have:=encs_len [a,b] (fun n hn=>by
  rcases (by simpa using hn:n=a∨n=b) with rfl | rfl <;> assumption)
 simpa using this
theorem ws_grown {w:World} {o:Obj} {c:Nat}:w.grownBy (w.alloc o).drew (some c):=⟨rfl,rfl,rfl,by simp,fun _ hk _=>heap_alloc_old w _ hk⟩
theorem fw_group (c g:Nat) (l:List UInt8) (e:En) (al gr:Value) (lim last:Nat) (w:World) (h:WS w c g l (e.vals al gr)) (hlim:e.lim=lim) (hlast:e.last=last) (h1:lim<9223372036854775808) (h2:last<9223372036854775808) (ho:e.owner.size<=1000) (hs:l.length<=1000) :
  Calls Tryz.prog 129 #[.pointer (some ⟨c,0,none⟩),.pointer (some ⟨g,0,none⟩)] w fun r w'=>r=.returned (.tuple #[])∧WS w' c g (((l++encs [lim,last])++[tb e.em])++(Wi.enc e.owner.size++Ds.bl e.owner)) (e.vals al gr)∧w.grownBy w' (some c):=by
 have hN:NS (e.vals al gr) [25,26] [lim,last]:=⟨rfl,fun k h _=>by
  rcases (by simp at h;omega:k=0∨k=1) with rfl | rfl
  · simpa [hlim] using vals_25 e al gr
  · simpa [hlast] using vals_26 e al gr⟩
 have hb:=encs2_len lim last h1 h2
 have hc:Calls Tryz.prog 130 #[.pointer (some ⟨c,0,none⟩),.slice (some ⟨w.heap.size,0,none⟩) 2 2] ((w.alloc (.cells #[.pointer (some ⟨g,25,none⟩),.pointer (some ⟨g,26,none⟩)] 183)).drew) fun r w'=>r=.returned (.tuple #[])∧WS w' c g (l++encs [lim,last]) (e.vals al gr)∧((w.alloc (.cells #[.pointer (some ⟨g,25,none⟩),.pointer (some ⟨g,26,none⟩)] 183)).drew).grownBy w' (some c):=ws_numbers c g w.heap.size 2 [25,26] [lim,last] l (e.vals al gr) _ (h.below (((Below.refl _ _).alloc (Nat.le_refl _) _).drew)) (PS.new w g [25,26] 183) (by have:=h.2.2.2;omega) hN (fun n hn=>by
  rcases (by simpa using hn:n=lim∨n=last) with rfl | rfl <;> assumption) (by decide) (by omega)
 have HC:=Lib.hid hc
 have hb1:(l++encs [lim,last]).length<=10000:=by rw[List.length_append];omega
 have hb2:((l++encs [lim,last])++[tb e.em]).length<=10000:=by rw[List.length_append,List.length_append,List.length_singleton];omega
 clear hN hlim hlast h1 h2 hc hb h
 go_enter Tryz.func129,Tryz.ntmps129
 go_wp2_with fail
 go_region_law (first | (go_simp;go_at_call 130;(with_reducible refine HC.out.mono ?_);rintro _ w1 ⟨rfl,hW1,hG1⟩))
 all_goals
  have HG1:=Lib.hid hG1
  clear hG1
  go_wp2_with (first | (go_at_call 131;(with_reducible refine (ws_truth c g 27 e.em _ _ _ hW1 hb1 (vals_27 e al gr)).mono ?_);rintro _ w2 ⟨rfl,hW2,hG2⟩;have HG2:=Lib.hid hG2;clear hG2) | (go_at_call 132;(with_reducible refine (ws_text c g 28 e.owner _ _ _ hW2 hb2 (by omega) (vals_28 e al gr)).mono ?_);rintro _ w3 ⟨rfl,hW3,hG3⟩;have HG3:=Lib.hid hG3;clear hG3))
  go_end0
  exact⟨rfl,hW3,(ws_grown.trans HG1.out).trans (HG2.out.trans HG3.out)⟩
theorem rs_grown {w:World} {o:Obj} {a b:Nat}:G2 w (w.alloc o).drew a b:=⟨rfl,rfl,rfl,by simp,fun k hk _ _=>heap_alloc_old w _ hk⟩
def rdGroup (e:En) (s:List UInt8 × Nat):En × (List UInt8 × Nat) :=
 let a:=Rd.num s;let b:=Rd.num a.2;let x:=Rd.boo b.2;let t:=Rd.txt 200 x.2
 ({ e with lim:=clip a.1,last:=clip b.1,em:=x.1,owner:=⟨t.1.toArray⟩ },t.2)
theorem fr_group (c rb g:Nat) (s:List UInt8 × Nat) (e:En) (al gr:Value) (w:World) (h:RS w c rb g s (e.vals al gr)) (hs:s.1.length<=1000) :
  Calls Tryz.prog 129 #[.pointer (some ⟨c,0,none⟩),.pointer (some ⟨g,0,none⟩)] w fun r w'=>r=.returned (.tuple #[])∧RS w' c rb g (rdGroup e s).2 ((rdGroup e s).1.vals al gr)∧G2 w w' rb g:=by
 have e1:rdNums [25,26] s (e.vals al gr)=(({ e with lim:=clip (Rd.num s).1,last:=clip (Rd.num (Rd.num s).2).1 }:En).vals al gr,(Rd.num (Rd.num s).2).2):=by
  simp only[rdNums]
  rw[set_25,set_26]
 have hc:Calls Tryz.prog 130 #[.pointer (some ⟨c,0,none⟩),.slice (some ⟨w.heap.size,0,none⟩) 2 2] ((w.alloc (.cells #[.pointer (some ⟨g,25,none⟩),.pointer (some ⟨g,26,none⟩)] 183)).drew) fun r w'=>r=.returned (.tuple #[])∧RS w' c rb g (rdNums [25,26] s (e.vals al gr)).2 (rdNums [25,26] s (e.vals al gr)).1∧G2 ((w.alloc (.cells #[.pointer (some ⟨g,25,none⟩),.pointer (some ⟨g,26,none⟩)] 183)).drew) w' rb g:=rs_numbers c rb g w.heap.size 2 [25,26] s (e.vals al gr) _ (h.below (((Below.refl _ _).alloc (Nat.le_refl _) _).drew)) (PS.new w g [25,26] 183) (by have:=h.2.2.2.2.2.2.2;omega) (by have:=h.2.2.1.2.2;omega) (fun k hk=>by
  rw[vals_size];rcases (by simp at hk;omega:k=0∨k=1) with rfl | rfl <;> simp) (by decide) (by omega)
 rw[e1] at hc
 have l1:=Rd.num_len s
 have l2:=Rd.num_len (Rd.num s).2
 have l3:=Rd.boo_len (Rd.num (Rd.num s).2).2
 have hb1:(Rd.num (Rd.num s).2).2.1.length<=10000:=by omega
 have hb2:(Rd.boo (Rd.num (Rd.num s).2).2).2.1.length<=10000:=by omega
 have HC:=Lib.hid hc
 clear hc e1 h l1 l2 l3
 unfold rdGroup
 go_enter Tryz.func129,Tryz.ntmps129
 go_wp2_with fail
 go_region_law (first | (go_simp;go_at_call 130;(with_reducible refine HC.out.mono ?_);rintro _ w1 ⟨rfl,hW1,hG1⟩))
 all_goals
  have HG1:=Lib.hid hG1
  clear hG1
  go_wp2_with (first | (go_at_call 131;(with_reducible refine (rs_truth c rb g 27 _ _ _ _ hW1 hb1 (vals_27 _ al gr)).mono ?_);rintro _ w2 ⟨rfl,hW2,hG2⟩;rw[set_27] at hW2;have HG2:=Lib.hid hG2;clear hG2) | (go_at_call 132;(with_reducible refine (rs_text c rb g 28 _ _ _ _ hW2 hb2 (vals_28 _ al gr)).mono ?_);rintro _ w3 ⟨rfl,hW3,hG3⟩;rw[set_28] at hW3;have HG3:=Lib.hid hG3;clear hG3))
  go_end0
  exact⟨rfl,hW3,(rs_grown.trans HG1.out).trans (HG2.out.trans HG3.out)⟩
end
section
set_option maxRecDepth 4000
def form0:Value:=.agg #[.int .u8 68,.func (.func 79) #[] #[],.func (.func 126) #[] #[],.func (.func 127) #[] #[]]
def form1:Value:=.agg #[.int .u8 71,.func (.func 128) #[] #[],.func (.func 129) #[] #[],.func (.func 133) #[] #[]]
def form2:Value:=.agg #[.int .u8 65,.func (.func 136) #[] #[],.func (.func 137) #[] #[],.func (.func 138) #[] #[]]
def form3:Value:=.agg #[.int .u8 67,.func (.func 139) #[] #[],.func (.func 141) #[] #[],.func (.func 143) #[] #[]]
def form4:Value:=.agg #[.int .u8 80,.func (.func 144) #[] #[],.func (.func 145) #[] #[],.func (.func 146) #[] #[]]
def fe0:Array MapEntry:=#[]
def fe1:Array MapEntry:=#[⟨.int .i64 0,form0,0⟩]
def fe2:Array MapEntry:=#[⟨.int .i64 0,form0,0⟩,⟨.int .i64 1,form1,1⟩]
def fe3:Array MapEntry:=#[⟨.int .i64 0,form0,0⟩,⟨.int .i64 1,form1,1⟩,⟨.int .i64 2,form2,2⟩]
def fe4:Array MapEntry:=#[⟨.int .i64 0,form0,0⟩,⟨.int .i64 1,form1,1⟩,⟨.int .i64 2,form2,2⟩,⟨.int .i64 3,form3,3⟩]
def fe5:Array MapEntry:=#[⟨.int .i64 0,form0,0⟩,⟨.int .i64 1,form1,1⟩,⟨.int .i64 2,form2,2⟩,⟨.int .i64 3,form3,3⟩,⟨.int .i64 4,form4,4⟩]
theorem run_ins (w:World) (es:Array MapEntry) (c:Nat) (k:Int) (v:Value) (h:Instr.findNow (.int .i64) (.int .i64 k) es.toList 0=some none) :
  (Instr.mapUpdate 108 (.map (some w.heap.size)) (.int .i64 k) v).run Tryz.prog (w.alloc (.map es c))=.ok () (w.alloc (.map (es.push ⟨.int .i64 k,v,c⟩) (c+1))):=by
 have hb:(w.alloc (.map es c)).heap[w.heap.size]?=some (.map es c):=heap_alloc_new w _
 have hck:=MapKept.run_checkKey (P:=Tryz.prog) (w:=w.alloc (.map es c)) (k:=.int .i64 k) Tryz.underlying3 rfl false 9999
 have hfk:=MapKept.run_findKey (P:=Tryz.prog) (w:=w.alloc (.map es c)) (kt:=3) (k:=.int .i64 k) Tryz.underlying3 h
 simp [Instr.mapUpdate,run_underlying Tryz.underlying108,MapKept.run_getObj_map hb,hck,hfk,MapKept.run_setObj_map _ hb,Result.andThen]
 simp only[World.alloc]
 congr 1
 apply Array.ext_getElem?
 intro i
 simp only[Array.getElem?_setIfInBounds,Array.getElem?_push,Array.size_push]
 by_cases e:w.heap.size=i
 · subst e;simp
 · rw[if_neg e,if_neg (fun h=>e h.symm),if_neg (fun h=>e h.symm)]
theorem ins0 (w:World):(Instr.mapUpdate 108 (.map (some w.heap.size)) (.int .i64 0) form0).run Tryz.prog (w.alloc (.map fe0 0))=.ok () (w.alloc (.map fe1 1)):=run_ins w fe0 0 0 form0 rfl
theorem ins1 (w:World):(Instr.mapUpdate 108 (.map (some w.heap.size)) (.int .i64 1) form1).run Tryz.prog (w.alloc (.map fe1 1))=.ok () (w.alloc (.map fe2 2)):=run_ins w fe1 1 1 form1 rfl
theorem ins2 (w:World):(Instr.mapUpdate 108 (.map (some w.heap.size)) (.int .i64 2) form2).run Tryz.prog (w.alloc (.map fe2 2))=.ok () (w.alloc (.map fe3 3)):=run_ins w fe2 2 2 form2 rfl
theorem ins3 (w:World):(Instr.mapUpdate 108 (.map (some w.heap.size)) (.int .i64 3) form3).run Tryz.prog (w.alloc (.map fe3 3))=.ok () (w.alloc (.map fe4 4)):=run_ins w fe3 3 3 form3 rfl
theorem ins4 (w:World):(Instr.mapUpdate 108 (.map (some w.heap.size)) (.int .i64 4) form4).run Tryz.prog (w.alloc (.map fe4 4))=.ok () (w.alloc (.map fe5 5)):=run_ins w fe4 4 4 form4 rfl
theorem fo_forms (w:World) :
  Calls Tryz.prog 58 #[] w fun r w'=>r=.returned (.map (some w.heap.size))∧w'=w.alloc (.map fe5 5):=by
 have hm:=run_makeMap (P:=Tryz.prog) 108 w
 have i0:=ins0 w
 have i1:=ins1 w
 have i2:=ins2 w
 have i3:=ins3 w
 have i4:=ins4 w
 unfold fe1 fe0 form0 at i0
 unfold fe2 fe1 form0 form1 at i1
 unfold fe3 fe2 form0 form1 form2 at i2
 unfold fe4 fe3 form0 form1 form2 form3 at i3
 unfold fe4 form0 form1 form2 form3 form4 at i4
 go_enter Tryz.func58,Tryz.ntmps58
 go_wp2_with fail
 go_ret
 exact⟨rfl,rfl⟩
theorem lk_at (w:World) (m:Nat) (k:Int) (v:Value) (i:Nat) (hb:w.heap[m]?=some (.map fe5 5)) (h:Instr.findNow (.int .i64) (.int .i64 k) fe5.toList 0=some (some (i,v))) :
  (Instr.lookup 108 (.map (some m)) (.int .i64 k) true).run Tryz.prog w=.ok (.tuple #[v,.bool true]) w:=by
 have hck:=fun b=>MapKept.run_checkKey (P:=Tryz.prog) (w:=w) (k:=.int .i64 k) Tryz.underlying3 rfl b 9999
 have hfk:=MapKept.run_findKey (P:=Tryz.prog) (w:=w) (kt:=3) (k:=.int .i64 k) Tryz.underlying3 h
 simp [Instr.lookup,run_underlying Tryz.underlying108,MapKept.run_getObj_map hb,hck,hfk,Result.andThen]
theorem lk_none (w:World) (m:Nat) (k:Int) (z:Value) (hb:w.heap[m]?=some (.map fe5 5)) (h:Instr.findNow (.int .i64) (.int .i64 k) fe5.toList 0=some none) (hz:∀ w,(zeroValue 113).run Tryz.prog w=.ok z w) :
  (Instr.lookup 108 (.map (some m)) (.int .i64 k) true).run Tryz.prog w=.ok (.tuple #[z,.bool false]) w:=by
 have hck:=fun b=>MapKept.run_checkKey (P:=Tryz.prog) (w:=w) (k:=.int .i64 k) Tryz.underlying3 rfl b 9999
 have hfk:=MapKept.run_findKey (P:=Tryz.prog) (w:=w) (kt:=3) (k:=.int .i64 k) Tryz.underlying3 h
 simp [Instr.lookup,run_underlying Tryz.underlying108,MapKept.run_getObj_map hb,hck,hfk,Result.andThen,hz]
theorem form_zero (w:World):(zeroValue 113).run Tryz.prog w=.ok (.agg #[.int .u8 0,.nilFunc,.nilFunc,.nilFunc]) w:=by kernel_rfl
end
section
set_option maxRecDepth 4000
theorem fw_alias (c g:Nat) (l:List UInt8) (e:En) (al gr:Value) (w:World) (h:WS w c g l (e.vals al gr)) (ht:e.target.size<=1000) (hs:l.length<=1000) :
  Calls Tryz.prog 137 #[.pointer (some ⟨c,0,none⟩),.pointer (some ⟨g,0,none⟩)] w fun r w'=>r=.returned (.tuple #[])∧WS w' c g (l++(Wi.enc e.target.size++Ds.bl e.target)) (e.vals al gr)∧w.grownBy w' (some c):=by
 have hc:=ws_text c g 29 e.target l _ w h (by omega) (by omega) (vals_29 e al gr)
 have HC:=Lib.hid hc
 clear hc h
 go_enter Tryz.func137,Tryz.ntmps137
 go_wp2_with (go_at_call 132;(with_reducible refine HC.out.mono ?_);rintro _ w1 ⟨rfl,hW1,hG1⟩;have HG1:=Lib.hid hG1;have HW1:=Lib.hid hW1;clear hG1 hW1)
 go_end0
 exact⟨rfl,HW1.out,HG1.out⟩
def rdAlias (e:En) (s:List UInt8 × Nat):En × (List UInt8 × Nat):=({ e with target:=⟨(Rd.txt 200 s).1.toArray⟩ },(Rd.txt 200 s).2)
theorem fr_alias (c rb g:Nat) (s:List UInt8 × Nat) (e:En) (al gr:Value) (w:World) (h:RS w c rb g s (e.vals al gr)) (hs:s.1.length<=1000) :
  Calls Tryz.prog 137 #[.pointer (some ⟨c,0,none⟩),.pointer (some ⟨g,0,none⟩)] w fun r w'=>r=.returned (.tuple #[])∧RS w' c rb g (rdAlias e s).2 ((rdAlias e s).1.vals al gr)∧G2 w w' rb g:=by
 have hc:=rs_text c rb g 29 _ s _ w h (by omega) (vals_29 e al gr)
 rw[set_29] at hc
 have HC:=Lib.hid hc
 clear hc h
 unfold rdAlias
 go_enter Tryz.func137,Tryz.ntmps137
 go_wp2_with (go_at_call 132;(with_reducible refine HC.out.mono ?_);rintro _ w1 ⟨rfl,hW1,hG1⟩;have HG1:=Lib.hid hG1;have HW1:=Lib.hid hW1;clear hG1 hW1)
 go_end0
 exact⟨rfl,HW1.out,HG1.out⟩
theorem fw_cat (c g:Nat) (l:List UInt8) (e:En) (al gr:Value) (k:Nat) (w:World) (h:WS w c g l (e.vals al gr)) (hk:e.cat=k) (hk2:k<9223372036854775808) (hs:l.length<=1000) :
  Calls Tryz.prog 141 #[.pointer (some ⟨c,0,none⟩),.pointer (some ⟨g,0,none⟩)] w fun r w'=>r=.returned (.tuple #[])∧WS w' c g (l++Wi.enc k) (e.vals al gr)∧w.grownBy w' (some c):=by
 have hv:=vals_30 e al gr
 rw[hk] at hv
 have hc:=ws_number c g 30 k l _ w h (by omega) hk2 hv
 have HC:=Lib.hid hc
 clear hc h hk hk2
 go_enter Tryz.func141,Tryz.ntmps141
 go_wp2_with (go_at_call 142;(with_reducible refine HC.out.mono ?_);rintro _ w1 ⟨rfl,hW1,hG1⟩;have HG1:=Lib.hid hG1;have HW1:=Lib.hid hW1;clear hG1 hW1)
 go_end0
 exact⟨rfl,HW1.out,HG1.out⟩
def rdCat (e:En) (s:List UInt8 × Nat):En × (List UInt8 × Nat):=({ e with cat:=clip (Rd.num s).1 },(Rd.num s).2)
theorem fr_cat (c rb g:Nat) (s:List UInt8 × Nat) (e:En) (al gr:Value) (w:World) (h:RS w c rb g s (e.vals al gr)) (hs:s.1.length<=1000) :
  Calls Tryz.prog 141 #[.pointer (some ⟨c,0,none⟩),.pointer (some ⟨g,0,none⟩)] w fun r w'=>r=.returned (.tuple #[])∧RS w' c rb g (rdCat e s).2 ((rdCat e s).1.vals al gr)∧G2 w w' rb g:=by
 have hc:=rs_number c rb g 30 _ s _ w h (by omega) (vals_30 e al gr)
 rw[set_30] at hc
 have HC:=Lib.hid hc
 clear hc h
 unfold rdCat
 go_enter Tryz.func141,Tryz.ntmps141
 go_wp2_with (go_at_call 142;(with_reducible refine HC.out.mono ?_);rintro _ w1 ⟨rfl,hW1,hG1⟩;have HG1:=Lib.hid hG1;have HW1:=Lib.hid hW1;clear hG1 hW1)
 go_end0
 exact⟨rfl,HW1.out,HG1.out⟩
end
section
set_option maxRecDepth 8000
theorem ws_count (c g n:Nat) (most:Int) (l:List UInt8) (cs:Array Value) (w:World) (h:WS w c g l cs) (hs:l.length<=10000) (hn:n<1000000) (hm:(n:Int)<=most) :
  Calls Tryz.prog 206 #[.pointer (some ⟨c,0,none⟩),.int .i64 n,.int .i64 most] w fun r w'=>r=.returned (.int .i64 n)∧WS w' c g (l++Wi.enc n) cs∧w.grownBy w' (some c):=by
 have hW:=h.below (((Below.refl w.heap.size w).alloc (Nat.le_refl _) (.cells #[.int .i64 n] 3)))
 have hc:=co_number c ⟨w.heap.size,0,none⟩ n l (w.alloc (.cells #[.int .i64 n] 3)) hs (by omega) hW.1 (by simp [go_sem]) hW.2.2.2
 have hcw:w.heap.size≠c:=by have:=h.2.2.2;omega
 have HC:=Lib.hid hc
 have HW:=Lib.hid hW
 have d1:decide ((n:Int)<0)=false:=by rw[decide_eq_false_iff_not];omega
 have d2:decide (most<(n:Int))=false:=by rw[decide_eq_false_iff_not];omega
 have cell:∀ w1,(w.alloc (.cells #[.int .i64 n] 3)).grownBy w1 (some c)->w1.cell? ⟨w.heap.size,0,none⟩=some (.int .i64 n):=fun w1 G=>by
  rw[World.cell?_of_block (a:=⟨w.heap.size,0,none⟩) (G.block _ (by simp) (by intro e;exact hcw (Option.some.inj e)))]
  simp [go_sem]
 have HCe:=Lib.hid cell
 clear hc hW cell h
 go_enter Tryz.func206,Tryz.ntmps206
 go_wp2_with (go_at_call 142;(with_reducible refine HC.out.mono ?_);rintro _ w1 ⟨rfl,hL,hG⟩;have c0:=HCe.out w1 hG;have HG:=Lib.hid hG;have HL:=Lib.hid hL;clear hG hL)
 go_ret
 exact⟨rfl,HW.out.grown HG.out HL.out,(World.grownBy_alloc w _ (some c)).trans HG.out⟩
theorem RS.far {wa w1:World} {c rb g:Nat} {s s':List UInt8 × Nat} {cs:Array Value} (h:RS wa c rb g s cs) (hR:RL w1 rb s') (G:wa.grownBy w1 (some rb)) (p:Addr) (h1:p.block≠c) (h2:p.block≠rb) (h3:p.block≠g) (v:Value):RS (w1.setCell p v) c rb g s' cs:=by
 obtain⟨a1,a2,a3,a4,a5,a6,a7,a8⟩:=h
 have kk:∀ k,k<wa.heap.size->k≠rb->k≠p.block->(w1.setCell p v).heap[k]?=wa.heap[k]?:=fun k hk hr hp=>(heap_setCell_other w1 p k v hp).trans (G.block k hk (by intro e;exact hr (Option.some.inj e)))
 exact⟨(World.cell?_of_block (a:=⟨c,1,none⟩) (kk c a7 a4 (fun e=>h1 e.symm))).trans a1,hR.set p h2 v,a3.of_block (kk g a3.2.2 (fun e=>a6 e.symm) (fun e=>h3 e.symm)) (by have:=G.size;simpa using this),a4,a5,a6,by have:=G.size;simp;omega,by have:=G.size;simp;omega⟩
theorem g2_far {w w1:World} {o:Obj} {rb g:Nat} {p:Addr} (G:(w.alloc o).grownBy w1 (some rb)) (hp:p.block=w.heap.size) (v:Value):G2 w (w1.setCell p v) rb g :=
 ⟨by rw[show (w1.setCell p v).os=w1.os from (grown_setCell w1 p v).os,G.os];rfl,by rw[show (w1.setCell p v).tape=w1.tape from (grown_setCell w1 p v).tape,G.tape];rfl,by rw[show (w1.setCell p v).output=w1.output from (grown_setCell w1 p v).output,G.output];rfl,by have:=G.size;simp at this ⊢;omega,fun k hk hr _=>(heap_setCell_other w1 p k v (by omega)).trans ((G.block k (by simp;omega) (by intro e;exact hr (Option.some.inj e))).trans (heap_alloc_old w o hk))⟩
def cntv (most x:Nat):Nat:=if most<x then most+1 else x
theorem rs_count (c rb g most:Nat) (n:Int) (s:List UInt8 × Nat) (cs:Array Value) (w:World) (h:RS w c rb g s cs) (hs:s.1.length<=10000) (hm2:most<=1000) :
  Calls Tryz.prog 206 #[.pointer (some ⟨c,0,none⟩),.int .i64 n,.int .i64 most] w fun r w'=>r=.returned (.int .i64 (cntv most (clip (Rd.num s).1)))∧RS w' c rb g (Rd.num s).2 cs∧G2 w w' rb g:=by
 have hW:=h.below (((Below.refl w.heap.size w).alloc (Nat.le_refl _) (.cells #[.int .i64 n] 3)))
 have hc:=ci_number c rb ⟨w.heap.size,0,none⟩ (.int .i64 n) s (w.alloc (.cells #[.int .i64 n] 3)) hs hW.1 hW.2.1 hW.2.2.2.2.2.2.2 (by simp [go_sem]) (by simp) (by simp) (by have:=h.2.2.2.2.2.2.2;show w.heap.size≠rb;omega)
 have hx:=clip_le (Rd.num s).1
 obtain⟨hzc,hzr⟩:=h.2.2.2.2.2.2
 have hg:=h.2.2.1.2.2
 have HW:=Lib.hid hW
 have HC:=Lib.hid hc
 have hn:=Rd.num s
 generalize hX:clip (Rd.num s).1=x at hc hx HC ⊢
 generalize (Rd.num s).2=s' at HC ⊢
 have cell:∀ w1,(w.alloc (.cells #[.int .i64 n] 3)).grownBy w1 (some rb)->w1.cell? ⟨w.heap.size,0,none⟩=some (.int .i64 n):=fun w1 G=>by
  rw[World.cell?_of_block (a:=⟨w.heap.size,0,none⟩) (G.block _ (by simp) (by intro e;have e:=Option.some.inj e;simp only at e;omega))]
  simp [go_sem]
 have HCe:=Lib.hid cell
 unfold cntv
 clear hc hW cell h hX hn
 by_cases hlt:most<x
 · rw[if_pos hlt]
   have d1:decide ((x:Int)<0)=false:=by rw[decide_eq_false_iff_not];omega
   have d2:decide ((most:Int)<(x:Int))=true:=by rw[decide_eq_true_eq];omega
   have d3:decide (most<x)=true:=decide_eq_true hlt
   go_enter Tryz.func206,Tryz.ntmps206
   go_wp2_with (go_at_call 142;(with_reducible refine HC.out.mono ?_);rintro _ w2 ⟨rfl,w1,hR,hG,rfl⟩;have c0:=HCe.out w1 hG;have HG:=Lib.hid hG;have HR:=Lib.hid hR;clear hG hR)
   go_ret
   exact⟨rfl,HW.out.far HR.out HG.out ⟨w.heap.size,0,none⟩ (by show w.heap.size≠c;omega) (by show w.heap.size≠rb;omega) (by show w.heap.size≠g;omega) _,g2_far HG.out rfl _⟩
 · rw[if_neg hlt]
   have d1:decide ((x:Int)<0)=false:=by rw[decide_eq_false_iff_not];omega
   have d2:decide ((most:Int)<(x:Int))=false:=by rw[decide_eq_false_iff_not];omega
   have d3:decide (most<x)=false:=decide_eq_false hlt
   go_enter Tryz.func206,Tryz.ntmps206
   go_wp2_with (go_at_call 142;(with_reducible refine HC.out.mono ?_);rintro _ w2 ⟨rfl,w1,hR,hG,rfl⟩;have c0:=HCe.out w1 hG;have HG:=Lib.hid hG;have HR:=Lib.hid hR;clear hG hR)
   go_ret
   exact⟨rfl,HW.out.far HR.out HG.out ⟨w.heap.size,0,none⟩ (by show w.heap.size≠c;omega) (by show w.heap.size≠rb;omega) (by show w.heap.size≠g;omega) _,g2_far HG.out rfl _⟩
def numD (e:En):List Int:=[e.d0,e.d1,e.d2,e.d3,e.d4,e.d5,e.d6,e.d7,e.d8,e.d9,e.d10,e.d11,e.d12,e.d13]
def os14:List Nat:=[2,3,4,5,6,7,8,9,10,11,12,13,14,15]
theorem numD_get (e:En) (al gr:Value):∀ k,k<14->(e.vals al gr)[os14.getD k 0]?=some (.int .i64 ((numD e).getD k 0)):=by
 intro k hk
 rcases (by omega:k=0∨k=1∨k=2∨k=3∨k=4∨k=5∨k=6∨k=7∨k=8∨k=9∨k=10∨k=11∨k=12∨k=13) with rfl | rfl | rfl | rfl | rfl | rfl | rfl | rfl | rfl | rfl | rfl | rfl | rfl | rfl
 · exact vals_2 e al gr
 · exact vals_3 e al gr
 · exact vals_4 e al gr
 · exact vals_5 e al gr
 · exact vals_6 e al gr
 · exact vals_7 e al gr
 · exact vals_8 e al gr
 · exact vals_9 e al gr
 · exact vals_10 e al gr
 · exact vals_11 e al gr
 · exact vals_12 e al gr
 · exact vals_13 e al gr
 · exact vals_14 e al gr
 · exact vals_15 e al gr
theorem numD_NS (e:En) (al gr:Value) (h:∀ x∈numD e,0<=x):NS (e.vals al gr) os14 ((numD e).map Int.toNat):=by
 refine⟨rfl,fun k h1 h2=>?_⟩
 have hk:k<14:=h1
 have hk2:k<(numD e).length:=hk
 have:=numD_get e al gr k hk
 rw[List.getD_eq_getElem?_getD,List.getElem?_eq_getElem h1,List.getD_eq_getElem?_getD,List.getElem?_eq_getElem hk2] at this
 simp only[Option.getD_some] at this
 rw[this,List.getElem_map,Int.toNat_of_nonneg (h _ (List.getElem_mem _))]
def bodyD (e:En) (l2:List Int) (k1 k2 k3 k4:Nat):List UInt8:=encs ((numD e).map Int.toNat)++([tb e.uq]++(Wi.enc k1++((Wi.enc e.vol.size++Ds.bl e.vol)++((Wi.enc e.own.size++Ds.bl e.own)++(encs [k2,k3]++([tb e.ar]++(Wi.enc l2.length++(encs (l2.map Int.toNat)++Wi.enc k4))))))))
theorem fw_data (c g:Nat) (l:List UInt8) (e:En) (al gr:Value) (l2:List Int) (wB w:World) (hI:IS wB al l2) (hB:Below wB.heap.size wB w) (hcB:wB.heap.size<=c) (h:WS w c g l (e.vals al gr)) (hd:∀ x∈numD e,0<=x∧x<9223372036854775808) (k1 k2 k3 k4:Nat) (h1:e.cls=k1) (h2:e.cr=k2) (h3:e.ex=k3) (h4:e.used=k4) (hk:k1<9223372036854775808∧k2<9223372036854775808∧k3<9223372036854775808∧k4<9223372036854775808) (hv:e.vol.size<=1000) (ho:e.own.size<=1000) (hl2:l2.length<=4) (hp2:∀ x∈l2,0<=x∧x<9223372036854775808) (hs:l.length<=1000) :
  Calls Tryz.prog 126 #[.pointer (some ⟨c,0,none⟩),.pointer (some ⟨g,0,none⟩)] w fun r w'=>r=.returned (.tuple #[])∧WS w' c g (l++bodyD e l2 k1 k2 k3 k4) (e.vals al gr)∧w.grownBy w' (some c):=by
 have hN:=numD_NS e al gr (fun x hx=>(hd x hx).1)
 have hnn:∀ n∈(numD e).map Int.toNat,n<9223372036854775808:=fun n hn=>by
  obtain⟨x,hx,rfl⟩:=List.mem_map.1 hn
  have:=hd x hx;omega
 have hn2:∀ n∈l2.map Int.toNat,n<9223372036854775808:=fun n hn=>by
  obtain⟨x,hx,rfl⟩:=List.mem_map.1 hn
  have:=hp2 x hx;omega
 have z0:=encs_len _ hnn
 have z1:=enc_le10 k1 hk.1
 have z2:=enc_le10 e.vol.size (by omega)
 have z3:=enc_le10 e.own.size (by omega)
 have z4:=encs2_len k2 k3 hk.2.1 hk.2.2.1
 have z5:=enc_le10 l2.length (by omega)
 have z6:=encs_len _ hn2
 rw[List.length_map] at z0 z6
 have z7:(numD e).length=14:=rfl
 rw[z7] at z0
 have v17:=vals_17 e al gr
 rw[h1] at v17
 have v20:=vals_20 e al gr
 rw[h2] at v20
 have v21:=vals_21 e al gr
 rw[h3] at v21
 have v24:=vals_24 e al gr
 rw[h4] at v24
 obtain⟨S0,e0⟩:∃ S,S=l++encs ((numD e).map Int.toNat):=⟨_,rfl⟩
 obtain⟨S1,e1⟩:∃ S,S=S0++[tb e.uq]:=⟨_,rfl⟩
 obtain⟨S2,e2⟩:∃ S,S=S1++Wi.enc k1:=⟨_,rfl⟩
 obtain⟨S3,e3⟩:∃ S,S=S2++(Wi.enc e.vol.size++Ds.bl e.vol):=⟨_,rfl⟩
 obtain⟨S4,e4⟩:∃ S,S=S3++(Wi.enc e.own.size++Ds.bl e.own):=⟨_,rfl⟩
 obtain⟨S5,e5⟩:∃ S,S=S4++encs [k2,k3]:=⟨_,rfl⟩
 obtain⟨S6,e6⟩:∃ S,S=S5++[tb e.ar]:=⟨_,rfl⟩
 obtain⟨S7,e7⟩:∃ S,S=S6++Wi.enc l2.length:=⟨_,rfl⟩
 obtain⟨S8,e8⟩:∃ S,S=S7++encs (l2.map Int.toNat):=⟨_,rfl⟩
 have b0:S0.length<=1126:=by rw[e0,List.length_append];omega
 have b1:S1.length<=1127:=by rw[e1,List.length_append,List.length_singleton];omega
 have b2:S2.length<=1136:=by rw[e2,List.length_append];omega
 have b3:S3.length<=2145:=by rw[e3,List.length_append,List.length_append,Ds.bl_length];omega
 have b4:S4.length<=3154:=by rw[e4,List.length_append,List.length_append,Ds.bl_length];omega
 have b5:S5.length<=3172:=by rw[e5,List.length_append];omega
 have b6:S6.length<=3173:=by rw[e6,List.length_append,List.length_singleton];omega
 have b7:S7.length<=3182:=by rw[e7,List.length_append];omega
 have b8:S8.length<=3218:=by rw[e8,List.length_append];omega
 have efin:l++bodyD e l2 k1 k2 k3 k4=S8++Wi.enc k4:=by
  rw[e8,e7,e6,e5,e4,e3,e2,e1,e0];unfold bodyD;simp only[List.append_assoc]
 have hc:Calls Tryz.prog 130 #[.pointer (some ⟨c,0,none⟩),.slice (some ⟨w.heap.size,0,none⟩) 14 14] ((w.alloc (.cells #[.pointer (some ⟨g,2,none⟩),.pointer (some ⟨g,3,none⟩),.pointer (some ⟨g,4,none⟩),.pointer (some ⟨g,5,none⟩),.pointer (some ⟨g,6,none⟩),.pointer (some ⟨g,7,none⟩),.pointer (some ⟨g,8,none⟩),.pointer (some ⟨g,9,none⟩),.pointer (some ⟨g,10,none⟩),.pointer (some ⟨g,11,none⟩),.pointer (some ⟨g,12,none⟩),.pointer (some ⟨g,13,none⟩),.pointer (some ⟨g,14,none⟩),.pointer (some ⟨g,15,none⟩)] 183)).drew) fun r w'=>r=.returned (.tuple #[])∧WS w' c g (l++encs ((numD e).map Int.toNat)) (e.vals al gr)∧((w.alloc (.cells #[.pointer (some ⟨g,2,none⟩),.pointer (some ⟨g,3,none⟩),.pointer (some ⟨g,4,none⟩),.pointer (some ⟨g,5,none⟩),.pointer (some ⟨g,6,none⟩),.pointer (some ⟨g,7,none⟩),.pointer (some ⟨g,8,none⟩),.pointer (some ⟨g,9,none⟩),.pointer (some ⟨g,10,none⟩),.pointer (some ⟨g,11,none⟩),.pointer (some ⟨g,12,none⟩),.pointer (some ⟨g,13,none⟩),.pointer (some ⟨g,14,none⟩),.pointer (some ⟨g,15,none⟩)] 183)).drew).grownBy w' (some c):=ws_numbers c g w.heap.size 14 os14 _ l (e.vals al gr) _ (h.below (((Below.refl _ _).alloc (Nat.le_refl _) _).drew)) (PS.new w g os14 183) (by have:=h.2.2.2;omega) hN hnn (by decide) (by omega)
 rw[<-e0] at hc
 have c1:=fun W (hW:WS W c g S0 (e.vals al gr))=>ws_truth c g 16 e.uq S0 _ W hW (by omega) (vals_16 e al gr)
 rw[<-e1] at c1
 have c2:=fun W (hW:WS W c g S1 (e.vals al gr))=>ws_number c g 17 k1 S1 _ W hW (by omega) hk.1 v17
 rw[<-e2] at c2
 have c3:=fun W (hW:WS W c g S2 (e.vals al gr))=>ws_text c g 18 e.vol S2 _ W hW (by omega) (by omega) (vals_18 e al gr)
 rw[<-e3] at c3
 have c4:=fun W (hW:WS W c g S3 (e.vals al gr))=>ws_text c g 19 e.own S3 _ W hW (by omega) (by omega) (vals_19 e al gr)
 rw[<-e4] at c4
 have hN2:NS (e.vals al gr) [20,21] [k2,k3]:=⟨rfl,fun k h _=>by
  rcases (by simp at h;omega:k=0∨k=1) with rfl | rfl
  · exact v20
  · exact v21⟩
 have c5:∀ W,WS W c g S4 (e.vals al gr)->Calls Tryz.prog 130 #[.pointer (some ⟨c,0,none⟩),.slice (some ⟨W.heap.size,0,none⟩) 2 2] ((W.alloc (.cells #[.pointer (some ⟨g,20,none⟩),.pointer (some ⟨g,21,none⟩)] 183)).drew) fun r w'=>r=.returned (.tuple #[])∧WS w' c g S5 (e.vals al gr)∧((W.alloc (.cells #[.pointer (some ⟨g,20,none⟩),.pointer (some ⟨g,21,none⟩)] 183)).drew).grownBy w' (some c):=fun W hW=>by
  rw[e5]
  exact ws_numbers c g W.heap.size 2 [20,21] [k2,k3] S4 (e.vals al gr) _ (hW.below (((Below.refl _ _).alloc (Nat.le_refl _) _).drew)) (PS.new W g [20,21] 183) (by have:=hW.2.2.2;omega) hN2 (fun n hn=>by
   rcases (by simpa using hn:n=k2∨n=k3) with rfl | rfl
   · exact hk.2.1
   · exact hk.2.2.1) (by decide) (by omega)
 have c6:=fun W (hW:WS W c g S5 (e.vals al gr))=>ws_truth c g 22 e.ar S5 _ W hW (by omega) (vals_22 e al gr)
 rw[<-e6] at c6
 have c7:=fun W (hW:WS W c g S6 (e.vals al gr))=>ws_count c g l2.length 4 S6 _ W hW (by omega) (by omega) (by omega)
 rw[<-e7] at c7
 have c9:=fun W (hW:WS W c g S8 (e.vals al gr))=>ws_number c g 24 k4 S8 _ W hW (by omega) hk.2.2.2 v24
 obtain⟨aa,ac,rfl,hlz,hcells⟩:=id hI
 have v23:=vals_23 e (.slice aa l2.length ac) gr
 have HC0:=Lib.hid hc
 have C1:=Lib.hid c1
 have C2:=Lib.hid c2
 have C3:=Lib.hid c3
 have C4:=Lib.hid c4
 have C5:=Lib.hid c5
 have C6:=Lib.hid c6
 have C7:=Lib.hid c7
 have C9:=Lib.hid c9
 have HCl:=Lib.hid hcells
 have HP2:=Lib.hid hp2
 have hBs:=hB.size
 have HB:=Lib.hid hB
 have HF:=Lib.hid efin
 have E8:=Lib.hid e8
 have HN2:=Lib.hid hn2
 have V23:=Lib.hid v23
 clear hN hnn hn2 hN2 hc c1 c2 c3 c4 c5 c6 c7 c9 e0 e1 e2 e3 e4 e5 e6 e7 e8 efin h hI hB h1 h2 h3 h4 hd hp2 z0 z1 z2 z3 z4 z5 z6 z7 v17 v20 v21 v24 v23 hcells b0 b1 b2 b3 b4 b5 b6 b8 hk
 go_enter Tryz.func126,Tryz.ntmps126
 go_wp2_with fail
 go_region_law (first | (go_simp;go_at_call 130;(with_reducible refine HC0.out.mono ?_);rintro _ w1 ⟨rfl,hW1,hG1⟩))
 all_goals
  have HG1:=Lib.hid (ws_grown.trans hG1)
  clear hG1
  go_wp2_with (first
   | (go_at_call 131;(with_reducible refine (C1.out _ hW1).mono ?_);rintro _ w2 ⟨rfl,hW2,hG2⟩;have HG2:=Lib.hid (HG1.out.trans hG2);clear hG2)
   | (go_at_call 142;(with_reducible refine (C2.out _ hW2).mono ?_);rintro _ w3 ⟨rfl,hW3,hG3⟩;have HG3:=Lib.hid (HG2.out.trans hG3);clear hG3)
   | (go_at_call 132;(with_reducible refine (C3.out _ hW3).mono ?_);rintro _ w4 ⟨rfl,hW4,hG4⟩;have HG4:=Lib.hid (HG3.out.trans hG4);clear hG4)
   | (go_at_call 132;(with_reducible refine (C4.out _ hW4).mono ?_);rintro _ w5 ⟨rfl,hW5,hG5⟩;have HG5:=Lib.hid (HG4.out.trans hG5);clear hG5))
  go_region_law (first | (go_simp;go_at_call 130;(with_reducible refine (C5.out _ hW5).mono ?_);rintro _ w6 ⟨rfl,hW6,hG6⟩))
  all_goals
   have HG6:=Lib.hid (HG5.out.trans (ws_grown.trans hG6))
   clear hG6
   have v23:=hW6.2.1.cell 23 _ V23.out
   go_wp2_with (first
    | (go_at_call 131;(with_reducible refine (C6.out _ hW6).mono ?_);rintro _ w7 ⟨rfl,hW7,hG7⟩;have v23:=hW7.2.1.cell 23 _ V23.out;have HG7:=Lib.hid (HG6.out.trans hG7);clear hG7)
    | (go_at_call 206;(with_reducible refine (C7.out _ hW7).mono ?_);rintro _ w8 ⟨rfl,hW8,hG8⟩;have v23:=hW8.2.1.cell 23 _ V23.out;obtain⟨_,_,hcw⟩:=id hW8.1;have k1:=hcw.2.1;have HG8:=Lib.hid (HG7.out.trans hG8);clear hG8 hcw))
   go_loopw [115] (fun i wr=>∃ k:Nat,k<=l2.length∧i=.int .i64 k∧WS wr c g (S7++encs ((l2.map Int.toNat).take k)) (e.vals (.slice aa l2.length ac) gr)∧w.grownBy wr (some c)) (fun i _=>l2.length - (intOf i).toNat)
   case atStart=>exact⟨0,Nat.zero_le _,rfl,by simpa [encs] using hW8,HG8.out⟩
   case round =>
    obtain⟨k,hk,rfl,hWr,hGr⟩:=hrel
    have HGr:=Lib.hid hGr
    have v23:=hWr.2.1.cell 23 _ V23.out
    have hBr:Below wB.heap.size wB wr:=HB.out.grown hGr hBs (fun x hx=>by cases hx;exact hcB)
    clear hGr
    by_cases hlt:k<l2.length
    · obtain⟨ab,ao,rfl,hab,hcl⟩:=HCl.out (by omega)
      have hpk:=HP2.out l2[k] (List.getElem_mem hlt)
      have cA:wr.cell? ⟨ab,ao+k,none⟩=some (.int .i64 (l2[k].toNat:Int)):=by
       rw[hBr.cell (p:=⟨ab,ao+k,none⟩) hab,hcl k hlt,Int.toNat_of_nonneg hpk.1]
      have hlen:(S7++encs ((l2.map Int.toNat).take k)).length<=10000:=by
       have:=encs_len ((l2.map Int.toNat).take k) (fun n hn=>HN2.out n (List.mem_of_mem_take hn))
       rw[List.length_take] at this
       rw[List.length_append];omega
      have hc:=co_number c ⟨ab,ao+k,none⟩ l2[k].toNat _ wr hlen (by omega) hWr.1 cA hWr.2.2.2
      have HC:=Lib.hid hc
      have HW:=Lib.hid hWr
      clear hc hcl cA hlen hWr hpk
      go_wp2_with (go_at_call 142;(with_reducible refine HC.out.mono ?_);rintro _ w9 ⟨rfl,hL9,hG9⟩;have hW9:=Lib.hid (HW.out.grown hG9 hL9);have HG9:=Lib.hid (HGr.out.trans hG9);clear hG9 hL9)
      go_roundw
      case rel =>
       refine⟨k+1,by omega,by go_num,?_,HG9.out⟩
       have hk2:k<(l2.map Int.toNat).length:=by rw[List.length_map];exact hlt
       have:=hW9.out
       rw[List.append_assoc] at this
       rw[List.take_succ_eq_append_getElem hk2,encs_append,List.getElem_map]
       simpa [encs] using this
      case measure=>simp [intOf];omega
    · have hW8:WS wr c g S8 (e.vals (.slice aa l2.length ac) gr):=by
       rw[List.take_of_length_le (by rw[List.length_map];omega),<-E8.out] at hWr
       exact hWr
      clear hWr
      go_wp2_with (go_at_call 142;(with_reducible refine (C9.out _ hW8).mono ?_);rintro _ w9 ⟨rfl,hW9,hG9⟩;have HW9:=Lib.hid hW9;have HG9:=Lib.hid (HGr.out.trans hG9);clear hG9 hW9)
      go_end0
      exact⟨rfl,by rw[HF.out];exact HW9.out,HG9.out⟩
end
section
set_option maxRecDepth 8000
def setD (e:En) (f:Nat->Int):En:={ e with d0:=f 0,d1:=f 1,d2:=f 2,d3:=f 3,d4:=f 4,d5:=f 5,d6:=f 6,d7:=f 7,d8:=f 8,d9:=f 9,d10:=f 10,d11:=f 11,d12:=f 12,d13:=f 13 }
def sq (s:List UInt8 × Nat):Nat->List UInt8 × Nat
 | 0=>s
 | k+1=>(Rd.num (sq s k)).2
theorem sq_len (s:List UInt8 × Nat):∀ k,(sq s k).1.length<=s.1.length
 | 0=>Nat.le_refl _
 | k+1=>Nat.le_trans (Rd.num_len _) (sq_len s k)
def nq (s:List UInt8 × Nat) (k:Nat):Int:=(clip (Rd.num (sq s k)).1:Nat)
theorem rdNums14 (s:List UInt8 × Nat) (e:En) (al gr:Value):rdNums os14 s (e.vals al gr)=((setD e (nq s)).vals al gr,sq s 14):=by
 simp only[os14,rdNums,set_2,set_3,set_4,set_5,set_6,set_7,set_8,set_9,set_10,set_11,set_12,set_13,set_14,set_15]
 rfl
def rdN (s:List UInt8 × Nat):Nat->List Int × (List UInt8 × Nat)
 | 0=>([],s)
 | k+1=>((rdN s k).1++[((clip (Rd.num (rdN s k).2).1:Nat):Int)],(Rd.num (rdN s k).2).2)
theorem rdN_len (s:List UInt8 × Nat):∀ k,(rdN s k).1.length=k
 | 0=>rfl
 | k+1=>by rw[rdN,List.length_append,rdN_len s k];rfl
theorem rdN_sq (s:List UInt8 × Nat):∀ k,(rdN s k).2=sq s k
 | 0=>rfl
 | k+1=>by rw[rdN,sq,rdN_sq s k]
theorem rdN_get (s:List UInt8 × Nat):∀ n j,j<n->(rdN s n).1[j]?=some (nq s j)
 | n+1,j,h=>by
   rw[rdN]
   by_cases e:j<n
   · rw[List.getElem?_append_left (by rw[rdN_len];exact e)];exact rdN_get s n j e
   · obtain rfl:j=n:=by omega
     rw[List.getElem?_append_right (by rw[rdN_len];exact Nat.le_refl _),rdN_len,Nat.sub_self,rdN_sq];rfl
def NB (w:World) (g n:Nat) (F:Nat->Int):Prop:=(∀ k,k<n->w.cell? ⟨g,k,none⟩=some (.int .i64 (F k)))∧(∀ o,w.frozen? ⟨g,o,none⟩=false)∧g<w.heap.size
theorem NB.grown {w w':World} {g n:Nat} {F:Nat->Int} {row:Option Nat} (h:NB w g n F) (hg:w.grownBy w' row) (hr:some g≠row):NB w' g n F:=by
 have hb:=hg.block g h.2.2 hr
 refine⟨fun k hk=>?_,fun o=>?_,Nat.lt_of_lt_of_le h.2.2 hg.size⟩
 · rw[World.cell?_of_block (a:=⟨g,k,none⟩) hb];exact h.1 k hk
 · rw[World.frozen?_of_block (a:=⟨g,o,none⟩) hb];exact h.2.1 o
theorem NB.set {w:World} {g n:Nat} {F:Nat->Int} (h:NB w g n F) (c:Nat) (hc:c<n) (v:Int):NB (w.setCell ⟨g,c,none⟩ (.int .i64 v)) g n (fun k=>if k=c then v else F k):=by
 refine⟨fun k hk=>?_,fun o=>by have:=h.2.1 o;simpa using this,by simpa using h.2.2⟩
 have h1:=h.1 k hk
 have h0:=h.1 c hc
 by_cases e:k=c
 · subst e;simp [go_sem,h0]
 · show _=some (Value.int .i64 (if k=c then v else F k))
   rw[if_neg e,<-h1]
   have e':c≠k:=fun h=>e h.symm
   have e'':(c==k)=false:=by simpa using e'
   simp [go_sem]
theorem NB.other {w:World} {g n:Nat} {F:Nat->Int} (h:NB w g n F) (g2 c:Nat) (hne:g≠g2) (v:Value):NB (w.setCell ⟨g2,c,none⟩ v) g n F:=by
 refine⟨fun k hk=>?_,fun o=>by have:=h.2.1 o;simpa using this,by simpa using h.2.2⟩
 rw[<-h.1 k hk]
 have e':(g2==g)=false:=by simpa using fun h=>hne h.symm
 simp [go_sem]
theorem NB.made {w:World} {B e g n:Nat} (h:w.ownsRow B e 1 (.slice (some ⟨g,0,none⟩) n n) n (madeCells (Value.int .i64 0).cells (n*1)).toList) (hn:0<n):NB w g n (fun _=>0):=by
 have hc:∀ k,k<n->w.cell? ⟨g,k,none⟩=some (.int .i64 0):=fun k hk=>by
  rw[h.cellAt k (by omega)]
  show (madeCells #[Value.int .i64 0] (n*1)).toList[k]?=_
  rw[toList_madeCells_one,List.getElem?_replicate,if_pos (by omega)]
 exact⟨hc,fun o=>h.frozenAt o,block_lt_of_cell (hc 0 hn)⟩
theorem NB.is {w:World} {g n:Nat} {F:Nat->Int} {l:List Int} (h:NB w g n F) (hl:l.length=n) (hn:n<=1000000) (hF:∀ j (hj:j<l.length),F j=l[j]):IS w (.slice (some ⟨g,0,none⟩) n n) l :=
 ⟨_,n,by rw[hl],by omega,fun _=>⟨g,0,rfl,h.2.2,fun k hk=>by rw[Nat.zero_add,h.1 k (by omega),hF k hk]⟩⟩
theorem G2.far {w wr w1:World} {rb g:Nat} {p:Addr} (h:G2 w wr rb g) (G:wr.grownBy w1 (some rb)) (hp:w.heap.size<=p.block) (v:Value):G2 w (w1.setCell p v) rb g :=
 by
 have k:=h.trans (G2.of_grown G g)
 have q:=grown_setCell w1 p v
 exact⟨q.os.trans k.os,q.tape.trans k.tape,q.output.trans k.output,Nat.le_trans k.size q.size,fun i hi ha hb=>(heap_setCell_other w1 p i v (by omega)).trans (k.block i hi ha hb)⟩
theorem NB.g2 {w w':World} {gb n a b:Nat} {F:Nat->Int} (h:NB w gb n F) (hg:G2 w w' a b) (ha:gb≠a) (hb:gb≠b):NB w' gb n F:=by
 have hb:=hg.block gb h.2.2 ha hb
 refine⟨fun k hk=>?_,fun o=>?_,Nat.lt_of_lt_of_le h.2.2 hg.size⟩
 · rw[World.cell?_of_block (a:=⟨gb,k,none⟩) hb];exact h.1 k hk
 · rw[World.frozen?_of_block (a:=⟨gb,o,none⟩) hb];exact h.2.1 o
theorem rdN_ix (s:List UInt8 × Nat) (k n:Nat) (L:List Int) (hL:L=(rdN s n).1) (hk:k=n):∀ j (hj:j<L.length),(fun j=>if j<k then nq s j else 0) j=L[j]:=fun j hj=>by
 subst hL hk
 have h1:j<k:=by rw[rdN_len] at hj;exact hj
 have:=rdN_get s k j h1
 rw[List.getElem?_eq_getElem hj] at this
 show (if j<k then nq s j else 0)=_
 rw[if_pos h1]
 exact (Option.some.inj this).symm
theorem d_made {w w8 w9:World} {c rb g m:Nat} {S:List UInt8 × Nat} {E:En} {gr:Value} (h:RS w8 c rb g S (E.vals (.slice none 0 0) gr)) (hG:G2 w w8 rb g) (hown:w9.ownsRow w8.heap.size 3 1 (.slice (some ⟨w8.heap.size,0,none⟩) m m) m (madeCells (Value.int .i64 0).cells (m*1)).toList) (hgrow:w8.grownBy w9 none) (hm:0<m) :
  w9.frozen? ⟨g,23,none⟩=false∧w9.cell? ⟨g,23,none⟩=some (.slice none 0 0)∧RS (w9.setCell ⟨g,23,none⟩ (.slice (some ⟨w8.heap.size,0,none⟩) m m)) c rb g S (E.vals (.slice (some ⟨w8.heap.size,0,none⟩) m m) gr)∧w.heap.size<=w8.heap.size∧NB (w9.setCell ⟨g,23,none⟩ (.slice (some ⟨w8.heap.size,0,none⟩) m m)) w8.heap.size m (fun _=>0)∧G2 w (w9.setCell ⟨g,23,none⟩ (.slice (some ⟨w8.heap.size,0,none⟩) m m)) rb g:=by
 have hg8:=h.2.2.1.2.2
 have G:w8.grownBy w9 (some rb):=⟨hgrow.os,hgrow.tape,hgrow.output,hgrow.size,fun k hk _=>hgrow.block k hk (by simp)⟩
 have hb:=hgrow.block g hg8 (by simp)
 have ha:=h.after (h.2.1.grown hgrow h.2.2.2.2.2.2.2) G 23 (by rw[vals_size];decide) (.slice (some ⟨w8.heap.size,0,none⟩) m m)
 rw[set_23] at ha
 exact⟨(World.frozen?_of_block (a:=⟨g,23,none⟩) hb).trans (h.2.2.1.2.1 23),(World.cell?_of_block (a:=⟨g,23,none⟩) hb).trans (h.2.2.1.cell 23 _ (vals_23 E _ gr)),ha.1,hG.size,(NB.made hown hm).other g 23 (by omega) _,hG.trans ha.2⟩
theorem d_step {w wr w1:World} {c rb g gb m k:Nat} {S7:List UInt8 × Nat} {cs:Array Value} (h:RS wr c rb g (rdN S7 k).2 cs) (hc:c<w.heap.size) (hr:rb<w.heap.size) (hg:g<w.heap.size) (hB:w.heap.size<=gb) (hN:NB wr gb m (fun j=>if j<k then nq S7 j else 0)) (hG:G2 w wr rb g) (hR:RL w1 rb (Rd.num (rdN S7 k).2).2) (G:wr.grownBy w1 (some rb)) (hk:k<m) :
  RS (w1.setCell ⟨gb,k,none⟩ (.int .i64 (clip (Rd.num (rdN S7 k).2).1))) c rb g (rdN S7 (k+1)).2 cs∧NB (w1.setCell ⟨gb,k,none⟩ (.int .i64 (clip (Rd.num (rdN S7 k).2).1))) gb m (fun j=>if j<k+1 then nq S7 j else 0)∧G2 w (w1.setCell ⟨gb,k,none⟩ (.int .i64 (clip (Rd.num (rdN S7 k).2).1))) rb g:=by
 refine⟨h.far hR G ⟨gb,k,none⟩ (by show gb≠c;omega) (by show gb≠rb;omega) (by show gb≠g;omega) _,?_,hG.far G hB _⟩
 have q:=(hN.grown G (by intro e;have:=Option.some.inj e;omega)).set k hk (clip (Rd.num (rdN S7 k).2).1:Nat)
 have e:(fun j=>if j=k then ((clip (Rd.num (rdN S7 k).2).1:Nat):Int) else (fun j=>if j<k then nq S7 j else 0) j)=fun j=>if j<k+1 then nq S7 j else 0:=by
  funext j
  by_cases h1:j=k
  · subst h1;rw[if_pos rfl,if_pos (by omega),rdN_sq];rfl
  · rw[if_neg h1]
    by_cases h2:j<k
    · rw[if_pos (by omega)];exact if_pos h2
    · rw[if_neg (by omega)];exact if_neg h2
 rw[e] at q
 exact q
theorem intInfo:(Tryz.prog.info? 3).map (fun i=>(i.zero,i.size,i.bytes))=some (some (.int .i64 0),1,8):=by kernel_rfl
def En.sUq (e:En) (x:Bool):En:={ e with uq:=x }
def En.sCls (e:En) (x:Int):En:={ e with cls:=x }
def En.sVol (e:En) (x:ByteArray):En:={ e with vol:=x }
def En.sOwn (e:En) (x:ByteArray):En:={ e with own:=x }
def En.sCE (e:En) (x y:Int):En:={ e with cr:=x,ex:=y }
def En.sAr (e:En) (x:Bool):En:={ e with ar:=x }
def En.sUsed (e:En) (x:Int):En:={ e with used:=x }
def rdData (e:En) (s:List UInt8 × Nat):En × List Int × (List UInt8 × Nat) :=
 let a:=sq s 14
 let u:=Rd.boo a
 let k:=Rd.num u.2
 let v:=Rd.txt 200 k.2
 let o:=Rd.txt 200 v.2
 let q:=sq o.2 2
 let ar:=Rd.boo q
 let n:=Rd.num ar.2
 let l:=rdN n.2 (cntv 4 (clip n.1))
 let us:=Rd.num l.2
 ((((((((setD e (nq s)).sUq u.1).sCls (clip k.1)).sVol ⟨v.1.toArray⟩).sOwn ⟨o.1.toArray⟩).sCE (nq o.2 0) (nq o.2 1)).sAr ar.1).sUsed (clip us.1),l.1,us.2)
end
end Go.Proofs.YtnojclchnhmggaaGreatDoor
