/- Catalogs. -/
import Derived.Test.YtefcmdmfgdcpmaaGreatDoorCoA
import Derived.Test.YtefcmdmfgdcpmaaGreatDoorSaC
set_option maxRecDepth 8000
set_option maxHeartbeats 1600000
namespace Go.Proofs.YtefcmdmfgdcpmaaGreatDoor
open Go.RowKit
theorem zfk(a b:Nat)(h1:a<9223372036854775808)(h2:b<9223372036854775808):(encs [a,b]).length<=18:=by
 have:=zdo [a,b] (fun n hn=>by
  rcases (by simpa using hn:n=a∨n=b) with rfl|rfl <;> assumption)
 simpa using this
theorem zhe{w:World}{o:Obj}{c:Nat}:w.grownBy (w.alloc o).drew (some c):=⟨rfl,rfl,rfl,by simp,fun _ hk _=>heap_alloc_old w _ hk⟩
theorem zoi(c g:Nat)(l:List UInt8)(e:En)(al gr:Value)(lim last:Nat)(w:World)(h:WS w c g l (e.vals al gr))(hlim:e.lim=lim)(hlast:e.last=last)(h1:lim<9223372036854775808)(h2:last<9223372036854775808)(ho:e.owner.size<=1000)(hs:l.length<=1000) :
  Calls Tryz.prog 76 #[.pointer (some ⟨c,0,none⟩),.pointer (some ⟨g,0,none⟩)] w fun r w'=>r=.returned (.tuple #[])∧WS w' c g (((l++encs [lim,last])++[tb e.em])++(Wi.enc e.owner.size++Ds.bl e.owner)) (e.vals al gr)∧w.grownBy w' (some c):=by
 have hN:NS (e.vals al gr) [25,26] [lim,last]:=⟨rfl,fun k h _=>by
  rcases (by simp at h;omega:k=0∨k=1) with rfl|rfl
  · simpa [hlim] using zbX e al gr
  · simpa [hlast] using zbK e al gr⟩
 have hb:=zfk lim last h1 h2
 have hc:Calls Tryz.prog 77 #[.pointer (some ⟨c,0,none⟩),.slice (some ⟨w.heap.size,0,none⟩) 2 2] ((w.alloc (.cells #[.pointer (some ⟨g,25,none⟩),.pointer (some ⟨g,26,none⟩)] 131)).drew) fun r w'=>r=.returned (.tuple #[])∧WS w' c g (l++encs [lim,last]) (e.vals al gr)∧((w.alloc (.cells #[.pointer (some ⟨g,25,none⟩),.pointer (some ⟨g,26,none⟩)] 131)).drew).grownBy w' (some c):=zeH c g w.heap.size 2 [25,26] [lim,last] l (e.vals al gr) _ (h.below (((Below.refl _ _).alloc (Nat.le_refl _) _).drew)) (PS.new w g [25,26] 131) (by have:=h.2.2.2;omega) hN (fun n hn=>by
  rcases (by simpa using hn:n=lim∨n=last) with rfl|rfl <;> assumption) (by decide) (by omega)
 have HC:=lh hc;have hb1:(l++encs [lim,last]).length<=10000:=by rw[List.length_append];omega
 have hb2:((l++encs [lim,last])++[tb e.em]).length<=10000:=by rw[List.length_append,List.length_append,List.length_singleton];omega
 clear hN hlim hlast h1 h2 hc hb h;go_enter Tryz.func76,Tryz.ntmps76
 go_wp2_with fail
 go_region_law (first|(go_simp;go_at_call 77;(with_reducible refine HC.out.mono ?_);rintro _ w1 ⟨rfl,hW1,hG1⟩))
 all_goals
  have HG1:=lh hG1;clear hG1;go_wp2_with (first|(go_at_call 78;(with_reducible refine (zhf c g 27 e.em _ _ _ hW1 hb1 (zbL e al gr)).mono ?_);rintro _ w2 ⟨rfl,hW2,hG2⟩;have HG2:=lh hG2;clear hG2)|(go_at_call 79;(with_reducible refine (zfQ c g 28 e.owner _ _ _ hW2 hb2 (by omega) (zbg e al gr)).mono ?_);rintro _ w3 ⟨rfl,hW3,hG3⟩;have HG3:=lh hG3;clear hG3))
  go_end0
  exact⟨rfl,hW3,(zhe.trans HG1.out).trans (HG2.out.trans HG3.out)⟩
theorem zed{w:World}{o:Obj}{a b:Nat}:G2 w (w.alloc o).drew a b:=⟨rfl,rfl,rfl,by simp,fun k hk _ _=>heap_alloc_old w _ hk⟩
def zcx(e:En)(s:List UInt8 × Nat):En × (List UInt8 × Nat) :=
 let a:=Rd.num s;let b:=Rd.num a.2;let x:=Rd.boo b.2;let t:=Rd.txt 200 x.2
 ({ e with lim:=clip a.1,last:=clip b.1,em:=x.1,owner:=⟨t.1.toArray⟩ },t.2)
theorem zjJ(c rb g:Nat)(s:List UInt8 × Nat)(e:En)(al gr:Value)(w:World)(h:RS w c rb g s (e.vals al gr))(hs:s.1.length<=1000) :
  Calls Tryz.prog 76 #[.pointer (some ⟨c,0,none⟩),.pointer (some ⟨g,0,none⟩)] w fun r w'=>r=.returned (.tuple #[])∧RS w' c rb g (zcx e s).2 ((zcx e s).1.vals al gr)∧G2 w w' rb g:=by
 have e1:zbY [25,26] s (e.vals al gr)=(({ e with lim:=clip (Rd.num s).1,last:=clip (Rd.num (Rd.num s).2).1 }:En).vals al gr,(Rd.num (Rd.num s).2).2):=by
  simp only[zbY]
  rw[zuQ,zuR]
 have hc:Calls Tryz.prog 77 #[.pointer (some ⟨c,0,none⟩),.slice (some ⟨w.heap.size,0,none⟩) 2 2] ((w.alloc (.cells #[.pointer (some ⟨g,25,none⟩),.pointer (some ⟨g,26,none⟩)] 131)).drew) fun r w'=>r=.returned (.tuple #[])∧RS w' c rb g (zbY [25,26] s (e.vals al gr)).2 (zbY [25,26] s (e.vals al gr)).1∧G2 ((w.alloc (.cells #[.pointer (some ⟨g,25,none⟩),.pointer (some ⟨g,26,none⟩)] 131)).drew) w' rb g:=zcQ c rb g w.heap.size 2 [25,26] s (e.vals al gr) _ (h.below (((Below.refl _ _).alloc (Nat.le_refl _) _).drew)) (PS.new w g [25,26] 131) (by have:=h.2.2.2.2.2.2.2;omega) (by have:=h.2.2.1.2.2;omega) (fun k hk=>by
  rw[zaa];rcases (by simp at hk;omega:k=0∨k=1) with rfl|rfl <;> simp) (by decide) (by omega)
 rw[e1] at hc;have l1:=Rd.num_len s;have l2:=Rd.num_len (Rd.num s).2;have l3:=Rd.boo_len (Rd.num (Rd.num s).2).2;have hb1:(Rd.num (Rd.num s).2).2.1.length<=10000:=by omega
 have hb2:(Rd.boo (Rd.num (Rd.num s).2).2).2.1.length<=10000:=by omega
 have HC:=lh hc;clear hc e1 h l1 l2 l3;unfold zcx;go_enter Tryz.func76,Tryz.ntmps76
 go_wp2_with fail
 go_region_law (first|(go_simp;go_at_call 77;(with_reducible refine HC.out.mono ?_);rintro _ w1 ⟨rfl,hW1,hG1⟩))
 all_goals
  have HG1:=lh hG1;clear hG1;go_wp2_with (first|(go_at_call 78;(with_reducible refine (zee c rb g 27 _ _ _ _ hW1 hb1 (zbL _ al gr)).mono ?_);rintro _ w2 ⟨rfl,hW2,hG2⟩;rw[zuS] at hW2;have HG2:=lh hG2;clear hG2)|(go_at_call 79;(with_reducible refine (zdL c rb g 28 _ _ _ _ hW2 hb2 (zbg _ al gr)).mono ?_);rintro _ w3 ⟨rfl,hW3,hG3⟩;rw[zqx] at hW3;have HG3:=lh hG3;clear hG3))
  go_end0
  exact⟨rfl,hW3,(zed.trans HG1.out).trans (HG2.out.trans HG3.out)⟩
def form0:Value:=.agg #[.int .u8 68,.func (.func 34) #[] #[],.func (.func 73) #[] #[],.func (.func 74) #[] #[]]
def form1:Value:=.agg #[.int .u8 71,.func (.func 75) #[] #[],.func (.func 76) #[] #[],.func (.func 80) #[] #[]]
def form2:Value:=.agg #[.int .u8 65,.func (.func 83) #[] #[],.func (.func 85) #[] #[],.func (.func 86) #[] #[]]
def form3:Value:=.agg #[.int .u8 67,.func (.func 87) #[] #[],.func (.func 89) #[] #[],.func (.func 91) #[] #[]]
def form4:Value:=.agg #[.int .u8 80,.func (.func 17) #[] #[],.func (.func 92) #[] #[],.func (.func 93) #[] #[]]
def fe0:Array MapEntry:=#[]
def fe1:Array MapEntry:=#[⟨.int .i64 0,form0,0⟩]
def fe2:Array MapEntry:=#[⟨.int .i64 0,form0,0⟩,⟨.int .i64 1,form1,1⟩]
def fe3:Array MapEntry:=#[⟨.int .i64 0,form0,0⟩,⟨.int .i64 1,form1,1⟩,⟨.int .i64 2,form2,2⟩]
def fe4:Array MapEntry:=#[⟨.int .i64 0,form0,0⟩,⟨.int .i64 1,form1,1⟩,⟨.int .i64 2,form2,2⟩,⟨.int .i64 3,form3,3⟩]
def fe5:Array MapEntry:=#[⟨.int .i64 0,form0,0⟩,⟨.int .i64 1,form1,1⟩,⟨.int .i64 2,form2,2⟩,⟨.int .i64 3,form3,3⟩,⟨.int .i64 4,form4,4⟩]
theorem zfF(w:World)(es:Array MapEntry)(c:Nat)(k:Int)(v:Value)(h:Instr.findNow (.int .i64) (.int .i64 k) es.toList 0=some none) :
  (Instr.mapUpdate 76 (.map (some w.heap.size)) (.int .i64 k) v).run Tryz.prog (w.alloc (.map es c))=.ok () (w.alloc (.map (es.push ⟨.int .i64 k,v,c⟩) (c+1))):=by
 have hb:(w.alloc (.map es c)).heap[w.heap.size]?=some (.map es c):=heap_alloc_new w _;have hck:=MapKept.run_checkKey (P:=Tryz.prog) (w:=w.alloc (.map es c)) (k:=.int .i64 k) Tryz.underlying3 rfl false 9999;have hfk:=MapKept.run_findKey (P:=Tryz.prog) (w:=w.alloc (.map es c)) (kt:=3) (k:=.int .i64 k) Tryz.underlying3 h;simp [Instr.mapUpdate,run_underlying Tryz.underlying76,MapKept.run_getObj_map hb,hck,hfk,MapKept.run_setObj_map _ hb,Result.andThen]
 simp only[World.alloc]
 congr 1
 apply Array.ext_getElem?
 intro i;simp only[Array.getElem?_setIfInBounds,Array.getElem?_push,Array.size_push]
 by_cases e:w.heap.size=i
 · subst e;simp
 · rw[if_neg e,if_neg (fun h=>e h.symm),if_neg (fun h=>e h.symm)]
theorem ins0(w:World):(Instr.mapUpdate 76 (.map (some w.heap.size)) (.int .i64 0) form0).run Tryz.prog (w.alloc (.map fe0 0))=.ok () (w.alloc (.map fe1 1)):=zfF w fe0 0 0 form0 rfl
theorem ins1(w:World):(Instr.mapUpdate 76 (.map (some w.heap.size)) (.int .i64 1) form1).run Tryz.prog (w.alloc (.map fe1 1))=.ok () (w.alloc (.map fe2 2)):=zfF w fe1 1 1 form1 rfl
theorem ins2(w:World):(Instr.mapUpdate 76 (.map (some w.heap.size)) (.int .i64 2) form2).run Tryz.prog (w.alloc (.map fe2 2))=.ok () (w.alloc (.map fe3 3)):=zfF w fe2 2 2 form2 rfl
theorem ins3(w:World):(Instr.mapUpdate 76 (.map (some w.heap.size)) (.int .i64 3) form3).run Tryz.prog (w.alloc (.map fe3 3))=.ok () (w.alloc (.map fe4 4)):=zfF w fe3 3 3 form3 rfl
theorem ins4(w:World):(Instr.mapUpdate 76 (.map (some w.heap.size)) (.int .i64 4) form4).run Tryz.prog (w.alloc (.map fe4 4))=.ok () (w.alloc (.map fe5 5)):=zfF w fe4 4 4 form4 rfl
theorem zco(w:World) :
  Calls Tryz.prog 29 #[] w fun r w'=>r=.returned (.map (some w.heap.size))∧w'=w.alloc (.map fe5 5):=by
 have hm:=run_makeMap (P:=Tryz.prog) 76 w;have i0:=ins0 w;have i1:=ins1 w;have i2:=ins2 w;have i3:=ins3 w;have i4:=ins4 w;unfold fe1 fe0 form0 at i0;unfold fe2 fe1 form0 form1 at i1;unfold fe3 fe2 form0 form1 form2 at i2;unfold fe4 fe3 form0 form1 form2 form3 at i3;unfold fe4 form0 form1 form2 form3 form4 at i4;go_enter Tryz.func29,Tryz.ntmps29
 go_wp2_with fail
 go_ret
 exact⟨rfl,rfl⟩
theorem zoE(w:World)(m:Nat)(k:Int)(v:Value)(i:Nat)(hb:w.heap[m]?=some (.map fe5 5))(h:Instr.findNow (.int .i64) (.int .i64 k) fe5.toList 0=some (some (i,v))) :
  (Instr.lookup 76 (.map (some m)) (.int .i64 k) true).run Tryz.prog w=.ok (.tuple #[v,.bool true]) w:=by
 have hck:=fun b=>MapKept.run_checkKey (P:=Tryz.prog) (w:=w) (k:=.int .i64 k) Tryz.underlying3 rfl b 9999
 have hfk:=MapKept.run_findKey (P:=Tryz.prog) (w:=w) (kt:=3) (k:=.int .i64 k) Tryz.underlying3 h;simp [Instr.lookup,run_underlying Tryz.underlying76,MapKept.run_getObj_map hb,hck,hfk,Result.andThen]
theorem zmz(w:World)(m:Nat)(k:Int)(z:Value)(hb:w.heap[m]?=some (.map fe5 5))(h:Instr.findNow (.int .i64) (.int .i64 k) fe5.toList 0=some none)(hz:∀ w,(zeroValue 81).run Tryz.prog w=.ok z w) :
  (Instr.lookup 76 (.map (some m)) (.int .i64 k) true).run Tryz.prog w=.ok (.tuple #[z,.bool false]) w:=by
 have hck:=fun b=>MapKept.run_checkKey (P:=Tryz.prog) (w:=w) (k:=.int .i64 k) Tryz.underlying3 rfl b 9999
 have hfk:=MapKept.run_findKey (P:=Tryz.prog) (w:=w) (kt:=3) (k:=.int .i64 k) Tryz.underlying3 h;simp [Instr.lookup,run_underlying Tryz.underlying76,MapKept.run_getObj_map hb,hck,hfk,Result.andThen,hz]
theorem zhF(w:World):(zeroValue 81).run Tryz.prog w=.ok (.agg #[.int .u8 0,.nilFunc,.nilFunc,.nilFunc]) w:=by kernel_rfl
theorem zoh(c g:Nat)(l:List UInt8)(e:En)(al gr:Value)(w:World)(h:WS w c g l (e.vals al gr))(ht:e.target.size<=1000)(hs:l.length<=1000) :
  Calls Tryz.prog 85 #[.pointer (some ⟨c,0,none⟩),.pointer (some ⟨g,0,none⟩)] w fun r w'=>r=.returned (.tuple #[])∧WS w' c g (l++(Wi.enc e.target.size++Ds.bl e.target)) (e.vals al gr)∧w.grownBy w' (some c):=by
 have hc:=zfQ c g 29 e.target l _ w h (by omega) (by omega) (zbb e al gr);have HC:=lh hc;clear hc h;go_enter Tryz.func85,Tryz.ntmps85
 go_wp2_with (go_at_call 79;(with_reducible refine HC.out.mono ?_);rintro _ w1 ⟨rfl,hW1,hG1⟩;have HG1:=lh hG1;have HW1:=lh hW1;clear hG1 hW1)
 go_end0
 exact⟨rfl,HW1.out,HG1.out⟩
def zc1(e:En)(s:List UInt8 × Nat):En × (List UInt8 × Nat):=({ e with target:=⟨(Rd.txt 200 s).1.toArray⟩ },(Rd.txt 200 s).2)
theorem zjI(c rb g:Nat)(s:List UInt8 × Nat)(e:En)(al gr:Value)(w:World)(h:RS w c rb g s (e.vals al gr))(hs:s.1.length<=1000) :
  Calls Tryz.prog 85 #[.pointer (some ⟨c,0,none⟩),.pointer (some ⟨g,0,none⟩)] w fun r w'=>r=.returned (.tuple #[])∧RS w' c rb g (zc1 e s).2 ((zc1 e s).1.vals al gr)∧G2 w w' rb g:=by
 have hc:=zdL c rb g 29 _ s _ w h (by omega) (zbb e al gr);rw[zuT] at hc;have HC:=lh hc;clear hc h;unfold zc1;go_enter Tryz.func85,Tryz.ntmps85
 go_wp2_with (go_at_call 79;(with_reducible refine HC.out.mono ?_);rintro _ w1 ⟨rfl,hW1,hG1⟩;have HG1:=lh hG1;have HW1:=lh hW1;clear hG1 hW1)
 go_end0
 exact⟨rfl,HW1.out,HG1.out⟩
theorem ztV(c g:Nat)(l:List UInt8)(e:En)(al gr:Value)(k:Nat)(w:World)(h:WS w c g l (e.vals al gr))(hk:e.cat=k)(hk2:k<9223372036854775808)(hs:l.length<=1000) :
  Calls Tryz.prog 89 #[.pointer (some ⟨c,0,none⟩),.pointer (some ⟨g,0,none⟩)] w fun r w'=>r=.returned (.tuple #[])∧WS w' c g (l++Wi.enc k) (e.vals al gr)∧w.grownBy w' (some c):=by
 have hv:=zbM e al gr;rw[hk] at hv;have hc:=zdm c g 30 k l _ w h (by omega) hk2 hv;have HC:=lh hc;clear hc h hk hk2;go_enter Tryz.func89,Tryz.ntmps89
 go_wp2_with (go_at_call 90;(with_reducible refine HC.out.mono ?_);rintro _ w1 ⟨rfl,hW1,hG1⟩;have HG1:=lh hG1;have HW1:=lh hW1;clear hG1 hW1)
 go_end0
 exact⟨rfl,HW1.out,HG1.out⟩
def zgY(e:En)(s:List UInt8 × Nat):En × (List UInt8 × Nat):=({ e with cat:=clip (Rd.num s).1 },(Rd.num s).2)
theorem zpY(c rb g:Nat)(s:List UInt8 × Nat)(e:En)(al gr:Value)(w:World)(h:RS w c rb g s (e.vals al gr))(hs:s.1.length<=1000) :
  Calls Tryz.prog 89 #[.pointer (some ⟨c,0,none⟩),.pointer (some ⟨g,0,none⟩)] w fun r w'=>r=.returned (.tuple #[])∧RS w' c rb g (zgY e s).2 ((zgY e s).1.vals al gr)∧G2 w w' rb g:=by
 have hc:=zcy c rb g 30 _ s _ w h (by omega) (zbM e al gr);rw[zuU] at hc;have HC:=lh hc;clear hc h;unfold zgY;go_enter Tryz.func89,Tryz.ntmps89
 go_wp2_with (go_at_call 90;(with_reducible refine HC.out.mono ?_);rintro _ w1 ⟨rfl,hW1,hG1⟩;have HG1:=lh hG1;have HW1:=lh hW1;clear hG1 hW1)
 go_end0
 exact⟨rfl,HW1.out,HG1.out⟩
theorem zkp(c g n:Nat)(most:Int)(l:List UInt8)(cs:Array Value)(w:World)(h:WS w c g l cs)(hs:l.length<=10000)(hn:n<1000000)(hm:(n:Int)<=most) :
  Calls Tryz.prog 142 #[.pointer (some ⟨c,0,none⟩),.int .i64 n,.int .i64 most] w fun r w'=>r=.returned (.int .i64 n)∧WS w' c g (l++Wi.enc n) cs∧w.grownBy w' (some c):=by
 have hW:=h.below (((Below.refl w.heap.size w).alloc (Nat.le_refl _) (.cells #[.int .i64 n] 3)));have hc:=zdU c ⟨w.heap.size,0,none⟩ n l (w.alloc (.cells #[.int .i64 n] 3)) hs (by omega) hW.1 (by simp [go_sem]) hW.2.2.2;have hcw:w.heap.size≠c:=by have:=h.2.2.2;omega
 have HC:=lh hc;have HW:=lh hW;have d1:decide ((n:Int)<0)=false:=by rw[decide_eq_false_iff_not];omega
 have d2:decide (most<(n:Int))=false:=by rw[decide_eq_false_iff_not];omega
 have cell:∀ w1,(w.alloc (.cells #[.int .i64 n] 3)).grownBy w1 (some c)->w1.cell? ⟨w.heap.size,0,none⟩=some (.int .i64 n):=fun w1 G=>by
  rw[World.cell?_of_block (a:=⟨w.heap.size,0,none⟩) (G.block _ (by simp) (by intro e;exact hcw (Option.some.inj e)))];simp [go_sem]
 have HCe:=lh cell;clear hc hW cell h;go_enter Tryz.func142,Tryz.ntmps142
 go_wp2_with (go_at_call 90;(with_reducible refine HC.out.mono ?_);rintro _ w1 ⟨rfl,hL,hG⟩;have c0:=HCe.out w1 hG;have HG:=lh hG;have HL:=lh hL;clear hG hL)
 go_ret
 exact⟨rfl,HW.out.grown HG.out HL.out,(World.grownBy_alloc w _ (some c)).trans HG.out⟩
theorem RS.far{wa w1:World}{c rb g:Nat}{s s':List UInt8 × Nat}{cs:Array Value}(h:RS wa c rb g s cs)(hR:RL w1 rb s')(G:wa.grownBy w1 (some rb))(p:Addr)(h1:p.block≠c)(h2:p.block≠rb)(h3:p.block≠g)(v:Value):RS (w1.setCell p v) c rb g s' cs:=by
 obtain⟨a1,a2,a3,a4,a5,a6,a7,a8⟩:=h;have kk:∀ k,k<wa.heap.size->k≠rb->k≠p.block->(w1.setCell p v).heap[k]?=wa.heap[k]?:=fun k hk hr hp=>(heap_setCell_other w1 p k v hp).trans (G.block k hk (by intro e;exact hr (Option.some.inj e)))
 exact⟨(World.cell?_of_block (a:=⟨c,1,none⟩) (kk c a7 a4 (fun e=>h1 e.symm))).trans a1,hR.set p h2 v,a3.of_block (kk g a3.2.2 (fun e=>a6 e.symm) (fun e=>h3 e.symm)) (by have:=G.size;simpa using this),a4,a5,a6,by have:=G.size;simp;omega,by have:=G.size;simp;omega⟩
theorem zpZ{w w1:World}{o:Obj}{rb g:Nat}{p:Addr}(G:(w.alloc o).grownBy w1 (some rb))(hp:p.block=w.heap.size)(v:Value):G2 w (w1.setCell p v) rb g :=
 ⟨by rw[show (w1.setCell p v).os=w1.os from (zaH w1 p v).os,G.os];rfl,by rw[show (w1.setCell p v).tape=w1.tape from (zaH w1 p v).tape,G.tape];rfl,by rw[show (w1.setCell p v).output=w1.output from (zaH w1 p v).output,G.output];rfl,by have:=G.size;simp at this ⊢;omega,fun k hk hr _=>(heap_setCell_other w1 p k v (by omega)).trans ((G.block k (by simp;omega) (by intro e;exact hr (Option.some.inj e))).trans (heap_alloc_old w o hk))⟩
def cntv(most x:Nat):Nat:=if most<x then most+1 else x
theorem zg9(c rb g most:Nat)(n:Int)(s:List UInt8 × Nat)(cs:Array Value)(w:World)(h:RS w c rb g s cs)(hs:s.1.length<=10000)(hm2:most<=1000) :
  Calls Tryz.prog 142 #[.pointer (some ⟨c,0,none⟩),.int .i64 n,.int .i64 most] w fun r w'=>r=.returned (.int .i64 (cntv most (clip (Rd.num s).1)))∧RS w' c rb g (Rd.num s).2 cs∧G2 w w' rb g:=by
 have hW:=h.below (((Below.refl w.heap.size w).alloc (Nat.le_refl _) (.cells #[.int .i64 n] 3)));have hc:=zdS c rb ⟨w.heap.size,0,none⟩ (.int .i64 n) s (w.alloc (.cells #[.int .i64 n] 3)) hs hW.1 hW.2.1 hW.2.2.2.2.2.2.2 (by simp [go_sem]) (by simp) (by simp) (by have:=h.2.2.2.2.2.2.2;show w.heap.size≠rb;omega);have hx:=zrd (Rd.num s).1;obtain⟨hzc,hzr⟩:=h.2.2.2.2.2.2;have hg:=h.2.2.1.2.2;have HW:=lh hW;have HC:=lh hc;have hn:=Rd.num s;generalize hX:clip (Rd.num s).1=x at hc hx HC ⊢;generalize (Rd.num s).2=s' at HC ⊢
 have cell:∀ w1,(w.alloc (.cells #[.int .i64 n] 3)).grownBy w1 (some rb)->w1.cell? ⟨w.heap.size,0,none⟩=some (.int .i64 n):=fun w1 G=>by
  rw[World.cell?_of_block (a:=⟨w.heap.size,0,none⟩) (G.block _ (by simp) (by intro e;have e:=Option.some.inj e;simp only at e;omega))];simp [go_sem]
 have HCe:=lh cell;unfold cntv;clear hc hW cell h hX hn;by_cases hlt:most<x
 · rw[if_pos hlt];have d1:decide ((x:Int)<0)=false:=by rw[decide_eq_false_iff_not];omega
   have d2:decide ((most:Int)<(x:Int))=true:=by rw[decide_eq_true_eq];omega
   have d3:decide (most<x)=true:=decide_eq_true hlt;go_enter Tryz.func142,Tryz.ntmps142
   go_wp2_with (go_at_call 90;(with_reducible refine HC.out.mono ?_);rintro _ w2 ⟨rfl,w1,hR,hG,rfl⟩;have c0:=HCe.out w1 hG;have HG:=lh hG;have HR:=lh hR;clear hG hR)
   go_ret
   exact⟨rfl,HW.out.far HR.out HG.out ⟨w.heap.size,0,none⟩ (by show w.heap.size≠c;omega) (by show w.heap.size≠rb;omega) (by show w.heap.size≠g;omega) _,zpZ HG.out rfl _⟩
 · rw[if_neg hlt];have d1:decide ((x:Int)<0)=false:=by rw[decide_eq_false_iff_not];omega
   have d2:decide ((most:Int)<(x:Int))=false:=by rw[decide_eq_false_iff_not];omega
   have d3:decide (most<x)=false:=decide_eq_false hlt;go_enter Tryz.func142,Tryz.ntmps142
   go_wp2_with (go_at_call 90;(with_reducible refine HC.out.mono ?_);rintro _ w2 ⟨rfl,w1,hR,hG,rfl⟩;have c0:=HCe.out w1 hG;have HG:=lh hG;have HR:=lh hR;clear hG hR)
   go_ret
   exact⟨rfl,HW.out.far HR.out HG.out ⟨w.heap.size,0,none⟩ (by show w.heap.size≠c;omega) (by show w.heap.size≠rb;omega) (by show w.heap.size≠g;omega) _,zpZ HG.out rfl _⟩
def zfU(e:En):List Int:=[e.d0,e.d1,e.d2,e.d3,e.d4,e.d5,e.d6,e.d7,e.d8,e.d9,e.d10,e.d11,e.d12,e.d13]
def os14:List Nat:=[2,3,4,5,6,7,8,9,10,11,12,13,14,15]
theorem zoP(e:En)(al gr:Value):∀ k,k<14->(e.vals al gr)[os14.getD k 0]?=some (.int .i64 ((zfU e).getD k 0)):=by
 intro k hk;rcases (by omega:k=0∨k=1∨k=2∨k=3∨k=4∨k=5∨k=6∨k=7∨k=8∨k=9∨k=10∨k=11∨k=12∨k=13) with rfl|rfl|rfl|rfl|rfl|rfl|rfl|rfl|rfl|rfl|rfl|rfl|rfl|rfl
 · exact zek e al gr
 · exact zva e al gr
 · exact zvb e al gr
 · exact zvc e al gr
 · exact zvd e al gr
 · exact zve e al gr
 · exact zvf e al gr
 · exact zvg e al gr
 · exact zte e al gr
 · exact ztf e al gr
 · exact ztg e al gr
 · exact zth e al gr
 · exact zti e al gr
 · exact ztj e al gr
theorem zsm(e:En)(al gr:Value)(h:∀ x∈zfU e,0<=x):NS (e.vals al gr) os14 ((zfU e).map Int.toNat):=by
 refine⟨rfl,fun k h1 h2=>?_⟩
 have hk:k<14:=h1;have hk2:k<(zfU e).length:=hk;have:=zoP e al gr k hk;rw[List.getD_eq_getElem?_getD,List.getElem?_eq_getElem h1,List.getD_eq_getElem?_getD,List.getElem?_eq_getElem hk2] at this;simp only[Option.getD_some] at this
 rw[this,List.getElem_map,Int.toNat_of_nonneg (h _ (List.getElem_mem _))]
def zhm(e:En)(l2:List Int)(k1 k2 k3 k4:Nat):List UInt8:=encs ((zfU e).map Int.toNat)++([tb e.uq]++(Wi.enc k1++((Wi.enc e.vol.size++Ds.bl e.vol)++((Wi.enc e.own.size++Ds.bl e.own)++(encs [k2,k3]++([tb e.ar]++(Wi.enc l2.length++(encs (l2.map Int.toNat)++Wi.enc k4))))))))
theorem zrD(c g:Nat)(l:List UInt8)(e:En)(al gr:Value)(l2:List Int)(wB w:World)(hI:IS wB al l2)(hB:Below wB.heap.size wB w)(hcB:wB.heap.size<=c)(h:WS w c g l (e.vals al gr))(hd:∀ x∈zfU e,0<=x∧x<9223372036854775808)(k1 k2 k3 k4:Nat)(h1:e.cls=k1)(h2:e.cr=k2)(h3:e.ex=k3)(h4:e.used=k4)(hk:k1<9223372036854775808∧k2<9223372036854775808∧k3<9223372036854775808∧k4<9223372036854775808)(hv:e.vol.size<=1000)(ho:e.own.size<=1000)(hl2:l2.length<=4)(hp2:∀ x∈l2,0<=x∧x<9223372036854775808)(hs:l.length<=1000) :
  Calls Tryz.prog 73 #[.pointer (some ⟨c,0,none⟩),.pointer (some ⟨g,0,none⟩)] w fun r w'=>r=.returned (.tuple #[])∧WS w' c g (l++zhm e l2 k1 k2 k3 k4) (e.vals al gr)∧w.grownBy w' (some c):=by
 have hN:=zsm e al gr (fun x hx=>(hd x hx).1)
 have hnn:∀ n∈(zfU e).map Int.toNat,n<9223372036854775808:=fun n hn=>by
  obtain⟨x,hx,rfl⟩:=List.mem_map.1 hn;have:=hd x hx;omega
 have hn2:∀ n∈l2.map Int.toNat,n<9223372036854775808:=fun n hn=>by
  obtain⟨x,hx,rfl⟩:=List.mem_map.1 hn;have:=hp2 x hx;omega
 have z0:=zdo _ hnn;have z1:=za5 k1 hk.1;have z2:=za5 e.vol.size (by omega);have z3:=za5 e.own.size (by omega);have z4:=zfk k2 k3 hk.2.1 hk.2.2.1;have z5:=za5 l2.length (by omega);have z6:=zdo _ hn2;rw[List.length_map] at z0 z6;have z7:(zfU e).length=14:=rfl;rw[z7] at z0;have v17:=zjc e al gr;rw[h1] at v17;have v20:=ztk e al gr;rw[h2] at v20;have v21:=ztl e al gr;rw[h3] at v21;have v24:=zbW e al gr;rw[h4] at v24;obtain⟨S0,e0⟩:∃ S,S=l++encs ((zfU e).map Int.toNat):=⟨_,rfl⟩;obtain⟨S1,e1⟩:∃ S,S=S0++[tb e.uq]:=⟨_,rfl⟩;obtain⟨S2,e2⟩:∃ S,S=S1++Wi.enc k1:=⟨_,rfl⟩;obtain⟨S3,e3⟩:∃ S,S=S2++(Wi.enc e.vol.size++Ds.bl e.vol):=⟨_,rfl⟩;obtain⟨S4,e4⟩:∃ S,S=S3++(Wi.enc e.own.size++Ds.bl e.own):=⟨_,rfl⟩;obtain⟨S5,e5⟩:∃ S,S=S4++encs [k2,k3]:=⟨_,rfl⟩;obtain⟨S6,e6⟩:∃ S,S=S5++[tb e.ar]:=⟨_,rfl⟩;obtain⟨S7,e7⟩:∃ S,S=S6++Wi.enc l2.length:=⟨_,rfl⟩;obtain⟨S8,e8⟩:∃ S,S=S7++encs (l2.map Int.toNat):=⟨_,rfl⟩;have b0:S0.length<=1126:=by rw[e0,List.length_append];omega
 have b1:S1.length<=1127:=by rw[e1,List.length_append,List.length_singleton];omega
 have b2:S2.length<=1136:=by rw[e2,List.length_append];omega
 have b3:S3.length<=2145:=by rw[e3,List.length_append,List.length_append,Ds.bl_length];omega
 have b4:S4.length<=3154:=by rw[e4,List.length_append,List.length_append,Ds.bl_length];omega
 have b5:S5.length<=3172:=by rw[e5,List.length_append];omega
 have b6:S6.length<=3173:=by rw[e6,List.length_append,List.length_singleton];omega
 have b7:S7.length<=3182:=by rw[e7,List.length_append];omega
 have b8:S8.length<=3218:=by rw[e8,List.length_append];omega
 have efin:l++zhm e l2 k1 k2 k3 k4=S8++Wi.enc k4:=by
  rw[e8,e7,e6,e5,e4,e3,e2,e1,e0];unfold zhm;simp only[List.append_assoc]
 have hc:Calls Tryz.prog 77 #[.pointer (some ⟨c,0,none⟩),.slice (some ⟨w.heap.size,0,none⟩) 14 14] ((w.alloc (.cells #[.pointer (some ⟨g,2,none⟩),.pointer (some ⟨g,3,none⟩),.pointer (some ⟨g,4,none⟩),.pointer (some ⟨g,5,none⟩),.pointer (some ⟨g,6,none⟩),.pointer (some ⟨g,7,none⟩),.pointer (some ⟨g,8,none⟩),.pointer (some ⟨g,9,none⟩),.pointer (some ⟨g,10,none⟩),.pointer (some ⟨g,11,none⟩),.pointer (some ⟨g,12,none⟩),.pointer (some ⟨g,13,none⟩),.pointer (some ⟨g,14,none⟩),.pointer (some ⟨g,15,none⟩)] 131)).drew) fun r w'=>r=.returned (.tuple #[])∧WS w' c g (l++encs ((zfU e).map Int.toNat)) (e.vals al gr)∧((w.alloc (.cells #[.pointer (some ⟨g,2,none⟩),.pointer (some ⟨g,3,none⟩),.pointer (some ⟨g,4,none⟩),.pointer (some ⟨g,5,none⟩),.pointer (some ⟨g,6,none⟩),.pointer (some ⟨g,7,none⟩),.pointer (some ⟨g,8,none⟩),.pointer (some ⟨g,9,none⟩),.pointer (some ⟨g,10,none⟩),.pointer (some ⟨g,11,none⟩),.pointer (some ⟨g,12,none⟩),.pointer (some ⟨g,13,none⟩),.pointer (some ⟨g,14,none⟩),.pointer (some ⟨g,15,none⟩)] 131)).drew).grownBy w' (some c):=zeH c g w.heap.size 14 os14 _ l (e.vals al gr) _ (h.below (((Below.refl _ _).alloc (Nat.le_refl _) _).drew)) (PS.new w g os14 131) (by have:=h.2.2.2;omega) hN hnn (by decide) (by omega)
 rw[<-e0] at hc;have c1:=fun W (hW:WS W c g S0 (e.vals al gr))=>zhf c g 16 e.uq S0 _ W hW (by omega) (zjb e al gr)
 rw[<-e1] at c1;have c2:=fun W (hW:WS W c g S1 (e.vals al gr))=>zdm c g 17 k1 S1 _ W hW (by omega) hk.1 v17
 rw[<-e2] at c2;have c3:=fun W (hW:WS W c g S2 (e.vals al gr))=>zfQ c g 18 e.vol S2 _ W hW (by omega) (by omega) (zjd e al gr)
 rw[<-e3] at c3;have c4:=fun W (hW:WS W c g S3 (e.vals al gr))=>zfQ c g 19 e.own S3 _ W hW (by omega) (by omega) (zje e al gr)
 rw[<-e4] at c4
 have hN2:NS (e.vals al gr) [20,21] [k2,k3]:=⟨rfl,fun k h _=>by
  rcases (by simp at h;omega:k=0∨k=1) with rfl|rfl
  · exact v20
  · exact v21⟩
 have c5:∀ W,WS W c g S4 (e.vals al gr)->Calls Tryz.prog 77 #[.pointer (some ⟨c,0,none⟩),.slice (some ⟨W.heap.size,0,none⟩) 2 2] ((W.alloc (.cells #[.pointer (some ⟨g,20,none⟩),.pointer (some ⟨g,21,none⟩)] 131)).drew) fun r w'=>r=.returned (.tuple #[])∧WS w' c g S5 (e.vals al gr)∧((W.alloc (.cells #[.pointer (some ⟨g,20,none⟩),.pointer (some ⟨g,21,none⟩)] 131)).drew).grownBy w' (some c):=fun W hW=>by
  rw[e5]
  exact zeH c g W.heap.size 2 [20,21] [k2,k3] S4 (e.vals al gr) _ (hW.below (((Below.refl _ _).alloc (Nat.le_refl _) _).drew)) (PS.new W g [20,21] 131) (by have:=hW.2.2.2;omega) hN2 (fun n hn=>by
   rcases (by simpa using hn:n=k2∨n=k3) with rfl|rfl
   · exact hk.2.1
   · exact hk.2.2.1) (by decide) (by omega)
 have c6:=fun W (hW:WS W c g S5 (e.vals al gr))=>zhf c g 22 e.ar S5 _ W hW (by omega) (zjf e al gr)
 rw[<-e6] at c6;have c7:=fun W (hW:WS W c g S6 (e.vals al gr))=>zkp c g l2.length 4 S6 _ W hW (by omega) (by omega) (by omega)
 rw[<-e7] at c7;have c9:=fun W (hW:WS W c g S8 (e.vals al gr))=>zdm c g 24 k4 S8 _ W hW (by omega) hk.2.2.2 v24
 obtain⟨aa,ac,rfl,hlz,hcells⟩:=id hI;have v23:=zbk e (.slice aa l2.length ac) gr;have HC0:=lh hc;have C1:=lh c1;have C2:=lh c2;have C3:=lh c3;have C4:=lh c4;have C5:=lh c5;have C6:=lh c6;have C7:=lh c7;have C9:=lh c9;have HCl:=lh hcells;have HP2:=lh hp2;have hBs:=hB.size;have HB:=lh hB;have HF:=lh efin;have E8:=lh e8;have HN2:=lh hn2;have V23:=lh v23;clear hN hnn hn2 hN2 hc c1 c2 c3 c4 c5 c6 c7 c9 e0 e1 e2 e3 e4 e5 e6 e7 e8 efin h hI hB h1 h2 h3 h4 hd hp2 z0 z1 z2 z3 z4 z5 z6 z7 v17 v20 v21 v24 v23 hcells b0 b1 b2 b3 b4 b5 b6 b8 hk;go_enter Tryz.func73,Tryz.ntmps73
 go_wp2_with fail
 go_region_law (first|(go_simp;go_at_call 77;(with_reducible refine HC0.out.mono ?_);rintro _ w1 ⟨rfl,hW1,hG1⟩))
 all_goals
  have HG1:=lh (zhe.trans hG1);clear hG1
  go_wp2_with (first
   | (go_at_call 78;(with_reducible refine (C1.out _ hW1).mono ?_);rintro _ w2 ⟨rfl,hW2,hG2⟩;have HG2:=lh (HG1.out.trans hG2);clear hG2)
   | (go_at_call 90;(with_reducible refine (C2.out _ hW2).mono ?_);rintro _ w3 ⟨rfl,hW3,hG3⟩;have HG3:=lh (HG2.out.trans hG3);clear hG3)
   | (go_at_call 79;(with_reducible refine (C3.out _ hW3).mono ?_);rintro _ w4 ⟨rfl,hW4,hG4⟩;have HG4:=lh (HG3.out.trans hG4);clear hG4)
   | (go_at_call 79;(with_reducible refine (C4.out _ hW4).mono ?_);rintro _ w5 ⟨rfl,hW5,hG5⟩;have HG5:=lh (HG4.out.trans hG5);clear hG5))
  go_region_law (first|(go_simp;go_at_call 77;(with_reducible refine (C5.out _ hW5).mono ?_);rintro _ w6 ⟨rfl,hW6,hG6⟩))
  all_goals
   have HG6:=lh (HG5.out.trans (zhe.trans hG6));clear hG6;have v23:=hW6.2.1.cell 23 _ V23.out
   go_wp2_with (first
    | (go_at_call 78;(with_reducible refine (C6.out _ hW6).mono ?_);rintro _ w7 ⟨rfl,hW7,hG7⟩;have v23:=hW7.2.1.cell 23 _ V23.out;have HG7:=lh (HG6.out.trans hG7);clear hG7)
    | (go_at_call 142;(with_reducible refine (C7.out _ hW7).mono ?_);rintro _ w8 ⟨rfl,hW8,hG8⟩;have v23:=hW8.2.1.cell 23 _ V23.out;obtain⟨_,_,hcw⟩:=id hW8.1;have k1:=hcw.2.1;have HG8:=lh (HG7.out.trans hG8);clear hG8 hcw))
   go_loopw [115] (fun i wr=>∃ k:Nat,k<=l2.length∧i=.int .i64 k∧WS wr c g (S7++encs ((l2.map Int.toNat).take k)) (e.vals (.slice aa l2.length ac) gr)∧w.grownBy wr (some c)) (fun i _=>l2.length - (intOf i).toNat)
   case atStart=>exact⟨0,Nat.zero_le _,rfl,by simpa [encs] using hW8,HG8.out⟩
   case round =>
    obtain⟨k,hk,rfl,hWr,hGr⟩:=hrel;have HGr:=lh hGr;have v23:=hWr.2.1.cell 23 _ V23.out;have hBr:Below wB.heap.size wB wr:=HB.out.grown hGr hBs (fun x hx=>by cases hx;exact hcB);clear hGr;by_cases hlt:k<l2.length
    · obtain⟨ab,ao,rfl,hab,hcl⟩:=HCl.out (by omega);have hpk:=HP2.out l2[k] (List.getElem_mem hlt)
      have cA:wr.cell? ⟨ab,ao+k,none⟩=some (.int .i64 (l2[k].toNat:Int)):=by
       rw[hBr.cell (p:=⟨ab,ao+k,none⟩) hab,hcl k hlt,Int.toNat_of_nonneg hpk.1]
      have hlen:(S7++encs ((l2.map Int.toNat).take k)).length<=10000:=by
       have:=zdo ((l2.map Int.toNat).take k) (fun n hn=>HN2.out n (List.mem_of_mem_take hn));rw[List.length_take] at this;rw[List.length_append];omega
      have hc:=zdU c ⟨ab,ao+k,none⟩ l2[k].toNat _ wr hlen (by omega) hWr.1 cA hWr.2.2.2;have HC:=lh hc;have HW:=lh hWr;clear hc hcl cA hlen hWr hpk;go_wp2_with (go_at_call 90;(with_reducible refine HC.out.mono ?_);rintro _ w9 ⟨rfl,hL9,hG9⟩;have hW9:=lh (HW.out.grown hG9 hL9);have HG9:=lh (HGr.out.trans hG9);clear hG9 hL9)
      go_roundw
      case rel =>
       refine⟨k+1,by omega,by go_num,?_,HG9.out⟩
       have hk2:k<(l2.map Int.toNat).length:=by rw[List.length_map];exact hlt
       have:=hW9.out;rw[List.append_assoc] at this;rw[List.take_succ_eq_append_getElem hk2,zdE,List.getElem_map];simpa [encs] using this
      case measure=>simp [intOf];omega
    · have hW8:WS wr c g S8 (e.vals (.slice aa l2.length ac) gr):=by
       rw[List.take_of_length_le (by rw[List.length_map];omega),<-E8.out] at hWr;exact hWr
      clear hWr;go_wp2_with (go_at_call 90;(with_reducible refine (C9.out _ hW8).mono ?_);rintro _ w9 ⟨rfl,hW9,hG9⟩;have HW9:=lh hW9;have HG9:=lh (HGr.out.trans hG9);clear hG9 hW9)
      go_end0
      exact⟨rfl,by rw[HF.out];exact HW9.out,HG9.out⟩
def setD(e:En)(f:Nat->Int):En:={ e with d0:=f 0,d1:=f 1,d2:=f 2,d3:=f 3,d4:=f 4,d5:=f 5,d6:=f 6,d7:=f 7,d8:=f 8,d9:=f 9,d10:=f 10,d11:=f 11,d12:=f 12,d13:=f 13 }
def sq(s:List UInt8 × Nat):Nat->List UInt8 × Nat
 | 0=>s
 | k+1=>(Rd.num (sq s k)).2
theorem zfG(s:List UInt8 × Nat):∀ k,(sq s k).1.length<=s.1.length
 | 0=>Nat.le_refl _
 | k+1=>Nat.le_trans (Rd.num_len _) (zfG s k)
def nq(s:List UInt8 × Nat)(k:Nat):Int:=(clip (Rd.num (sq s k)).1:Nat)
theorem zkb(s:List UInt8 × Nat)(e:En)(al gr:Value):zbY os14 s (e.vals al gr)=((setD e (nq s)).vals al gr,sq s 14):=by
 simp only[os14,zbY,zvZ,zv0,zv1,zv2,zv3,zv4,zv5,zv6,zuJ,zuK,zuL,zuM,zuN,zuO]
 rfl
def rdN(s:List UInt8 × Nat):Nat->List Int × (List UInt8 × Nat)
 | 0=>([],s)
 | k+1=>((rdN s k).1++[((clip (Rd.num (rdN s k).2).1:Nat):Int)],(Rd.num (rdN s k).2).2)
theorem zdK(s:List UInt8 × Nat):∀ k,(rdN s k).1.length=k
 | 0=>rfl
 | k+1=>by rw[rdN,List.length_append,zdK s k];rfl
theorem zgh(s:List UInt8 × Nat):∀ k,(rdN s k).2=sq s k
 | 0=>rfl
 | k+1=>by rw[rdN,sq,zgh s k]
theorem zi1(s:List UInt8 × Nat):∀ n j,j<n->(rdN s n).1[j]?=some (nq s j)
 | n+1,j,h=>by
   rw[rdN];by_cases e:j<n
   · rw[List.getElem?_append_left (by rw[zdK];exact e)];exact zi1 s n j e
   · obtain rfl:j=n:=by omega
     rw[List.getElem?_append_right (by rw[zdK];exact Nat.le_refl _),zdK,Nat.sub_self,zgh];rfl
def NB(w:World)(g n:Nat)(F:Nat->Int):Prop:=(∀ k,k<n->w.cell? ⟨g,k,none⟩=some (.int .i64 (F k)))∧(∀ o,w.frozen? ⟨g,o,none⟩=false)∧g<w.heap.size
theorem NB.grown{w w':World}{g n:Nat}{F:Nat->Int}{row:Option Nat}(h:NB w g n F)(hg:w.grownBy w' row)(hr:some g≠row):NB w' g n F:=by
 have hb:=hg.block g h.2.2 hr;refine⟨fun k hk=>?_,fun o=>?_,Nat.lt_of_lt_of_le h.2.2 hg.size⟩
 · rw[World.cell?_of_block (a:=⟨g,k,none⟩) hb];exact h.1 k hk
 · rw[World.frozen?_of_block (a:=⟨g,o,none⟩) hb];exact h.2.1 o
theorem NB.set{w:World}{g n:Nat}{F:Nat->Int}(h:NB w g n F)(c:Nat)(hc:c<n)(v:Int):NB (w.setCell ⟨g,c,none⟩ (.int .i64 v)) g n (fun k=>if k=c then v else F k):=by
 refine⟨fun k hk=>?_,fun o=>by have:=h.2.1 o;simpa using this,by simpa using h.2.2⟩
 have h1:=h.1 k hk;have h0:=h.1 c hc;by_cases e:k=c
 · subst e;simp [go_sem,h0]
 · show _=some (Value.int .i64 (if k=c then v else F k))
   rw[if_neg e,<-h1];have e':c≠k:=fun h=>e h.symm
   have e'':(c==k)=false:=by simpa using e'
   simp [go_sem]
theorem NB.other{w:World}{g n:Nat}{F:Nat->Int}(h:NB w g n F)(g2 c:Nat)(hne:g≠g2)(v:Value):NB (w.setCell ⟨g2,c,none⟩ v) g n F:=by
 refine⟨fun k hk=>?_,fun o=>by have:=h.2.1 o;simpa using this,by simpa using h.2.2⟩
 rw[<-h.1 k hk];have e':(g2==g)=false:=by simpa using fun h=>hne h.symm
 simp [go_sem]
theorem NB.made{w:World}{B e g n:Nat}(h:w.ownsRow B e 1 (.slice (some ⟨g,0,none⟩) n n) n (madeCells (Value.int .i64 0).cells (n*1)).toList)(hn:0<n):NB w g n (fun _=>0):=by
 have hc:∀ k,k<n->w.cell? ⟨g,k,none⟩=some (.int .i64 0):=fun k hk=>by
  rw[h.cellAt k (by omega)];show (madeCells #[Value.int .i64 0] (n*1)).toList[k]?=_
  rw[toList_madeCells_one,List.getElem?_replicate,if_pos (by omega)]
 exact⟨hc,fun o=>h.frozenAt o,block_lt_of_cell (hc 0 hn)⟩
theorem NB.is{w:World}{g n:Nat}{F:Nat->Int}{l:List Int}(h:NB w g n F)(hl:l.length=n)(hn:n<=1000000)(hF:∀ j (hj:j<l.length),F j=l[j]):IS w (.slice (some ⟨g,0,none⟩) n n) l :=
 ⟨_,n,by rw[hl],by omega,fun _=>⟨g,0,rfl,h.2.2,fun k hk=>by rw[Nat.zero_add,h.1 k (by omega),hF k hk]⟩⟩
theorem G2.far{w wr w1:World}{rb g:Nat}{p:Addr}(h:G2 w wr rb g)(G:wr.grownBy w1 (some rb))(hp:w.heap.size<=p.block)(v:Value):G2 w (w1.setCell p v) rb g :=
 by
 have k:=h.trans (G2.of_grown G g);have q:=zaH w1 p v;exact⟨q.os.trans k.os,q.tape.trans k.tape,q.output.trans k.output,Nat.le_trans k.size q.size,fun i hi ha hb=>(heap_setCell_other w1 p i v (by omega)).trans (k.block i hi ha hb)⟩
theorem NB.g2{w w':World}{gb n a b:Nat}{F:Nat->Int}(h:NB w gb n F)(hg:G2 w w' a b)(ha:gb≠a)(hb:gb≠b):NB w' gb n F:=by
 have hb:=hg.block gb h.2.2 ha hb;refine⟨fun k hk=>?_,fun o=>?_,Nat.lt_of_lt_of_le h.2.2 hg.size⟩
 · rw[World.cell?_of_block (a:=⟨gb,k,none⟩) hb];exact h.1 k hk
 · rw[World.frozen?_of_block (a:=⟨gb,o,none⟩) hb];exact h.2.1 o
theorem zuC(s:List UInt8 × Nat)(k n:Nat)(L:List Int)(hL:L=(rdN s n).1)(hk:k=n):∀ j (hj:j<L.length),(fun j=>if j<k then nq s j else 0) j=L[j]:=fun j hj=>by
 subst hL hk;have h1:j<k:=by rw[zdK] at hj;exact hj
 have:=zi1 s k j h1;rw[List.getElem?_eq_getElem hj] at this;show (if j<k then nq s j else 0)=_
 rw[if_pos h1];exact (Option.some.inj this).symm
theorem ztH{w w8 w9:World}{c rb g m:Nat}{S:List UInt8 × Nat}{E:En}{gr:Value}(h:RS w8 c rb g S (E.vals (.slice none 0 0) gr))(hG:G2 w w8 rb g)(hown:w9.ownsRow w8.heap.size 3 1 (.slice (some ⟨w8.heap.size,0,none⟩) m m) m (madeCells (Value.int .i64 0).cells (m*1)).toList)(hgrow:w8.grownBy w9 none)(hm:0<m) :
  w9.frozen? ⟨g,23,none⟩=false∧w9.cell? ⟨g,23,none⟩=some (.slice none 0 0)∧RS (w9.setCell ⟨g,23,none⟩ (.slice (some ⟨w8.heap.size,0,none⟩) m m)) c rb g S (E.vals (.slice (some ⟨w8.heap.size,0,none⟩) m m) gr)∧w.heap.size<=w8.heap.size∧NB (w9.setCell ⟨g,23,none⟩ (.slice (some ⟨w8.heap.size,0,none⟩) m m)) w8.heap.size m (fun _=>0)∧G2 w (w9.setCell ⟨g,23,none⟩ (.slice (some ⟨w8.heap.size,0,none⟩) m m)) rb g:=by
 have hg8:=h.2.2.1.2.2;have G:w8.grownBy w9 (some rb):=⟨hgrow.os,hgrow.tape,hgrow.output,hgrow.size,fun k hk _=>hgrow.block k hk (by simp)⟩;have hb:=hgrow.block g hg8 (by simp);have ha:=h.after (h.2.1.grown hgrow h.2.2.2.2.2.2.2) G 23 (by rw[zaa];decide) (.slice (some ⟨w8.heap.size,0,none⟩) m m);rw[zuP] at ha;exact⟨(World.frozen?_of_block (a:=⟨g,23,none⟩) hb).trans (h.2.2.1.2.1 23),(World.cell?_of_block (a:=⟨g,23,none⟩) hb).trans (h.2.2.1.cell 23 _ (zbk E _ gr)),ha.1,hG.size,(NB.made hown hm).other g 23 (by omega) _,hG.trans ha.2⟩
theorem ztI{w wr w1:World}{c rb g gb m k:Nat}{S7:List UInt8 × Nat}{cs:Array Value}(h:RS wr c rb g (rdN S7 k).2 cs)(hc:c<w.heap.size)(hr:rb<w.heap.size)(hg:g<w.heap.size)(hB:w.heap.size<=gb)(hN:NB wr gb m (fun j=>if j<k then nq S7 j else 0))(hG:G2 w wr rb g)(hR:RL w1 rb (Rd.num (rdN S7 k).2).2)(G:wr.grownBy w1 (some rb))(hk:k<m) :
  RS (w1.setCell ⟨gb,k,none⟩ (.int .i64 (clip (Rd.num (rdN S7 k).2).1))) c rb g (rdN S7 (k+1)).2 cs∧NB (w1.setCell ⟨gb,k,none⟩ (.int .i64 (clip (Rd.num (rdN S7 k).2).1))) gb m (fun j=>if j<k+1 then nq S7 j else 0)∧G2 w (w1.setCell ⟨gb,k,none⟩ (.int .i64 (clip (Rd.num (rdN S7 k).2).1))) rb g:=by
 refine⟨h.far hR G ⟨gb,k,none⟩ (by show gb≠c;omega) (by show gb≠rb;omega) (by show gb≠g;omega) _,?_,hG.far G hB _⟩
 have q:=(hN.grown G (by intro e;have:=Option.some.inj e;omega)).set k hk (clip (Rd.num (rdN S7 k).2).1:Nat)
 have e:(fun j=>if j=k then ((clip (Rd.num (rdN S7 k).2).1:Nat):Int) else (fun j=>if j<k then nq S7 j else 0) j)=fun j=>if j<k+1 then nq S7 j else 0:=by
  funext j
  by_cases h1:j=k
  · subst h1;rw[if_pos rfl,if_pos (by omega),zgh];rfl
  · rw[if_neg h1];by_cases h2:j<k
    · rw[if_pos (by omega)];exact if_pos h2
    · rw[if_neg (by omega)];exact if_neg h2
 rw[e] at q;exact q
theorem zrQ:(Tryz.prog.info? 3).map (fun i=>(i.zero,i.size,i.bytes))=some (some (.int .i64 0),1,8):=by kernel_rfl
def En.sUq(e:En)(x:Bool):En:={ e with uq:=x }
def En.sCls(e:En)(x:Int):En:={ e with cls:=x }
def En.sVol(e:En)(x:ByteArray):En:={ e with vol:=x }
def En.sOwn(e:En)(x:ByteArray):En:={ e with own:=x }
def En.sCE(e:En)(x y:Int):En:={ e with cr:=x,ex:=y }
def En.sAr(e:En)(x:Bool):En:={ e with ar:=x }
def En.sUsed(e:En)(x:Int):En:={ e with used:=x }
def zb3(e:En)(s:List UInt8 × Nat):En × List Int × (List UInt8 × Nat) :=
 let a:=sq s 14
 let u:=Rd.boo a
 let k:=Rd.num u.2
 let v:=Rd.txt 200 k.2
 let o:=Rd.txt 200 v.2
 let q:=sq o.2 2
 let ar:=Rd.boo q
 let n:=Rd.num ar.2
 let l:=rdN n.2 (cntv 4 (clip n.1))
 let us:=Rd.num l.2
 ((((((((setD e (nq s)).sUq u.1).sCls (clip k.1)).sVol ⟨v.1.toArray⟩).sOwn ⟨o.1.toArray⟩).sCE (nq o.2 0) (nq o.2 1)).sAr ar.1).sUsed (clip us.1),l.1,us.2)
theorem zof(c rb g:Nat)(s:List UInt8 × Nat)(e:En)(gr:Value)(w:World)(h:RS w c rb g s (e.vals (.slice none 0 0) gr))(hs:s.1.length<=1000)(hm0:Hid (cntv 4 (clip (Rd.num (Rd.boo (sq (Rd.txt 200 (Rd.txt 200 (Rd.num (Rd.boo (sq s 14)).2).2).2).2 2)).2).1)=0)) :
  Calls Tryz.prog 73 #[.pointer (some ⟨c,0,none⟩),.pointer (some ⟨g,0,none⟩)] w fun r w'=>r=.returned (.tuple #[])∧∃ al',RS w' c rb g (zb3 e s).2.2 ((zb3 e s).1.vals al' gr)∧(IS w' al' (zb3 e s).2.1∧∀ x,al'.ownBlock=some x->w.heap.size<=x)∧G2 w w' rb g:=by
 obtain⟨S0,q0⟩:∃ S,S=sq s 14:=⟨_,rfl⟩;obtain⟨E0,r0⟩:∃ E,E=setD e (nq s):=⟨_,rfl⟩;obtain⟨S1,q1⟩:∃ S,S=(Rd.boo S0).2:=⟨_,rfl⟩;obtain⟨E1,r1⟩:∃ E:En,E=E0.sUq (Rd.boo S0).1:=⟨_,rfl⟩;obtain⟨S2,q2⟩:∃ S,S=(Rd.num S1).2:=⟨_,rfl⟩;obtain⟨E2,r2⟩:∃ E:En,E=E1.sCls (clip (Rd.num S1).1):=⟨_,rfl⟩;obtain⟨S3,q3⟩:∃ S,S=(Rd.txt 200 S2).2:=⟨_,rfl⟩;obtain⟨E3,r3⟩:∃ E:En,E=E2.sVol ⟨(Rd.txt 200 S2).1.toArray⟩:=⟨_,rfl⟩;obtain⟨S4,q4⟩:∃ S,S=(Rd.txt 200 S3).2:=⟨_,rfl⟩;obtain⟨E4,r4⟩:∃ E:En,E=E3.sOwn ⟨(Rd.txt 200 S3).1.toArray⟩:=⟨_,rfl⟩;obtain⟨S5,q5⟩:∃ S,S=sq S4 2:=⟨_,rfl⟩;obtain⟨E5,r5⟩:∃ E:En,E=E4.sCE (nq S4 0) (nq S4 1):=⟨_,rfl⟩;obtain⟨S6,q6⟩:∃ S,S=(Rd.boo S5).2:=⟨_,rfl⟩;obtain⟨E6,r6⟩:∃ E:En,E=E5.sAr (Rd.boo S5).1:=⟨_,rfl⟩;obtain⟨S7,q7⟩:∃ S,S=(Rd.num S6).2:=⟨_,rfl⟩;obtain⟨m,qm⟩:∃ m,m=cntv 4 (clip (Rd.num S6).1):=⟨_,rfl⟩;obtain⟨S8,q8⟩:∃ S,S=(rdN S7 m).2:=⟨_,rfl⟩;obtain⟨L8,p8⟩:∃ L,L=(rdN S7 m).1:=⟨_,rfl⟩;obtain⟨E9,r9⟩:∃ E:En,E=E6.sUsed (clip (Rd.num S8).1):=⟨_,rfl⟩
 have efin:zb3 e s=(E9,L8,(Rd.num S8).2):=by
  rw[r9,r6,r5,r4,r3,r2,r1,r0,p8,q8,qm,q7,q6,q5,q4,q3,q2,q1,q0];rfl
 have b0:S0.1.length<=1000:=by rw[q0];exact Nat.le_trans (zfG s 14) hs
 have b1:S1.1.length<=1000:=by rw[q1];exact Nat.le_trans (Rd.boo_len S0) b0
 have b2:S2.1.length<=1000:=by rw[q2];exact Nat.le_trans (Rd.num_len S1) b1
 have b3:S3.1.length<=1000:=by rw[q3];exact Nat.le_trans (Rd.txt_len 200 S2).1 b2
 have b4:S4.1.length<=1000:=by rw[q4];exact Nat.le_trans (Rd.txt_len 200 S3).1 b3
 have b5:S5.1.length<=1000:=by rw[q5];exact Nat.le_trans (zfG S4 2) b4
 have b6:S6.1.length<=1000:=by rw[q6];exact Nat.le_trans (Rd.boo_len S5) b5
 have b7:S7.1.length<=1000:=by rw[q7];exact Nat.le_trans (Rd.num_len S6) b6
 have bk:∀ k,(rdN S7 k).2.1.length<=10000:=fun k=>by rw[zgh];have:=zfG S7 k;omega
 have b8:S8.1.length<=10000:=by rw[q8];exact bk m
 have hm5:m<=5:=by rw[qm];unfold cntv;split <;> omega
 have hm0:m=0:=by
  rw[qm,q6,q5,q4,q3,q2,q1,q0];exact hm0.out
 have hc:Calls Tryz.prog 77 #[.pointer (some ⟨c,0,none⟩),.slice (some ⟨w.heap.size,0,none⟩) 14 14] ((w.alloc (.cells #[.pointer (some ⟨g,2,none⟩),.pointer (some ⟨g,3,none⟩),.pointer (some ⟨g,4,none⟩),.pointer (some ⟨g,5,none⟩),.pointer (some ⟨g,6,none⟩),.pointer (some ⟨g,7,none⟩),.pointer (some ⟨g,8,none⟩),.pointer (some ⟨g,9,none⟩),.pointer (some ⟨g,10,none⟩),.pointer (some ⟨g,11,none⟩),.pointer (some ⟨g,12,none⟩),.pointer (some ⟨g,13,none⟩),.pointer (some ⟨g,14,none⟩),.pointer (some ⟨g,15,none⟩)] 131)).drew) fun r w'=>r=.returned (.tuple #[])∧RS w' c rb g (zbY os14 s (e.vals (.slice none 0 0) gr)).2 (zbY os14 s (e.vals (.slice none 0 0) gr)).1∧G2 ((w.alloc (.cells #[.pointer (some ⟨g,2,none⟩),.pointer (some ⟨g,3,none⟩),.pointer (some ⟨g,4,none⟩),.pointer (some ⟨g,5,none⟩),.pointer (some ⟨g,6,none⟩),.pointer (some ⟨g,7,none⟩),.pointer (some ⟨g,8,none⟩),.pointer (some ⟨g,9,none⟩),.pointer (some ⟨g,10,none⟩),.pointer (some ⟨g,11,none⟩),.pointer (some ⟨g,12,none⟩),.pointer (some ⟨g,13,none⟩),.pointer (some ⟨g,14,none⟩),.pointer (some ⟨g,15,none⟩)] 131)).drew) w' rb g:=zcQ c rb g w.heap.size 14 os14 s (e.vals (.slice none 0 0) gr) _ (h.below (((Below.refl _ _).alloc (Nat.le_refl _) _).drew)) (PS.new w g os14 131) (by have:=h.2.2.2.2.2.2.2;omega) (by have:=h.2.2.1.2.2;omega) (fun k hk=>by
  rw[zaa];have:∀ k (hk:k<os14.length),os14[k]<33:=by decide
  exact this k hk) (by decide) (by omega)
 rw[zkb,<-q0,<-r0] at hc
 have c1:∀ W,RS W c rb g S0 (E0.vals (.slice none 0 0) gr)->Calls Tryz.prog 78 #[.pointer (some ⟨c,0,none⟩),.pointer (some ⟨g,16,none⟩)] W fun r w'=>r=.returned (.tuple #[])∧RS w' c rb g S1 (E1.vals (.slice none 0 0) gr)∧G2 W w' rb g:=fun W hW=>by
  have:=zee c rb g 16 _ S0 _ W hW (by omega) (zjb E0 _ gr);rw[zqp,<-q1] at this;rw[r1];exact this
 have c2:∀ W,RS W c rb g S1 (E1.vals (.slice none 0 0) gr)->Calls Tryz.prog 90 #[.pointer (some ⟨c,0,none⟩),.pointer (some ⟨g,17,none⟩)] W fun r w'=>r=.returned (.tuple #[])∧RS w' c rb g S2 (E2.vals (.slice none 0 0) gr)∧G2 W w' rb g:=fun W hW=>by
  have:=zcy c rb g 17 _ S1 _ W hW (by omega) (zjc E1 _ gr);rw[zqq,<-q2] at this;rw[r2];exact this
 have c3:∀ W,RS W c rb g S2 (E2.vals (.slice none 0 0) gr)->Calls Tryz.prog 79 #[.pointer (some ⟨c,0,none⟩),.pointer (some ⟨g,18,none⟩)] W fun r w'=>r=.returned (.tuple #[])∧RS w' c rb g S3 (E3.vals (.slice none 0 0) gr)∧G2 W w' rb g:=fun W hW=>by
  have:=zdL c rb g 18 _ S2 _ W hW (by omega) (zjd E2 _ gr);rw[zqr,<-q3] at this;rw[r3];exact this
 have c4:∀ W,RS W c rb g S3 (E3.vals (.slice none 0 0) gr)->Calls Tryz.prog 79 #[.pointer (some ⟨c,0,none⟩),.pointer (some ⟨g,19,none⟩)] W fun r w'=>r=.returned (.tuple #[])∧RS w' c rb g S4 (E4.vals (.slice none 0 0) gr)∧G2 W w' rb g:=fun W hW=>by
  have:=zdL c rb g 19 _ S3 _ W hW (by omega) (zje E3 _ gr);rw[zqs,<-q4] at this;rw[r4];exact this
 have c5:∀ W,RS W c rb g S4 (E4.vals (.slice none 0 0) gr)->Calls Tryz.prog 77 #[.pointer (some ⟨c,0,none⟩),.slice (some ⟨W.heap.size,0,none⟩) 2 2] ((W.alloc (.cells #[.pointer (some ⟨g,20,none⟩),.pointer (some ⟨g,21,none⟩)] 131)).drew) fun r w'=>r=.returned (.tuple #[])∧RS w' c rb g S5 (E5.vals (.slice none 0 0) gr)∧G2 ((W.alloc (.cells #[.pointer (some ⟨g,20,none⟩),.pointer (some ⟨g,21,none⟩)] 131)).drew) w' rb g:=fun W hW=>by
  have e1:zbY [20,21] S4 (E4.vals (.slice none 0 0) gr)=(E5.vals (.slice none 0 0) gr,S5):=by
   simp only[zbY]
   rw[zqt,zqu,r5,q5];rfl
  have:=zcQ c rb g W.heap.size 2 [20,21] S4 (E4.vals (.slice none 0 0) gr) _ (hW.below (((Below.refl _ _).alloc (Nat.le_refl _) _).drew)) (PS.new W g [20,21] 131) (by have:=hW.2.2.2.2.2.2.2;omega) (by have:=hW.2.2.1.2.2;omega) (fun k hk=>by
   rw[zaa];rcases (by simp at hk;omega:k=0∨k=1) with rfl|rfl <;> simp) (by decide) (by omega)
  rw[e1] at this;exact this
 have c6:∀ W,RS W c rb g S5 (E5.vals (.slice none 0 0) gr)->Calls Tryz.prog 78 #[.pointer (some ⟨c,0,none⟩),.pointer (some ⟨g,22,none⟩)] W fun r w'=>r=.returned (.tuple #[])∧RS w' c rb g S6 (E6.vals (.slice none 0 0) gr)∧G2 W w' rb g:=fun W hW=>by
  have:=zee c rb g 22 _ S5 _ W hW (by omega) (zjf E5 _ gr);rw[zqv,<-q6] at this;rw[r6];exact this
 have c7:∀ W,RS W c rb g S6 (E6.vals (.slice none 0 0) gr)->Calls Tryz.prog 142 #[.pointer (some ⟨c,0,none⟩),.int .i64 0,.int .i64 4] W fun r w'=>r=.returned (.int .i64 0)∧RS w' c rb g S7 (E6.vals (.slice none 0 0) gr)∧G2 W w' rb g:=fun W hW=>by
  have:=zg9 c rb g 4 0 S6 _ W hW (by omega) (by omega);rw[<-qm,<-q7,hm0] at this;exact this
 have c9:∀ W al',RS W c rb g S8 (E6.vals al' gr)->Calls Tryz.prog 90 #[.pointer (some ⟨c,0,none⟩),.pointer (some ⟨g,24,none⟩)] W fun r w'=>r=.returned (.tuple #[])∧RS w' c rb g (Rd.num S8).2 (E9.vals al' gr)∧G2 W w' rb g:=fun W al' hW=>by
  have:=zcy c rb g 24 _ S8 _ W hW b8 (zbW E6 _ gr);rw[zqw] at this;rw[r9];exact this
 have v23:=zbk E6 (.slice none 0 0) gr;have HC0:=lh hc;have C1:=lh c1;have C2:=lh c2;have C3:=lh c3;have C4:=lh c4;have C5:=lh c5;have C6:=lh c6;have C7:=lh c7;have C9:=lh c9;have V23:=lh v23;have HB:=lh bk;have Q8:=lh q8;have P8:=lh p8;have hcw:=h.2.2.2.2.2.2.1;have hrw:=h.2.2.2.2.2.2.2;have hgw:=h.2.2.1.2.2;rw[efin];have HS8:Hid (S8=S7):=lh (by rw[q8,hm0];rfl);have HL8:Hid (L8=[]):=lh (by rw[p8,hm0];rfl);clear hc c1 c2 c3 c4 c5 c6 c7 c9 v23 bk efin q0 q1 q2 q3 q4 q5 q6 q7 q8 p8 qm r0 r1 r2 r3 r4 r5 r6 r9 b0 b1 b2 b3 b4 b5 b6 b7 b8 h hm0 hm5;go_enter Tryz.func73,Tryz.ntmps73
 go_wp2_with fail
 go_region_law (first|(go_simp;go_at_call 77;(with_reducible refine HC0.out.mono ?_);rintro _ w1 ⟨rfl,hW1,hG1⟩))
 all_goals
  have HG1:=lh (zed.trans hG1);clear hG1
  go_wp2_with (first
   | (go_at_call 78;(with_reducible refine (C1.out _ hW1).mono ?_);rintro _ w2 ⟨rfl,hW2,hG2⟩;have HG2:=lh (HG1.out.trans hG2);clear hG2)
   | (go_at_call 90;(with_reducible refine (C2.out _ hW2).mono ?_);rintro _ w3 ⟨rfl,hW3,hG3⟩;have HG3:=lh (HG2.out.trans hG3);clear hG3)
   | (go_at_call 79;(with_reducible refine (C3.out _ hW3).mono ?_);rintro _ w4 ⟨rfl,hW4,hG4⟩;have HG4:=lh (HG3.out.trans hG4);clear hG4)
   | (go_at_call 79;(with_reducible refine (C4.out _ hW4).mono ?_);rintro _ w5 ⟨rfl,hW5,hG5⟩;have HG5:=lh (HG4.out.trans hG5);clear hG5))
  go_region_law (first|(go_simp;go_at_call 77;(with_reducible refine (C5.out _ hW5).mono ?_);rintro _ w6 ⟨rfl,hW6,hG6⟩))
  all_goals
   have HG6:=lh (HG5.out.trans (zed.trans hG6));clear hG6;have v23:=hW6.2.2.1.cell 23 _ (zbk E5 _ gr)
   go_wp2_with (first
    | (go_at_call 78;(with_reducible refine (C6.out _ hW6).mono ?_);rintro _ w7 ⟨rfl,hW7,hG7⟩;have v23:=hW7.2.2.1.cell 23 _ V23.out;have HG7:=lh (HG6.out.trans hG7);clear hG7)
    | (go_at_call 142;(with_reducible refine (C7.out _ hW7).mono ?_);rintro _ w8 ⟨rfl,hW8,hG8⟩;have v23:=hW8.2.2.1.cell 23 _ V23.out;have k1:w8.cell? ⟨c,1,none⟩=some (.pointer (some ⟨rb,0,none⟩)):=hW8.1;have HG8:=lh (HG7.out.trans hG8);clear hG8))
   go_loopw [115] (fun i wr=>i=.int .i64 0∧RS wr c rb g S8 (E6.vals (.slice none 0 0) gr)∧G2 w wr rb g) (fun i _=>0)
   case atStart=>exact⟨rfl,by rw[HS8.out];exact hW8,HG8.out⟩
   case round =>
    obtain⟨rfl,hWr,hGr⟩:=hrel;have HGr:=lh hGr;have v23:=hWr.2.2.1.cell 23 _ V23.out;clear hGr;go_wp2_with (go_at_call 90;(with_reducible refine (C9.out _ _ hWr).mono ?_);rintro _ w9 ⟨rfl,hW9,hG9⟩;have HW9:=lh hW9;have HG9:=lh (HGr.out.trans hG9);clear hG9 hW9)
    go_end0
    exact⟨rfl,_,HW9.out,⟨by rw[HL8.out];exact IS.nil _,fun _ h=>by cases h⟩,HG9.out⟩
theorem zog(c rb g:Nat)(s:List UInt8 × Nat)(e:En)(gr:Value)(w:World)(h:RS w c rb g s (e.vals (.slice none 0 0) gr))(hs:s.1.length<=1000)(hm0:0<cntv 4 (clip (Rd.num (Rd.boo (sq (Rd.txt 200 (Rd.txt 200 (Rd.num (Rd.boo (sq s 14)).2).2).2).2 2)).2).1)) :
  Calls Tryz.prog 73 #[.pointer (some ⟨c,0,none⟩),.pointer (some ⟨g,0,none⟩)] w fun r w'=>r=.returned (.tuple #[])∧∃ al',RS w' c rb g (zb3 e s).2.2 ((zb3 e s).1.vals al' gr)∧(IS w' al' (zb3 e s).2.1∧∀ x,al'.ownBlock=some x->w.heap.size<=x)∧G2 w w' rb g:=by
 obtain⟨S0,q0⟩:∃ S,S=sq s 14:=⟨_,rfl⟩;obtain⟨E0,r0⟩:∃ E,E=setD e (nq s):=⟨_,rfl⟩;obtain⟨S1,q1⟩:∃ S,S=(Rd.boo S0).2:=⟨_,rfl⟩;obtain⟨E1,r1⟩:∃ E:En,E=E0.sUq (Rd.boo S0).1:=⟨_,rfl⟩;obtain⟨S2,q2⟩:∃ S,S=(Rd.num S1).2:=⟨_,rfl⟩;obtain⟨E2,r2⟩:∃ E:En,E=E1.sCls (clip (Rd.num S1).1):=⟨_,rfl⟩;obtain⟨S3,q3⟩:∃ S,S=(Rd.txt 200 S2).2:=⟨_,rfl⟩;obtain⟨E3,r3⟩:∃ E:En,E=E2.sVol ⟨(Rd.txt 200 S2).1.toArray⟩:=⟨_,rfl⟩;obtain⟨S4,q4⟩:∃ S,S=(Rd.txt 200 S3).2:=⟨_,rfl⟩;obtain⟨E4,r4⟩:∃ E:En,E=E3.sOwn ⟨(Rd.txt 200 S3).1.toArray⟩:=⟨_,rfl⟩;obtain⟨S5,q5⟩:∃ S,S=sq S4 2:=⟨_,rfl⟩;obtain⟨E5,r5⟩:∃ E:En,E=E4.sCE (nq S4 0) (nq S4 1):=⟨_,rfl⟩;obtain⟨S6,q6⟩:∃ S,S=(Rd.boo S5).2:=⟨_,rfl⟩;obtain⟨E6,r6⟩:∃ E:En,E=E5.sAr (Rd.boo S5).1:=⟨_,rfl⟩;obtain⟨S7,q7⟩:∃ S,S=(Rd.num S6).2:=⟨_,rfl⟩;obtain⟨m,qm⟩:∃ m,m=cntv 4 (clip (Rd.num S6).1):=⟨_,rfl⟩;obtain⟨S8,q8⟩:∃ S,S=(rdN S7 m).2:=⟨_,rfl⟩;obtain⟨L8,p8⟩:∃ L,L=(rdN S7 m).1:=⟨_,rfl⟩;obtain⟨E9,r9⟩:∃ E:En,E=E6.sUsed (clip (Rd.num S8).1):=⟨_,rfl⟩
 have efin:zb3 e s=(E9,L8,(Rd.num S8).2):=by
  rw[r9,r6,r5,r4,r3,r2,r1,r0,p8,q8,qm,q7,q6,q5,q4,q3,q2,q1,q0];rfl
 have b0:S0.1.length<=1000:=by rw[q0];exact Nat.le_trans (zfG s 14) hs
 have b1:S1.1.length<=1000:=by rw[q1];exact Nat.le_trans (Rd.boo_len S0) b0
 have b2:S2.1.length<=1000:=by rw[q2];exact Nat.le_trans (Rd.num_len S1) b1
 have b3:S3.1.length<=1000:=by rw[q3];exact Nat.le_trans (Rd.txt_len 200 S2).1 b2
 have b4:S4.1.length<=1000:=by rw[q4];exact Nat.le_trans (Rd.txt_len 200 S3).1 b3
 have b5:S5.1.length<=1000:=by rw[q5];exact Nat.le_trans (zfG S4 2) b4
 have b6:S6.1.length<=1000:=by rw[q6];exact Nat.le_trans (Rd.boo_len S5) b5
 have b7:S7.1.length<=1000:=by rw[q7];exact Nat.le_trans (Rd.num_len S6) b6
 have bk:∀ k,(rdN S7 k).2.1.length<=10000:=fun k=>by rw[zgh];have:=zfG S7 k;omega
 have b8:S8.1.length<=10000:=by rw[q8];exact bk m
 have hm5:m<=5:=by rw[qm];unfold cntv;split <;> omega
 have hm0:0<m:=by
  rw[qm,q6,q5,q4,q3,q2,q1,q0];exact hm0
 have hc:Calls Tryz.prog 77 #[.pointer (some ⟨c,0,none⟩),.slice (some ⟨w.heap.size,0,none⟩) 14 14] ((w.alloc (.cells #[.pointer (some ⟨g,2,none⟩),.pointer (some ⟨g,3,none⟩),.pointer (some ⟨g,4,none⟩),.pointer (some ⟨g,5,none⟩),.pointer (some ⟨g,6,none⟩),.pointer (some ⟨g,7,none⟩),.pointer (some ⟨g,8,none⟩),.pointer (some ⟨g,9,none⟩),.pointer (some ⟨g,10,none⟩),.pointer (some ⟨g,11,none⟩),.pointer (some ⟨g,12,none⟩),.pointer (some ⟨g,13,none⟩),.pointer (some ⟨g,14,none⟩),.pointer (some ⟨g,15,none⟩)] 131)).drew) fun r w'=>r=.returned (.tuple #[])∧RS w' c rb g (zbY os14 s (e.vals (.slice none 0 0) gr)).2 (zbY os14 s (e.vals (.slice none 0 0) gr)).1∧G2 ((w.alloc (.cells #[.pointer (some ⟨g,2,none⟩),.pointer (some ⟨g,3,none⟩),.pointer (some ⟨g,4,none⟩),.pointer (some ⟨g,5,none⟩),.pointer (some ⟨g,6,none⟩),.pointer (some ⟨g,7,none⟩),.pointer (some ⟨g,8,none⟩),.pointer (some ⟨g,9,none⟩),.pointer (some ⟨g,10,none⟩),.pointer (some ⟨g,11,none⟩),.pointer (some ⟨g,12,none⟩),.pointer (some ⟨g,13,none⟩),.pointer (some ⟨g,14,none⟩),.pointer (some ⟨g,15,none⟩)] 131)).drew) w' rb g:=zcQ c rb g w.heap.size 14 os14 s (e.vals (.slice none 0 0) gr) _ (h.below (((Below.refl _ _).alloc (Nat.le_refl _) _).drew)) (PS.new w g os14 131) (by have:=h.2.2.2.2.2.2.2;omega) (by have:=h.2.2.1.2.2;omega) (fun k hk=>by
  rw[zaa];have:∀ k (hk:k<os14.length),os14[k]<33:=by decide
  exact this k hk) (by decide) (by omega)
 rw[zkb,<-q0,<-r0] at hc
 have c1:∀ W,RS W c rb g S0 (E0.vals (.slice none 0 0) gr)->Calls Tryz.prog 78 #[.pointer (some ⟨c,0,none⟩),.pointer (some ⟨g,16,none⟩)] W fun r w'=>r=.returned (.tuple #[])∧RS w' c rb g S1 (E1.vals (.slice none 0 0) gr)∧G2 W w' rb g:=fun W hW=>by
  have:=zee c rb g 16 _ S0 _ W hW (by omega) (zjb E0 _ gr);rw[zqp,<-q1] at this;rw[r1];exact this
 have c2:∀ W,RS W c rb g S1 (E1.vals (.slice none 0 0) gr)->Calls Tryz.prog 90 #[.pointer (some ⟨c,0,none⟩),.pointer (some ⟨g,17,none⟩)] W fun r w'=>r=.returned (.tuple #[])∧RS w' c rb g S2 (E2.vals (.slice none 0 0) gr)∧G2 W w' rb g:=fun W hW=>by
  have:=zcy c rb g 17 _ S1 _ W hW (by omega) (zjc E1 _ gr);rw[zqq,<-q2] at this;rw[r2];exact this
 have c3:∀ W,RS W c rb g S2 (E2.vals (.slice none 0 0) gr)->Calls Tryz.prog 79 #[.pointer (some ⟨c,0,none⟩),.pointer (some ⟨g,18,none⟩)] W fun r w'=>r=.returned (.tuple #[])∧RS w' c rb g S3 (E3.vals (.slice none 0 0) gr)∧G2 W w' rb g:=fun W hW=>by
  have:=zdL c rb g 18 _ S2 _ W hW (by omega) (zjd E2 _ gr);rw[zqr,<-q3] at this;rw[r3];exact this
 have c4:∀ W,RS W c rb g S3 (E3.vals (.slice none 0 0) gr)->Calls Tryz.prog 79 #[.pointer (some ⟨c,0,none⟩),.pointer (some ⟨g,19,none⟩)] W fun r w'=>r=.returned (.tuple #[])∧RS w' c rb g S4 (E4.vals (.slice none 0 0) gr)∧G2 W w' rb g:=fun W hW=>by
  have:=zdL c rb g 19 _ S3 _ W hW (by omega) (zje E3 _ gr);rw[zqs,<-q4] at this;rw[r4];exact this
 have c5:∀ W,RS W c rb g S4 (E4.vals (.slice none 0 0) gr)->Calls Tryz.prog 77 #[.pointer (some ⟨c,0,none⟩),.slice (some ⟨W.heap.size,0,none⟩) 2 2] ((W.alloc (.cells #[.pointer (some ⟨g,20,none⟩),.pointer (some ⟨g,21,none⟩)] 131)).drew) fun r w'=>r=.returned (.tuple #[])∧RS w' c rb g S5 (E5.vals (.slice none 0 0) gr)∧G2 ((W.alloc (.cells #[.pointer (some ⟨g,20,none⟩),.pointer (some ⟨g,21,none⟩)] 131)).drew) w' rb g:=fun W hW=>by
  have e1:zbY [20,21] S4 (E4.vals (.slice none 0 0) gr)=(E5.vals (.slice none 0 0) gr,S5):=by
   simp only[zbY]
   rw[zqt,zqu,r5,q5];rfl
  have:=zcQ c rb g W.heap.size 2 [20,21] S4 (E4.vals (.slice none 0 0) gr) _ (hW.below (((Below.refl _ _).alloc (Nat.le_refl _) _).drew)) (PS.new W g [20,21] 131) (by have:=hW.2.2.2.2.2.2.2;omega) (by have:=hW.2.2.1.2.2;omega) (fun k hk=>by
   rw[zaa];rcases (by simp at hk;omega:k=0∨k=1) with rfl|rfl <;> simp) (by decide) (by omega)
  rw[e1] at this;exact this
 have c6:∀ W,RS W c rb g S5 (E5.vals (.slice none 0 0) gr)->Calls Tryz.prog 78 #[.pointer (some ⟨c,0,none⟩),.pointer (some ⟨g,22,none⟩)] W fun r w'=>r=.returned (.tuple #[])∧RS w' c rb g S6 (E6.vals (.slice none 0 0) gr)∧G2 W w' rb g:=fun W hW=>by
  have:=zee c rb g 22 _ S5 _ W hW (by omega) (zjf E5 _ gr);rw[zqv,<-q6] at this;rw[r6];exact this
 have c7:∀ W,RS W c rb g S6 (E6.vals (.slice none 0 0) gr)->Calls Tryz.prog 142 #[.pointer (some ⟨c,0,none⟩),.int .i64 0,.int .i64 4] W fun r w'=>r=.returned (.int .i64 m)∧RS w' c rb g S7 (E6.vals (.slice none 0 0) gr)∧G2 W w' rb g:=fun W hW=>by
  have:=zg9 c rb g 4 0 S6 _ W hW (by omega) (by omega);rw[<-qm,<-q7] at this;exact this
 have c9:∀ W al',RS W c rb g S8 (E6.vals al' gr)->Calls Tryz.prog 90 #[.pointer (some ⟨c,0,none⟩),.pointer (some ⟨g,24,none⟩)] W fun r w'=>r=.returned (.tuple #[])∧RS w' c rb g (Rd.num S8).2 (E9.vals al' gr)∧G2 W w' rb g:=fun W al' hW=>by
  have:=zcy c rb g 24 _ S8 _ W hW b8 (zbW E6 _ gr);rw[zqw] at this;rw[r9];exact this
 have v23:=zbk E6 (.slice none 0 0) gr;have HC0:=lh hc;have C1:=lh c1;have C2:=lh c2;have C3:=lh c3;have C4:=lh c4;have C5:=lh c5;have C6:=lh c6;have C7:=lh c7;have C9:=lh c9;have V23:=lh v23;have HB:=lh bk;have Q8:=lh q8;have P8:=lh p8;have hcw:=h.2.2.2.2.2.2.1;have hrw:=h.2.2.2.2.2.2.2;have hgw:=h.2.2.1.2.2;rw[efin];have d0:decide ((0:Int)<(m:Int))=true:=by rw[decide_eq_true_eq];omega
 obtain⟨i0,hi,hz0,hz1,hz2⟩:=info_parts zrQ;have HI:=lh hi;have HZ0:=lh hz0;have HZ1:=lh hz1;have HM:Hid (i0.bytes*m<=281474976710656):=lh (by rw[hz2];omega);have hmx:m<=maxLen:=by unfold maxLen;omega
 have HX:=lh hmx;clear hi hz0 hz1 hz2 hmx;clear hc c1 c2 c3 c4 c5 c6 c7 c9 v23 bk efin q0 q1 q2 q3 q4 q5 q6 q7 q8 p8 qm r0 r1 r2 r3 r4 r5 r6 r9 b0 b1 b2 b3 b4 b5 b6 b7 b8 h;go_enter Tryz.func73,Tryz.ntmps73
 go_wp2_with fail
 go_region_law (first|(go_simp;go_at_call 77;(with_reducible refine HC0.out.mono ?_);rintro _ w1 ⟨rfl,hW1,hG1⟩))
 all_goals
  have HG1:=lh (zed.trans hG1);clear hG1
  go_wp2_with (first
   | (go_at_call 78;(with_reducible refine (C1.out _ hW1).mono ?_);rintro _ w2 ⟨rfl,hW2,hG2⟩;have HG2:=lh (HG1.out.trans hG2);clear hG2)
   | (go_at_call 90;(with_reducible refine (C2.out _ hW2).mono ?_);rintro _ w3 ⟨rfl,hW3,hG3⟩;have HG3:=lh (HG2.out.trans hG3);clear hG3)
   | (go_at_call 79;(with_reducible refine (C3.out _ hW3).mono ?_);rintro _ w4 ⟨rfl,hW4,hG4⟩;have HG4:=lh (HG3.out.trans hG4);clear hG4)
   | (go_at_call 79;(with_reducible refine (C4.out _ hW4).mono ?_);rintro _ w5 ⟨rfl,hW5,hG5⟩;have HG5:=lh (HG4.out.trans hG5);clear hG5))
  go_region_law (first|(go_simp;go_at_call 77;(with_reducible refine (C5.out _ hW5).mono ?_);rintro _ w6 ⟨rfl,hW6,hG6⟩))
  all_goals
   have HG6:=lh (HG5.out.trans (zed.trans hG6));clear hG6;have v23:=hW6.2.2.1.cell 23 _ (zbk E5 _ gr)
   go_wp2_with (first
    | (go_at_call 78;(with_reducible refine (C6.out _ hW6).mono ?_);rintro _ w7 ⟨rfl,hW7,hG7⟩;have v23:=hW7.2.2.1.cell 23 _ V23.out;have HG7:=lh (HG6.out.trans hG7);clear hG7)
    | (go_at_call 142;(with_reducible refine (C7.out _ hW7).mono ?_);rintro _ w8 ⟨rfl,hW8,hG8⟩;have v23:=hW8.2.2.1.cell 23 _ V23.out;have k1:w8.cell? ⟨c,1,none⟩=some (.pointer (some ⟨rb,0,none⟩)):=hW8.1;have HG8:=lh (HG7.out.trans hG8);clear hG8)
    | (at_make;refine wpList_make_full _ rfl _ _ 27 rfl w8.heap.size 3 i0 (.int .i64 0) 1 Tryz.underlying27 HI.out HZ0.out HZ1.out _ _ _ _ m rfl rfl (by omega) (by omega) HM.out HX.out (Nat.le_refl _) ?_;intro w9 hown hgrow;have HS9:=lh (ztH hW8 HG8.out hown hgrow hm0);clear hown hgrow;have f0:=HS9.out.1;have c23:=HS9.out.2.1))
   go_loopw [115] (fun i wr=>∃ (k gb:Nat),k<=m∧i=.int .i64 k∧RS wr c rb g (rdN S7 k).2 (E6.vals (.slice (some ⟨gb,0,none⟩) m m) gr)∧w.heap.size<=gb∧NB wr gb m (fun j=>if j<k then nq S7 j else 0)∧G2 w wr rb g) (fun i _=>m - (intOf i).toNat)
   case atStart=>exact⟨0,_,Nat.zero_le _,rfl,HS9.out.2.2.1,HS9.out.2.2.2.1,HS9.out.2.2.2.2.1,HS9.out.2.2.2.2.2⟩
   case round =>
    obtain⟨k,gb,hk,rfl,hWr,hB,hN,hGr⟩:=hrel;have HGr:=lh hGr;have v23:=hWr.2.2.1.cell 23 _ (zbk E6 (.slice (some ⟨gb,0,none⟩) m m) gr);clear hGr;by_cases hlt:k<m
    · have cA:=hN.1 k hlt;have hc:=zdS c rb ⟨gb,k,none⟩ _ (rdN S7 k).2 wr (HB.out k) hWr.1 hWr.2.1 hWr.2.2.2.2.2.2.2 cA (hN.2.1 k) hN.2.2 (by show gb≠rb;omega);have HC:=lh hc;have HW:=lh hWr;have HN:=lh hN;clear hc hWr hN cA;go_wp2_with (go_at_call 90;(with_reducible refine HC.out.mono ?_);rintro _ w9 ⟨rfl,wy,hR,hG,rfl⟩;have HS:=lh (ztI HW.out hcw hrw hgw hB HN.out HGr.out hR hG hlt);clear hR hG)
      go_roundw
      case rel=>exact⟨k+1,gb,by omega,by go_num,HS.out.1,hB,HS.out.2.1,HS.out.2.2⟩
      case measure=>simp [intOf];omega
    · have hkm:k=m:=by omega
      have hW8':RS wr c rb g S8 (E6.vals (.slice (some ⟨gb,0,none⟩) m m) gr):=by
       rw[hkm] at hWr;rw[Q8.out];exact hWr
      have hL:L8.length=m:=by rw[P8.out];exact zdK S7 m
      have HX8:=lh (zuC S7 k m L8 P8.out hkm);have HN:=lh hN;clear hWr hN;go_wp2_with (go_at_call 90;(with_reducible refine (C9.out _ _ hW8').mono ?_);rintro _ w9 ⟨rfl,hW9,hG9⟩;have HW9:=lh hW9;have HI9:=lh (HN.out.g2 hG9 (by omega) (by omega));have HG9:=lh (HGr.out.trans hG9);clear hG9 hW9)
      go_end0
      exact⟨rfl,_,HW9.out,⟨HI9.out.is hL (by omega) HX8.out,fun x hx=>by cases hx;exact hB⟩,HG9.out⟩
end Go.Proofs.YtefcmdmfgdcpmaaGreatDoor
