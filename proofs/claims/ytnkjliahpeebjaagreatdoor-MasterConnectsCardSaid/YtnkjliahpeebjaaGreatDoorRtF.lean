/- Catalogs. -/
import Derived.Test.YtnkjliahpeebjaaGreatDoorRnC
set_option maxRecDepth 8000
set_option maxHeartbeats 16000000
open Option renaming some->Z9,none->Z8
open Go renaming Value->Z3,World->Z2,undef->Ze
namespace Go.Proofs.YtnkjliahpeebjaaGreatDoor
open Go.RowKit
variable{e:En}{a:Option Addr}{c n:Nat}{W' W w:Z2}{d g b f i l m:ByteArray}
section
set_option linter.unusedSimpArgs false
theorem qh(E:Operand->Z3)(w:Z2)(dst x t pos af gd)(H:db (E x)=true)(j:(row w (bF (E x))).size=21) :
 (execOp E ⟨dst,.load 25 x,t,pos,af,gd⟩).run Tryz.prog w=.ok (.value (.agg (row w (bF (E x))))) w :=
 kW E w _ 20 _ Tryz.underlying25 rfl (by kernel_rfl) dst x t pos af gd H j
attribute [local go_sem ↓] aZ bf bq fe kF qh
attribute [local go_sem] bn aS aH aK aT fx ak aI aw az aM ah fp bW aQ aL aP aO aR aY aW ap aq cf cM
end
section
attribute [local go_sem ↓] aZ bf bq fe
attribute [local go_sem] bn aS aH aK aT fx ak aI aw az aM ah fp bW aQ aL aP aO aR aY aW ap aq cf cM
end
section
variable {P:Program} {h:Array Oper} {Q:Exit->Act->Z2->Prop}
end
section
attribute [local go_sem ↓] aZ bf bq fe kF
attribute [local go_sem] bn aS aH aK aT fx ak aI aw az aM ah fp bW aQ aL aP aO aR aY aW ap aq df dc ef bN cB dv cK cC
end
section
set_option linter.unusedSimpArgs false
attribute [local go_sem ↓] aZ bf bq fe kF qh
attribute [local go_sem] bn aS aH aK aT fx ak aI aw az aM ah fp bW aQ aL aP aO aR aY aW ap aq cf cM
def SD(w:Z2)(e:En)(a:Option Addr)(n c:Nat)(j:Z2):Prop:=row j (w.heap.size+1)=e.dat/\j.cell? ⟨w.heap.size+1,14,Z8⟩=Z9 (.bool e.uq)/\j.cell? ⟨w.heap.size+1,15,Z8⟩=Z9 (.int .i64 e.cls)/\j.cell? ⟨w.heap.size+1,16,Z8⟩=Z9 (.string e.vol)/\j.cell? ⟨w.heap.size+1,17,Z8⟩=Z9 (.string e.own)/\j.cell? ⟨w.heap.size+1,18,Z8⟩=Z9 (.int .i64 e.cr)/\j.cell? ⟨w.heap.size+1,19,Z8⟩=Z9 (.int .i64 e.ex)/\j.cell? ⟨w.heap.size+1,20,Z8⟩=Z9 (.bool e.ar)/\j.cell? ⟨w.heap.size,23,Z8⟩=Z9 (.slice a n c)/\j.cell? ⟨w.heap.size,24,Z8⟩=Z9 (.int .i64 e.used)/\Hid (Below w.heap.size w j)
theorem SD.keep{j k:Z2}(h:SD w e a n c j)(H:Below j.heap.size j k):SD w e a n c k:=⟨am H h.1 (by rw[bW];decide),ai H h.2.1,ai H h.2.2.1,ai H h.2.2.2.1,ai H h.2.2.2.2.1,ai H h.2.2.2.2.2.1,ai H h.2.2.2.2.2.2.1,ai H h.2.2.2.2.2.2.2.1,ai H h.2.2.2.2.2.2.2.2.1,ai H h.2.2.2.2.2.2.2.2.2.1,lh (bt h.2.2.2.2.2.2.2.2.2.2.o H)⟩
def upd(u:Nat->Z3)(d:Nat)(v:Z3):Nat->Z3:=fun t=>if t=d then v else u t
def bm(w:Z2)(e:En)(a:Option Addr)(n c:Nat)(G:Z3)(u:Nat->Z3):Array Z3:=#[.agg (e.vals (.slice a n c) G),.pointer (Z9 ⟨w.heap.size,0,Z8⟩),.string ⟨#[]⟩,.pointer (Z9 ⟨w.heap.size+1,0,Z8⟩),u 4,Ze,Ze,.pointer (Z9 ⟨w.heap.size,2,Z8⟩),.agg e.dat,.pointer (Z9 ⟨w.heap.size,0,Z8⟩),.int .i64 e.kind,.bool true,.bool true,u 13,u 14,u 15,u 16,u 17,u 18,u 19,u 20,u 21,u 22,u 23,u 24,u 25,u 26,u 27,u 28,u 29,u 30,u 31,u 32,u 33,u 34,u 35,u 36,u 37,u 38,u 39,u 40,u 41,u 42,u 43,Ze,Ze,Ze,Ze,Ze,Ze,Ze,Ze,Ze,Ze,Ze,Ze,Ze,Ze,Ze,Ze,Ze,Ze,Ze,Ze,Ze,Ze,Ze,Ze,Ze,Ze,Ze,Ze,Ze,Ze,Ze,Ze,Ze,Ze,Ze,Ze,Ze,Ze,Ze,Ze,Ze,Ze,Ze,Ze,Ze,Ze,Ze,Ze,Ze,Ze,Ze,Ze,Ze,Ze,Ze,Ze,Ze,Ze,Ze,Ze,Ze,Ze,Ze,Ze,Ze,Ze,Ze,Ze,Ze,Ze,Ze,Ze,Ze,Ze,Ze,Ze,Ze,Ze,Ze,Ze,Ze,Ze,Ze,Ze,Ze,Ze,Ze,Ze,Ze,Ze,Ze]
def FB(w:Z2)(e:En)(b d f g i l m:ByteArray):Nat->Z3->Z2->Prop
 | 0,v,_=>v=.agg e.dat
 | 1,v,W=>IS W v (bK e)
 | 2,v,_=>v=.string b
 | 3,v,_=>v=.pointer (Z9 ⟨w.heap.size+1,14,Z8⟩)
 | 4,v,_=>v=.bool e.uq
 | 5,v,_=>v=.string d
 | 6,v,_=>v=.string (b++d)
 | 7,v,_=>v=.pointer (Z9 ⟨w.heap.size+1,15,Z8⟩)
 | 8,v,_=>v=.int .i64 e.cls
 | 9,v,W=>IS W v [e.cls]
 | 10,v,_=>v=.string f
 | 11,v,_=>v=.string ((b++d)++f)
 | 12,v,_=>v=.pointer (Z9 ⟨w.heap.size+1,16,Z8⟩)
 | 13,v,_=>v=.string e.vol
 | 14,v,_=>v=.string g
 | 15,v,_=>v=.string (((b++d)++f)++g)
 | 16,v,_=>v=.pointer (Z9 ⟨w.heap.size+1,17,Z8⟩)
 | 17,v,_=>v=.string e.own
 | 18,v,_=>v=.string i
 | 19,v,_=>v=.string ((((b++d)++f)++g)++i)
 | 20,v,_=>v=.pointer (Z9 ⟨w.heap.size+1,18,Z8⟩)
 | 21,v,_=>v=.int .i64 e.cr
 | 22,v,_=>v=.pointer (Z9 ⟨w.heap.size+1,19,Z8⟩)
 | 23,v,_=>v=.int .i64 e.ex
 | 24,v,W=>IS W v [e.cr,e.ex]
 | 25,v,_=>v=.string l
 | 26,v,_=>v=.string (((((b++d)++f)++g)++i)++l)
 | 27,v,_=>v=.pointer (Z9 ⟨w.heap.size+1,20,Z8⟩)
 | 28,v,_=>v=.bool e.ar
 | 29,v,_=>v=.string m
 | 30,v,_=>v=.string ((((((b++d)++f)++g)++i)++l)++m)
 | 31,v,_=>v=.string ((((((b++d)++f)++g)++i)++l)++m)
 | _,_,_=>True
def dB(k:Nat):Nat:=if k=31 then 4 else k+13
theorem FB.below{k:Nat}{v:Z3}(h:FB w e b d f g i l m k v W)(H:Below W.heap.size W W'):FB w e b d f g i l m k v W':=by
 unfold FB at h |-;split at h <;> first|exact h|exact IS.below h H
def IVB(w:Z2)(e:En)(a:Option Addr)(n c:Nat)(G:Z3)(b d f g i l m:ByteArray)(L:Array Bool)(x:Act)(W:Z2):Prop:=∃ u,x={ tmps:=bm w e a n c G u,defers:=[] }/\L.size=32/\SD w e a n c W/\∀ k,k<32->L.getD k false=true->FB w e b d f g i l m k (u (dB k)) W
theorem IVB.put{G:Z3}{L:Array Bool}{u:Nat->Z3}(t:L.size=32)(H:SD w e a n c W)(hF:∀ k,k<32->L.getD k false=true->FB w e b d f g i l m k (u (dB k)) W)(k:Nat)(y:k<32)(v:Z3)(o:Below W.heap.size W W')(x:FB w e b d f g i l m k v W'):IVB w e a n c G b d f g i l m (L.setIfInBounds k true) { tmps:=bm w e a n c G (upd u (dB k) v),defers:=[] } W':=by
 refine⟨_,rfl,by simpa using t,H.keep o,fun j s p=>?_⟩
 by_cases h:j=k
 .subst h;unfold upd;rw[if_pos rfl];exact x
 .have r:(L.setIfInBounds k true).getD j false=L.getD j false:=by
   simp [Array.getD_eq_getD_getElem?,show ¬ k=j from fun q=>h q.symm]
  rw[r] at p;unfold upd;rw[if_neg (by unfold dB;split <;> split <;> omega)];exact (hF j s p).below o
end
end Go.Proofs.YtnkjliahpeebjaaGreatDoor
