/- Catalogs. -/
import Derived.Test.YtefcmdmfgdcpmaaGreatDoorRnC
set_option maxRecDepth 8000
set_option maxHeartbeats 16000000
namespace Go.Proofs.YtefcmdmfgdcpmaaGreatDoor
open Go.RowKit
section
set_option linter.unusedSimpArgs false
theorem zmq(ev:Operand->Value)(w:World)(dst x t pos af gd)(h1:zbA (ev x)=true)(h2:(row w (za0 (ev x))).size=21) :
  (execOp ev ⟨dst,.load 37 x,t,pos,af,gd⟩).run Tryz.prog w=.ok (.value (.agg (row w (za0 (ev x))))) w :=
 zb2 ev w _ 20 _ Tryz.underlying37 rfl (by kernel_rfl) dst x t pos af gd h1 h2
attribute [local go_sem ↓] zaV zaW zaz zew zkZ zmq
attribute [local go_sem] zav zap zal zae zaq zbG zai zaw zao zas zan zaa zbU zb1 zaj zaf zaA zax zak zag zar zaC zaE zbk zbW
end
section
attribute [local go_sem ↓] zaV zaW zaz zew
attribute [local go_sem] zav zap zal zae zaq zbG zai zaw zao zas zan zaa zbU zb1 zaj zaf zaA zax zak zag zar zaC zaE zbk zbW
end
section
variable {P:Program} {ops:Array Oper} {Q:Exit->Act->World->Prop}
end
section
attribute [local go_sem ↓] zaV zaW zaz zew zkZ
attribute [local go_sem] zav zap zal zae zaq zbG zai zaw zao zas zan zaa zbU zb1 zaj zaf zaA zax zak zag zar zaC zaE zbX zbK zbL zbg zbb zbM zbs zbl
end
section
set_option linter.unusedSimpArgs false
attribute [local go_sem ↓] zaV zaW zaz zew zkZ zmq
attribute [local go_sem] zav zap zal zae zaq zbG zai zaw zao zas zan zaa zbU zb1 zaj zaf zaA zax zak zag zar zaC zaE zbk zbW
def SD(w:World)(e:En)(a:Option Addr)(n c:Nat)(w':World):Prop:=row w' (w.heap.size+1)=e.dat∧w'.cell? ⟨w.heap.size+1,14,none⟩=some (.bool e.uq)∧w'.cell? ⟨w.heap.size+1,15,none⟩=some (.int .i64 e.cls)∧w'.cell? ⟨w.heap.size+1,16,none⟩=some (.string e.vol)∧w'.cell? ⟨w.heap.size+1,17,none⟩=some (.string e.own)∧w'.cell? ⟨w.heap.size+1,18,none⟩=some (.int .i64 e.cr)∧w'.cell? ⟨w.heap.size+1,19,none⟩=some (.int .i64 e.ex)∧w'.cell? ⟨w.heap.size+1,20,none⟩=some (.bool e.ar)∧w'.cell? ⟨w.heap.size,23,none⟩=some (.slice a n c)∧w'.cell? ⟨w.heap.size,24,none⟩=some (.int .i64 e.used)∧Hid (Below w.heap.size w w')
theorem SD.keep{w:World}{e:En}{a:Option Addr}{n c:Nat}{w1 w2:World}(h:SD w e a n c w1)(hb:Below w1.heap.size w1 w2):SD w e a n c w2:=⟨zaB hb h.1 (by rw[zb1];decide),zac hb h.2.1,zac hb h.2.2.1,zac hb h.2.2.2.1,zac hb h.2.2.2.2.1,zac hb h.2.2.2.2.2.1,zac hb h.2.2.2.2.2.2.1,zac hb h.2.2.2.2.2.2.2.1,zac hb h.2.2.2.2.2.2.2.2.1,zac hb h.2.2.2.2.2.2.2.2.2.1,lh (bt h.2.2.2.2.2.2.2.2.2.2.out hb)⟩
def upd(u:Nat->Value)(d:Nat)(v:Value):Nat->Value:=fun t=>if t=d then v else u t
def frB(w:World)(e:En)(a:Option Addr)(n c:Nat)(gr:Value)(u:Nat->Value):Array Value:=#[.agg (e.vals (.slice a n c) gr),.pointer (some ⟨w.heap.size,0,none⟩),.string ⟨#[]⟩,.pointer (some ⟨w.heap.size+1,0,none⟩),u 4,undef,undef,.pointer (some ⟨w.heap.size,2,none⟩),.agg e.dat,.pointer (some ⟨w.heap.size,0,none⟩),.int .i64 e.kind,.bool true,.bool true,u 13,u 14,u 15,u 16,u 17,u 18,u 19,u 20,u 21,u 22,u 23,u 24,u 25,u 26,u 27,u 28,u 29,u 30,u 31,u 32,u 33,u 34,u 35,u 36,u 37,u 38,u 39,u 40,u 41,u 42,u 43,undef,undef,undef,undef,undef,undef,undef,undef,undef,undef,undef,undef,undef,undef,undef,undef,undef,undef,undef,undef,undef,undef,undef,undef,undef,undef,undef,undef,undef,undef,undef,undef,undef,undef,undef,undef,undef,undef,undef,undef,undef,undef,undef,undef,undef,undef,undef,undef,undef,undef,undef,undef,undef,undef,undef,undef,undef,undef,undef,undef,undef,undef,undef,undef,undef,undef,undef,undef,undef,undef,undef,undef,undef,undef,undef,undef,undef,undef,undef,undef,undef,undef,undef,undef,undef,undef,undef,undef,undef,undef,undef]
def FB(w:World)(e:En)(A0 A1 A2 A3 A4 A5 A6:ByteArray):Nat->Value->World->Prop
 | 0,v,_=>v=.agg e.dat
 | 1,v,W=>IS W v (zfU e)
 | 2,v,_=>v=.string A0
 | 3,v,_=>v=.pointer (some ⟨w.heap.size+1,14,none⟩)
 | 4,v,_=>v=.bool e.uq
 | 5,v,_=>v=.string A1
 | 6,v,_=>v=.string (A0++A1)
 | 7,v,_=>v=.pointer (some ⟨w.heap.size+1,15,none⟩)
 | 8,v,_=>v=.int .i64 e.cls
 | 9,v,W=>IS W v [e.cls]
 | 10,v,_=>v=.string A2
 | 11,v,_=>v=.string ((A0++A1)++A2)
 | 12,v,_=>v=.pointer (some ⟨w.heap.size+1,16,none⟩)
 | 13,v,_=>v=.string e.vol
 | 14,v,_=>v=.string A3
 | 15,v,_=>v=.string (((A0++A1)++A2)++A3)
 | 16,v,_=>v=.pointer (some ⟨w.heap.size+1,17,none⟩)
 | 17,v,_=>v=.string e.own
 | 18,v,_=>v=.string A4
 | 19,v,_=>v=.string ((((A0++A1)++A2)++A3)++A4)
 | 20,v,_=>v=.pointer (some ⟨w.heap.size+1,18,none⟩)
 | 21,v,_=>v=.int .i64 e.cr
 | 22,v,_=>v=.pointer (some ⟨w.heap.size+1,19,none⟩)
 | 23,v,_=>v=.int .i64 e.ex
 | 24,v,W=>IS W v [e.cr,e.ex]
 | 25,v,_=>v=.string A5
 | 26,v,_=>v=.string (((((A0++A1)++A2)++A3)++A4)++A5)
 | 27,v,_=>v=.pointer (some ⟨w.heap.size+1,20,none⟩)
 | 28,v,_=>v=.bool e.ar
 | 29,v,_=>v=.string A6
 | 30,v,_=>v=.string ((((((A0++A1)++A2)++A3)++A4)++A5)++A6)
 | 31,v,_=>v=.string ((((((A0++A1)++A2)++A3)++A4)++A5)++A6)
 | _,_,_=>True
def dB(k:Nat):Nat:=if k=31 then 4 else k+13
theorem FB.below{w:World}{e:En}{A0 A1 A2 A3 A4 A5 A6:ByteArray}{k:Nat}{v:Value}{W W':World}(h:FB w e A0 A1 A2 A3 A4 A5 A6 k v W)(hb:Below W.heap.size W W'):FB w e A0 A1 A2 A3 A4 A5 A6 k v W':=by
 unfold FB at h ⊢;split at h <;> first|exact h|exact IS.below h hb
def IVB(w:World)(e:En)(a:Option Addr)(n c:Nat)(gr:Value)(A0 A1 A2 A3 A4 A5 A6:ByteArray)(listed:Array Bool)(x:Act)(W:World):Prop:=∃ u,x={ tmps:=frB w e a n c gr u,defers:=[] }∧listed.size=32∧SD w e a n c W∧∀ k,k<32->listed.getD k false=true->FB w e A0 A1 A2 A3 A4 A5 A6 k (u (dB k)) W
theorem IVB.put{w:World}{e:En}{a:Option Addr}{n c:Nat}{gr:Value}{A0 A1 A2 A3 A4 A5 A6:ByteArray}{listed:Array Bool}{W W':World}{u:Nat->Value}(hs:listed.size=32)(hSD:SD w e a n c W)(hF:∀ k,k<32->listed.getD k false=true->FB w e A0 A1 A2 A3 A4 A5 A6 k (u (dB k)) W)(k:Nat)(hk:k<32)(v:Value)(hb:Below W.heap.size W W')(hv:FB w e A0 A1 A2 A3 A4 A5 A6 k v W'):IVB w e a n c gr A0 A1 A2 A3 A4 A5 A6 (listed.setIfInBounds k true) { tmps:=frB w e a n c gr (upd u (dB k) v),defers:=[] } W':=by
 refine⟨_,rfl,by simpa using hs,hSD.keep hb,fun j hj hl=>?_⟩
 by_cases h:j=k
 · subst h;unfold upd;rw[if_pos rfl];exact hv
 · have h1:(listed.setIfInBounds k true).getD j false=listed.getD j false:=by
    simp [Array.getD_eq_getD_getElem?,show ¬ k=j from fun q=>h q.symm]
   rw[h1] at hl;unfold upd;rw[if_neg (by unfold dB;split <;> split <;> omega)];exact (hF j hj hl).below hb
end
end Go.Proofs.YtefcmdmfgdcpmaaGreatDoor
