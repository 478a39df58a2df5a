/- Catalogs. -/
import Derived.Laws.CopyOwn
import Derived.Test.YtefcmdmfgdcpmaaGreatDoorFoC
import Derived.Laws.EntriesVeiled
set_option maxRecDepth 4000
set_option maxHeartbeats 800000
namespace Go.Proofs.YtefcmdmfgdcpmaaGreatDoor
open Go.RowKit
section
theorem EB.new(w:World)(cs:Array Value)(t:TypeId):EB (w.alloc (.cells cs t)) w.heap.size cs:=⟨zai w cs t (0,0),fun o=>by simp,by simp⟩
theorem CL.new(w:World)(t:TypeId):CL (w.alloc (.cells #[.string ⟨#[]⟩,.pointer none] t)) w.heap.size []:=by
 refine⟨⟨#[]⟩,rfl,?_,?_,fun o=>by simp⟩ <;> simp [go_sem]
theorem WS.new(w:World)(cs:Array Value)(t t':TypeId):WS ((w.alloc (.cells cs t)).alloc (.cells #[.string ⟨#[]⟩,.pointer none] t')) (w.heap.size+1) w.heap.size [] cs:=by
 have h:=CL.new (w.alloc (.cells cs t)) t';rw[show (w.alloc (.cells cs t)).heap.size=w.heap.size+1 by simp] at h;exact⟨h,(EB.new w cs t).of_block (heap_alloc_old _ _ (by simp)) (by simp),by omega,by simp⟩
def zb5(l:Int)(a b c:Nat):Array Value:=#[.int .u8 l,.func (.func a) #[] #[],.func (.func b) #[] #[],.func (.func c) #[] #[]]
def zdv(K:Nat):Prop:=∀ (args:Array Value) (w:World),(callFunc K args).run Tryz.prog w=.ok (.enter K args) w
def Writes(w:World)(K:Nat)(cs:Array Value)(l:List UInt8):Prop :=
 ∀ W c g,Below w.heap.size w W->w.heap.size<=c->w.heap.size<=g->WS W c g [] cs ->
  Calls Tryz.prog K #[.pointer (some ⟨c,0,none⟩),.pointer (some ⟨g,0,none⟩)] W fun r w'=>r=.returned (.tuple #[])∧WS w' c g l cs∧W.grownBy w' (some c)
theorem zlg(li:Int)(A K B:Nat)(cs:Array Value)(l:List UInt8)(w:World)(hE:zdv K)(h:Writes w K cs l) :
  Calls Tryz.prog 99 #[.agg (zb5 li A K B),.agg cs] w fun r w'=>∃ t,r=.returned (.string t)∧Ds.bl t=l∧Below w.heap.size w w':=by
 have hW:=WS.new (w.alloc (.cells #[.int .u8 li,.func (.func A) #[] #[],.func (.func K) #[] #[],.func (.func B) #[] #[]] 81)) cs 40 87;rw[show (w.alloc (.cells #[.int .u8 li,.func (.func A) #[] #[],.func (.func K) #[] #[],.func (.func B) #[] #[]] 81)).heap.size=w.heap.size+1 by simp] at hW;have hc:=h _ _ _ (by exact zbo) (by omega) (by omega) hW;have HC:=lh hc;clear hc hW h;unfold zb5;unfold zdv at hE;go_enter Tryz.func99,Tryz.ntmps99
 go_wp2_with ((with_reducible refine HC.out.mono ?_);rintro _ w' ⟨rfl,⟨⟨s,hs,hcw⟩,_⟩,hG⟩;have c0:=hcw.1;have HG:=lh hG;have HS:=lh hs;clear hG hs)
 go_ret
 exact⟨s,rfl,HS.out,Below.trans (by exact zbo) (zaU HG.out (by omega) (by simp;omega))⟩
def Reads(w:World)(K:Nat)(l:List UInt8)(cs:Array Value)(st:List UInt8 × Nat)(P:Nat->World->Array Value->Prop):Prop :=
 ∀ W c rb g,Below w.heap.size w W->w.heap.size<=c->w.heap.size<=rb->w.heap.size<=g->RS W c rb g (l,0) cs ->
  Calls Tryz.prog K #[.pointer (some ⟨c,0,none⟩),.pointer (some ⟨g,0,none⟩)] W fun r w'=>r=.returned (.tuple #[])∧G2 W w' rb g∧∃ cs',RS w' c rb g st cs'∧cs'.size=33∧zaM cs'.toList=true∧P W.heap.size w' cs'
def Stable(P:Nat->World->Array Value->Prop):Prop:=∀ b w1 w2 cs,P b w1 cs->w1.heap.size<=w2.heap.size->(∀ k,b<=k->k<w1.heap.size->w2.heap[k]?=w1.heap[k]?)->P b w2 cs
def zcells(k:Int)(n:ByteArray):Array Value:=({ En.zero with kind:=k,name:=n }:En).vals (.slice none 0 0) (.slice none 0 0)
def zlit(k:Int)(n:ByteArray):Array Value:=#[.int .i64 k,.string n,.int .i64 0,.int .i64 0,.int .i64 0,.int .i64 0,.int .i64 0,.int .i64 0,.int .i64 0,.int .i64 0,.int .i64 0,.int .i64 0,.int .i64 0,.int .i64 0,.int .i64 0,.int .i64 0,.bool false,.int .i64 0,.string ⟨#[]⟩,.string ⟨#[]⟩,.int .i64 0,.int .i64 0,.bool false,.slice none 0 0,.int .i64 0,.int .i64 0,.int .i64 0,.bool false,.string ⟨#[]⟩,.string ⟨#[]⟩,.int .i64 0,.int .i64 0,.slice none 0 0]
theorem zbE(k:Int)(n:ByteArray):zlit k n=zcells k n:=by unfold zcells En.vals zlit;rfl
theorem zgJ{w:World}{g n:Nat}{cs:Array Value}(h:EB w g cs)(hn:cs.size=n)(h0:0<n):Held w g n:=⟨by rw[h.1,hn],h0,h.2.1⟩
theorem Held.of_block{w w':World}{g n:Nat}(h:Held w g n)(k:w'.heap[g]?=w.heap[g]?):Held w' g n :=
 ⟨by have:=h.1;unfold row at *;rw[k];exact this,h.2.1,fun o=>(World.frozen?_of_block (a:=⟨g,o,none⟩) k).trans (h.2.2 o)⟩
theorem ba1(w w1:World)(f e z x:Array Value)(t1 t2 t3 t4:TypeId)(v:Value)(hf:f[2]?=some v)(hz:z.size=33)(hb:Below ((((w.alloc (.cells f t1)).alloc (.cells e t2)).alloc (.cells z t3)).alloc (.cells x t4)).heap.size ((((w.alloc (.cells f t1)).alloc (.cells e t2)).alloc (.cells z t3)).alloc (.cells x t4)) w1) :
  w.heap.size+4<=w1.heap.size∧(∀ o1 o2,((w1.alloc o1).alloc o2).cell? ⟨w.heap.size,2,none⟩=some v)∧EB w1 (w.heap.size+1+1+1) x∧Held w1 (w.heap.size+1+1) 33∧Below w.heap.size w w1:=by
 have s1:(w.alloc (.cells f t1)).heap.size=w.heap.size+1:=by simp
 have s2:((w.alloc (.cells f t1)).alloc (.cells e t2)).heap.size=w.heap.size+1+1:=by simp
 have s3:(((w.alloc (.cells f t1)).alloc (.cells e t2)).alloc (.cells z t3)).heap.size=w.heap.size+1+1+1:=by simp
 have s4:((((w.alloc (.cells f t1)).alloc (.cells e t2)).alloc (.cells z t3)).alloc (.cells x t4)).heap.size=w.heap.size+1+1+1+1:=by simp
 rw[s4] at hb;have hs:=hb.size;rw[s4] at hs;have e4:=EB.new (((w.alloc (.cells f t1)).alloc (.cells e t2)).alloc (.cells z t3)) x t4;rw[s3] at e4;have e3:=(EB.new ((w.alloc (.cells f t1)).alloc (.cells e t2)) z t3);rw[s2] at e3;have e3:=e3.of_block (heap_alloc_old (((w.alloc (.cells f t1)).alloc (.cells e t2)).alloc (.cells z t3)) (.cells x t4) (by omega)) (by rw[s3,s4];omega);refine⟨hs,fun o1 o2=>?_,e4.of_block (hb.block _ (by omega)) (by rw[s4];omega),zgJ (e3.of_block (hb.block _ (by omega)) (by rw[s4];omega)) hz (by decide),?_⟩
 · rw[World.cell?_of_block (a:=⟨w.heap.size,2,none⟩) (heap_alloc_old _ _ (by simp;omega)),World.cell?_of_block (a:=⟨w.heap.size,2,none⟩) (heap_alloc_old _ _ (by show w.heap.size<_;omega)),hb.cell (p:=⟨w.heap.size,2,none⟩) (by show w.heap.size<_;omega)];rw[World.cell?_of_block (a:=⟨w.heap.size,2,none⟩) (heap_alloc_old _ _ (by show w.heap.size<_;omega)),World.cell?_of_block (a:=⟨w.heap.size,2,none⟩) (heap_alloc_old _ _ (by show w.heap.size<_;omega)),World.cell?_of_block (a:=⟨w.heap.size,2,none⟩) (heap_alloc_old _ _ (by show w.heap.size<_;omega)),cell_of_row _ w.heap.size 2 f t1 (0,0) (heap_alloc_new w _)];exact hf
 · exact ((((Below.refl w.heap.size w).alloc (Nat.le_refl _) _).alloc (by omega) _).alloc (by omega) _).alloc (by omega) _ |>.trans (hb.mono (by omega))
theorem ba2(w1:World)(g:Nat)(t:ByteArray)(l:List UInt8)(x:Array Value)(t1 t2:TypeId)(ht:Ds.bl t=l)(hx:EB w1 g x) :
  RS ((w1.alloc (.cells #[.string t,.int .i64 0] t1)).alloc (.cells #[.string ⟨#[]⟩,.pointer (some ⟨w1.heap.size,0,none⟩)] t2)) (w1.heap.size+1) w1.heap.size g (l,0) x:=by
 have s1:(w1.alloc (.cells #[.string t,.int .i64 0] t1)).heap.size=w1.heap.size+1:=by simp
 have e1:=hx.of_block (heap_alloc_old w1 (.cells #[.string t,.int .i64 0] t1) hx.2.2) (by simp);have e2:=e1.of_block (heap_alloc_old (w1.alloc (.cells #[.string t,.int .i64 0] t1)) (.cells #[.string ⟨#[]⟩,.pointer (some ⟨w1.heap.size,0,none⟩)] t2) e1.2.2) (by simp);have h1:=hx.2.2;refine⟨?_,⟨t,ht,?_,?_,fun o=>?_⟩,e2,by omega,by omega,by omega,by simp,by simp;omega⟩
 · unfold CI;have:=cell_of_row _ _ 1 _ t2 (0,0) (heap_alloc_new (w1.alloc (.cells #[.string t,.int .i64 0] t1)) (.cells #[.string ⟨#[]⟩,.pointer (some ⟨w1.heap.size,0,none⟩)] t2));rw[s1] at this;rw[this];rfl
 · rw[World.cell?_of_block (a:=⟨w1.heap.size,0,none⟩) (heap_alloc_old _ _ (by simp)),cell_of_row _ w1.heap.size 0 _ t1 (0,0) (heap_alloc_new w1 _)];rfl
 · rw[World.cell?_of_block (a:=⟨w1.heap.size,1,none⟩) (heap_alloc_old _ _ (by simp)),cell_of_row _ w1.heap.size 1 _ t1 (0,0) (heap_alloc_new w1 _)];rfl
 · simp
theorem zaz(ev:Operand->Value)(w:World)(dst x y t' pos af gd)(h1:zbA (ev x)=true)(h2:Held w (za0 (ev x)) 33)(h3:zbC (ev y)=true)(h4:(zaK (ev y)).size=33)(h5:zaM (zaK (ev y)).toList=true) :
  (execOp ev ⟨dst,.store 40 x y,t',pos,af,gd⟩).run Tryz.prog w=.ok .skip (w.setRow (za0 (ev x)) (zaK (ev y))) :=
 zbN ev w _ 32 (by kernel_rfl) dst x y t' pos af gd h1 h2 h3 h4 h5
attribute [local go_sem ↓] zaV zaW zaz
attribute [local go_sem] zav zap zal zae zaq zai zaw zao zas zan zaC zaE zaa zaj zaf zaA zax zak zag zar
theorem zqY(li:Int)(A K B:Nat)(e:En)(al gr:Value)(l:List UInt8)(st:List UInt8 × Nat)(P:Nat->World->Array Value->Prop)(w:World)(hE:zdv K)(h:Writes w K (e.vals al gr) l)(hr:Reads w K l (zcells e.kind e.name) st P)(hP:Stable P) :
  Calls Tryz.prog 161 #[.agg (zb5 li A K B),.agg (e.vals al gr)] w fun r w'=>∃ cs' b,r=.returned (.tuple #[.agg cs',.bool (decide (Rd.fin st=0))])∧cs'.size=33∧zaM cs'.toList=true∧w.heap.size<=b∧P b w' cs'∧Below w.heap.size w w':=by
 have R1:∀ f o1 o2:Obj,row ((((w.alloc f).alloc (.cells (e.vals al gr) 40)).alloc o1).alloc o2) (w.heap.size+1)=e.vals al gr:=fun f o1 o2=>zcP (by
  rw[heap_alloc_old _ _ (by simp),heap_alloc_old _ _ (by simp)];have:=heap_alloc_new (w.alloc f) (.cells (e.vals al gr) 40);simpa using this)
 have hbody:=fun W (b:Below w.heap.size w W)=>zlg li A K B (e.vals al gr) l W hE (fun W' c g b1 c1 g1=>h W' c g (b.trans (b1.mono b.size)) (Nat.le_trans b.size c1) (Nat.le_trans b.size g1))
 unfold zb5 at hbody ⊢;unfold zdv at hE;have HB:=lh hbody;unfold Reads at hr;have HR:=lh hr;clear hbody hr h;go_enter Tryz.func161,Tryz.ntmps161
 go_wp2_with (first
  | (go_at_call 99;(with_reducible refine (HB.out _ (by exact zbo)).mono ?_);rintro _ w1 ⟨t,rfl,ht,hb⟩;obtain⟨z1,z2,z3,z4,z5⟩:=ba1 _ _ _ _ _ _ _ _ _ _ (.func (.func K) #[] #[]) rfl rfl hb;have HT:=lh ht;have z3':EB w1 _ (zcells e.kind e.name):=(by rw[<-zbE];exact z3);have HX:=lh z3';clear hb ht z3 z3')
  | (go_at_call 31;(with_reducible refine (zgd _ _).mono ?_);rintro _ w2 ⟨rfl,rfl⟩)
  | ((with_reducible refine (HR.out _ _ _ _ (by exact zbo) (by omega) (by omega) (by omega) (ba2 _ _ _ _ _ _ _ HT.out HX.out)).mono ?_);rintro _ w3 ⟨rfl,hG,cs',hRS,hcs,hone,hPP⟩;have Q1:=hRS.1;unfold CI at Q1;have HG:=lh hG;have HRS:=lh hRS;have HPP:=lh hPP;clear hG hRS hPP))
 have R3:=HRS.out.2.2.1.1
 have H3:Held w3 (w.heap.size+1+1) 33:=z4.of_block (by
  rw[HG.out.block _ (by simp;omega) (by omega) (by omega),heap_alloc_old _ _ (by simp;omega),heap_alloc_old _ _ (by omega)])
 have he:Calls Tryz.prog 33 #[.pointer (some ⟨w1.heap.size,0,none⟩)] w3.drew fun r w'=>r=.returned (.int .i64 (Rd.fin st))∧w3.drew=w':=zqk w1.heap.size st w3.drew HRS.out.2.1
 have HE:=lh he;have Q2:w3.drew.cell? ⟨w1.heap.size+1,1,none⟩=some (.pointer (some ⟨w1.heap.size,0,none⟩)):=Q1;clear he;go_region_law (first|(go_simp;go_at_call 33;(with_reducible refine HE.out.mono ?_);rintro _ w4 ⟨rfl,rfl⟩))
 all_goals
  go_wp2
  have hrow:row (w3.drew.setRow (w.heap.size+1+1) cs') (w.heap.size+1+1)=cs':=zaQ H3.drew cs';refine bodyPost_ret (zaL rfl Tryz.underlying40 rfl (by kernel_rfl) _ _ (w.heap.size+1+1) rfl (by rw[hrow];exact hcs)) rfl ?_
  rw[hrow]
  have hbool:((Rd.fin st:Int)==0)=decide (Rd.fin st=0):=by
   rw[Bool.eq_iff_iff,beq_iff_eq,decide_eq_true_eq];omega
  have hB1:Below w.heap.size w ((w1.alloc (.cells #[.string t,.int .i64 0] 148)).alloc (.cells #[.string ⟨#[]⟩,.pointer (some ⟨w1.heap.size,0,none⟩)] 87)):=(z5.alloc (by omega) _).alloc (by simp;omega) _;have hB2:=(hB1.trans (HG.out.below (by omega) (by omega) (by simp;omega))).drew;exact⟨cs',_,congrArg (fun b=>Ending.returned (.tuple #[.agg cs',.bool b])) hbool,hcs,hone,by simp;omega,hP _ _ _ _ HPP.out (by simp) (fun k hk _=>zaX _ _ _ _ (by simp at hk;omega)),below_setRow hB2 (by omega) _⟩
end
section
attribute [local go_sem ↓] zaV zaW
attribute [local go_sem] zap zal zae zaq zai zaw zao zas zan zaC zaE zaa zaj zaf zaA zax zak zag zar zaG
theorem zmx(c:Array Value)(t:TypeId)(k:Int)(v:Value)(i:Nat)(h:Instr.findNow (.int .i64) (.int .i64 k) fe5.toList 0=some (some (i,v)))(w:World) :
  (Instr.lookup 76 (.map (some (w.heap.size+1))) (.int .i64 k) true).run Tryz.prog ((w.alloc (.cells c t)).alloc (.map fe5 5)).drew=.ok (.tuple #[v,.bool true]) ((w.alloc (.cells c t)).alloc (.map fe5 5)).drew ∧
  (∀ o,(Instr.lookup 76 (.map (some (w.heap.size+1))) (.int .i64 k) true).run Tryz.prog (((w.alloc (.cells c t)).alloc (.map fe5 5)).alloc o).drew=.ok (.tuple #[v,.bool true]) (((w.alloc (.cells c t)).alloc (.map fe5 5)).alloc o).drew) ∧
  (∀ o,(Instr.lookup 76 (.map (some (w.heap.size+1+1))) (.int .i64 k) true).run Tryz.prog (((w.alloc (.cells c t)).alloc o).alloc (.map fe5 5)).drew=.ok (.tuple #[v,.bool true]) (((w.alloc (.cells c t)).alloc o).alloc (.map fe5 5)).drew):=by
 have s1:(w.alloc (.cells c t)).heap.size=w.heap.size+1:=by simp
 refine⟨?_,fun o=>?_,fun o=>?_⟩
 · exact zoE _ _ k v i (by have:=heap_alloc_new (w.alloc (.cells c t)) (.map fe5 5);rw[s1] at this;exact this) h
 · refine zoE _ _ k v i ?_ h
   have:=heap_alloc_new (w.alloc (.cells c t)) (.map fe5 5);rw[s1] at this;exact (heap_alloc_old ((w.alloc (.cells c t)).alloc (.map fe5 5)) o (by simp)).trans this
 · have s2:((w.alloc (.cells c t)).alloc o).heap.size=w.heap.size+1+1:=by simp
   exact zoE _ _ k v i (by have:=heap_alloc_new ((w.alloc (.cells c t)).alloc o) (.map fe5 5);rw[s2] at this;exact this) h
def VS(w wx:World)(f:Nat)(fv cs:Array Value):Prop:=row wx f=fv∧row wx w.heap.size=cs∧f<wx.heap.size∧w.heap.size<wx.heap.size∧Below w.heap.size w wx
theorem VS.below{w wx wy:World}{f:Nat}{fv cs:Array Value}(h:VS w wx f fv cs)(hb:Below wx.heap.size wx wy):VS w wy f fv cs:=by
 obtain⟨h1,h2,h3,h4,h5⟩:=h;refine⟨?_,?_,Nat.lt_of_lt_of_le h3 hb.size,Nat.lt_of_lt_of_le h4 hb.size,bt h5 hb⟩
 · unfold row at *;rw[hb.block f h3];exact h1
 · unfold row at *;rw[hb.block _ h4];exact h2
theorem VS.facts{w wx:World}{f li A K B:Nat}{e:En}{al gr:Value}(h:VS w wx f (zb5 li A K B) (e.vals al gr)) :
  wx.cell? ⟨f,0,none⟩=some (.int .u8 li)∧wx.cell? ⟨f,1,none⟩=some (.func (.func A) #[] #[])∧wx.cell? ⟨f,2,none⟩=some (.func (.func K) #[] #[])∧wx.cell? ⟨f,3,none⟩=some (.func (.func B) #[] #[])∧wx.cell? ⟨w.heap.size,1,none⟩=some (.string e.name)∧row wx w.heap.size=e.vals al gr :=
 ⟨zah h.1 0 _ rfl,zah h.1 1 _ rfl,zah h.1 2 _ rfl,zah h.1 3 _ rfl,zah h.2.1 1 _ (zaE e al gr),h.2.1⟩
theorem VS.mk1(w:World)(fv cs:Array Value)(t t':TypeId):VS w (((w.alloc (.cells cs t)).alloc (.map fe5 5)).alloc (.cells fv t')).drew (w.heap.size+1+1) fv cs:=by
 have s1:(w.alloc (.cells cs t)).heap.size=w.heap.size+1:=by simp
 have s2:((w.alloc (.cells cs t)).alloc (.map fe5 5)).heap.size=w.heap.size+1+1:=by simp
 refine⟨?_,?_,by simp,by simp;omega,by exact zbo⟩
 · rw[zas,<-s2];exact zai _ _ _ _
 · rw[zas];exact zcP (t:=t) (fr:=(0,0)) ((heap_alloc_old _ _ (by simp;omega)).trans ((heap_alloc_old _ _ (by simp)).trans (heap_alloc_new w _)))
theorem VS.mk2(w:World)(fv cs:Array Value)(t t':TypeId):VS w (((w.alloc (.cells cs t)).alloc (.cells fv t')).alloc (.map fe5 5)).drew (w.heap.size+1) fv cs:=by
 have s1:(w.alloc (.cells cs t)).heap.size=w.heap.size+1:=by simp
 refine⟨?_,?_,by simp,by simp;omega,by exact zbo⟩
 · rw[zas];have:=heap_alloc_new (w.alloc (.cells cs t)) (.cells fv t');rw[s1] at this;exact zcP (t:=t') (fr:=(0,0)) ((heap_alloc_old _ _ (by simp)).trans this)
 · rw[zas];exact zcP (t:=t) (fr:=(0,0)) ((heap_alloc_old _ _ (by simp;omega)).trans ((heap_alloc_old _ _ (by simp)).trans (heap_alloc_new w _)))
theorem VS.row_alloc{w wx:World}{f:Nat}{fv cs:Array Value}(h:VS w wx f fv cs)(o:Obj):row (wx.alloc o) w.heap.size=cs:=by
 have h2:=h.2.1;unfold row at *;rw[heap_alloc_old wx o h.2.2.2.1];exact h2
theorem zfJ(li A K G i:Nat)(e:En)(al gr:Value)(w:World)(hE:zdv A)(hk:Instr.findNow (.int .i64) (.int .i64 e.kind) fe5.toList 0=some (some (i,.agg (zb5 li A K G))))(hn:∀ W,Below w.heap.size w W->Calls Tryz.prog A #[.string e.name] W fun r w'=>r=.returned (.bool false)∧Below W.heap.size W w') :
  Calls Tryz.prog 98 #[.agg (e.vals al gr)] w fun r w'=>r=.returned (.bool false)∧Below w.heap.size w w':=by
 obtain⟨hl1,hl2,hl3⟩:=zmx (e.vals al gr) 40 e.kind _ i hk w;unfold zdv at hE;unfold zb5 at hl1 hl2 hl3;have HN:=lh hn;clear hn hk;go_enter Tryz.func98,Tryz.ntmps98
 go_upto_region 1 with fail
 go_cut [3,4] (fun t3 t4 wx=>∃ f,t3=.pointer (some ⟨f,0,none⟩)∧t4=.bool true∧VS w wx f (zb5 li A K G) (e.vals al gr))
 case first =>
  go_region_law (first|(go_simp;go_at_call 29;(with_reducible refine (zco _).mono ?_);rintro _ w1 ⟨rfl,rfl⟩))
  all_goals
   go_wp2_with fail
   go_meet
   first|exact⟨_,rfl,rfl,VS.mk1 w _ _ _ _⟩|exact⟨_,rfl,rfl,VS.mk2 w _ _ _ _⟩
 case rest =>
  obtain⟨f,rfl,rfl,V⟩:=hcut;obtain⟨f0,f1,f2,f3,n1,r1⟩:=V.facts;have B:=V.2.2.2.2;go_wp2_with (first|((with_reducible refine (HN.out _ B).mono ?_);rintro _ w2 ⟨rfl,hb⟩;have V:=V.below hb;clear hb))
  go_ret
  exact⟨rfl,V.2.2.2.2⟩
theorem zdk(li A K G i:Nat)(e:En)(al gr:Value)(w:World)(hE:zdv A)(hE2:zdv G)(hk:Instr.findNow (.int .i64) (.int .i64 e.kind) fe5.toList 0=some (some (i,.agg (zb5 li A K G))))(hn:∀ W,Below w.heap.size w W->Calls Tryz.prog A #[.string e.name] W fun r w'=>r=.returned (.bool true)∧Below W.heap.size W w')(hv:∀ W,Below w.heap.size w W->Calls Tryz.prog G #[.agg (e.vals al gr)] W fun r w'=>r=.returned (.bool false)∧Below W.heap.size W w') :
  Calls Tryz.prog 98 #[.agg (e.vals al gr)] w fun r w'=>r=.returned (.bool false)∧Below w.heap.size w w':=by
 obtain⟨hl1,hl2,hl3⟩:=zmx (e.vals al gr) 40 e.kind _ i hk w;unfold zdv at hE hE2;unfold zb5 at hl1 hl2 hl3;have HN:=lh hn;have HV:=lh hv;clear hn hk hv;go_enter Tryz.func98,Tryz.ntmps98
 go_upto_region 1 with fail
 go_cut [3,4] (fun t3 t4 wx=>∃ f,t3=.pointer (some ⟨f,0,none⟩)∧t4=.bool true∧VS w wx f (zb5 li A K G) (e.vals al gr))
 case first =>
  go_region_law (first|(go_simp;go_at_call 29;(with_reducible refine (zco _).mono ?_);rintro _ w1 ⟨rfl,rfl⟩))
  all_goals
   go_wp2_with fail
   go_meet
   first|exact⟨_,rfl,rfl,VS.mk1 w _ _ _ _⟩|exact⟨_,rfl,rfl,VS.mk2 w _ _ _ _⟩
 case rest =>
  obtain⟨f,rfl,rfl,V⟩:=hcut;obtain⟨f0,f1,f2,f3,n1,r1⟩:=V.facts;have B:=V.2.2.2.2;go_wp2_with (first|((with_reducible refine (HN.out _ B).mono ?_);rintro _ w2 ⟨rfl,hb⟩;have V:=V.below hb;obtain⟨g0,g1,g2,g3,m1,s1⟩:=V.facts;have B:=V.2.2.2.2;clear hb)|((with_reducible refine (HV.out _ B).mono ?_);rintro _ w3 ⟨rfl,hb⟩;have B:=bt B hb))
  go_ret
  exact⟨rfl,B⟩
theorem zfI(li A K G i:Nat)(e:En)(al gr:Value)(l:List UInt8)(st:List UInt8 × Nat)(P:Nat->World->Array Value->Prop)(z:Bool)(w:World)(hE:zdv A)(hE2:zdv G)(hE3:zdv K)(hk:Instr.findNow (.int .i64) (.int .i64 e.kind) fe5.toList 0=some (some (i,.agg (zb5 li A K G))))(hn:∀ W,Below w.heap.size w W->Calls Tryz.prog A #[.string e.name] W fun r w'=>r=.returned (.bool true)∧Below W.heap.size W w')(hv:∀ W,Below w.heap.size w W->Calls Tryz.prog G #[.agg (e.vals al gr)] W fun r w'=>r=.returned (.bool true)∧Below W.heap.size W w')(h:∀ W,Below w.heap.size w W->Writes W K (e.vals al gr) l)(hr:∀ W,Below w.heap.size w W->Reads W K l (zcells e.kind e.name) st P)(hP:Stable P)(hst:Rd.fin st=0)(hs:∀ W b cs',Below w.heap.size w W->P b W cs'->Calls Tryz.prog 15 #[.agg cs',.agg (e.vals al gr)] W fun r w'=>r=.returned (.bool z)∧Below W.heap.size W w') :
  Calls Tryz.prog 98 #[.agg (e.vals al gr)] w fun r w'=>r=.returned (.bool z)∧Below w.heap.size w w':=by
 obtain⟨hl1,hl2,hl3⟩:=zmx (e.vals al gr) 40 e.kind _ i hk w;have hb:=fun W b=>zqY li A K G e al gr l st P W hE3 (h W b) (hr W b) hP
 rw[decide_eq_true hst] at hb;unfold Stable at hP;have HPS:=lh hP;clear hP;unfold zdv at hE hE2;unfold zb5 at hl1 hl2 hl3 hb;have HN:=lh hn;have HV:=lh hv;have HB:=lh hb;have HS:=lh hs;clear hn hk hv hb h hr hst hE3 hs;go_enter Tryz.func98,Tryz.ntmps98
 go_upto_region 1 with fail
 go_cut [3,4] (fun t3 t4 wx=>∃ f,t3=.pointer (some ⟨f,0,none⟩)∧t4=.bool true∧VS w wx f (zb5 li A K G) (e.vals al gr))
 case first =>
  go_region_law (first|(go_simp;go_at_call 29;(with_reducible refine (zco _).mono ?_);rintro _ w1 ⟨rfl,rfl⟩))
  all_goals
   go_wp2_with fail
   go_meet
   first|exact⟨_,rfl,rfl,VS.mk1 w _ _ _ _⟩|exact⟨_,rfl,rfl,VS.mk2 w _ _ _ _⟩
 case rest =>
  obtain⟨f,rfl,rfl,V⟩:=hcut;obtain⟨f0,f1,f2,f3,n1,r1⟩:=V.facts;have B:=V.2.2.2.2;go_wp2_with (first|((with_reducible refine (HN.out _ B).mono ?_);rintro _ w2 ⟨rfl,hb⟩;have V:=V.below hb;obtain⟨g0,g1,g2,g3,m1,s1⟩:=V.facts;have B:=V.2.2.2.2;clear hb)|((with_reducible refine (HV.out _ B).mono ?_);rintro _ w3 ⟨rfl,hb⟩;have V:=V.below hb;obtain⟨g0,g1,g2,g3,m1,s1⟩:=V.facts;have B:=V.2.2.2.2;clear hb)|(go_at_call 161;(with_reducible refine (HB.out _ B).mono ?_);rintro _ w4 ⟨cs',b,rfl,hz,ho,hle,hp,hb⟩;have V:=V.below hb;obtain⟨g0,g1,g2,g3,m1,s1⟩:=V.facts;have B:=V.2.2.2.2;have Rx:=V.row_alloc;have hlt4:=V.2.2.2.1;have HP:=lh hp;clear hb hp)|(go_at_call 15;(with_reducible refine (HS.out _ _ cs' (by exact zbo) (HPS.out _ _ _ _ HP.out (by simp) (fun k _ hk=>heap_alloc_old _ _ hk))).mono ?_);rintro _ w5 ⟨rfl,hb5⟩))
  go_ret
  exact⟨rfl,bt (B.alloc (by have:=V.2.2.2.1;omega) _) hb5⟩
end
end Go.Proofs.YtefcmdmfgdcpmaaGreatDoor
