/- Catalogs. -/
import Derived.Test.YtefcmdmfgdcpmaaGreatDoorRdA
import Derived.Deep.RegionLaw
set_option maxRecDepth 4000
set_option maxHeartbeats 800000
namespace Go.Proofs.YtefcmdmfgdcpmaaGreatDoor
open Go.RowKit
def CW(w:World)(c:Nat)(s:ByteArray):Prop :=
 w.cell? ⟨c,0,none⟩=some (.string s)∧w.cell? ⟨c,1,none⟩=some (.pointer none)∧∀ o,w.frozen? ⟨c,o,none⟩=false
def CL(w:World)(c:Nat)(l:List UInt8):Prop:=∃ s:ByteArray,Ds.bl s=l∧CW w c s
theorem CL.below{w w':World}{c B:Nat}{l:List UInt8}(h:CL w c l)(g:Below B w w')(hb:c<B):CL w' c l:=by
 obtain⟨b,h1,h2⟩:=h;exact⟨b,h1,(g.cell (p:=⟨c,0,none⟩) hb).trans h2.1,(g.cell (p:=⟨c,1,none⟩) hb).trans h2.2.1,fun o=>(g.frozen (p:=⟨c,o,none⟩) hb).trans (h2.2.2 o)⟩
theorem zeZ{w w2:World}{c:Nat}{s:ByteArray}(hc:c<w.heap.size)(h:CW w c s)(B:Below w.heap.size w.drew w2)(t:ByteArray)(l:List UInt8)(hl:Ds.bl t=l):CL (w2.setCell ⟨c,0,none⟩ (.string t)) c l∧w.grownBy (w2.setCell ⟨c,0,none⟩ (.string t)) (some c):=by
 obtain⟨c0,c1,hf⟩:=h;have k0:=(B.cell (p:=⟨c,0,none⟩) hc).trans c0;have k1:=(B.cell (p:=⟨c,1,none⟩) hc).trans c1;refine⟨⟨t,hl,World.cell?_setCell_same' _ _ _ (by rw[k0];rfl),?_,fun o=>?_⟩,?_⟩
 · rw[World.cell?_setCell_other _ _ _ _ (by intro h;cases h)];exact k1
 · have:=(B.frozen (p:=⟨c,o,none⟩) hc).trans (hf o);simpa using this
 · exact World.grownBy.trans ⟨by rw[B.os];rfl,by rw[B.tape];rfl,by rw[B.output];rfl,B.size,fun k hk _=>B.block k hk⟩ (zaH w2 ⟨c,0,none⟩ _)
theorem zdU(c:Nat)(p:Addr)(n:Nat)(l:List UInt8)(w:World)(hs:l.length<=10000)(hn:n<9223372036854775808)(hC:CL w c l)(hp:w.cell? p=some (.int .i64 n))(hc:c<w.heap.size) :
  Calls Tryz.prog 90 #[.pointer (some ⟨c,0,none⟩),.pointer (some p)] w fun e w'=>e=.returned (.tuple #[])∧CL w' c (l++Wi.enc n)∧w.grownBy w' (some c):=by
 obtain⟨s,hl,hC⟩:=hC;subst hl;rw[Ds.bl_length] at hs;have hC':=hC;obtain⟨c0,c1,hf⟩:=hC;have f0:=hf 0;have hu:IntKind.u64.wrap (n:Int)=(n:Int):=IntWalk.u64_in _ ⟨by omega,by omega⟩;have HN:=lh hn;clear hn hf;go_enter Tryz.func90,Tryz.ntmps90
 go_wp2_with fail
 have ha:=fun (W:World)=>zpE s n W (by have:=HN.out;omega) hs
 go_region_law (first|(go_simp;go_at_call 156;(with_reducible refine (ha _).mono ?_);rintro _ w2 ⟨t,rfl,ht,B⟩;have k0:=(B.cell (p:=⟨c,0,none⟩) hc).trans c0;have g0:=(B.frozen (p:=⟨c,0,none⟩) hc).trans f0))
 all_goals
  go_wp2
  exact bodyPost_ret (results_none rfl _ _ _) rfl ⟨rfl,zeZ hc hC' B t _ ht⟩
def tb(y:Bool):UInt8:=if y then 1 else 0
theorem zju(c:Nat)(p:Addr)(y:Bool)(l:List UInt8)(w:World)(hs:l.length<=10000)(hC:CL w c l)(hp:w.cell? p=some (.bool y))(hc:c<w.heap.size) :
  Calls Tryz.prog 78 #[.pointer (some ⟨c,0,none⟩),.pointer (some p)] w fun e w'=>e=.returned (.tuple #[])∧CL w' c (l++[tb y])∧w.grownBy w' (some c):=by
 obtain⟨s,hl,hC⟩:=hC;subst hl;rw[Ds.bl_length] at hs;have hC':=hC;obtain⟨c0,c1,hf⟩:=hC;have f0:=hf 0;clear hf;cases y
 · go_enter Tryz.func78,Tryz.ntmps78
   go_wp2_with fail
   go_region_law (first|(go_simp;go_at_call 147;(with_reducible refine (znR s _ hs).mono ?_);rintro _ w2 ⟨t,rfl,ht,rfl⟩))
   all_goals
    go_wp2
    exact bodyPost_ret (results_none rfl _ _ _) rfl ⟨rfl,zeZ hc hC' (Below.refl _ _) t _ ht⟩
 · go_enter Tryz.func78,Tryz.ntmps78
   go_wp2_with fail
   go_region_law (first|(go_simp;go_at_call 147;(with_reducible refine (zqU s _ hs).mono ?_);rintro _ w2 ⟨t,rfl,ht,rfl⟩))
   all_goals
    go_wp2
    exact bodyPost_ret (results_none rfl _ _ _) rfl ⟨rfl,zeZ hc hC' (Below.refl _ _) t _ ht⟩
theorem zlt(c:Nat)(p:Addr)(x:ByteArray)(l:List UInt8)(w:World)(hs:l.length<=10000)(hx:x.size<=10000)(hC:CL w c l)(hp:w.cell? p=some (.string x))(hc:c<w.heap.size) :
  Calls Tryz.prog 79 #[.pointer (some ⟨c,0,none⟩),.pointer (some p)] w fun e w'=>e=.returned (.tuple #[])∧CL w' c (l++(Wi.enc x.size++Ds.bl x))∧w.grownBy w' (some c):=by
 obtain⟨s,hl,hC⟩:=hC;subst hl;rw[Ds.bl_length] at hs;have hC':=hC;obtain⟨c0,c1,hf⟩:=hC;have f0:=hf 0;clear hf;go_enter Tryz.func79,Tryz.ntmps79
 go_wp2_with fail
 have ha:=fun (W:World)=>zqT s x W hs hx
 go_region_law (first|(go_simp;go_at_call 149;(with_reducible refine (ha _).mono ?_);rintro _ w2 ⟨t,rfl,ht,B⟩;have k0:=(B.cell (p:=⟨c,0,none⟩) hc).trans c0;have g0:=(B.frozen (p:=⟨c,0,none⟩) hc).trans f0))
 all_goals
  go_wp2
  exact bodyPost_ret (results_none rfl _ _ _) rfl ⟨rfl,zeZ hc hC' B t _ ht⟩
def CI(w:World)(c rb:Nat):Prop:=w.cell? ⟨c,1,none⟩=some (.pointer (some ⟨rb,0,none⟩))
def clip(n:Nat):Nat:=if 1099511627776<n then 1099511627777 else n
theorem zrd(n:Nat):clip n<=1099511627777:=by unfold clip;split <;> omega
theorem RL.set{w:World}{rb:Nat}{s:List UInt8 × Nat}(h:RL w rb s)(p:Addr)(hne:p.block≠rb)(v:Value):RL (w.setCell p v) rb s:=by
 obtain⟨b,h0,c0,c1,hf⟩:=h;refine⟨b,h0,?_,?_,fun o=>?_⟩
 · rw[World.cell?_setCell_other _ _ _ _ (by intro h;exact hne (by rw[h]))];exact c0
 · rw[World.cell?_setCell_other _ _ _ _ (by intro h;exact hne (by rw[h]))];exact c1
 · have:=hf o;simpa using this
theorem zdS(c rb:Nat)(p:Addr)(v:Value)(s:List UInt8 × Nat)(w:World)(hs:s.1.length<=10000)(hC:CI w c rb)(hR:RL w rb s)(hrb:rb<w.heap.size)(hp:w.cell? p=some v)(hf:w.frozen? p=false)(hpb:p.block<w.heap.size)(hne:p.block≠rb) :
  Calls Tryz.prog 90 #[.pointer (some ⟨c,0,none⟩),.pointer (some p)] w fun e w'=>e=.returned (.tuple #[])∧∃ w1,RL w1 rb (Rd.num s).2∧w.grownBy w1 (some rb)∧w'=w1.setCell p (.int .i64 (clip (Rd.num s).1)):=by
 have hc:=zh1 rb s w hs hrb hR;have hlt:=Rd.num_lt s;unfold CI at hC
 have hG2:∀ w1,w.grownBy w1 (some rb)->w1.cell? p=some v∧w1.frozen? p=false:=fun w1 hG=>by
  have k:=hG.block p.block hpb (by intro h;exact hne (Option.some.inj h));exact⟨(World.cell?_of_block k).trans hp,(World.frozen?_of_block k).trans hf⟩
 have HG2:=lh hG2;clear hG2;generalize Rd.num s=r at hc hlt ⊢;obtain⟨x,s'⟩:=r;simp only at hc hlt ⊢
 by_cases h:1099511627776<x
 · have e1:decide ((1099511627776:Int)<(x:Int))=true:=by simp;omega
   rw[show clip x=1099511627777 by unfold clip;rw[if_pos h]];clear hlt;go_enter Tryz.func90,Tryz.ntmps90
   go_wp2_with ((with_reducible refine hc.mono ?_);rintro e w1 ⟨rfl,hR',hG⟩;obtain⟨q0,q1⟩:=HG2.out w1 hG;have HG:=lh hG;clear hG)
   go_end0
   exact⟨rfl,_,hR',HG.out,rfl⟩
 · have e1:decide ((1099511627776:Int)<(x:Int))=false:=by simp;omega
   have hi:IntKind.i64.wrap (x:Int)=(x:Int):=IntWalk.i64_in _ ⟨by omega,by omega⟩;rw[show clip x=x by unfold clip;rw[if_neg h]];clear hlt;go_enter Tryz.func90,Tryz.ntmps90
   go_wp2_with ((with_reducible refine hc.mono ?_);rintro e w1 ⟨rfl,hR',hG⟩;obtain⟨q0,q1⟩:=HG2.out w1 hG;have HG:=lh hG;clear hG)
   go_end0
   exact⟨rfl,_,hR',HG.out,rfl⟩
theorem zjs(c rb:Nat)(p:Addr)(v:Value)(s:List UInt8 × Nat)(w:World)(hs:s.1.length<=10000)(hC:CI w c rb)(hR:RL w rb s)(hrb:rb<w.heap.size)(hp:w.cell? p=some v)(hf:w.frozen? p=false)(hpb:p.block<w.heap.size)(hne:p.block≠rb) :
  Calls Tryz.prog 78 #[.pointer (some ⟨c,0,none⟩),.pointer (some p)] w fun e w'=>e=.returned (.tuple #[])∧∃ w1,RL w1 rb (Rd.boo s).2∧w.grownBy w1 (some rb)∧w'=w1.setCell p (.bool (Rd.boo s).1):=by
 have hc:=zsF rb s w hs hrb hR;unfold CI at hC
 have hG2:∀ w1,w.grownBy w1 (some rb)->w1.cell? p=some v∧w1.frozen? p=false:=fun w1 hG=>by
  have k:=hG.block p.block hpb (by intro h;exact hne (Option.some.inj h));exact⟨(World.cell?_of_block k).trans hp,(World.frozen?_of_block k).trans hf⟩
 have HG2:=lh hG2;clear hG2;generalize Rd.boo s=r at hc ⊢;obtain⟨x,s'⟩:=r;simp only at hc ⊢
 go_enter Tryz.func78,Tryz.ntmps78
 go_wp2_with ((with_reducible refine hc.mono ?_);rintro e w1 ⟨rfl,hR',hG⟩;obtain⟨q0,q1⟩:=HG2.out w1 hG;have HG:=lh hG;clear hG)
 go_end0
 exact⟨rfl,_,hR',HG.out,rfl⟩
theorem zlq(c rb:Nat)(p:Addr)(v:Value)(s:List UInt8 × Nat)(w:World)(hs:s.1.length<=10000)(hC:CI w c rb)(hR:RL w rb s)(hrb:rb<w.heap.size)(hp:w.cell? p=some v)(hf:w.frozen? p=false)(hpb:p.block<w.heap.size)(hne:p.block≠rb) :
  Calls Tryz.prog 79 #[.pointer (some ⟨c,0,none⟩),.pointer (some p)] w fun e w'=>e=.returned (.tuple #[])∧∃ w1 t,Ds.bl t=(Rd.txt 200 s).1∧RL w1 rb (Rd.txt 200 s).2∧w.grownBy w1 (some rb)∧w'=w1.setCell p (.string t):=by
 have hc:Calls Tryz.prog 150 #[.pointer (some ⟨rb,0,none⟩),.int .i64 200] w fun e w'=>∃ t,e=.returned (.string t)∧Ds.bl t=(Rd.txt 200 s).1∧RL w' rb (Rd.txt 200 s).2∧w.grownBy w' (some rb):=zsH rb 200 s w hs hrb hR (by decide)
 unfold CI at hC
 have hG2:∀ w1,w.grownBy w1 (some rb)->w1.cell? p=some v∧w1.frozen? p=false:=fun w1 hG=>by
  have k:=hG.block p.block hpb (by intro h;exact hne (Option.some.inj h));exact⟨(World.cell?_of_block k).trans hp,(World.frozen?_of_block k).trans hf⟩
 have HG2:=lh hG2;clear hG2;generalize Rd.txt 200 s=r at hc ⊢;obtain⟨x,s'⟩:=r;simp only at hc ⊢
 go_enter Tryz.func79,Tryz.ntmps79
 go_wp2_with ((with_reducible refine hc.mono ?_);rintro e w1 ⟨t,rfl,ht,hR',hG⟩;obtain⟨q0,q1⟩:=HG2.out w1 hG;have HG:=lh hG;have HT:=lh ht;clear hG ht)
 go_end0
 exact⟨rfl,_,t,HT.out,hR',HG.out,rfl⟩
structure G2 (w w':World) (a b:Nat):Prop where
 os:w'.os=w.os
 tape:w'.tape=w.tape
 output:w'.output=w.output
 size:w.heap.size<=w'.heap.size
 block:∀ k,k<w.heap.size->k≠a->k≠b->w'.heap[k]?=w.heap[k]?
theorem G2.refl(w:World)(a b:Nat):G2 w w a b:=⟨rfl,rfl,rfl,Nat.le_refl _,fun _ _ _ _=>rfl⟩
theorem G2.trans{w w' w'':World}{a b:Nat}(h:G2 w w' a b)(k:G2 w' w'' a b):G2 w w'' a b :=
 ⟨k.os.trans h.os,k.tape.trans h.tape,k.output.trans h.output,Nat.le_trans h.size k.size,fun i hi ha hb=>(k.block i (Nat.lt_of_lt_of_le hi h.size) ha hb).trans (h.block i hi ha hb)⟩
theorem G2.of_grown{w w':World}{a:Nat}(h:w.grownBy w' (some a))(b:Nat):G2 w w' a b :=
 ⟨h.os,h.tape,h.output,h.size,fun i hi ha _=>h.block i hi (by intro e;exact ha (Option.some.inj e))⟩
theorem G2.set{w w':World}{a b:Nat}(h:G2 w w' a b)(o:Nat)(v:Value):G2 w (w'.setCell ⟨b,o,none⟩ v) a b :=
 h.trans (by
  have g:=zaH w' ⟨b,o,none⟩ v;exact⟨g.os,g.tape,g.output,g.size,fun i hi _ hb=>g.block i hi (by intro e;exact hb (Option.some.inj e))⟩)
theorem G2.below{w w':World}{a b B:Nat}(h:G2 w w' a b)(ha:B<=a)(hb:B<=b)(hw:B<=w.heap.size):Below B w w' :=
 ⟨h.os,h.tape,h.output,h.size,fun i hi=>h.block i (by omega) (by omega) (by omega)⟩
theorem G2.cell{w w':World}{a b:Nat}(h:G2 w w' a b){p:Addr}(hp:p.block<w.heap.size)(ha:p.block≠a)(hb:p.block≠b):w'.cell? p=w.cell? p:=World.cell?_of_block (h.block _ hp ha hb)
theorem zaU{w w':World}{a B:Nat}(h:w.grownBy w' (some a))(ha:B<=a)(hw:B<=w.heap.size):Below B w w' :=
 ⟨h.os,h.tape,h.output,h.size,fun i hi=>h.block i (by omega) (by intro e;have:=Option.some.inj e;omega)⟩
def EB(w:World)(g:Nat)(cs:Array Value):Prop:=row w g=cs∧(∀ o,w.frozen? ⟨g,o,none⟩=false)∧g<w.heap.size
theorem EB.cell{w:World}{g:Nat}{cs:Array Value}(h:EB w g cs)(o:Nat)(v:Value)(hv:cs[o]?=some v):w.cell? ⟨g,o,none⟩=some v:=zah h.1 o v hv
theorem EB.of_block{w w':World}{g:Nat}{cs:Array Value}(h:EB w g cs)(k:w'.heap[g]?=w.heap[g]?)(hs:w.heap.size<=w'.heap.size):EB w' g cs :=
 ⟨by have:=h.1;unfold row at *;rw[k];exact this,fun o=>(World.frozen?_of_block (a:=⟨g,o,none⟩) k).trans (h.2.1 o),Nat.lt_of_lt_of_le h.2.2 hs⟩
theorem zfE(w:World)(g o:Nat)(v:Value)(cs:Array Value)(h:row w g=cs)(ho:o<cs.size):row (w.setCell ⟨g,o,none⟩ v) g=cs.setIfInBounds o v:=by
 unfold row at h;rcases hb:w.heap[g]? with _|ob
 · rw[hb] at h;subst h;simp at ho
 · rw[hb] at h
   cases ob with
   | cells c t fr =>
     simp only at h
     subst h;rw[setCell_eq_setRow w g o c t fr v hb];exact zcP (setRow_heap w g c _ t fr hb)
   | _=>simp only at h;subst h;simp at ho
theorem EB.set{w:World}{g:Nat}{cs:Array Value}(h:EB w g cs)(o:Nat)(ho:o<cs.size)(v:Value):EB (w.setCell ⟨g,o,none⟩ v) g (cs.setIfInBounds o v) :=
 ⟨zfE w g o v cs h.1 ho,fun o'=>by have:=h.2.1 o';simpa using this,by simpa using h.2.2⟩
def WS(w:World)(c g:Nat)(l:List UInt8)(cs:Array Value):Prop:=CL w c l∧EB w g cs∧c≠g∧c<w.heap.size
def RS(w:World)(c rb g:Nat)(s:List UInt8 × Nat)(cs:Array Value):Prop:=CI w c rb∧RL w rb s∧EB w g cs∧c≠rb∧c≠g∧rb≠g∧c<w.heap.size∧rb<w.heap.size
theorem WS.grown{w w':World}{c g:Nat}{l l':List UInt8}{cs:Array Value}(h:WS w c g l cs)(G:w.grownBy w' (some c))(hl:CL w' c l'):WS w' c g l' cs :=
 ⟨hl,h.2.1.of_block (G.block g h.2.1.2.2 (by intro e;exact h.2.2.1 (Option.some.inj e).symm)) G.size,h.2.2.1,Nat.lt_of_lt_of_le h.2.2.2 G.size⟩
theorem WS.below{w w':World}{c g:Nat}{l:List UInt8}{cs:Array Value}(h:WS w c g l cs)(G:Below w.heap.size w w'):WS w' c g l cs :=
 ⟨h.1.below G h.2.2.2,h.2.1.of_block (G.block g h.2.1.2.2) G.size,h.2.2.1,Nat.lt_of_lt_of_le h.2.2.2 G.size⟩
theorem RS.below{w w':World}{c rb g:Nat}{s:List UInt8 × Nat}{cs:Array Value}(h:RS w c rb g s cs)(G:Below w.heap.size w w'):RS w' c rb g s cs:=by
 obtain⟨h1,h2,h3,h4,h5,h6,h7,h8⟩:=h;exact⟨(G.cell (p:=⟨c,1,none⟩) h7).trans h1,h2.below G h8,h3.of_block (G.block g h3.2.2) G.size,h4,h5,h6,Nat.lt_of_lt_of_le h7 G.size,Nat.lt_of_lt_of_le h8 G.size⟩
theorem RS.after{w w1:World}{c rb g:Nat}{s s':List UInt8 × Nat}{cs:Array Value}(h:RS w c rb g s cs)(hR:RL w1 rb s')(G:w.grownBy w1 (some rb))(o:Nat)(ho:o<cs.size)(v:Value) :
  RS (w1.setCell ⟨g,o,none⟩ v) c rb g s' (cs.setIfInBounds o v)∧G2 w (w1.setCell ⟨g,o,none⟩ v) rb g:=by
 obtain⟨h1,h2,h3,h4,h5,h6,h7,h8⟩:=h;have hEB:=(h3.of_block (G.block g h3.2.2 (by intro e;exact h6 (Option.some.inj e).symm)) G.size).set o ho v;refine⟨⟨?_,hR.set _ (fun e=>h6 e.symm) _,hEB,h4,h5,h6,by have:=G.size;simp;omega,by have:=G.size;simp;omega⟩,(G2.of_grown G g).set o v⟩
 unfold CI;rw[World.cell?_setCell_other _ _ _ _ (by intro h;cases h;exact h5 rfl)];exact (World.cell?_of_block (a:=⟨c,1,none⟩) (G.block c h7 (by intro e;exact h4 (Option.some.inj e)))).trans h1
theorem zl3{cs:Array Value}{o:Nat}{v:Value}(h:cs[o]?=some v):o<cs.size:=by
 rcases Nat.lt_or_ge o cs.size with h1|h1
 · exact h1
 · rw[Array.getElem?_eq_none h1] at h;cases h
theorem zdm(c g o n:Nat)(l:List UInt8)(cs:Array Value)(w:World)(h:WS w c g l cs)(hs:l.length<=10000)(hn:n<9223372036854775808)(hv:cs[o]?=some (.int .i64 n)) :
  Calls Tryz.prog 90 #[.pointer (some ⟨c,0,none⟩),.pointer (some ⟨g,o,none⟩)] w fun e w'=>e=.returned (.tuple #[])∧WS w' c g (l++Wi.enc n) cs∧w.grownBy w' (some c) :=
 (zdU c ⟨g,o,none⟩ n l w hs hn h.1 (h.2.1.cell o _ hv) h.2.2.2).mono fun _ _ ⟨he,hl,G⟩=>⟨he,h.grown G hl,G⟩
theorem zhf(c g o:Nat)(y:Bool)(l:List UInt8)(cs:Array Value)(w:World)(h:WS w c g l cs)(hs:l.length<=10000)(hv:cs[o]?=some (.bool y)) :
  Calls Tryz.prog 78 #[.pointer (some ⟨c,0,none⟩),.pointer (some ⟨g,o,none⟩)] w fun e w'=>e=.returned (.tuple #[])∧WS w' c g (l++[tb y]) cs∧w.grownBy w' (some c) :=
 (zju c ⟨g,o,none⟩ y l w hs h.1 (h.2.1.cell o _ hv) h.2.2.2).mono fun _ _ ⟨he,hl,G⟩=>⟨he,h.grown G hl,G⟩
theorem zfQ(c g o:Nat)(x:ByteArray)(l:List UInt8)(cs:Array Value)(w:World)(h:WS w c g l cs)(hs:l.length<=10000)(hx:x.size<=10000)(hv:cs[o]?=some (.string x)) :
  Calls Tryz.prog 79 #[.pointer (some ⟨c,0,none⟩),.pointer (some ⟨g,o,none⟩)] w fun e w'=>e=.returned (.tuple #[])∧WS w' c g (l++(Wi.enc x.size++Ds.bl x)) cs∧w.grownBy w' (some c) :=
 (zlt c ⟨g,o,none⟩ x l w hs hx h.1 (h.2.1.cell o _ hv) h.2.2.2).mono fun _ _ ⟨he,hl,G⟩=>⟨he,h.grown G hl,G⟩
theorem zcy(c rb g o:Nat)(v:Value)(s:List UInt8 × Nat)(cs:Array Value)(w:World)(h:RS w c rb g s cs)(hs:s.1.length<=10000)(hv:cs[o]?=some v) :
  Calls Tryz.prog 90 #[.pointer (some ⟨c,0,none⟩),.pointer (some ⟨g,o,none⟩)] w fun e w'=>e=.returned (.tuple #[])∧RS w' c rb g (Rd.num s).2 (cs.setIfInBounds o (.int .i64 (clip (Rd.num s).1)))∧G2 w w' rb g :=
 (zdS c rb ⟨g,o,none⟩ v s w hs h.1 h.2.1 h.2.2.2.2.2.2.2 (h.2.2.1.cell o _ hv) (h.2.2.1.2.1 o) h.2.2.1.2.2 (fun e=>h.2.2.2.2.2.1 e.symm)).mono fun _ _ ⟨he,w1,hR,G,hw⟩=>by
   subst hw;exact⟨he,h.after hR G o (zl3 hv) _⟩
theorem zee(c rb g o:Nat)(v:Value)(s:List UInt8 × Nat)(cs:Array Value)(w:World)(h:RS w c rb g s cs)(hs:s.1.length<=10000)(hv:cs[o]?=some v) :
  Calls Tryz.prog 78 #[.pointer (some ⟨c,0,none⟩),.pointer (some ⟨g,o,none⟩)] w fun e w'=>e=.returned (.tuple #[])∧RS w' c rb g (Rd.boo s).2 (cs.setIfInBounds o (.bool (Rd.boo s).1))∧G2 w w' rb g :=
 (zjs c rb ⟨g,o,none⟩ v s w hs h.1 h.2.1 h.2.2.2.2.2.2.2 (h.2.2.1.cell o _ hv) (h.2.2.1.2.1 o) h.2.2.1.2.2 (fun e=>h.2.2.2.2.2.1 e.symm)).mono fun _ _ ⟨he,w1,hR,G,hw⟩=>by
   subst hw;exact⟨he,h.after hR G o (zl3 hv) _⟩
theorem zdL(c rb g o:Nat)(v:Value)(s:List UInt8 × Nat)(cs:Array Value)(w:World)(h:RS w c rb g s cs)(hs:s.1.length<=10000)(hv:cs[o]?=some v) :
  Calls Tryz.prog 79 #[.pointer (some ⟨c,0,none⟩),.pointer (some ⟨g,o,none⟩)] w fun e w'=>e=.returned (.tuple #[])∧RS w' c rb g (Rd.txt 200 s).2 (cs.setIfInBounds o (.string ⟨(Rd.txt 200 s).1.toArray⟩))∧G2 w w' rb g :=
 (zlq c rb ⟨g,o,none⟩ v s w hs h.1 h.2.1 h.2.2.2.2.2.2.2 (h.2.2.1.cell o _ hv) (h.2.2.1.2.1 o) h.2.2.1.2.2 (fun e=>h.2.2.2.2.2.1 e.symm)).mono fun _ _ ⟨he,w1,t,ht,hR,G,hw⟩=>by
   subst hw;rw[<-ht,Ds.mk_bl];exact⟨he,h.after hR G o (zl3 hv) _⟩
def encs:List Nat->List UInt8
 | []=>[]
 | n::r=>Wi.enc n++encs r
theorem zdE:∀ (a b:List Nat),encs (a++b)=encs a++encs b
 | [],b=>rfl
 | n::a,b=>by simp only[List.cons_append,encs,zdE a b,List.append_assoc]
theorem za5(n:Nat)(h:n<9223372036854775808):(Wi.enc n).length<=9:=Wi.enc_len 8 n (by exact Nat.lt_of_lt_of_le h (by decide))
theorem zdo:∀ (l:List Nat),(∀ n∈l,n<9223372036854775808)->(encs l).length<=9*l.length
 | [],_=>by simp [encs]
 | n::r,h=>by
   have h1:=za5 n (h n (by simp));have h2:=zdo r (fun m hm=>h m (by simp [hm]));simp only[encs,List.length_append,List.length_cons];omega
def PS(w:World)(pb g:Nat)(os:List Nat):Prop:=(∀ k (h:k<os.length),w.cell? ⟨pb,k,none⟩=some (.pointer (some ⟨g,os[k],none⟩)))∧pb<w.heap.size
theorem PS.block{w w':World}{pb g:Nat}{os:List Nat}(h:PS w pb g os)(k:w'.heap[pb]?=w.heap[pb]?)(hs:w.heap.size<=w'.heap.size):PS w' pb g os :=
 ⟨fun i hi=>(World.cell?_of_block (a:=⟨pb,i,none⟩) k).trans (h.1 i hi),Nat.lt_of_lt_of_le h.2 hs⟩
theorem PS.new(w:World)(g:Nat)(os:List Nat)(t:TypeId):PS ((w.alloc (.cells (os.map fun o=>Value.pointer (some ⟨g,o,none⟩)).toArray t)).drew) w.heap.size g os:=by
 refine⟨fun k hk=>?_,by simp⟩
 show (w.alloc (.cells (os.map fun o=>Value.pointer (some ⟨g,o,none⟩)).toArray t)).cell? ⟨w.heap.size,k,none⟩=_
 rw[cell_of_row _ w.heap.size k _ t (0,0) (heap_alloc_new w _)];simp [List.getElem?_eq_getElem hk]
def NS(cs:Array Value)(os ns:List Nat):Prop:=os.length=ns.length∧∀ k (h:k<os.length) (h':k<ns.length),cs[os[k]]?=some (.int .i64 ns[k])
theorem zeH(c g pb cap:Nat)(os ns:List Nat)(l:List UInt8)(cs:Array Value)(w:World)(h:WS w c g l cs)(hP:PS w pb g os)(hpc:pb≠c)(hN:NS cs os ns)(hn:∀ n∈ns,n<9223372036854775808)(h20:os.length<=20)(hs:l.length<=5000) :
  Calls Tryz.prog 77 #[.pointer (some ⟨c,0,none⟩),.slice (some ⟨pb,0,none⟩) os.length cap] w fun e w'=>e=.returned (.tuple #[])∧WS w' c g (l++encs ns) cs∧w.grownBy w' (some c):=by
 have HH:=lh h;have HP:=lh hP;have HN:=lh hN;have Hn:=lh hn;clear h hP hN hn;go_enter Tryz.func77,Tryz.ntmps77
 go_wp2_with fail
 go_loopw [5,8] (fun _ i wr=>∃ k:Nat,k<=os.length∧i=.int .i64 k∧WS wr c g (l++encs (ns.take k)) cs∧w.grownBy wr (some c)) (fun _ i _=>os.length - (intOf i).toNat)
 case atStart=>exact⟨0,Nat.zero_le _,rfl,by simpa [encs] using HH.out,World.grownBy.refl _ _⟩
 case round =>
  obtain⟨k,hk,rfl,hW,hG⟩:=hrel;have HG:=lh hG;by_cases hlt:k<os.length
  · have hk2:k<ns.length:=by have:=HN.out.1;omega
    have hnb:ns[k]<9223372036854775808:=Hn.out _ (List.getElem_mem _)
    have hlen:(l++encs (ns.take k)).length<=10000:=by
     have:=zdo (ns.take k) (fun n hn=>Hn.out n (List.mem_of_mem_take hn));rw[List.length_take] at this;rw[List.length_append];omega
    have hpp:=(HP.out.block (HG.out.block pb HP.out.2 (by intro e;exact hpc (Option.some.inj e))) HG.out.size).1 k hlt;have hc:=zdm c g os[k] ns[k] _ cs wr hW hlen hnb (HN.out.2 k hlt hk2);have HC:=lh hc;clear hW hc hG hnb hlen;go_wp2_with ((with_reducible refine HC.out.mono ?_);rintro e w1 ⟨rfl,hW',hG'⟩;have HW:=lh hW';have HG':=lh hG';clear hW' hG')
    go_roundw
    case rel =>
     refine⟨k+1,by omega,by go_num,?_,HG.out.trans HG'.out⟩
     have:=HW.out;rw[List.append_assoc] at this;rw[List.take_succ_eq_append_getElem hk2,zdE];simpa [encs] using this
    case measure=>simp [intOf];omega
  · have hk2:k=ns.length:=by have:=HN.out.1;omega
    clear hG;go_wp2_with fail
    go_end0
    refine⟨rfl,?_,HG.out⟩
    rw[hk2,List.take_length] at hW;exact hW
def zbY:List Nat->(List UInt8 × Nat)->Array Value->Array Value × (List UInt8 × Nat)
 | [],s,cs=>(cs,s)
 | o::os,s,cs=>zbY os (Rd.num s).2 (cs.setIfInBounds o (.int .i64 (clip (Rd.num s).1)))
theorem zcQ(c rb g pb cap:Nat)(os:List Nat)(s:List UInt8 × Nat)(cs:Array Value)(w:World)(h:RS w c rb g s cs)(hP:PS w pb g os)(hpr:pb≠rb)(hpg:pb≠g)(ho:∀ k (h:k<os.length),os[k]<cs.size)(h20:os.length<=20)(hs:s.1.length<=10000) :
  Calls Tryz.prog 77 #[.pointer (some ⟨c,0,none⟩),.slice (some ⟨pb,0,none⟩) os.length cap] w fun e w'=>e=.returned (.tuple #[])∧RS w' c rb g (zbY os s cs).2 (zbY os s cs).1∧G2 w w' rb g:=by
 have HH:=lh h;have HP:=lh hP;have HO:=lh ho;clear h hP ho;go_enter Tryz.func77,Tryz.ntmps77
 go_wp2_with fail
 go_loopw [5,8] (fun _ i wr=>∃ (k:Nat) (s':List UInt8 × Nat) (cs':Array Value),k<=os.length∧i=.int .i64 k∧s'.1.length<=10000∧cs'.size=cs.size∧zbY os s cs=zbY (os.drop k) s' cs'∧RS wr c rb g s' cs'∧G2 w wr rb g) (fun _ i _=>os.length - (intOf i).toNat)
 case atStart=>exact⟨0,s,cs,Nat.zero_le _,rfl,hs,rfl,rfl,HH.out,G2.refl _ _ _⟩
 case round =>
  obtain⟨k,s',cs',hk,rfl,hs',hz,he,hW,hG⟩:=hrel;have HG:=lh hG;have HE:=lh he;have HZ:=lh hz;clear he hz;by_cases hlt:k<os.length
  · have hol:os[k]<cs'.size:=by rw[HZ.out];exact HO.out k hlt
    have hov:cs'[os[k]]?=some cs'[os[k]]:=Array.getElem?_eq_getElem hol;have hpp:=(HP.out.block (HG.out.block pb HP.out.2 hpr hpg) HG.out.size).1 k hlt;have hc:=zcy c rb g os[k] _ s' cs' wr hW hs' hov;have HC:=lh hc;clear hW hc hG hov;go_wp2_with ((with_reducible refine HC.out.mono ?_);rintro e w1 ⟨rfl,hW',hG'⟩;have HW:=lh hW';have HG':=lh hG';clear hW' hG')
    go_roundw
    case rel =>
     refine⟨k+1,_,_,by omega,by go_num,?_,?_,?_,HW.out,HG.out.trans HG'.out⟩
     · have:=Rd.num_len s';omega
     · simp [HZ.out]
     · rw[HE.out,List.drop_eq_getElem_cons hlt,zbY]
    case measure=>simp [intOf];omega
  · clear hG;go_wp2_with fail
    go_end0
    refine⟨rfl,?_,HG.out⟩
    rw[HE.out,List.drop_eq_nil_of_le (by omega)];exact hW
end Go.Proofs.YtefcmdmfgdcpmaaGreatDoor
