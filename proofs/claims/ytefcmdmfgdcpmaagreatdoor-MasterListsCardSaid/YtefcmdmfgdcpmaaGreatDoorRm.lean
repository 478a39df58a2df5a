/- Catalogs. -/
import Derived.Test.YtefcmdmfgdcpmaaGreatDoorChA
import Derived.Test.YtefcmdmfgdcpmaaGreatDoorRuC
set_option maxRecDepth 8000
set_option maxHeartbeats 40000000
namespace Go.Proofs.YtefcmdmfgdcpmaaGreatDoor
section
open Go.RowKit
def BI(w:World)(g n:Nat)(F:Nat->Bool):Prop:=(∀ k,k<n->w.cell? ⟨g,k,none⟩=some (.bool (F k)))∧(∀ o,w.frozen? ⟨g,o,none⟩=false)
theorem BI.lt{w:World}{g n:Nat}{F:Nat->Bool}(h:BI w g n F)(hn:0<n):g<w.heap.size:=block_lt_of_cell (h.1 0 hn)
theorem BI.below{w w':World}{g n:Nat}{F:Nat->Bool}(h:BI w g n F)(hb:Below w.heap.size w w')(hn:0<n):BI w' g n F :=
 ⟨fun k hk=>zac hb (h.1 k hk),fun o=>by rw[(bcell hb).2 g o (h.lt hn)];exact h.2 o⟩
theorem BI.drew{w:World}{g n:Nat}{F:Nat->Bool}(h:BI w g n F):BI w.drew g n F:=h
theorem BI.drewN{w:World}{g n:Nat}{F:Nat->Bool}(h:BI w g n F)(m:Nat):BI (w.drewN m) g n F:=h
theorem BI.grown{w w':World}{g n:Nat}{F:Nat->Bool}(h:BI w g n F)(hg:w.grownBy w' none)(hn:0<n):BI w' g n F:=by
 have hb:=hg.block g (h.lt hn) (by simp);refine⟨fun k hk=>?_,fun o=>?_⟩
 · rw[World.cell?_of_block (a:=⟨g,k,none⟩) hb];exact h.1 k hk
 · rw[World.frozen?_of_block (a:=⟨g,o,none⟩) hb];exact h.2 o
theorem BI.set{w:World}{g n:Nat}{F:Nat->Bool}(h:BI w g n F)(c:Nat)(hc:c<n)(v:Bool):BI (w.setCell ⟨g,c,none⟩ (.bool v)) g n (fun k=>if k=c then v else F k):=by
 refine⟨fun k hk=>?_,fun o=>by have:=h.2 o;simpa using this⟩
 have h1:=h.1 k hk;have h0:=h.1 c hc;by_cases e:k=c
 · subst e;simp [go_sem,h0]
 · show _=some (Value.bool (if k=c then v else F k))
   rw[if_neg e,<-h1];have e':c≠k:=fun h=>e h.symm
   have e'':(c==k)=false:=by simpa using e'
   simp [go_sem]
theorem BI.other{w:World}{g n:Nat}{F:Nat->Bool}(h:BI w g n F)(g2 c:Nat)(hne:g≠g2)(v:Value):BI (w.setCell ⟨g2,c,none⟩ v) g n F:=by
 refine⟨fun k hk=>?_,fun o=>by have:=h.2 o;simpa using this⟩
 rw[<-h.1 k hk];have e':(g2==g)=false:=by simpa using fun h=>hne h.symm
 simp [go_sem]
theorem BI.made{w:World}{B e g n:Nat}(h:w.ownsRow B e 1 (.slice (some ⟨g,0,none⟩) n n) n (madeCells (Value.bool false).cells (n*1)).toList):BI w g n (fun _=>false):=by
 refine⟨fun k hk=>?_,fun o=>h.frozenAt o⟩
 rw[h.cellAt k (by omega)];show (madeCells #[Value.bool false] (n*1)).toList[k]?=_
 rw[toList_madeCells_one,List.getElem?_replicate,if_pos (by omega)]
end
section
open Go.RowKit
def KJ(W:World)(ba bb:Nat)(ps ns:List ByteArray)(g g2 n c:Nat)(F F2:Nat->Bool)(w:World):Prop :=
 Strs w ba ps∧Strs w bb ns∧BI w g n F∧(∃ v,BI w g2 n (fun k=>if k=c then v else F2 k))∧Below W.heap.size W w
theorem KJ.start{W w:World}{ba bb:Nat}{ps ns:List ByteArray}{g g2 n c:Nat}{F F2:Nat->Bool}(h1:Strs w ba ps)(h2:Strs w bb ns)(h3:BI w g n F)(h4:BI w g2 n F2)(h5:Below W.heap.size W w):KJ W ba bb ps ns g g2 n c F F2 w.drew :=
 ⟨h1,h2,h3,⟨F2 c,⟨fun k hk=>by
  rw[show (w.drew).cell? ⟨g2,k,none⟩=w.cell? ⟨g2,k,none⟩ from rfl,h4.1 k hk];show _=some (Value.bool (if k=c then F2 c else F2 k))
  by_cases e:k=c
  · rw[if_pos e,e]
  · rw[if_neg e],h4.2⟩⟩,h5.drew⟩
def SKP(W:World)(ba bb:Nat)(ps ns:List ByteArray)(g g2 n c:Nat)(F F2:Nat->Bool)(r j:Nat)(x y:ByteArray)(w:World):Prop :=
 w.cell? ⟨g,j,none⟩=some (.bool true)∧w.cell? ⟨ba,r,none⟩=some (.string x)∧w.cell? ⟨bb,j,none⟩=some (.string y)∧w.cell? ⟨g2,c,none⟩=some (.bool (bvc w g2 c))∧(∀ o,w.frozen? ⟨g2,o,none⟩=false)∧KJ W ba bb ps ns g g2 n c F F2 w
theorem SKP.call{W w w2:World}{ba bb:Nat}{ps ns:List ByteArray}{g g2 n c:Nat}{F F2:Nat->Bool}{r j:Nat}{x y:ByteArray}(hc:c<n)(hb:Below w.heap.size w w2)(h:SKP W ba bb ps ns g g2 n c F F2 r j x y w):SKP W ba bb ps ns g g2 n c F F2 r j x y w2:=by
 obtain⟨h1,h2,h3,h4,h5,k1,k2,k3,⟨v,k4⟩,k5⟩:=h;have k4':=k4.below hb (by omega);exact⟨zac hb h1,zac hb h2,zac hb h3,zho (zac hb h4),k4'.2,k1.below hb,k2.below hb,k3.below hb (by omega),⟨v,k4'⟩,bt k5 hb⟩
theorem Strs.other{w:World}{b:Nat}{ps:List ByteArray}(h:Strs w b ps)(g c:Nat)(hne:b≠g)(v:Value):Strs (w.setCell ⟨g,c,none⟩ v) b ps:=fun k hk=>by
 rw[<-h k hk];have e':(g==b)=false:=by simpa using fun h=>hne h.symm
 simp [go_sem]
theorem KJ.set{W w:World}{ba bb:Nat}{ps ns:List ByteArray}{g g2 n c:Nat}{F F2:Nat->Bool}(hc:c<n)(ha:ba≠g2)(hb:bb≠g2)(hg:g≠g2)(hW:W.heap.size<=g2)(u:Bool)(h:KJ W ba bb ps ns g g2 n c F F2 w):BI (w.setCell ⟨g2,c,none⟩ (.bool u)) g n F∧BI (w.setCell ⟨g2,c,none⟩ (.bool u)) g2 n (fun k=>if k=c then u else F2 k)∧Below W.heap.size W (w.setCell ⟨g2,c,none⟩ (.bool u))∧KJ W ba bb ps ns g g2 n c F F2 (w.setCell ⟨g2,c,none⟩ (.bool u)):=by
 obtain⟨k1,k2,k3,⟨v,k4⟩,k5⟩:=h;have h2:=k4.set c hc u
 have e:(fun k=>if k=c then u else (if k=c then v else F2 k))=fun k=>if k=c then u else F2 k:=by
  funext k;split <;> rfl
 rw[e] at h2;exact⟨k3.other g2 c hg _,h2,k5.setCell hW _,k1.other g2 c ha _,k2.other g2 c hb _,k3.other g2 c hg _,⟨u,h2⟩,k5.setCell hW _⟩
theorem SKP.store{W w:World}{ba bb:Nat}{ps ns:List ByteArray}{g g2 n c:Nat}{F F2:Nat->Bool}{r j:Nat}{x y:ByteArray}(hc:c<n)(ha:ba≠g2)(hb:bb≠g2)(hg:g≠g2)(hW:W.heap.size<=g2)(u:Bool)(h:SKP W ba bb ps ns g g2 n c F F2 r j x y w):SKP W ba bb ps ns g g2 n c F F2 r j x y (w.setCell ⟨g2,c,none⟩ (.bool u)):=by
 obtain⟨h1,h2,h3,h4,h5,hk⟩:=h;obtain⟨z1,z2,z3,z4⟩:=hk.set hc ha hb hg hW u;have cc:=z2.1 c hc;have f1:(g2==g)=false:=by simpa using fun h=>hg h.symm
 have f2:(g2==ba)=false:=by simpa using fun h=>ha h.symm
 have f3:(g2==bb)=false:=by simpa using fun h=>hb h.symm
 have o1:g2≠g:=fun h=>hg h.symm
 have o2:g2≠ba:=fun h=>ha h.symm
 have o3:g2≠bb:=fun h=>hb h.symm
 refine⟨?_,?_,?_,zho cc,z2.2,z4⟩
 · rw[<-h1];simp [go_sem]
 · rw[<-h2];simp [go_sem]
 · rw[<-h3];simp [go_sem]
end
section
open Go.RowKit
attribute [local go_sem ↓] zaV zaW znp zaz zcu
attribute [local go_sem] zav zap zal zaI zaJ zae zaq zai zaw zao zas zan zaa zaj zaf zaA zax zak zag zar zaG zaC zaE zbg zbs zbl
end
section
open Go.RowKit
attribute [local go_sem ↓] zaV zaW znp
attribute [local go_sem] zap zal zae zaq zai zaw zao zas zan zaa zaj zaf zaA zax zak zag zar zaG
end
end Go.Proofs.YtefcmdmfgdcpmaaGreatDoor
