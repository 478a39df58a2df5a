/- Catalogs. -/
import Derived.Test.YtnkjliahpeebjaaGreatDoorChA
import Derived.Test.YtnkjliahpeebjaaGreatDoorRuC
set_option maxRecDepth 8000
set_option maxHeartbeats 40000000
open Option renaming some->Z9,none->Z8
namespace Go.Proofs.YtnkjliahpeebjaaGreatDoor
variable{W w:World}{B b c e a:Nat}{w' k:World}{f g i n:Nat}{l m:List ByteArray}{d F:Nat->Bool}{r j:Nat}{x y:ByteArray}
section
open Go.RowKit
def BI(w:World)(g n:Nat)(F:Nat->Bool):Prop:=(∀ k,k<n->w.cell? ⟨g,k,Z8⟩=Z9 (.bool (F k)))/\(∀ o,w.frozen? ⟨g,o,Z8⟩=false)
theorem BI.lt(h:BI w g n F)(H:0<n):g<w.heap.size:=block_lt_of_cell (h.1 0 H)
theorem BI.below(h:BI w g n F)(H:Below w.heap.size w w')(q:0<n):BI w' g n F :=
 ⟨fun k p=>ai H (h.1 k p),fun o=>by rw[(bcell H).2 g o (h.lt q)];exact h.2 o⟩
theorem BI.drew(h:BI w g n F):BI w.drew g n F:=h
theorem BI.drewN(h:BI w g n F)(m:Nat):BI (w.drewN m) g n F:=h
theorem BI.grown(h:BI w g n F)(p:w.grownBy w' Z8)(s:0<n):BI w' g n F:=by
 have H:=p.block g (h.lt s) (by simp);refine⟨fun k q=>?_,fun o=>?_⟩
 .rw[World.cell?_of_block (a:=⟨g,k,Z8⟩) H];exact h.1 k q
 .rw[World.frozen?_of_block (a:=⟨g,o,Z8⟩) H];exact h.2 o
theorem BI.set(h:BI w g n F)(c:Nat)(s:c<n)(v:Bool):BI (w.setCell ⟨g,c,Z8⟩ (.bool v)) g n (fun k=>if k=c then v else F k):=by
 refine⟨fun k t=>?_,fun o=>by have:=h.2 o;simpa using this⟩
 have q:=h.1 k t;have H:=h.1 c s;by_cases e:k=c
 .subst e;simp [go_sem,H]
 .show _=Z9 (Value.bool (if k=c then v else F k))
  rw[if_neg e,<-q];have E:c≠k:=fun h=>e h.symm
  have p:(c==k)=false:=by simpa using E
  simp [go_sem]
theorem BI.other(h:BI w g n F)(a c:Nat)(H:g≠a)(v:Value):BI (w.setCell ⟨a,c,Z8⟩ v) g n F:=by
 refine⟨fun k p=>?_,fun o=>by have:=h.2 o;simpa using this⟩
 rw[<-h.1 k p];have E:(a==g)=false:=by simpa using fun h=>H h.symm
 simp [go_sem]
theorem BI.made(h:w.ownsRow B e 1 (.slice (Z9 ⟨g,0,Z8⟩) n n) n (madeCells (Value.bool false).cells (n*1)).toList):BI w g n (fun _=>false):=by
 refine⟨fun k H=>?_,fun o=>h.frozenAt o⟩
 rw[h.cellAt k (by omega)];show (madeCells #[Value.bool false] (n*1)).toList[k]?=_
 rw[toList_madeCells_one,List.getElem?_replicate,if_pos (by omega)]
end
section
open Go.RowKit
def KJ(W:World)(f i:Nat)(l m:List ByteArray)(g a n c:Nat)(F d:Nat->Bool)(w:World):Prop :=
 Strs w f l/\Strs w i m/\BI w g n F/\(∃ v,BI w a n (fun k=>if k=c then v else d k))/\Below W.heap.size W w
theorem KJ.start(H:Strs w f l)(o:Strs w i m)(p:BI w g n F)(h:BI w a n d)(q:Below W.heap.size W w):KJ W f i l m g a n c F d w.drew :=
 ⟨H,o,p,⟨d c,⟨fun k s=>by
  rw[show (w.drew).cell? ⟨a,k,Z8⟩=w.cell? ⟨a,k,Z8⟩ from rfl,h.1 k s];show _=Z9 (Value.bool (if k=c then d c else d k))
  by_cases e:k=c
  .rw[if_pos e,e]
  .rw[if_neg e],h.2⟩⟩,q.drew⟩
def SKP(W:World)(f i:Nat)(l m:List ByteArray)(g a n c:Nat)(F d:Nat->Bool)(r j:Nat)(x y:ByteArray)(w:World):Prop :=
 w.cell? ⟨g,j,Z8⟩=Z9 (.bool true)/\w.cell? ⟨f,r,Z8⟩=Z9 (.string x)/\w.cell? ⟨i,j,Z8⟩=Z9 (.string y)/\w.cell? ⟨a,c,Z8⟩=Z9 (.bool (bvc w a c))/\(∀ o,w.frozen? ⟨a,o,Z8⟩=false)/\KJ W f i l m g a n c F d w
theorem SKP.call(D:c<n)(H:Below w.heap.size w k)(h:SKP W f i l m g a n c F d r j x y w):SKP W f i l m g a n c F d r j x y k:=by
 obtain⟨o,p,q,s,C,k1,t,u,⟨v,z⟩,A⟩:=h;have K:=z.below H (by omega);exact⟨ai H o,ai H p,ai H q,kw (ai H s),K.2,k1.below H,t.below H,u.below H (by omega),⟨v,K⟩,bt A H⟩
theorem Strs.other(h:Strs w b l)(g c:Nat)(H:b≠g)(v:Value):Strs (w.setCell ⟨g,c,Z8⟩ v) b l:=fun k o=>by
 rw[<-h k o];have E:(g==b)=false:=by simpa using fun h=>H h.symm
 simp [go_sem]
theorem KJ.set(t:c<n)(ha:f≠a)(s:i≠a)(p:g≠a)(o:W.heap.size<=a)(u:Bool)(h:KJ W f i l m g a n c F d w):BI (w.setCell ⟨a,c,Z8⟩ (.bool u)) g n F/\BI (w.setCell ⟨a,c,Z8⟩ (.bool u)) a n (fun k=>if k=c then u else d k)/\Below W.heap.size W (w.setCell ⟨a,c,Z8⟩ (.bool u))/\KJ W f i l m g a n c F d (w.setCell ⟨a,c,Z8⟩ (.bool u)):=by
 obtain⟨k1,z,K,⟨v,A⟩,q⟩:=h;have H:=A.set c t u
 have e:(fun k=>if k=c then u else (if k=c then v else d k))=fun k=>if k=c then u else d k:=by
  funext k;split <;> rfl
 rw[e] at H;exact⟨K.other a c p _,H,q.setCell o _,k1.other a c ha _,z.other a c s _,K.other a c p _,⟨u,H⟩,q.setCell o _⟩
theorem SKP.store(p:c<n)(ha:f≠a)(H:i≠a)(o:g≠a)(v:W.heap.size<=a)(u:Bool)(h:SKP W f i l m g a n c F d r j x y w):SKP W f i l m g a n c F d r j x y (w.setCell ⟨a,c,Z8⟩ (.bool u)):=by
 obtain⟨q,s,t,I,J,A⟩:=h;obtain⟨N,z,P,Z⟩:=A.set p ha H o v u;have C:=z.1 c p;have D:(a==g)=false:=by simpa using fun h=>o h.symm
 have E:(a==f)=false:=by simpa using fun h=>ha h.symm
 have G:(a==i)=false:=by simpa using fun h=>H h.symm
 have O:a≠g:=fun h=>o h.symm
 have K:a≠f:=fun h=>ha h.symm
 have L:a≠i:=fun h=>H h.symm
 refine⟨?_,?_,?_,kw C,z.2,Z⟩
 .rw[<-q];simp [go_sem]
 .rw[<-s];simp [go_sem]
 .rw[<-t];simp [go_sem]
end
section
open Go.RowKit
attribute [local go_sem ↓] aZ bf qA bq fb
attribute [local go_sem] bn aS aH bE bH aK aT ak aI aw az aM ah aQ aL aP aO aR aY aW bD ap aq bN cK cC
end
section
open Go.RowKit
attribute [local go_sem ↓] aZ bf qA
attribute [local go_sem] aS aH aK aT ak aI aw az aM ah aQ aL aP aO aR aY aW bD
end
end Go.Proofs.YtnkjliahpeebjaaGreatDoor
