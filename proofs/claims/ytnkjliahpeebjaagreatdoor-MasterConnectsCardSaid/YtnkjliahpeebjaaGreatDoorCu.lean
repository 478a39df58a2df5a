/- Catalogs. -/
import Derived.Test.YtnkjliahpeebjaaGreatDoorAe
set_option maxRecDepth 8000
set_option maxHeartbeats 8000000
namespace Go.Proofs.YtnkjliahpeebjaaGreatDoor
open Go.RowKit
variable(l:List Rw)(fl cd a id:Int)(x:Fu)
section
def fV(l:List Rw)(id:Int)(x:Fu):Int :=
 if x.1.kind≠2 then 0 else match dx l id x.1.target with
  | (y,c)=>if c≠0 then c else if Ds.gen (Ds.bl y.1.name)=true\/y.1.kind=2 then 7 else 0
theorem Bz(H:fl<=0)(h:0<=a):(et l fl cd a id x).1=fV l id x:=by
 unfold et fV;split
 .rfl
 .have e:=kh l fl cd a id x.1.target H h;rw[<-e];generalize bY l fl cd a id x.1.target=g;obtain⟨⟨y,c⟩,C⟩:=g;dsimp only;split
  .rfl
  .split <;> rfl
attribute [local go_sem ↓] aZ bf bq cl
attribute [local go_sem] bn aS aH bE bH aK aT ak aI aw az aM ah aQ aL aP aO aR aY aW bD ap aq
end
section
attribute [local go_sem ↓] aZ bf bq cl eX
attribute [local go_sem] bn aS aH bE bH aK aT ak aI aw az aM ah aQ aL aP aO aR aY aW bD ap aq
end
section
attribute [local go_sem ↓] aZ bf bq cl eX
attribute [local go_sem] bn aS aH bE bH aK aT ak aI aw az aM ah aQ aL aP aO aR aY aW bD ap aq
end
section
def lR(l:List Rw)(id:Int)(x:Fu):Int:=if 2<x.1.kind then (bz l id x.1.kind x.1.name).2 else (dx l id x.1.name).2
def iK(l:List Rw)(id:Int)(x:Fu):List Ch × Int :=
 if aA x=true then
  if cE (lR l id x)≠0 then ([],cE (lR l id x))
  else if (Ds.gen (Ds.bl x.1.name)=true/\x.1.kind=0)/\(bz l id 1 (dK x.1.name)).2≠0 then ([],(bz l id 1 (dK x.1.name)).2)
  else if fV l id x≠0 then ([],fV l id x)
  else ([bI id x],0)
 else ([],1)
theorem DD(H:fl<=0)(h:0<=a):(add1F l fl cd a id x).1=cE (lR l id x):=by
 unfold add1F lR;split
 .rw[iz l fl cd a id _ _ H h]
 .rw[kh l fl cd a id _ H h]
theorem FO(f:fl<=0)(n:0<=a):(io l fl cd a id x).1=iK l id x:=by
 unfold io iK;split
 rotate_left
 .rfl
 have e:=qk l fl cd id x 0 a;have i:=DD l fl cd a id x f n;change a<=(add1F l fl cd a id x).2/\_ at e
 show (gy l fl cd id x (2+1) 0 a).1=_
 unfold gy;change (if (add1F l fl cd a id x).1≠0 then (([],(add1F l fl cd a id x).1),(add1F l fl cd a id x).2) else gy l fl cd id x 2 (0+1) (add1F l fl cd a id x).2).1=_
 rw[i];split
 .rfl
 generalize (add1F l fl cd a id x).2=c at e;have b:0<=c:=by omega
 have g:=qk l fl cd id x 1 c
 have j:(add2F l fl cd c id x).1=if Ds.gen (Ds.bl x.1.name)=true/\x.1.kind=0 then (bz l id 1 (dK x.1.name)).2 else 0:=by
  unfold add2F;split
  .rw[iz l fl cd c id _ _ f b]
  .rfl
 change c<=(add2F l fl cd c id x).2/\_ at g
 unfold gy;change (if (add2F l fl cd c id x).1≠0 then (([],(add2F l fl cd c id x).1),(add2F l fl cd c id x).2) else gy l fl cd id x 1 (0+1+1) (add2F l fl cd c id x).2).1=_
 rw[j];generalize (add2F l fl cd c id x).2=C at g;have d:0<=C:=by omega
 have m:=Bz l fl cd C id x f d
 have E:(gy l fl cd id x 1 (0+1+1) C).1=if fV l id x≠0 then ([],fV l id x) else ([bI id x],0):=by
  unfold gy;change (if (et l fl cd C id x).1≠0 then (([],(et l fl cd C id x).1),(et l fl cd C id x).2) else _).1=_
  rw[m];split <;> rfl
 by_cases H:Ds.gen (Ds.bl x.1.name)=true/\x.1.kind=0
 .rw[if_pos H];by_cases h:(bz l id 1 (dK x.1.name)).2≠0
  .rw[if_pos h,if_pos ⟨H,h⟩]
  .rw[if_neg h,if_neg (fun k=>h k.2)];exact E
 .rw[if_neg H,if_neg (fun h=>h rfl),if_neg (fun k=>H k.1)];exact E
attribute [local go_sem ↓] aZ bf bq cl eX
attribute [local go_sem] bn aS aH bE bH aK aT ak aI aw az aM ah aQ aL aP aO aR aY aW bD ap aq
end
end Go.Proofs.YtnkjliahpeebjaaGreatDoor
