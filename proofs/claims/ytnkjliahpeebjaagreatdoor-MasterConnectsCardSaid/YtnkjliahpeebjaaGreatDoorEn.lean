/- Catalogs. -/
import Derived.Test.YtnkjliahpeebjaaGreatDoorKit
import Derived.Test.YtnkjliahpeebjaaGreatDoorChecked
open Option renaming some->Z9
open _root_ renaming ByteArray->Z7,Bool->Zi
open Go renaming Value->Z3
open Go.Value renaming int->ZH,string->Zh,bool->XS
namespace Go.Proofs.YtnkjliahpeebjaaGreatDoor
section
open Go.RowKit
structure En where
 kind:Int
 name:Z7
 d0:Int
 d1:Int
 d2:Int
 d3:Int
 d4:Int
 d5:Int
 d6:Int
 d7:Int
 d8:Int
 d9:Int
 d10:Int
 d11:Int
 d12:Int
 d13:Int
 uq:Zi
 cls:Int
 vol:Z7
 own:Z7
 cr:Int
 ex:Int
 ar:Zi
 used:Int
 lim:Int
 last:Int
 em:Zi
 owner:Z7
 target:Z7
 cat:Int
 lev:Int
def En.zero:En:=⟨0,⟨#[]⟩,0,0,0,0,0,0,0,0,0,0,0,0,0,0,false,0,⟨#[]⟩,⟨#[]⟩,0,0,false,0,0,0,false,⟨#[]⟩,⟨#[]⟩,0,0⟩
def En.vals(e:En)(a g:Z3):Array Z3:=#[ZH .i64 e.kind,Zh e.name,ZH .i64 e.d0,ZH .i64 e.d1,ZH .i64 e.d2,ZH .i64 e.d3,ZH .i64 e.d4,ZH .i64 e.d5,ZH .i64 e.d6,ZH .i64 e.d7,ZH .i64 e.d8,ZH .i64 e.d9,ZH .i64 e.d10,ZH .i64 e.d11,ZH .i64 e.d12,ZH .i64 e.d13,XS e.uq,ZH .i64 e.cls,Zh e.vol,Zh e.own,ZH .i64 e.cr,ZH .i64 e.ex,XS e.ar,a,ZH .i64 e.used,ZH .i64 e.lim,ZH .i64 e.last,XS e.em,Zh e.owner,Zh e.target,ZH .i64 e.cat,ZH .i64 e.lev,g]
theorem ah(e:En)(a g:Z3):(e.vals a g).size=33:=rfl
theorem ap(e:En)(a g:Z3):(e.vals a g)[0]?=Z9 (ZH .i64 e.kind):=rfl
theorem aq(e:En)(a g:Z3):(e.vals a g)[1]?=Z9 (Zh e.name):=rfl
theorem vU(e:En)(a g:Z3):(e.vals a g)[2]?=Z9 (ZH .i64 e.d0):=rfl
theorem G7(e:En)(a g:Z3):(e.vals a g)[3]?=Z9 (ZH .i64 e.d1):=rfl
theorem Ha(e:En)(a g:Z3):(e.vals a g)[4]?=Z9 (ZH .i64 e.d2):=rfl
theorem Hb(e:En)(a g:Z3):(e.vals a g)[5]?=Z9 (ZH .i64 e.d3):=rfl
theorem Hc(e:En)(a g:Z3):(e.vals a g)[6]?=Z9 (ZH .i64 e.d4):=rfl
theorem Hd(e:En)(a g:Z3):(e.vals a g)[7]?=Z9 (ZH .i64 e.d5):=rfl
theorem He(e:En)(a g:Z3):(e.vals a g)[8]?=Z9 (ZH .i64 e.d6):=rfl
theorem Hf(e:En)(a g:Z3):(e.vals a g)[9]?=Z9 (ZH .i64 e.d7):=rfl
theorem Fk(e:En)(a g:Z3):(e.vals a g)[10]?=Z9 (ZH .i64 e.d8):=rfl
theorem Fl(e:En)(a g:Z3):(e.vals a g)[11]?=Z9 (ZH .i64 e.d9):=rfl
theorem Fm(e:En)(a g:Z3):(e.vals a g)[12]?=Z9 (ZH .i64 e.d10):=rfl
theorem Fo(e:En)(a g:Z3):(e.vals a g)[13]?=Z9 (ZH .i64 e.d11):=rfl
theorem Fp(e:En)(a g:Z3):(e.vals a g)[14]?=Z9 (ZH .i64 e.d12):=rfl
theorem Fq(e:En)(a g:Z3):(e.vals a g)[15]?=Z9 (ZH .i64 e.d13):=rfl
theorem pQ(e:En)(a g:Z3):(e.vals a g)[16]?=Z9 (XS e.uq):=rfl
theorem pR(e:En)(a g:Z3):(e.vals a g)[17]?=Z9 (ZH .i64 e.cls):=rfl
theorem pS(e:En)(a g:Z3):(e.vals a g)[18]?=Z9 (Zh e.vol):=rfl
theorem pT(e:En)(a g:Z3):(e.vals a g)[19]?=Z9 (Zh e.own):=rfl
theorem Fr(e:En)(a g:Z3):(e.vals a g)[20]?=Z9 (ZH .i64 e.cr):=rfl
theorem Fs(e:En)(a g:Z3):(e.vals a g)[21]?=Z9 (ZH .i64 e.ex):=rfl
theorem pU(e:En)(a g:Z3):(e.vals a g)[22]?=Z9 (XS e.ar):=rfl
theorem cf(e:En)(a g:Z3):(e.vals a g)[23]?=Z9 (a):=rfl
theorem cM(e:En)(a g:Z3):(e.vals a g)[24]?=Z9 (ZH .i64 e.used):=rfl
theorem df(e:En)(a g:Z3):(e.vals a g)[25]?=Z9 (ZH .i64 e.lim):=rfl
theorem dc(e:En)(a g:Z3):(e.vals a g)[26]?=Z9 (ZH .i64 e.last):=rfl
theorem ef(e:En)(a g:Z3):(e.vals a g)[27]?=Z9 (XS e.em):=rfl
theorem bN(e:En)(a g:Z3):(e.vals a g)[28]?=Z9 (Zh e.owner):=rfl
theorem cB(e:En)(a g:Z3):(e.vals a g)[29]?=Z9 (Zh e.target):=rfl
theorem dv(e:En)(a g:Z3):(e.vals a g)[30]?=Z9 (ZH .i64 e.cat):=rfl
theorem cK(e:En)(a g:Z3):(e.vals a g)[31]?=Z9 (ZH .i64 e.lev):=rfl
theorem cC(e:En)(a g:Z3):(e.vals a g)[32]?=Z9 (g):=rfl
theorem It(e:En)(a g:Z3)(x:Int):(e.vals a g).setIfInBounds 2 (.int .i64 x)=({ e with d0:=x }:En).vals a g:=rfl
theorem Iu(e:En)(a g:Z3)(x:Int):(e.vals a g).setIfInBounds 3 (.int .i64 x)=({ e with d1:=x }:En).vals a g:=rfl
theorem Iv(e:En)(a g:Z3)(x:Int):(e.vals a g).setIfInBounds 4 (.int .i64 x)=({ e with d2:=x }:En).vals a g:=rfl
theorem Iw(e:En)(a g:Z3)(x:Int):(e.vals a g).setIfInBounds 5 (.int .i64 x)=({ e with d3:=x }:En).vals a g:=rfl
theorem Ix(e:En)(a g:Z3)(x:Int):(e.vals a g).setIfInBounds 6 (.int .i64 x)=({ e with d4:=x }:En).vals a g:=rfl
theorem Iy(e:En)(a g:Z3)(x:Int):(e.vals a g).setIfInBounds 7 (.int .i64 x)=({ e with d5:=x }:En).vals a g:=rfl
theorem Iz(e:En)(a g:Z3)(x:Int):(e.vals a g).setIfInBounds 8 (.int .i64 x)=({ e with d6:=x }:En).vals a g:=rfl
theorem IC(e:En)(a g:Z3)(x:Int):(e.vals a g).setIfInBounds 9 (.int .i64 x)=({ e with d7:=x }:En).vals a g:=rfl
theorem Ht(e:En)(a g:Z3)(x:Int):(e.vals a g).setIfInBounds 10 (.int .i64 x)=({ e with d8:=x }:En).vals a g:=rfl
theorem Hu(e:En)(a g:Z3)(x:Int):(e.vals a g).setIfInBounds 11 (.int .i64 x)=({ e with d9:=x }:En).vals a g:=rfl
theorem Hv(e:En)(a g:Z3)(x:Int):(e.vals a g).setIfInBounds 12 (.int .i64 x)=({ e with d10:=x }:En).vals a g:=rfl
theorem Hw(e:En)(a g:Z3)(x:Int):(e.vals a g).setIfInBounds 13 (.int .i64 x)=({ e with d11:=x }:En).vals a g:=rfl
theorem Hx(e:En)(a g:Z3)(x:Int):(e.vals a g).setIfInBounds 14 (.int .i64 x)=({ e with d12:=x }:En).vals a g:=rfl
theorem Hy(e:En)(a g:Z3)(x:Int):(e.vals a g).setIfInBounds 15 (.int .i64 x)=({ e with d13:=x }:En).vals a g:=rfl
theorem wn(e:En)(a g:Z3)(x:Zi):(e.vals a g).setIfInBounds 16 (.bool x)=({ e with uq:=x }:En).vals a g:=rfl
theorem ws(e:En)(a g:Z3)(x:Int):(e.vals a g).setIfInBounds 17 (.int .i64 x)=({ e with cls:=x }:En).vals a g:=rfl
theorem wt(e:En)(a g:Z3)(x:Z7):(e.vals a g).setIfInBounds 18 (.string x)=({ e with vol:=x }:En).vals a g:=rfl
theorem wu(e:En)(a g:Z3)(x:Z7):(e.vals a g).setIfInBounds 19 (.string x)=({ e with own:=x }:En).vals a g:=rfl
theorem wv(e:En)(a g:Z3)(x:Int):(e.vals a g).setIfInBounds 20 (.int .i64 x)=({ e with cr:=x }:En).vals a g:=rfl
theorem ww(e:En)(a g:Z3)(x:Int):(e.vals a g).setIfInBounds 21 (.int .i64 x)=({ e with ex:=x }:En).vals a g:=rfl
theorem wA(e:En)(a g:Z3)(x:Zi):(e.vals a g).setIfInBounds 22 (.bool x)=({ e with ar:=x }:En).vals a g:=rfl
theorem Hz(e:En)(a g v:Z3):(e.vals a g).setIfInBounds 23 v=e.vals v g:=rfl
theorem wC(e:En)(a g:Z3)(x:Int):(e.vals a g).setIfInBounds 24 (.int .i64 x)=({ e with used:=x }:En).vals a g:=rfl
theorem Ia(e:En)(a g:Z3)(x:Int):(e.vals a g).setIfInBounds 25 (.int .i64 x)=({ e with lim:=x }:En).vals a g:=rfl
theorem Ib(e:En)(a g:Z3)(x:Int):(e.vals a g).setIfInBounds 26 (.int .i64 x)=({ e with last:=x }:En).vals a g:=rfl
theorem Ic(e:En)(a g:Z3)(x:Zi):(e.vals a g).setIfInBounds 27 (.bool x)=({ e with em:=x }:En).vals a g:=rfl
theorem wD(e:En)(a g:Z3)(x:Z7):(e.vals a g).setIfInBounds 28 (.string x)=({ e with owner:=x }:En).vals a g:=rfl
theorem Id(e:En)(a g:Z3)(x:Z7):(e.vals a g).setIfInBounds 29 (.string x)=({ e with target:=x }:En).vals a g:=rfl
theorem Ie(e:En)(a g:Z3)(x:Int):(e.vals a g).setIfInBounds 30 (.int .i64 x)=({ e with cat:=x }:En).vals a g:=rfl
theorem If(e:En)(a g:Z3)(x:Int):(e.vals a g).setIfInBounds 31 (.int .i64 x)=({ e with lev:=x }:En).vals a g:=rfl
theorem wE(e:En)(a g v:Z3):(e.vals a g).setIfInBounds 32 v=e.vals a v:=rfl
theorem ay(e:En)(a g:Z3)(h:one a=true)(H:one g=true):bh (e.vals a g).toList=true:=by
 show bh [ZH .i64 e.kind,Zh e.name,ZH .i64 e.d0,ZH .i64 e.d1,ZH .i64 e.d2,ZH .i64 e.d3,ZH .i64 e.d4,ZH .i64 e.d5,ZH .i64 e.d6,ZH .i64 e.d7,ZH .i64 e.d8,ZH .i64 e.d9,ZH .i64 e.d10,ZH .i64 e.d11,ZH .i64 e.d12,ZH .i64 e.d13,XS e.uq,ZH .i64 e.cls,Zh e.vol,Zh e.own,ZH .i64 e.cr,ZH .i64 e.ex,XS e.ar,a,ZH .i64 e.used,ZH .i64 e.lim,ZH .i64 e.last,XS e.em,Zh e.owner,Zh e.target,ZH .i64 e.cat,ZH .i64 e.lev,g]=true
 simp [aL,aQ,aP,aR,aO,h,H]
def En.dat(e:En):Array Z3:=#[ZH .i64 e.d0,ZH .i64 e.d1,ZH .i64 e.d2,ZH .i64 e.d3,ZH .i64 e.d4,ZH .i64 e.d5,ZH .i64 e.d6,ZH .i64 e.d7,ZH .i64 e.d8,ZH .i64 e.d9,ZH .i64 e.d10,ZH .i64 e.d11,ZH .i64 e.d12,ZH .i64 e.d13,XS e.uq,ZH .i64 e.cls,Zh e.vol,Zh e.own,ZH .i64 e.cr,ZH .i64 e.ex,XS e.ar]
theorem bW(e:En):e.dat.size=21:=rfl
theorem qH(e:En):e.dat[0]?=Z9 (ZH .i64 e.d0):=rfl
theorem qI(e:En):e.dat[1]?=Z9 (ZH .i64 e.d1):=rfl
theorem qJ(e:En):e.dat[2]?=Z9 (ZH .i64 e.d2):=rfl
theorem wH(e:En):e.dat[3]?=Z9 (ZH .i64 e.d3):=rfl
theorem wI(e:En):e.dat[4]?=Z9 (ZH .i64 e.d4):=rfl
theorem wW(e:En):e.dat[5]?=Z9 (ZH .i64 e.d5):=rfl
theorem wY(e:En):e.dat[6]?=Z9 (ZH .i64 e.d6):=rfl
theorem wZ(e:En):e.dat[7]?=Z9 (ZH .i64 e.d7):=rfl
theorem xd(e:En):e.dat[8]?=Z9 (ZH .i64 e.d8):=rfl
theorem xe(e:En):e.dat[9]?=Z9 (ZH .i64 e.d9):=rfl
theorem vG(e:En):e.dat[10]?=Z9 (ZH .i64 e.d10):=rfl
theorem vH(e:En):e.dat[11]?=Z9 (ZH .i64 e.d11):=rfl
theorem vI(e:En):e.dat[12]?=Z9 (ZH .i64 e.d12):=rfl
theorem vJ(e:En):e.dat[13]?=Z9 (ZH .i64 e.d13):=rfl
theorem p9(e:En):e.dat[15]?=Z9 (ZH .i64 e.cls):=rfl
theorem mW(e:En):e.dat[16]?=Z9 (Zh e.vol):=rfl
theorem eQ(e:En):e.dat[17]?=Z9 (Zh e.own):=rfl
theorem eB(e:En):e.dat[18]?=Z9 (ZH .i64 e.cr):=rfl
theorem eC(e:En):e.dat[19]?=Z9 (ZH .i64 e.ex):=rfl
theorem yw(e:En)(a g:Z3)(i:Nat)(h:i<21):(e.vals a g)[2+i]?=e.dat[i]?:=by
 have:∀ j:Fin 21,(e.vals a g)[2+j.val]?=e.dat[j.val]?:=by
  intro j;match j with
  | ⟨0,_⟩=>rfl
  | ⟨1,_⟩=>rfl
  | ⟨2,_⟩=>rfl
  | ⟨3,_⟩=>rfl
  | ⟨4,_⟩=>rfl
  | ⟨5,_⟩=>rfl
  | ⟨6,_⟩=>rfl
  | ⟨7,_⟩=>rfl
  | ⟨8,_⟩=>rfl
  | ⟨9,_⟩=>rfl
  | ⟨10,_⟩=>rfl
  | ⟨11,_⟩=>rfl
  | ⟨12,_⟩=>rfl
  | ⟨13,_⟩=>rfl
  | ⟨14,_⟩=>rfl
  | ⟨15,_⟩=>rfl
  | ⟨16,_⟩=>rfl
  | ⟨17,_⟩=>rfl
  | ⟨18,_⟩=>rfl
  | ⟨19,_⟩=>rfl
  | ⟨20,_⟩=>rfl
  | ⟨n+21,h⟩=>exact absurd h (by omega)
 exact this ⟨i,h⟩
theorem fp(e:En)(a g:Z3):(e.vals a g).extract 2 23=e.dat:=by
 apply Array.ext_getElem?
 intro i;rw[Array.getElem?_extract];by_cases h:i<21
 .rw[if_pos (by rw[ah];omega),yw e a g i h]
 .rw[if_neg (by rw[ah];omega),Array.getElem?_eq_none (by rw[bW];omega)]
def gj(e f:En):Zi:=(e.d0==f.d0)&&(e.d1==f.d1)&&(e.d2==f.d2)&&(e.d3==f.d3)&&(e.d4==f.d4)&&(e.d5==f.d5)&&(e.d6==f.d6)&&(e.d7==f.d7)&&(e.d8==f.d8)&&(e.d9==f.d9)&&(e.d10==f.d10)&&(e.d11==f.d11)&&(e.d12==f.d12)&&(e.d13==f.d13)&&(e.uq==f.uq)&&(e.cls==f.cls)&&(e.vol.toList==f.vol.toList)&&(e.own.toList==f.own.toList)&&(e.cr==f.cr)&&(e.ex==f.ex)&&(e.ar==f.ar)
attribute [irreducible] En.vals En.dat
end
section
open Go.RowKit
theorem aZ(e:Operand->Z3)(w:World)(dst x t pos af gd)(h:db (e x)=true)(H:(row w (bF (e x))).size=33) :
 (execOp e ⟨dst,.load 29 x,t,pos,af,gd⟩).run Tryz.prog w=.ok (.value (.agg (row w (bF (e x))))) w :=
 kW e w _ 32 _ Tryz.underlying29 rfl (by kernel_rfl) dst x t pos af gd h H
theorem bf(e:Operand->Z3)(w:World)(z:Array Z3)(t:TypeId)(dst x y t' pos af gd)(h:z.size=33)(H:db (e x)=true)(a:bF (e x)=w.heap.size)(b:cV (e y)=true)(c:(bA (e y)).size=33)(d:bh (bA (e y)).toList=true) :
 (execOp e ⟨dst,.store 29 x y,t',pos,af,gd⟩).run Tryz.prog (w.alloc (.cells z t))=.ok .skip (w.alloc (.cells (bA (e y)) t)) :=
 l0 e w _ 32 (by kernel_rfl) z t dst x y t' pos af gd h H a b c d
end
def gU(e:En):En:={ En.zero with kind:=e.kind,name:=e.name,target:=e.target }
def gV(e:En):En:={ En.zero with kind:=e.kind,name:=e.name,cat:=e.cat }
def fG(e:En):En:={ En.zero with kind:=e.kind,name:=e.name,lev:=e.lev,owner:=e.owner }
def fg(e:En):En:={ En.zero with kind:=e.kind,name:=e.name,d0:=e.d0,d1:=e.d1,d2:=e.d2,d3:=e.d3,d4:=e.d4,d5:=e.d5,d6:=e.d6,d7:=e.d7,d8:=e.d8,d9:=e.d9,d10:=e.d10,d11:=e.d11,d12:=e.d12,d13:=e.d13,uq:=e.uq,cls:=e.cls,vol:=e.vol,own:=e.own,cr:=e.cr,ex:=e.ex,ar:=e.ar,used:=e.used }
end Go.Proofs.YtnkjliahpeebjaaGreatDoor
