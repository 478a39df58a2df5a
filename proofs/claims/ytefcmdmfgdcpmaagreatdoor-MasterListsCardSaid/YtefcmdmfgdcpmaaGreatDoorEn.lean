/- Catalogs. -/
import Derived.Test.YtefcmdmfgdcpmaaGreatDoorKit
import Derived.Test.YtefcmdmfgdcpmaaGreatDoorChecked
namespace Go.Proofs.YtefcmdmfgdcpmaaGreatDoor
section
open Go.RowKit
structure En where
 kind:Int
 name:ByteArray
 d0:Int
 d1:Int
 d2:Int
 d3:Int
 d4:Int
 d5:Int
 d6:Int
 d7:Int
 d8:Int
 d9:Int
 d10:Int
 d11:Int
 d12:Int
 d13:Int
 uq:Bool
 cls:Int
 vol:ByteArray
 own:ByteArray
 cr:Int
 ex:Int
 ar:Bool
 used:Int
 lim:Int
 last:Int
 em:Bool
 owner:ByteArray
 target:ByteArray
 cat:Int
 lev:Int
def En.zero:En:=⟨0,⟨#[]⟩,0,0,0,0,0,0,0,0,0,0,0,0,0,0,false,0,⟨#[]⟩,⟨#[]⟩,0,0,false,0,0,0,false,⟨#[]⟩,⟨#[]⟩,0,0⟩
def En.vals(e:En)(al gr:Value):Array Value:=#[Value.int .i64 e.kind,Value.string e.name,Value.int .i64 e.d0,Value.int .i64 e.d1,Value.int .i64 e.d2,Value.int .i64 e.d3,Value.int .i64 e.d4,Value.int .i64 e.d5,Value.int .i64 e.d6,Value.int .i64 e.d7,Value.int .i64 e.d8,Value.int .i64 e.d9,Value.int .i64 e.d10,Value.int .i64 e.d11,Value.int .i64 e.d12,Value.int .i64 e.d13,Value.bool e.uq,Value.int .i64 e.cls,Value.string e.vol,Value.string e.own,Value.int .i64 e.cr,Value.int .i64 e.ex,Value.bool e.ar,al,Value.int .i64 e.used,Value.int .i64 e.lim,Value.int .i64 e.last,Value.bool e.em,Value.string e.owner,Value.string e.target,Value.int .i64 e.cat,Value.int .i64 e.lev,gr]
theorem zaa(e:En)(al gr:Value):(e.vals al gr).size=33:=rfl
theorem zaC(e:En)(al gr:Value):(e.vals al gr)[0]?=some (Value.int .i64 e.kind):=rfl
theorem zaE(e:En)(al gr:Value):(e.vals al gr)[1]?=some (Value.string e.name):=rfl
theorem zek(e:En)(al gr:Value):(e.vals al gr)[2]?=some (Value.int .i64 e.d0):=rfl
theorem zva(e:En)(al gr:Value):(e.vals al gr)[3]?=some (Value.int .i64 e.d1):=rfl
theorem zvb(e:En)(al gr:Value):(e.vals al gr)[4]?=some (Value.int .i64 e.d2):=rfl
theorem zvc(e:En)(al gr:Value):(e.vals al gr)[5]?=some (Value.int .i64 e.d3):=rfl
theorem zvd(e:En)(al gr:Value):(e.vals al gr)[6]?=some (Value.int .i64 e.d4):=rfl
theorem zve(e:En)(al gr:Value):(e.vals al gr)[7]?=some (Value.int .i64 e.d5):=rfl
theorem zvf(e:En)(al gr:Value):(e.vals al gr)[8]?=some (Value.int .i64 e.d6):=rfl
theorem zvg(e:En)(al gr:Value):(e.vals al gr)[9]?=some (Value.int .i64 e.d7):=rfl
theorem zte(e:En)(al gr:Value):(e.vals al gr)[10]?=some (Value.int .i64 e.d8):=rfl
theorem ztf(e:En)(al gr:Value):(e.vals al gr)[11]?=some (Value.int .i64 e.d9):=rfl
theorem ztg(e:En)(al gr:Value):(e.vals al gr)[12]?=some (Value.int .i64 e.d10):=rfl
theorem zth(e:En)(al gr:Value):(e.vals al gr)[13]?=some (Value.int .i64 e.d11):=rfl
theorem zti(e:En)(al gr:Value):(e.vals al gr)[14]?=some (Value.int .i64 e.d12):=rfl
theorem ztj(e:En)(al gr:Value):(e.vals al gr)[15]?=some (Value.int .i64 e.d13):=rfl
theorem zjb(e:En)(al gr:Value):(e.vals al gr)[16]?=some (Value.bool e.uq):=rfl
theorem zjc(e:En)(al gr:Value):(e.vals al gr)[17]?=some (Value.int .i64 e.cls):=rfl
theorem zjd(e:En)(al gr:Value):(e.vals al gr)[18]?=some (Value.string e.vol):=rfl
theorem zje(e:En)(al gr:Value):(e.vals al gr)[19]?=some (Value.string e.own):=rfl
theorem ztk(e:En)(al gr:Value):(e.vals al gr)[20]?=some (Value.int .i64 e.cr):=rfl
theorem ztl(e:En)(al gr:Value):(e.vals al gr)[21]?=some (Value.int .i64 e.ex):=rfl
theorem zjf(e:En)(al gr:Value):(e.vals al gr)[22]?=some (Value.bool e.ar):=rfl
theorem zbk(e:En)(al gr:Value):(e.vals al gr)[23]?=some (al):=rfl
theorem zbW(e:En)(al gr:Value):(e.vals al gr)[24]?=some (Value.int .i64 e.used):=rfl
theorem zbX(e:En)(al gr:Value):(e.vals al gr)[25]?=some (Value.int .i64 e.lim):=rfl
theorem zbK(e:En)(al gr:Value):(e.vals al gr)[26]?=some (Value.int .i64 e.last):=rfl
theorem zbL(e:En)(al gr:Value):(e.vals al gr)[27]?=some (Value.bool e.em):=rfl
theorem zbg(e:En)(al gr:Value):(e.vals al gr)[28]?=some (Value.string e.owner):=rfl
theorem zbb(e:En)(al gr:Value):(e.vals al gr)[29]?=some (Value.string e.target):=rfl
theorem zbM(e:En)(al gr:Value):(e.vals al gr)[30]?=some (Value.int .i64 e.cat):=rfl
theorem zbs(e:En)(al gr:Value):(e.vals al gr)[31]?=some (Value.int .i64 e.lev):=rfl
theorem zbl(e:En)(al gr:Value):(e.vals al gr)[32]?=some (gr):=rfl
theorem zvZ(e:En)(al gr:Value)(x:Int):(e.vals al gr).setIfInBounds 2 (.int .i64 x)=({ e with d0:=x }:En).vals al gr:=rfl
theorem zv0(e:En)(al gr:Value)(x:Int):(e.vals al gr).setIfInBounds 3 (.int .i64 x)=({ e with d1:=x }:En).vals al gr:=rfl
theorem zv1(e:En)(al gr:Value)(x:Int):(e.vals al gr).setIfInBounds 4 (.int .i64 x)=({ e with d2:=x }:En).vals al gr:=rfl
theorem zv2(e:En)(al gr:Value)(x:Int):(e.vals al gr).setIfInBounds 5 (.int .i64 x)=({ e with d3:=x }:En).vals al gr:=rfl
theorem zv3(e:En)(al gr:Value)(x:Int):(e.vals al gr).setIfInBounds 6 (.int .i64 x)=({ e with d4:=x }:En).vals al gr:=rfl
theorem zv4(e:En)(al gr:Value)(x:Int):(e.vals al gr).setIfInBounds 7 (.int .i64 x)=({ e with d5:=x }:En).vals al gr:=rfl
theorem zv5(e:En)(al gr:Value)(x:Int):(e.vals al gr).setIfInBounds 8 (.int .i64 x)=({ e with d6:=x }:En).vals al gr:=rfl
theorem zv6(e:En)(al gr:Value)(x:Int):(e.vals al gr).setIfInBounds 9 (.int .i64 x)=({ e with d7:=x }:En).vals al gr:=rfl
theorem zuJ(e:En)(al gr:Value)(x:Int):(e.vals al gr).setIfInBounds 10 (.int .i64 x)=({ e with d8:=x }:En).vals al gr:=rfl
theorem zuK(e:En)(al gr:Value)(x:Int):(e.vals al gr).setIfInBounds 11 (.int .i64 x)=({ e with d9:=x }:En).vals al gr:=rfl
theorem zuL(e:En)(al gr:Value)(x:Int):(e.vals al gr).setIfInBounds 12 (.int .i64 x)=({ e with d10:=x }:En).vals al gr:=rfl
theorem zuM(e:En)(al gr:Value)(x:Int):(e.vals al gr).setIfInBounds 13 (.int .i64 x)=({ e with d11:=x }:En).vals al gr:=rfl
theorem zuN(e:En)(al gr:Value)(x:Int):(e.vals al gr).setIfInBounds 14 (.int .i64 x)=({ e with d12:=x }:En).vals al gr:=rfl
theorem zuO(e:En)(al gr:Value)(x:Int):(e.vals al gr).setIfInBounds 15 (.int .i64 x)=({ e with d13:=x }:En).vals al gr:=rfl
theorem zqp(e:En)(al gr:Value)(x:Bool):(e.vals al gr).setIfInBounds 16 (.bool x)=({ e with uq:=x }:En).vals al gr:=rfl
theorem zqq(e:En)(al gr:Value)(x:Int):(e.vals al gr).setIfInBounds 17 (.int .i64 x)=({ e with cls:=x }:En).vals al gr:=rfl
theorem zqr(e:En)(al gr:Value)(x:ByteArray):(e.vals al gr).setIfInBounds 18 (.string x)=({ e with vol:=x }:En).vals al gr:=rfl
theorem zqs(e:En)(al gr:Value)(x:ByteArray):(e.vals al gr).setIfInBounds 19 (.string x)=({ e with own:=x }:En).vals al gr:=rfl
theorem zqt(e:En)(al gr:Value)(x:Int):(e.vals al gr).setIfInBounds 20 (.int .i64 x)=({ e with cr:=x }:En).vals al gr:=rfl
theorem zqu(e:En)(al gr:Value)(x:Int):(e.vals al gr).setIfInBounds 21 (.int .i64 x)=({ e with ex:=x }:En).vals al gr:=rfl
theorem zqv(e:En)(al gr:Value)(x:Bool):(e.vals al gr).setIfInBounds 22 (.bool x)=({ e with ar:=x }:En).vals al gr:=rfl
theorem zuP(e:En)(al gr v:Value):(e.vals al gr).setIfInBounds 23 v=e.vals v gr:=rfl
theorem zqw(e:En)(al gr:Value)(x:Int):(e.vals al gr).setIfInBounds 24 (.int .i64 x)=({ e with used:=x }:En).vals al gr:=rfl
theorem zuQ(e:En)(al gr:Value)(x:Int):(e.vals al gr).setIfInBounds 25 (.int .i64 x)=({ e with lim:=x }:En).vals al gr:=rfl
theorem zuR(e:En)(al gr:Value)(x:Int):(e.vals al gr).setIfInBounds 26 (.int .i64 x)=({ e with last:=x }:En).vals al gr:=rfl
theorem zuS(e:En)(al gr:Value)(x:Bool):(e.vals al gr).setIfInBounds 27 (.bool x)=({ e with em:=x }:En).vals al gr:=rfl
theorem zqx(e:En)(al gr:Value)(x:ByteArray):(e.vals al gr).setIfInBounds 28 (.string x)=({ e with owner:=x }:En).vals al gr:=rfl
theorem zuT(e:En)(al gr:Value)(x:ByteArray):(e.vals al gr).setIfInBounds 29 (.string x)=({ e with target:=x }:En).vals al gr:=rfl
theorem zuU(e:En)(al gr:Value)(x:Int):(e.vals al gr).setIfInBounds 30 (.int .i64 x)=({ e with cat:=x }:En).vals al gr:=rfl
theorem zuV(e:En)(al gr:Value)(x:Int):(e.vals al gr).setIfInBounds 31 (.int .i64 x)=({ e with lev:=x }:En).vals al gr:=rfl
theorem zqy(e:En)(al gr v:Value):(e.vals al gr).setIfInBounds 32 v=e.vals al v:=rfl
theorem zau(e:En)(al gr:Value)(h1:one al=true)(h2:one gr=true):zaM (e.vals al gr).toList=true:=by
 show zaM [Value.int .i64 e.kind,Value.string e.name,Value.int .i64 e.d0,Value.int .i64 e.d1,Value.int .i64 e.d2,Value.int .i64 e.d3,Value.int .i64 e.d4,Value.int .i64 e.d5,Value.int .i64 e.d6,Value.int .i64 e.d7,Value.int .i64 e.d8,Value.int .i64 e.d9,Value.int .i64 e.d10,Value.int .i64 e.d11,Value.int .i64 e.d12,Value.int .i64 e.d13,Value.bool e.uq,Value.int .i64 e.cls,Value.string e.vol,Value.string e.own,Value.int .i64 e.cr,Value.int .i64 e.ex,Value.bool e.ar,al,Value.int .i64 e.used,Value.int .i64 e.lim,Value.int .i64 e.last,Value.bool e.em,Value.string e.owner,Value.string e.target,Value.int .i64 e.cat,Value.int .i64 e.lev,gr]=true
 simp [zaf,zaj,zaA,zak,zax,h1,h2]
def En.dat(e:En):Array Value:=#[Value.int .i64 e.d0,Value.int .i64 e.d1,Value.int .i64 e.d2,Value.int .i64 e.d3,Value.int .i64 e.d4,Value.int .i64 e.d5,Value.int .i64 e.d6,Value.int .i64 e.d7,Value.int .i64 e.d8,Value.int .i64 e.d9,Value.int .i64 e.d10,Value.int .i64 e.d11,Value.int .i64 e.d12,Value.int .i64 e.d13,Value.bool e.uq,Value.int .i64 e.cls,Value.string e.vol,Value.string e.own,Value.int .i64 e.cr,Value.int .i64 e.ex,Value.bool e.ar]
theorem zb1(e:En):e.dat.size=21:=rfl
theorem zvp(e:En):e.dat[0]?=some (Value.int .i64 e.d0):=rfl
theorem zvq(e:En):e.dat[1]?=some (Value.int .i64 e.d1):=rfl
theorem zvr(e:En):e.dat[2]?=some (Value.int .i64 e.d2):=rfl
theorem zvs(e:En):e.dat[3]?=some (Value.int .i64 e.d3):=rfl
theorem zvt(e:En):e.dat[4]?=some (Value.int .i64 e.d4):=rfl
theorem zvu(e:En):e.dat[5]?=some (Value.int .i64 e.d5):=rfl
theorem zvv(e:En):e.dat[6]?=some (Value.int .i64 e.d6):=rfl
theorem zvw(e:En):e.dat[7]?=some (Value.int .i64 e.d7):=rfl
theorem zvx(e:En):e.dat[8]?=some (Value.int .i64 e.d8):=rfl
theorem zvy(e:En):e.dat[9]?=some (Value.int .i64 e.d9):=rfl
theorem ztJ(e:En):e.dat[10]?=some (Value.int .i64 e.d10):=rfl
theorem ztK(e:En):e.dat[11]?=some (Value.int .i64 e.d11):=rfl
theorem ztL(e:En):e.dat[12]?=some (Value.int .i64 e.d12):=rfl
theorem ztM(e:En):e.dat[13]?=some (Value.int .i64 e.d13):=rfl
theorem ztN(e:En):e.dat[15]?=some (Value.int .i64 e.cls):=rfl
theorem zpL(e:En):e.dat[16]?=some (Value.string e.vol):=rfl
theorem zlx(e:En):e.dat[17]?=some (Value.string e.own):=rfl
theorem zjv(e:En):e.dat[18]?=some (Value.int .i64 e.cr):=rfl
theorem zjw(e:En):e.dat[19]?=some (Value.int .i64 e.ex):=rfl
theorem zik(e:En)(al gr:Value)(i:Nat)(h:i<21):(e.vals al gr)[2+i]?=e.dat[i]?:=by
 have:∀ j:Fin 21,(e.vals al gr)[2+j.val]?=e.dat[j.val]?:=by
  intro j;match j with
  | ⟨0,_⟩=>rfl
  | ⟨1,_⟩=>rfl
  | ⟨2,_⟩=>rfl
  | ⟨3,_⟩=>rfl
  | ⟨4,_⟩=>rfl
  | ⟨5,_⟩=>rfl
  | ⟨6,_⟩=>rfl
  | ⟨7,_⟩=>rfl
  | ⟨8,_⟩=>rfl
  | ⟨9,_⟩=>rfl
  | ⟨10,_⟩=>rfl
  | ⟨11,_⟩=>rfl
  | ⟨12,_⟩=>rfl
  | ⟨13,_⟩=>rfl
  | ⟨14,_⟩=>rfl
  | ⟨15,_⟩=>rfl
  | ⟨16,_⟩=>rfl
  | ⟨17,_⟩=>rfl
  | ⟨18,_⟩=>rfl
  | ⟨19,_⟩=>rfl
  | ⟨20,_⟩=>rfl
  | ⟨n+21,h⟩=>exact absurd h (by omega)
 exact this ⟨i,h⟩
theorem zbU(e:En)(al gr:Value):(e.vals al gr).extract 2 23=e.dat:=by
 apply Array.ext_getElem?
 intro i;rw[Array.getElem?_extract];by_cases h:i<21
 · rw[if_pos (by rw[zaa];omega),zik e al gr i h]
 · rw[if_neg (by rw[zaa];omega),Array.getElem?_eq_none (by rw[zb1];omega)]
def ziD(e f:En):Bool:=(e.d0==f.d0)&&(e.d1==f.d1)&&(e.d2==f.d2)&&(e.d3==f.d3)&&(e.d4==f.d4)&&(e.d5==f.d5)&&(e.d6==f.d6)&&(e.d7==f.d7)&&(e.d8==f.d8)&&(e.d9==f.d9)&&(e.d10==f.d10)&&(e.d11==f.d11)&&(e.d12==f.d12)&&(e.d13==f.d13)&&(e.uq==f.uq)&&(e.cls==f.cls)&&(e.vol.toList==f.vol.toList)&&(e.own.toList==f.own.toList)&&(e.cr==f.cr)&&(e.ex==f.ex)&&(e.ar==f.ar)
attribute [irreducible] En.vals En.dat
end
section
open Go.RowKit
theorem zaV(ev:Operand->Value)(w:World)(dst x t pos af gd)(h1:zbA (ev x)=true)(h2:(row w (za0 (ev x))).size=33) :
  (execOp ev ⟨dst,.load 40 x,t,pos,af,gd⟩).run Tryz.prog w=.ok (.value (.agg (row w (za0 (ev x))))) w :=
 zb2 ev w _ 32 _ Tryz.underlying40 rfl (by kernel_rfl) dst x t pos af gd h1 h2
theorem zaW(ev:Operand->Value)(w:World)(zs:Array Value)(t:TypeId)(dst x y t' pos af gd)(h0:zs.size=33)(h1:zbA (ev x)=true)(h2:za0 (ev x)=w.heap.size)(h3:zbC (ev y)=true)(h4:(zaK (ev y)).size=33)(h5:zaM (zaK (ev y)).toList=true) :
  (execOp ev ⟨dst,.store 40 x y,t',pos,af,gd⟩).run Tryz.prog (w.alloc (.cells zs t))=.ok .skip (w.alloc (.cells (zaK (ev y)) t)) :=
 zcb ev w _ 32 (by kernel_rfl) zs t dst x y t' pos af gd h0 h1 h2 h3 h4 h5
end
def zkR(e:En):En:={ En.zero with kind:=e.kind,name:=e.name,target:=e.target }
def zkS(e:En):En:={ En.zero with kind:=e.kind,name:=e.name,cat:=e.cat }
def ziY(e:En):En:={ En.zero with kind:=e.kind,name:=e.name,lev:=e.lev,owner:=e.owner }
def zkT(e:En):En:={ En.zero with kind:=e.kind,name:=e.name,d0:=e.d0,d1:=e.d1,d2:=e.d2,d3:=e.d3,d4:=e.d4,d5:=e.d5,d6:=e.d6,d7:=e.d7,d8:=e.d8,d9:=e.d9,d10:=e.d10,d11:=e.d11,d12:=e.d12,d13:=e.d13,uq:=e.uq,cls:=e.cls,vol:=e.vol,own:=e.own,cr:=e.cr,ex:=e.ex,ar:=e.ar,used:=e.used }
end Go.Proofs.YtefcmdmfgdcpmaaGreatDoor
